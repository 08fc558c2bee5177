/- FixedAdds: with enough rounds the check says true at every length and all weights: the shares add up, a greater weight gets no less, a weight of 0 nothing. No condition. -/
import Derived.Test.YtoblfbpigajjcaaPAx10
import Derived.Test.YtoblfbpigajjcaaAdds
import Derived.Test.YtoblfbpigajjcaaShown
namespace Go.Proofs.Ytoblfbpigajjcaa.Pure
open Go.RowKit Go.Proofs.Ytoblfbpigajjcaa.PA Go.Proofs.YtoblfbpigajjcaaW.PrintWords Go.Proofs.YtoblfbpigajjcaaW.PrintLast Go.Proofs.Ytoblfbpigajjcaa.Base
theorem Ev.both {α : Type} {c : Prop} [Decidable c] {f g : Nat → Option α} {r : α} (h1 : c → Ev f r) (h2 : ¬ c → Ev g r) : Ev (fun k => if c then f k else g k) r := by
  by_cases h : c
  · exact Base.Ev.pos h (h1 h)
  · exact Base.Ev.neg h (h2 h)
/-- What the check asks of shares o of weights m. -/
structure Good (m o : List Int) (total : Int) (some_ : Bool) : Prop where
  len : o.length = m.length
  n : m.length ≤ 10000
  t0 : 0 ≤ total
  t1 : total ≤ 1152921504606846975
  sum : o.sum = total
  pos : ∀ i : Nat, i < m.length → 0 ≤ rd o i
  zero : some_ = true → ∀ i : Nat, i < m.length → rd m i = 0 → rd o i = 0
  more : ∀ i j : Nat, i < m.length → j < m.length → rd m j < rd m i → rd o j ≤ rd o i
theorem drop_sum (o : List Int) (i : Nat) (h : i < o.length) : (o.drop i).sum = rd o i + (o.drop (i + 1)).sum := by
  rw [List.drop_eq_getElem_cons h, List.sum_cons, rd_nat, List.getElem?_eq_getElem h]
  rfl
theorem adds_l1 (m o : List Int) (total : Int) (s : Bool) (g : Good m o total s) :
    ∀ (d i : Nat), i + d = m.length → (o.drop i).sum ≤ total → Ev (fun k => purflinglaw01_FixedAdds.l1 k m true o s (o.drop i).sum (i : Int)) true
  | 0, i, hi, _ => by
    refine Ev.step (f := fun k => _) (fun k => by rw [purflinglaw01_FixedAdds.l1]) ?_
    refine Base.Ev.neg (by omega) (Base.Ev.pos rfl (Base.Ev.val ?_))
    rw [List.drop_of_length_le (by rw [g.len]; omega)]
    rfl
  | d + 1, i, hi, hsum => by
    have hn := g.n
    have ht := g.t1
    have hio : i < o.length := by rw [g.len]; omega
    have hds := drop_sum o i hio
    have hd0 : 0 ≤ (o.drop (i + 1)).sum := sum_nonneg _ (fun x hx => by
      obtain ⟨u, hu, e⟩ := List.mem_iff_getElem.1 hx
      rw [List.getElem_drop] at e
      have hlt : i + 1 + u < o.length := by rw [List.length_drop] at hu; omega
      have := g.pos (i + 1 + u) (by rw [← g.len]; exact hlt)
      rw [rd_nat, List.getElem?_eq_getElem hlt, Option.getD_some, e] at this
      exact this)
    have ha := g.pos i (by omega)
    have ih := adds_l1 m o total s g d (i + 1) (by omega) (by omega)
    have e1 : wrap64 ((i : Int) + 1) = ((i + 1 : Nat) : Int) := by rw [wrap_id (by omega) (by omega)]; rfl
    have e2 : wrap64 ((o.drop i).sum - rd o i) = (o.drop (i + 1)).sum := by rw [hds, wrap_id (by omega) (by omega)]; omega
    have hz := fun h => g.zero h i (by omega)
    have hlen : (o.length : Int) = m.length := by rw [g.len]
    have hil : (i : Int) < (m.length : Int) := by omega
    have hpred : (i : Int) > 0 → 0 ≤ wrap64 ((i : Int) - 1) ∧ wrap64 ((i : Int) - 1) < (m.length : Int) ∧ (rd m i > rd m (wrap64 ((i : Int) - 1)) → rd o (wrap64 ((i : Int) - 1)) ≤ rd o i) ∧ (rd m i < rd m (wrap64 ((i : Int) - 1)) → rd o i ≤ rd o (wrap64 ((i : Int) - 1))) := by
      intro h
      have e3 : wrap64 ((i : Int) - 1) = ((i - 1 : Nat) : Int) := by rw [wrap_id (by omega) (by omega)]; omega
      rw [e3]
      exact ⟨by omega, by omega, fun h2 => g.more i (i - 1) (by omega) (by omega) h2, fun h2 => g.more (i - 1) i (by omega) (by omega) h2⟩
    refine Ev.step (f := fun k => _) (fun k => by rw [purflinglaw01_FixedAdds.l1]) ?_
    rw [e1, e2]
    clear e1 e2 hds hd0 hsum
    generalize rd o (i : Int) = a at *
    generalize rd m (i : Int) = x at *
    generalize rd o (wrap64 ((i : Int) - 1)) = b at *
    generalize rd m (wrap64 ((i : Int) - 1)) = y at *
    generalize wrap64 ((i : Int) - 1) = p at *
    have done : ∀ q : Prop, q → (¬ q → False) := fun q h h2 => h2 h
    repeat' (refine Ev.both (fun _ => ?_) (fun _ => ?_))
    all_goals first
      | exact ih
      | (exfalso
         have hpp : (i : Int) > 0 := by omega
         obtain ⟨h1, h2, h3, h4⟩ := hpred hpp
         first
           | omega
           | (have := h3 (by omega); omega)
           | (have := h4 (by omega); omega))
      | (exfalso; omega)
      | (exfalso
         have := hz (by assumption) (by assumption)
         omega)
theorem adds_l0 (total : Int) (m o : List Int) (hn : m.length ≤ 10000) (R : Bool)
    (hend : ∀ s : Bool, (s = true → ∃ x ∈ m, 0 < x) → Ev (fun k => purflinglaw01_FixedAdds.l1 k m true o s total 0) R) :
    ∀ (d i : Nat) (s : Bool), i + d = m.length → (s = true → ∃ x ∈ m, 0 < x) → Ev (fun k => purflinglaw01_FixedAdds.l0 k total m true o s (i : Int)) R
  | 0, i, s, hi, hs => by
    refine Ev.step (f := fun k => _) (fun k => by rw [purflinglaw01_FixedAdds.l0]) ?_
    exact Base.Ev.neg (by omega) (hend s hs)
  | d + 1, i, s, hi, hs => by
    have hin : i < m.length := by omega
    have e1 : wrap64 ((i : Int) + 1) = ((i + 1 : Nat) : Int) := by rw [wrap_id (by omega) (by omega)]; rfl
    have hrd : rd m (i : Int) = m[i] := by rw [rd_nat, List.getElem?_eq_getElem hin]; rfl
    refine Ev.step (f := fun k => _) (fun k => by rw [purflinglaw01_FixedAdds.l0]) ?_
    rw [e1, hrd]
    refine Base.Ev.pos (by omega) ?_
    by_cases c : s = true
    · exact Base.Ev.pos c (adds_l0 total m o hn R hend d (i + 1) true (by omega) (fun _ => hs c))
    · exact Base.Ev.neg c (Base.Ev.pos (by omega) (adds_l0 total m o hn R hend d (i + 1) _ (by omega) (fun h => ⟨m[i], List.getElem_mem hin, by simpa using h⟩)))
theorem FixedAdds : purflinglaw01_FixedAdds.Pure := by
  intro a0 l _ _ _ _
  suffices h : Ev (fun k => purflinglaw01_FixedAdds.f k a0 l) true from h.rounds
  have hlen : (l.take 200).length ≤ 10000 := by rw [List.length_take]; omega
  unfold purflinglaw01_FixedAdds.f
  refine Ev.bind shown_ev (Ev.bind (a := l.take 200) ⟨0, fun _ _ => cut_eq l⟩ ?_)
  generalize l.take 200 = m at *
  have no : ∀ (_ : fixed_Share.f a0 m = some ([], 10)), Ev (fun n => (fixed_Share.f a0 m).bind fun bt211 => (if bt211.2 = 0 then (if (bt211.1.length : Int) = (m.length : Int) then (purflinglaw01_FixedAdds.l0 n a0 m true bt211.1 false 0) else (some false)) else (if true = true then (if (bt211.1.length : Int) = 0 then (some (bt211.2 == 10)) else (some false)) else (some false)))) true := fun h =>
    Ev.bind (a := ([], 10)) ⟨0, fun _ _ => h⟩ (Base.Ev.neg (by simp) (Base.Ev.pos rfl (Base.Ev.pos rfl (Base.Ev.val rfl))))
  have yes : ∀ o, fixed_Share.f a0 m = some (o, 0) → (∀ s : Bool, (s = true → ∃ x ∈ m, 0 < x) → Good m o a0 s) → Ev (fun n => (fixed_Share.f a0 m).bind fun bt211 => (if bt211.2 = 0 then (if (bt211.1.length : Int) = (m.length : Int) then (purflinglaw01_FixedAdds.l0 n a0 m true bt211.1 false 0) else (some false)) else (if true = true then (if (bt211.1.length : Int) = 0 then (some (bt211.2 == 10)) else (some false)) else (some false)))) true := by
    intro o h hg
    have hl := (hg false (fun h => by cases h)).len
    refine Ev.bind (a := (o, 0)) ⟨0, fun _ _ => h⟩ (Base.Ev.pos rfl (Base.Ev.pos (by simp [hl]) ?_))
    refine adds_l0 a0 m o hlen true ?_ m.length 0 false (by omega) (fun h => by cases h)
    intro s hs
    have g := hg s hs
    have := adds_l1 m o a0 s g m.length 0 (by omega) (by rw [List.drop_zero, g.sum]; exact Int.le_refl _)
    rw [List.drop_zero, g.sum] at this
    exact this
  by_cases h : mayShare a0 m.length
  · by_cases hb : m.any badW = true
    · refine no ?_
      unfold fixed_Share.f
      rw [if_pos h, if_pos hb]
    · have hgw := good_of m hb
      by_cases c : m.sum = 0
      · refine yes (evens a0 m.length) ?_ ?_
        · unfold fixed_Share.f
          rw [if_pos h, if_neg hb, if_pos c, evenOut_eq a0 _ h]
        · have hz : ∀ i : Nat, rd m i = 0 := by
            intro i
            rw [rd_nat]
            by_cases hi : i < m.length
            · have h1 := le_sum m (fun x hx => (hgw x hx).1) _ (List.getElem_mem hi)
              have h2 := hgw _ (List.getElem_mem hi)
              rw [List.getElem?_eq_getElem hi, Option.getD_some]
              omega
            · rw [List.getElem?_eq_none (by omega)]
              rfl
          intro s hs
          refine ⟨evens_length _ _, hlen, h.1, h.2.1, ?_, ?_, ?_, ?_⟩
          · have hn : (0 : Int) < m.length := h.2.2.1
            have f := ones a0 m.length h
            have e1 := f.total_sum
            have e2 : shareOut a0 (List.replicate m.length 1) = evens a0 m.length := by
              rw [← evenOut_eq a0 _ h]
              unfold evenOut shareOut
              rw [List.length_replicate]
            rw [e2] at e1
            exact e1
          · intro i hi
            rw [rd_nat]
            unfold evens
            have hd0 : 0 ≤ a0 / (m.length : Int) := Int.ediv_nonneg h.1 (by omega)
            rw [List.getElem?_map, List.getElem?_range hi, Option.map_some, Option.getD_some]
            split <;> omega
          · intro hs2
            obtain ⟨x, hx, hp⟩ := hs hs2
            have := le_sum m (fun x hx => (hgw x hx).1) x hx
            omega
          · intro i j _ _ hij
            rw [hz, hz] at hij
            omega
      · have hp := sum_nonneg m (fun x hx => (hgw x hx).1)
        have f : Facts a0 m := ⟨h, hgw, by omega⟩
        refine yes (shareOut a0 m) ?_ ?_
        · unfold fixed_Share.f
          rw [if_pos h, if_neg hb, if_neg c]
        · intro s _
          refine ⟨?_, hlen, h.1, h.2.1, f.total_sum, fun i hi => f.nonneg i hi, fun _ i hi hz => f.zero i hi (by rw [← rd_nat]; exact hz), fun i j hi hj hij => f.more i j hi hj (by rw [← rd_nat, ← rd_nat]; exact hij)⟩
          rw [f.share, bump_length]
          simp
  · refine no ?_
    unfold fixed_Share.f
    rw [if_neg h]
end Go.Proofs.Ytoblfbpigajjcaa.Pure
