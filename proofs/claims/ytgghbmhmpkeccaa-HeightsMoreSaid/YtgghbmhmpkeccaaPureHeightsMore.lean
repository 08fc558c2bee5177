/- HeightsMore: with enough rounds the check says true at all wanted heights, heights, rows: one cell more of one row changes that row alone. No condition. -/
import Derived.Test.YtgghbmhmpkeccaaPAx29
import Derived.Test.YtgghbmhmpkeccaaShown16
import Derived.Test.YtgghbmhmpkeccaaLeastOne
import Derived.Test.YtgghbmhmpkeccaaCutH
namespace Go.Proofs.Ytgghbmhmpkeccaa.Pure
open Go.RowKit Go.Proofs.Ytgghbmhmpkeccaa.PA Go.Proofs.YtgghbmhmpkeccaaW.PrintWords Go.Proofs.YtgghbmhmpkeccaaW.PrintLast Go.Proofs.YtgghbmhmpkeccaaW.PrintMore Go.Proofs.Ytgghbmhmpkeccaa.Base
theorem putH_at (o : List Int) (x : HCell) (i : Nat) (hx : x.f0.f1.toNat < o.length) : rd (putH o x) (i : Int) = if i = x.f0.f1.toNat then mx (rd o (i : Int)) x.f1 else rd o i := by
  unfold putH
  rw [rd_nat, rd_nat]
  by_cases c : i = x.f0.f1.toNat
  · rw [if_pos c, c, List.getElem?_set_self hx]
    rfl
  · rw [if_neg c, List.getElem?_set_ne (fun e => c e.symm)]
theorem more_l1 (row high : Int) (r : Nat) (hr : row = (r : Int)) (a b : List Int) (hl : a.length ≤ 60) (hb : b.length = a.length) (h : ∀ i : Nat, i < a.length → rd b (i : Int) = if i = r then mx (rd a (i : Int)) high else rd a i) : ∀ (d i : Nat), i + d = a.length → Ev (fun k => purflinglaw16_HeightsMore.l1 k row high true a b (i : Int)) true
  | 0, i, hi => by
    refine Ev.step (f := fun k => _) (fun k => by rw [purflinglaw16_HeightsMore.l1]) ?_
    exact Base.Ev.neg (by omega) (Ev.now _)
  | d + 1, i, hi => by
    have hin : i < a.length := by omega
    have e : wrap64 ((i : Int) + 1) = ((i + 1 : Nat) : Int) := by rw [wrap_id (by omega) (by omega)]; rfl
    have hi' := h i hin
    have ih := more_l1 row high r hr a b hl hb h d (i + 1) (by omega)
    refine Ev.step (f := fun k => _) (fun k => by rw [purflinglaw16_HeightsMore.l1]) ?_
    rw [e]
    refine Base.Ev.pos (by omega) ?_
    by_cases c : i = r
    · rw [if_pos c] at hi'
      exact Base.Ev.pos (by omega) (Base.Ev.pos (by omega) (Base.Ev.pos (by omega) (Base.Ev.pos hi' ih)))
    · rw [if_neg c] at hi'
      exact Base.Ev.neg (by omega) (Base.Ev.pos (by omega) (Base.Ev.pos (by omega) (Base.Ev.pos hi'.symm ih)))
theorem more_both (l0 l1 : List Int) (row high : Int) (r : Nat) (hr : row = (r : Int)) (hrl : r < l0.length) (hl0 : l0.length ≤ 60) (hl1 : l1.length ≤ 100) (hh : 0 ≤ high ∧ high ≤ 1125899906842623) (pl : List S35) (hpl : pl.length = l1.length)
    (hp : ∀ p ∈ pl, 0 ≤ p.f1 ∧ p.f1 < (l0.length : Int) ∧ p.f3 = 1) :
    (heights_Least.f l0 pl l1 0 = some ([], 160) ∧ heights_Least.f l0 (pl ++ [⟨0, row, 0, 1, 1⟩]) (l1 ++ [high]) 0 = some ([], 160)) ∨
    ∃ a b, a.length = l0.length ∧ b.length = a.length ∧ heights_Least.f l0 pl l1 0 = some (a, 0) ∧ heights_Least.f l0 (pl ++ [⟨0, row, 0, 1, 1⟩]) (l1 ++ [high]) 0 = some (b, 0) ∧ ∀ i : Nat, i < a.length → rd b (i : Int) = if i = r then mx (rd a (i : Int)) high else rd a i := by
  have ones : ∀ (ql : List S35) (hs : List Int), (∀ p ∈ ql, p.f3 = 1) → ∀ x ∈ cellsL ql hs, x.f0.f3 = 1 := fun ql hs h x hx => by
    obtain ⟨k, hk, e⟩ := List.mem_iff_getElem.1 hx
    unfold cellsL at e hk
    rw [List.getElem_zipWith] at e
    subst e
    rw [List.length_zipWith] at hk
    exact h _ (List.getElem_mem (by omega))
  have hp2 : ∀ p ∈ pl ++ [(⟨0, row, 0, 1, 1⟩ : S35)], 0 ≤ p.f1 ∧ p.f1 < (l0.length : Int) ∧ p.f3 = 1 := fun p hp' => by
    rcases List.mem_append.1 hp' with hp' | hp'
    · exact hp p hp'
    · rw [List.mem_singleton.1 hp']
      exact ⟨by show 0 ≤ row; omega, by show row < _; omega, rfl⟩
  by_cases h : LeastIs l0 pl l1 0
  · right
    have h2 : LeastIs l0 (pl ++ [⟨0, row, 0, 1, 1⟩]) (l1 ++ [high]) 0 := {
      most := h.most
      wants := h.wants
      len := by rw [List.length_append, List.length_append, hpl]; rfl
      highs := fun x hx => by
        rcases List.mem_append.1 hx with hx | hx
        · exact h.highs x hx
        · rw [List.mem_singleton.1 hx]
          exact hh
      gap := h.gap
      places := fun p hp' => by
        obtain ⟨q1, q2, q3⟩ := hp2 p hp'
        omega
      few := by rw [List.length_append, hpl, List.length_singleton]; omega }
    have e1 := least_ones (by omega) h (by omega) (ones pl l1 (fun p hp' => (hp p hp').2.2))
    have e2 := least_ones (by omega) h2 (by omega) (ones _ _ (fun p hp' => (hp2 p hp').2.2))
    have hz : cellsL (pl ++ [(⟨0, row, 0, 1, 1⟩ : S35)]) (l1 ++ [high]) = cellsL pl l1 ++ [⟨⟨0, row, 0, 1, 1⟩, high⟩] := by
      unfold cellsL
      rw [List.zipWith_append hpl]
      rfl
    rw [hz, List.foldl_append, List.foldl_cons, List.foldl_nil] at e2
    have hal : ((cellsL pl l1).foldl putH (l0.map (fun n => mx n 0))).length = l0.length := by rw [foldH_length, List.length_map]
    refine ⟨_, _, hal, putH_length _ _, e1, e2, fun i hi => ?_⟩
    have er : row.toNat = r := by omega
    rw [putH_at _ _ _ (by show row.toNat < _; omega)]
    show (if i = row.toNat then _ else _) = _
    rw [er]
  · left
    have h2 : ¬ LeastIs l0 (pl ++ [⟨0, row, 0, 1, 1⟩]) (l1 ++ [high]) 0 := fun h2 => h {
      most := h2.most
      wants := h2.wants
      len := hpl
      highs := fun x hx => h2.highs x (List.mem_append_left _ hx)
      gap := h2.gap
      places := fun p hp' => h2.places p (List.mem_append_left _ hp')
      few := by omega }
    exact ⟨least_wrong (by omega) (fun e => h ((leastOk_iff _ _ _ _).1 e)), least_wrong (by omega) (fun e => h2 ((leastOk_iff _ _ _ _).1 e))⟩
theorem more_l0 (l0 l1 : List Int) (row high : Int) (r : Nat) (hr : row = (r : Int)) (hrl : r < l0.length) (hl0 : l0.length ≤ 60) (hl1 : l1.length ≤ 100) (hh : 0 ≤ high ∧ high ≤ 1125899906842623) : ∀ (d i : Nat) (pl : List S35), i + d = l1.length → pl.length = i → (∀ p ∈ pl, 0 ≤ p.f1 ∧ p.f1 < (l0.length : Int) ∧ p.f3 = 1) →
    Ev (fun k => purflinglaw16_HeightsMore.l0 k l0 l1 row high true pl (i : Int)) true
  | 0, i, pl, hi, h1, hp => by
    refine Ev.step (f := fun k => _) (fun k => by rw [purflinglaw16_HeightsMore.l0]) ?_
    refine Base.Ev.neg (by omega) ?_
    have go : ∀ (a b : List Int) (e f : Int), heights_Least.f l0 pl l1 0 = some (a, e) → heights_Least.f l0 (pl ++ [⟨0, row, 0, 1, 1⟩]) (l1 ++ [high]) 0 = some (b, f) → Ev (fun k => purflinglaw16_HeightsMore.j2 k row high true a e b f) true →
        Ev (fun k => (heights_Least.f l0 pl l1 0).bind fun bt1 => ((some (([(⟨0, row, 0, 1, 1⟩ : S35)] : List (S35)) : List (S35))).bind fun y1 => (if pl.length + y1.length < 3518437208883 then (if 0 ≤ 35184372088832 then ((some (List.replicate 0 0 : List Int)).bind fun y2 => (if y2.length + l1.length < 17592186044416 then ((some (y2 ++ l1 : List Int)).bind fun y3 => ((some (([high] : List Int) : List Int)).bind fun y4 => (if y3.length + y4.length < 17592186044416 then ((heights_Least.f l0 (pl ++ y1) (y3 ++ y4) 0).bind fun bt2 => (purflinglaw16_HeightsMore.j2 k row high true bt1.1 bt1.2 bt2.1 bt2.2)) else (none)))) else (none))) else (none)) else (none)))) true := by
      intro a b e f ha hb hj
      rw [ha]
      refine Ev.bind (Ev.now _) (Ev.bind (Ev.now _) (Base.Ev.pos (by simp only [List.length_singleton]; omega) (Base.Ev.pos (by omega) (Ev.bind (Ev.now _) (Base.Ev.pos (by simp only [List.length_replicate]; omega) (Ev.bind (Ev.now _) (Ev.bind (Ev.now _) (Base.Ev.pos (by simp only [List.length_append, List.length_replicate, List.length_singleton]; omega) ?_))))))))
      have hb' : heights_Least.f l0 (pl ++ [⟨0, row, 0, 1, 1⟩]) (List.replicate 0 0 ++ l1 ++ [high]) 0 = some (b, f) := hb
      rw [hb']
      exact Ev.bind (Ev.now _) hj
    rcases more_both l0 l1 row high r hr hrl hl0 hl1 hh pl (by omega) hp with ⟨ha, hb⟩ | ⟨a, b, hal, hbl, ha, hb, hab⟩
    · refine go _ _ _ _ ha hb ?_
      refine Ev.step (f := fun k => _) (fun k => by rw [purflinglaw16_HeightsMore.j2]) ?_
      exact Base.Ev.neg (by decide) (Base.Ev.pos rfl (Base.Ev.val rfl))
    · refine go _ _ _ _ ha hb ?_
      refine Ev.step (f := fun k => _) (fun k => by rw [purflinglaw16_HeightsMore.j2]) ?_
      refine Base.Ev.pos rfl (Base.Ev.pos rfl ?_)
      have en : ((a.length : Int) != (b.length : Int)) = false := by simp [hbl]
      rw [en]
      refine Ev.step (f := fun k => _) (fun k => by rw [purflinglaw16_HeightsMore.j3]) ?_
      exact Base.Ev.neg (by decide) (more_l1 row high r hr a b (by omega) hbl hab a.length 0 (by omega))
  | d + 1, i, pl, hi, h1, hp => by
    have hin : i < l1.length := by omega
    have e : wrap64 ((i : Int) + 1) = ((i + 1 : Nat) : Int) := by rw [wrap_id (by omega) (by omega)]; rfl
    have t0 : 0 ≤ Int.tmod (i : Int) (l0.length : Int) := Int.tmod_nonneg _ (by omega)
    have t1 : Int.tmod (i : Int) (l0.length : Int) < (l0.length : Int) := Int.tmod_lt_of_pos (i : Int) (b := (l0.length : Int)) (by omega)
    have ih := more_l0 l0 l1 row high r hr hrl hl0 hl1 hh d (i + 1) (pl ++ [(⟨0, Int.tmod (i : Int) (l0.length : Int), 0, 1, 1⟩ : S35)]) (by omega) (by rw [List.length_append, List.length_singleton]; omega)
      (fun p hp' => by
        rcases List.mem_append.1 hp' with hp' | hp'
        · exact hp p hp'
        · rw [List.mem_singleton.1 hp']
          exact ⟨t0, t1, rfl⟩)
    refine Ev.step (f := fun k => _) (fun k => by rw [purflinglaw16_HeightsMore.l0]) ?_
    refine Base.Ev.pos (by omega) (Base.Ev.neg (by omega) (Ev.bind (Ev.now _) (Base.Ev.pos (by simp only [List.length_singleton]; omega) ?_)))
    rw [e]
    exact ih
theorem HeightsMore : purflinglaw16_HeightsMore.Pure := by
  intro l0 l1 a2 a3 _ _ _ _ _ _ _ _
  suffices h : Ev (fun k => purflinglaw16_HeightsMore.f k l0 l1 a2 a3) true from h.rounds
  obtain ⟨a1, a2', a3'⟩ := mn_cut l0 60 60 rfl
  obtain ⟨b1, b2, b3⟩ := mn_cut l1 100 100 rfl
  unfold purflinglaw16_HeightsMore.f
  rw [a3', b3]
  have hl0 := take_len l0 60
  have hl1 := take_len l1 100
  refine Ev.bind shown16_ev (Base.Ev.pos a1 (Base.Ev.pos a2' (Base.Ev.pos b1 (Base.Ev.pos b2 ?_))))
  generalize l0.take 60 = l0 at *
  generalize l1.take 100 = l1 at *
  have bad : Ev (fun k => purflinglaw16_HeightsMore.j0 k l0 l1 a2 a3 true true) true := by
    refine Ev.step (f := fun k => _) (fun k => by rw [purflinglaw16_HeightsMore.j0]) ?_
    exact Base.Ev.pos rfl (Ev.now _)
  by_cases c1 : a2 < 0
  · exact Base.Ev.pos c1 bad
  · refine Base.Ev.neg c1 ?_
    by_cases c2 : a2 ≥ (l0.length : Int)
    · exact Base.Ev.pos c2 bad
    · refine Base.Ev.neg c2 ?_
      by_cases c3 : a3 < 0
      · exact Base.Ev.pos c3 bad
      · refine Base.Ev.neg c3 ?_
        by_cases c4 : a3 > 1125899906842623
        · rw [decide_eq_true c4]
          exact bad
        · rw [decide_eq_false c4]
          refine Ev.step (f := fun k => _) (fun k => by rw [purflinglaw16_HeightsMore.j0]) ?_
          exact Base.Ev.neg (by decide) (more_l0 l0 l1 a2 a3 a2.toNat (by omega) (by omega) hl0 hl1 ⟨by omega, by omega⟩ l1.length 0 [] (by omega) rfl (fun p hp => by cases hp))
end Go.Proofs.Ytgghbmhmpkeccaa.Pure
