/- What spread.Over computes: an error, or each length and its share of what is left. Condition: at most 8000 lengths. -/
import Derived.Test.YtpoboffdlnnbmaaPAx9
import Derived.Test.YtpoboffdlnnbmaaPAx7
import Derived.Test.YtpoboffdlnnbmaaFair
import Derived.Test.YtpoboffdlnnbmaaSat
namespace Go.Proofs.Ytpoboffdlnnbmaa.Base
open Go.RowKit Go.Proofs.Ytpoboffdlnnbmaa.PA Go.Proofs.YtpoboffdlnnbmaaW.PrintWords Go.Proofs.YtpoboffdlnnbmaaW.PrintLast Go.Proofs.YtpoboffdlnnbmaaW.PrintMore
theorem sub_eq (a b : Int) (ha : i64 a) (hb : i64 b) : fixed_Sub.f a b = some (sat (a - b)) := by
  unfold fixed_Sub.f fixed_edge.f
  unfold i64 at *
  by_cases c1 : a - b < -9223372036854775808
  · have e : wrap64 (a - b) = a - b + 18446744073709551616 := by unfold wrap64; omega
    rw [e, decide_eq_false (by omega : ¬ a - b + 18446744073709551616 < a), decide_eq_true (by omega : b > 0), if_pos (by decide : (false != true) = true), if_neg (by omega), if_pos rfl]
    unfold sat
    rw [if_pos c1]
    rfl
  · by_cases c2 : a - b > 9223372036854775807
    · have e : wrap64 (a - b) = a - b - 18446744073709551616 := by unfold wrap64; omega
      rw [e, decide_eq_true (by omega : a - b - 18446744073709551616 < a), decide_eq_false (by omega : ¬ b > 0), if_pos (by decide : (true != false) = true), if_neg (by omega), if_neg (by simp)]
      unfold sat
      rw [if_neg c1, if_pos c2]
      rfl
    · have e : wrap64 (a - b) = a - b := by unfold wrap64; omega
      have ed : decide (a - b < a) = decide (b > 0) := by rw [decide_eq_decide]; omega
      rw [e, ed, if_neg (by simp)]
      unfold sat
      rw [if_neg c1, if_neg c2]
def wide (n : Int) : Prop := 0 ≤ n ∧ n ≤ 1125899906842623
theorem wideBad_iff (n : Int) : wideBad n = false ↔ wide n := by
  unfold wideBad wide
  rw [Bool.or_eq_false_iff, decide_eq_false_iff_not, decide_eq_false_iff_not]
  omega
theorem areWide_yes (l : List Int) (h : ∀ x ∈ l, wide x) : spread_areWide.f l = some true := by
  unfold spread_areWide.f
  have : l.any wideBad = false := by
    rw [List.any_eq_false]
    intro x hx
    rw [(wideBad_iff x).2 (h x hx)]
    simp
  rw [this]
  rfl
theorem areWide_no (l : List Int) (h : ¬ ∀ x ∈ l, wide x) : spread_areWide.f l = some false := by
  unfold spread_areWide.f
  have : l.any wideBad = true := by
    cases e : l.any wideBad with
    | true => rfl
    | false =>
      rw [List.any_eq_false] at e
      exact absurd (fun x hx => (wideBad_iff x).1 (by simpa using e x hx)) h
  rw [this]
  rfl
def mixed (o l : List Int) (i : Nat) : List Int := o.mapIdx (fun j x => if j < i then x + rd l j else x)
def added (o l : List Int) : List Int := o.mapIdx (fun j x => x + rd l j)
theorem mixed_zero (o l : List Int) : mixed o l 0 = o := by
  apply List.ext_getElem <;> simp [mixed]
theorem mixed_all (o l : List Int) : mixed o l o.length = added o l := by
  apply List.ext_getElem
  · simp [mixed, added]
  · intro i h1 h2
    have hi : i < o.length := by simpa [mixed] using h1
    simp [mixed, added, hi]
theorem mixed_length (o l : List Int) (i : Nat) : (mixed o l i).length = o.length := by simp [mixed]
theorem added_length (o l : List Int) : (added o l).length = o.length := by simp [added]
theorem added_at (o l : List Int) (i : Nat) (h : i < o.length) : rd (added o l) (i : Int) = rd o i + rd l i := by
  simp [rd, added, h]
theorem mixed_at (o l : List Int) (i : Nat) (h : i < o.length) : rd (mixed o l i) (i : Int) = rd o i := by
  simp [rd, mixed, h]
theorem mixed_set (o l : List Int) (i : Nat) (h : i < o.length) : (mixed o l i).set i (rd o i + rd l i) = mixed o l (i + 1) := by
  apply List.ext_getElem
  · simp [mixed]
  · intro j h1 h2
    have hj : j < o.length := by simpa [mixed] using h2
    rw [List.getElem_set]
    by_cases e : i = j
    · subst e
      simp [mixed, rd, h]
    · by_cases c : j < i
      · have : j < i + 1 := by omega
        simp [mixed, e, c, this]
      · have : ¬ j < i + 1 := by omega
        simp [mixed, e, c, this]
theorem over_l (l o : List Int) (hlen : o.length = l.length) (hl : l.length ≤ 10000) (hb : ∀ i : Nat, i < o.length → 0 ≤ rd o i + rd l i ∧ rd o i + rd l i ≤ 9223372036854775807) :
    ∀ (d i : Nat), i + d = o.length → Ev (fun k => spread_Over.l0 k l (mixed o l i) (o.length : Int) (i : Int)) (added o l, 0)
  | 0, i, hi => by
    refine Ev.step (f := fun k => _) (fun k => by rw [spread_Over.l0]) ?_
    refine Ev.neg (by omega) (Ev.val ?_)
    obtain rfl : i = o.length := by omega
    rw [mixed_all]
  | d + 1, i, hi => by
    have hin : i < o.length := by omega
    have c1 : (i : Int) < (o.length : Int) := by omega
    have c2 : (0 : Int) ≤ (i : Int) := by omega
    have c3 : (i : Int) < ((mixed o l i).length : Int) := by rw [mixed_length]; omega
    have c4 : (i : Int) < (l.length : Int) := by omega
    have e : wrap64 ((i : Int) + 1) = ((i + 1 : Nat) : Int) := by rw [wrap_id (by omega) (by omega)]; rfl
    obtain ⟨b0, b1⟩ := hb i hin
    have ew : wrap64 (rd o (i : Int) + rd l i) = rd o i + rd l i := wrap_id (by omega) b1
    have ih := over_l l o hlen hl hb d (i + 1) (by omega)
    refine Ev.step (f := fun k => _) (fun k => by rw [spread_Over.l0]) ?_
    refine Ev.pos c1 (Ev.pos c2 (Ev.pos c3 (Ev.pos c4 ?_)))
    rw [mixed_at o l i hin, ew, e, Int.toNat_natCast, mixed_set o l i hin]
    exact ih
theorem rd_mem (l : List Int) (i : Nat) (h : i < l.length) : rd l i ∈ l := by
  rw [rd_nat, List.getElem?_eq_getElem h]
  exact List.getElem_mem h
/-- What is left to spread. -/
def spareOf (n : Int) (l : List Int) : Int := mx (n - l.sum) 0
structure OverIs (n : Int) (l w o : List Int) : Prop where
  nW : wide n
  lW : ∀ x ∈ l, wide x
  wW : ∀ x ∈ w, wide x
  len : l.length = w.length
  share : fixed_Share.f (spareOf n l) w = some (o, 0)
  fair : Fair (spareOf n l) w o
theorem over_cases (n : Int) (l w : List Int) (hl : l.length ≤ 8000) :
    Ev (fun k => spread_Over.f k n l w) ([], 130) ∨ ∃ o, OverIs n l w o ∧ Ev (fun k => spread_Over.f k n l w) (added o l, 0) := by
  have bad : Ev (fun k => spread_Over.j0 k n l w true) ([], 130) := by
    refine Ev.step (f := fun k => _) (fun k => by rw [spread_Over.j0]) ?_
    exact Ev.pos rfl (Ev.now _)
  unfold spread_Over.f
  by_cases h1 : ∀ x ∈ [n], wide x
  · by_cases h2 : ∀ x ∈ l, wide x
    · by_cases h3 : ∀ x ∈ w, wide x
      · by_cases h4 : l.length = w.length
        · have hn := h1 n (by simp)
          have hs0 := sum_nonneg l (fun x hx => (h2 x hx).1)
          have hs1 := sum_le 1125899906842623 l (fun x hx => (h2 x hx).2)
          unfold wide at hn
          have hsum : l.sum ≤ 9223372036854775807 := by omega
          have hadd := add_of l (fun x hx => (h2 x hx).1) hsum
          have hsub : fixed_Sub.f n l.sum = some (n - l.sum) := by
            rw [sub_eq n l.sum (by unfold i64; omega) (by unfold i64; omega), sat_id (by unfold i64; omega)]
          have hgo : ∀ R, Ev (fun k => (fixed_Share.f (mx (n - l.sum) 0) w).bind fun bt392 => (if bt392.2 = 0 then (spread_Over.l0 k l bt392.1 (bt392.1.length : Int) 0) else (some (([] : List Int), 130)))) R →
              Ev (fun k => (spread_areWide.f [n]).bind fun t387 => (if t387 = true then ((spread_areWide.f l).bind fun t388 => (if t388 = true then ((spread_areWide.f w).bind fun t389 => (if t389 = true then (spread_Over.j0 k n l w ((l.length : Int) != (w.length : Int))) else (spread_Over.j0 k n l w true))) else (spread_Over.j0 k n l w true))) else (spread_Over.j0 k n l w true))) R := by
            intro R hR
            refine Ev.bind (a := true) ⟨0, fun _ _ => areWide_yes _ h1⟩ (Ev.pos rfl (Ev.bind (a := true) ⟨0, fun _ _ => areWide_yes _ h2⟩ (Ev.pos rfl (Ev.bind (a := true) ⟨0, fun _ _ => areWide_yes _ h3⟩ (Ev.pos rfl ?_)))))
            have e : ((l.length : Int) != (w.length : Int)) = false := by simp [h4]
            rw [e]
            refine Ev.step (f := fun k => _) (fun k => by rw [spread_Over.j0]) ?_
            exact Ev.neg (by simp) (Ev.bind (a := l.sum) ⟨0, fun _ _ => hadd⟩ (Ev.bind (a := n - l.sum) ⟨0, fun _ _ => hsub⟩ hR))
          rcases share_fair (mx (n - l.sum) 0) w with h | ⟨o, h, hf⟩
          · exact .inl (hgo _ (Ev.bind (a := ([], 10)) ⟨0, fun _ _ => h⟩ (Ev.neg (by simp) (Ev.now _))))
          · refine .inr ⟨o, ⟨h1 n (by simp), h2, h3, h4, h, hf⟩, hgo _ (Ev.bind (a := (o, 0)) ⟨0, fun _ _ => h⟩ (Ev.pos rfl ?_))⟩
            have hol : o.length = l.length := by rw [hf.len, h4]
            have hT : mx (n - l.sum) 0 ≤ 1125899906842623 := by
              unfold mx
              split <;> omega
            have := over_l l o hol (by omega) (fun i hi => by
              have h5 := hf.pos _ (rd_mem o i hi)
              have h6 := h2 _ (rd_mem l i (by omega))
              unfold wide at h6
              omega) o.length 0 (by omega)
            rw [mixed_zero] at this
            exact this
        · refine .inl (Ev.bind (a := true) ⟨0, fun _ _ => areWide_yes _ h1⟩ (Ev.pos rfl (Ev.bind (a := true) ⟨0, fun _ _ => areWide_yes _ h2⟩ (Ev.pos rfl (Ev.bind (a := true) ⟨0, fun _ _ => areWide_yes _ h3⟩ (Ev.pos rfl ?_))))))
          have e : ((l.length : Int) != (w.length : Int)) = true := by
            rw [bne_iff_ne]
            omega
          rw [e]
          exact bad
      · exact .inl (Ev.bind (a := true) ⟨0, fun _ _ => areWide_yes _ h1⟩ (Ev.pos rfl (Ev.bind (a := true) ⟨0, fun _ _ => areWide_yes _ h2⟩ (Ev.pos rfl (Ev.bind (a := false) ⟨0, fun _ _ => areWide_no _ h3⟩ (Ev.neg (by simp) bad))))))
    · exact .inl (Ev.bind (a := true) ⟨0, fun _ _ => areWide_yes _ h1⟩ (Ev.pos rfl (Ev.bind (a := false) ⟨0, fun _ _ => areWide_no _ h2⟩ (Ev.neg (by simp) bad))))
  · exact .inl (Ev.bind (a := false) ⟨0, fun _ _ => areWide_no _ h1⟩ (Ev.neg (by simp) bad))
end Go.Proofs.Ytpoboffdlnnbmaa.Base
