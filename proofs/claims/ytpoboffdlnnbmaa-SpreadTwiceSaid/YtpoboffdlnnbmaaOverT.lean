/- What spread.Over answers, in one word, with enough rounds. Condition: at most 8000 lengths. -/
import Derived.Test.YtpoboffdlnnbmaaPAx9
import Derived.Test.YtpoboffdlnnbmaaOver
namespace Go.Proofs.Ytpoboffdlnnbmaa.Base
open Go.RowKit Go.Proofs.Ytpoboffdlnnbmaa.PA Go.Proofs.YtpoboffdlnnbmaaW.PrintWords Go.Proofs.YtpoboffdlnnbmaaW.PrintLast Go.Proofs.YtpoboffdlnnbmaaW.PrintMore
def overOk (n : Int) (l w : List Int) : Bool := !wideBad n && !(l.any wideBad) && !(w.any wideBad) && decide (l.length = w.length)
def sharedT (n : Int) (w : List Int) : Option (List Int) := match fixed_Share.f n w with
  | some (o, e) => if e = 0 then some o else none
  | none => none
def overT (n : Int) (l w : List Int) : List Int × Int := if overOk n l w = true then match sharedT (spareOf n l) w with
  | some o => (added o l, 0)
  | none => ([], 130) else ([], 130)
theorem any_wide (l : List Int) : l.any wideBad = false ↔ ∀ x ∈ l, wide x := by
  rw [List.any_eq_false]
  refine forall_congr' fun x => forall_congr' fun _ => ?_
  rw [← wideBad_iff]
  simp
theorem overOk_iff (n : Int) (l w : List Int) : overOk n l w = true ↔ wide n ∧ (∀ x ∈ l, wide x) ∧ (∀ x ∈ w, wide x) ∧ l.length = w.length := by
  unfold overOk
  rw [Bool.and_eq_true, Bool.and_eq_true, Bool.and_eq_true, Bool.not_eq_true', Bool.not_eq_true', Bool.not_eq_true', wideBad_iff, any_wide, any_wide, decide_eq_true_eq, and_assoc, and_assoc]
/-- The way behind a share. -/
theorem over_shared (n : Int) (l w o : List Int) (hl : l.length ≤ 8000) (hn : wide n) (h2 : ∀ x ∈ l, wide x) (h4 : l.length = w.length) (hf : Fair (spareOf n l) w o) : Ev (fun k => spread_Over.l0 k l o (o.length : Int) 0) (added o l, 0) := by
  have hol : o.length = l.length := by rw [hf.len, h4]
  have hs0 := sum_nonneg l (fun x hx => (h2 x hx).1)
  have hT : spareOf n l ≤ 1125899906842623 := by
    unfold wide at hn
    unfold spareOf mx
    split <;> omega
  have := over_l l o hol (by omega) (fun i hi => by
    have h5 := hf.pos _ (rd_mem o i hi)
    have h6 := h2 _ (rd_mem l i (by omega))
    unfold wide at h6
    omega) o.length 0 (by omega)
  rw [mixed_zero] at this
  exact this
theorem over_total (n : Int) (l w : List Int) (hl : l.length ≤ 8000) : Ev (fun k => spread_Over.f k n l w) (overT n l w) := by
  have bad : Ev (fun k => spread_Over.j0 k n l w true) ([], 130) := by
    refine Ev.step (f := fun k => _) (fun k => by rw [spread_Over.j0]) ?_
    exact Ev.pos rfl (Ev.now _)
  unfold spread_Over.f overT
  by_cases h1 : wide n
  · have h1' : ∀ x ∈ [n], wide x := by simpa using h1
    by_cases h2 : ∀ x ∈ l, wide x
    · by_cases h3 : ∀ x ∈ w, wide x
      · by_cases h4 : l.length = w.length
        · rw [if_pos ((overOk_iff n l w).2 ⟨h1, h2, h3, h4⟩)]
          have hs0 := sum_nonneg l (fun x hx => (h2 x hx).1)
          have hs1 := sum_le 1125899906842623 l (fun x hx => (h2 x hx).2)
          have hn := h1
          unfold wide at hn
          have hsum : l.sum ≤ 9223372036854775807 := by omega
          have hadd := add_of l (fun x hx => (h2 x hx).1) hsum
          have hsub : fixed_Sub.f n l.sum = some (n - l.sum) := by
            rw [sub_eq n l.sum (by unfold i64; omega) (by unfold i64; omega), sat_id (by unfold i64; omega)]
          refine Ev.bind (a := true) ⟨0, fun _ _ => areWide_yes _ h1'⟩ (Ev.pos rfl (Ev.bind (a := true) ⟨0, fun _ _ => areWide_yes _ h2⟩ (Ev.pos rfl (Ev.bind (a := true) ⟨0, fun _ _ => areWide_yes _ h3⟩ (Ev.pos rfl ?_)))))
          have e : ((l.length : Int) != (w.length : Int)) = false := by simp [h4]
          rw [e]
          refine Ev.step (f := fun k => _) (fun k => by rw [spread_Over.j0]) ?_
          refine Ev.neg (by simp) (Ev.bind (a := l.sum) ⟨0, fun _ _ => hadd⟩ (Ev.bind (a := n - l.sum) ⟨0, fun _ _ => hsub⟩ ?_))
          unfold sharedT
          rcases share_fair (mx (n - l.sum) 0) w with h | ⟨o, h, hf⟩
          · have h' : fixed_Share.f (spareOf n l) w = some ([], 10) := h
            rw [h']
            exact Ev.bind (a := ([], 10)) ⟨0, fun _ _ => h⟩ (Ev.neg (by simp) (Ev.now _))
          · have h' : fixed_Share.f (spareOf n l) w = some (o, 0) := h
            rw [h']
            exact Ev.bind (a := (o, 0)) ⟨0, fun _ _ => h⟩ (Ev.pos rfl (over_shared n l w o hl h1 h2 h4 hf))
        · rw [if_neg (fun h => h4 ((overOk_iff n l w).1 h).2.2.2)]
          refine Ev.bind (a := true) ⟨0, fun _ _ => areWide_yes _ h1'⟩ (Ev.pos rfl (Ev.bind (a := true) ⟨0, fun _ _ => areWide_yes _ h2⟩ (Ev.pos rfl (Ev.bind (a := true) ⟨0, fun _ _ => areWide_yes _ h3⟩ (Ev.pos rfl ?_)))))
          have e : ((l.length : Int) != (w.length : Int)) = true := by
            rw [bne_iff_ne]
            omega
          rw [e]
          exact bad
      · rw [if_neg (fun h => h3 ((overOk_iff n l w).1 h).2.2.1)]
        exact Ev.bind (a := true) ⟨0, fun _ _ => areWide_yes _ h1'⟩ (Ev.pos rfl (Ev.bind (a := true) ⟨0, fun _ _ => areWide_yes _ h2⟩ (Ev.pos rfl (Ev.bind (a := false) ⟨0, fun _ _ => areWide_no _ h3⟩ (Ev.neg (by simp) bad)))))
    · rw [if_neg (fun h => h2 ((overOk_iff n l w).1 h).2.1)]
      exact Ev.bind (a := true) ⟨0, fun _ _ => areWide_yes _ h1'⟩ (Ev.pos rfl (Ev.bind (a := false) ⟨0, fun _ _ => areWide_no _ h2⟩ (Ev.neg (by simp) bad)))
  · rw [if_neg (fun h => h1 ((overOk_iff n l w).1 h).1)]
    exact Ev.bind (a := false) ⟨0, fun _ _ => areWide_no _ (fun h => h1 (h n (by simp)))⟩ (Ev.neg (by simp) bad)
/-- An error, or each length and its share of what is left. -/
theorem overT_cases (n : Int) (l w : List Int) : overT n l w = ([], 130) ∨ ∃ o, OverIs n l w o ∧ overT n l w = (added o l, 0) := by
  unfold overT sharedT
  by_cases h : overOk n l w = true
  · rw [if_pos h]
    obtain ⟨h1, h2, h3, h4⟩ := (overOk_iff n l w).1 h
    rcases share_fair (spareOf n l) w with h' | ⟨o, h', hf⟩
    · rw [h']
      exact .inl rfl
    · rw [h']
      exact .inr ⟨o, ⟨h1, h2, h3, h4, h', hf⟩, rfl⟩
  · rw [if_neg h]
    exact .inl rfl
theorem overT_length (n : Int) (l w : List Int) : (overT n l w).1.length ≤ l.length := by
  rcases overT_cases n l w with h | ⟨o, ho, h⟩
  · rw [h]
    exact Nat.zero_le _
  · rw [h]
    show (added o l).length ≤ _
    rw [added_length, ho.fair.len, ho.len]
    exact Nat.le_refl _
/-- A cell's columns' part of a length. -/
def partN (gap cols n : Int) : Int := mx (n - gap * (cols - 1)) 0
theorem part_val (gap cols n : Int) (hn : 0 ≤ n ∧ n ≤ 1125899906842623) (hg : 0 ≤ gap ∧ gap ≤ 1073741824) (hc : 1 ≤ cols ∧ cols ≤ 10000) : spread_Part.f 1 n gap cols = some (partN gap cols n) := by
  have hw : wrap64 (cols - 1) = cols - 1 := by unfold wrap64; omega
  have hb : ∀ a : Int, 0 ≤ a → a ≤ 1073741824 → fixed_bare.f a = some a := by
    intro a h0 h1
    unfold fixed_bare.f fixed_signed.f
    rw [if_neg (by omega), Option.bind_some, w64_id (n := a) h0 (by omega)]
    have e : mx a 0 = a := by unfold mx; split <;> omega
    rw [e, Int.mul_one, w64_id (n := a) h0 (by omega)]
  have h0 : 0 ≤ gap * (cols - 1) := Int.mul_nonneg hg.1 (by omega)
  have h1 : gap * (cols - 1) ≤ 1073741824 * 10000 := Int.mul_le_mul hg.2 (by omega) (by omega) (by omega)
  have hm : bits_Mul64.f gap (cols - 1) = some (0, gap * (cols - 1)) := by
    unfold bits_Mul64.f
    rw [if_pos ⟨⟨by omega, by omega⟩, ⟨by omega, by omega⟩⟩]
    congr 2 <;> omega
  unfold spread_Part.f partN
  rw [if_neg (by omega), hw]
  unfold fixed_Mul.f
  rw [hb gap hg.1 hg.2, Option.bind_some, hb (cols - 1) (by omega) (by omega), Option.bind_some, hm, Option.bind_some]
  generalize gap * (cols - 1) = p at h0 h1 ⊢
  have e1 : (decide (gap < 0) != decide (cols - 1 < 0)) = false := by
    rw [decide_eq_false (by omega), decide_eq_false (by omega)]
    rfl
  have e2 : wrap64 p = p := by unfold wrap64; omega
  have e3 : wrap64 (n - p) = n - p := by unfold wrap64; omega
  have e4 : (decide (n - p < n) != decide (p > 0)) = false := by
    rw [show decide (n - p < n) = decide (p > 0) from by rw [decide_eq_decide]; omega]
    simp
  rw [if_pos rfl, if_pos (by show p ≤ _; omega), e1, fixed_Mul.j0, if_neg (by simp), if_pos rfl, if_pos (by omega), e2, Option.bind_some]
  unfold fixed_Sub.f
  rw [e3, e4, if_neg (by simp), Option.bind_some]
theorem partN_wide (gap cols n : Int) (hn : wide n) (hg : 0 ≤ gap) (hc : 1 ≤ cols) : wide (partN gap cols n) ∧ partN gap cols n ≤ n := by
  have h0 : 0 ≤ gap * (cols - 1) := Int.mul_nonneg hg (by omega)
  unfold wide partN mx at *
  split <;> omega
theorem part_ev (gap cols n : Int) (hn : wide n) (hg : 0 ≤ gap ∧ gap ≤ 1073741824) (hc : 1 ≤ cols ∧ cols ≤ 10000) : Ev (fun k => spread_Part.f k n gap cols) (partN gap cols n) := Ev.of (fun k => spread_Part.mono n gap cols k) (part_val gap cols n hn hg hc)
end Go.Proofs.Ytpoboffdlnnbmaa.Base
