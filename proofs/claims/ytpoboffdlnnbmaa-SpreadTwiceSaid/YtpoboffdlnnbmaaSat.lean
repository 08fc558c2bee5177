/- Saturated sums and differences, in plain numbers. Condition: the numbers are of 64 bits. -/
import Derived.Test.YtpoboffdlnnbmaaPAx8
import Derived.Test.YtpoboffdlnnbmaaBase
namespace Go.Proofs.Ytpoboffdlnnbmaa.Base
open Go.RowKit Go.Proofs.Ytpoboffdlnnbmaa.PA Go.Proofs.YtpoboffdlnnbmaaW.PrintWords Go.Proofs.YtpoboffdlnnbmaaW.PrintLast Go.Proofs.YtpoboffdlnnbmaaW.PrintMore
def i64 (n : Int) : Prop := -9223372036854775808 ≤ n ∧ n ≤ 9223372036854775807
/-- What a saturated sum is. -/
def sat (n : Int) : Int := if n < -9223372036854775808 then -9223372036854775808 else if n > 9223372036854775807 then 9223372036854775807 else n
theorem bne_of {p q : Prop} [Decidable p] [Decidable q] : ((decide p != decide q) = true) ↔ ¬ (p ↔ q) := by
  by_cases hp : p <;> by_cases hq : q <;> simp [hp, hq]
theorem step_sat (s x : Int) (hs : i64 s) (hx : i64 x) : addStep s x = sat (s + x) := by
  unfold addStep sat wrap64
  unfold i64 at *
  simp only [bne_of]
  (repeat' split) <;> omega
theorem sat_i64 (n : Int) : i64 (sat n) := by
  unfold i64 sat
  (repeat' split) <;> omega
theorem sat_id {n : Int} (h : i64 n) : sat n = n := by
  unfold i64 at h
  unfold sat
  rw [if_neg (by omega), if_neg (by omega)]
/-- A sum of numbers none of which is below 0, where it is no greater than 64 bits hold. -/
theorem add_sum : ∀ (l : List Int) (s : Int), 0 ≤ s → (∀ x ∈ l, 0 ≤ x) → s + l.sum ≤ 9223372036854775807 → l.foldl addStep s = s + l.sum
  | [], s, _, _, _ => by simp
  | a :: l, s, h0, h, hs => by
    have ha := h a (by simp)
    have hl := sum_nonneg l (fun x hx => h x (by simp [hx]))
    rw [List.sum_cons] at hs ⊢
    rw [List.foldl_cons, step_sat s a (by unfold i64; omega) (by unfold i64; omega), sat_id (by unfold i64; omega), add_sum l (s + a) (by omega) (fun x hx => h x (by simp [hx])) (by omega)]
    omega
theorem add_of (l : List Int) (h : ∀ x ∈ l, 0 ≤ x) (hs : l.sum ≤ 9223372036854775807) : fixed_Add.f l = some l.sum := by
  unfold fixed_Add.f addOut
  rw [add_sum l 0 (Int.le_refl _) h (by omega), Int.zero_add]
end Go.Proofs.Ytpoboffdlnnbmaa.Base
