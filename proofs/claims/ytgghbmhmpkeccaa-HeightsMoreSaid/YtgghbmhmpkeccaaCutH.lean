/- Cuts and sums of lists. No condition. -/
import Derived.Test.YtgghbmhmpkeccaaOver
namespace Go.Proofs.Ytgghbmhmpkeccaa.Base
open Go.RowKit Go.Proofs.Ytgghbmhmpkeccaa.PA Go.Proofs.YtgghbmhmpkeccaaW.PrintWords Go.Proofs.YtgghbmhmpkeccaaW.PrintLast Go.Proofs.YtgghbmhmpkeccaaW.PrintMore
theorem mn_cut {α : Type} (l : List α) (m : Nat) (M : Int) (hM : M = m) : 0 ≤ mn (l.length : Int) M ∧ mn (l.length : Int) M ≤ (l.length : Int) ∧ l.take (mn (l.length : Int) M).toNat = l.take m := by
  subst hM
  unfold mn
  by_cases c : (m : Int) < (l.length : Int)
  · rw [if_pos c]
    exact ⟨by omega, by omega, by rw [Int.toNat_natCast]⟩
  · rw [if_neg c]
    refine ⟨by omega, by omega, ?_⟩
    rw [Int.toNat_natCast, List.take_length, List.take_of_length_le (by omega)]
theorem take_len {α : Type} (l : List α) (m : Nat) : (l.take m).length ≤ m := by
  rw [List.length_take]
  omega
theorem take_next (o : List Int) (i : Nat) (h : i < o.length) : (o.take (i + 1)).sum = (o.take i).sum + rd o i := by
  rw [List.take_succ_eq_append_getElem h, List.sum_append, rd_nat, List.getElem?_eq_getElem h]
  simp
theorem take_bnd (M : Int) (o : List Int) (h : ∀ x ∈ o, 0 ≤ x ∧ x ≤ M) (i : Nat) : 0 ≤ (o.take i).sum ∧ (o.take i).sum ≤ o.sum ∧ o.sum ≤ M * (o.length : Int) := by
  have h1 := sum_nonneg (o.take i) (fun x hx => (h x (List.mem_of_mem_take hx)).1)
  have h2 := sum_nonneg (o.drop i) (fun x hx => (h x (List.mem_of_mem_drop hx)).1)
  have h3 := sum_le M o (fun x hx => (h x hx).2)
  have h4 : o.sum = (o.take i).sum + (o.drop i).sum := by rw [← List.sum_append, List.take_append_drop]
  have h5 : (o.length : Int) * M = M * (o.length : Int) := Int.mul_comm _ _
  omega
end Go.Proofs.Ytgghbmhmpkeccaa.Base
