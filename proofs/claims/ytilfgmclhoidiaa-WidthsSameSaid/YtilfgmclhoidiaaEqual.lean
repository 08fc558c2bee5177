/- Equal weights share out evenly. No condition. -/
import Derived.Test.YtilfgmclhoidiaaTwo
namespace Go.Proofs.Ytilfgmclhoidiaa.Base
open Go.RowKit Go.Proofs.Ytilfgmclhoidiaa.PA Go.Proofs.YtilfgmclhoidiaaW.PrintWords Go.Proofs.YtilfgmclhoidiaaW.PrintLast
/-- Equal weights above 0 share out evenly. -/
theorem share_equal (total w : Int) (n : Nat) (h : mayShare total n) (h0 : 0 < w) (h1 : w ≤ 1125899906842623) : shareOut total (List.replicate n w) = evens total n := by
  have hn : (0 : Int) < n := h.2.2.1
  have hsum : (List.replicate n w).sum = n * w := by simp
  have f : Facts total (List.replicate n w) := ⟨by rw [List.length_replicate]; exact h, fun x hx => by rw [(List.mem_replicate.1 hx).2]; omega, by rw [hsum]; exact Int.mul_pos hn h0⟩
  have hs := f.share
  have hq : ∀ i, i < n → qOf total (List.replicate n w) i = total / n := by
    intro i hi
    unfold qOf
    rw [hsum, List.getElem?_replicate, if_pos hi, Option.getD_some]
    exact Int.mul_ediv_mul_of_pos_left total n h0
  have hr : ∀ i, i < n → rOf total (List.replicate n w) i = w * (total % n) := by
    intro i hi
    unfold rOf
    rw [hsum, List.getElem?_replicate, if_pos hi, Option.getD_some]
    rw [Int.mul_comm total w, Int.mul_comm (n : Int) w]
    exact Int.mul_emod_mul_of_pos _ _ h0
  have hqs : qSum total (List.replicate n w) = n * (total / n) := by
    unfold qSum
    rw [List.length_replicate, sum_congr _ (fun _ => total / n) _ (fun i hi => hq i (by simpa using hi)), sum_const]
  have hrest : total - qSum total (List.replicate n w) = total % n := by
    rw [hqs]
    have := Int.emod_add_mul_ediv total n
    omega
  rw [hs, hrest, List.length_replicate, sortedP_const _ n (w * (total % n)) hr]
  unfold bump evens
  apply List.ext_getElem
  · simp
  · intro i h1 h2
    have hi : i < n := by simpa using h2
    have hm0 := Int.emod_nonneg total (b := n) (by omega)
    have hm1 := Int.emod_lt_of_pos total hn
    rw [List.getElem_mapIdx, List.getElem_map, List.getElem_map, List.getElem_range, hq i hi]
    congr 1
    have : (i ∈ (List.range n).take (total % n).toNat) ↔ (i : Int) < total % n := by
      rw [List.take_range, List.mem_range]
      omega
    simp only [this]
theorem share_even (total w : Int) (n : Nat) (h0 : 0 ≤ w) (h1 : w ≤ 1125899906842623) : fixed_Share.f total (List.replicate n w) = fixed_Even.f total n := by
  unfold fixed_Share.f fixed_Even.f
  rw [List.length_replicate]
  by_cases h : mayShare total n
  · rw [if_pos h, if_pos h]
    have hb : ¬ (List.replicate n w).any badW = true := by
      intro hb
      obtain ⟨x, hx, hb⟩ := List.any_eq_true.1 hb
      rw [(List.mem_replicate.1 hx).2] at hb
      unfold badW at hb
      rw [Bool.or_eq_true, decide_eq_true_iff, decide_eq_true_iff] at hb
      omega
    have hn : (0 : Int) < n := h.2.2.1
    have hsum : (List.replicate n w).sum = n * w := by simp
    rw [if_neg hb, hsum, Int.toNat_natCast]
    by_cases c : w = 0
    · subst c
      rw [if_pos (Int.mul_zero _)]
    · have hp : 0 < n * w := Int.mul_pos hn (by omega)
      rw [if_neg (by omega), share_equal total w n h (by omega) h1, evenOut_eq total n h]
  · rw [if_neg h, if_neg h]
theorem share_evens (total w : Int) (n : Nat) (h : mayShare total n) (h0 : 0 ≤ w) (h1 : w ≤ 1125899906842623) : fixed_Share.f total (List.replicate n w) = some (evens total n, 0) := by
  rw [share_even total w n h0 h1]
  unfold fixed_Even.f
  rw [if_pos h, Int.toNat_natCast, evenOut_eq total n h]
end Go.Proofs.Ytilfgmclhoidiaa.Base
