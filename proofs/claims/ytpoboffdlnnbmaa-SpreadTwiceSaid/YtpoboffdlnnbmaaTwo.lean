/- The plain laws that all these statements share: what the examples show, that Same tells equal lists, and that both evens are one list. No condition but those of the statements themselves. -/
import Derived.Test.YtpoboffdlnnbmaaBase
namespace Go.Proofs.Ytpoboffdlnnbmaa.Base
open Go.RowKit Go.Proofs.Ytpoboffdlnnbmaa.PA Go.Proofs.YtpoboffdlnnbmaaW.PrintWords Go.Proofs.YtpoboffdlnnbmaaW.PrintLast Go.Proofs.YtpoboffdlnnbmaaW.PrintMore
theorem Ev.pos {α : Type} {c : Prop} [Decidable c] {f g : Nat → Option α} {r : α} (hc : c) (h : Ev f r) : Ev (fun k => if c then f k else g k) r := h.congr (fun _ => if_pos hc)
theorem Ev.neg {α : Type} {c : Prop} [Decidable c] {f g : Nat → Option α} {r : α} (hc : ¬ c) (h : Ev g r) : Ev (fun k => if c then f k else g k) r := h.congr (fun _ => if_neg hc)
theorem Ev.val {α : Type} {r s : α} (h : r = s) : Ev (fun _ => some r) s := h ▸ Ev.now r
theorem rd_nat (l : List Int) (i : Nat) : rd l (i : Int) = l[i]?.getD 0 := by simp [rd]
/-! The sorted places. -/
def before (r : Nat → Int) (a b : Nat) : Prop := r b < r a ∨ (r a = r b ∧ a < b)
theorem sortedP_pw (r : Nat → Int) (n : Nat) : (sortedP r n).toList.Pairwise (before r) := by
  obtain ⟨hs, hp, ho⟩ := sortedP_facts r n
  have hn : (sortedP r n).toList.Nodup := hp.nodup_iff.2 List.nodup_range
  rw [List.pairwise_iff_getElem]
  intro i j hi hj hij
  rw [Array.length_toList] at hi hj
  have h1 := ho i j (Nat.zero_le _) hij (by omega)
  have e : ¬ (sortedP r n).toList[i]'(by simpa using hi) = (sortedP r n).toList[j]'(by simpa using hj) := by
    intro e
    have := (List.getElem_inj hn).1 e
    omega
  rw [Array.getElem_toList, Array.getElem_toList] at e ⊢
  rw [getElem!_pos (sortedP r n) i hi, getElem!_pos (sortedP r n) j hj, ltP] at h1
  rw [decide_eq_false_iff_not] at h1
  unfold before
  omega
theorem before_asymm (r : Nat → Int) (a b : Nat) (h1 : before r a b) (h2 : before r b a) : a = b := by unfold before at *; omega
theorem sortedP_const (r : Nat → Int) (n : Nat) (c : Int) (h : ∀ i, i < n → r i = c) : (sortedP r n).toList = List.range n := by
  obtain ⟨hs, hp, _⟩ := sortedP_facts r n
  refine hp.eq_of_pairwise (le := before r) (fun a b _ _ => before_asymm r a b) (sortedP_pw r n) ?_
  rw [List.pairwise_iff_getElem]
  intro i j hi hj hij
  simp only [List.getElem_range]
  rw [List.length_range] at hi hj
  exact .inr ⟨by rw [h i hi, h j hj], hij⟩

/-! Even. -/
theorem sum_const (c : Int) : ∀ n : Nat, ((List.range n).map (fun _ => c)).sum = n * c
  | 0 => by simp
  | n + 1 => by
    rw [List.range_succ, List.map_append, List.sum_append, sum_const c n, Int.natCast_succ, Int.add_mul]
    simp
theorem ones (total : Int) (n : Nat) (h : mayShare total n) : Facts total (List.replicate n 1) where
  may := by rw [List.length_replicate]; exact h
  good := fun x hx => by rw [(List.mem_replicate.1 hx).2]; omega
  pos := by have := h.2.2.1; simp; omega
def evens (total : Int) (n : Nat) : List Int := (List.range n).map (fun i : Nat => total / n + if (i : Int) < total % n then 1 else 0)
theorem evenOut_eq (total : Int) (n : Nat) (h : mayShare total n) : evenOut total n = evens total n := by
  have f := ones total n h
  have hs := f.share
  have hn : (0 : Int) < n := h.2.2.1
  have hsum : (List.replicate n (1 : Int)).sum = n := by simp
  have hq : ∀ i, i < n → qOf total (List.replicate n 1) i = total / n := by
    intro i hi
    unfold qOf
    rw [hsum]
    simp [hi]
  have hr : ∀ i, i < n → rOf total (List.replicate n 1) i = total % n := by
    intro i hi
    unfold rOf
    rw [hsum]
    simp [hi]
  have hqs : qSum total (List.replicate n 1) = n * (total / n) := by
    unfold qSum
    rw [List.length_replicate, sum_congr _ (fun _ => total / n) _ (fun i hi => hq i (by simpa using hi)), sum_const]
  have hrest : total - qSum total (List.replicate n 1) = total % n := by
    rw [hqs]
    have := Int.emod_add_mul_ediv total n
    omega
  have hm0 := Int.emod_nonneg total (b := n) (by omega)
  have hm1 := Int.emod_lt_of_pos total hn
  have e : evenOut total n = shareOut total (List.replicate n 1) := by
    unfold evenOut shareOut
    rw [List.length_replicate]
  rw [e, hs, hrest, List.length_replicate, sortedP_const _ n (total % n) hr]
  unfold bump evens
  apply List.ext_getElem
  · simp
  · intro i h1 h2
    have hi : i < n := by simpa using h2
    rw [List.getElem_mapIdx, List.getElem_map, List.getElem_map, List.getElem_range, hq i hi]
    congr 1
    have : (i ∈ (List.range n).take (total % n).toNat) ↔ (i : Int) < total % n := by
      rw [List.take_range, List.mem_range]
      omega
    simp only [this]
theorem evens_length (total : Int) (n : Nat) : (evens total n).length = n := by simp [evens]
theorem i64_of {n : Int} (h : (Lit.int .i64 n).wf = true) : -9223372036854775808 ≤ n ∧ n ≤ 9223372036854775807 := by
  simp only [Lit.wf, IntKind.min, IntKind.max, IntKind.signed, IntKind.bits, Bool.and_eq_true, decide_eq_true_eq, if_true] at h
  omega
theorem mn_id {x y : Int} (h : x ≤ y) : mn x y = x := by unfold mn; rw [if_neg (by omega)]
end Go.Proofs.Ytpoboffdlnnbmaa.Base
