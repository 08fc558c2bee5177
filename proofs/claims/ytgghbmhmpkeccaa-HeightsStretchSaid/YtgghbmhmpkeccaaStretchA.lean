/- What stretched rows add up to, and which rows grow. No condition. -/
import Derived.Test.YtgghbmhmpkeccaaStretchT
import Derived.Test.YtgghbmhmpkeccaaCutH
namespace Go.Proofs.Ytgghbmhmpkeccaa.Base
open Go.RowKit Go.Proofs.Ytgghbmhmpkeccaa.PA Go.Proofs.YtgghbmhmpkeccaaW.PrintWords Go.Proofs.YtgghbmhmpkeccaaW.PrintLast Go.Proofs.YtgghbmhmpkeccaaW.PrintMore
structure Stretched (l0 l1 : List Int) (a2 : Int) (a : List Int) : Prop where
  len : a.length = l0.length
  ge : ∀ i : Nat, i < l0.length → rd l0 i ≤ rd a i
  low : ∀ x ∈ a, 0 ≤ x ∧ x ≤ 1152921504606846975
  sum : a.sum = mx l0.sum a2
  keep : (∃ j : Nat, j < l1.length ∧ rd l1 j = -1) → ∀ i : Nat, i < l0.length → 0 ≤ rd l1 i → rd a i = rd l0 i
theorem mem_freeP (p : Int → Bool) (l1 : List Int) (n i : Nat) : i ∈ freeP p l1 n ↔ i < n ∧ p (l1[i]?.getD 0) = true := by
  unfold freeP
  rw [List.mem_filter, List.mem_range]
theorem stretched {l0 l1 : List Int} {a2 : Int} (h : StrOk l0 l1 a2) (hm : l0.length ≤ 8000) : ∃ o, Fair (mx (a2 - l0.sum) 0) (ofRows l0 (stretchP l1)) o ∧ heights_Stretch.f l0 l1 a2 = some (addAll l0 ((stretchP l1).zip o), 0) ∧ Stretched l0 l1 a2 (addAll l0 ((stretchP l1).zip o)) ∧ (∀ k (h1 : k < (stretchP l1).length) (h2 : k < o.length), (addAll l0 ((stretchP l1).zip o))[(stretchP l1)[k]]? = some (rd l0 (stretchP l1)[k] + o[k])) ∧ (∀ j, j ∉ stretchP l1 → (addAll l0 ((stretchP l1).zip o))[j]? = l0[j]?) ∧ fixed_Share.f (mx (a2 - l0.sum) 0) (ofRows l0 (stretchP l1)) = some (o, 0) := by
  obtain ⟨o, hF, hf, hshare⟩ := stretch_answer h hm
  have hs0 := sum_nonneg l0 (fun x hx => (h.rows x hx).1)
  have ht := h.total
  have hlen := h.len
  have htot : 0 ≤ mx (a2 - l0.sum) 0 ∧ mx (a2 - l0.sum) 0 ≤ 576460752303423488 := by unfold mx; split <;> omega
  have hol : o.length = (stretchP l1).length := by rw [hF.len]; exact List.length_map _
  have e1 : ((stretchP l1).zip o).map (fun q => q.1) = stretchP l1 := List.map_fst_zip (by omega)
  have e2 : ((stretchP l1).zip o).map (fun q => q.2) = o := List.map_snd_zip (by omega)
  have hq : ∀ q ∈ (stretchP l1).zip o, q.1 < l0.length ∧ 0 ≤ q.2 ∧ q.2 ≤ mx (a2 - l0.sum) 0 := fun q hq => by
    have hq1 := List.of_mem_zip hq
    have h1 := stretchP_lt l1 q.1 hq1.1
    exact ⟨by omega, hF.pos q.2 hq1.2⟩
  obtain ⟨s1, s2, s3⟩ := addAll_spec ((stretchP l1).zip o) l0 (by rw [e1]; exact stretchP_nodup l1) (fun q hq' => by
    obtain ⟨q1, q2, q3⟩ := hq q hq'
    refine ⟨q1, ?_⟩
    have := h.rows _ (List.getElem_mem q1)
    rw [List.getElem?_eq_getElem q1, Option.getD_some]
    unfold wide at this
    unfold i64
    omega)
  rw [e1] at s2
  rw [e2, hF.sum] at s1
  have hl := addAll_length l0 ((stretchP l1).zip o)
  have at_ : ∀ k (h1 : k < (stretchP l1).length) (h2 : k < o.length), (addAll l0 ((stretchP l1).zip o))[(stretchP l1)[k]]? = some (rd l0 (stretchP l1)[k] + o[k]) := fun k h1 h2 => by
    have hz : k < ((stretchP l1).zip o).length := by rw [List.length_zip]; omega
    have := s3 _ (List.getElem_mem hz)
    rw [List.getElem_zip] at this
    rw [rd_nat]
    exact this
  have each : ∀ i : Nat, i < l0.length → (i ∉ stretchP l1 ∧ rd (addAll l0 ((stretchP l1).zip o)) i = rd l0 i) ∨ (i ∈ stretchP l1 ∧ ∃ y, 0 ≤ y ∧ y ≤ mx (a2 - l0.sum) 0 ∧ rd (addAll l0 ((stretchP l1).zip o)) i = rd l0 i + y) := fun i hi => by
    by_cases c : i ∈ stretchP l1
    · obtain ⟨k, hk, e⟩ := List.mem_iff_getElem.1 c
      have := at_ k hk (by omega)
      rw [e] at this
      refine .inr ⟨c, o[k], (hF.pos _ (List.getElem_mem _)).1, (hF.pos _ (List.getElem_mem _)).2, ?_⟩
      rw [rd_nat (addAll _ _), this]
      rfl
    · refine .inl ⟨c, ?_⟩
      rw [rd_nat, rd_nat, s2 i c]
  refine ⟨o, hF, hf, ⟨hl, fun i hi => ?_, fun x hx => ?_, ?_, fun ⟨j, hj, ej⟩ i hi hw => ?_⟩, at_, s2, hshare⟩
  · rcases each i hi with ⟨_, e⟩ | ⟨_, y, y0, _, e⟩ <;> omega
  · obtain ⟨i, hi, e⟩ := List.mem_iff_getElem.1 hx
    have hx0 : rd (addAll l0 ((stretchP l1).zip o)) i = x := by rw [rd_nat, List.getElem?_eq_getElem hi, Option.getD_some, e]
    have hw := h.rows _ (rd_mem l0 i (by omega))
    unfold wide at hw
    rcases each i (by omega) with ⟨_, e⟩ | ⟨_, y, y0, _, e⟩ <;> omega
  · rw [s1]
    unfold mx
    split <;> split <;> omega
  · rcases each i hi with ⟨_, e⟩ | ⟨hm', _⟩
    · exact e
    · exfalso
      have hne : freeP isFree l1 l1.length ≠ [] := by
        intro he
        have : j ∈ freeP isFree l1 l1.length := (mem_freeP _ _ _ _).2 ⟨hj, by rw [← rd_nat, ej]; rfl⟩
        rw [he] at this
        cases this
      unfold stretchP at hm'
      rw [if_neg hne, mem_freeP, ← rd_nat] at hm'
      have : rd l1 i = -1 := by simpa [isFree] using hm'.2
      omega
end Go.Proofs.Ytgghbmhmpkeccaa.Base
