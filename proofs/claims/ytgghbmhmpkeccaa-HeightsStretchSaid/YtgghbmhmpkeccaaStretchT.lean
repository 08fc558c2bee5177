/- What heights.Stretch answers. No condition. -/
import Derived.Test.YtgghbmhmpkeccaaPAx19
import Derived.Test.YtgghbmhmpkeccaaFair
import Derived.Test.YtgghbmhmpkeccaaSat
import Derived.Test.YtgghbmhmpkeccaaOver
namespace Go.Proofs.Ytgghbmhmpkeccaa.Base
open Go.RowKit Go.Proofs.Ytgghbmhmpkeccaa.PA Go.Proofs.YtgghbmhmpkeccaaW.PrintWords Go.Proofs.YtgghbmhmpkeccaaW.PrintLast Go.Proofs.YtgghbmhmpkeccaaW.PrintMore
structure StrOk (l0 l1 : List Int) (a2 : Int) : Prop where
  pos : 0 < l0.length
  len : l0.length = l1.length
  most : l0.length ≤ 10000
  rows : ∀ x ∈ l0, wide x
  wants : ∀ x ∈ l1, -1 ≤ x ∧ x ≤ 1073741824
  total : 0 ≤ a2 ∧ a2 ≤ 576460752303423488
theorem strOk_iff (l0 l1 : List Int) (a2 : Int) : stretchOk l0 l1 a2 = true ↔ StrOk l0 l1 a2 := by
  unfold stretchOk
  have hb : ∀ (a b : Int) (l : List Int), l.any (offBounds a b) = false ↔ ∀ x ∈ l, a ≤ x ∧ x ≤ b := by
    intro a b l
    rw [List.any_eq_false]
    refine forall_congr' fun x => forall_congr' fun _ => ?_
    unfold offBounds
    simp only [Bool.or_eq_true, decide_eq_true_eq]
    omega
  simp only [Bool.and_eq_true, Bool.not_eq_true', decide_eq_true_eq, hb]
  constructor
  · rintro ⟨⟨⟨⟨h1, h2⟩, h3, h4⟩, h5⟩, h6⟩
    unfold offBounds at h6
    simp only [Bool.or_eq_false_iff, decide_eq_false_iff_not] at h6
    exact ⟨h1, h2, by omega, fun x hx => h5 x hx, h4, by omega⟩
  · rintro ⟨h1, h2, h3, h4, h5, h6⟩
    refine ⟨⟨⟨⟨h1, h2⟩, by omega, h5⟩, fun x hx => h4 x hx⟩, ?_⟩
    unfold offBounds
    simp only [Bool.or_eq_false_iff, decide_eq_false_iff_not]
    omega
theorem stretchP_lt (l1 : List Int) : ∀ i ∈ stretchP l1, i < l1.length := by
  unfold stretchP
  split
  · exact freeP_lt _ _ _
  · exact freeP_lt _ _ _
theorem stretchP_length (l1 : List Int) : (stretchP l1).length ≤ l1.length := by
  unfold stretchP
  split
  · exact freeP_length _ _ _
  · exact freeP_length _ _ _
theorem stretchP_pos (l1 : List Int) (h : 0 < l1.length) : 0 < (stretchP l1).length := by
  unfold stretchP
  split
  · exact List.length_pos_iff.2 (freeP_yesB l1 _ h)
  · rename_i hn
    exact List.length_pos_iff.2 hn
theorem stretchP_nodup (l1 : List Int) : (stretchP l1).Nodup := by
  unfold stretchP freeP
  split
  · exact List.nodup_range.filter _
  · exact List.nodup_range.filter _
theorem stretch_answer {l0 l1 : List Int} {a2 : Int} (h : StrOk l0 l1 a2) (hm : l0.length ≤ 8000) : ∃ o, Fair (mx (a2 - l0.sum) 0) (ofRows l0 (stretchP l1)) o ∧ heights_Stretch.f l0 l1 a2 = some (addAll l0 ((stretchP l1).zip o), 0) ∧ fixed_Share.f (mx (a2 - l0.sum) 0) (ofRows l0 (stretchP l1)) = some (o, 0) := by
  have hs0 := sum_nonneg l0 (fun x hx => (h.rows x hx).1)
  have hs1 := sum_le 1125899906842623 l0 (fun x hx => (h.rows x hx).2)
  have ht := h.total
  have hle : l0.sum ≤ 9007199254740984000 := by
    have : (1125899906842623 : Int) * (l0.length : Int) ≤ 1125899906842623 * 8000 := Int.mul_le_mul_of_nonneg_left (by omega) (by omega)
    omega
  have hadd : addOut l0 = l0.sum := by
    have := add_of l0 (fun x hx => (h.rows x hx).1) (by omega)
    unfold fixed_Add.f at this
    exact Option.some.inj this
  have hsub : fixed_Sub.f a2 (addOut l0) = some (a2 - l0.sum) := by
    rw [hadd, sub_eq a2 l0.sum (by unfold i64; omega) (by unfold i64; omega), sat_id (by unfold i64; omega)]
  have hlen : (ofRows l0 (stretchP l1)).length = (stretchP l1).length := List.length_map _
  have hp0 := stretchP_pos l1 (by have := h.pos; have := h.len; omega)
  have hp1 := stretchP_length l1
  have hl := h.len
  have hmay : mayShare (mx (a2 - l0.sum) 0) ((ofRows l0 (stretchP l1)).length : Int) := by
    rw [hlen]
    unfold mayShare mx
    split <;> omega
  have hgood : ¬ (ofRows l0 (stretchP l1)).any badW = true := by
    rw [Bool.not_eq_true, List.any_eq_false]
    intro x hx
    obtain ⟨j, hj, rfl⟩ := List.mem_map.1 hx
    have hj2 : j < l0.length := by have := stretchP_lt l1 j hj; omega
    have := h.rows _ (List.getElem_mem hj2)
    rw [List.getElem?_eq_getElem hj2, Option.getD_some]
    unfold wide at this
    simp only [badW, Bool.or_eq_true, decide_eq_true_eq]
    omega
  rcases share_fair (mx (a2 - l0.sum) 0) (ofRows l0 (stretchP l1)) with hf | ⟨o, hf, hF⟩
  · exfalso
    unfold fixed_Share.f at hf
    rw [if_pos hmay, if_neg hgood] at hf
    split at hf <;> simp at hf
  · refine ⟨o, hF, ?_, hf⟩
    unfold heights_Stretch.f
    rw [if_pos ((strOk_iff l0 l1 a2).2 h), hsub, Option.bind_some, hf, Option.bind_some, if_pos (by rw [hF.len, hlen]; exact Nat.le_refl _)]
theorem stretch_wrong {l0 l1 : List Int} {a2 : Int} (h : ¬ StrOk l0 l1 a2) : heights_Stretch.f l0 l1 a2 = some ([], 160) := by
  unfold heights_Stretch.f
  rw [if_neg (fun h2 => h ((strOk_iff l0 l1 a2).1 h2))]
theorem addAll_zero (l0 : List Int) (h64 : ∀ x ∈ l0, i64 x) : ∀ qs : List (Nat × Int), (∀ q ∈ qs, q.2 = 0 ∧ q.1 < l0.length) → addAll l0 qs = l0
  | [], _ => rfl
  | q :: qs, h => by
    obtain ⟨h1, h2⟩ := h q (by simp)
    have e : addOne l0 q = l0 := by
      unfold addOne
      rw [h1, List.getElem?_eq_getElem h2, Option.getD_some, Int.add_zero]
      have hx := h64 _ (List.getElem_mem h2)
      have ew : wrap64 l0[q.1] = l0[q.1] := by unfold i64 at hx; unfold wrap64; omega
      rw [ew]
      exact List.set_getElem_self h2
    show addAll (addOne l0 q) qs = l0
    rw [e]
    exact addAll_zero l0 h64 qs (fun q' hq => h q' (by simp [hq]))
/-- Nothing is left over: the rows stay. -/
theorem stretch_same {l0 l1 : List Int} {a2 : Int} (h : StrOk l0 l1 a2) (hm : l0.length ≤ 8000) (hs : a2 ≤ l0.sum) : heights_Stretch.f l0 l1 a2 = some (l0, 0) := by
  obtain ⟨o, hF, hf, _⟩ := stretch_answer h hm
  rw [hf]
  have e : mx (a2 - l0.sum) 0 = 0 := by unfold mx; split <;> omega
  rw [e] at hF
  have ho := hF.pos
  rw [addAll_zero l0 (fun x hx => by have := h.rows x hx; unfold wide at this; unfold i64; omega) _ (fun q hq => by
    have hq1 := List.of_mem_zip hq
    have h1 := ho q.2 hq1.2
    have h2 := stretchP_lt l1 q.1 hq1.1
    have h3 := h.len
    exact ⟨by omega, by omega⟩)]
theorem sum_setH : ∀ (l : List Int) (i : Nat) (v : Int) (h : i < l.length), (l.set i v).sum = l.sum - l[i] + v
  | a :: l, 0, v, _ => by
    simp only [List.set_cons_zero, List.sum_cons, List.getElem_cons_zero]
    omega
  | a :: l, i + 1, v, h => by
    have := sum_setH l i v (by simpa using h)
    simp only [List.set_cons_succ, List.sum_cons, List.getElem_cons_succ]
    omega
theorem addAll_spec : ∀ (qs : List (Nat × Int)) (l0 : List Int), (qs.map (fun q => q.1)).Nodup → (∀ q ∈ qs, q.1 < l0.length ∧ i64 ((l0[q.1]?.getD 0) + q.2)) →
    (addAll l0 qs).sum = l0.sum + (qs.map (fun q => q.2)).sum ∧ (∀ j, j ∉ qs.map (fun q => q.1) → (addAll l0 qs)[j]? = l0[j]?) ∧ (∀ q ∈ qs, (addAll l0 qs)[q.1]? = some ((l0[q.1]?.getD 0) + q.2))
  | [], l0, _, _ => ⟨by simp [addAll], fun _ _ => rfl, fun _ h => by cases h⟩
  | q :: qs, l0, hn, hq => by
    rw [List.map_cons, List.nodup_cons] at hn
    obtain ⟨h1, h2⟩ := hq q (by simp)
    have ew : wrap64 ((l0[q.1]?.getD 0) + q.2) = (l0[q.1]?.getD 0) + q.2 := by unfold i64 at h2; unfold wrap64; omega
    have e : addOne l0 q = l0.set q.1 ((l0[q.1]?.getD 0) + q.2) := by unfold addOne; rw [ew]
    have hne : ∀ q' ∈ qs, q'.1 ≠ q.1 := fun q' hq' he => hn.1 (he ▸ List.mem_map_of_mem hq')
    have hg : ∀ q' ∈ qs, (addOne l0 q)[q'.1]? = l0[q'.1]? := fun q' hq' => by rw [e, List.getElem?_set_ne (fun h => hne q' hq' h.symm)]
    obtain ⟨s1, s2, s3⟩ := addAll_spec qs (addOne l0 q) hn.2 (fun q' hq' => by
      obtain ⟨g1, g2⟩ := hq q' (by simp [hq'])
      rw [hg q' hq']
      exact ⟨by rw [e, List.length_set]; exact g1, g2⟩)
    have hd : addAll l0 (q :: qs) = addAll (addOne l0 q) qs := rfl
    rw [hd]
    refine ⟨?_, fun j hj => ?_, fun q' hq' => ?_⟩
    · rw [s1, e, sum_setH l0 q.1 _ h1, List.getElem?_eq_getElem h1, Option.getD_some, List.map_cons, List.sum_cons]
      omega
    · rw [List.map_cons, List.mem_cons, not_or] at hj
      rw [s2 j hj.2, e, List.getElem?_set_ne (fun h => hj.1 h.symm)]
    · rcases List.mem_cons.1 hq' with rfl | hq'
      · rw [s2 _ hn.1, e, List.getElem?_set_self h1]
      · rw [s3 q' hq', hg q' hq']
end Go.Proofs.Ytgghbmhmpkeccaa.Base
