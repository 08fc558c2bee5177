/- What heights.Least answers where each cell has one row. Condition: at most 8000 rows. -/
import Derived.Test.YtgghbmhmpkeccaaLeastF
namespace Go.Proofs.Ytgghbmhmpkeccaa.Base
open Go.RowKit Go.Proofs.Ytgghbmhmpkeccaa.PA Go.Proofs.YtgghbmhmpkeccaaW.PrintWords Go.Proofs.YtgghbmhmpkeccaaW.PrintLast Go.Proofs.YtgghbmhmpkeccaaW.PrintMore
structure LeastIs (l0 : List Int) (l1 : List S35) (l2 : List Int) (a3 : Int) : Prop where
  most : l0.length ≤ 10000
  wants : ∀ x ∈ l0, -1 ≤ x ∧ x ≤ 1073741824
  len : l1.length = l2.length
  highs : ∀ x ∈ l2, wide x
  gap : 0 ≤ a3 ∧ a3 ≤ 1073741824
  places : ∀ p ∈ l1, 0 ≤ p.f1 ∧ p.f1 < (l0.length : Int) ∧ 1 ≤ p.f3 ∧ p.f3 ≤ (l0.length : Int) - p.f1
  few : l1.length ≤ 1000
theorem leastOk_iff (l0 : List Int) (l1 : List S35) (l2 : List Int) (a3 : Int) : leastOk l0 l1 l2 a3 = true ↔ LeastIs l0 l1 l2 a3 := by
  unfold leastOk rightH
  have hb : ∀ (a b : Int) (l : List Int), l.any (offBounds a b) = false ↔ ∀ x ∈ l, a ≤ x ∧ x ≤ b := by
    intro a b l
    rw [List.any_eq_false]
    refine forall_congr' fun x => forall_congr' fun _ => ?_
    unfold offBounds
    simp only [Bool.or_eq_true, decide_eq_true_eq]
    omega
  have hp : l1.any (badPlace l0.length) = false ↔ ∀ p ∈ l1, 0 ≤ p.f1 ∧ p.f1 < (l0.length : Int) ∧ 1 ≤ p.f3 ∧ p.f3 ≤ (l0.length : Int) - p.f1 := by
    rw [List.any_eq_false]
    refine forall_congr' fun x => forall_congr' fun _ => ?_
    unfold badPlace offRow
    simp only [Bool.or_eq_true, decide_eq_true_eq]
    omega
  have hg : lenBad a3 = false ↔ 0 ≤ a3 ∧ a3 ≤ 1073741824 := by
    unfold lenBad
    simp only [Bool.or_eq_false_iff, decide_eq_false_iff_not]
    omega
  simp only [Bool.and_eq_true, Bool.not_eq_true', decide_eq_true_eq, hb, hp, hg]
  constructor
  · rintro ⟨⟨⟨⟨⟨⟨h1, h2⟩, h3⟩, h4⟩, h5⟩, h6⟩, h7⟩
    exact ⟨h1, h2, h3, h4, h5, h6, h7⟩
  · rintro ⟨h1, h2, h3, h4, h5, h6, h7⟩
    exact ⟨⟨⟨⟨⟨⟨h1, h2⟩, h3⟩, h4⟩, h5⟩, h6⟩, h7⟩
/-- One cell of one row. -/
def putH (o : List Int) (x : HCell) : List Int := o.set x.f0.f1.toNat (mx (o[x.f0.f1.toNat]?.getD 0) x.f1)
theorem putH_length (o : List Int) (x : HCell) : (putH o x).length = o.length := List.length_set
theorem foldH_length : ∀ (L : List HCell) (o : List Int), (L.foldl putH o).length = o.length
  | [], _ => rfl
  | x :: L, o => (foldH_length L (putH o x)).trans (putH_length o x)
theorem leastT_ones (gap : Int) : ∀ (L : List HCell) (o : List Int), (∀ x ∈ L, x.f0.f3 = 1) → leastT gap L o = some (L.foldl putH o)
  | [], _, _ => rfl
  | x :: L, o, h => by
    have e : stepH gap o x = some (putH o x) := if_pos (h x (by simp))
    unfold leastT
    rw [e]
    exact leastT_ones gap L (putH o x) (fun y hy => h y (by simp [hy]))
theorem blocks_ones {key : Nat → Int} {n m : Nat} (hm : 0 < m) (h : ∀ i, i < n → key i = 1) : StabCell.blocksCell key n 1 m = List.range n := by
  obtain ⟨m, rfl⟩ : ∃ k, m = k + 1 := ⟨m - 1, by omega⟩
  unfold StabCell.blocksCell
  have e0 : (List.range n).filter (fun i => key i == 1 + ((0 : Nat) : Int)) = List.range n := List.filter_eq_self.2 (fun i hi => by
    have := h i (List.mem_range.1 hi)
    rw [beq_iff_eq]
    omega)
  have e1 : (List.map Nat.succ (List.range m)).flatMap (fun c : Nat => (List.range n).filter (fun i => key i == 1 + (c : Int))) = [] := by
    rw [List.flatMap_eq_nil_iff]
    intro c hc
    obtain ⟨c', _, rfl⟩ := List.mem_map.1 hc
    rw [List.filter_eq_nil_iff]
    intro i hi
    have := h i (List.mem_range.1 hi)
    rw [beq_iff_eq]
    omega
  rw [List.range_succ_eq_map (n := m), List.flatMap_cons, e0, e1, List.append_nil]
theorem cellsS_ones (L : List HCell) (m : Nat) (hm : 0 < m) (h : ∀ x ∈ L, x.f0.f3 = 1) : cellsS L m = L := by
  unfold cellsS
  rw [blocks_ones hm (fun i hi => by
    unfold rowsAt
    rw [List.getElem?_eq_getElem hi]
    exact h _ (List.getElem_mem hi))]
  refine List.ext_getElem (by simp) (fun i h1 h2 => ?_)
  rw [List.getElem_map, List.getElem_range, List.getElem?_eq_getElem h2]
  rfl
theorem least_ones {l0 : List Int} {l1 : List S35} {l2 : List Int} {a3 : Int} (hm : l0.length ≤ 8000) (h : LeastIs l0 l1 l2 a3) (hp : 0 < l0.length) (h1 : ∀ x ∈ cellsL l1 l2, x.f0.f3 = 1) :
    heights_Least.f l0 l1 l2 a3 = some ((cellsL l1 l2).foldl putH (l0.map (fun n => mx n 0)), 0) := by
  unfold heights_Least.f
  rw [if_pos hm, if_pos ((leastOk_iff _ _ _ _).2 h)]
  have e : leastR l0 l1 l2 a3 = some ((cellsL l1 l2).foldl putH (l0.map (fun n => mx n 0))) := by
    unfold leastR
    rw [cellsS_ones _ _ hp h1, leastT_ones _ _ _ h1]
  rw [e]
  rfl
end Go.Proofs.Ytgghbmhmpkeccaa.Base
