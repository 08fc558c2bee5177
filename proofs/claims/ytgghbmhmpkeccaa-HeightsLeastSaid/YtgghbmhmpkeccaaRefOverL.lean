/- What the document's spreading of a length and its part of a length answer. Condition: the lengths are wide, at most 8000. -/
import Derived.Test.YtgghbmhmpkeccaaPAx23
import Derived.Test.YtgghbmhmpkeccaaPAx24
import Derived.Test.YtgghbmhmpkeccaaPAx22
import Derived.Test.YtgghbmhmpkeccaaThree
import Derived.Test.YtgghbmhmpkeccaaOverT
namespace Go.Proofs.Ytgghbmhmpkeccaa.Base
open Go.RowKit Go.Proofs.Ytgghbmhmpkeccaa.PA Go.Proofs.YtgghbmhmpkeccaaW.PrintWords Go.Proofs.YtgghbmhmpkeccaaW.PrintLast Go.Proofs.YtgghbmhmpkeccaaW.PrintMore
theorem refSumL (s x : Int) (hs : 0 ≤ s) (hx : 0 ≤ x) (h : s + x ≤ 9223372036854775807) : Ev (fun k => purflingref01_Sum.f k s x) (s + x) := by
  unfold purflingref01_Sum.f
  by_cases c : x > 0
  · refine Base.Ev.pos c (Ev.step (f := fun k => _) (fun k => by rw [purflingref01_Sum.j0]) ?_)
    have e : wrap64 (9223372036854775807 - x) = 9223372036854775807 - x := wrap_id (by omega) (by omega)
    rw [e]
    exact Base.Ev.neg (by simp; omega) (Base.Ev.neg (by omega) (Base.Ev.val (wrap_id (by omega) (by omega))))
  · refine Base.Ev.neg c (Ev.step (f := fun k => _) (fun k => by rw [purflingref01_Sum.j0]) ?_)
    exact Base.Ev.neg (by simp) (Base.Ev.neg (by omega) (Base.Ev.val (wrap_id (by omega) (by omega))))
theorem refSubL (s x : Int) (hs : 0 ≤ s) (hx : 0 ≤ x) (hs2 : s ≤ 9223372036854775807) (hx2 : x ≤ 9223372036854775807) : Ev (fun k => purflingref01_Sub.f k s x) (s - x) := by
  unfold purflingref01_Sub.f
  refine Base.Ev.neg (by omega) (Ev.step (f := fun k => _) (fun k => by rw [purflingref01_Sub.j0]) ?_)
  refine Base.Ev.neg (by simp) ?_
  by_cases c : x > 0
  · refine Base.Ev.pos c ?_
    have e : wrap64 (-9223372036854775808 + x) = -9223372036854775808 + x := wrap_id (by omega) (by omega)
    rw [e]
    exact Base.Ev.neg (by omega) (Base.Ev.val (wrap_id (by omega) (by omega)))
  · exact Base.Ev.neg c (Base.Ev.val (wrap_id (by omega) (by omega)))
theorem mx_commL (a b : Int) : mx a b = mx b a := by
  unfold mx
  split <;> split <;> omega
theorem refOver_l1L (l o : List Int) (hlen : o.length = l.length) (hl : l.length ≤ 8000) (hb : ∀ i : Nat, i < o.length → 0 ≤ rd o i + rd l i ∧ rd o i + rd l i ≤ 9223372036854775807) :
    ∀ (d i : Nat), i + d = l.length → Ev (fun k => purflingref14_Over.l1 k l o ((added o l).take i) (i : Int)) (added o l, 0)
  | 0, i, hi => by
    refine Ev.step (f := fun k => _) (fun k => by rw [purflingref14_Over.l1]) ?_
    refine Base.Ev.neg (by omega) (Base.Ev.val ?_)
    rw [List.take_of_length_le (by rw [added_length]; omega)]
  | d + 1, i, hi => by
    have hin : i < l.length := by omega
    have ih := refOver_l1L l o hlen hl hb d (i + 1) (by omega)
    have hb' := hb i (by omega)
    have e1 : wrap64 (rd l (i : Int) + rd o (i : Int)) = rd (added o l) (i : Int) := by
      rw [added_at o l i (by omega), wrap_id (by omega) (by omega)]
      omega
    have e2 : (added o l).take (i + 1) = (added o l).take i ++ [rd (added o l) (i : Int)] := by
      have hia : i < (added o l).length := by rw [added_length]; omega
      rw [List.take_succ_eq_append_getElem hia, rd_nat, List.getElem?_eq_getElem hia]
      rfl
    have e : wrap64 ((i : Int) + 1) = ((i + 1 : Nat) : Int) := by rw [wrap_id (by omega) (by omega)]; rfl
    rw [e2] at ih
    refine Ev.step (f := fun k => _) (fun k => by rw [purflingref14_Over.l1]) ?_
    refine Base.Ev.pos (by omega) (Base.Ev.pos (by omega) (Base.Ev.pos (by omega) (Base.Ev.pos (by rw [List.length_take]; omega) ?_)))
    rw [e1, e]
    exact ih
theorem refOver_l0L (n : Int) (l w o : List Int) (h : OverIs n l w o) (hl : l.length ≤ 8000) : ∀ (d i : Nat), i + d = l.length → Ev (fun k => purflingref14_Over.l0 k n l w (l.take i).sum (i : Int)) (added o l, 0)
  | 0, i, hi => by
    have hol : o.length = l.length := by rw [h.fair.len, h.len]
    have hs0 := sum_nonneg l (fun x hx => (h.lW x hx).1)
    have hs1 := sum_le 1125899906842623 l (fun x hx => (h.lW x hx).2)
    have hn := h.nW
    unfold wide at hn
    have hT : spareOf n l ≤ 1125899906842623 := by
      unfold spareOf mx
      split <;> omega
    have hend := refOver_l1L l o hol hl (fun i hi => by
      have h5 := h.fair.pos _ (rd_mem o i hi)
      have h6 := h.lW _ (rd_mem l i (by omega))
      unfold wide at h6
      omega) l.length 0 (by omega)
    rw [List.take_zero] at hend
    obtain ⟨o', e', hs, _, hev⟩ := share_both (spareOf n l) w (by have := h.len; omega)
    rw [h.share] at hs
    simp only [Option.some.injEq, Prod.mk.injEq] at hs
    obtain ⟨rfl, rfl⟩ := hs
    refine Ev.step (f := fun k => _) (fun k => by rw [purflingref14_Over.l0]) ?_
    rw [List.take_of_length_le (by omega)]
    refine Base.Ev.neg (by omega) (Ev.bind (refSubL n l.sum hn.1 hs0 (by omega) (by omega)) ?_)
    rw [show mx 0 (n - l.sum) = spareOf n l from mx_commL _ _]
    exact Ev.bind hev hend
  | d + 1, i, hi => by
    have hin : i < l.length := by omega
    have ih := refOver_l0L n l w o h hl d (i + 1) (by omega)
    have hlw := h.len
    have h1 := h.lW _ (rd_mem l i hin)
    have h2 := h.wW _ (rd_mem w i (by omega))
    unfold wide at h1 h2
    have s1 : (l.take (i + 1)).sum = (l.take i).sum + rd l i := by
      rw [List.take_succ_eq_append_getElem hin, List.sum_append, rd_nat, List.getElem?_eq_getElem hin]
      simp
    have s2 := sum_nonneg (l.take i) (fun x hx => (h.lW x (List.mem_of_mem_take hx)).1)
    have s3 := sum_le 1125899906842623 (l.take i) (fun x hx => (h.lW x (List.mem_of_mem_take hx)).2)
    rw [List.length_take] at s3
    have e : wrap64 ((i : Int) + 1) = ((i + 1 : Nat) : Int) := by rw [wrap_id (by omega) (by omega)]; rfl
    refine Ev.step (f := fun k => _) (fun k => by rw [purflingref14_Over.l0]) ?_
    refine Base.Ev.pos (by omega) (Base.Ev.pos (by omega) (Base.Ev.neg (by omega) (Base.Ev.neg (by omega) (Base.Ev.pos (by omega) (Base.Ev.neg (by omega) (Base.Ev.neg (by omega) ?_))))))
    refine Ev.bind (refSumL _ _ s2 h1.1 (by omega)) ?_
    rw [← s1, e]
    exact ih
theorem refOverL (n : Int) (l w o : List Int) (h : OverIs n l w o) (hp : 0 < l.length) (hl : l.length ≤ 8000) : Ev (fun k => purflingref14_Over.f k n l w) (added o l, 0) := by
  have hn := h.nW
  have hlw := h.len
  unfold wide at hn
  unfold purflingref14_Over.f
  refine Base.Ev.neg (by omega) (Base.Ev.neg (by omega) (Base.Ev.neg (by omega) (Base.Ev.neg (by omega) ?_)))
  have e : ((w.length : Int) != (l.length : Int)) = false := by simp [hlw]
  rw [e]
  refine Ev.step (f := fun k => _) (fun k => by rw [purflingref14_Over.j0]) ?_
  exact Base.Ev.neg (by simp) (refOver_l0L n l w o h hl l.length 0 (by omega))
theorem refPartNL (gap cols n : Int) (hn : wide n) (hg : 0 ≤ gap ∧ gap ≤ 1073741824) (hc : 1 ≤ cols ∧ cols ≤ 10000) : Ev (fun k => purflingref14_Part.f k n gap cols) (partN gap cols n) := by
  have hw : wrap64 (cols - 1) = cols - 1 := by unfold wrap64; omega
  have hs : ∀ a : Int, 0 ≤ a → a ≤ 1073741824 → purflingref01_size.f a = some a := by
    intro a h0 h1
    unfold purflingref01_size.f
    rw [if_neg (by omega), w64_id (n := a) h0 (by omega)]
  have h0 : 0 ≤ gap * (cols - 1) := Int.mul_nonneg hg.1 (by omega)
  have h1 : gap * (cols - 1) ≤ 1073741824 * 10000 := Int.mul_le_mul hg.2 (by omega) (by omega) (by omega)
  have hm : bits_Mul64.f gap (cols - 1) = some (0, gap * (cols - 1)) := by
    unfold bits_Mul64.f
    rw [if_pos ⟨⟨by omega, by omega⟩, ⟨by omega, by omega⟩⟩]
    congr 2 <;> omega
  unfold wide at hn
  unfold purflingref14_Part.f partN
  refine Base.Ev.neg (by omega) ?_
  rw [hw]
  have hmul : Ev (fun k => purflingref01_Mul.f k gap (cols - 1)) (gap * (cols - 1)) := by
    unfold purflingref01_Mul.f
    rw [hs gap hg.1 hg.2, hs (cols - 1) (by omega) (by omega)]
    simp only [Option.bind_some]
    rw [hm]
    have e1 : (decide (gap < 0) != decide (cols - 1 < 0)) = false := by
      rw [decide_eq_false (by omega), decide_eq_false (by omega)]
      rfl
    rw [e1]
    refine Ev.bind (Ev.now _) (Base.Ev.neg (by simp) (Base.Ev.neg (by simp) (Base.Ev.neg (by dsimp only; omega) (Base.Ev.val ?_))))
    dsimp only
    unfold wrap64
    omega
  refine Ev.bind hmul (Ev.bind (refSubL n (gap * (cols - 1)) hn.1 h0 (by omega) (by omega)) (Base.Ev.val (mx_commL _ _)))
end Go.Proofs.Ytgghbmhmpkeccaa.Base
