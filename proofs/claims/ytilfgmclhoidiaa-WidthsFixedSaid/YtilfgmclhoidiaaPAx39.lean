-- MADE by wip/tools/xprint.py of this repo: the kit's print.py, turned by this session, and texts by hand
import Derived.Test.YtilfgmclhoidiaaPAx0
import Derived.Test.YtilfgmclhoidiaaPAx20
import Derived.Test.YtilfgmclhoidiaaPAx33
import Derived.Test.YtilfgmclhoidiaaPAx38
namespace Go.Proofs.Ytilfgmclhoidiaa.PA
open Go.RowKit Go.Proofs.YtilfgmclhoidiaaW.PrintWords Go.Proofs.YtilfgmclhoidiaaW.PrintLast Go.Proofs.YtilfgmclhoidiaaW.PrintMore
attribute [local go_sem] max2_int min2_int max_two min_two max_three min_three max_four min_four   -- for this text's walks alone
set_option linter.unusedVariables false
set_option linter.unusedSimpArgs false

/-! ### purflingref15_First: function 28 -/
mutual
def purflingref15_First.j0 : Nat → List (S39) → List (S63) → Int → Bool → Option ((List (S39)) × Int)
 | 0, _, _, _, _ => none
 | k + 1, x0, x1, x2, x28 => if x28 = true then (some (([] : List (S39)), 130)) else (if ([] : List (S39)).length + x0.length < 8796093022208 then (purflingref15_First.l0 k x1 x2 (([] : List (S39)) ++ x0) 0) else (none))
def purflingref15_First.l0 : Nat → List (S63) → Int → List (S39) → Int → Option ((List (S39)) × Int)
 | 0, _, _, _, _ => none
 | k + 1, x1, x2, x9, x10 => if x10 < (x1.length : Int) then (if 0 ≤ x10 then (if ((rd_T63 x1 x10).f0.f1) = 0 then (purflingref15_First.j2 k x1 x2 x9 x10 (((rd_T63 x1 x10).f3.f0) == 0) ((rd_T63 x1 x10).f0.f0) ((rd_T63 x1 x10).f0.f1) ((rd_T63 x1 x10).f0.f2) ((rd_T63 x1 x10).f0.f3) ((rd_T63 x1 x10).f0.f4)) else (purflingref15_First.j2 k x1 x2 x9 x10 true ((rd_T63 x1 x10).f0.f0) ((rd_T63 x1 x10).f0.f1) ((rd_T63 x1 x10).f0.f2) ((rd_T63 x1 x10).f0.f3) ((rd_T63 x1 x10).f0.f4))) else (none)) else (some (x9, 0))
def purflingref15_First.j2 : Nat → List (S63) → Int → List (S39) → Int → Bool → Int → Int → Int → Int → Int → Option ((List (S39)) × Int)
 | 0, _, _, _, _, _, _, _, _, _, _ => none
 | k + 1, x1, x2, x9, x10, x54, x553000, x553001, x553002, x553003, x553004 => if x54 = true then (purflingref15_First.l0 k x1 x2 x9 (wrap64 (x10 + 1))) else (if 0 ≤ x10 then (if x10 < (x1.length : Int) then (if ((rd_T63 x1 x10).f3.f0) = 1 then ((purflingref14_Part.f k ((rd_T63 x1 x10).f3.f1) x2 x553004).bind fun t556 => (purflingref15_First.j3 k x1 x2 x9 x10 t556 x553000 x553001 x553002 x553003 x553004)) else (purflingref15_First.j3 k x1 x2 x9 x10 ((rd_T63 x1 x10).f3.f1) x553000 x553001 x553002 x553003 x553004)) else (none)) else (none))
def purflingref15_First.j3 : Nat → List (S63) → Int → List (S39) → Int → Int → Int → Int → Int → Int → Int → Option ((List (S39)) × Int)
 | 0, _, _, _, _, _, _, _, _, _, _ => none
 | k + 1, x1, x2, x9, x10, x12, x553000, x553001, x553002, x553003, x553004 => (purflingref01_Even.f k x12 x553004).bind fun bt557 => (purflingref15_First.l1 k x1 x2 x9 x10 bt557.1 0 x553000 x553001 x553002 x553003 x553004)
def purflingref15_First.l1 : Nat → List (S63) → Int → List (S39) → Int → List Int → Int → Int → Int → Int → Int → Int → Option ((List (S39)) × Int)
 | 0, _, _, _, _, _, _, _, _, _, _, _ => none
 | k + 1, x1, x2, x9, x10, x13, x15, x553000, x553001, x553002, x553003, x553004 => if x15 < x553004 then (if 0 ≤ (wrap64 (x553002 + x15)) then (if (wrap64 (x553002 + x15)) < (x9.length : Int) then (if ((rd_T39 x9 (wrap64 (x553002 + x15))).f0) = 0 then (if 0 ≤ x10 then (if x10 < (x1.length : Int) then (if 0 ≤ x15 then (if x15 < (x13.length : Int) then (purflingref15_First.l1 k x1 x2 (x9.set ((wrap64 (x553002 + x15)) : Int).toNat (⟨(rd_T63 x1 x10).f3.f0, rd x13 x15⟩ : S39)) x10 x13 (wrap64 (x15 + 1)) x553000 x553001 x553002 x553003 x553004) else (none)) else (none)) else (none)) else (none)) else (purflingref15_First.l1 k x1 x2 x9 x10 x13 (wrap64 (x15 + 1)) x553000 x553001 x553002 x553003 x553004)) else (none)) else (none)) else (purflingref15_First.l0 k x1 x2 x9 (wrap64 (x10 + 1)))
end
def purflingref15_First.f (k : Nat) (l0 : List (S39)) (l1 : List (S63)) (a2 : Int) : Option ((List (S39)) × Int) := (purflingref13_Right.f l0 l1).bind fun t547 => (if t547 = true then (if a2 < 0 then (purflingref15_First.j0 k l0 l1 a2 true) else (purflingref15_First.j0 k l0 l1 a2 (decide (a2 > 1073741824)))) else (purflingref15_First.j0 k l0 l1 a2 true))
theorem purflingref15_First.mono_l : ∀ k, (∀ y0 y1 y2 y3, LeO (purflingref15_First.j0 k y0 y1 y2 y3) (purflingref15_First.j0 (k + 1) y0 y1 y2 y3)) ∧ (∀ y0 y1 y2 y3, LeO (purflingref15_First.l0 k y0 y1 y2 y3) (purflingref15_First.l0 (k + 1) y0 y1 y2 y3)) ∧ (∀ y0 y1 y2 y3 y4 y5 y6 y7 y8 y9, LeO (purflingref15_First.j2 k y0 y1 y2 y3 y4 y5 y6 y7 y8 y9) (purflingref15_First.j2 (k + 1) y0 y1 y2 y3 y4 y5 y6 y7 y8 y9)) ∧ (∀ y0 y1 y2 y3 y4 y5 y6 y7 y8 y9, LeO (purflingref15_First.j3 k y0 y1 y2 y3 y4 y5 y6 y7 y8 y9) (purflingref15_First.j3 (k + 1) y0 y1 y2 y3 y4 y5 y6 y7 y8 y9)) ∧ (∀ y0 y1 y2 y3 y4 y5 y6 y7 y8 y9 y10, LeO (purflingref15_First.l1 k y0 y1 y2 y3 y4 y5 y6 y7 y8 y9 y10) (purflingref15_First.l1 (k + 1) y0 y1 y2 y3 y4 y5 y6 y7 y8 y9 y10))
 | 0 => ⟨fun _ _ _ _ r h => by simp [purflingref15_First.j0] at h, fun _ _ _ _ r h => by simp [purflingref15_First.l0] at h, fun _ _ _ _ _ _ _ _ _ _ r h => by simp [purflingref15_First.j2] at h, fun _ _ _ _ _ _ _ _ _ _ r h => by simp [purflingref15_First.j3] at h, fun _ _ _ _ _ _ _ _ _ _ _ r h => by simp [purflingref15_First.l1] at h⟩
 | k + 1 => by
  obtain ⟨ih0, ih1, ih2, ih3, ih4⟩ := purflingref15_First.mono_l k
  refine ⟨?_, ?_, ?_, ?_, ?_⟩
  ·intro y0 y1 y2 y3
   unfold purflingref15_First.j0
   repeat' first
   | (with_reducible exact ih0 _ _ _ _)
   | (with_reducible exact ih1 _ _ _ _)
   | (with_reducible exact ih2 _ _ _ _ _ _ _ _ _ _)
   | (with_reducible exact ih3 _ _ _ _ _ _ _ _ _ _)
   | (with_reducible exact ih4 _ _ _ _ _ _ _ _ _ _ _)
   | (with_reducible exact purflingref01_Even.mono _ _ _)
   | (with_reducible exact purflingref14_Part.mono _ _ _ _)
   | (with_reducible exact LeO.refl _)
   | (with_reducible exact LeO.none _)
   | (with_reducible refine LeO.ite ?_ ?_)
   | (with_reducible refine LeO.bind ?_ (fun _ => ?_))
   | exact ih0 _ _ _ _
   | exact ih1 _ _ _ _
   | exact ih2 _ _ _ _ _ _ _ _ _ _
   | exact ih3 _ _ _ _ _ _ _ _ _ _
   | exact ih4 _ _ _ _ _ _ _ _ _ _ _
   | exact purflingref01_Even.mono _ _ _
   | exact purflingref14_Part.mono _ _ _ _
   | exact LeO.none _
   | refine LeO.ite ?_ ?_
   | refine LeO.bind ?_ (fun _ => ?_)
  ·intro y0 y1 y2 y3
   unfold purflingref15_First.l0
   repeat' first
   | (with_reducible exact ih0 _ _ _ _)
   | (with_reducible exact ih1 _ _ _ _)
   | (with_reducible exact ih2 _ _ _ _ _ _ _ _ _ _)
   | (with_reducible exact ih3 _ _ _ _ _ _ _ _ _ _)
   | (with_reducible exact ih4 _ _ _ _ _ _ _ _ _ _ _)
   | (with_reducible exact purflingref01_Even.mono _ _ _)
   | (with_reducible exact purflingref14_Part.mono _ _ _ _)
   | (with_reducible exact LeO.refl _)
   | (with_reducible exact LeO.none _)
   | (with_reducible refine LeO.ite ?_ ?_)
   | (with_reducible refine LeO.bind ?_ (fun _ => ?_))
   | exact ih0 _ _ _ _
   | exact ih1 _ _ _ _
   | exact ih2 _ _ _ _ _ _ _ _ _ _
   | exact ih3 _ _ _ _ _ _ _ _ _ _
   | exact ih4 _ _ _ _ _ _ _ _ _ _ _
   | exact purflingref01_Even.mono _ _ _
   | exact purflingref14_Part.mono _ _ _ _
   | exact LeO.none _
   | refine LeO.ite ?_ ?_
   | refine LeO.bind ?_ (fun _ => ?_)
  ·intro y0 y1 y2 y3 y4 y5 y6 y7 y8 y9
   unfold purflingref15_First.j2
   repeat' first
   | (with_reducible exact ih0 _ _ _ _)
   | (with_reducible exact ih1 _ _ _ _)
   | (with_reducible exact ih2 _ _ _ _ _ _ _ _ _ _)
   | (with_reducible exact ih3 _ _ _ _ _ _ _ _ _ _)
   | (with_reducible exact ih4 _ _ _ _ _ _ _ _ _ _ _)
   | (with_reducible exact purflingref01_Even.mono _ _ _)
   | (with_reducible exact purflingref14_Part.mono _ _ _ _)
   | (with_reducible exact LeO.refl _)
   | (with_reducible exact LeO.none _)
   | (with_reducible refine LeO.ite ?_ ?_)
   | (with_reducible refine LeO.bind ?_ (fun _ => ?_))
   | exact ih0 _ _ _ _
   | exact ih1 _ _ _ _
   | exact ih2 _ _ _ _ _ _ _ _ _ _
   | exact ih3 _ _ _ _ _ _ _ _ _ _
   | exact ih4 _ _ _ _ _ _ _ _ _ _ _
   | exact purflingref01_Even.mono _ _ _
   | exact purflingref14_Part.mono _ _ _ _
   | exact LeO.none _
   | refine LeO.ite ?_ ?_
   | refine LeO.bind ?_ (fun _ => ?_)
  ·intro y0 y1 y2 y3 y4 y5 y6 y7 y8 y9
   unfold purflingref15_First.j3
   repeat' first
   | (with_reducible exact ih0 _ _ _ _)
   | (with_reducible exact ih1 _ _ _ _)
   | (with_reducible exact ih2 _ _ _ _ _ _ _ _ _ _)
   | (with_reducible exact ih3 _ _ _ _ _ _ _ _ _ _)
   | (with_reducible exact ih4 _ _ _ _ _ _ _ _ _ _ _)
   | (with_reducible exact purflingref01_Even.mono _ _ _)
   | (with_reducible exact purflingref14_Part.mono _ _ _ _)
   | (with_reducible exact LeO.refl _)
   | (with_reducible exact LeO.none _)
   | (with_reducible refine LeO.ite ?_ ?_)
   | (with_reducible refine LeO.bind ?_ (fun _ => ?_))
   | exact ih0 _ _ _ _
   | exact ih1 _ _ _ _
   | exact ih2 _ _ _ _ _ _ _ _ _ _
   | exact ih3 _ _ _ _ _ _ _ _ _ _
   | exact ih4 _ _ _ _ _ _ _ _ _ _ _
   | exact purflingref01_Even.mono _ _ _
   | exact purflingref14_Part.mono _ _ _ _
   | exact LeO.none _
   | refine LeO.ite ?_ ?_
   | refine LeO.bind ?_ (fun _ => ?_)
  ·intro y0 y1 y2 y3 y4 y5 y6 y7 y8 y9 y10
   unfold purflingref15_First.l1
   repeat' first
   | (with_reducible exact ih0 _ _ _ _)
   | (with_reducible exact ih1 _ _ _ _)
   | (with_reducible exact ih2 _ _ _ _ _ _ _ _ _ _)
   | (with_reducible exact ih3 _ _ _ _ _ _ _ _ _ _)
   | (with_reducible exact ih4 _ _ _ _ _ _ _ _ _ _ _)
   | (with_reducible exact purflingref01_Even.mono _ _ _)
   | (with_reducible exact purflingref14_Part.mono _ _ _ _)
   | (with_reducible exact LeO.refl _)
   | (with_reducible exact LeO.none _)
   | (with_reducible refine LeO.ite ?_ ?_)
   | (with_reducible refine LeO.bind ?_ (fun _ => ?_))
   | exact ih0 _ _ _ _
   | exact ih1 _ _ _ _
   | exact ih2 _ _ _ _ _ _ _ _ _ _
   | exact ih3 _ _ _ _ _ _ _ _ _ _
   | exact ih4 _ _ _ _ _ _ _ _ _ _ _
   | exact purflingref01_Even.mono _ _ _
   | exact purflingref14_Part.mono _ _ _ _
   | exact LeO.none _
   | refine LeO.ite ?_ ?_
   | refine LeO.bind ?_ (fun _ => ?_)
theorem purflingref15_First.mono : ∀ a0 a1 a2 k, LeO (purflingref15_First.f k a0 a1 a2) (purflingref15_First.f (k + 1) a0 a1 a2) := by
 intro a0 a1 a2 k
 obtain ⟨ih0, ih1, ih2, ih3, ih4⟩ := purflingref15_First.mono_l k
 unfold purflingref15_First.f
 repeat' first
   | (with_reducible exact ih0 _ _ _ _)
   | (with_reducible exact ih1 _ _ _ _)
   | (with_reducible exact ih2 _ _ _ _ _ _ _ _ _ _)
   | (with_reducible exact ih3 _ _ _ _ _ _ _ _ _ _)
   | (with_reducible exact ih4 _ _ _ _ _ _ _ _ _ _ _)
   | (with_reducible exact purflingref01_Even.mono _ _ _)
   | (with_reducible exact purflingref14_Part.mono _ _ _ _)
   | (with_reducible exact LeO.refl _)
   | (with_reducible exact LeO.none _)
   | (with_reducible refine LeO.ite ?_ ?_)
   | (with_reducible refine LeO.bind ?_ (fun _ => ?_))
   | exact ih0 _ _ _ _
   | exact ih1 _ _ _ _
   | exact ih2 _ _ _ _ _ _ _ _ _ _
   | exact ih3 _ _ _ _ _ _ _ _ _ _
   | exact ih4 _ _ _ _ _ _ _ _ _ _ _
   | exact purflingref01_Even.mono _ _ _
   | exact purflingref14_Part.mono _ _ _ _
   | exact LeO.none _
   | refine LeO.ite ?_ ?_
   | refine LeO.bind ?_ (fun _ => ?_)
def purflingref15_First.T19 : Bool × List (List Nat × List Nat) := (true, [([], []), ([], []), ([1], [1]), ([], []), ([2, 3], [2, 3]), ([], []), ([], []), ([5, 6], [5, 6]), ([7], [7]), ([8], [8]), ([9], [9]), ([], []), ([], []), ([11, 12], [11, 12]), ([13], [13]), ([10, 14], [10, 14]), ([0, 4, 0, 1, 2, 3, 4, 5, 6, 7, 8, 9, 10, 11, 12, 13, 14, 15], [0, 4]), ([16, 15, 0, 1, 2, 3, 4, 5, 6, 7, 8, 9, 10, 11, 12, 13, 14, 15], [15, 16])])
def purflingref15_First.B19 : List Nat := [0, 0, 2, 0, 14, 0, 0, 96, 224, 480, 992, 0, 0, 6144, 14336, 32736, 65535, 131071]
theorem purflingref15_First.tab19 : rtab .any (opsOf Try.f28 19) = purflingref15_First.T19 := by kernel_rfl
theorem purflingref15_First.bits19 : waitsOk purflingref15_First.T19.2 purflingref15_First.B19 = true := by kernel_rfl
set_option maxHeartbeats 8000000 in
set_option maxRecDepth 100000 in
theorem purflingref15_First.calls (k : Nat) (A0 : Option Addr) (c0 : Nat) (l0 : List (S39)) (A1 : Option Addr) (c1 : Nat) (l1 : List (S63)) (a2 : Int) (r1 : List (S39)) (r2 : Int) (w : World) (hr0 : Kd.C k39 w A0 l0.length l0) (hc0 : l0.length ≤ c0) (hr1 : Kd.C k63 w A1 l1.length l1) (hc1 : l1.length ≤ c1) (h : purflingref15_First.f k l0 l1 a2 = some (r1, r2)) :
  Calls Try.prog 28 #[.slice A0 l0.length c0, .slice A1 l1.length c1, .int .i64 a2] w fun e w' => ∃ v0_ : Value, e = .returned (.tuple #[v0_, .int .i64 r2]) ∧ Kd.R k39 39 w' w.heap.size (fun _ => True) v0_ r1 ∧ Below w.heap.size w w' := by
 have hu61 := Try.underlying61
 have hu39 := Try.underlying39
 have HR0 := Aside0.mk hr0
 have HC0 := Aside0.mk hc0
 clear hr0 hc0
 have HR1 := Aside0.mk hr1
 have HC1 := Aside0.mk hc1
 clear hr1 hc1
 have HB := Aside0.mk (Below.refl w.heap.size w)
 have H : ((purflingref13_Right.f l0 l1).bind fun t547 => (if t547 = true then (if a2 < 0 then (purflingref15_First.j0 k l0 l1 a2 true) else (purflingref15_First.j0 k l0 l1 a2 (decide (a2 > 1073741824)))) else (purflingref15_First.j0 k l0 l1 a2 true))) = some (r1, r2) := h
 clear h
 replace H := Option.bind_eq_some_iff.mp H
 obtain ⟨t547, A40, H⟩ := H
 replace H : (if t547 = true then (if a2 < 0 then (purflingref15_First.j0 k l0 l1 a2 true) else (purflingref15_First.j0 k l0 l1 a2 (decide (a2 > 1073741824)))) else (purflingref15_First.j0 k l0 l1 a2 true)) = some (r1, r2) := H
 have A4 := Aside0.mk A40
 clear A40
 have HC5 := Aside0.mk H
 clear H
 go_enter Try.func28, Try.ntmps28
 go_upto_region 2 with (first | ((with_reducible refine gate_callee (f := 53) rfl ?_); refine goesL_ (some 18) rfl rfl Try.func53 (by kernel_rfl) rfl #[.slice A0 l0.length c0, .slice A1 l1.length c1] rfl (by (try simp only [List.map_toArray, List.map_cons, List.map_nil]); first | done | rfl | (simp only [List.length_drop, List.length_take]; rfl)) ?_; (with_reducible refine (purflingref13_Right.calls _ _ l0 _ _ l1 t547 _ ?side1 ?side2 ?side3 ?side4 A4.out).mono ?_); (case side1 => repeat (first | exact HR0.out | (with_reducible refine Kd.C_alloc ?_ _) | (with_reducible refine Kd.C_drewN ?_ _) | (with_reducible refine Kd.C_drew ?_))); (case side2 => exact HC0.out); (case side3 => repeat (first | exact HR1.out | (with_reducible refine Kd.C_alloc ?_ _) | (with_reducible refine Kd.C_drewN ?_ _) | (with_reducible refine Kd.C_drew ?_))); (case side4 => exact HC1.out); rintro e w6 ⟨rfl, hb⟩; refine ⟨_, rfl, ?_⟩; have n0_ := Aside0.mk (below_step (by repeat (first | (with_reducible first | exact HB.out | apply below_alloc | apply pw_below_drewN | apply below_drew1) | exact HB.out)) hb); clear HB; have HB := n0_; clear n0_; (try clear hb); (try clear hb2); (try clear hk); (try clear hi)))
 (try simp only [Act.put, List.setIfInBounds_toArray, List.set_cons_zero, List.set_cons_succ])
 go_cut [28] (fun v28 wc => ∃ (kq : Nat) (x28_4 : Bool), v28 = .bool x28_4 ∧ Aside0 (purflingref15_First.j0 kq l0 l1 a2 x28_4 = some (r1, r2)) ∧ Aside0 (kq ≤ k) ∧ Aside0 (Below w.heap.size w wc))
 case first =>
  have H := HC5.out
  clear HC5
  by_cases c7 : t547 = true
  ·subst c7
   have H1 : (if a2 < 0 then (purflingref15_First.j0 k l0 l1 a2 true) else (purflingref15_First.j0 k l0 l1 a2 (decide (a2 > 1073741824)))) = some (r1, r2) := by rw [if_pos rfl] at H; exact H
   clear H
   have H := H1
   clear H1
   by_cases c8 : a2 < 0
   ·rw [if_pos c8] at H
    have c8b0 : decide (a2 < 0) = true := decide_eq_true c8
    clear c8
    (first | rw [c8b0] | (simp only [i64_w, i32_w]; rw [c8b0]) | skip)
    have H' := Aside0.mk H
    clear H
    go_wp2
    go_meet
    case rel => exact ⟨_, (true), (by first | rfl | (simp; done) | (simp [*]; done)), H', ⟨by first | omega | exact Nat.le_refl _⟩, ⟨by repeat (first | (with_reducible first | exact HB.out | apply below_alloc | apply pw_below_drewN | apply below_drew1) | exact HB.out)⟩⟩
   ·rw [if_neg c8] at H
    have c8b0 : decide (a2 < 0) = false := decide_eq_false c8
    clear c8
    (first | rw [c8b0] | (simp only [i64_w, i32_w]; rw [c8b0]) | skip)
    have H' := Aside0.mk H
    clear H
    go_wp2
    go_meet
    case rel => exact ⟨_, (decide (a2 > 1073741824)), (by first | rfl | (simp; done) | (simp [*]; done)), H', ⟨by first | omega | exact Nat.le_refl _⟩, ⟨by repeat (first | (with_reducible first | exact HB.out | apply below_alloc | apply pw_below_drewN | apply below_drew1) | exact HB.out)⟩⟩
  ·replace c7 := Bool.eq_false_iff.mpr c7
   subst c7
   have H1 : (purflingref15_First.j0 k l0 l1 a2 true) = some (r1, r2) := by rw [if_neg (show ¬ (false = true) by decide)] at H; exact H
   clear H
   have H := H1
   clear H1
   have H' := Aside0.mk H
   clear H
   go_wp2
   go_meet
   case rel => exact ⟨_, (true), (by first | rfl | (simp; done) | (simp [*]; done)), H', ⟨by first | omega | exact Nat.le_refl _⟩, ⟨by repeat (first | (with_reducible first | exact HB.out | apply below_alloc | apply pw_below_drewN | apply below_drew1) | exact HB.out)⟩⟩
 case rest =>
  clear HC5
  try clear c1
  try clear c2
  try clear p2
  try clear c5
  try clear c7
  try clear c8
  try clear c8b0
  obtain ⟨kq, x28_4, rfl, HA, HJ4, HB⟩ := hcut
  cases kq with
  | zero => exact absurd HA.out (by simp [purflingref15_First.j0])
  | succ kj4 =>
   have H := HA.out
   clear HA
   simp only [purflingref15_First.j0] at H
   by_cases c9 : x28_4 = true
   ·subst c9
    have H1 : (some (([] : List (S39)), 130)) = some (r1, r2) := by rw [if_pos rfl] at H; exact H
    clear H
    have H := H1
    clear H1
    simp only [Option.some.injEq, Prod.mk.injEq] at H
    obtain ⟨rfl, rfl⟩ := H
    go_wp2
    go_ret2
    exact ⟨_, by first | rfl | (simp [errW_none, errW_some] <;> rfl) | (simp [*, errW_none, errW_some] <;> rfl), by first | exact Kd.R_nil _ _ _ _ _ | exact Kd.N_nil _ _ _ _ _ | exact Kd.V_nil _ _ _ _ _ | exact Kd.Q_nil _ _ _ _ _ | exact Kd.S_nil _ _ _ _ _, by repeat (first | (with_reducible first | exact HB.out | apply below_alloc | apply pw_below_drewN | apply below_drew1) | exact HB.out)⟩
   ·replace c9 := Bool.eq_false_iff.mpr c9
    subst c9
    have H1 : (if ([] : List (S39)).length + l0.length < 8796093022208 then (purflingref15_First.l0 kj4 l1 a2 (([] : List (S39)) ++ l0) 0) else (none)) = some (r1, r2) := by rw [if_neg (show ¬ (false = true) by decide)] at H; exact H
    clear H
    have H := H1
    clear H1
    by_cases c10 : ([] : List (S39)).length + l0.length < 8796093022208
    ·rw [if_pos c10] at H
     have LMc10 := Aside0.mk c10
     clear c10
     obtain ⟨y548, hy548⟩ : ∃ y_ : List (S39), y_ = (([] : List (S39)) ++ l0) := ⟨_, rfl⟩
     replace H : (purflingref15_First.l0 kj4 l1 a2 y548 0) = some (r1, r2) := by first | (rw [hy548]; with_reducible exact H) | (have H2_ := (Option.bind_some _ _).symm.trans H; rw [hy548]; with_reducible exact H2_) | (have H2_ := (Option.bind_some _ _).symm.trans H; with_reducible exact H2_) | with_reducible exact H | (rw [hy548]; exact H) | exact H
     have Ny548 := Aside0.mk hy548
     clear hy548
     have H' := Aside0.mk H
     clear H
     go_wp2_with (first | ((with_reducible refine gate_builtin (b := .append) (xs := #[.tmp 29, .tmp 30]) rfl ?_); at_builtin; refine Kd.R_append_rows k39 (w0 := w) w.heap.size rfl (.tmp 29) (.tmp 30) 36 39 (.agg #[(.int .i64 0), (.int .i64 0)]) 16 rfl Try.underlying36 info39 rfl (by decide) (by omega) (.slice none 0 0) ([] : List (S39)) l0 _ _ _ (fun _ => True) (fun _ => False) rfl rfl ?aO ?aR (fun _ _ h => h) (fun _ h => h.elim) ?aF ?aB ?aS ?aL ?_; (case aR => repeat (first | exact (Kd.C_below HR0.out HB.out) | (with_reducible refine Kd.C_alloc ?_ _) | (with_reducible refine Kd.C_drewN ?_ _) | (with_reducible refine Kd.C_drew ?_))); (case aB => exact (by repeat (first | (with_reducible first | exact HB.out | apply below_alloc | apply pw_below_drewN | apply below_drew1) | exact HB.out))); (case aF => exact (fun _ _ => trivial)); (case aO => exact ((Kd.R_nil _ _ _ _ (fun _ => True)))); (case aS => exact (below_size (by repeat (first | (with_reducible first | exact HB.out | apply below_alloc | apply pw_below_drewN | apply below_drew1) | exact HB.out)))); (case aL => have := LMc10.out; omega); intro v549 w11 ho hb hg hat; rw [← Ny548.out] at ho; have n0_ := Aside0.mk (hb); have n1_ := Aside0.mk (ho); clear HB; have HB := n0_; have HO550 := n1_; clear n0_ n1_; clear ho hb hg hat))
     go_loopg [10] kj4 (fun kq v10 w' => ∃ (x9_2 : List (S39)) (x10_2 : Int), v10 = .int .i64 x10_2 ∧ Aside0 (purflingref15_First.l0 kq l1 a2 x9_2 x10_2 = some (r1, r2)) ∧ Aside0 (kq ≤ kj4) ∧ Aside0 (Kd.R k39 39 w' w.heap.size (fun _ => True) v549 x9_2) ∧ Aside0 (Below w.heap.size w w'))
     case atStart => exact ⟨(y548), (0), (by first | rfl | (simp; done) | (simp [*]; done)), H', ⟨Nat.le_refl _⟩, ⟨by (with_reducible repeat (first | apply Kd.R_alloc | apply Kd.R_drewN | apply Kd.R_drew)); exact HO550.out⟩, ⟨by repeat (first | (with_reducible first | exact HB.out | apply below_alloc | apply pw_below_drewN | apply below_drew1) | exact HB.out)⟩⟩
     case round =>
      clear H'
      try clear c1
      try clear c2
      try clear p2
      try clear c5
      try clear c7
      try clear c8
      try clear c8b0
      try clear c9
      try clear c10
      try clear p2
      obtain ⟨x9_2, x10_2, rfl, HA, HK2, HO_9, HB⟩ := hrel
      cases gk with
      | zero => exact absurd HA.out (by simp [purflingref15_First.l0])
      | succ k2 =>
       have H := HA.out
       clear HA
       simp only [purflingref15_First.l0] at H
       by_cases c12 : x10_2 < (l1.length : Int)
       ·rw [if_pos c12] at H
        have c12b0 : decide (x10_2 < (l1.length : Int)) = true := decide_eq_true c12
        clear c12
        by_cases c13 : 0 ≤ x10_2
        ·rw [if_pos c13] at H
         have c13b0 : decide (0 ≤ x10_2) = true := decide_eq_true c13
         clear c13
         have HC14 := Aside0.mk H
         clear H
         have p551 : 0 ≤ (x10_2 : Int) := of_decide_eq_true (by first | (with_reducible assumption) | assumption)
         have q551 : x10_2 < (l1.length : Int) := of_decide_eq_true (by first | (with_reducible assumption) | assumption)
         obtain ⟨ad551, e551, hx551_0, hx551_1, hx551_2, hx551_3, hx551_4, hx551_5, hx551_6, hx551_7, hx551_8⟩ := at_T63 HR1.out x10_2 p551 q551
         cases e551
         replace hx551_0 := (HB.out.cell (World.block_lt_of_cell? w _ hx551_0)).trans hx551_0
         replace hx551_1 := (HB.out.cell (World.block_lt_of_cell? w _ hx551_1)).trans hx551_1
         replace hx551_2 := (HB.out.cell (World.block_lt_of_cell? w _ hx551_2)).trans hx551_2
         replace hx551_3 := (HB.out.cell (World.block_lt_of_cell? w _ hx551_3)).trans hx551_3
         replace hx551_4 := (HB.out.cell (World.block_lt_of_cell? w _ hx551_4)).trans hx551_4
         replace hx551_5 := (HB.out.cell (World.block_lt_of_cell? w _ hx551_5)).trans hx551_5
         replace hx551_6 := (HB.out.cell (World.block_lt_of_cell? w _ hx551_6)).trans hx551_6
         replace hx551_7 := (HB.out.cell (World.block_lt_of_cell? w _ hx551_7)).trans hx551_7
         replace hx551_8 := (HB.out.cell (World.block_lt_of_cell? w _ hx551_8)).trans hx551_8
         replace p551 := eq_true p551
         replace q551 := eq_true q551
         go_upto_region 10 with (first | ((with_reducible refine gate_dst (N := 11) rfl ?_); refine box_event ?hg (N := 11) ?hd (cs := #[.int .i64 0, .int .i64 0, .int .i64 0, .int .i64 0, .int .i64 0]) (t := 61) ?hr ?_; (case hd => rfl); (case hg => rfl); (case hr => first | (go_simp; done) | (go_simp; rfl)); intro gb552 hg w15 hbox hb; have n0_ := Aside0.mk (Kd.R_below (by (with_reducible repeat (first | apply Kd.R_alloc | apply Kd.R_drewN | apply Kd.R_drew)); exact HO_9.out) hb); have n1_ := Aside0.mk (below_step (by repeat (first | (with_reducible first | exact HB.out | apply below_alloc | apply pw_below_drewN | apply below_drew1) | exact HB.out)) hb); have n2_ := Aside0.mk (hbox); have n3_ := Aside0.mk ((by rw [hg]; exact (below_size (by repeat (first | (with_reducible first | exact HB.out | apply below_alloc | apply pw_below_drewN | apply below_drew1) | exact HB.out))) : w.heap.size ≤ gb552)); have n4_ := Aside0.mk ((by rw [hg]; exact (below_size (by repeat (first | (with_reducible first | exact HB.out | apply below_alloc | apply pw_below_drewN | apply below_drew1) | exact HB.out))) : w.heap.size ≤ gb552)); clear HO_9; clear HB; have HO_9 := n0_; have HB := n1_; have BK552 := n2_; have GW552 := n3_; have GE552 := n4_; clear n0_ n1_ n2_ n3_ n4_; clear hb hbox hg; have hcz16_0 : w15.cell? ⟨gb552, 0, none⟩ = some (.int .i64 0) := (blk_cell BK552.out 0).trans rfl; have hcz16_1 : w15.cell? ⟨gb552, 1, none⟩ = some (.int .i64 0) := (blk_cell BK552.out 1).trans rfl; have hcz16_2 : w15.cell? ⟨gb552, 2, none⟩ = some (.int .i64 0) := (blk_cell BK552.out 2).trans rfl; have hcz16_3 : w15.cell? ⟨gb552, 3, none⟩ = some (.int .i64 0) := (blk_cell BK552.out 3).trans rfl; have hcz16_4 : w15.cell? ⟨gb552, 4, none⟩ = some (.int .i64 0) := (blk_cell BK552.out 4).trans rfl; have hfz16_0 := blk_frozen BK552.out 0; have hfz16_1 := blk_frozen BK552.out 1; have hfz16_2 := blk_frozen BK552.out 2; have hfz16_3 := blk_frozen BK552.out 3; have hfz16_4 := blk_frozen BK552.out 4))
         (try simp only [Act.put, List.setIfInBounds_toArray, List.set_cons_zero, List.set_cons_succ])
         go_cut [54] (fun v54 wc => ∃ (kq : Nat) (x54_13 : Bool), v54 = .bool x54_13 ∧ Aside0 (purflingref15_First.j2 kq l1 a2 x9_2 x10_2 x54_13 ((rd_T63 l1 x10_2).f0.f0) ((rd_T63 l1 x10_2).f0.f1) ((rd_T63 l1 x10_2).f0.f2) ((rd_T63 l1 x10_2).f0.f3) ((rd_T63 l1 x10_2).f0.f4) = some (r1, r2)) ∧ Aside0 (kq ≤ k2) ∧ Aside0 (Kd.R k39 39 wc w.heap.size (fun _ => True) v549 x9_2) ∧ Aside0 (wc.heap[gb552]? = some (.cells #[.int .i64 ((rd_T63 l1 x10_2).f0.f0), .int .i64 ((rd_T63 l1 x10_2).f0.f1), .int .i64 ((rd_T63 l1 x10_2).f0.f2), .int .i64 ((rd_T63 l1 x10_2).f0.f3), .int .i64 ((rd_T63 l1 x10_2).f0.f4)] 61 (0, 0))) ∧ Aside0 (Below w.heap.size w wc))
         case first =>
          have H := HC14.out
          clear HC14
          by_cases c17 : ((rd_T63 l1 x10_2).f0.f1) = 0
          ·rw [if_pos c17] at H
           have c17b0 : (((rd_T63 l1 x10_2).f0.f1) == 0) = true := beq_iff_eq.mpr c17
           have c17b1 : (((rd_T63 l1 x10_2).f0.f1) != 0) = false := bne_eq_false_iff_eq.mpr c17
           clear c17
           (first | rw [c17b0] | (simp only [i64_w, i32_w]; rw [c17b0]) | skip)
           have H' := Aside0.mk H
           clear H
           have hcz18_0 : w15.cell? ⟨gb552, 0, none⟩ = some (.int .i64 0) := (blk_cell BK552.out 0).trans rfl
           have hcz18_1 : w15.cell? ⟨gb552, 1, none⟩ = some (.int .i64 0) := (blk_cell BK552.out 1).trans rfl
           have hcz18_2 : w15.cell? ⟨gb552, 2, none⟩ = some (.int .i64 0) := (blk_cell BK552.out 2).trans rfl
           have hcz18_3 : w15.cell? ⟨gb552, 3, none⟩ = some (.int .i64 0) := (blk_cell BK552.out 3).trans rfl
           have hcz18_4 : w15.cell? ⟨gb552, 4, none⟩ = some (.int .i64 0) := (blk_cell BK552.out 4).trans rfl
           have hfz18_0 := blk_frozen BK552.out 0
           have hfz18_1 := blk_frozen BK552.out 1
           have hfz18_2 := blk_frozen BK552.out 2
           have hfz18_3 := blk_frozen BK552.out 3
           have hfz18_4 := blk_frozen BK552.out 4
           have p553 : 0 ≤ (x10_2 : Int) := of_decide_eq_true (by first | (with_reducible assumption) | assumption)
           have q553 : x10_2 < (l1.length : Int) := of_decide_eq_true (by first | (with_reducible assumption) | assumption)
           obtain ⟨ad553, e553, hx553_0, hx553_1, hx553_2, hx553_3, hx553_4, hx553_5, hx553_6, hx553_7, hx553_8⟩ := at_T63 HR1.out x10_2 p553 q553
           obtain rfl : ad551 = ad553 := (by injection e553)
           have hn553_0 : ad551.block ≠ gb552 := Nat.ne_of_lt (Nat.lt_of_lt_of_le (by have := World.block_lt_of_cell? _ _ hx553_0; first | rwa [add_block] at this | exact this) GW552.out)
           have hn553_1 : ad551.block ≠ gb552 := Nat.ne_of_lt (Nat.lt_of_lt_of_le (by have := World.block_lt_of_cell? _ _ hx553_0; first | rwa [add_block] at this | exact this) GW552.out)
           have hn553_2 : ad551.block ≠ gb552 := Nat.ne_of_lt (Nat.lt_of_lt_of_le (by have := World.block_lt_of_cell? _ _ hx553_0; first | rwa [add_block] at this | exact this) GW552.out)
           have hn553_3 : ad551.block ≠ gb552 := Nat.ne_of_lt (Nat.lt_of_lt_of_le (by have := World.block_lt_of_cell? _ _ hx553_0; first | rwa [add_block] at this | exact this) GW552.out)
           have hn553_4 : ad551.block ≠ gb552 := Nat.ne_of_lt (Nat.lt_of_lt_of_le (by have := World.block_lt_of_cell? _ _ hx553_0; first | rwa [add_block] at this | exact this) GW552.out)
           replace hx553_0 := (HB.out.cell (World.block_lt_of_cell? w _ hx553_0)).trans hx553_0
           replace hx553_1 := (HB.out.cell (World.block_lt_of_cell? w _ hx553_1)).trans hx553_1
           replace hx553_2 := (HB.out.cell (World.block_lt_of_cell? w _ hx553_2)).trans hx553_2
           replace hx553_3 := (HB.out.cell (World.block_lt_of_cell? w _ hx553_3)).trans hx553_3
           replace hx553_4 := (HB.out.cell (World.block_lt_of_cell? w _ hx553_4)).trans hx553_4
           replace hx553_5 := (HB.out.cell (World.block_lt_of_cell? w _ hx553_5)).trans hx553_5
           replace hx553_6 := (HB.out.cell (World.block_lt_of_cell? w _ hx553_6)).trans hx553_6
           replace hx553_7 := (HB.out.cell (World.block_lt_of_cell? w _ hx553_7)).trans hx553_7
           replace hx553_8 := (HB.out.cell (World.block_lt_of_cell? w _ hx553_8)).trans hx553_8
           replace hx553_0 := (cell_far (p := ⟨gb552, 0, none⟩) (by first | (rw [add_block]; exact hn553_0) | (show (Addr.add _ _).block ≠ _; rw [add_block]; exact hn553_0) | exact hn553_0) (.int .i64 ((rd_T63 l1 x10_2).f0.f0))).trans hx553_0
           replace hx553_1 := (cell_far (p := ⟨gb552, 0, none⟩) (by first | (rw [add_block]; exact hn553_0) | (show (Addr.add _ _).block ≠ _; rw [add_block]; exact hn553_0) | exact hn553_0) (.int .i64 ((rd_T63 l1 x10_2).f0.f0))).trans hx553_1
           replace hx553_2 := (cell_far (p := ⟨gb552, 0, none⟩) (by first | (rw [add_block]; exact hn553_0) | (show (Addr.add _ _).block ≠ _; rw [add_block]; exact hn553_0) | exact hn553_0) (.int .i64 ((rd_T63 l1 x10_2).f0.f0))).trans hx553_2
           replace hx553_3 := (cell_far (p := ⟨gb552, 0, none⟩) (by first | (rw [add_block]; exact hn553_0) | (show (Addr.add _ _).block ≠ _; rw [add_block]; exact hn553_0) | exact hn553_0) (.int .i64 ((rd_T63 l1 x10_2).f0.f0))).trans hx553_3
           replace hx553_4 := (cell_far (p := ⟨gb552, 0, none⟩) (by first | (rw [add_block]; exact hn553_0) | (show (Addr.add _ _).block ≠ _; rw [add_block]; exact hn553_0) | exact hn553_0) (.int .i64 ((rd_T63 l1 x10_2).f0.f0))).trans hx553_4
           replace hx553_5 := (cell_far (p := ⟨gb552, 0, none⟩) (by first | (rw [add_block]; exact hn553_0) | (show (Addr.add _ _).block ≠ _; rw [add_block]; exact hn553_0) | exact hn553_0) (.int .i64 ((rd_T63 l1 x10_2).f0.f0))).trans hx553_5
           replace hx553_6 := (cell_far (p := ⟨gb552, 0, none⟩) (by first | (rw [add_block]; exact hn553_0) | (show (Addr.add _ _).block ≠ _; rw [add_block]; exact hn553_0) | exact hn553_0) (.int .i64 ((rd_T63 l1 x10_2).f0.f0))).trans hx553_6
           replace hx553_7 := (cell_far (p := ⟨gb552, 0, none⟩) (by first | (rw [add_block]; exact hn553_0) | (show (Addr.add _ _).block ≠ _; rw [add_block]; exact hn553_0) | exact hn553_0) (.int .i64 ((rd_T63 l1 x10_2).f0.f0))).trans hx553_7
           replace hx553_8 := (cell_far (p := ⟨gb552, 0, none⟩) (by first | (rw [add_block]; exact hn553_0) | (show (Addr.add _ _).block ≠ _; rw [add_block]; exact hn553_0) | exact hn553_0) (.int .i64 ((rd_T63 l1 x10_2).f0.f0))).trans hx553_8
           replace hx553_0 := (cell_far (p := ⟨gb552, 1, none⟩) (by first | (rw [add_block]; exact hn553_1) | (show (Addr.add _ _).block ≠ _; rw [add_block]; exact hn553_1) | exact hn553_1) (.int .i64 ((rd_T63 l1 x10_2).f0.f1))).trans hx553_0
           replace hx553_1 := (cell_far (p := ⟨gb552, 1, none⟩) (by first | (rw [add_block]; exact hn553_1) | (show (Addr.add _ _).block ≠ _; rw [add_block]; exact hn553_1) | exact hn553_1) (.int .i64 ((rd_T63 l1 x10_2).f0.f1))).trans hx553_1
           replace hx553_2 := (cell_far (p := ⟨gb552, 1, none⟩) (by first | (rw [add_block]; exact hn553_1) | (show (Addr.add _ _).block ≠ _; rw [add_block]; exact hn553_1) | exact hn553_1) (.int .i64 ((rd_T63 l1 x10_2).f0.f1))).trans hx553_2
           replace hx553_3 := (cell_far (p := ⟨gb552, 1, none⟩) (by first | (rw [add_block]; exact hn553_1) | (show (Addr.add _ _).block ≠ _; rw [add_block]; exact hn553_1) | exact hn553_1) (.int .i64 ((rd_T63 l1 x10_2).f0.f1))).trans hx553_3
           replace hx553_4 := (cell_far (p := ⟨gb552, 1, none⟩) (by first | (rw [add_block]; exact hn553_1) | (show (Addr.add _ _).block ≠ _; rw [add_block]; exact hn553_1) | exact hn553_1) (.int .i64 ((rd_T63 l1 x10_2).f0.f1))).trans hx553_4
           replace hx553_5 := (cell_far (p := ⟨gb552, 1, none⟩) (by first | (rw [add_block]; exact hn553_1) | (show (Addr.add _ _).block ≠ _; rw [add_block]; exact hn553_1) | exact hn553_1) (.int .i64 ((rd_T63 l1 x10_2).f0.f1))).trans hx553_5
           replace hx553_6 := (cell_far (p := ⟨gb552, 1, none⟩) (by first | (rw [add_block]; exact hn553_1) | (show (Addr.add _ _).block ≠ _; rw [add_block]; exact hn553_1) | exact hn553_1) (.int .i64 ((rd_T63 l1 x10_2).f0.f1))).trans hx553_6
           replace hx553_7 := (cell_far (p := ⟨gb552, 1, none⟩) (by first | (rw [add_block]; exact hn553_1) | (show (Addr.add _ _).block ≠ _; rw [add_block]; exact hn553_1) | exact hn553_1) (.int .i64 ((rd_T63 l1 x10_2).f0.f1))).trans hx553_7
           replace hx553_8 := (cell_far (p := ⟨gb552, 1, none⟩) (by first | (rw [add_block]; exact hn553_1) | (show (Addr.add _ _).block ≠ _; rw [add_block]; exact hn553_1) | exact hn553_1) (.int .i64 ((rd_T63 l1 x10_2).f0.f1))).trans hx553_8
           replace hx553_0 := (cell_far (p := ⟨gb552, 2, none⟩) (by first | (rw [add_block]; exact hn553_2) | (show (Addr.add _ _).block ≠ _; rw [add_block]; exact hn553_2) | exact hn553_2) (.int .i64 ((rd_T63 l1 x10_2).f0.f2))).trans hx553_0
           replace hx553_1 := (cell_far (p := ⟨gb552, 2, none⟩) (by first | (rw [add_block]; exact hn553_2) | (show (Addr.add _ _).block ≠ _; rw [add_block]; exact hn553_2) | exact hn553_2) (.int .i64 ((rd_T63 l1 x10_2).f0.f2))).trans hx553_1
           replace hx553_2 := (cell_far (p := ⟨gb552, 2, none⟩) (by first | (rw [add_block]; exact hn553_2) | (show (Addr.add _ _).block ≠ _; rw [add_block]; exact hn553_2) | exact hn553_2) (.int .i64 ((rd_T63 l1 x10_2).f0.f2))).trans hx553_2
           replace hx553_3 := (cell_far (p := ⟨gb552, 2, none⟩) (by first | (rw [add_block]; exact hn553_2) | (show (Addr.add _ _).block ≠ _; rw [add_block]; exact hn553_2) | exact hn553_2) (.int .i64 ((rd_T63 l1 x10_2).f0.f2))).trans hx553_3
           replace hx553_4 := (cell_far (p := ⟨gb552, 2, none⟩) (by first | (rw [add_block]; exact hn553_2) | (show (Addr.add _ _).block ≠ _; rw [add_block]; exact hn553_2) | exact hn553_2) (.int .i64 ((rd_T63 l1 x10_2).f0.f2))).trans hx553_4
           replace hx553_5 := (cell_far (p := ⟨gb552, 2, none⟩) (by first | (rw [add_block]; exact hn553_2) | (show (Addr.add _ _).block ≠ _; rw [add_block]; exact hn553_2) | exact hn553_2) (.int .i64 ((rd_T63 l1 x10_2).f0.f2))).trans hx553_5
           replace hx553_6 := (cell_far (p := ⟨gb552, 2, none⟩) (by first | (rw [add_block]; exact hn553_2) | (show (Addr.add _ _).block ≠ _; rw [add_block]; exact hn553_2) | exact hn553_2) (.int .i64 ((rd_T63 l1 x10_2).f0.f2))).trans hx553_6
           replace hx553_7 := (cell_far (p := ⟨gb552, 2, none⟩) (by first | (rw [add_block]; exact hn553_2) | (show (Addr.add _ _).block ≠ _; rw [add_block]; exact hn553_2) | exact hn553_2) (.int .i64 ((rd_T63 l1 x10_2).f0.f2))).trans hx553_7
           replace hx553_8 := (cell_far (p := ⟨gb552, 2, none⟩) (by first | (rw [add_block]; exact hn553_2) | (show (Addr.add _ _).block ≠ _; rw [add_block]; exact hn553_2) | exact hn553_2) (.int .i64 ((rd_T63 l1 x10_2).f0.f2))).trans hx553_8
           replace hx553_0 := (cell_far (p := ⟨gb552, 3, none⟩) (by first | (rw [add_block]; exact hn553_3) | (show (Addr.add _ _).block ≠ _; rw [add_block]; exact hn553_3) | exact hn553_3) (.int .i64 ((rd_T63 l1 x10_2).f0.f3))).trans hx553_0
           replace hx553_1 := (cell_far (p := ⟨gb552, 3, none⟩) (by first | (rw [add_block]; exact hn553_3) | (show (Addr.add _ _).block ≠ _; rw [add_block]; exact hn553_3) | exact hn553_3) (.int .i64 ((rd_T63 l1 x10_2).f0.f3))).trans hx553_1
           replace hx553_2 := (cell_far (p := ⟨gb552, 3, none⟩) (by first | (rw [add_block]; exact hn553_3) | (show (Addr.add _ _).block ≠ _; rw [add_block]; exact hn553_3) | exact hn553_3) (.int .i64 ((rd_T63 l1 x10_2).f0.f3))).trans hx553_2
           replace hx553_3 := (cell_far (p := ⟨gb552, 3, none⟩) (by first | (rw [add_block]; exact hn553_3) | (show (Addr.add _ _).block ≠ _; rw [add_block]; exact hn553_3) | exact hn553_3) (.int .i64 ((rd_T63 l1 x10_2).f0.f3))).trans hx553_3
           replace hx553_4 := (cell_far (p := ⟨gb552, 3, none⟩) (by first | (rw [add_block]; exact hn553_3) | (show (Addr.add _ _).block ≠ _; rw [add_block]; exact hn553_3) | exact hn553_3) (.int .i64 ((rd_T63 l1 x10_2).f0.f3))).trans hx553_4
           replace hx553_5 := (cell_far (p := ⟨gb552, 3, none⟩) (by first | (rw [add_block]; exact hn553_3) | (show (Addr.add _ _).block ≠ _; rw [add_block]; exact hn553_3) | exact hn553_3) (.int .i64 ((rd_T63 l1 x10_2).f0.f3))).trans hx553_5
           replace hx553_6 := (cell_far (p := ⟨gb552, 3, none⟩) (by first | (rw [add_block]; exact hn553_3) | (show (Addr.add _ _).block ≠ _; rw [add_block]; exact hn553_3) | exact hn553_3) (.int .i64 ((rd_T63 l1 x10_2).f0.f3))).trans hx553_6
           replace hx553_7 := (cell_far (p := ⟨gb552, 3, none⟩) (by first | (rw [add_block]; exact hn553_3) | (show (Addr.add _ _).block ≠ _; rw [add_block]; exact hn553_3) | exact hn553_3) (.int .i64 ((rd_T63 l1 x10_2).f0.f3))).trans hx553_7
           replace hx553_8 := (cell_far (p := ⟨gb552, 3, none⟩) (by first | (rw [add_block]; exact hn553_3) | (show (Addr.add _ _).block ≠ _; rw [add_block]; exact hn553_3) | exact hn553_3) (.int .i64 ((rd_T63 l1 x10_2).f0.f3))).trans hx553_8
           replace hx553_0 := (cell_far (p := ⟨gb552, 4, none⟩) (by first | (rw [add_block]; exact hn553_4) | (show (Addr.add _ _).block ≠ _; rw [add_block]; exact hn553_4) | exact hn553_4) (.int .i64 ((rd_T63 l1 x10_2).f0.f4))).trans hx553_0
           replace hx553_1 := (cell_far (p := ⟨gb552, 4, none⟩) (by first | (rw [add_block]; exact hn553_4) | (show (Addr.add _ _).block ≠ _; rw [add_block]; exact hn553_4) | exact hn553_4) (.int .i64 ((rd_T63 l1 x10_2).f0.f4))).trans hx553_1
           replace hx553_2 := (cell_far (p := ⟨gb552, 4, none⟩) (by first | (rw [add_block]; exact hn553_4) | (show (Addr.add _ _).block ≠ _; rw [add_block]; exact hn553_4) | exact hn553_4) (.int .i64 ((rd_T63 l1 x10_2).f0.f4))).trans hx553_2
           replace hx553_3 := (cell_far (p := ⟨gb552, 4, none⟩) (by first | (rw [add_block]; exact hn553_4) | (show (Addr.add _ _).block ≠ _; rw [add_block]; exact hn553_4) | exact hn553_4) (.int .i64 ((rd_T63 l1 x10_2).f0.f4))).trans hx553_3
           replace hx553_4 := (cell_far (p := ⟨gb552, 4, none⟩) (by first | (rw [add_block]; exact hn553_4) | (show (Addr.add _ _).block ≠ _; rw [add_block]; exact hn553_4) | exact hn553_4) (.int .i64 ((rd_T63 l1 x10_2).f0.f4))).trans hx553_4
           replace hx553_5 := (cell_far (p := ⟨gb552, 4, none⟩) (by first | (rw [add_block]; exact hn553_4) | (show (Addr.add _ _).block ≠ _; rw [add_block]; exact hn553_4) | exact hn553_4) (.int .i64 ((rd_T63 l1 x10_2).f0.f4))).trans hx553_5
           replace hx553_6 := (cell_far (p := ⟨gb552, 4, none⟩) (by first | (rw [add_block]; exact hn553_4) | (show (Addr.add _ _).block ≠ _; rw [add_block]; exact hn553_4) | exact hn553_4) (.int .i64 ((rd_T63 l1 x10_2).f0.f4))).trans hx553_6
           replace hx553_7 := (cell_far (p := ⟨gb552, 4, none⟩) (by first | (rw [add_block]; exact hn553_4) | (show (Addr.add _ _).block ≠ _; rw [add_block]; exact hn553_4) | exact hn553_4) (.int .i64 ((rd_T63 l1 x10_2).f0.f4))).trans hx553_7
           replace hx553_8 := (cell_far (p := ⟨gb552, 4, none⟩) (by first | (rw [add_block]; exact hn553_4) | (show (Addr.add _ _).block ≠ _; rw [add_block]; exact hn553_4) | exact hn553_4) (.int .i64 ((rd_T63 l1 x10_2).f0.f4))).trans hx553_8
           clear hn553_0
           clear hn553_1
           clear hn553_2
           clear hn553_3
           clear hn553_4
           replace p553 := eq_true p553
           replace q553 := eq_true q553
           go_wp2
           go_meet
           case rel => exact ⟨_, ((((rd_T63 l1 x10_2).f3.f0) == 0)), (by first | rfl | (simp; done) | (simp [*]; done)), H', ⟨by have := HJ4.out; have := HK2.out; first | omega | exact Nat.le_refl _⟩, ⟨by (with_reducible repeat (first | apply Kd.R_alloc | apply Kd.R_drewN | apply Kd.R_drew)); exact Kd.R_mono (Kd.R_far (p := ⟨gb552, 4, none⟩) (Kd.R_far (p := ⟨gb552, 3, none⟩) (Kd.R_far (p := ⟨gb552, 2, none⟩) (Kd.R_far (p := ⟨gb552, 1, none⟩) (Kd.R_far (p := ⟨gb552, 0, none⟩) (Kd.R_types HO_9.out BK552.out (by decide)) (fun _ hk => hk.2) (.int .i64 ((rd_T63 l1 x10_2).f0.f0))) (fun _ hk => hk.2) (.int .i64 ((rd_T63 l1 x10_2).f0.f1))) (fun _ hk => hk.2) (.int .i64 ((rd_T63 l1 x10_2).f0.f2))) (fun _ hk => hk.2) (.int .i64 ((rd_T63 l1 x10_2).f0.f3))) (fun _ hk => hk.2) (.int .i64 ((rd_T63 l1 x10_2).f0.f4))) (fun _ hk => trivial)⟩, ⟨by (with_reducible repeat (first | refine blk_drewN ?_ _ | refine blk_drew ?_ | refine blk_alloc ?_ _)); refine blk_put (cs := #[.int .i64 ((rd_T63 l1 x10_2).f0.f0), .int .i64 ((rd_T63 l1 x10_2).f0.f1), .int .i64 ((rd_T63 l1 x10_2).f0.f2), .int .i64 ((rd_T63 l1 x10_2).f0.f3), .int .i64 0]) ?_ 4 _ rfl; (with_reducible repeat (first | refine blk_drewN ?_ _ | refine blk_drew ?_ | refine blk_alloc ?_ _)); refine blk_put (cs := #[.int .i64 ((rd_T63 l1 x10_2).f0.f0), .int .i64 ((rd_T63 l1 x10_2).f0.f1), .int .i64 ((rd_T63 l1 x10_2).f0.f2), .int .i64 0, .int .i64 0]) ?_ 3 _ rfl; (with_reducible repeat (first | refine blk_drewN ?_ _ | refine blk_drew ?_ | refine blk_alloc ?_ _)); refine blk_put (cs := #[.int .i64 ((rd_T63 l1 x10_2).f0.f0), .int .i64 ((rd_T63 l1 x10_2).f0.f1), .int .i64 0, .int .i64 0, .int .i64 0]) ?_ 2 _ rfl; (with_reducible repeat (first | refine blk_drewN ?_ _ | refine blk_drew ?_ | refine blk_alloc ?_ _)); refine blk_put (cs := #[.int .i64 ((rd_T63 l1 x10_2).f0.f0), .int .i64 0, .int .i64 0, .int .i64 0, .int .i64 0]) ?_ 1 _ rfl; (with_reducible repeat (first | refine blk_drewN ?_ _ | refine blk_drew ?_ | refine blk_alloc ?_ _)); refine blk_put (cs := #[.int .i64 0, .int .i64 0, .int .i64 0, .int .i64 0, .int .i64 0]) ?_ 0 _ rfl; (with_reducible repeat (first | refine blk_drewN ?_ _ | refine blk_drew ?_ | refine blk_alloc ?_ _)); exact BK552.out⟩, ⟨by repeat (first | (with_reducible first | exact HB.out | apply below_alloc | apply pw_below_drewN | apply below_drew1 | refine below_set ?_ GE552.out) | exact HB.out)⟩⟩
          ·rw [if_neg c17] at H
           have c17b0 : (((rd_T63 l1 x10_2).f0.f1) == 0) = false := beq_eq_false_iff_ne.mpr c17
           have c17b1 : (((rd_T63 l1 x10_2).f0.f1) != 0) = true := bne_iff_ne.mpr c17
           (first | rw [c17b0] | (simp only [i64_w, i32_w]; rw [c17b0]) | skip)
           have H' := Aside0.mk H
           clear H
           have hcz19_0 : w15.cell? ⟨gb552, 0, none⟩ = some (.int .i64 0) := (blk_cell BK552.out 0).trans rfl
           have hcz19_1 : w15.cell? ⟨gb552, 1, none⟩ = some (.int .i64 0) := (blk_cell BK552.out 1).trans rfl
           have hcz19_2 : w15.cell? ⟨gb552, 2, none⟩ = some (.int .i64 0) := (blk_cell BK552.out 2).trans rfl
           have hcz19_3 : w15.cell? ⟨gb552, 3, none⟩ = some (.int .i64 0) := (blk_cell BK552.out 3).trans rfl
           have hcz19_4 : w15.cell? ⟨gb552, 4, none⟩ = some (.int .i64 0) := (blk_cell BK552.out 4).trans rfl
           have hfz19_0 := blk_frozen BK552.out 0
           have hfz19_1 := blk_frozen BK552.out 1
           have hfz19_2 := blk_frozen BK552.out 2
           have hfz19_3 := blk_frozen BK552.out 3
           have hfz19_4 := blk_frozen BK552.out 4
           go_wp2
           go_meet
           case rel => exact ⟨_, (true), (by first | rfl | (simp; done) | (simp [*]; done)), H', ⟨by have := HJ4.out; have := HK2.out; first | omega | exact Nat.le_refl _⟩, ⟨by (with_reducible repeat (first | apply Kd.R_alloc | apply Kd.R_drewN | apply Kd.R_drew)); exact Kd.R_mono (Kd.R_far (p := ⟨gb552, 4, none⟩) (Kd.R_far (p := ⟨gb552, 3, none⟩) (Kd.R_far (p := ⟨gb552, 2, none⟩) (Kd.R_far (p := ⟨gb552, 1, none⟩) (Kd.R_far (p := ⟨gb552, 0, none⟩) (Kd.R_types HO_9.out BK552.out (by decide)) (fun _ hk => hk.2) (.int .i64 ((rd_T63 l1 x10_2).f0.f0))) (fun _ hk => hk.2) (.int .i64 ((rd_T63 l1 x10_2).f0.f1))) (fun _ hk => hk.2) (.int .i64 ((rd_T63 l1 x10_2).f0.f2))) (fun _ hk => hk.2) (.int .i64 ((rd_T63 l1 x10_2).f0.f3))) (fun _ hk => hk.2) (.int .i64 ((rd_T63 l1 x10_2).f0.f4))) (fun _ hk => trivial)⟩, ⟨by (with_reducible repeat (first | refine blk_drewN ?_ _ | refine blk_drew ?_ | refine blk_alloc ?_ _)); refine blk_put (cs := #[.int .i64 ((rd_T63 l1 x10_2).f0.f0), .int .i64 ((rd_T63 l1 x10_2).f0.f1), .int .i64 ((rd_T63 l1 x10_2).f0.f2), .int .i64 ((rd_T63 l1 x10_2).f0.f3), .int .i64 0]) ?_ 4 _ rfl; (with_reducible repeat (first | refine blk_drewN ?_ _ | refine blk_drew ?_ | refine blk_alloc ?_ _)); refine blk_put (cs := #[.int .i64 ((rd_T63 l1 x10_2).f0.f0), .int .i64 ((rd_T63 l1 x10_2).f0.f1), .int .i64 ((rd_T63 l1 x10_2).f0.f2), .int .i64 0, .int .i64 0]) ?_ 3 _ rfl; (with_reducible repeat (first | refine blk_drewN ?_ _ | refine blk_drew ?_ | refine blk_alloc ?_ _)); refine blk_put (cs := #[.int .i64 ((rd_T63 l1 x10_2).f0.f0), .int .i64 ((rd_T63 l1 x10_2).f0.f1), .int .i64 0, .int .i64 0, .int .i64 0]) ?_ 2 _ rfl; (with_reducible repeat (first | refine blk_drewN ?_ _ | refine blk_drew ?_ | refine blk_alloc ?_ _)); refine blk_put (cs := #[.int .i64 ((rd_T63 l1 x10_2).f0.f0), .int .i64 0, .int .i64 0, .int .i64 0, .int .i64 0]) ?_ 1 _ rfl; (with_reducible repeat (first | refine blk_drewN ?_ _ | refine blk_drew ?_ | refine blk_alloc ?_ _)); refine blk_put (cs := #[.int .i64 0, .int .i64 0, .int .i64 0, .int .i64 0, .int .i64 0]) ?_ 0 _ rfl; (with_reducible repeat (first | refine blk_drewN ?_ _ | refine blk_drew ?_ | refine blk_alloc ?_ _)); exact BK552.out⟩, ⟨by repeat (first | (with_reducible first | exact HB.out | apply below_alloc | apply pw_below_drewN | apply below_drew1 | refine below_set ?_ GE552.out) | exact HB.out)⟩⟩
         case rest =>
          clear HC14
          try clear c1
          try clear c2
          try clear p2
          try clear c5
          try clear p5
          try clear q5
          try clear hx5
          try clear c7
          try clear c8
          try clear c8b0
          try clear c9
          try clear c10
          try clear c12
          try clear c12b0
          try clear c13
          try clear c13b0
          try clear c17
          try clear c17b0
          try clear c17b1
          try clear hcz16_0
          try clear hcz16_1
          try clear hcz16_2
          try clear hcz16_3
          try clear hcz16_4
          try clear hcz18_0
          try clear hcz18_1
          try clear hcz18_2
          try clear hcz18_3
          try clear hcz18_4
          try clear hcz19_0
          try clear hcz19_1
          try clear hcz19_2
          try clear hcz19_3
          try clear hcz19_4
          try clear hfz16_0
          try clear hfz16_1
          try clear hfz16_2
          try clear hfz16_3
          try clear hfz16_4
          try clear hfz18_0
          try clear hfz18_1
          try clear hfz18_2
          try clear hfz18_3
          try clear hfz18_4
          try clear hfz19_0
          try clear hfz19_1
          try clear hfz19_2
          try clear hfz19_3
          try clear hfz19_4
          try clear hx551_0
          try clear hx551_1
          try clear hx551_2
          try clear hx551_3
          try clear hx551_4
          try clear hx551_5
          try clear hx551_6
          try clear hx551_7
          try clear hx551_8
          try clear hx553_0
          try clear hx553_1
          try clear hx553_2
          try clear hx553_3
          try clear hx553_4
          try clear hx553_5
          try clear hx553_6
          try clear hx553_7
          try clear hx553_8
          try clear p2
          try clear p551
          try clear p553
          try clear q551
          try clear q553
          obtain ⟨kq, x54_13, rfl, HA, HJ13, HO_9, BK552, HB⟩ := hcut
          cases kq with
          | zero => exact absurd HA.out (by simp [purflingref15_First.j2])
          | succ kj13 =>
           have H := HA.out
           clear HA
           simp only [purflingref15_First.j2] at H
           by_cases c20 : x54_13 = true
           ·subst c20
            have H1 : (purflingref15_First.l0 kj13 l1 a2 x9_2 (wrap64 (x10_2 + 1))) = some (r1, r2) := by rw [if_pos rfl] at H; exact H
            clear H
            have H := H1
            clear H1
            have H' := Aside0.mk H
            clear H
            go_wp2
            go_roundg kj13
            case measure => have := HJ4.out; have := HK2.out; have := HJ13.out; omega
            case rel => exact ⟨(x9_2), (wrap64 (x10_2 + 1)), (by first | rfl | (simp; done) | (simp [*]; done)), H', ⟨by have := HJ4.out; have := HK2.out; have := HJ13.out; omega⟩, ⟨by (with_reducible repeat (first | apply Kd.R_alloc | apply Kd.R_drewN | apply Kd.R_drew)); exact HO_9.out⟩, ⟨by repeat (first | (with_reducible first | exact HB.out | apply below_alloc | apply pw_below_drewN | apply below_drew1 | refine below_set ?_ GE552.out) | exact HB.out)⟩⟩
           ·replace c20 := Bool.eq_false_iff.mpr c20
            subst c20
            have H1 : (if 0 ≤ x10_2 then (if x10_2 < (l1.length : Int) then (if ((rd_T63 l1 x10_2).f3.f0) = 1 then ((purflingref14_Part.f kj13 ((rd_T63 l1 x10_2).f3.f1) a2 ((rd_T63 l1 x10_2).f0.f4)).bind fun t556 => (purflingref15_First.j3 kj13 l1 a2 x9_2 x10_2 t556 ((rd_T63 l1 x10_2).f0.f0) ((rd_T63 l1 x10_2).f0.f1) ((rd_T63 l1 x10_2).f0.f2) ((rd_T63 l1 x10_2).f0.f3) ((rd_T63 l1 x10_2).f0.f4))) else (purflingref15_First.j3 kj13 l1 a2 x9_2 x10_2 ((rd_T63 l1 x10_2).f3.f1) ((rd_T63 l1 x10_2).f0.f0) ((rd_T63 l1 x10_2).f0.f1) ((rd_T63 l1 x10_2).f0.f2) ((rd_T63 l1 x10_2).f0.f3) ((rd_T63 l1 x10_2).f0.f4))) else (none)) else (none)) = some (r1, r2) := by rw [if_neg (show ¬ (false = true) by decide)] at H; exact H
            clear H
            have H := H1
            clear H1
            by_cases c21 : 0 ≤ x10_2
            ·rw [if_pos c21] at H
             have c21b0 : decide (0 ≤ x10_2) = true := decide_eq_true c21
             clear c21
             by_cases c22 : x10_2 < (l1.length : Int)
             ·rw [if_pos c22] at H
              have c22b0 : decide (x10_2 < (l1.length : Int)) = true := decide_eq_true c22
              clear c22
              have HC23 := Aside0.mk H
              clear H
              have p554 : 0 ≤ (x10_2 : Int) := of_decide_eq_true (by first | (with_reducible assumption) | assumption)
              have q554 : x10_2 < (l1.length : Int) := of_decide_eq_true (by first | (with_reducible assumption) | assumption)
              obtain ⟨ad554, e554, hx554_0, hx554_1, hx554_2, hx554_3, hx554_4, hx554_5, hx554_6, hx554_7, hx554_8⟩ := at_T63 HR1.out x10_2 p554 q554
              obtain rfl : ad551 = ad554 := (by injection e554)
              replace hx554_0 := (HB.out.cell (World.block_lt_of_cell? w _ hx554_0)).trans hx554_0
              replace hx554_1 := (HB.out.cell (World.block_lt_of_cell? w _ hx554_1)).trans hx554_1
              replace hx554_2 := (HB.out.cell (World.block_lt_of_cell? w _ hx554_2)).trans hx554_2
              replace hx554_3 := (HB.out.cell (World.block_lt_of_cell? w _ hx554_3)).trans hx554_3
              replace hx554_4 := (HB.out.cell (World.block_lt_of_cell? w _ hx554_4)).trans hx554_4
              replace hx554_5 := (HB.out.cell (World.block_lt_of_cell? w _ hx554_5)).trans hx554_5
              replace hx554_6 := (HB.out.cell (World.block_lt_of_cell? w _ hx554_6)).trans hx554_6
              replace hx554_7 := (HB.out.cell (World.block_lt_of_cell? w _ hx554_7)).trans hx554_7
              replace hx554_8 := (HB.out.cell (World.block_lt_of_cell? w _ hx554_8)).trans hx554_8
              replace p554 := eq_true p554
              replace q554 := eq_true q554
              have p555 : 0 ≤ (x10_2 : Int) := of_decide_eq_true (by first | (with_reducible assumption) | assumption)
              have q555 : x10_2 < (l1.length : Int) := of_decide_eq_true (by first | (with_reducible assumption) | assumption)
              obtain ⟨ad555, e555, hx555_0, hx555_1, hx555_2, hx555_3, hx555_4, hx555_5, hx555_6, hx555_7, hx555_8⟩ := at_T63 HR1.out x10_2 p555 q555
              obtain rfl : ad551 = ad555 := (by injection e555)
              replace hx555_0 := (HB.out.cell (World.block_lt_of_cell? w _ hx555_0)).trans hx555_0
              replace hx555_1 := (HB.out.cell (World.block_lt_of_cell? w _ hx555_1)).trans hx555_1
              replace hx555_2 := (HB.out.cell (World.block_lt_of_cell? w _ hx555_2)).trans hx555_2
              replace hx555_3 := (HB.out.cell (World.block_lt_of_cell? w _ hx555_3)).trans hx555_3
              replace hx555_4 := (HB.out.cell (World.block_lt_of_cell? w _ hx555_4)).trans hx555_4
              replace hx555_5 := (HB.out.cell (World.block_lt_of_cell? w _ hx555_5)).trans hx555_5
              replace hx555_6 := (HB.out.cell (World.block_lt_of_cell? w _ hx555_6)).trans hx555_6
              replace hx555_7 := (HB.out.cell (World.block_lt_of_cell? w _ hx555_7)).trans hx555_7
              replace hx555_8 := (HB.out.cell (World.block_lt_of_cell? w _ hx555_8)).trans hx555_8
              replace p555 := eq_true p555
              replace q555 := eq_true q555
              go_upto_if 67 with (fail)
              go_cut [12] (fun v12 wc => ∃ (kq : Nat) (x12_22 : Int), v12 = .int .i64 x12_22 ∧ Aside0 (purflingref15_First.j3 kq l1 a2 x9_2 x10_2 x12_22 ((rd_T63 l1 x10_2).f0.f0) ((rd_T63 l1 x10_2).f0.f1) ((rd_T63 l1 x10_2).f0.f2) ((rd_T63 l1 x10_2).f0.f3) ((rd_T63 l1 x10_2).f0.f4) = some (r1, r2)) ∧ Aside0 (kq ≤ kj13) ∧ Aside0 (Kd.R k39 39 wc w.heap.size (fun _ => True) v549 x9_2) ∧ Aside0 (wc.heap[gb552]? = some (.cells #[.int .i64 ((rd_T63 l1 x10_2).f0.f0), .int .i64 ((rd_T63 l1 x10_2).f0.f1), .int .i64 ((rd_T63 l1 x10_2).f0.f2), .int .i64 ((rd_T63 l1 x10_2).f0.f3), .int .i64 ((rd_T63 l1 x10_2).f0.f4)] 61 (0, 0))) ∧ Aside0 (Below w.heap.size w wc))
              case first =>
               have H := HC23.out
               clear HC23
               by_cases c24 : ((rd_T63 l1 x10_2).f3.f0) = 1
               ·rw [if_pos c24] at H
                have c24b0 : (((rd_T63 l1 x10_2).f3.f0) == 1) = true := beq_iff_eq.mpr c24
                have c24b1 : (((rd_T63 l1 x10_2).f3.f0) != 1) = false := bne_eq_false_iff_eq.mpr c24
                clear c24
                (first | rw [c24b0] | (simp only [i64_w, i32_w]; rw [c24b0]) | skip)
                replace H := Option.bind_eq_some_iff.mp H
                obtain ⟨t556, A250, H⟩ := H
                replace H : (purflingref15_First.j3 kj13 l1 a2 x9_2 x10_2 t556 ((rd_T63 l1 x10_2).f0.f0) ((rd_T63 l1 x10_2).f0.f1) ((rd_T63 l1 x10_2).f0.f2) ((rd_T63 l1 x10_2).f0.f3) ((rd_T63 l1 x10_2).f0.f4)) = some (r1, r2) := H
                have A25 := Aside0.mk A250
                clear A250
                have H' := Aside0.mk H
                clear H
                have hcz26_0 : wc.cell? ⟨gb552, 0, none⟩ = some (.int .i64 ((rd_T63 l1 x10_2).f0.f0)) := (blk_cell BK552.out 0).trans rfl
                have hcz26_1 : wc.cell? ⟨gb552, 1, none⟩ = some (.int .i64 ((rd_T63 l1 x10_2).f0.f1)) := (blk_cell BK552.out 1).trans rfl
                have hcz26_2 : wc.cell? ⟨gb552, 2, none⟩ = some (.int .i64 ((rd_T63 l1 x10_2).f0.f2)) := (blk_cell BK552.out 2).trans rfl
                have hcz26_3 : wc.cell? ⟨gb552, 3, none⟩ = some (.int .i64 ((rd_T63 l1 x10_2).f0.f3)) := (blk_cell BK552.out 3).trans rfl
                have hcz26_4 : wc.cell? ⟨gb552, 4, none⟩ = some (.int .i64 ((rd_T63 l1 x10_2).f0.f4)) := (blk_cell BK552.out 4).trans rfl
                have hfz26_0 := blk_frozen BK552.out 0
                have hfz26_1 := blk_frozen BK552.out 1
                have hfz26_2 := blk_frozen BK552.out 2
                have hfz26_3 := blk_frozen BK552.out 3
                have hfz26_4 := blk_frozen BK552.out 4
                go_wp2_with (first | ((with_reducible refine gate_callee (f := 58) rfl ?_); refine goesL_ (some 72) rfl rfl Try.func58 (by kernel_rfl) rfl #[.int .i64 ((rd_T63 l1 x10_2).f3.f1), .int .i64 a2, .int .i64 ((rd_T63 l1 x10_2).f0.f4)] rfl (by (try simp only [List.map_toArray, List.map_cons, List.map_nil]); first | done | rfl | (simp only [List.length_drop, List.length_take]; rfl)) ?_; (with_reducible refine (purflingref14_Part.calls kj13 ((rd_T63 l1 x10_2).f3.f1) a2 ((rd_T63 l1 x10_2).f0.f4) t556 _ A25.out).mono ?_); rintro e w27 ⟨rfl, hb⟩; refine ⟨_, rfl, ?_⟩; have n0_ := Aside0.mk (Kd.R_below (by (with_reducible repeat (first | apply Kd.R_alloc | apply Kd.R_drewN | apply Kd.R_drew)); exact HO_9.out) hb); have n1_ := Aside0.mk (blk_below (g := gb552) (o := .cells #[.int .i64 ((rd_T63 l1 x10_2).f0.f0), .int .i64 ((rd_T63 l1 x10_2).f0.f1), .int .i64 ((rd_T63 l1 x10_2).f0.f2), .int .i64 ((rd_T63 l1 x10_2).f0.f3), .int .i64 ((rd_T63 l1 x10_2).f0.f4)] 61 (0, 0)) (by (with_reducible repeat (first | refine blk_drewN ?_ _ | refine blk_drew ?_ | refine blk_alloc ?_ _)); exact BK552.out) hb); have n2_ := Aside0.mk (below_step (by repeat (first | (with_reducible first | exact HB.out | apply below_alloc | apply pw_below_drewN | apply below_drew1 | refine below_set ?_ GE552.out) | exact HB.out)) hb); clear HO_9; clear BK552; clear HB; have HO_9 := n0_; have BK552 := n1_; have HB := n2_; clear n0_ n1_ n2_; (try clear hb); (try clear hb2); (try clear hk); (try clear hi)))
                go_meet
                case rel => exact ⟨_, (t556), (by first | rfl | (simp; done) | (simp [*]; done)), H', ⟨by have := HJ4.out; have := HK2.out; have := HJ13.out; first | omega | exact Nat.le_refl _⟩, ⟨by (with_reducible repeat (first | apply Kd.R_alloc | apply Kd.R_drewN | apply Kd.R_drew)); exact HO_9.out⟩, ⟨by (with_reducible repeat (first | refine blk_drewN ?_ _ | refine blk_drew ?_ | refine blk_alloc ?_ _)); exact BK552.out⟩, ⟨by repeat (first | (with_reducible first | exact HB.out | apply below_alloc | apply pw_below_drewN | apply below_drew1 | refine below_set ?_ GE552.out) | exact HB.out)⟩⟩
               ·rw [if_neg c24] at H
                have c24b0 : (((rd_T63 l1 x10_2).f3.f0) == 1) = false := beq_eq_false_iff_ne.mpr c24
                have c24b1 : (((rd_T63 l1 x10_2).f3.f0) != 1) = true := bne_iff_ne.mpr c24
                (first | rw [c24b0] | (simp only [i64_w, i32_w]; rw [c24b0]) | skip)
                have H' := Aside0.mk H
                clear H
                go_wp2
                go_meet
                case rel => exact ⟨_, ((rd_T63 l1 x10_2).f3.f1), (by first | rfl | (simp; done) | (simp [*]; done)), H', ⟨by have := HJ4.out; have := HK2.out; have := HJ13.out; first | omega | exact Nat.le_refl _⟩, ⟨by (with_reducible repeat (first | apply Kd.R_alloc | apply Kd.R_drewN | apply Kd.R_drew)); exact HO_9.out⟩, ⟨by (with_reducible repeat (first | refine blk_drewN ?_ _ | refine blk_drew ?_ | refine blk_alloc ?_ _)); exact BK552.out⟩, ⟨by repeat (first | (with_reducible first | exact HB.out | apply below_alloc | apply pw_below_drewN | apply below_drew1 | refine below_set ?_ GE552.out) | exact HB.out)⟩⟩
              case rest =>
               clear HC23
               try clear c1
               try clear c2
               try clear p2
               try clear c5
               try clear p5
               try clear q5
               try clear hx5
               try clear p6
               try clear c7
               try clear c8
               try clear c8b0
               try clear c9
               try clear c10
               try clear c12
               try clear c12b0
               try clear c13
               try clear c13b0
               try clear c17
               try clear c17b0
               try clear c17b1
               try clear c20
               try clear c21
               try clear c21b0
               try clear c22
               try clear c22b0
               try clear c24
               try clear c24b0
               try clear c24b1
               try clear hcz16_0
               try clear hcz16_1
               try clear hcz16_2
               try clear hcz16_3
               try clear hcz16_4
               try clear hcz18_0
               try clear hcz18_1
               try clear hcz18_2
               try clear hcz18_3
               try clear hcz18_4
               try clear hcz19_0
               try clear hcz19_1
               try clear hcz19_2
               try clear hcz19_3
               try clear hcz19_4
               try clear hcz26_0
               try clear hcz26_1
               try clear hcz26_2
               try clear hcz26_3
               try clear hcz26_4
               try clear hfz16_0
               try clear hfz16_1
               try clear hfz16_2
               try clear hfz16_3
               try clear hfz16_4
               try clear hfz18_0
               try clear hfz18_1
               try clear hfz18_2
               try clear hfz18_3
               try clear hfz18_4
               try clear hfz19_0
               try clear hfz19_1
               try clear hfz19_2
               try clear hfz19_3
               try clear hfz19_4
               try clear hfz26_0
               try clear hfz26_1
               try clear hfz26_2
               try clear hfz26_3
               try clear hfz26_4
               try clear hx551_0
               try clear hx551_1
               try clear hx551_2
               try clear hx551_3
               try clear hx551_4
               try clear hx551_5
               try clear hx551_6
               try clear hx551_7
               try clear hx551_8
               try clear hx553_0
               try clear hx553_1
               try clear hx553_2
               try clear hx553_3
               try clear hx553_4
               try clear hx553_5
               try clear hx553_6
               try clear hx553_7
               try clear hx553_8
               try clear hx554_0
               try clear hx554_1
               try clear hx554_2
               try clear hx554_3
               try clear hx554_4
               try clear hx554_5
               try clear hx554_6
               try clear hx554_7
               try clear hx554_8
               try clear hx555_0
               try clear hx555_1
               try clear hx555_2
               try clear hx555_3
               try clear hx555_4
               try clear hx555_5
               try clear hx555_6
               try clear hx555_7
               try clear hx555_8
               try clear p2
               try clear p5
               try clear p551
               try clear p553
               try clear p554
               try clear p555
               try clear q5
               try clear q551
               try clear q553
               try clear q554
               try clear q555
               obtain ⟨kq, x12_22, rfl, HA, HJ22, HO_9, BK552, HB⟩ := hcut
               cases kq with
               | zero => exact absurd HA.out (by simp [purflingref15_First.j3])
               | succ kj22 =>
                have H := HA.out
                clear HA
                simp only [purflingref15_First.j3] at H
                replace H := Option.bind_eq_some_iff.mp H
                obtain ⟨⟨t557, t558⟩, A280, H⟩ := H
                replace H : (purflingref15_First.l1 kj22 l1 a2 x9_2 x10_2 t557 0 ((rd_T63 l1 x10_2).f0.f0) ((rd_T63 l1 x10_2).f0.f1) ((rd_T63 l1 x10_2).f0.f2) ((rd_T63 l1 x10_2).f0.f3) ((rd_T63 l1 x10_2).f0.f4)) = some (r1, r2) := H
                have A28 := Aside0.mk A280
                clear A280
                have H' := Aside0.mk H
                clear H
                have hcz29_0 : wc.cell? ⟨gb552, 0, none⟩ = some (.int .i64 ((rd_T63 l1 x10_2).f0.f0)) := (blk_cell BK552.out 0).trans rfl
                have hcz29_1 : wc.cell? ⟨gb552, 1, none⟩ = some (.int .i64 ((rd_T63 l1 x10_2).f0.f1)) := (blk_cell BK552.out 1).trans rfl
                have hcz29_2 : wc.cell? ⟨gb552, 2, none⟩ = some (.int .i64 ((rd_T63 l1 x10_2).f0.f2)) := (blk_cell BK552.out 2).trans rfl
                have hcz29_3 : wc.cell? ⟨gb552, 3, none⟩ = some (.int .i64 ((rd_T63 l1 x10_2).f0.f3)) := (blk_cell BK552.out 3).trans rfl
                have hcz29_4 : wc.cell? ⟨gb552, 4, none⟩ = some (.int .i64 ((rd_T63 l1 x10_2).f0.f4)) := (blk_cell BK552.out 4).trans rfl
                have hfz29_0 := blk_frozen BK552.out 0
                have hfz29_1 := blk_frozen BK552.out 1
                have hfz29_2 := blk_frozen BK552.out 2
                have hfz29_3 := blk_frozen BK552.out 3
                have hfz29_4 := blk_frozen BK552.out 4
                go_wp2_with (first | ((with_reducible refine gate_callee (f := 55) rfl ?_); refine goesL_ (some 77) rfl rfl Try.func55 (by kernel_rfl) rfl #[.int .i64 x12_22, .int .i64 ((rd_T63 l1 x10_2).f0.f4)] rfl (by (try simp only [List.map_toArray, List.map_cons, List.map_nil]); first | done | rfl | (simp only [List.length_drop, List.length_take]; rfl)) ?_; (with_reducible refine (purflingref01_Even.calls kj22 x12_22 ((rd_T63 l1 x10_2).f0.f4) t557 t558 _ A28.out).mono ?_); rintro e w30 ⟨v559, rfl, ho0, hb⟩; refine ⟨_, rfl, ?_⟩; have n0_ := Aside0.mk (Kd.R_below (by (with_reducible repeat (first | apply Kd.R_alloc | apply Kd.R_drewN | apply Kd.R_drew)); exact HO_9.out) hb); have n1_ := Aside0.mk (Kd.R_lower ho0 (below_size (by repeat (first | (with_reducible first | exact HB.out | apply below_alloc | apply pw_below_drewN | apply below_drew1 | refine below_set ?_ GE552.out) | exact HB.out)))); have n2_ := Aside0.mk (blk_below (g := gb552) (o := .cells #[.int .i64 ((rd_T63 l1 x10_2).f0.f0), .int .i64 ((rd_T63 l1 x10_2).f0.f1), .int .i64 ((rd_T63 l1 x10_2).f0.f2), .int .i64 ((rd_T63 l1 x10_2).f0.f3), .int .i64 ((rd_T63 l1 x10_2).f0.f4)] 61 (0, 0)) (by (with_reducible repeat (first | refine blk_drewN ?_ _ | refine blk_drew ?_ | refine blk_alloc ?_ _)); exact BK552.out) hb); have n3_ := Aside0.mk (below_step (by repeat (first | (with_reducible first | exact HB.out | apply below_alloc | apply pw_below_drewN | apply below_drew1 | refine below_set ?_ GE552.out) | exact HB.out)) hb); clear HO_9; clear BK552; clear HB; have HO_9 := n0_; have HO560 := n1_; have BK552 := n2_; have HB := n3_; clear n0_ n1_ n2_ n3_; (try clear hb); (try clear hb2); (try clear hk); (try clear hi); (try clear ho0)))
                go_loopg [15] kj22 (fun kq v15 w' => ∃ (x9_5 : List (S39)) (x15_5 : Int), v15 = .int .i64 x15_5 ∧ Aside0 (purflingref15_First.l1 kq l1 a2 x9_5 x10_2 t557 x15_5 ((rd_T63 l1 x10_2).f0.f0) ((rd_T63 l1 x10_2).f0.f1) ((rd_T63 l1 x10_2).f0.f2) ((rd_T63 l1 x10_2).f0.f3) ((rd_T63 l1 x10_2).f0.f4) = some (r1, r2)) ∧ Aside0 (kq ≤ kj22) ∧ Aside0 (Kd.R k39 39 w' w.heap.size (fun _ => True) v549 x9_5) ∧ Aside0 (Kd.R (Kd.int .i64) 2 w' w.heap.size (fun _ => True) v559 t557) ∧ Aside0 (w'.heap[gb552]? = some (.cells #[.int .i64 ((rd_T63 l1 x10_2).f0.f0), .int .i64 ((rd_T63 l1 x10_2).f0.f1), .int .i64 ((rd_T63 l1 x10_2).f0.f2), .int .i64 ((rd_T63 l1 x10_2).f0.f3), .int .i64 ((rd_T63 l1 x10_2).f0.f4)] 61 (0, 0))) ∧ Aside0 (Below w.heap.size w w'))
                case atStart => exact ⟨(x9_2), (0), (by first | rfl | (simp; done) | (simp [*]; done)), H', ⟨Nat.le_refl _⟩, ⟨by (with_reducible repeat (first | apply Kd.R_alloc | apply Kd.R_drewN | apply Kd.R_drew)); exact HO_9.out⟩, ⟨by (with_reducible repeat (first | apply Kd.R_alloc | apply Kd.R_drewN | apply Kd.R_drew)); exact HO560.out⟩, ⟨by (with_reducible repeat (first | refine blk_drewN ?_ _ | refine blk_drew ?_ | refine blk_alloc ?_ _)); exact BK552.out⟩, ⟨by repeat (first | (with_reducible first | exact HB.out | apply below_alloc | apply pw_below_drewN | apply below_drew1 | refine below_set ?_ GE552.out) | exact HB.out)⟩⟩
                case round =>
                 clear H'
                 try clear c1
                 try clear c2
                 try clear p2
                 try clear c5
                 try clear p5
                 try clear q5
                 try clear hx5
                 try clear p6
                 try clear c7
                 try clear c8
                 try clear c8b0
                 try clear c9
                 try clear c10
                 try clear c12
                 try clear c12b0
                 try clear c13
                 try clear c13b0
                 try clear c17
                 try clear c17b0
                 try clear c17b1
                 try clear c20
                 try clear c21
                 try clear c21b0
                 try clear c22
                 try clear c22b0
                 try clear c24
                 try clear c24b0
                 try clear c24b1
                 try clear c28
                 try clear hcz16_0
                 try clear hcz16_1
                 try clear hcz16_2
                 try clear hcz16_3
                 try clear hcz16_4
                 try clear hcz18_0
                 try clear hcz18_1
                 try clear hcz18_2
                 try clear hcz18_3
                 try clear hcz18_4
                 try clear hcz19_0
                 try clear hcz19_1
                 try clear hcz19_2
                 try clear hcz19_3
                 try clear hcz19_4
                 try clear hcz26_0
                 try clear hcz26_1
                 try clear hcz26_2
                 try clear hcz26_3
                 try clear hcz26_4
                 try clear hcz29_0
                 try clear hcz29_1
                 try clear hcz29_2
                 try clear hcz29_3
                 try clear hcz29_4
                 try clear hfz16_0
                 try clear hfz16_1
                 try clear hfz16_2
                 try clear hfz16_3
                 try clear hfz16_4
                 try clear hfz18_0
                 try clear hfz18_1
                 try clear hfz18_2
                 try clear hfz18_3
                 try clear hfz18_4
                 try clear hfz19_0
                 try clear hfz19_1
                 try clear hfz19_2
                 try clear hfz19_3
                 try clear hfz19_4
                 try clear hfz26_0
                 try clear hfz26_1
                 try clear hfz26_2
                 try clear hfz26_3
                 try clear hfz26_4
                 try clear hfz29_0
                 try clear hfz29_1
                 try clear hfz29_2
                 try clear hfz29_3
                 try clear hfz29_4
                 try clear hx551_0
                 try clear hx551_1
                 try clear hx551_2
                 try clear hx551_3
                 try clear hx551_4
                 try clear hx551_5
                 try clear hx551_6
                 try clear hx551_7
                 try clear hx551_8
                 try clear hx553_0
                 try clear hx553_1
                 try clear hx553_2
                 try clear hx553_3
                 try clear hx553_4
                 try clear hx553_5
                 try clear hx553_6
                 try clear hx553_7
                 try clear hx553_8
                 try clear hx554_0
                 try clear hx554_1
                 try clear hx554_2
                 try clear hx554_3
                 try clear hx554_4
                 try clear hx554_5
                 try clear hx554_6
                 try clear hx554_7
                 try clear hx554_8
                 try clear hx555_0
                 try clear hx555_1
                 try clear hx555_2
                 try clear hx555_3
                 try clear hx555_4
                 try clear hx555_5
                 try clear hx555_6
                 try clear hx555_7
                 try clear hx555_8
                 try clear p2
                 try clear p5
                 try clear p551
                 try clear p553
                 try clear p554
                 try clear p555
                 try clear p6
                 try clear q5
                 try clear q551
                 try clear q553
                 try clear q554
                 try clear q555
                 obtain ⟨x9_5, x15_5, rfl, HA, HK5, HO_9, HO_13, BK552, HB⟩ := hrel
                 cases gk with
                 | zero => exact absurd HA.out (by simp [purflingref15_First.l1])
                 | succ k5 =>
                  have H := HA.out
                  clear HA
                  simp only [purflingref15_First.l1] at H
                  by_cases c31 : x15_5 < ((rd_T63 l1 x10_2).f0.f4)
                  ·rw [if_pos c31] at H
                   have c31b0 : decide (x15_5 < ((rd_T63 l1 x10_2).f0.f4)) = true := decide_eq_true c31
                   clear c31
                   obtain ⟨ji32, hji32⟩ : ∃ j_ : Int, (wrap64 (((rd_T63 l1 x10_2).f0.f2) + x15_5)) = j_ := ⟨_, rfl⟩
                   replace H : (if 0 ≤ (ji32) then (if (ji32) < (x9_5.length : Int) then (if ((rd_T39 x9_5 (ji32)).f0) = 0 then (if 0 ≤ x10_2 then (if x10_2 < (l1.length : Int) then (if 0 ≤ x15_5 then (if x15_5 < (t557.length : Int) then (purflingref15_First.l1 k5 l1 a2 (x9_5.set ((ji32) : Int).toNat (⟨(rd_T63 l1 x10_2).f3.f0, rd t557 x15_5⟩ : S39)) x10_2 t557 (wrap64 (x15_5 + 1)) ((rd_T63 l1 x10_2).f0.f0) ((rd_T63 l1 x10_2).f0.f1) ((rd_T63 l1 x10_2).f0.f2) ((rd_T63 l1 x10_2).f0.f3) ((rd_T63 l1 x10_2).f0.f4)) else (none)) else (none)) else (none)) else (none)) else (purflingref15_First.l1 k5 l1 a2 x9_5 x10_2 t557 (wrap64 (x15_5 + 1)) ((rd_T63 l1 x10_2).f0.f0) ((rd_T63 l1 x10_2).f0.f1) ((rd_T63 l1 x10_2).f0.f2) ((rd_T63 l1 x10_2).f0.f3) ((rd_T63 l1 x10_2).f0.f4))) else (none)) else (none)) = some (r1, r2) := by first | (rw [hji32] at H; exact H) | (simp only [hji32] at H ⊢; exact H)
                   have hji32w : (IntKind.i64.wrap (((rd_T63 l1 x10_2).f0.f2) + x15_5)) = ji32 := (i64_w _).trans hji32
                   by_cases c33 : 0 ≤ (ji32)
                   ·rw [if_pos c33] at H
                    have c33b0 : decide (0 ≤ (ji32)) = true := decide_eq_true c33
                    clear c33
                    by_cases c34 : (ji32) < (x9_5.length : Int)
                    ·rw [if_pos c34] at H
                     have c34b0 : decide ((ji32) < (x9_5.length : Int)) = true := decide_eq_true c34
                     clear c34
                     by_cases c35 : ((rd_T39 x9_5 (ji32)).f0) = 0
                     ·rw [if_pos c35] at H
                      have c35b0 : (((rd_T39 x9_5 (ji32)).f0) == 0) = true := beq_iff_eq.mpr c35
                      have c35b1 : (((rd_T39 x9_5 (ji32)).f0) != 0) = false := bne_eq_false_iff_eq.mpr c35
                      clear c35
                      by_cases c36 : 0 ≤ x10_2
                      ·rw [if_pos c36] at H
                       have c36b0 : decide (0 ≤ x10_2) = true := decide_eq_true c36
                       clear c36
                       by_cases c37 : x10_2 < (l1.length : Int)
                       ·rw [if_pos c37] at H
                        have c37b0 : decide (x10_2 < (l1.length : Int)) = true := decide_eq_true c37
                        clear c37
                        by_cases c38 : 0 ≤ x15_5
                        ·rw [if_pos c38] at H
                         have c38b0 : decide (0 ≤ x15_5) = true := decide_eq_true c38
                         clear c38
                         by_cases c39 : x15_5 < (t557.length : Int)
                         ·rw [if_pos c39] at H
                          have c39b0 : decide (x15_5 < (t557.length : Int)) = true := decide_eq_true c39
                          clear c39
                          obtain ⟨y564, hy564⟩ : ∃ y_ : List (S39), y_ = (x9_5.set ((ji32) : Int).toNat (⟨(rd_T63 l1 x10_2).f3.f0, rd t557 x15_5⟩ : S39)) := ⟨_, rfl⟩
                          replace H : (purflingref15_First.l1 k5 l1 a2 y564 x10_2 t557 (wrap64 (x15_5 + 1)) ((rd_T63 l1 x10_2).f0.f0) ((rd_T63 l1 x10_2).f0.f1) ((rd_T63 l1 x10_2).f0.f2) ((rd_T63 l1 x10_2).f0.f3) ((rd_T63 l1 x10_2).f0.f4)) = some (r1, r2) := by first | (rw [hy564]; with_reducible exact H) | (have H2_ := (Option.bind_some _ _).symm.trans H; rw [hy564]; with_reducible exact H2_) | (have H2_ := (Option.bind_some _ _).symm.trans H; with_reducible exact H2_) | with_reducible exact H | (rw [hy564]; exact H) | exact H
                          have Ny564 := Aside0.mk hy564
                          clear hy564
                          have H' := Aside0.mk H
                          clear H
                          have hcz41_0 : wr.cell? ⟨gb552, 0, none⟩ = some (.int .i64 ((rd_T63 l1 x10_2).f0.f0)) := (blk_cell BK552.out 0).trans rfl
                          have hcz41_1 : wr.cell? ⟨gb552, 1, none⟩ = some (.int .i64 ((rd_T63 l1 x10_2).f0.f1)) := (blk_cell BK552.out 1).trans rfl
                          have hcz41_2 : wr.cell? ⟨gb552, 2, none⟩ = some (.int .i64 ((rd_T63 l1 x10_2).f0.f2)) := (blk_cell BK552.out 2).trans rfl
                          have hcz41_3 : wr.cell? ⟨gb552, 3, none⟩ = some (.int .i64 ((rd_T63 l1 x10_2).f0.f3)) := (blk_cell BK552.out 3).trans rfl
                          have hcz41_4 : wr.cell? ⟨gb552, 4, none⟩ = some (.int .i64 ((rd_T63 l1 x10_2).f0.f4)) := (blk_cell BK552.out 4).trans rfl
                          have hfz41_0 := blk_frozen BK552.out 0
                          have hfz41_1 := blk_frozen BK552.out 1
                          have hfz41_2 := blk_frozen BK552.out 2
                          have hfz41_3 := blk_frozen BK552.out 3
                          have hfz41_4 := blk_frozen BK552.out 4
                          obtain ⟨Ao42, co42, eo42⟩ := Kd.R_slice HO_9.out
                          subst eo42
                          have p561 : 0 ≤ ((ji32) : Int) := of_decide_eq_true (by first | (with_reducible assumption) | assumption)
                          have q561 : (ji32) < (x9_5.length : Int) := of_decide_eq_true (by first | (with_reducible assumption) | assumption)
                          obtain ⟨ad561, e561, hx561_0, hx561_1⟩ := at_T39 (Kd.R_reads' HO_9.out).2.2 (ji32) p561 q561
                          cases e561
                          replace p561 := eq_true p561
                          replace q561 := eq_true q561
                          try go_wp2
                          have n0_ := Aside0.mk (Kd.R_drew HO_9.out)
                          have n1_ := Aside0.mk (Kd.R_drew HO_13.out)
                          have n2_ := Aside0.mk (blk_drew BK552.out)
                          have n3_ := Aside0.mk (below_drew1 HB.out)
                          clear HO_9
                          clear HO_13
                          clear BK552
                          clear HB
                          have HO_9 := n0_
                          have HO_13 := n1_
                          have BK552 := n2_
                          have HB := n3_
                          clear n0_ n1_ n2_ n3_
                          have p562 : 0 ≤ (x10_2 : Int) := of_decide_eq_true (by first | (with_reducible assumption) | assumption)
                          have q562 : x10_2 < (l1.length : Int) := of_decide_eq_true (by first | (with_reducible assumption) | assumption)
                          obtain ⟨ad562, e562, hx562_0, hx562_1, hx562_2, hx562_3, hx562_4, hx562_5, hx562_6, hx562_7, hx562_8⟩ := at_T63 HR1.out x10_2 p562 q562
                          have hw562_8 := hx562_8
                          have hw562_7 := hx562_7
                          have hw562_6 := hx562_6
                          have hw562_5 := hx562_5
                          have hw562_4 := hx562_4
                          have hw562_3 := hx562_3
                          have hw562_2 := hx562_2
                          have hw562_1 := hx562_1
                          have hw562_0 := hx562_0
                          obtain rfl : ad551 = ad562 := (by injection e562)
                          replace hx562_0 := (HB.out.cell (World.block_lt_of_cell? w _ hx562_0)).trans hx562_0
                          replace hx562_1 := (HB.out.cell (World.block_lt_of_cell? w _ hx562_1)).trans hx562_1
                          replace hx562_2 := (HB.out.cell (World.block_lt_of_cell? w _ hx562_2)).trans hx562_2
                          replace hx562_3 := (HB.out.cell (World.block_lt_of_cell? w _ hx562_3)).trans hx562_3
                          replace hx562_4 := (HB.out.cell (World.block_lt_of_cell? w _ hx562_4)).trans hx562_4
                          replace hx562_5 := (HB.out.cell (World.block_lt_of_cell? w _ hx562_5)).trans hx562_5
                          replace hx562_6 := (HB.out.cell (World.block_lt_of_cell? w _ hx562_6)).trans hx562_6
                          replace hx562_7 := (HB.out.cell (World.block_lt_of_cell? w _ hx562_7)).trans hx562_7
                          replace hx562_8 := (HB.out.cell (World.block_lt_of_cell? w _ hx562_8)).trans hx562_8
                          replace p562 := eq_true p562
                          replace q562 := eq_true q562
                          obtain ⟨Ao44, co44, eo44⟩ := Kd.R_slice HO_13.out
                          (first | subst eo44 | (injection eo44 with f1_ f2_ f3_; have f4_ := f1_.symm; have f5_ := f3_.symm; clear f1_ f2_ f3_; subst f4_; subst f5_))
                          have p563 : 0 ≤ (x15_5 : Int) := of_decide_eq_true (by first | (with_reducible assumption) | assumption)
                          have q563 : x15_5 < (t557.length : Int) := of_decide_eq_true (by first | (with_reducible assumption) | assumption)
                          obtain ⟨ad563, e563, hx563_0⟩ := Kd.at_int (Kd.R_reads' HO_13.out).2.2 x15_5 p563 q563
                          cases e563
                          replace p563 := eq_true p563
                          replace q563 := eq_true q563
                          have p40 : 0 ≤ ((ji32) : Int) := of_decide_eq_true (by first | (with_reducible assumption) | assumption)
                          have q40 : ((ji32) : Int) < ((x9_5.length : Int) : Int) := of_decide_eq_true (by first | (with_reducible assumption) | assumption)
                          obtain ⟨go40, co40, eo40, gb40, gl40, cl40, HG40⟩ := Kd.R_form HO_9.out (by omega)
                          (first | cases eo40 | (injection eo40 with ea_ en_ ec_; (first | subst ea_ | (injection ea_ with ea_; subst ea_)); subst ec_; clear en_))
                          have GB40 := Aside0.mk gb40
                          have GG40 := Aside0.mk HG40
                          clear gb40 gl40 HG40
                          (first | simp only [add_plain] at hx561_0 | skip)
                          (first | simp only [add_plain] at hx561_1 | skip)
                          obtain ⟨ce40, hcl40, hM40, hcc40, hfr40⟩ := Kd.R_elem HO_9.out z39 ((ji32) : Int) p40 q40
                          obtain rfl := k39_openM hM40
                          have hx40_0 : World.cell? _ ⟨go40, ((ji32) : Int).toNat * 2, none⟩ = some (.int .i64 ((rd_T39 x9_5 (ji32)).f0)) := hcc40 0 _ rfl
                          have hx40_1 : World.cell? _ ⟨go40, ((ji32) : Int).toNat * 2 + 1, none⟩ = some (.int .i64 ((rd_T39 x9_5 (ji32)).f1)) := hcc40 1 _ rfl
                          have hf40_0 : World.frozen? _ ⟨go40, ((ji32) : Int).toNat * 2, none⟩ = false := hfr40 0
                          have hf40_1 : World.frozen? _ ⟨go40, ((ji32) : Int).toNat * 2 + 1, none⟩ = false := hfr40 1
                          clear hcl40 hcc40 hfr40 hM40
                          replace p40 := eq_true p40
                          replace q40 := eq_true q40
                          obtain ⟨ce45, hcl45, hM45, hcc45, hfr45⟩ := Kd.R_elem HO_9.out z39 ((ji32) : Int) (of_decide_eq_true (by first | (with_reducible assumption) | assumption)) (by have h_ : ((ji32) : Int) < ((x9_5.length : Int) : Int) := of_decide_eq_true (by first | (with_reducible assumption) | assumption); first | exact h_ | (have e_ := (Kd.R_reads' HO_9.out).1; omega) | simpa using h_)
                          obtain rfl := k39_openM hM45
                          have HP45 := (Kd.R_seg HO_9.out ((ji32) : Int) (of_decide_eq_true (by first | (with_reducible assumption) | assumption)) (by have h_ : ((ji32) : Int) < ((x9_5.length : Int) : Int) := of_decide_eq_true (by first | (with_reducible assumption) | assumption); first | exact h_ | (have e_ := (Kd.R_reads' HO_9.out).1; omega) | simpa using h_) (seg := [.int .i64 ((rd_T63 l1 x10_2).f3.f0), .int .i64 (rd t557 x15_5)]) (j := 0) hcl45 hcc45 (show 2 ≤ 2 from by decide) (x' := (⟨(rd_T63 l1 x10_2).f3.f0, rd t557 x15_5⟩ : S39)) (k39_mkM _ _ _ (⟨(rd_T63 l1 x10_2).f3.f0, rd t557 x15_5⟩ : S39) ) (fun _ hk => hk)).1
                          rw [← Ny564.out] at HP45
                          have HQ45 := Aside0.mk HP45
                          clear hcl45 hcc45 hfr45 hM45 HP45
                          refine start_ (n := 18) (S := fun w' => w'.cell? ⟨gb552, 0, none⟩ = some (.int .i64 ((rd_T63 l1 x10_2).f0.f0)) ∧ w'.cell? ⟨gb552, 1, none⟩ = some (.int .i64 ((rd_T63 l1 x10_2).f0.f1)) ∧ w'.cell? ⟨gb552, 2, none⟩ = some (.int .i64 ((rd_T63 l1 x10_2).f0.f2)) ∧ w'.cell? ⟨gb552, 3, none⟩ = some (.int .i64 ((rd_T63 l1 x10_2).f0.f3)) ∧ w'.cell? ⟨gb552, 4, none⟩ = some (.int .i64 ((rd_T63 l1 x10_2).f0.f4)) ∧ w'.cell? (ad551.add ((x10_2).toNat * 9)) = some (.int .i64 ((rd_T63 l1 x10_2).f0.f0)) ∧ w'.cell? ⟨(ad551.add ((x10_2).toNat * 9)).block, (ad551.add ((x10_2).toNat * 9)).off + 1, none⟩ = some (.int .i64 ((rd_T63 l1 x10_2).f0.f1)) ∧ w'.cell? ⟨(ad551.add ((x10_2).toNat * 9)).block, (ad551.add ((x10_2).toNat * 9)).off + 2, none⟩ = some (.int .i64 ((rd_T63 l1 x10_2).f0.f2)) ∧ w'.cell? ⟨(ad551.add ((x10_2).toNat * 9)).block, (ad551.add ((x10_2).toNat * 9)).off + 3, none⟩ = some (.int .i64 ((rd_T63 l1 x10_2).f0.f3)) ∧ w'.cell? ⟨(ad551.add ((x10_2).toNat * 9)).block, (ad551.add ((x10_2).toNat * 9)).off + 4, none⟩ = some (.int .i64 ((rd_T63 l1 x10_2).f0.f4)) ∧ w'.cell? ⟨(ad551.add ((x10_2).toNat * 9)).block, (ad551.add ((x10_2).toNat * 9)).off + 5, none⟩ = some (.int .i64 ((rd_T63 l1 x10_2).f1)) ∧ w'.cell? ⟨(ad551.add ((x10_2).toNat * 9)).block, (ad551.add ((x10_2).toNat * 9)).off + 6, none⟩ = some (.int .i64 ((rd_T63 l1 x10_2).f2)) ∧ w'.cell? ⟨(ad551.add ((x10_2).toNat * 9)).block, (ad551.add ((x10_2).toNat * 9)).off + 7, none⟩ = some (.int .i64 ((rd_T63 l1 x10_2).f3.f0)) ∧ w'.cell? ⟨(ad551.add ((x10_2).toNat * 9)).block, (ad551.add ((x10_2).toNat * 9)).off + 8, none⟩ = some (.int .i64 ((rd_T63 l1 x10_2).f3.f1)) ∧ w'.cell? (ad563.add (x15_5).toNat) = some (.int .i64 (rd t557 x15_5))) (ds := [17]) #[false, false, false, false, false, false, false, false, false, false, false, false, false, false, false, false, false, false] (by kernel_rfl) rfl rfl ⟨(blk_cell BK552.out 0).trans rfl, (blk_cell BK552.out 1).trans rfl, (blk_cell BK552.out 2).trans rfl, (blk_cell BK552.out 3).trans rfl, (blk_cell BK552.out 4).trans rfl, ((HB.out.cell (World.block_lt_of_cell? w _ hw562_0)).trans hw562_0), ((HB.out.cell (World.block_lt_of_cell? w _ hw562_1)).trans hw562_1), ((HB.out.cell (World.block_lt_of_cell? w _ hw562_2)).trans hw562_2), ((HB.out.cell (World.block_lt_of_cell? w _ hw562_3)).trans hw562_3), ((HB.out.cell (World.block_lt_of_cell? w _ hw562_4)).trans hw562_4), ((HB.out.cell (World.block_lt_of_cell? w _ hw562_5)).trans hw562_5), ((HB.out.cell (World.block_lt_of_cell? w _ hw562_6)).trans hw562_6), ((HB.out.cell (World.block_lt_of_cell? w _ hw562_7)).trans hw562_7), ((HB.out.cell (World.block_lt_of_cell? w _ hw562_8)).trans hw562_8), hx563_0⟩ (fun hHeld => ?_); refine with_tabW purflingref15_First.tab19 purflingref15_First.bits19 (fun HT_ HW_ => ?_)
                          generalize wr.drew = w43 at HO_9 HO_13 BK552 HB GG40 HQ45 hf40_0 hf40_1 hx40_0 hx40_1 hx561_0 hx561_1 hx562_0 hx562_1 hx562_2 hx562_3 hx562_4 hx562_5 hx562_6 hx562_7 hx562_8 hx563_0 hHeld ⊢
                          refine pure_ (i := 0) (N := some 95) (v := ?_) (a' := ?_) #[true, false, false, false, false, false, false, false, false, false, false, false, false, false, false, false, false, false] rfl rfl (any_of HT_.out (by kernel_rfl)) (fun _ _ _ h => h) (Or.inl ⟨by rfl, ?_⟩) ?_ ?_
                          rotate_left
                          ·intro w'
                           go_simp
                           with_reducible rfl
                          rotate_left
                          ·simp only [Act.put, List.setIfInBounds_toArray, List.set_cons_zero, List.set_cons_succ, i64_w, i32_w]
                           rfl
                          refine pure_ (i := 1) (N := some 96) (v := ?_) (a' := ?_) #[true, true, false, false, false, false, false, false, false, false, false, false, false, false, false, false, false, false] rfl rfl (any_of HT_.out (by kernel_rfl)) (fun _ _ _ h => h) (Or.inl ⟨by rfl, ?_⟩) ?_ ?_
                          rotate_left
                          ·intro w'
                           go_simp
                           with_reducible rfl
                          rotate_left
                          ·simp only [Act.put, List.setIfInBounds_toArray, List.set_cons_zero, List.set_cons_succ, i64_w, i32_w]
                           rfl
                          refine pure_ (i := 3) (N := some 98) (v := ?_) (a' := ?_) #[true, true, false, true, false, false, false, false, false, false, false, false, false, false, false, false, false, false] rfl rfl (any_of HT_.out (by kernel_rfl)) (fun _ _ _ h => h) (Or.inl ⟨by rfl, ?_⟩) ?_ ?_
                          rotate_left
                          ·intro w'
                           go_simp
                           with_reducible rfl
                          rotate_left
                          ·simp only [Act.put, List.setIfInBounds_toArray, List.set_cons_zero, List.set_cons_succ, i64_w, i32_w]
                           rfl
                          refine pure_ (i := 5) (N := some 100) (v := ?_) (a' := ?_) #[true, true, false, true, false, true, false, false, false, false, false, false, false, false, false, false, false, false] rfl rfl (any_of HT_.out (by kernel_rfl)) (fun _ _ _ h => h) (Or.inl ⟨by rfl, ?_⟩) ?_ ?_
                          rotate_left
                          ·intro w'
                           go_simp
                           with_reducible rfl
                          rotate_left
                          ·simp only [Act.put, List.setIfInBounds_toArray, List.set_cons_zero, List.set_cons_succ, i64_w, i32_w]
                           rfl
                          refine pure_ (i := 6) (N := some 101) (v := ?_) (a' := ?_) #[true, true, false, true, false, true, true, false, false, false, false, false, false, false, false, false, false, false] rfl rfl (any_of HT_.out (by kernel_rfl)) (fun _ _ _ h => h) (Or.inl ⟨by rfl, ?_⟩) ?_ ?_
                          rotate_left
                          ·intro w'
                           go_simp
                           with_reducible rfl
                          rotate_left
                          ·simp only [Act.put, List.setIfInBounds_toArray, List.set_cons_zero, List.set_cons_succ, i64_w, i32_w]
                           rfl
                          refine pure_ (i := 7) (N := some 102) (v := ?_) (a' := ?_) #[true, true, false, true, false, true, true, true, false, false, false, false, false, false, false, false, false, false] rfl rfl (any_of HT_.out (by kernel_rfl)) (fun _ _ _ h => h) (Or.inl ⟨by rfl, ?_⟩) ?_ ?_
                          rotate_left
                          ·intro w'
                           go_simp
                           with_reducible rfl
                          rotate_left
                          ·simp only [Act.put, List.setIfInBounds_toArray, List.set_cons_zero, List.set_cons_succ, i64_w, i32_w]
                           rfl
                          refine pure_ (i := 8) (N := some 103) (v := ?_) (a' := ?_) #[true, true, false, true, false, true, true, true, true, false, false, false, false, false, false, false, false, false] rfl rfl (any_of HT_.out (by kernel_rfl)) (fun _ _ _ h => h) (Or.inl ⟨by rfl, ?_⟩) ?_ ?_
                          rotate_left
                          ·intro w'
                           go_simp
                           with_reducible rfl
                          rotate_left
                          ·simp only [Act.put, List.setIfInBounds_toArray, List.set_cons_zero, List.set_cons_succ, i64_w, i32_w]
                           rfl
                          refine pure_ (i := 9) (N := some 104) (v := ?_) (a' := ?_) #[true, true, false, true, false, true, true, true, true, true, false, false, false, false, false, false, false, false] rfl rfl (any_of HT_.out (by kernel_rfl)) (fun _ _ _ h => h) (Or.inl ⟨by rfl, ?_⟩) ?_ ?_
                          rotate_left
                          ·intro w'
                           go_simp
                           with_reducible rfl
                          rotate_left
                          ·simp only [Act.put, List.setIfInBounds_toArray, List.set_cons_zero, List.set_cons_succ, i64_w, i32_w]
                           rfl
                          refine pure_ (i := 11) (N := some 106) (v := ?_) (a' := ?_) #[true, true, false, true, false, true, true, true, true, true, false, true, false, false, false, false, false, false] rfl rfl (any_of HT_.out (by kernel_rfl)) (fun _ _ _ h => h) (Or.inl ⟨by rfl, ?_⟩) ?_ ?_
                          rotate_left
                          ·intro w'
                           go_simp
                           with_reducible rfl
                          rotate_left
                          ·simp only [Act.put, List.setIfInBounds_toArray, List.set_cons_zero, List.set_cons_succ, i64_w, i32_w]
                           rfl
                          refine pure_ (i := 12) (N := some 107) (v := ?_) (a' := ?_) #[true, true, false, true, false, true, true, true, true, true, false, true, true, false, false, false, false, false] rfl rfl (any_of HT_.out (by kernel_rfl)) (fun _ _ _ h => h) (Or.inl ⟨by rfl, ?_⟩) ?_ ?_
                          rotate_left
                          ·intro w'
                           go_simp
                           with_reducible rfl
                          rotate_left
                          ·simp only [Act.put, List.setIfInBounds_toArray, List.set_cons_zero, List.set_cons_succ, i64_w, i32_w]
                           rfl
                          refine pure_ (i := 13) (N := some 108) (v := ?_) (a' := ?_) #[true, true, false, true, false, true, true, true, true, true, false, true, true, true, false, false, false, false] rfl rfl (any_of HT_.out (by kernel_rfl)) (fun _ _ _ h => h) (Or.inl ⟨by rfl, ?_⟩) ?_ ?_
                          rotate_left
                          ·intro w'
                           go_simp
                           with_reducible rfl
                          rotate_left
                          ·simp only [Act.put, List.setIfInBounds_toArray, List.set_cons_zero, List.set_cons_succ, i64_w, i32_w]
                           rfl
                          refine take_ (i := 2) (N := some 97) (v := ?_) (a' := ?_) #[true, true, true, true, false, true, true, true, true, true, false, true, true, true, false, false, false, false] rfl rfl (take_ofW HT_.out HW_.out (by kernel_rfl)) (fun _ _ _ h => h) (Or.inl ⟨by rfl, ?_⟩) hHeld ?_ ?_
                          rotate_left
                          ·rintro w' ⟨s0, s1, s2, s3, s4, s5, s6, s7, s8, s9, s10, s11, s12, s13, s14⟩
                           go_simp
                           with_reducible rfl
                          rotate_left
                          ·simp only [Act.put, List.setIfInBounds_toArray, List.set_cons_zero, List.set_cons_succ, i64_w, i32_w]
                           rfl
                          refine pure_ (i := 4) (N := some 99) (v := ?_) (a' := ?_) #[true, true, true, true, true, true, true, true, true, true, false, true, true, true, false, false, false, false] rfl rfl (any_of HT_.out (by kernel_rfl)) (fun _ _ _ h => h) (Or.inl ⟨by rfl, ?_⟩) ?_ ?_
                          rotate_left
                          ·intro w'
                           go_simp
                           with_reducible rfl
                          rotate_left
                          ·simp only [Act.put, List.setIfInBounds_toArray, List.set_cons_zero, List.set_cons_succ, i64_w, i32_w]
                           rfl
                          refine take_ (i := 10) (N := some 105) (v := ?_) (a' := ?_) #[true, true, true, true, true, true, true, true, true, true, true, true, true, true, false, false, false, false] rfl rfl (take_ofW HT_.out HW_.out (by kernel_rfl)) (fun _ _ _ h => h) (Or.inl ⟨by rfl, ?_⟩) hHeld ?_ ?_
                          rotate_left
                          ·rintro w' ⟨s0, s1, s2, s3, s4, s5, s6, s7, s8, s9, s10, s11, s12, s13, s14⟩
                           go_simp
                           with_reducible rfl
                          rotate_left
                          ·simp only [Act.put, List.setIfInBounds_toArray, List.set_cons_zero, List.set_cons_succ, i64_w, i32_w]
                           rfl
                          refine take_ (i := 14) (N := some 109) (v := ?_) (a' := ?_) #[true, true, true, true, true, true, true, true, true, true, true, true, true, true, true, false, false, false] rfl rfl (take_ofW HT_.out HW_.out (by kernel_rfl)) (fun _ _ _ h => h) (Or.inl ⟨by rfl, ?_⟩) hHeld ?_ ?_
                          rotate_left
                          ·rintro w' ⟨s0, s1, s2, s3, s4, s5, s6, s7, s8, s9, s10, s11, s12, s13, s14⟩
                           go_simp
                           with_reducible rfl
                          rotate_left
                          ·simp only [Act.put, List.setIfInBounds_toArray, List.set_cons_zero, List.set_cons_succ, i64_w, i32_w]
                           rfl
                          refine pure_ (i := 15) (N := some 110) (v := ?_) (a' := ?_) #[true, true, true, true, true, true, true, true, true, true, true, true, true, true, true, true, false, false] rfl rfl (any_of HT_.out (by kernel_rfl)) (fun _ _ _ h => h) (Or.inl ⟨by rfl, ?_⟩) ?_ ?_
                          rotate_left
                          ·intro w'
                           go_simp
                           with_reducible rfl
                          rotate_left
                          ·simp only [Act.put, List.setIfInBounds_toArray, List.set_cons_zero, List.set_cons_succ, i64_w, i32_w]
                           rfl
                          refine pure_ (i := 16) (N := some 111) (v := ?_) (a' := ?_) #[true, true, true, true, true, true, true, true, true, true, true, true, true, true, true, true, true, false] rfl rfl (any_of HT_.out (by kernel_rfl)) (fun _ _ _ h => h) (Or.inl ⟨by rfl, ?_⟩) ?_ ?_
                          rotate_left
                          ·intro w'
                           go_simp
                           with_reducible rfl
                          rotate_left
                          ·simp only [Act.put, List.setIfInBounds_toArray, List.set_cons_zero, List.set_cons_succ, i64_w, i32_w]
                           rfl
                          refine last_ (i := 17) (N := none) #[true, true, true, true, true, true, true, true, true, true, true, true, true, true, true, true, true, true] rfl rfl (one_of HT_.out (by kernel_rfl)) (by decide) (fun K hK => ?_)
                          refine skip_ (w1 := ?_) (by rfl) rfl ?_ ?_
                          rotate_left
                          ·go_simp
                           rfl
                          refine hK.out _ _ ?_
                          clear hK K
                          refine done_ (done_of HT_.out (by kernel_rfl)) ?_
                          try go_wp2
                          go_roundg k5
                          case measure => have := HJ4.out; have := HK2.out; have := HJ13.out; have := HJ22.out; have := HK5.out; omega
                          case rel => exact ⟨(y564), (wrap64 (x15_5 + 1)), (by first | rfl | (simp; done) | (simp [*]; done)), H', ⟨by have := HJ4.out; have := HK2.out; have := HJ13.out; have := HJ22.out; have := HK5.out; omega⟩, ⟨by (with_reducible repeat (first | apply Kd.R_alloc | apply Kd.R_drewN | apply Kd.R_drew)); exact HQ45.out⟩, ⟨by (with_reducible repeat (first | apply Kd.R_alloc | apply Kd.R_drewN | apply Kd.R_drew)); exact Kd.R_mono (Kd.R_far (p := ⟨go40, ((ji32) : Int).toNat * 2 + 1, none⟩) (Kd.R_far (p := ⟨go40, ((ji32) : Int).toNat * 2, none⟩) (Kd.R_types HO_13.out GG40.out (by decide)) (fun _ hk => hk.2) (.int .i64 ((rd_T63 l1 x10_2).f3.f0))) (fun _ hk => hk.2) (.int .i64 (rd t557 x15_5))) (fun _ hk => trivial)⟩, ⟨by (with_reducible repeat (first | refine blk_drewN ?_ _ | refine blk_drew ?_ | refine blk_alloc ?_ _)); refine blk_far ?_ (by have h_ := Kd.R_ne HO_9.out BK552.out (by decide); intro e_; exact h_ (by rw [e_]; rfl)) _; (with_reducible repeat (first | refine blk_drewN ?_ _ | refine blk_drew ?_ | refine blk_alloc ?_ _)); refine blk_far ?_ (by have h_ := Kd.R_ne HO_9.out BK552.out (by decide); intro e_; exact h_ (by rw [e_]; rfl)) _; (with_reducible repeat (first | refine blk_drewN ?_ _ | refine blk_drew ?_ | refine blk_alloc ?_ _)); exact BK552.out⟩, ⟨by repeat (first | (with_reducible first | exact HB.out | apply below_alloc | apply pw_below_drewN | apply below_drew1 | refine below_set ?_ GB40.out | refine below_set ?_ GB40.out | refine below_set ?_ GE552.out) | exact HB.out)⟩⟩
                         ·rw [if_neg c39] at H
                          exact absurd H (by simp)
                        ·rw [if_neg c38] at H
                         exact absurd H (by simp)
                       ·rw [if_neg c37] at H
                        exact absurd H (by simp)
                      ·rw [if_neg c36] at H
                       exact absurd H (by simp)
                     ·rw [if_neg c35] at H
                      have c35b0 : (((rd_T39 x9_5 (ji32)).f0) == 0) = false := beq_eq_false_iff_ne.mpr c35
                      have c35b1 : (((rd_T39 x9_5 (ji32)).f0) != 0) = true := bne_iff_ne.mpr c35
                      have H' := Aside0.mk H
                      clear H
                      have hcz46_0 : wr.cell? ⟨gb552, 0, none⟩ = some (.int .i64 ((rd_T63 l1 x10_2).f0.f0)) := (blk_cell BK552.out 0).trans rfl
                      have hcz46_1 : wr.cell? ⟨gb552, 1, none⟩ = some (.int .i64 ((rd_T63 l1 x10_2).f0.f1)) := (blk_cell BK552.out 1).trans rfl
                      have hcz46_2 : wr.cell? ⟨gb552, 2, none⟩ = some (.int .i64 ((rd_T63 l1 x10_2).f0.f2)) := (blk_cell BK552.out 2).trans rfl
                      have hcz46_3 : wr.cell? ⟨gb552, 3, none⟩ = some (.int .i64 ((rd_T63 l1 x10_2).f0.f3)) := (blk_cell BK552.out 3).trans rfl
                      have hcz46_4 : wr.cell? ⟨gb552, 4, none⟩ = some (.int .i64 ((rd_T63 l1 x10_2).f0.f4)) := (blk_cell BK552.out 4).trans rfl
                      have hfz46_0 := blk_frozen BK552.out 0
                      have hfz46_1 := blk_frozen BK552.out 1
                      have hfz46_2 := blk_frozen BK552.out 2
                      have hfz46_3 := blk_frozen BK552.out 3
                      have hfz46_4 := blk_frozen BK552.out 4
                      obtain ⟨Ao47, co47, eo47⟩ := Kd.R_slice HO_9.out
                      subst eo47
                      have p561 : 0 ≤ ((ji32) : Int) := of_decide_eq_true (by first | (with_reducible assumption) | assumption)
                      have q561 : (ji32) < (x9_5.length : Int) := of_decide_eq_true (by first | (with_reducible assumption) | assumption)
                      obtain ⟨ad561, e561, hx561_0, hx561_1⟩ := at_T39 (Kd.R_reads' HO_9.out).2.2 (ji32) p561 q561
                      cases e561
                      replace p561 := eq_true p561
                      replace q561 := eq_true q561
                      go_wp2
                      go_roundg k5
                      case measure => have := HJ4.out; have := HK2.out; have := HJ13.out; have := HJ22.out; have := HK5.out; omega
                      case rel => exact ⟨(x9_5), (wrap64 (x15_5 + 1)), (by first | rfl | (simp; done) | (simp [*]; done)), H', ⟨by have := HJ4.out; have := HK2.out; have := HJ13.out; have := HJ22.out; have := HK5.out; omega⟩, ⟨by (with_reducible repeat (first | apply Kd.R_alloc | apply Kd.R_drewN | apply Kd.R_drew)); exact HO_9.out⟩, ⟨by (with_reducible repeat (first | apply Kd.R_alloc | apply Kd.R_drewN | apply Kd.R_drew)); exact HO_13.out⟩, ⟨by (with_reducible repeat (first | refine blk_drewN ?_ _ | refine blk_drew ?_ | refine blk_alloc ?_ _)); exact BK552.out⟩, ⟨by repeat (first | (with_reducible first | exact HB.out | apply below_alloc | apply pw_below_drewN | apply below_drew1 | refine below_set ?_ GE552.out) | exact HB.out)⟩⟩
                    ·rw [if_neg c34] at H
                     exact absurd H (by simp)
                   ·rw [if_neg c33] at H
                    exact absurd H (by simp)
                  ·rw [if_neg c31] at H
                   have c31b0 : decide (x15_5 < ((rd_T63 l1 x10_2).f0.f4)) = false := decide_eq_false c31
                   clear c31
                   have H' := Aside0.mk H
                   clear H
                   have hcz48_0 : wr.cell? ⟨gb552, 0, none⟩ = some (.int .i64 ((rd_T63 l1 x10_2).f0.f0)) := (blk_cell BK552.out 0).trans rfl
                   have hcz48_1 : wr.cell? ⟨gb552, 1, none⟩ = some (.int .i64 ((rd_T63 l1 x10_2).f0.f1)) := (blk_cell BK552.out 1).trans rfl
                   have hcz48_2 : wr.cell? ⟨gb552, 2, none⟩ = some (.int .i64 ((rd_T63 l1 x10_2).f0.f2)) := (blk_cell BK552.out 2).trans rfl
                   have hcz48_3 : wr.cell? ⟨gb552, 3, none⟩ = some (.int .i64 ((rd_T63 l1 x10_2).f0.f3)) := (blk_cell BK552.out 3).trans rfl
                   have hcz48_4 : wr.cell? ⟨gb552, 4, none⟩ = some (.int .i64 ((rd_T63 l1 x10_2).f0.f4)) := (blk_cell BK552.out 4).trans rfl
                   have hfz48_0 := blk_frozen BK552.out 0
                   have hfz48_1 := blk_frozen BK552.out 1
                   have hfz48_2 := blk_frozen BK552.out 2
                   have hfz48_3 := blk_frozen BK552.out 3
                   have hfz48_4 := blk_frozen BK552.out 4
                   go_wp2
                   go_roundg k5
                   case measure => have := HJ4.out; have := HK2.out; have := HJ13.out; have := HJ22.out; have := HK5.out; omega
                   case rel => exact ⟨(x9_5), (wrap64 (x10_2 + 1)), (by first | rfl | (simp; done) | (simp [*]; done)), H', ⟨by have := HJ4.out; have := HK2.out; have := HJ13.out; have := HJ22.out; have := HK5.out; omega⟩, ⟨by (with_reducible repeat (first | apply Kd.R_alloc | apply Kd.R_drewN | apply Kd.R_drew)); exact HO_9.out⟩, ⟨by repeat (first | (with_reducible first | exact HB.out | apply below_alloc | apply pw_below_drewN | apply below_drew1 | refine below_set ?_ GE552.out) | exact HB.out)⟩⟩
             ·rw [if_neg c22] at H
              exact absurd H (by simp)
            ·rw [if_neg c21] at H
             exact absurd H (by simp)
        ·rw [if_neg c13] at H
         exact absurd H (by simp)
       ·rw [if_neg c12] at H
        have c12b0 : decide (x10_2 < (l1.length : Int)) = false := decide_eq_false c12
        clear c12
        simp only [Option.some.injEq, Prod.mk.injEq] at H
        obtain ⟨rfl, rfl⟩ := H
        go_wp2
        go_ret2
        exact ⟨_, by first | rfl | (simp [errW_none, errW_some] <;> rfl) | (simp [*, errW_none, errW_some] <;> rfl), by (with_reducible repeat (first | apply Kd.R_alloc | apply Kd.R_drewN | apply Kd.R_drew)); exact HO_9.out, by repeat (first | (with_reducible first | exact HB.out | apply below_alloc | apply pw_below_drewN | apply below_drew1) | exact HB.out)⟩
    ·rw [if_neg c10] at H
     exact absurd H (by simp)

end Go.Proofs.Ytilfgmclhoidiaa.PA
