-- MADE by wip/tools/xprint.py of this repo: the kit's print.py, turned by this session, and texts by hand
import Derived.Test.YtilfgmclhoidiaaPAx0
import Derived.Test.YtilfgmclhoidiaaPAx6
import Derived.Test.YtilfgmclhoidiaaPAx8
import Derived.Test.YtilfgmclhoidiaaPAx9
import Derived.Test.YtilfgmclhoidiaaPAx12
import Derived.Test.YtilfgmclhoidiaaPAx13
import Derived.Test.YtilfgmclhoidiaaPAx14
namespace Go.Proofs.Ytilfgmclhoidiaa.PA
open Go.RowKit Go.Proofs.YtilfgmclhoidiaaW.PrintWords Go.Proofs.YtilfgmclhoidiaaW.PrintLast Go.Proofs.YtilfgmclhoidiaaW.PrintMore
attribute [local go_sem] max2_int min2_int max_two min_two max_three min_three max_four min_four   -- for this text's walks alone
set_option linter.unusedVariables false
set_option linter.unusedSimpArgs false

/-! ### widths_Auto: function 16 -/
mutual
def widths_Auto.j0 : Nat → List (S35) → Int → Int → Bool → Option (List Int × Int)
 | 0, _, _, _, _ => none
 | k + 1, x0, x1, x6, x49 => if x49 = true then (some (([] : List Int), 130)) else (widths_Auto.l0 k x0 x1 x6 ([] : List Int) ([] : List Int) x0 (x0.length : Int) 0)
def widths_Auto.l0 : Nat → List (S35) → Int → Int → List Int → List Int → List (S35) → Int → Int → Option (List Int × Int)
 | 0, _, _, _, _, _, _, _, _ => none
 | k + 1, x0, x1, x6, x9, x10, x50, x51, x52 => if x52 < x51 then (if 0 ≤ x52 then (if x52 < (x50.length : Int) then ((widths_wish.f k ((rd_T35 x50 x52).f0) ((rd_T35 x50 x52).f1) ((rd_T35 x50 x52).f2) ((rd_T35 x50 x52).f3) x1).bind fun t140 => (if x9.length < 17592186044416 then (if x10.length < 17592186044416 then (widths_Auto.l0 k x0 x1 x6 (x9 ++ [t140]) (x10 ++ [mn (wrap64 (t140 - ((rd_T35 x50 x52).f0))) 1125899906842623]) x50 x51 (wrap64 (x52 + 1))) else (none)) else (none))) else (none)) else (none)) else ((fixed_Add.f x9).bind fun t147 => (if t147 ≤ x1 then ((widths_free.f x0).bind fun t148 => (widths_Auto.l1 k x0 x1 x9 ([] : List Int) t147 t148 t148 (t148.length : Int) 0)) else ((fixed_Share.f (wrap64 (x1 - x6)) x10).bind fun bt164 => (widths_Auto.l3 k x9 bt164.1 x0 (x0.length : Int) 0))))
def widths_Auto.l1 : Nat → List (S35) → Int → List Int → List Int → Int → List Int → List Int → Int → Int → Option (List Int × Int)
 | 0, _, _, _, _, _, _, _, _, _ => none
 | k + 1, x0, x1, x9, x11, x15, x16, x79, x80, x81 => if x81 < x80 then (if 0 ≤ x81 then (if x81 < (x79.length : Int) then (if 0 ≤ (rd x79 x81) then (if (rd x79 x81) < (x0.length : Int) then (if x11.length < 17592186044416 then (widths_Auto.l1 k x0 x1 x9 (x11 ++ [(rd_T35 x0 (rd x79 x81)).f1]) x15 x16 x79 x80 (wrap64 (x81 + 1))) else (none)) else (none)) else (none)) else (none)) else (none)) else ((fixed_Share.f (wrap64 (x1 - x15)) x11).bind fun bt156 => (widths_Auto.l2 k x9 bt156.1 x16 (x16.length : Int) 0))
def widths_Auto.l2 : Nat → List Int → List Int → List Int → Int → Int → Option (List Int × Int)
 | 0, _, _, _, _, _ => none
 | k + 1, x9, x19, x102, x103, x104 => if x104 < x103 then (if 0 ≤ x104 then (if x104 < (x102.length : Int) then (if 0 ≤ (rd x102 x104) then (if (rd x102 x104) < (x9.length : Int) then (if x104 < (x19.length : Int) then (widths_Auto.l2 k (x9.set ((rd x102 x104) : Int).toNat (wrap64 ((rd x9 (rd x102 x104)) + (rd x19 x104)))) x19 x102 x103 (wrap64 (x104 + 1))) else (none)) else (none)) else (none)) else (none)) else (none)) else (some (x9, 0))
def widths_Auto.l3 : Nat → List Int → List Int → List (S35) → Int → Int → Option (List Int × Int)
 | 0, _, _, _, _, _ => none
 | k + 1, x9, x23, x129, x130, x131 => if x131 < x130 then (if 0 ≤ x131 then (if x131 < (x129.length : Int) then (if x131 < (x23.length : Int) then (if x131 < (x9.length : Int) then (widths_Auto.l3 k (x9.set (x131 : Int).toNat (wrap64 (((rd_T35 x129 x131).f0) + (rd x23 x131)))) x23 x129 x130 (wrap64 (x131 + 1))) else (none)) else (none)) else (none)) else (none)) else (some (x9, 0))
end
def widths_Auto.f (k : Nat) (l0 : List (S35)) (a1 : Int) : Option (List Int × Int) := (columns_Sums.f k l0).bind fun bt134 => (if (l0.length : Int) = 0 then (widths_Auto.j0 k l0 a1 bt134.1 true) else ((columns_RightBands.f l0).bind fun t137 => (if t137 = true then (if a1 < bt134.1 then (widths_Auto.j0 k l0 a1 bt134.1 true) else (widths_Auto.j0 k l0 a1 bt134.1 (decide (a1 > 576460752303423488)))) else (widths_Auto.j0 k l0 a1 bt134.1 true))))
theorem widths_Auto.mono_l : ∀ k, (∀ y0 y1 y2 y3, LeO (widths_Auto.j0 k y0 y1 y2 y3) (widths_Auto.j0 (k + 1) y0 y1 y2 y3)) ∧ (∀ y0 y1 y2 y3 y4 y5 y6 y7, LeO (widths_Auto.l0 k y0 y1 y2 y3 y4 y5 y6 y7) (widths_Auto.l0 (k + 1) y0 y1 y2 y3 y4 y5 y6 y7)) ∧ (∀ y0 y1 y2 y3 y4 y5 y6 y7 y8, LeO (widths_Auto.l1 k y0 y1 y2 y3 y4 y5 y6 y7 y8) (widths_Auto.l1 (k + 1) y0 y1 y2 y3 y4 y5 y6 y7 y8)) ∧ (∀ y0 y1 y2 y3 y4, LeO (widths_Auto.l2 k y0 y1 y2 y3 y4) (widths_Auto.l2 (k + 1) y0 y1 y2 y3 y4)) ∧ (∀ y0 y1 y2 y3 y4, LeO (widths_Auto.l3 k y0 y1 y2 y3 y4) (widths_Auto.l3 (k + 1) y0 y1 y2 y3 y4))
 | 0 => ⟨fun _ _ _ _ r h => by simp [widths_Auto.j0] at h, fun _ _ _ _ _ _ _ _ r h => by simp [widths_Auto.l0] at h, fun _ _ _ _ _ _ _ _ _ r h => by simp [widths_Auto.l1] at h, fun _ _ _ _ _ r h => by simp [widths_Auto.l2] at h, fun _ _ _ _ _ r h => by simp [widths_Auto.l3] at h⟩
 | k + 1 => by
  obtain ⟨ih0, ih1, ih2, ih3, ih4⟩ := widths_Auto.mono_l k
  refine ⟨?_, ?_, ?_, ?_, ?_⟩
  ·intro y0 y1 y2 y3
   unfold widths_Auto.j0
   repeat' first
   | (with_reducible exact ih0 _ _ _ _)
   | (with_reducible exact ih1 _ _ _ _ _ _ _ _)
   | (with_reducible exact ih2 _ _ _ _ _ _ _ _ _)
   | (with_reducible exact ih3 _ _ _ _ _)
   | (with_reducible exact ih4 _ _ _ _ _)
   | (with_reducible exact columns_Sums.mono _ _)
   | (with_reducible exact widths_wish.mono _ _ _ _ _ _)
   | (with_reducible exact LeO.refl _)
   | (with_reducible exact LeO.none _)
   | (with_reducible refine LeO.ite ?_ ?_)
   | (with_reducible refine LeO.bind ?_ (fun _ => ?_))
   | exact ih0 _ _ _ _
   | exact ih1 _ _ _ _ _ _ _ _
   | exact ih2 _ _ _ _ _ _ _ _ _
   | exact ih3 _ _ _ _ _
   | exact ih4 _ _ _ _ _
   | exact columns_Sums.mono _ _
   | exact widths_wish.mono _ _ _ _ _ _
   | exact LeO.none _
   | refine LeO.ite ?_ ?_
   | refine LeO.bind ?_ (fun _ => ?_)
  ·intro y0 y1 y2 y3 y4 y5 y6 y7
   unfold widths_Auto.l0
   repeat' first
   | (with_reducible exact ih0 _ _ _ _)
   | (with_reducible exact ih1 _ _ _ _ _ _ _ _)
   | (with_reducible exact ih2 _ _ _ _ _ _ _ _ _)
   | (with_reducible exact ih3 _ _ _ _ _)
   | (with_reducible exact ih4 _ _ _ _ _)
   | (with_reducible exact columns_Sums.mono _ _)
   | (with_reducible exact widths_wish.mono _ _ _ _ _ _)
   | (with_reducible exact LeO.refl _)
   | (with_reducible exact LeO.none _)
   | (with_reducible refine LeO.ite ?_ ?_)
   | (with_reducible refine LeO.bind ?_ (fun _ => ?_))
   | exact ih0 _ _ _ _
   | exact ih1 _ _ _ _ _ _ _ _
   | exact ih2 _ _ _ _ _ _ _ _ _
   | exact ih3 _ _ _ _ _
   | exact ih4 _ _ _ _ _
   | exact columns_Sums.mono _ _
   | exact widths_wish.mono _ _ _ _ _ _
   | exact LeO.none _
   | refine LeO.ite ?_ ?_
   | refine LeO.bind ?_ (fun _ => ?_)
  ·intro y0 y1 y2 y3 y4 y5 y6 y7 y8
   unfold widths_Auto.l1
   repeat' first
   | (with_reducible exact ih0 _ _ _ _)
   | (with_reducible exact ih1 _ _ _ _ _ _ _ _)
   | (with_reducible exact ih2 _ _ _ _ _ _ _ _ _)
   | (with_reducible exact ih3 _ _ _ _ _)
   | (with_reducible exact ih4 _ _ _ _ _)
   | (with_reducible exact columns_Sums.mono _ _)
   | (with_reducible exact widths_wish.mono _ _ _ _ _ _)
   | (with_reducible exact LeO.refl _)
   | (with_reducible exact LeO.none _)
   | (with_reducible refine LeO.ite ?_ ?_)
   | (with_reducible refine LeO.bind ?_ (fun _ => ?_))
   | exact ih0 _ _ _ _
   | exact ih1 _ _ _ _ _ _ _ _
   | exact ih2 _ _ _ _ _ _ _ _ _
   | exact ih3 _ _ _ _ _
   | exact ih4 _ _ _ _ _
   | exact columns_Sums.mono _ _
   | exact widths_wish.mono _ _ _ _ _ _
   | exact LeO.none _
   | refine LeO.ite ?_ ?_
   | refine LeO.bind ?_ (fun _ => ?_)
  ·intro y0 y1 y2 y3 y4
   unfold widths_Auto.l2
   repeat' first
   | (with_reducible exact ih0 _ _ _ _)
   | (with_reducible exact ih1 _ _ _ _ _ _ _ _)
   | (with_reducible exact ih2 _ _ _ _ _ _ _ _ _)
   | (with_reducible exact ih3 _ _ _ _ _)
   | (with_reducible exact ih4 _ _ _ _ _)
   | (with_reducible exact columns_Sums.mono _ _)
   | (with_reducible exact widths_wish.mono _ _ _ _ _ _)
   | (with_reducible exact LeO.refl _)
   | (with_reducible exact LeO.none _)
   | (with_reducible refine LeO.ite ?_ ?_)
   | (with_reducible refine LeO.bind ?_ (fun _ => ?_))
   | exact ih0 _ _ _ _
   | exact ih1 _ _ _ _ _ _ _ _
   | exact ih2 _ _ _ _ _ _ _ _ _
   | exact ih3 _ _ _ _ _
   | exact ih4 _ _ _ _ _
   | exact columns_Sums.mono _ _
   | exact widths_wish.mono _ _ _ _ _ _
   | exact LeO.none _
   | refine LeO.ite ?_ ?_
   | refine LeO.bind ?_ (fun _ => ?_)
  ·intro y0 y1 y2 y3 y4
   unfold widths_Auto.l3
   repeat' first
   | (with_reducible exact ih0 _ _ _ _)
   | (with_reducible exact ih1 _ _ _ _ _ _ _ _)
   | (with_reducible exact ih2 _ _ _ _ _ _ _ _ _)
   | (with_reducible exact ih3 _ _ _ _ _)
   | (with_reducible exact ih4 _ _ _ _ _)
   | (with_reducible exact columns_Sums.mono _ _)
   | (with_reducible exact widths_wish.mono _ _ _ _ _ _)
   | (with_reducible exact LeO.refl _)
   | (with_reducible exact LeO.none _)
   | (with_reducible refine LeO.ite ?_ ?_)
   | (with_reducible refine LeO.bind ?_ (fun _ => ?_))
   | exact ih0 _ _ _ _
   | exact ih1 _ _ _ _ _ _ _ _
   | exact ih2 _ _ _ _ _ _ _ _ _
   | exact ih3 _ _ _ _ _
   | exact ih4 _ _ _ _ _
   | exact columns_Sums.mono _ _
   | exact widths_wish.mono _ _ _ _ _ _
   | exact LeO.none _
   | refine LeO.ite ?_ ?_
   | refine LeO.bind ?_ (fun _ => ?_)
theorem widths_Auto.mono : ∀ a0 a1 k, LeO (widths_Auto.f k a0 a1) (widths_Auto.f (k + 1) a0 a1) := by
 intro a0 a1 k
 obtain ⟨ih0, ih1, ih2, ih3, ih4⟩ := widths_Auto.mono_l k
 unfold widths_Auto.f
 repeat' first
   | (with_reducible exact ih0 _ _ _ _)
   | (with_reducible exact ih1 _ _ _ _ _ _ _ _)
   | (with_reducible exact ih2 _ _ _ _ _ _ _ _ _)
   | (with_reducible exact ih3 _ _ _ _ _)
   | (with_reducible exact ih4 _ _ _ _ _)
   | (with_reducible exact columns_Sums.mono _ _)
   | (with_reducible exact widths_wish.mono _ _ _ _ _ _)
   | (with_reducible exact LeO.refl _)
   | (with_reducible exact LeO.none _)
   | (with_reducible refine LeO.ite ?_ ?_)
   | (with_reducible refine LeO.bind ?_ (fun _ => ?_))
   | exact ih0 _ _ _ _
   | exact ih1 _ _ _ _ _ _ _ _
   | exact ih2 _ _ _ _ _ _ _ _ _
   | exact ih3 _ _ _ _ _
   | exact ih4 _ _ _ _ _
   | exact columns_Sums.mono _ _
   | exact widths_wish.mono _ _ _ _ _ _
   | exact LeO.none _
   | refine LeO.ite ?_ ?_
   | refine LeO.bind ?_ (fun _ => ?_)
def widths_Auto.T24 : Bool × List (List Nat × List Nat) := (true, [([], []), ([], []), ([0, 1], [0, 1]), ([2], [2]), ([], []), ([], []), ([4, 5], [4, 5]), ([6], [6]), ([3, 7], [3, 7]), ([0, 1, 0, 1, 2, 3, 4, 5, 6, 7, 8], [0, 1]), ([9, 8, 0, 1, 2, 3, 4, 5, 6, 7, 8], [8, 9])])
def widths_Auto.B24 : List Nat := [0, 0, 3, 7, 0, 0, 48, 112, 255, 511, 1023]
theorem widths_Auto.tab24 : rtab .any (opsOf Try.f16 24) = widths_Auto.T24 := by kernel_rfl
theorem widths_Auto.bits24 : waitsOk widths_Auto.T24.2 widths_Auto.B24 = true := by kernel_rfl
def widths_Auto.T31 : Bool × List (List Nat × List Nat) := (true, [([], []), ([], []), ([], []), ([2], [2]), ([], []), ([], []), ([4, 5], [4, 5]), ([6], [6]), ([3, 7], [3, 7]), ([0, 1, 0, 1, 2, 3, 4, 5, 6, 7, 8], [0, 1]), ([9, 8, 0, 1, 2, 3, 4, 5, 6, 7, 8], [8, 9])])
def widths_Auto.B31 : List Nat := [0, 0, 0, 4, 0, 0, 48, 112, 252, 511, 1023]
theorem widths_Auto.tab31 : rtab .any (opsOf Try.f16 31) = widths_Auto.T31 := by kernel_rfl
theorem widths_Auto.bits31 : waitsOk widths_Auto.T31.2 widths_Auto.B31 = true := by kernel_rfl
set_option maxHeartbeats 8000000 in
set_option maxRecDepth 100000 in
theorem widths_Auto.calls (k : Nat) (A0 : Option Addr) (c0 : Nat) (l0 : List (S35)) (a1 : Int) (r1 : List Int) (r2 : Int) (w : World) (hr0 : Kd.C k35 w A0 l0.length l0) (hc0 : l0.length ≤ c0) (h : widths_Auto.f k l0 a1 = some (r1, r2)) :
  Calls Try.prog 16 #[.slice A0 l0.length c0, .int .i64 a1] w fun e w' => ∃ v0_ : Value, e = .returned (.tuple #[v0_, .int .i64 r2]) ∧ Kd.R (Kd.int .i64) 2 w' w.heap.size (fun _ => True) v0_ r1 ∧ Below w.heap.size w w' := by
 have hu35 := Try.underlying35
 have HR0 := Aside0.mk hr0
 have HC0 := Aside0.mk hc0
 clear hr0 hc0
 have HB := Aside0.mk (Below.refl w.heap.size w)
 have H : ((columns_Sums.f k l0).bind fun bt134 => (if (l0.length : Int) = 0 then (widths_Auto.j0 k l0 a1 bt134.1 true) else ((columns_RightBands.f l0).bind fun t137 => (if t137 = true then (if a1 < bt134.1 then (widths_Auto.j0 k l0 a1 bt134.1 true) else (widths_Auto.j0 k l0 a1 bt134.1 (decide (a1 > 576460752303423488)))) else (widths_Auto.j0 k l0 a1 bt134.1 true))))) = some (r1, r2) := h
 clear h
 replace H := Option.bind_eq_some_iff.mp H
 obtain ⟨⟨t134, t135, t136⟩, A30, H⟩ := H
 replace H : (if (l0.length : Int) = 0 then (widths_Auto.j0 k l0 a1 t134 true) else ((columns_RightBands.f l0).bind fun t137 => (if t137 = true then (if a1 < t134 then (widths_Auto.j0 k l0 a1 t134 true) else (widths_Auto.j0 k l0 a1 t134 (decide (a1 > 576460752303423488)))) else (widths_Auto.j0 k l0 a1 t134 true)))) = some (r1, r2) := H
 have A3 := Aside0.mk A30
 clear A30
 have HC4 := Aside0.mk H
 clear H
 go_enter Try.func16, Try.ntmps16
 go_upto_region 2 with (first | ((with_reducible refine gate_callee (f := 20) rfl ?_); refine goesL_ (some 29) rfl rfl Try.func20 (by kernel_rfl) rfl #[.slice A0 l0.length c0] rfl (by (try simp only [List.map_toArray, List.map_cons, List.map_nil]); first | done | rfl | (simp only [List.length_drop, List.length_take]; rfl)) ?_; (with_reducible refine (columns_Sums.calls k _ _ l0 t134 t135 t136 _ ?side1 ?side2 A3.out).mono ?_); (case side1 => repeat (first | exact HR0.out | (with_reducible refine Kd.C_alloc ?_ _) | (with_reducible refine Kd.C_drewN ?_ _) | (with_reducible refine Kd.C_drew ?_))); (case side2 => exact HC0.out); rintro e w5 ⟨rfl, hb⟩; refine ⟨_, rfl, ?_⟩; have n0_ := Aside0.mk (below_step (by repeat (first | (with_reducible first | exact HB.out | apply below_alloc | apply pw_below_drewN | apply below_drew1) | exact HB.out)) hb); clear HB; have HB := n0_; clear n0_; (try clear hb); (try clear hb2); (try clear hk); (try clear hi)))
 (try simp only [Act.put, List.setIfInBounds_toArray, List.set_cons_zero, List.set_cons_succ])
 go_cut [49] (fun v49 wc => ∃ (kq : Nat) (x49_3 : Bool), v49 = .bool x49_3 ∧ Aside0 (widths_Auto.j0 kq l0 a1 t134 x49_3 = some (r1, r2)) ∧ Aside0 (kq ≤ k) ∧ Aside0 (Below w.heap.size w wc))
 case first =>
  have H := HC4.out
  clear HC4
  by_cases c6 : (l0.length : Int) = 0
  ·rw [if_pos c6] at H
   have c6b0 : ((l0.length : Int) == 0) = true := beq_iff_eq.mpr c6
   have c6b1 : ((l0.length : Int) != 0) = false := bne_eq_false_iff_eq.mpr c6
   clear c6
   (first | rw [c6b0] | (simp only [i64_w, i32_w]; rw [c6b0]) | skip)
   have H' := Aside0.mk H
   clear H
   go_wp2
   go_meet
   case rel => exact ⟨_, (true), (by first | rfl | (simp; done) | (simp [*]; done)), H', ⟨by first | omega | exact Nat.le_refl _⟩, ⟨by repeat (first | (with_reducible first | exact HB.out | apply below_alloc | apply pw_below_drewN | apply below_drew1) | exact HB.out)⟩⟩
  ·rw [if_neg c6] at H
   have c6b0 : ((l0.length : Int) == 0) = false := beq_eq_false_iff_ne.mpr c6
   have c6b1 : ((l0.length : Int) != 0) = true := bne_iff_ne.mpr c6
   have c6b2 : ¬ (l0 = []) := fun h_ => c6 (by rw [h_]; rfl)
   (first | rw [c6b0] | (simp only [i64_w, i32_w]; rw [c6b0]) | skip)
   replace H := Option.bind_eq_some_iff.mp H
   obtain ⟨t137, A70, H⟩ := H
   replace H : (if t137 = true then (if a1 < t134 then (widths_Auto.j0 k l0 a1 t134 true) else (widths_Auto.j0 k l0 a1 t134 (decide (a1 > 576460752303423488)))) else (widths_Auto.j0 k l0 a1 t134 true)) = some (r1, r2) := H
   have A7 := Aside0.mk A70
   clear A70
   by_cases c8 : t137 = true
   ·subst c8
    have H1 : (if a1 < t134 then (widths_Auto.j0 k l0 a1 t134 true) else (widths_Auto.j0 k l0 a1 t134 (decide (a1 > 576460752303423488)))) = some (r1, r2) := by rw [if_pos rfl] at H; exact H
    clear H
    have H := H1
    clear H1
    by_cases c9 : a1 < t134
    ·rw [if_pos c9] at H
     have c9b0 : decide (a1 < t134) = true := decide_eq_true c9
     clear c9
     have H' := Aside0.mk H
     clear H
     go_wp2_with (first | (go_at_call 21; (with_reducible refine (columns_RightBands.calls _ _ l0 true _ ?side1 ?side2 A7.out).mono ?_); (case side1 => repeat (first | exact (Kd.C_below HR0.out HB.out) | (with_reducible refine Kd.C_alloc ?_ _) | (with_reducible refine Kd.C_drewN ?_ _) | (with_reducible refine Kd.C_drew ?_))); (case side2 => exact HC0.out); rintro e w10 ⟨rfl, hb⟩; have n0_ := Aside0.mk (below_step (by repeat (first | (with_reducible first | exact HB.out | apply below_alloc | apply pw_below_drewN | apply below_drew1) | exact HB.out)) hb); clear HB; have HB := n0_; clear n0_; (try clear hb); (try clear hb2); (try clear hk); (try clear hi)))
     go_meet
     case rel => exact ⟨_, (true), (by first | rfl | (simp; done) | (simp [*]; done)), H', ⟨by first | omega | exact Nat.le_refl _⟩, ⟨by repeat (first | (with_reducible first | exact HB.out | apply below_alloc | apply pw_below_drewN | apply below_drew1) | exact HB.out)⟩⟩
    ·rw [if_neg c9] at H
     have c9b0 : decide (a1 < t134) = false := decide_eq_false c9
     clear c9
     have H' := Aside0.mk H
     clear H
     go_wp2_with (first | (go_at_call 21; (with_reducible refine (columns_RightBands.calls _ _ l0 true _ ?side1 ?side2 A7.out).mono ?_); (case side1 => repeat (first | exact (Kd.C_below HR0.out HB.out) | (with_reducible refine Kd.C_alloc ?_ _) | (with_reducible refine Kd.C_drewN ?_ _) | (with_reducible refine Kd.C_drew ?_))); (case side2 => exact HC0.out); rintro e w11 ⟨rfl, hb⟩; have n0_ := Aside0.mk (below_step (by repeat (first | (with_reducible first | exact HB.out | apply below_alloc | apply pw_below_drewN | apply below_drew1) | exact HB.out)) hb); clear HB; have HB := n0_; clear n0_; (try clear hb); (try clear hb2); (try clear hk); (try clear hi)))
     go_meet
     case rel => exact ⟨_, (decide (a1 > 576460752303423488)), (by first | rfl | (simp; done) | (simp [*]; done)), H', ⟨by first | omega | exact Nat.le_refl _⟩, ⟨by repeat (first | (with_reducible first | exact HB.out | apply below_alloc | apply pw_below_drewN | apply below_drew1) | exact HB.out)⟩⟩
   ·replace c8 := Bool.eq_false_iff.mpr c8
    subst c8
    have H1 : (widths_Auto.j0 k l0 a1 t134 true) = some (r1, r2) := by rw [if_neg (show ¬ (false = true) by decide)] at H; exact H
    clear H
    have H := H1
    clear H1
    have H' := Aside0.mk H
    clear H
    go_wp2_with (first | (go_at_call 21; (with_reducible refine (columns_RightBands.calls _ _ l0 false _ ?side1 ?side2 A7.out).mono ?_); (case side1 => repeat (first | exact (Kd.C_below HR0.out HB.out) | (with_reducible refine Kd.C_alloc ?_ _) | (with_reducible refine Kd.C_drewN ?_ _) | (with_reducible refine Kd.C_drew ?_))); (case side2 => exact HC0.out); rintro e w12 ⟨rfl, hb⟩; have n0_ := Aside0.mk (below_step (by repeat (first | (with_reducible first | exact HB.out | apply below_alloc | apply pw_below_drewN | apply below_drew1) | exact HB.out)) hb); clear HB; have HB := n0_; clear n0_; (try clear hb); (try clear hb2); (try clear hk); (try clear hi)))
    go_meet
    case rel => exact ⟨_, (true), (by first | rfl | (simp; done) | (simp [*]; done)), H', ⟨by first | omega | exact Nat.le_refl _⟩, ⟨by repeat (first | (with_reducible first | exact HB.out | apply below_alloc | apply pw_below_drewN | apply below_drew1) | exact HB.out)⟩⟩
 case rest =>
  clear HC4
  try clear c1
  try clear c2
  try clear p2
  try clear c6
  try clear c6b0
  try clear c6b1
  try clear c6b2
  try clear c8
  try clear c9
  try clear c9b0
  obtain ⟨kq, x49_3, rfl, HA, HJ3, HB⟩ := hcut
  cases kq with
  | zero => exact absurd HA.out (by simp [widths_Auto.j0])
  | succ kj3 =>
   have H := HA.out
   clear HA
   simp only [widths_Auto.j0] at H
   by_cases c13 : x49_3 = true
   ·subst c13
    have H1 : (some (([] : List Int), 130)) = some (r1, r2) := by rw [if_pos rfl] at H; exact H
    clear H
    have H := H1
    clear H1
    simp only [Option.some.injEq, Prod.mk.injEq] at H
    obtain ⟨rfl, rfl⟩ := H
    go_wp2
    go_ret2
    exact ⟨_, by first | rfl | (simp [errW_none, errW_some] <;> rfl) | (simp [*, errW_none, errW_some] <;> rfl), by first | exact Kd.R_nil _ _ _ _ _ | exact Kd.N_nil _ _ _ _ _ | exact Kd.V_nil _ _ _ _ _ | exact Kd.Q_nil _ _ _ _ _ | exact Kd.S_nil _ _ _ _ _, by repeat (first | (with_reducible first | exact HB.out | apply below_alloc | apply pw_below_drewN | apply below_drew1) | exact HB.out)⟩
   ·replace c13 := Bool.eq_false_iff.mpr c13
    subst c13
    have H1 : (widths_Auto.l0 kj3 l0 a1 t134 ([] : List Int) ([] : List Int) l0 (l0.length : Int) 0) = some (r1, r2) := by rw [if_neg (show ¬ (false = true) by decide)] at H; exact H
    clear H
    have H := H1
    clear H1
    have H' := Aside0.mk H
    clear H
    go_wp2
    go_loopg [9, 10, 52] kj3 (fun kq v9 v10 v52 w' => ∃ (x9_2 : List Int) (x10_2 : List Int) (x52_2 : Int), v52 = .int .i64 x52_2 ∧ Aside0 (widths_Auto.l0 kq l0 a1 t134 x9_2 x10_2 l0 (l0.length : Int) x52_2 = some (r1, r2)) ∧ Aside0 (kq ≤ kj3) ∧ Aside0 (Kd.R (Kd.int .i64) 2 w' w.heap.size (fun k_ => some k_ ≠ (v10 : Value).ownBlock) v9 x9_2) ∧ Aside0 (Kd.R (Kd.int .i64) 2 w' w.heap.size (fun k_ => some k_ ≠ (v9 : Value).ownBlock) v10 x10_2) ∧ Aside0 (Below w.heap.size w w'))
    case atStart => exact ⟨(([] : List Int)), (([] : List Int)), (0), (by first | rfl | (simp; done) | (simp [*]; done)), H', ⟨Nat.le_refl _⟩, ⟨by first | exact Kd.R_nil _ _ _ _ _ | exact Kd.N_nil _ _ _ _ _ | exact Kd.V_nil _ _ _ _ _ | exact Kd.Q_nil _ _ _ _ _ | exact Kd.S_nil _ _ _ _ _⟩, ⟨by first | exact Kd.R_nil _ _ _ _ _ | exact Kd.N_nil _ _ _ _ _ | exact Kd.V_nil _ _ _ _ _ | exact Kd.Q_nil _ _ _ _ _ | exact Kd.S_nil _ _ _ _ _⟩, ⟨by repeat (first | (with_reducible first | exact HB.out | apply below_alloc | apply pw_below_drewN | apply below_drew1) | exact HB.out)⟩⟩
    case round =>
     clear H'
     try clear c1
     try clear c2
     try clear p2
     try clear c6
     try clear c6b0
     try clear c6b1
     try clear c6b2
     try clear c8
     try clear c9
     try clear c9b0
     try clear c13
     try clear p2
     obtain ⟨x9_2, x10_2, x52_2, rfl, HA, HK2, HO_9, HO_10, HB⟩ := hrel
     cases gk with
     | zero => exact absurd HA.out (by simp [widths_Auto.l0])
     | succ k2 =>
      have H := HA.out
      clear HA
      simp only [widths_Auto.l0] at H
      by_cases c14 : x52_2 < (l0.length : Int)
      ·rw [if_pos c14] at H
       have c14b0 : decide (x52_2 < (l0.length : Int)) = true := decide_eq_true c14
       clear c14
       by_cases c15 : 0 ≤ x52_2
       ·rw [if_pos c15] at H
        have c15b0 : decide (0 ≤ x52_2) = true := decide_eq_true c15
        clear c15
        by_cases c16 : x52_2 < (l0.length : Int)
        ·rw [if_pos c16] at H
         have c16b0 : decide (x52_2 < (l0.length : Int)) = true := decide_eq_true c16
         clear c16
         replace H := Option.bind_eq_some_iff.mp H
         obtain ⟨t140, A170, H⟩ := H
         replace H : (if x9_2.length < 17592186044416 then (if x10_2.length < 17592186044416 then (widths_Auto.l0 k2 l0 a1 t134 (x9_2 ++ [t140]) (x10_2 ++ [mn (wrap64 (t140 - ((rd_T35 l0 x52_2).f0))) 1125899906842623]) l0 (l0.length : Int) (wrap64 (x52_2 + 1))) else (none)) else (none)) = some (r1, r2) := H
         have A17 := Aside0.mk A170
         clear A170
         by_cases c18 : x9_2.length < 17592186044416
         ·rw [if_pos c18] at H
          have LMc18 := Aside0.mk c18
          clear c18
          obtain ⟨y141, hy141⟩ : ∃ y_ : List Int, y_ = (x9_2 ++ [t140]) := ⟨_, rfl⟩
          replace H : (if x10_2.length < 17592186044416 then (widths_Auto.l0 k2 l0 a1 t134 y141 (x10_2 ++ [mn (wrap64 (t140 - ((rd_T35 l0 x52_2).f0))) 1125899906842623]) l0 (l0.length : Int) (wrap64 (x52_2 + 1))) else (none)) = some (r1, r2) := by first | (rw [hy141]; with_reducible exact H) | (have H2_ := (Option.bind_some _ _).symm.trans H; rw [hy141]; with_reducible exact H2_) | (have H2_ := (Option.bind_some _ _).symm.trans H; with_reducible exact H2_) | with_reducible exact H | (rw [hy141]; exact H) | exact H
          have Ny141 := Aside0.mk hy141
          clear hy141
          obtain ⟨ji19, hji19⟩ : ∃ j_ : Int, (mn (wrap64 (t140 - ((rd_T35 l0 x52_2).f0))) 1125899906842623) = j_ := ⟨_, rfl⟩
          replace H : (if x10_2.length < 17592186044416 then (widths_Auto.l0 k2 l0 a1 t134 y141 (x10_2 ++ [ji19]) l0 (l0.length : Int) (wrap64 (x52_2 + 1))) else (none)) = some (r1, r2) := by first | (rw [hji19] at H; exact H) | (simp only [hji19] at H ⊢; exact H)
          (try rw [hji19] at A17)
          have hji19_ : (if 1125899906842623 < (wrap64 (t140 - ((rd_T35 l0 x52_2).f0))) then 1125899906842623 else (wrap64 (t140 - ((rd_T35 l0 x52_2).f0)))) = ji19 := hji19
          by_cases c20 : x10_2.length < 17592186044416
          ·rw [if_pos c20] at H
           have LMc20 := Aside0.mk c20
           clear c20
           obtain ⟨y144, hy144⟩ : ∃ y_ : List Int, y_ = (x10_2 ++ [ji19]) := ⟨_, rfl⟩
           replace H : (widths_Auto.l0 k2 l0 a1 t134 y141 y144 l0 (l0.length : Int) (wrap64 (x52_2 + 1))) = some (r1, r2) := by first | (rw [hy144]; with_reducible exact H) | (have H2_ := (Option.bind_some _ _).symm.trans H; rw [hy144]; with_reducible exact H2_) | (have H2_ := (Option.bind_some _ _).symm.trans H; with_reducible exact H2_) | with_reducible exact H | (rw [hy144]; exact H) | exact H
           have Ny144 := Aside0.mk hy144
           clear hy144
           have H' := Aside0.mk H
           clear H
           have p138 : 0 ≤ (x52_2 : Int) := of_decide_eq_true (by first | (with_reducible assumption) | assumption)
           have q138 : x52_2 < (l0.length : Int) := of_decide_eq_true (by first | (with_reducible assumption) | assumption)
           obtain ⟨ad138, e138, hx138_0, hx138_1, hx138_2, hx138_3⟩ := at_T35 HR0.out x52_2 p138 q138
           cases e138
           replace hx138_0 := (HB.out.cell (World.block_lt_of_cell? w _ hx138_0)).trans hx138_0
           replace hx138_1 := (HB.out.cell (World.block_lt_of_cell? w _ hx138_1)).trans hx138_1
           replace hx138_2 := (HB.out.cell (World.block_lt_of_cell? w _ hx138_2)).trans hx138_2
           replace hx138_3 := (HB.out.cell (World.block_lt_of_cell? w _ hx138_3)).trans hx138_3
           replace p138 := eq_true p138
           replace q138 := eq_true q138
           go_wp2_with (first | ((with_reducible refine gate_dst (N := 13) rfl ?_); refine box_event ?hg (N := 13) ?hd (cs := #[.int .i64 0, .int .i64 0, .int .i64 0, .int .i64 0]) (t := 35) ?hr ?_; (case hd => rfl); (case hg => rfl); (case hr => first | (go_simp; done) | (go_simp; rfl)); intro gb139 hg w21 hbox hb; have n0_ := Aside0.mk (Kd.R_below (by (with_reducible repeat (first | apply Kd.R_alloc | apply Kd.R_drewN | apply Kd.R_drew)); exact HO_9.out) hb); have n1_ := Aside0.mk (Kd.R_below (by (with_reducible repeat (first | apply Kd.R_alloc | apply Kd.R_drewN | apply Kd.R_drew)); exact HO_10.out) hb); have n2_ := Aside0.mk (below_step (by repeat (first | (with_reducible first | exact HB.out | apply below_alloc | apply pw_below_drewN | apply below_drew1) | exact HB.out)) hb); have n3_ := Aside0.mk (hbox); have n4_ := Aside0.mk ((by rw [hg]; exact (below_size (by repeat (first | (with_reducible first | exact HB.out | apply below_alloc | apply pw_below_drewN | apply below_drew1) | exact HB.out))) : w.heap.size ≤ gb139)); have n5_ := Aside0.mk ((by rw [hg]; exact (below_size (by repeat (first | (with_reducible first | exact HB.out | apply below_alloc | apply pw_below_drewN | apply below_drew1) | exact HB.out))) : w.heap.size ≤ gb139)); clear HO_9; clear HO_10; clear HB; have HO_9 := n0_; have HO_10 := n1_; have HB := n2_; have BK139 := n3_; have GW139 := n4_; have GE139 := n5_; clear n0_ n1_ n2_ n3_ n4_ n5_; clear hb hbox hg; have hcz22_0 : w21.cell? ⟨gb139, 0, none⟩ = some (.int .i64 0) := (blk_cell BK139.out 0).trans rfl; have hcz22_1 : w21.cell? ⟨gb139, 1, none⟩ = some (.int .i64 0) := (blk_cell BK139.out 1).trans rfl; have hcz22_2 : w21.cell? ⟨gb139, 2, none⟩ = some (.int .i64 0) := (blk_cell BK139.out 2).trans rfl; have hcz22_3 : w21.cell? ⟨gb139, 3, none⟩ = some (.int .i64 0) := (blk_cell BK139.out 3).trans rfl; have hfz22_0 := blk_frozen BK139.out 0; have hfz22_1 := blk_frozen BK139.out 1; have hfz22_2 := blk_frozen BK139.out 2; have hfz22_3 := blk_frozen BK139.out 3) | ((with_reducible refine gate_callee (f := 36) rfl ?_); refine goesL_ (some 58) rfl rfl Try.func36 (by kernel_rfl) rfl #[.agg #[.int .i64 ((rd_T35 l0 x52_2).f0), .int .i64 ((rd_T35 l0 x52_2).f1), .int .i64 ((rd_T35 l0 x52_2).f2), .int .i64 ((rd_T35 l0 x52_2).f3)], .int .i64 a1] rfl (by (try simp only [List.map_toArray, List.map_cons, List.map_nil]); first | done | rfl | (simp only [List.length_drop, List.length_take]; rfl)) ?_; (with_reducible refine (widths_wish.calls k2 ((rd_T35 l0 x52_2).f0) ((rd_T35 l0 x52_2).f1) ((rd_T35 l0 x52_2).f2) ((rd_T35 l0 x52_2).f3) a1 t140 _ A17.out).mono ?_); rintro e w23 ⟨rfl, hb⟩; refine ⟨_, rfl, ?_⟩; have n0_ := Aside0.mk (Kd.R_below (by (with_reducible repeat (first | apply Kd.R_alloc | apply Kd.R_drewN | apply Kd.R_drew)); exact (Kd.R_mono (Kd.R_far (p := ⟨gb139, 3, none⟩) (Kd.R_far (p := ⟨gb139, 2, none⟩) (Kd.R_far (p := ⟨gb139, 1, none⟩) (Kd.R_far (p := ⟨gb139, 0, none⟩) (Kd.R_types HO_9.out BK139.out (by decide)) (fun _ hk => hk.2) (.int .i64 ((rd_T35 l0 x52_2).f0))) (fun _ hk => hk.2) (.int .i64 ((rd_T35 l0 x52_2).f1))) (fun _ hk => hk.2) (.int .i64 ((rd_T35 l0 x52_2).f2))) (fun _ hk => hk.2) (.int .i64 ((rd_T35 l0 x52_2).f3))) (fun _ h_ => h_.1))) hb); have n1_ := Aside0.mk (Kd.R_below (by (with_reducible repeat (first | apply Kd.R_alloc | apply Kd.R_drewN | apply Kd.R_drew)); exact (Kd.R_mono (Kd.R_far (p := ⟨gb139, 3, none⟩) (Kd.R_far (p := ⟨gb139, 2, none⟩) (Kd.R_far (p := ⟨gb139, 1, none⟩) (Kd.R_far (p := ⟨gb139, 0, none⟩) (Kd.R_types HO_10.out BK139.out (by decide)) (fun _ hk => hk.2) (.int .i64 ((rd_T35 l0 x52_2).f0))) (fun _ hk => hk.2) (.int .i64 ((rd_T35 l0 x52_2).f1))) (fun _ hk => hk.2) (.int .i64 ((rd_T35 l0 x52_2).f2))) (fun _ hk => hk.2) (.int .i64 ((rd_T35 l0 x52_2).f3))) (fun _ h_ => h_.1))) hb); have n2_ := Aside0.mk (blk_below (g := gb139) (o := .cells #[.int .i64 ((rd_T35 l0 x52_2).f0), .int .i64 ((rd_T35 l0 x52_2).f1), .int .i64 ((rd_T35 l0 x52_2).f2), .int .i64 ((rd_T35 l0 x52_2).f3)] 35 (0, 0)) (by (with_reducible repeat (first | refine blk_drewN ?_ _ | refine blk_drew ?_ | refine blk_alloc ?_ _)); refine blk_put (cs := #[.int .i64 ((rd_T35 l0 x52_2).f0), .int .i64 ((rd_T35 l0 x52_2).f1), .int .i64 ((rd_T35 l0 x52_2).f2), .int .i64 0]) ?_ 3 _ rfl; (with_reducible repeat (first | refine blk_drewN ?_ _ | refine blk_drew ?_ | refine blk_alloc ?_ _)); refine blk_put (cs := #[.int .i64 ((rd_T35 l0 x52_2).f0), .int .i64 ((rd_T35 l0 x52_2).f1), .int .i64 0, .int .i64 0]) ?_ 2 _ rfl; (with_reducible repeat (first | refine blk_drewN ?_ _ | refine blk_drew ?_ | refine blk_alloc ?_ _)); refine blk_put (cs := #[.int .i64 ((rd_T35 l0 x52_2).f0), .int .i64 0, .int .i64 0, .int .i64 0]) ?_ 1 _ rfl; (with_reducible repeat (first | refine blk_drewN ?_ _ | refine blk_drew ?_ | refine blk_alloc ?_ _)); refine blk_put (cs := #[.int .i64 0, .int .i64 0, .int .i64 0, .int .i64 0]) ?_ 0 _ rfl; (with_reducible repeat (first | refine blk_drewN ?_ _ | refine blk_drew ?_ | refine blk_alloc ?_ _)); exact BK139.out) hb); have n3_ := Aside0.mk (below_step (by repeat (first | (with_reducible first | exact HB.out | apply below_alloc | apply pw_below_drewN | apply below_drew1 | refine below_set ?_ GE139.out) | exact HB.out)) hb); clear HO_9; clear HO_10; clear BK139; clear HB; have HO_9 := n0_; have HO_10 := n1_; have BK139 := n2_; have HB := n3_; clear n0_ n1_ n2_ n3_; (try clear hb); (try clear hb2); (try clear hk); (try clear hi)) | ((with_reducible refine gate_builtin (b := .append) (xs := #[.tmp 59, .tmp 61]) rfl ?_); at_builtin; refine Kd.R_append (Kd.int .i64) (w0 := w) w.heap.size rfl (.tmp 59) (.tmp 61) 24 2 (.int .i64 0) 8 rfl Try.underlying24 info2 rfl (by decide) (by omega) u9 x9_2 t140 [.int .i64 t140] (fun k_ => some k_ ≠ (u10 : Value).ownBlock) (fun _ => False) rfl rfl ?aP (fun _ hk => hk.elim) ?aF ?aO ?aB ?aS ?aL ?_; (case aP => exact rfl); (case aB => exact (by repeat (first | (with_reducible first | exact HB.out | apply below_alloc | apply pw_below_drewN | apply below_drew1 | refine below_set ?_ GE139.out) | exact HB.out))); (case aF => exact (fun k_ hk => Kd.fresh' (Kd.R_lt (by (with_reducible repeat (first | apply Kd.R_alloc | apply Kd.R_drewN | apply Kd.R_drew)); exact HO_10.out)) k_ hk)); (case aO => exact (by (with_reducible repeat (first | apply Kd.R_alloc | apply Kd.R_drewN | apply Kd.R_drew)); exact HO_9.out)); (case aS => exact (below_size (by repeat (first | (with_reducible first | exact HB.out | apply below_alloc | apply pw_below_drewN | apply below_drew1 | refine below_set ?_ GE139.out) | exact HB.out)))); (case aL => have := LMc18.out; omega); intro v142 w24 ho hb hg hat; rw [← Ny141.out] at ho; have n0_ := Aside0.mk (Kd.R_after (ok := (fun _ => True)) (by (with_reducible repeat (first | apply Kd.R_alloc | apply Kd.R_drewN | apply Kd.R_drew)); exact Kd.R_mono HO_10.out (fun _ hk => ⟨trivial, hk⟩)) hg hat); have n1_ := Aside0.mk (blk_grown (g := gb139) (o := .cells #[.int .i64 ((rd_T35 l0 x52_2).f0), .int .i64 ((rd_T35 l0 x52_2).f1), .int .i64 ((rd_T35 l0 x52_2).f2), .int .i64 ((rd_T35 l0 x52_2).f3)] 35 (0, 0)) (by (with_reducible repeat (first | refine blk_drewN ?_ _ | refine blk_drew ?_ | refine blk_alloc ?_ _)); exact BK139.out) hg (Kd.R_ne HO_9.out BK139.out (by decide))); have n2_ := Aside0.mk (hb); have n3_ := Aside0.mk (ho); clear HO_10; clear BK139; clear HB; clear HO_9; have HO_10 := n0_; have BK139 := n1_; have HB := n2_; have HO143 := n3_; clear n0_ n1_ n2_ n3_; clear ho hb hg hat; have hcz25_0 : w24.cell? ⟨gb139, 0, none⟩ = some (.int .i64 ((rd_T35 l0 x52_2).f0)) := (blk_cell BK139.out 0).trans rfl; have hcz25_1 : w24.cell? ⟨gb139, 1, none⟩ = some (.int .i64 ((rd_T35 l0 x52_2).f1)) := (blk_cell BK139.out 1).trans rfl; have hcz25_2 : w24.cell? ⟨gb139, 2, none⟩ = some (.int .i64 ((rd_T35 l0 x52_2).f2)) := (blk_cell BK139.out 2).trans rfl; have hcz25_3 : w24.cell? ⟨gb139, 3, none⟩ = some (.int .i64 ((rd_T35 l0 x52_2).f3)) := (blk_cell BK139.out 3).trans rfl; have hfz25_0 := blk_frozen BK139.out 0; have hfz25_1 := blk_frozen BK139.out 1; have hfz25_2 := blk_frozen BK139.out 2; have hfz25_3 := blk_frozen BK139.out 3) | ((with_reducible refine gate_builtin (b := .append) (xs := #[.tmp 63, .tmp 69]) rfl ?_); at_builtin; refine Kd.R_append (Kd.int .i64) (w0 := w) w.heap.size rfl (.tmp 63) (.tmp 69) 24 2 (.int .i64 0) 8 rfl Try.underlying24 info2 rfl (by decide) (by omega) u10 x10_2 ji19 [.int .i64 ji19] (fun k_ => some k_ ≠ (v142 : Value).ownBlock) (fun _ => False) rfl rfl ?aP (fun _ hk => hk.elim) ?aF ?aO ?aB ?aS ?aL ?_; (case aP => exact rfl); (case aB => exact (by repeat (first | (with_reducible first | exact HB.out | apply below_alloc | apply pw_below_drewN | apply below_drew1 | refine below_set ?_ GE139.out) | exact HB.out))); (case aF => exact (fun k_ hk => Kd.fresh' (Kd.R_lt (by (with_reducible repeat (first | apply Kd.R_alloc | apply Kd.R_drewN | apply Kd.R_drew)); exact HO143.out)) k_ hk)); (case aO => exact (by (with_reducible repeat (first | apply Kd.R_alloc | apply Kd.R_drewN | apply Kd.R_drew)); exact Kd.R_mono HO_10.out (fun _ hk => hk.2))); (case aS => exact (below_size (by repeat (first | (with_reducible first | exact HB.out | apply below_alloc | apply pw_below_drewN | apply below_drew1 | refine below_set ?_ GE139.out) | exact HB.out)))); (case aL => have := LMc20.out; omega); intro v145 w26 ho hb hg hat; rw [← Ny144.out] at ho; have n0_ := Aside0.mk (blk_grown (g := gb139) (o := .cells #[.int .i64 ((rd_T35 l0 x52_2).f0), .int .i64 ((rd_T35 l0 x52_2).f1), .int .i64 ((rd_T35 l0 x52_2).f2), .int .i64 ((rd_T35 l0 x52_2).f3)] 35 (0, 0)) (by (with_reducible repeat (first | refine blk_drewN ?_ _ | refine blk_drew ?_ | refine blk_alloc ?_ _)); exact BK139.out) hg (Kd.R_ne HO_10.out BK139.out (by decide))); have n1_ := Aside0.mk (Kd.R_after (ok := (fun _ => True)) (by (with_reducible repeat (first | apply Kd.R_alloc | apply Kd.R_drewN | apply Kd.R_drew)); exact Kd.R_mono HO143.out (fun _ hk => ⟨trivial, hk⟩)) hg hat); have n2_ := Aside0.mk (hb); have n3_ := Aside0.mk (ho); clear BK139; clear HO143; clear HB; clear HO_10; have BK139 := n0_; have HO143 := n1_; have HB := n2_; have HO146 := n3_; clear n0_ n1_ n2_ n3_; clear ho hb hg hat))
           go_roundg k2
           case measure => have := HJ3.out; have := HK2.out; omega
           case rel => exact ⟨(y141), (y144), (wrap64 (x52_2 + 1)), (by first | rfl | (simp; done) | (simp [*]; done)), H', ⟨by have := HJ3.out; have := HK2.out; omega⟩, ⟨by (with_reducible repeat (first | apply Kd.R_alloc | apply Kd.R_drewN | apply Kd.R_drew)); exact Kd.R_mono HO143.out (fun _ hk => hk.2)⟩, ⟨by (with_reducible repeat (first | apply Kd.R_alloc | apply Kd.R_drewN | apply Kd.R_drew)); exact HO146.out⟩, ⟨by repeat (first | (with_reducible first | exact HB.out | apply below_alloc | apply pw_below_drewN | apply below_drew1 | refine below_set ?_ GE139.out) | exact HB.out)⟩⟩
          ·rw [if_neg c20] at H
           exact absurd H (by simp)
         ·rw [if_neg c18] at H
          exact absurd H (by simp)
        ·rw [if_neg c16] at H
         exact absurd H (by simp)
       ·rw [if_neg c15] at H
        exact absurd H (by simp)
      ·rw [if_neg c14] at H
       have c14b0 : decide (x52_2 < (l0.length : Int)) = false := decide_eq_false c14
       clear c14
       replace H := Option.bind_eq_some_iff.mp H
       obtain ⟨t147, A270, H⟩ := H
       replace H : (if t147 ≤ a1 then ((widths_free.f l0).bind fun t148 => (widths_Auto.l1 k2 l0 a1 x9_2 ([] : List Int) t147 t148 t148 (t148.length : Int) 0)) else ((fixed_Share.f (wrap64 (a1 - t134)) x10_2).bind fun bt164 => (widths_Auto.l3 k2 x9_2 bt164.1 l0 (l0.length : Int) 0))) = some (r1, r2) := H
       have A27 := Aside0.mk A270
       clear A270
       by_cases c28 : t147 ≤ a1
       ·rw [if_pos c28] at H
        have c28b0 : decide (t147 ≤ a1) = true := decide_eq_true c28
        clear c28
        replace H := Option.bind_eq_some_iff.mp H
        obtain ⟨t148, A290, H⟩ := H
        replace H : (widths_Auto.l1 k2 l0 a1 x9_2 ([] : List Int) t147 t148 t148 (t148.length : Int) 0) = some (r1, r2) := H
        have A29 := Aside0.mk A290
        clear A290
        have H' := Aside0.mk H
        clear H
        obtain ⟨Ao30, co30, eo30⟩ := Kd.R_slice HO_9.out
        subst eo30
        go_wp2_with (first | ((with_reducible refine gate_callee (f := 37) rfl ?_); refine goesL_ (some 73) rfl rfl Try.func37 (by kernel_rfl) rfl #[.slice Ao30 x9_2.length co30] rfl (by (try simp only [List.map_toArray, List.map_cons, List.map_nil]); first | done | rfl | (simp only [List.length_drop, List.length_take]; rfl)) ?_; (with_reducible refine (fixed_Add.calls _ _ x9_2 t147 _ ?side1 ?side2 A27.out).mono ?_); (case side1 => repeat (first | exact (Kd.R_reads' HO_9.out).2.2 | (with_reducible refine Kd.C_alloc ?_ _) | (with_reducible refine Kd.C_drewN ?_ _) | (with_reducible refine Kd.C_drew ?_))); (case side2 => exact (Kd.R_reads' HO_9.out).2.1); rintro e w' ⟨rfl, ⟨nd, rfl⟩⟩; refine ⟨_, rfl, ?_⟩) | ((with_reducible refine gate_callee (f := 38) rfl ?_); refine goesL_ (some 78) rfl rfl Try.func38 (by kernel_rfl) rfl #[.slice A0 l0.length c0] rfl (by (try simp only [List.map_toArray, List.map_cons, List.map_nil]); first | done | rfl | (simp only [List.length_drop, List.length_take]; rfl)) ?_; (with_reducible refine (widths_free.calls _ _ l0 t148 _ ?side1 ?side2 A29.out).mono ?_); (case side1 => repeat (first | exact (Kd.C_below HR0.out (by repeat (first | (with_reducible first | exact HB.out | apply below_alloc | apply pw_below_drewN | apply below_drew1) | exact HB.out))) | (with_reducible refine Kd.C_alloc ?_ _) | (with_reducible refine Kd.C_drewN ?_ _) | (with_reducible refine Kd.C_drew ?_))); (case side2 => exact HC0.out); rintro e w31 ⟨v149, rfl, ho0, hb⟩; refine ⟨_, rfl, ?_⟩; have n0_ := Aside0.mk (Kd.R_below (by (with_reducible repeat (first | apply Kd.R_alloc | apply Kd.R_drewN | apply Kd.R_drew)); exact HO_9.out) hb); have n1_ := Aside0.mk (Kd.R_below (by (with_reducible repeat (first | apply Kd.R_alloc | apply Kd.R_drewN | apply Kd.R_drew)); exact HO_10.out) hb); have n2_ := Aside0.mk (Kd.R_lower ho0 (below_size (by repeat (first | (with_reducible first | exact HB.out | apply below_alloc | apply pw_below_drewN | apply below_drew1) | exact HB.out)))); have n3_ := Aside0.mk (below_step (by repeat (first | (with_reducible first | exact HB.out | apply below_alloc | apply pw_below_drewN | apply below_drew1) | exact HB.out)) hb); clear HO_9; clear HO_10; clear HB; have HO_9 := n0_; have HO_10 := n1_; have HO150 := n2_; have HB := n3_; clear n0_ n1_ n2_ n3_; (try clear hb); (try clear hb2); (try clear hk); (try clear hi); (try clear ho0); obtain ⟨Ao32, co32, eo32⟩ := Kd.R_slice HO150.out; subst eo32))
        go_loopg [11, 81] k2 (fun kq v11 v81 w' => ∃ (x11_3 : List Int) (x81_3 : Int), v81 = .int .i64 x81_3 ∧ Aside0 (widths_Auto.l1 kq l0 a1 x9_2 x11_3 t147 t148 t148 (t148.length : Int) x81_3 = some (r1, r2)) ∧ Aside0 (kq ≤ k2) ∧ Aside0 (Kd.R (Kd.int .i64) 2 w' w.heap.size (fun k_ => some k_ ≠ (v11 : Value).ownBlock) (.slice Ao30 x9_2.length co30) x9_2) ∧ Aside0 (Kd.R (Kd.int .i64) 2 w' w.heap.size (fun k_ => some k_ ≠ ((.slice Ao30 x9_2.length co30) : Value).ownBlock) v11 x11_3) ∧ Aside0 (Kd.R (Kd.int .i64) 3 w' w.heap.size (fun _ => True) (.slice Ao32 t148.length co32) t148) ∧ Aside0 (Kd.R (Kd.int .i64) 3 w' w.heap.size (fun _ => True) (.slice Ao32 t148.length co32) t148) ∧ Aside0 (Below w.heap.size w w'))
        case atStart => exact ⟨(([] : List Int)), (0), (by first | rfl | (simp; done) | (simp [*]; done)), H', ⟨Nat.le_refl _⟩, ⟨by (with_reducible repeat (first | apply Kd.R_alloc | apply Kd.R_drewN | apply Kd.R_drew)); exact Kd.R_mono HO_9.out (fun _ hk => (by simp [Value.ownBlock]))⟩, ⟨by first | exact Kd.R_nil _ _ _ _ _ | exact Kd.N_nil _ _ _ _ _ | exact Kd.V_nil _ _ _ _ _ | exact Kd.Q_nil _ _ _ _ _ | exact Kd.S_nil _ _ _ _ _⟩, ⟨by (with_reducible repeat (first | apply Kd.R_alloc | apply Kd.R_drewN | apply Kd.R_drew)); exact HO150.out⟩, ⟨by (with_reducible repeat (first | apply Kd.R_alloc | apply Kd.R_drewN | apply Kd.R_drew)); exact HO150.out⟩, ⟨by repeat (first | (with_reducible first | exact HB.out | apply below_alloc | apply pw_below_drewN | apply below_drew1) | exact HB.out)⟩⟩
        case round =>
         clear H'
         try clear c1
         try clear p1
         try clear q1
         try clear hx1
         try clear c2
         try clear p2
         try clear c3
         try clear c6
         try clear c6b0
         try clear c6b1
         try clear c6b2
         try clear p6
         try clear c8
         try clear c9
         try clear c9b0
         try clear c13
         try clear p13
         try clear q13
         try clear hx13
         try clear c14
         try clear c14b0
         try clear c15
         try clear c15b0
         try clear c16
         try clear c16b0
         try clear c18
         try clear c20
         try clear c28
         try clear c28b0
         try clear hcz22_0
         try clear hcz22_1
         try clear hcz22_2
         try clear hcz22_3
         try clear hcz25_0
         try clear hcz25_1
         try clear hcz25_2
         try clear hcz25_3
         try clear hfz22_0
         try clear hfz22_1
         try clear hfz22_2
         try clear hfz22_3
         try clear hfz25_0
         try clear hfz25_1
         try clear hfz25_2
         try clear hfz25_3
         try clear hx138_0
         try clear hx138_1
         try clear hx138_2
         try clear hx138_3
         try clear p138
         try clear p2
         try clear q138
         obtain ⟨x11_3, x81_3, rfl, HA, HK3, HO_9, HO_11, HO_16, HO_79, HB⟩ := hrel
         cases gk with
         | zero => exact absurd HA.out (by simp [widths_Auto.l1])
         | succ k3 =>
          have H := HA.out
          clear HA
          simp only [widths_Auto.l1] at H
          by_cases c33 : x81_3 < (t148.length : Int)
          ·rw [if_pos c33] at H
           have c33b0 : decide (x81_3 < (t148.length : Int)) = true := decide_eq_true c33
           clear c33
           by_cases c34 : 0 ≤ x81_3
           ·rw [if_pos c34] at H
            have c34b0 : decide (0 ≤ x81_3) = true := decide_eq_true c34
            clear c34
            by_cases c35 : x81_3 < (t148.length : Int)
            ·rw [if_pos c35] at H
             have c35b0 : decide (x81_3 < (t148.length : Int)) = true := decide_eq_true c35
             clear c35
             by_cases c36 : 0 ≤ (rd t148 x81_3)
             ·rw [if_pos c36] at H
              have c36b0 : decide (0 ≤ (rd t148 x81_3)) = true := decide_eq_true c36
              clear c36
              by_cases c37 : (rd t148 x81_3) < (l0.length : Int)
              ·rw [if_pos c37] at H
               have c37b0 : decide ((rd t148 x81_3) < (l0.length : Int)) = true := decide_eq_true c37
               clear c37
               by_cases c38 : x11_3.length < 17592186044416
               ·rw [if_pos c38] at H
                have LMc38 := Aside0.mk c38
                clear c38
                obtain ⟨y153, hy153⟩ : ∃ y_ : List Int, y_ = (x11_3 ++ [(rd_T35 l0 (rd t148 x81_3)).f1]) := ⟨_, rfl⟩
                replace H : (widths_Auto.l1 k3 l0 a1 x9_2 y153 t147 t148 t148 (t148.length : Int) (wrap64 (x81_3 + 1))) = some (r1, r2) := by first | (rw [hy153]; with_reducible exact H) | (have H2_ := (Option.bind_some _ _).symm.trans H; rw [hy153]; with_reducible exact H2_) | (have H2_ := (Option.bind_some _ _).symm.trans H; with_reducible exact H2_) | with_reducible exact H | (rw [hy153]; exact H) | exact H
                have Ny153 := Aside0.mk hy153
                clear hy153
                have H' := Aside0.mk H
                clear H
                have p151 : 0 ≤ (x81_3 : Int) := of_decide_eq_true (by first | (with_reducible assumption) | assumption)
                have q151 : x81_3 < (t148.length : Int) := of_decide_eq_true (by first | (with_reducible assumption) | assumption)
                obtain ⟨ad151, e151, hx151_0⟩ := Kd.at_int (Kd.R_reads' HO_79.out).2.2 x81_3 p151 q151
                cases e151
                replace p151 := eq_true p151
                replace q151 := eq_true q151
                have p152 : 0 ≤ ((rd t148 x81_3) : Int) := of_decide_eq_true (by first | (with_reducible assumption) | assumption)
                have q152 : (rd t148 x81_3) < (l0.length : Int) := of_decide_eq_true (by first | (with_reducible assumption) | assumption)
                obtain ⟨ad152, e152, hx152_0, hx152_1, hx152_2, hx152_3⟩ := at_T35 HR0.out (rd t148 x81_3) p152 q152
                cases e152
                replace hx152_0 := (HB.out.cell (World.block_lt_of_cell? w _ hx152_0)).trans hx152_0
                replace hx152_1 := (HB.out.cell (World.block_lt_of_cell? w _ hx152_1)).trans hx152_1
                replace hx152_2 := (HB.out.cell (World.block_lt_of_cell? w _ hx152_2)).trans hx152_2
                replace hx152_3 := (HB.out.cell (World.block_lt_of_cell? w _ hx152_3)).trans hx152_3
                replace p152 := eq_true p152
                replace q152 := eq_true q152
                go_wp2_with (first | ((with_reducible refine gate_builtin (b := .append) (xs := #[.tmp 85, .tmp 91]) rfl ?_); at_builtin; refine Kd.R_append (Kd.int .i64) (w0 := w) w.heap.size rfl (.tmp 85) (.tmp 91) 24 2 (.int .i64 0) 8 rfl Try.underlying24 info2 rfl (by decide) (by omega) u11 x11_3 ((rd_T35 l0 (rd t148 x81_3)).f1) [.int .i64 ((rd_T35 l0 (rd t148 x81_3)).f1)] (fun k_ => some k_ ≠ (.slice Ao30 x9_2.length co30 : Value).ownBlock) (fun _ => False) rfl rfl ?aP (fun _ hk => hk.elim) ?aF ?aO ?aB ?aS ?aL ?_; (case aP => exact rfl); (case aB => exact (by repeat (first | (with_reducible first | exact HB.out | apply below_alloc | apply pw_below_drewN | apply below_drew1) | exact HB.out))); (case aF => exact (fun k_ hk => Kd.fresh' (Kd.R_lt (by (with_reducible repeat (first | apply Kd.R_alloc | apply Kd.R_drewN | apply Kd.R_drew)); exact HO_9.out)) k_ hk)); (case aO => exact (by (with_reducible repeat (first | apply Kd.R_alloc | apply Kd.R_drewN | apply Kd.R_drew)); exact HO_11.out)); (case aS => exact (below_size (by repeat (first | (with_reducible first | exact HB.out | apply below_alloc | apply pw_below_drewN | apply below_drew1) | exact HB.out)))); (case aL => have := LMc38.out; omega); intro v154 w39 ho hb hg hat; rw [← Ny153.out] at ho; have n0_ := Aside0.mk (Kd.R_after (ok := (fun _ => True)) (by (with_reducible repeat (first | apply Kd.R_alloc | apply Kd.R_drewN | apply Kd.R_drew)); exact Kd.R_mono HO_9.out (fun _ hk => ⟨trivial, hk⟩)) hg hat); have n1_ := Aside0.mk (Kd.R_over' (by (with_reducible repeat (first | apply Kd.R_alloc | apply Kd.R_drewN | apply Kd.R_drew)); exact HO_16.out) (Kd.R_typed (by (with_reducible repeat (first | apply Kd.R_alloc | apply Kd.R_drewN | apply Kd.R_drew)); exact HO_11.out)) (by decide) hg); have n2_ := Aside0.mk (Kd.R_over' (by (with_reducible repeat (first | apply Kd.R_alloc | apply Kd.R_drewN | apply Kd.R_drew)); exact HO_79.out) (Kd.R_typed (by (with_reducible repeat (first | apply Kd.R_alloc | apply Kd.R_drewN | apply Kd.R_drew)); exact HO_11.out)) (by decide) hg); have n3_ := Aside0.mk (hb); have n4_ := Aside0.mk (ho); clear HO_9; clear HO_16; clear HO_79; clear HB; clear HO_11; have HO_9 := n0_; have HO_16 := n1_; have HO_79 := n2_; have HB := n3_; have HO155 := n4_; clear n0_ n1_ n2_ n3_ n4_; clear ho hb hg hat))
                go_roundg k3
                case measure => have := HJ3.out; have := HK2.out; have := HK3.out; omega
                case rel => exact ⟨(y153), (wrap64 (x81_3 + 1)), (by first | rfl | (simp; done) | (simp [*]; done)), H', ⟨by have := HJ3.out; have := HK2.out; have := HK3.out; omega⟩, ⟨by (with_reducible repeat (first | apply Kd.R_alloc | apply Kd.R_drewN | apply Kd.R_drew)); exact Kd.R_mono HO_9.out (fun _ hk => hk.2)⟩, ⟨by (with_reducible repeat (first | apply Kd.R_alloc | apply Kd.R_drewN | apply Kd.R_drew)); exact HO155.out⟩, ⟨by (with_reducible repeat (first | apply Kd.R_alloc | apply Kd.R_drewN | apply Kd.R_drew)); exact HO_16.out⟩, ⟨by (with_reducible repeat (first | apply Kd.R_alloc | apply Kd.R_drewN | apply Kd.R_drew)); exact HO_79.out⟩, ⟨by repeat (first | (with_reducible first | exact HB.out | apply below_alloc | apply pw_below_drewN | apply below_drew1) | exact HB.out)⟩⟩
               ·rw [if_neg c38] at H
                exact absurd H (by simp)
              ·rw [if_neg c37] at H
               exact absurd H (by simp)
             ·rw [if_neg c36] at H
              exact absurd H (by simp)
            ·rw [if_neg c35] at H
             exact absurd H (by simp)
           ·rw [if_neg c34] at H
            exact absurd H (by simp)
          ·rw [if_neg c33] at H
           have c33b0 : decide (x81_3 < (t148.length : Int)) = false := decide_eq_false c33
           clear c33
           replace H := Option.bind_eq_some_iff.mp H
           obtain ⟨⟨t156, t157⟩, A400, H⟩ := H
           replace H : (widths_Auto.l2 k3 x9_2 t156 t148 (t148.length : Int) 0) = some (r1, r2) := H
           have A40 := Aside0.mk A400
           clear A400
           have H' := Aside0.mk H
           clear H
           obtain ⟨Ao41, co41, eo41⟩ := Kd.R_slice HO_11.out
           subst eo41
           go_wp2_with (first | ((with_reducible refine gate_callee (f := 39) rfl ?_); refine goesL_ (some 99) rfl rfl Try.func39 (by kernel_rfl) rfl #[.int .i64 (wrap64 (a1 - t147)), .slice Ao41 x11_3.length co41] rfl (by (try simp only [List.map_toArray, List.map_cons, List.map_nil]); first | done | rfl | (simp only [List.length_drop, List.length_take]; rfl)) ?_; (with_reducible refine (fixed_Share.calls (wrap64 (a1 - t147)) _ _ x11_3 t156 t157 _ ?side1 ?side2 A40.out).mono ?_); (case side1 => repeat (first | exact (Kd.R_reads' HO_11.out).2.2 | (with_reducible refine Kd.C_alloc ?_ _) | (with_reducible refine Kd.C_drewN ?_ _) | (with_reducible refine Kd.C_drew ?_))); (case side2 => exact (Kd.R_reads' HO_11.out).2.1); rintro e w42 ⟨v158, rfl, ho0, hb⟩; refine ⟨_, rfl, ?_⟩; have n0_ := Aside0.mk (Kd.R_elder' (by (with_reducible repeat (first | apply Kd.R_alloc | apply Kd.R_drewN | apply Kd.R_drew)); exact HO_9.out) (Kd.R_base ho0) hb); have n1_ := Aside0.mk (Kd.R_elder' (by (with_reducible repeat (first | apply Kd.R_alloc | apply Kd.R_drewN | apply Kd.R_drew)); exact HO_11.out) (Kd.R_base ho0) hb); have n2_ := Aside0.mk (Kd.R_below (by (with_reducible repeat (first | apply Kd.R_alloc | apply Kd.R_drewN | apply Kd.R_drew)); exact HO_16.out) hb); have n3_ := Aside0.mk (Kd.R_below (by (with_reducible repeat (first | apply Kd.R_alloc | apply Kd.R_drewN | apply Kd.R_drew)); exact HO_79.out) hb); have n4_ := Aside0.mk (Kd.R_lower (Kd.R_new' (Kd.R_new' ho0 (Kd.R_lt (by (with_reducible repeat (first | apply Kd.R_alloc | apply Kd.R_drewN | apply Kd.R_drew)); exact HO_9.out))) (Kd.R_lt (by (with_reducible repeat (first | apply Kd.R_alloc | apply Kd.R_drewN | apply Kd.R_drew)); exact HO_11.out))) (below_size (by repeat (first | (with_reducible first | exact HB.out | apply below_alloc | apply pw_below_drewN | apply below_drew1) | exact HB.out)))); have n5_ := Aside0.mk (below_step (by repeat (first | (with_reducible first | exact HB.out | apply below_alloc | apply pw_below_drewN | apply below_drew1) | exact HB.out)) hb); clear HO_9; clear HO_11; clear HO_16; clear HO_79; clear HB; have HO_9 := n0_; have HO_11 := n1_; have HO_16 := n2_; have HO_79 := n3_; have HO159 := n4_; have HB := n5_; clear n0_ n1_ n2_ n3_ n4_ n5_; (try clear hb); (try clear hb2); (try clear hk); (try clear hi); (try clear ho0)))
           go_loopg [104] k3 (fun kq v104 w' => ∃ (x9_4 : List Int) (x104_4 : Int), v104 = .int .i64 x104_4 ∧ Aside0 (widths_Auto.l2 kq x9_4 t156 t148 (t148.length : Int) x104_4 = some (r1, r2)) ∧ Aside0 (kq ≤ k3) ∧ Aside0 (Kd.R (Kd.int .i64) 2 w' w.heap.size (fun k_ => some k_ ≠ (v158 : Value).ownBlock) (.slice Ao30 x9_2.length co30) x9_4) ∧ Aside0 (Kd.R (Kd.int .i64) 2 w' w.heap.size (fun k_ => some k_ ≠ ((.slice Ao30 x9_2.length co30) : Value).ownBlock) v158 t156) ∧ Aside0 (Kd.R (Kd.int .i64) 3 w' w.heap.size (fun _ => True) (.slice Ao32 t148.length co32) t148) ∧ Aside0 (Below w.heap.size w w'))
           case atStart => exact ⟨(x9_2), (0), (by first | rfl | (simp; done) | (simp [*]; done)), H', ⟨Nat.le_refl _⟩, ⟨by (with_reducible repeat (first | apply Kd.R_alloc | apply Kd.R_drewN | apply Kd.R_drew)); exact Kd.R_mono HO_9.out (fun _ hk => hk.2)⟩, ⟨by (with_reducible repeat (first | apply Kd.R_alloc | apply Kd.R_drewN | apply Kd.R_drew)); exact Kd.R_mono HO159.out (fun _ hk => hk.1.2)⟩, ⟨by (with_reducible repeat (first | apply Kd.R_alloc | apply Kd.R_drewN | apply Kd.R_drew)); exact HO_16.out⟩, ⟨by repeat (first | (with_reducible first | exact HB.out | apply below_alloc | apply pw_below_drewN | apply below_drew1) | exact HB.out)⟩⟩
           case round =>
            clear H'
            try clear c1
            try clear p1
            try clear q1
            try clear hx1
            try clear c2
            try clear p2
            try clear c3
            try clear c6
            try clear c6b0
            try clear c6b1
            try clear c6b2
            try clear p6
            try clear c8
            try clear c9
            try clear c9b0
            try clear c13
            try clear p13
            try clear q13
            try clear hx13
            try clear c14
            try clear c14b0
            try clear c15
            try clear c15b0
            try clear p15
            try clear q15
            try clear hx15
            try clear c16
            try clear c16b0
            try clear c18
            try clear c20
            try clear c28
            try clear c28b0
            try clear c33
            try clear c33b0
            try clear c34
            try clear c34b0
            try clear c35
            try clear c35b0
            try clear c36
            try clear c36b0
            try clear c37
            try clear c37b0
            try clear c38
            try clear c39
            try clear hcz22_0
            try clear hcz22_1
            try clear hcz22_2
            try clear hcz22_3
            try clear hcz25_0
            try clear hcz25_1
            try clear hcz25_2
            try clear hcz25_3
            try clear hfz22_0
            try clear hfz22_1
            try clear hfz22_2
            try clear hfz22_3
            try clear hfz25_0
            try clear hfz25_1
            try clear hfz25_2
            try clear hfz25_3
            try clear hx138_0
            try clear hx138_1
            try clear hx138_2
            try clear hx138_3
            try clear hx151_0
            try clear hx152_0
            try clear hx152_1
            try clear hx152_2
            try clear hx152_3
            try clear p1
            try clear p13
            try clear p138
            try clear p151
            try clear p152
            try clear p2
            try clear p6
            try clear q1
            try clear q13
            try clear q138
            try clear q151
            try clear q152
            obtain ⟨x9_4, x104_4, rfl, HA, HK4, HO_9, HO_19, HO_102, HB⟩ := hrel
            have hl9_4 := (Kd.R_reads' HO_9.out).1
            rw [hl9_4] at HO_9
            (try simp only [hl9_4])
            (try simp only [hl9_4] at HO_19)
            (try simp only [hl9_4] at HO_102)
            cases gk with
            | zero => exact absurd HA.out (by simp [widths_Auto.l2])
            | succ k4 =>
             have H := HA.out
             clear HA
             simp only [widths_Auto.l2] at H
             by_cases c43 : x104_4 < (t148.length : Int)
             ·rw [if_pos c43] at H
              have c43b0 : decide (x104_4 < (t148.length : Int)) = true := decide_eq_true c43
              clear c43
              by_cases c44 : 0 ≤ x104_4
              ·rw [if_pos c44] at H
               have c44b0 : decide (0 ≤ x104_4) = true := decide_eq_true c44
               clear c44
               by_cases c45 : x104_4 < (t148.length : Int)
               ·rw [if_pos c45] at H
                have c45b0 : decide (x104_4 < (t148.length : Int)) = true := decide_eq_true c45
                clear c45
                by_cases c46 : 0 ≤ (rd t148 x104_4)
                ·rw [if_pos c46] at H
                 have c46b0 : decide (0 ≤ (rd t148 x104_4)) = true := decide_eq_true c46
                 clear c46
                 by_cases c47 : (rd t148 x104_4) < (x9_4.length : Int)
                 ·rw [if_pos c47] at H
                  have c47b0 : decide ((rd t148 x104_4) < (x9_4.length : Int)) = true := decide_eq_true c47
                  clear c47
                  by_cases c48 : x104_4 < (t156.length : Int)
                  ·rw [if_pos c48] at H
                   have c48b0 : decide (x104_4 < (t156.length : Int)) = true := decide_eq_true c48
                   clear c48
                   obtain ⟨y163, hy163⟩ : ∃ y_ : List Int, y_ = (x9_4.set ((rd t148 x104_4) : Int).toNat (wrap64 ((rd x9_4 (rd t148 x104_4)) + (rd t156 x104_4)))) := ⟨_, rfl⟩
                   replace H : (widths_Auto.l2 k4 y163 t156 t148 (t148.length : Int) (wrap64 (x104_4 + 1))) = some (r1, r2) := by first | (rw [hy163]; with_reducible exact H) | (have H2_ := (Option.bind_some _ _).symm.trans H; rw [hy163]; with_reducible exact H2_) | (have H2_ := (Option.bind_some _ _).symm.trans H; with_reducible exact H2_) | with_reducible exact H | (rw [hy163]; exact H) | exact H
                   have Ny163 := Aside0.mk hy163
                   clear hy163
                   have H' := Aside0.mk H
                   clear H
                   have p160 : 0 ≤ (x104_4 : Int) := of_decide_eq_true (by first | (with_reducible assumption) | assumption)
                   have q160 : x104_4 < (t148.length : Int) := of_decide_eq_true (by first | (with_reducible assumption) | assumption)
                   obtain ⟨ad160, e160, hx160_0⟩ := Kd.at_int (Kd.R_reads' HO_102.out).2.2 x104_4 p160 q160
                   cases e160
                   replace p160 := eq_true p160
                   replace q160 := eq_true q160
                   try go_wp2
                   have n0_ := Aside0.mk (Kd.R_drew HO_9.out)
                   have n1_ := Aside0.mk (Kd.R_drew HO_19.out)
                   have n2_ := Aside0.mk (Kd.R_drew HO_102.out)
                   have n3_ := Aside0.mk (below_drew1 HB.out)
                   clear HO_9
                   clear HO_19
                   clear HO_102
                   clear HB
                   have HO_9 := n0_
                   have HO_19 := n1_
                   have HO_102 := n2_
                   have HB := n3_
                   clear n0_ n1_ n2_ n3_
                   have p161 : 0 ≤ ((rd t148 x104_4) : Int) := of_decide_eq_true (by first | (with_reducible assumption) | assumption)
                   have q161 : (rd t148 x104_4) < (x9_4.length : Int) := of_decide_eq_true (by first | (with_reducible assumption) | assumption)
                   obtain ⟨ad161, e161, hx161_0⟩ := Kd.at_int (Kd.R_reads' HO_9.out).2.2 (rd t148 x104_4) p161 q161
                   cases e161
                   replace p161 := eq_true p161
                   replace q161 := eq_true q161
                   obtain ⟨Ao51, co51, eo51⟩ := Kd.R_slice HO_19.out
                   (first | subst eo51 | (injection eo51 with f1_ f2_ f3_; have f4_ := f1_.symm; have f5_ := f3_.symm; clear f1_ f2_ f3_; subst f4_; subst f5_))
                   have p162 : 0 ≤ (x104_4 : Int) := of_decide_eq_true (by first | (with_reducible assumption) | assumption)
                   have q162 : x104_4 < (t156.length : Int) := of_decide_eq_true (by first | (with_reducible assumption) | assumption)
                   obtain ⟨ad162, e162, hx162_0⟩ := Kd.at_int (Kd.R_reads' HO_19.out).2.2 x104_4 p162 q162
                   cases e162
                   replace p162 := eq_true p162
                   replace q162 := eq_true q162
                   have p49 : 0 ≤ ((rd t148 x104_4) : Int) := of_decide_eq_true (by first | (with_reducible assumption) | assumption)
                   have q49 : ((rd t148 x104_4) : Int) < ((x9_4.length : Int) : Int) := of_decide_eq_true (by first | (with_reducible assumption) | assumption)
                   obtain ⟨go49, co49, eo49, gb49, gl49, cl49, HG49⟩ := Kd.R_form HO_9.out (by omega)
                   (first | cases eo49 | (injection eo49 with ea_ en_ ec_; (first | subst ea_ | (injection ea_ with ea_; subst ea_)); subst ec_; clear en_))
                   have GB49 := Aside0.mk gb49
                   have GG49 := Aside0.mk HG49
                   clear gb49 gl49 HG49
                   (first | simp only [add_plain] at hx161_0 | skip)
                   obtain ⟨hx49_0, hf49_0⟩ := Kd.R_celln 0 HO_9.out ((rd t148 x104_4) : Int) p49 q49
                   replace p49 := eq_true p49
                   replace q49 := eq_true q49
                   have HP52 := Kd.R_putn HO_9.out ((rd t148 x104_4) : Int) (wrap64 ((rd x9_4 (rd t148 x104_4)) + (rd t156 x104_4)))
                   rw [← Ny163.out] at HP52
                   have HQ52 := Aside0.mk HP52
                   clear HP52
                   refine start_ (n := 11) (S := fun w' => w'.cell? ⟨go49, ((rd t148 x104_4)).toNat, none⟩ = some (.int .i64 (rd x9_4 (rd t148 x104_4))) ∧ w'.cell? (ad162.add (x104_4).toNat) = some (.int .i64 (rd t156 x104_4))) (ds := [10]) #[false, false, false, false, false, false, false, false, false, false, false] (by kernel_rfl) rfl rfl ⟨hx161_0, hx162_0⟩ (fun hHeld => ?_); refine with_tabW widths_Auto.tab24 widths_Auto.bits24 (fun HT_ HW_ => ?_)
                   generalize wr.drew = w50 at HO_9 HO_19 HO_102 HB GG49 HQ52 hf49_0 hx161_0 hx162_0 hx49_0 hHeld ⊢
                   refine pure_ (i := 0) (N := some 109) (v := ?_) (a' := ?_) #[true, false, false, false, false, false, false, false, false, false, false] rfl rfl (any_of HT_.out (by kernel_rfl)) (fun _ _ _ h => h) (Or.inl ⟨by rfl, ?_⟩) ?_ ?_
                   rotate_left
                   ·intro w'
                    go_simp
                    with_reducible rfl
                   rotate_left
                   ·simp only [Act.put, List.setIfInBounds_toArray, List.set_cons_zero, List.set_cons_succ, i64_w, i32_w]
                    rfl
                   refine pure_ (i := 1) (N := some 110) (v := ?_) (a' := ?_) #[true, true, false, false, false, false, false, false, false, false, false] rfl rfl (any_of HT_.out (by kernel_rfl)) (fun _ _ _ h => h) (Or.inl ⟨by rfl, ?_⟩) ?_ ?_
                   rotate_left
                   ·intro w'
                    go_simp
                    with_reducible rfl
                   rotate_left
                   ·simp only [Act.put, List.setIfInBounds_toArray, List.set_cons_zero, List.set_cons_succ, i64_w, i32_w]
                    rfl
                   refine pure_ (i := 2) (N := some 111) (v := ?_) (a' := ?_) #[true, true, true, false, false, false, false, false, false, false, false] rfl rfl (any_of HT_.out (by kernel_rfl)) (fun _ _ _ h => h) (Or.inl ⟨by rfl, ?_⟩) ?_ ?_
                   rotate_left
                   ·intro w'
                    go_simp
                    with_reducible rfl
                   rotate_left
                   ·simp only [Act.put, List.setIfInBounds_toArray, List.set_cons_zero, List.set_cons_succ, i64_w, i32_w]
                    rfl
                   refine pure_ (i := 4) (N := some 113) (v := ?_) (a' := ?_) #[true, true, true, false, true, false, false, false, false, false, false] rfl rfl (any_of HT_.out (by kernel_rfl)) (fun _ _ _ h => h) (Or.inl ⟨by rfl, ?_⟩) ?_ ?_
                   rotate_left
                   ·intro w'
                    go_simp
                    with_reducible rfl
                   rotate_left
                   ·simp only [Act.put, List.setIfInBounds_toArray, List.set_cons_zero, List.set_cons_succ, i64_w, i32_w]
                    rfl
                   refine pure_ (i := 5) (N := some 114) (v := ?_) (a' := ?_) #[true, true, true, false, true, true, false, false, false, false, false] rfl rfl (any_of HT_.out (by kernel_rfl)) (fun _ _ _ h => h) (Or.inl ⟨by rfl, ?_⟩) ?_ ?_
                   rotate_left
                   ·intro w'
                    go_simp
                    with_reducible rfl
                   rotate_left
                   ·simp only [Act.put, List.setIfInBounds_toArray, List.set_cons_zero, List.set_cons_succ, i64_w, i32_w]
                    rfl
                   refine pure_ (i := 6) (N := some 115) (v := ?_) (a' := ?_) #[true, true, true, false, true, true, true, false, false, false, false] rfl rfl (any_of HT_.out (by kernel_rfl)) (fun _ _ _ h => h) (Or.inl ⟨by rfl, ?_⟩) ?_ ?_
                   rotate_left
                   ·intro w'
                    go_simp
                    with_reducible rfl
                   rotate_left
                   ·simp only [Act.put, List.setIfInBounds_toArray, List.set_cons_zero, List.set_cons_succ, i64_w, i32_w]
                    rfl
                   refine take_ (i := 3) (N := some 112) (v := ?_) (a' := ?_) #[true, true, true, true, true, true, true, false, false, false, false] rfl rfl (take_ofW HT_.out HW_.out (by kernel_rfl)) (fun _ _ _ h => h) (Or.inl ⟨by rfl, ?_⟩) hHeld ?_ ?_
                   rotate_left
                   ·rintro w' ⟨s0, s1⟩
                    go_simp
                    with_reducible rfl
                   rotate_left
                   ·simp only [Act.put, List.setIfInBounds_toArray, List.set_cons_zero, List.set_cons_succ, i64_w, i32_w]
                    rfl
                   refine take_ (i := 7) (N := some 116) (v := ?_) (a' := ?_) #[true, true, true, true, true, true, true, true, false, false, false] rfl rfl (take_ofW HT_.out HW_.out (by kernel_rfl)) (fun _ _ _ h => h) (Or.inl ⟨by rfl, ?_⟩) hHeld ?_ ?_
                   rotate_left
                   ·rintro w' ⟨s0, s1⟩
                    go_simp
                    with_reducible rfl
                   rotate_left
                   ·simp only [Act.put, List.setIfInBounds_toArray, List.set_cons_zero, List.set_cons_succ, i64_w, i32_w]
                    rfl
                   refine pure_ (i := 8) (N := some 117) (v := ?_) (a' := ?_) #[true, true, true, true, true, true, true, true, true, false, false] rfl rfl (any_of HT_.out (by kernel_rfl)) (fun _ _ _ h => h) (Or.inl ⟨by rfl, ?_⟩) ?_ ?_
                   rotate_left
                   ·intro w'
                    go_simp
                    with_reducible rfl
                   rotate_left
                   ·simp only [Act.put, List.setIfInBounds_toArray, List.set_cons_zero, List.set_cons_succ, i64_w, i32_w]
                    rfl
                   refine pure_ (i := 9) (N := some 118) (v := ?_) (a' := ?_) #[true, true, true, true, true, true, true, true, true, true, false] rfl rfl (any_of HT_.out (by kernel_rfl)) (fun _ _ _ h => h) (Or.inl ⟨by rfl, ?_⟩) ?_ ?_
                   rotate_left
                   ·intro w'
                    go_simp
                    with_reducible rfl
                   rotate_left
                   ·simp only [Act.put, List.setIfInBounds_toArray, List.set_cons_zero, List.set_cons_succ, i64_w, i32_w]
                    rfl
                   refine last_ (i := 10) (N := none) #[true, true, true, true, true, true, true, true, true, true, true] rfl rfl (one_of HT_.out (by kernel_rfl)) (by decide) (fun K hK => ?_)
                   refine skip_ (w1 := ?_) (by rfl) rfl ?_ ?_
                   rotate_left
                   ·go_simp
                    rfl
                   refine hK.out _ _ ?_
                   clear hK K
                   refine done_ (done_of HT_.out (by kernel_rfl)) ?_
                   try go_wp2
                   (try simp only [← hl9_4])
                   go_roundg k4
                   case measure => have := HJ3.out; have := HK2.out; have := HK3.out; have := HK4.out; omega
                   case rel => exact ⟨(y163), (wrap64 (x104_4 + 1)), (by first | rfl | (simp; done) | (simp [*]; done)), H', ⟨by have := HJ3.out; have := HK2.out; have := HK3.out; have := HK4.out; omega⟩, ⟨by (try simp only [hl9_4]); (with_reducible repeat (first | apply Kd.R_alloc | apply Kd.R_drewN | apply Kd.R_drew)); exact HQ52.out⟩, ⟨by (try simp only [hl9_4]); (with_reducible repeat (first | apply Kd.R_alloc | apply Kd.R_drewN | apply Kd.R_drew)); exact Kd.R_mono (Kd.R_far (p := ⟨go49, ((rd t148 x104_4) : Int).toNat, none⟩) (Kd.R_mono HO_19.out (fun k_ hk => (⟨hk, fun e_ => hk (by rw [e_]; rfl)⟩ : _ ∧ k_ ≠ go49))) (fun _ hk => hk.2) (.int .i64 (wrap64 ((rd x9_4 (rd t148 x104_4)) + (rd t156 x104_4))))) (fun _ hk => hk.1)⟩, ⟨by (try simp only [hl9_4]); (with_reducible repeat (first | apply Kd.R_alloc | apply Kd.R_drewN | apply Kd.R_drew)); exact Kd.R_mono (Kd.R_far (p := ⟨go49, ((rd t148 x104_4) : Int).toNat, none⟩) (Kd.R_types HO_102.out GG49.out (by decide)) (fun _ hk => hk.2) (.int .i64 (wrap64 ((rd x9_4 (rd t148 x104_4)) + (rd t156 x104_4))))) (fun _ hk => trivial)⟩, ⟨by repeat (first | (with_reducible first | exact HB.out | apply below_alloc | apply pw_below_drewN | apply below_drew1 | refine below_set ?_ GB49.out) | exact HB.out)⟩⟩
                  ·rw [if_neg c48] at H
                   exact absurd H (by simp)
                 ·rw [if_neg c47] at H
                  exact absurd H (by simp)
                ·rw [if_neg c46] at H
                 exact absurd H (by simp)
               ·rw [if_neg c45] at H
                exact absurd H (by simp)
              ·rw [if_neg c44] at H
               exact absurd H (by simp)
             ·rw [if_neg c43] at H
              have c43b0 : decide (x104_4 < (t148.length : Int)) = false := decide_eq_false c43
              clear c43
              simp only [Option.some.injEq, Prod.mk.injEq] at H
              obtain ⟨rfl, rfl⟩ := H
              go_wp2
              go_ret2
              exact ⟨_, by first | rfl | (simp [errW_none, errW_some] <;> rfl) | (simp [*, errW_none, errW_some] <;> rfl), by (with_reducible repeat (first | apply Kd.R_alloc | apply Kd.R_drewN | apply Kd.R_drew)); exact Kd.R_mono HO_9.out (fun _ hk => trivial), by repeat (first | (with_reducible first | exact HB.out | apply below_alloc | apply pw_below_drewN | apply below_drew1) | exact HB.out)⟩
       ·rw [if_neg c28] at H
        have c28b0 : decide (t147 ≤ a1) = false := decide_eq_false c28
        clear c28
        replace H := Option.bind_eq_some_iff.mp H
        obtain ⟨⟨t164, t165⟩, A530, H⟩ := H
        replace H : (widths_Auto.l3 k2 x9_2 t164 l0 (l0.length : Int) 0) = some (r1, r2) := H
        have A53 := Aside0.mk A530
        clear A530
        have H' := Aside0.mk H
        clear H
        obtain ⟨Ao54, co54, eo54⟩ := Kd.R_slice HO_9.out
        subst eo54
        go_wp2_with (first | ((with_reducible refine gate_callee (f := 37) rfl ?_); refine goesL_ (some 73) rfl rfl Try.func37 (by kernel_rfl) rfl #[.slice Ao54 x9_2.length co54] rfl (by (try simp only [List.map_toArray, List.map_cons, List.map_nil]); first | done | rfl | (simp only [List.length_drop, List.length_take]; rfl)) ?_; (with_reducible refine (fixed_Add.calls _ _ x9_2 t147 _ ?side1 ?side2 A27.out).mono ?_); (case side1 => repeat (first | exact (Kd.R_reads' HO_9.out).2.2 | (with_reducible refine Kd.C_alloc ?_ _) | (with_reducible refine Kd.C_drewN ?_ _) | (with_reducible refine Kd.C_drew ?_))); (case side2 => exact (Kd.R_reads' HO_9.out).2.1); rintro e w' ⟨rfl, ⟨nd, rfl⟩⟩; refine ⟨_, rfl, ?_⟩; obtain ⟨Ao55, co55, eo55⟩ := Kd.R_slice HO_10.out; subst eo55) | ((with_reducible refine gate_callee (f := 39) rfl ?_); refine goesL_ (some 126) rfl rfl Try.func39 (by kernel_rfl) rfl #[.int .i64 (wrap64 (a1 - t134)), .slice Ao55 x10_2.length co55] rfl (by (try simp only [List.map_toArray, List.map_cons, List.map_nil]); first | done | rfl | (simp only [List.length_drop, List.length_take]; rfl)) ?_; (with_reducible refine (fixed_Share.calls (wrap64 (a1 - t134)) _ _ x10_2 t164 t165 _ ?side1 ?side2 A53.out).mono ?_); (case side1 => repeat (first | exact (Kd.R_reads' HO_10.out).2.2 | (with_reducible refine Kd.C_alloc ?_ _) | (with_reducible refine Kd.C_drewN ?_ _) | (with_reducible refine Kd.C_drew ?_))); (case side2 => exact (Kd.R_reads' HO_10.out).2.1); rintro e w56 ⟨v166, rfl, ho0, hb⟩; refine ⟨_, rfl, ?_⟩; have n0_ := Aside0.mk (Kd.R_elder' (by (with_reducible repeat (first | apply Kd.R_alloc | apply Kd.R_drewN | apply Kd.R_drew)); exact HO_9.out) (Kd.R_base ho0) hb); have n1_ := Aside0.mk (Kd.R_elder' (by (with_reducible repeat (first | apply Kd.R_alloc | apply Kd.R_drewN | apply Kd.R_drew)); exact HO_10.out) (Kd.R_base ho0) hb); have n2_ := Aside0.mk (Kd.R_lower (Kd.R_new' (Kd.R_new' ho0 (Kd.R_lt (by (with_reducible repeat (first | apply Kd.R_alloc | apply Kd.R_drewN | apply Kd.R_drew)); exact HO_9.out))) (Kd.R_lt (by (with_reducible repeat (first | apply Kd.R_alloc | apply Kd.R_drewN | apply Kd.R_drew)); exact HO_10.out))) (below_size (by repeat (first | (with_reducible first | exact HB.out | apply below_alloc | apply pw_below_drewN | apply below_drew1) | exact HB.out)))); have n3_ := Aside0.mk (below_step (by repeat (first | (with_reducible first | exact HB.out | apply below_alloc | apply pw_below_drewN | apply below_drew1) | exact HB.out)) hb); clear HO_9; clear HO_10; clear HB; have HO_9 := n0_; have HO_10 := n1_; have HO167 := n2_; have HB := n3_; clear n0_ n1_ n2_ n3_; (try clear hb); (try clear hb2); (try clear hk); (try clear hi); (try clear ho0)))
        go_loopg [131] k2 (fun kq v131 w' => ∃ (x9_3 : List Int) (x131_3 : Int), v131 = .int .i64 x131_3 ∧ Aside0 (widths_Auto.l3 kq x9_3 t164 l0 (l0.length : Int) x131_3 = some (r1, r2)) ∧ Aside0 (kq ≤ k2) ∧ Aside0 (Kd.R (Kd.int .i64) 2 w' w.heap.size (fun k_ => some k_ ≠ (v166 : Value).ownBlock) (.slice Ao54 x9_2.length co54) x9_3) ∧ Aside0 (Kd.R (Kd.int .i64) 2 w' w.heap.size (fun k_ => some k_ ≠ ((.slice Ao54 x9_2.length co54) : Value).ownBlock) v166 t164) ∧ Aside0 (Below w.heap.size w w'))
        case atStart => exact ⟨(x9_2), (0), (by first | rfl | (simp; done) | (simp [*]; done)), H', ⟨Nat.le_refl _⟩, ⟨by (with_reducible repeat (first | apply Kd.R_alloc | apply Kd.R_drewN | apply Kd.R_drew)); exact Kd.R_mono HO_9.out (fun _ hk => hk.2)⟩, ⟨by (with_reducible repeat (first | apply Kd.R_alloc | apply Kd.R_drewN | apply Kd.R_drew)); exact Kd.R_mono HO167.out (fun _ hk => hk.1.2)⟩, ⟨by repeat (first | (with_reducible first | exact HB.out | apply below_alloc | apply pw_below_drewN | apply below_drew1) | exact HB.out)⟩⟩
        case round =>
         clear H'
         try clear c1
         try clear p1
         try clear q1
         try clear hx1
         try clear c2
         try clear p2
         try clear c3
         try clear c4
         try clear p4
         try clear q4
         try clear hx4
         try clear hf4
         try clear c6
         try clear c6b0
         try clear c6b1
         try clear c6b2
         try clear p6
         try clear c8
         try clear c9
         try clear c9b0
         try clear c13
         try clear p13
         try clear q13
         try clear hx13
         try clear c14
         try clear c14b0
         try clear c15
         try clear c15b0
         try clear p15
         try clear q15
         try clear hx15
         try clear c16
         try clear c16b0
         try clear p16
         try clear q16
         try clear hx16
         try clear c18
         try clear c20
         try clear c28
         try clear c28b0
         try clear c33
         try clear c33b0
         try clear c34
         try clear c34b0
         try clear c35
         try clear c35b0
         try clear c36
         try clear c36b0
         try clear c37
         try clear c37b0
         try clear c38
         try clear c39
         try clear c43
         try clear c43b0
         try clear c44
         try clear c44b0
         try clear c45
         try clear c45b0
         try clear c46
         try clear c46b0
         try clear c47
         try clear c47b0
         try clear c48
         try clear c48b0
         try clear p49
         try clear q49
         try clear hx49
         try clear hf49
         try clear hcz22_0
         try clear hcz22_1
         try clear hcz22_2
         try clear hcz22_3
         try clear hcz25_0
         try clear hcz25_1
         try clear hcz25_2
         try clear hcz25_3
         try clear hfz22_0
         try clear hfz22_1
         try clear hfz22_2
         try clear hfz22_3
         try clear hfz25_0
         try clear hfz25_1
         try clear hfz25_2
         try clear hfz25_3
         try clear hx138_0
         try clear hx138_1
         try clear hx138_2
         try clear hx138_3
         try clear hx151_0
         try clear hx152_0
         try clear hx152_1
         try clear hx152_2
         try clear hx152_3
         try clear hx160_0
         try clear hx161_0
         try clear hx162_0
         try clear hx49_0
         try clear p1
         try clear p13
         try clear p138
         try clear p15
         try clear p151
         try clear p152
         try clear p160
         try clear p161
         try clear p162
         try clear p2
         try clear p49
         try clear p6
         try clear q1
         try clear q13
         try clear q138
         try clear q15
         try clear q151
         try clear q152
         try clear q160
         try clear q161
         try clear q162
         try clear q49
         obtain ⟨x9_3, x131_3, rfl, HA, HK3, HO_9, HO_23, HB⟩ := hrel
         have hl9_3 := (Kd.R_reads' HO_9.out).1
         rw [hl9_3] at HO_9
         (try simp only [hl9_3])
         (try simp only [hl9_3] at HO_23)
         cases gk with
         | zero => exact absurd HA.out (by simp [widths_Auto.l3])
         | succ k3 =>
          have H := HA.out
          clear HA
          simp only [widths_Auto.l3] at H
          by_cases c57 : x131_3 < (l0.length : Int)
          ·rw [if_pos c57] at H
           have c57b0 : decide (x131_3 < (l0.length : Int)) = true := decide_eq_true c57
           clear c57
           by_cases c58 : 0 ≤ x131_3
           ·rw [if_pos c58] at H
            have c58b0 : decide (0 ≤ x131_3) = true := decide_eq_true c58
            clear c58
            by_cases c59 : x131_3 < (l0.length : Int)
            ·rw [if_pos c59] at H
             have c59b0 : decide (x131_3 < (l0.length : Int)) = true := decide_eq_true c59
             clear c59
             by_cases c60 : x131_3 < (t164.length : Int)
             ·rw [if_pos c60] at H
              have c60b0 : decide (x131_3 < (t164.length : Int)) = true := decide_eq_true c60
              clear c60
              by_cases c61 : x131_3 < (x9_3.length : Int)
              ·rw [if_pos c61] at H
               have c61b0 : decide (x131_3 < (x9_3.length : Int)) = true := decide_eq_true c61
               clear c61
               obtain ⟨y171, hy171⟩ : ∃ y_ : List Int, y_ = (x9_3.set (x131_3 : Int).toNat (wrap64 (((rd_T35 l0 x131_3).f0) + (rd t164 x131_3)))) := ⟨_, rfl⟩
               replace H : (widths_Auto.l3 k3 y171 t164 l0 (l0.length : Int) (wrap64 (x131_3 + 1))) = some (r1, r2) := by first | (rw [hy171]; with_reducible exact H) | (have H2_ := (Option.bind_some _ _).symm.trans H; rw [hy171]; with_reducible exact H2_) | (have H2_ := (Option.bind_some _ _).symm.trans H; with_reducible exact H2_) | with_reducible exact H | (rw [hy171]; exact H) | exact H
               have Ny171 := Aside0.mk hy171
               clear hy171
               have H' := Aside0.mk H
               clear H
               have p168 : 0 ≤ (x131_3 : Int) := of_decide_eq_true (by first | (with_reducible assumption) | assumption)
               have q168 : x131_3 < (l0.length : Int) := of_decide_eq_true (by first | (with_reducible assumption) | assumption)
               obtain ⟨ad168, e168, hx168_0, hx168_1, hx168_2, hx168_3⟩ := at_T35 HR0.out x131_3 p168 q168
               cases e168
               replace hx168_0 := (HB.out.cell (World.block_lt_of_cell? w _ hx168_0)).trans hx168_0
               replace hx168_1 := (HB.out.cell (World.block_lt_of_cell? w _ hx168_1)).trans hx168_1
               replace hx168_2 := (HB.out.cell (World.block_lt_of_cell? w _ hx168_2)).trans hx168_2
               replace hx168_3 := (HB.out.cell (World.block_lt_of_cell? w _ hx168_3)).trans hx168_3
               replace p168 := eq_true p168
               replace q168 := eq_true q168
               try go_wp2_with (first | ((with_reducible refine gate_dst (N := 26) rfl ?_); refine box_event ?hg (N := 26) ?hd (cs := #[.int .i64 0, .int .i64 0, .int .i64 0, .int .i64 0]) (t := 35) ?hr ?_; (case hd => rfl); (case hg => rfl); (case hr => first | (go_simp; done) | (go_simp; rfl)); intro gb169 hg w63 hbox hb; have n0_ := Aside0.mk (Kd.R_below (by (with_reducible repeat (first | apply Kd.R_alloc | apply Kd.R_drewN | apply Kd.R_drew)); exact HO_9.out) hb); have n1_ := Aside0.mk (Kd.R_below (by (with_reducible repeat (first | apply Kd.R_alloc | apply Kd.R_drewN | apply Kd.R_drew)); exact HO_23.out) hb); have n2_ := Aside0.mk (below_step (by repeat (first | (with_reducible first | exact HB.out | apply below_alloc | apply pw_below_drewN | apply below_drew1) | exact HB.out)) hb); have n3_ := Aside0.mk (hbox); have n4_ := Aside0.mk ((by rw [hg]; exact (below_size (by repeat (first | (with_reducible first | exact HB.out | apply below_alloc | apply pw_below_drewN | apply below_drew1) | exact HB.out))) : w.heap.size ≤ gb169)); have n5_ := Aside0.mk ((by rw [hg]; exact (below_size (by repeat (first | (with_reducible first | exact HB.out | apply below_alloc | apply pw_below_drewN | apply below_drew1) | exact HB.out))) : w.heap.size ≤ gb169)); clear HO_9; clear HO_23; clear HB; have HO_9 := n0_; have HO_23 := n1_; have HB := n2_; have BK169 := n3_; have GW169 := n4_; have GE169 := n5_; clear n0_ n1_ n2_ n3_ n4_ n5_; clear hb hbox hg; have hcz64_0 : w63.cell? ⟨gb169, 0, none⟩ = some (.int .i64 0) := (blk_cell BK169.out 0).trans rfl; have hcz64_1 : w63.cell? ⟨gb169, 1, none⟩ = some (.int .i64 0) := (blk_cell BK169.out 1).trans rfl; have hcz64_2 : w63.cell? ⟨gb169, 2, none⟩ = some (.int .i64 0) := (blk_cell BK169.out 2).trans rfl; have hcz64_3 : w63.cell? ⟨gb169, 3, none⟩ = some (.int .i64 0) := (blk_cell BK169.out 3).trans rfl; have hfz64_0 := blk_frozen BK169.out 0; have hfz64_1 := blk_frozen BK169.out 1; have hfz64_2 := blk_frozen BK169.out 2; have hfz64_3 := blk_frozen BK169.out 3))
               have n0_ : Aside0 (Kd.R (Kd.int .i64) 2 ((((w63.setCell ⟨gb169, 0, none⟩ (.int .i64 ((rd_T35 l0 x131_3).f0))).setCell ⟨gb169, 1, none⟩ (.int .i64 ((rd_T35 l0 x131_3).f1))).setCell ⟨gb169, 2, none⟩ (.int .i64 ((rd_T35 l0 x131_3).f2))).setCell ⟨gb169, 3, none⟩ (.int .i64 ((rd_T35 l0 x131_3).f3))) w.heap.size (fun k_ => some k_ ≠ (v166 : Value).ownBlock) (.slice Ao54 x9_3.length co54) x9_3) := ⟨by (with_reducible repeat (first | apply Kd.R_alloc | apply Kd.R_drewN | apply Kd.R_drew)); exact Kd.R_mono (Kd.R_far (p := ⟨gb169, 3, none⟩) (Kd.R_far (p := ⟨gb169, 2, none⟩) (Kd.R_far (p := ⟨gb169, 1, none⟩) (Kd.R_far (p := ⟨gb169, 0, none⟩) (Kd.R_types HO_9.out BK169.out (by decide)) (fun _ hk => hk.2) (.int .i64 ((rd_T35 l0 x131_3).f0))) (fun _ hk => hk.2) (.int .i64 ((rd_T35 l0 x131_3).f1))) (fun _ hk => hk.2) (.int .i64 ((rd_T35 l0 x131_3).f2))) (fun _ hk => hk.2) (.int .i64 ((rd_T35 l0 x131_3).f3))) (fun _ hk => hk.1)⟩
               have n1_ : Aside0 (Kd.R (Kd.int .i64) 2 ((((w63.setCell ⟨gb169, 0, none⟩ (.int .i64 ((rd_T35 l0 x131_3).f0))).setCell ⟨gb169, 1, none⟩ (.int .i64 ((rd_T35 l0 x131_3).f1))).setCell ⟨gb169, 2, none⟩ (.int .i64 ((rd_T35 l0 x131_3).f2))).setCell ⟨gb169, 3, none⟩ (.int .i64 ((rd_T35 l0 x131_3).f3))) w.heap.size (fun k_ => some k_ ≠ (.slice Ao54 x9_3.length co54 : Value).ownBlock) v166 t164) := ⟨by (with_reducible repeat (first | apply Kd.R_alloc | apply Kd.R_drewN | apply Kd.R_drew)); exact Kd.R_mono (Kd.R_far (p := ⟨gb169, 3, none⟩) (Kd.R_far (p := ⟨gb169, 2, none⟩) (Kd.R_far (p := ⟨gb169, 1, none⟩) (Kd.R_far (p := ⟨gb169, 0, none⟩) (Kd.R_types HO_23.out BK169.out (by decide)) (fun _ hk => hk.2) (.int .i64 ((rd_T35 l0 x131_3).f0))) (fun _ hk => hk.2) (.int .i64 ((rd_T35 l0 x131_3).f1))) (fun _ hk => hk.2) (.int .i64 ((rd_T35 l0 x131_3).f2))) (fun _ hk => hk.2) (.int .i64 ((rd_T35 l0 x131_3).f3))) (fun _ hk => hk.1)⟩
               have n2_ : Aside0 (((((w63.setCell ⟨gb169, 0, none⟩ (.int .i64 ((rd_T35 l0 x131_3).f0))).setCell ⟨gb169, 1, none⟩ (.int .i64 ((rd_T35 l0 x131_3).f1))).setCell ⟨gb169, 2, none⟩ (.int .i64 ((rd_T35 l0 x131_3).f2))).setCell ⟨gb169, 3, none⟩ (.int .i64 ((rd_T35 l0 x131_3).f3))).heap[gb169]? = some (.cells #[.int .i64 ((rd_T35 l0 x131_3).f0), .int .i64 ((rd_T35 l0 x131_3).f1), .int .i64 ((rd_T35 l0 x131_3).f2), .int .i64 ((rd_T35 l0 x131_3).f3)] 35 (0, 0))) := ⟨by (with_reducible repeat (first | refine blk_drewN ?_ _ | refine blk_drew ?_ | refine blk_alloc ?_ _)); refine blk_put (cs := #[.int .i64 ((rd_T35 l0 x131_3).f0), .int .i64 ((rd_T35 l0 x131_3).f1), .int .i64 ((rd_T35 l0 x131_3).f2), .int .i64 0]) ?_ 3 _ rfl; (with_reducible repeat (first | refine blk_drewN ?_ _ | refine blk_drew ?_ | refine blk_alloc ?_ _)); refine blk_put (cs := #[.int .i64 ((rd_T35 l0 x131_3).f0), .int .i64 ((rd_T35 l0 x131_3).f1), .int .i64 0, .int .i64 0]) ?_ 2 _ rfl; (with_reducible repeat (first | refine blk_drewN ?_ _ | refine blk_drew ?_ | refine blk_alloc ?_ _)); refine blk_put (cs := #[.int .i64 ((rd_T35 l0 x131_3).f0), .int .i64 0, .int .i64 0, .int .i64 0]) ?_ 1 _ rfl; (with_reducible repeat (first | refine blk_drewN ?_ _ | refine blk_drew ?_ | refine blk_alloc ?_ _)); refine blk_put (cs := #[.int .i64 0, .int .i64 0, .int .i64 0, .int .i64 0]) ?_ 0 _ rfl; (with_reducible repeat (first | refine blk_drewN ?_ _ | refine blk_drew ?_ | refine blk_alloc ?_ _)); exact BK169.out⟩
               have n3_ : Aside0 (Below w.heap.size w ((((w63.setCell ⟨gb169, 0, none⟩ (.int .i64 ((rd_T35 l0 x131_3).f0))).setCell ⟨gb169, 1, none⟩ (.int .i64 ((rd_T35 l0 x131_3).f1))).setCell ⟨gb169, 2, none⟩ (.int .i64 ((rd_T35 l0 x131_3).f2))).setCell ⟨gb169, 3, none⟩ (.int .i64 ((rd_T35 l0 x131_3).f3)))) := ⟨by repeat (first | (with_reducible first | exact HB.out | apply below_alloc | apply pw_below_drewN | apply below_drew1 | refine below_set ?_ GE169.out) | exact HB.out)⟩
               (try clear HO_9)
               (try clear HO_23)
               (try clear BK169)
               (try clear HB)
               generalize ((((w63.setCell ⟨gb169, 0, none⟩ (.int .i64 ((rd_T35 l0 x131_3).f0))).setCell ⟨gb169, 1, none⟩ (.int .i64 ((rd_T35 l0 x131_3).f1))).setCell ⟨gb169, 2, none⟩ (.int .i64 ((rd_T35 l0 x131_3).f2))).setCell ⟨gb169, 3, none⟩ (.int .i64 ((rd_T35 l0 x131_3).f3))) = w65 at n0_ n1_ n2_ n3_ ⊢
               have HO_9 := n0_
               have HO_23 := n1_
               have BK169 := n2_
               have HB := n3_
               clear n0_ n1_ n2_ n3_
               have n0_ := Aside0.mk (Kd.R_drew HO_9.out)
               have n1_ := Aside0.mk (Kd.R_drew HO_23.out)
               have n2_ := Aside0.mk (blk_drew BK169.out)
               have n3_ := Aside0.mk (below_drew1 HB.out)
               clear HO_9
               clear HO_23
               clear BK169
               clear HB
               have HO_9 := n0_
               have HO_23 := n1_
               have BK169 := n2_
               have HB := n3_
               clear n0_ n1_ n2_ n3_
               obtain ⟨Ao67, co67, eo67⟩ := Kd.R_slice HO_23.out
               (first | subst eo67 | (injection eo67 with f1_ f2_ f3_; have f4_ := f1_.symm; have f5_ := f3_.symm; clear f1_ f2_ f3_; subst f4_; subst f5_))
               have p170 : 0 ≤ (x131_3 : Int) := of_decide_eq_true (by first | (with_reducible assumption) | assumption)
               have q170 : x131_3 < (t164.length : Int) := of_decide_eq_true (by first | (with_reducible assumption) | assumption)
               obtain ⟨ad170, e170, hx170_0⟩ := Kd.at_int (Kd.R_reads' HO_23.out).2.2 x131_3 p170 q170
               cases e170
               replace p170 := eq_true p170
               replace q170 := eq_true q170
               have p62 : 0 ≤ (x131_3 : Int) := of_decide_eq_true (by first | (with_reducible assumption) | assumption)
               have q62 : (x131_3 : Int) < ((x9_3.length : Int) : Int) := of_decide_eq_true (by first | (with_reducible assumption) | assumption)
               obtain ⟨go62, co62, eo62, gb62, gl62, cl62, HG62⟩ := Kd.R_form HO_9.out (by omega)
               (first | cases eo62 | (injection eo62 with ea_ en_ ec_; (first | subst ea_ | (injection ea_ with ea_; subst ea_)); subst ec_; clear en_))
               have GB62 := Aside0.mk gb62
               have GG62 := Aside0.mk HG62
               clear gb62 gl62 HG62
               obtain ⟨hx62_0, hf62_0⟩ := Kd.R_celln 0 HO_9.out (x131_3 : Int) p62 q62
               replace p62 := eq_true p62
               replace q62 := eq_true q62
               have HP68 := Kd.R_putn HO_9.out (x131_3 : Int) (wrap64 (((rd_T35 l0 x131_3).f0) + (rd t164 x131_3)))
               rw [← Ny171.out] at HP68
               have HQ68 := Aside0.mk HP68
               clear HP68
               refine start_ (n := 11) (S := fun w' => w'.cell? ⟨gb169, 0, none⟩ = some (.int .i64 ((rd_T35 l0 x131_3).f0)) ∧ w'.cell? ⟨gb169, 1, none⟩ = some (.int .i64 ((rd_T35 l0 x131_3).f1)) ∧ w'.cell? ⟨gb169, 2, none⟩ = some (.int .i64 ((rd_T35 l0 x131_3).f2)) ∧ w'.cell? ⟨gb169, 3, none⟩ = some (.int .i64 ((rd_T35 l0 x131_3).f3)) ∧ w'.cell? (ad170.add (x131_3).toNat) = some (.int .i64 (rd t164 x131_3))) (ds := [10]) #[false, false, false, false, false, false, false, false, false, false, false] (by kernel_rfl) rfl rfl ⟨(blk_cell BK169.out 0).trans rfl, (blk_cell BK169.out 1).trans rfl, (blk_cell BK169.out 2).trans rfl, (blk_cell BK169.out 3).trans rfl, hx170_0⟩ (fun hHeld => ?_); refine with_tabW widths_Auto.tab31 widths_Auto.bits31 (fun HT_ HW_ => ?_)
               generalize w65.drew = w66 at HO_9 HO_23 BK169 HB GG62 HQ68 hf62_0 hx170_0 hx62_0 hHeld ⊢
               refine pure_ (i := 0) (N := some 136) (v := ?_) (a' := ?_) #[true, false, false, false, false, false, false, false, false, false, false] rfl rfl (any_of HT_.out (by kernel_rfl)) (fun _ _ _ h => h) (Or.inl ⟨by rfl, ?_⟩) ?_ ?_
               rotate_left
               ·intro w'
                go_simp
                with_reducible rfl
               rotate_left
               ·simp only [Act.put, List.setIfInBounds_toArray, List.set_cons_zero, List.set_cons_succ, i64_w, i32_w]
                rfl
               refine pure_ (i := 1) (N := some 137) (v := ?_) (a' := ?_) #[true, true, false, false, false, false, false, false, false, false, false] rfl rfl (any_of HT_.out (by kernel_rfl)) (fun _ _ _ h => h) (Or.inl ⟨by rfl, ?_⟩) ?_ ?_
               rotate_left
               ·intro w'
                go_simp
                with_reducible rfl
               rotate_left
               ·simp only [Act.put, List.setIfInBounds_toArray, List.set_cons_zero, List.set_cons_succ, i64_w, i32_w]
                rfl
               refine pure_ (i := 2) (N := some 138) (v := ?_) (a' := ?_) #[true, true, true, false, false, false, false, false, false, false, false] rfl rfl (any_of HT_.out (by kernel_rfl)) (fun _ _ _ h => h) (Or.inl ⟨by rfl, ?_⟩) ?_ ?_
               rotate_left
               ·intro w'
                go_simp
                with_reducible rfl
               rotate_left
               ·simp only [Act.put, List.setIfInBounds_toArray, List.set_cons_zero, List.set_cons_succ, i64_w, i32_w]
                rfl
               refine pure_ (i := 4) (N := some 140) (v := ?_) (a' := ?_) #[true, true, true, false, true, false, false, false, false, false, false] rfl rfl (any_of HT_.out (by kernel_rfl)) (fun _ _ _ h => h) (Or.inl ⟨by rfl, ?_⟩) ?_ ?_
               rotate_left
               ·intro w'
                go_simp
                with_reducible rfl
               rotate_left
               ·simp only [Act.put, List.setIfInBounds_toArray, List.set_cons_zero, List.set_cons_succ, i64_w, i32_w]
                rfl
               refine pure_ (i := 5) (N := some 141) (v := ?_) (a' := ?_) #[true, true, true, false, true, true, false, false, false, false, false] rfl rfl (any_of HT_.out (by kernel_rfl)) (fun _ _ _ h => h) (Or.inl ⟨by rfl, ?_⟩) ?_ ?_
               rotate_left
               ·intro w'
                go_simp
                with_reducible rfl
               rotate_left
               ·simp only [Act.put, List.setIfInBounds_toArray, List.set_cons_zero, List.set_cons_succ, i64_w, i32_w]
                rfl
               refine pure_ (i := 6) (N := some 142) (v := ?_) (a' := ?_) #[true, true, true, false, true, true, true, false, false, false, false] rfl rfl (any_of HT_.out (by kernel_rfl)) (fun _ _ _ h => h) (Or.inl ⟨by rfl, ?_⟩) ?_ ?_
               rotate_left
               ·intro w'
                go_simp
                with_reducible rfl
               rotate_left
               ·simp only [Act.put, List.setIfInBounds_toArray, List.set_cons_zero, List.set_cons_succ, i64_w, i32_w]
                rfl
               refine take_ (i := 3) (N := some 139) (v := ?_) (a' := ?_) #[true, true, true, true, true, true, true, false, false, false, false] rfl rfl (take_ofW HT_.out HW_.out (by kernel_rfl)) (fun _ _ _ h => h) (Or.inl ⟨by rfl, ?_⟩) hHeld ?_ ?_
               rotate_left
               ·rintro w' ⟨s0, s1, s2, s3, s4⟩
                go_simp
                with_reducible rfl
               rotate_left
               ·simp only [Act.put, List.setIfInBounds_toArray, List.set_cons_zero, List.set_cons_succ, i64_w, i32_w]
                rfl
               refine take_ (i := 7) (N := some 143) (v := ?_) (a' := ?_) #[true, true, true, true, true, true, true, true, false, false, false] rfl rfl (take_ofW HT_.out HW_.out (by kernel_rfl)) (fun _ _ _ h => h) (Or.inl ⟨by rfl, ?_⟩) hHeld ?_ ?_
               rotate_left
               ·rintro w' ⟨s0, s1, s2, s3, s4⟩
                go_simp
                with_reducible rfl
               rotate_left
               ·simp only [Act.put, List.setIfInBounds_toArray, List.set_cons_zero, List.set_cons_succ, i64_w, i32_w]
                rfl
               refine pure_ (i := 8) (N := some 144) (v := ?_) (a' := ?_) #[true, true, true, true, true, true, true, true, true, false, false] rfl rfl (any_of HT_.out (by kernel_rfl)) (fun _ _ _ h => h) (Or.inl ⟨by rfl, ?_⟩) ?_ ?_
               rotate_left
               ·intro w'
                go_simp
                with_reducible rfl
               rotate_left
               ·simp only [Act.put, List.setIfInBounds_toArray, List.set_cons_zero, List.set_cons_succ, i64_w, i32_w]
                rfl
               refine pure_ (i := 9) (N := some 145) (v := ?_) (a' := ?_) #[true, true, true, true, true, true, true, true, true, true, false] rfl rfl (any_of HT_.out (by kernel_rfl)) (fun _ _ _ h => h) (Or.inl ⟨by rfl, ?_⟩) ?_ ?_
               rotate_left
               ·intro w'
                go_simp
                with_reducible rfl
               rotate_left
               ·simp only [Act.put, List.setIfInBounds_toArray, List.set_cons_zero, List.set_cons_succ, i64_w, i32_w]
                rfl
               refine last_ (i := 10) (N := none) #[true, true, true, true, true, true, true, true, true, true, true] rfl rfl (one_of HT_.out (by kernel_rfl)) (by decide) (fun K hK => ?_)
               refine skip_ (w1 := ?_) (by rfl) rfl ?_ ?_
               rotate_left
               ·go_simp
                rfl
               refine hK.out _ _ ?_
               clear hK K
               refine done_ (done_of HT_.out (by kernel_rfl)) ?_
               try go_wp2
               (try simp only [← hl9_3])
               go_roundg k3
               case measure => have := HJ3.out; have := HK2.out; have := HK3.out; omega
               case rel => exact ⟨(y171), (wrap64 (x131_3 + 1)), (by first | rfl | (simp; done) | (simp [*]; done)), H', ⟨by have := HJ3.out; have := HK2.out; have := HK3.out; omega⟩, ⟨by (try simp only [hl9_3]); (with_reducible repeat (first | apply Kd.R_alloc | apply Kd.R_drewN | apply Kd.R_drew)); exact HQ68.out⟩, ⟨by (try simp only [hl9_3]); (with_reducible repeat (first | apply Kd.R_alloc | apply Kd.R_drewN | apply Kd.R_drew)); exact Kd.R_mono (Kd.R_far (p := ⟨go62, (x131_3 : Int).toNat, none⟩) (Kd.R_mono HO_23.out (fun k_ hk => (⟨hk, fun e_ => hk (by rw [e_]; rfl)⟩ : _ ∧ k_ ≠ go62))) (fun _ hk => hk.2) (.int .i64 (wrap64 (((rd_T35 l0 x131_3).f0) + (rd t164 x131_3))))) (fun _ hk => hk.1)⟩, ⟨by repeat (first | (with_reducible first | exact HB.out | apply below_alloc | apply pw_below_drewN | apply below_drew1 | refine below_set ?_ GB62.out | refine below_set ?_ GE169.out) | exact HB.out)⟩⟩
              ·rw [if_neg c61] at H
               exact absurd H (by simp)
             ·rw [if_neg c60] at H
              exact absurd H (by simp)
            ·rw [if_neg c59] at H
             exact absurd H (by simp)
           ·rw [if_neg c58] at H
            exact absurd H (by simp)
          ·rw [if_neg c57] at H
           have c57b0 : decide (x131_3 < (l0.length : Int)) = false := decide_eq_false c57
           clear c57
           simp only [Option.some.injEq, Prod.mk.injEq] at H
           obtain ⟨rfl, rfl⟩ := H
           go_wp2
           go_ret2
           exact ⟨_, by first | rfl | (simp [errW_none, errW_some] <;> rfl) | (simp [*, errW_none, errW_some] <;> rfl), by (with_reducible repeat (first | apply Kd.R_alloc | apply Kd.R_drewN | apply Kd.R_drew)); exact Kd.R_mono HO_9.out (fun _ hk => trivial), by repeat (first | (with_reducible first | exact HB.out | apply below_alloc | apply pw_below_drewN | apply below_drew1) | exact HB.out)⟩

end Go.Proofs.Ytilfgmclhoidiaa.PA
