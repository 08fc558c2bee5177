-- MADE by wip/tools/xprint.py of this repo: the kit's print.py, turned by this session, and texts by hand
import Derived.Test.YtilfgmclhoidiaaPAx0
import Derived.Test.YtilfgmclhoidiaaPAx20
import Derived.Test.YtilfgmclhoidiaaPAx33
namespace Go.Proofs.Ytilfgmclhoidiaa.PA
open Go.RowKit Go.Proofs.YtilfgmclhoidiaaW.PrintWords Go.Proofs.YtilfgmclhoidiaaW.PrintLast Go.Proofs.YtilfgmclhoidiaaW.PrintMore
attribute [local go_sem] max2_int min2_int max_two min_two max_three min_three max_four min_four   -- for this text's walks alone
set_option linter.unusedVariables false
set_option linter.unusedSimpArgs false

/-! ### purflingref15_Fixed: function 26 -/
mutual
def purflingref15_Fixed.j0 : Nat → List (S39) → Int → Bool → Option (List Int × Int)
 | 0, _, _, _ => none
 | k + 1, x0, x1, x34 => if x34 = true then (some (([] : List Int), 130)) else (purflingref15_Fixed.l0 k x0 x1 ([] : List Int) 0 0 0)
def purflingref15_Fixed.l0 : Nat → List (S39) → Int → List Int → Int → Int → Int → Option (List Int × Int)
 | 0, _, _, _, _, _, _ => none
 | k + 1, x0, x1, x7, x8, x9, x10 => if x10 < (x0.length : Int) then (if 0 ≤ x10 then (if ((rd_T39 x0 x10).f0) = 1 then (if x7.length < 17592186044416 then ((purflingref01_Sum.f k x8 ((rd_T39 x0 x10).f1)).bind fun t506 => (purflingref15_Fixed.l0 k x0 x1 (x7 ++ [(rd_T39 x0 x10).f1]) t506 x9 (wrap64 (x10 + 1)))) else (none)) else (if ((rd_T39 x0 x10).f0) = 2 then ((purflingref01_Part.f k ((rd_T39 x0 x10).f1) x1).bind fun t509 => (if x7.length < 17592186044416 then ((purflingref01_Sum.f k x8 t509).bind fun t513 => (purflingref15_Fixed.l0 k x0 x1 (x7 ++ [t509]) t513 x9 (wrap64 (x10 + 1)))) else (none))) else (if x7.length < 17592186044416 then ((purflingref01_Sum.f k x8 0).bind fun t517 => (purflingref15_Fixed.l0 k x0 x1 (x7 ++ [0]) t517 (wrap64 (x9 + 1)) (wrap64 (x10 + 1)))) else (none)))) else (none)) else (if x9 = 0 then (purflingref15_Fixed.j2 k x0 x7 x9 (mx 0 (wrap64 (x1 - x8))) (x0.length : Int)) else (purflingref15_Fixed.j2 k x0 x7 x9 (mx 0 (wrap64 (x1 - x8))) x9))
def purflingref15_Fixed.j2 : Nat → List (S39) → List Int → Int → Int → Int → Option (List Int × Int)
 | 0, _, _, _, _, _ => none
 | k + 1, x0, x7, x9, x12, x13 => (purflingref01_Even.f k x12 x13).bind fun bt518 => (purflingref15_Fixed.l1 k x0 x7 x9 bt518.1 0 0)
def purflingref15_Fixed.l1 : Nat → List (S39) → List Int → Int → List Int → Int → Int → Option (List Int × Int)
 | 0, _, _, _, _, _, _ => none
 | k + 1, x0, x7, x9, x14, x16, x17 => if x17 < (x0.length : Int) then (if x9 = 0 then (if 0 ≤ x17 then (if x17 < (x7.length : Int) then (if 0 ≤ x16 then (if x16 < (x14.length : Int) then ((purflingref01_Sum.f k (rd x7 x17) (rd x14 x16)).bind fun t524 => (purflingref15_Fixed.l1 k x0 (x7.set (x17 : Int).toNat t524) x9 x14 (wrap64 (x16 + 1)) (wrap64 (x17 + 1)))) else (none)) else (none)) else (none)) else (none)) else (if 0 ≤ x17 then (if ((rd_T39 x0 x17).f0) = 0 then (if x17 < (x7.length : Int) then (if 0 ≤ x16 then (if x16 < (x14.length : Int) then ((purflingref01_Sum.f k (rd x7 x17) (rd x14 x16)).bind fun t529 => (purflingref15_Fixed.l1 k x0 (x7.set (x17 : Int).toNat t529) x9 x14 (wrap64 (x16 + 1)) (wrap64 (x17 + 1)))) else (none)) else (none)) else (none)) else (purflingref15_Fixed.l1 k x0 x7 x9 x14 x16 (wrap64 (x17 + 1)))) else (none))) else (some (x7, 0))
end
def purflingref15_Fixed.f (k : Nat) (l0 : List (S39)) (a1 : Int) : Option (List Int × Int) := (purflingref13_Right.f l0 ([] : List (S63))).bind fun t500 => (if t500 = true then (if (l0.length : Int) = 0 then (purflingref15_Fixed.j0 k l0 a1 true) else (if a1 < 0 then (purflingref15_Fixed.j0 k l0 a1 true) else (purflingref15_Fixed.j0 k l0 a1 (decide (a1 > 576460752303423488))))) else (purflingref15_Fixed.j0 k l0 a1 true))
theorem purflingref15_Fixed.mono_l : ∀ k, (∀ y0 y1 y2, LeO (purflingref15_Fixed.j0 k y0 y1 y2) (purflingref15_Fixed.j0 (k + 1) y0 y1 y2)) ∧ (∀ y0 y1 y2 y3 y4 y5, LeO (purflingref15_Fixed.l0 k y0 y1 y2 y3 y4 y5) (purflingref15_Fixed.l0 (k + 1) y0 y1 y2 y3 y4 y5)) ∧ (∀ y0 y1 y2 y3 y4, LeO (purflingref15_Fixed.j2 k y0 y1 y2 y3 y4) (purflingref15_Fixed.j2 (k + 1) y0 y1 y2 y3 y4)) ∧ (∀ y0 y1 y2 y3 y4 y5, LeO (purflingref15_Fixed.l1 k y0 y1 y2 y3 y4 y5) (purflingref15_Fixed.l1 (k + 1) y0 y1 y2 y3 y4 y5))
 | 0 => ⟨fun _ _ _ r h => by simp [purflingref15_Fixed.j0] at h, fun _ _ _ _ _ _ r h => by simp [purflingref15_Fixed.l0] at h, fun _ _ _ _ _ r h => by simp [purflingref15_Fixed.j2] at h, fun _ _ _ _ _ _ r h => by simp [purflingref15_Fixed.l1] at h⟩
 | k + 1 => by
  obtain ⟨ih0, ih1, ih2, ih3⟩ := purflingref15_Fixed.mono_l k
  refine ⟨?_, ?_, ?_, ?_⟩
  ·intro y0 y1 y2
   unfold purflingref15_Fixed.j0
   repeat' first
   | (with_reducible exact ih0 _ _ _)
   | (with_reducible exact ih1 _ _ _ _ _ _)
   | (with_reducible exact ih2 _ _ _ _ _)
   | (with_reducible exact ih3 _ _ _ _ _ _)
   | (with_reducible exact purflingref01_Even.mono _ _ _)
   | (with_reducible exact purflingref01_Part.mono _ _ _)
   | (with_reducible exact purflingref01_Sum.mono _ _ _)
   | (with_reducible exact LeO.refl _)
   | (with_reducible exact LeO.none _)
   | (with_reducible refine LeO.ite ?_ ?_)
   | (with_reducible refine LeO.bind ?_ (fun _ => ?_))
   | exact ih0 _ _ _
   | exact ih1 _ _ _ _ _ _
   | exact ih2 _ _ _ _ _
   | exact ih3 _ _ _ _ _ _
   | exact purflingref01_Even.mono _ _ _
   | exact purflingref01_Part.mono _ _ _
   | exact purflingref01_Sum.mono _ _ _
   | exact LeO.none _
   | refine LeO.ite ?_ ?_
   | refine LeO.bind ?_ (fun _ => ?_)
  ·intro y0 y1 y2 y3 y4 y5
   unfold purflingref15_Fixed.l0
   repeat' first
   | (with_reducible exact ih0 _ _ _)
   | (with_reducible exact ih1 _ _ _ _ _ _)
   | (with_reducible exact ih2 _ _ _ _ _)
   | (with_reducible exact ih3 _ _ _ _ _ _)
   | (with_reducible exact purflingref01_Even.mono _ _ _)
   | (with_reducible exact purflingref01_Part.mono _ _ _)
   | (with_reducible exact purflingref01_Sum.mono _ _ _)
   | (with_reducible exact LeO.refl _)
   | (with_reducible exact LeO.none _)
   | (with_reducible refine LeO.ite ?_ ?_)
   | (with_reducible refine LeO.bind ?_ (fun _ => ?_))
   | exact ih0 _ _ _
   | exact ih1 _ _ _ _ _ _
   | exact ih2 _ _ _ _ _
   | exact ih3 _ _ _ _ _ _
   | exact purflingref01_Even.mono _ _ _
   | exact purflingref01_Part.mono _ _ _
   | exact purflingref01_Sum.mono _ _ _
   | exact LeO.none _
   | refine LeO.ite ?_ ?_
   | refine LeO.bind ?_ (fun _ => ?_)
  ·intro y0 y1 y2 y3 y4
   unfold purflingref15_Fixed.j2
   repeat' first
   | (with_reducible exact ih0 _ _ _)
   | (with_reducible exact ih1 _ _ _ _ _ _)
   | (with_reducible exact ih2 _ _ _ _ _)
   | (with_reducible exact ih3 _ _ _ _ _ _)
   | (with_reducible exact purflingref01_Even.mono _ _ _)
   | (with_reducible exact purflingref01_Part.mono _ _ _)
   | (with_reducible exact purflingref01_Sum.mono _ _ _)
   | (with_reducible exact LeO.refl _)
   | (with_reducible exact LeO.none _)
   | (with_reducible refine LeO.ite ?_ ?_)
   | (with_reducible refine LeO.bind ?_ (fun _ => ?_))
   | exact ih0 _ _ _
   | exact ih1 _ _ _ _ _ _
   | exact ih2 _ _ _ _ _
   | exact ih3 _ _ _ _ _ _
   | exact purflingref01_Even.mono _ _ _
   | exact purflingref01_Part.mono _ _ _
   | exact purflingref01_Sum.mono _ _ _
   | exact LeO.none _
   | refine LeO.ite ?_ ?_
   | refine LeO.bind ?_ (fun _ => ?_)
  ·intro y0 y1 y2 y3 y4 y5
   unfold purflingref15_Fixed.l1
   repeat' first
   | (with_reducible exact ih0 _ _ _)
   | (with_reducible exact ih1 _ _ _ _ _ _)
   | (with_reducible exact ih2 _ _ _ _ _)
   | (with_reducible exact ih3 _ _ _ _ _ _)
   | (with_reducible exact purflingref01_Even.mono _ _ _)
   | (with_reducible exact purflingref01_Part.mono _ _ _)
   | (with_reducible exact purflingref01_Sum.mono _ _ _)
   | (with_reducible exact LeO.refl _)
   | (with_reducible exact LeO.none _)
   | (with_reducible refine LeO.ite ?_ ?_)
   | (with_reducible refine LeO.bind ?_ (fun _ => ?_))
   | exact ih0 _ _ _
   | exact ih1 _ _ _ _ _ _
   | exact ih2 _ _ _ _ _
   | exact ih3 _ _ _ _ _ _
   | exact purflingref01_Even.mono _ _ _
   | exact purflingref01_Part.mono _ _ _
   | exact purflingref01_Sum.mono _ _ _
   | exact LeO.none _
   | refine LeO.ite ?_ ?_
   | refine LeO.bind ?_ (fun _ => ?_)
theorem purflingref15_Fixed.mono : ∀ a0 a1 k, LeO (purflingref15_Fixed.f k a0 a1) (purflingref15_Fixed.f (k + 1) a0 a1) := by
 intro a0 a1 k
 obtain ⟨ih0, ih1, ih2, ih3⟩ := purflingref15_Fixed.mono_l k
 unfold purflingref15_Fixed.f
 repeat' first
   | (with_reducible exact ih0 _ _ _)
   | (with_reducible exact ih1 _ _ _ _ _ _)
   | (with_reducible exact ih2 _ _ _ _ _)
   | (with_reducible exact ih3 _ _ _ _ _ _)
   | (with_reducible exact purflingref01_Even.mono _ _ _)
   | (with_reducible exact purflingref01_Part.mono _ _ _)
   | (with_reducible exact purflingref01_Sum.mono _ _ _)
   | (with_reducible exact LeO.refl _)
   | (with_reducible exact LeO.none _)
   | (with_reducible refine LeO.ite ?_ ?_)
   | (with_reducible refine LeO.bind ?_ (fun _ => ?_))
   | exact ih0 _ _ _
   | exact ih1 _ _ _ _ _ _
   | exact ih2 _ _ _ _ _
   | exact ih3 _ _ _ _ _ _
   | exact purflingref01_Even.mono _ _ _
   | exact purflingref01_Part.mono _ _ _
   | exact purflingref01_Sum.mono _ _ _
   | exact LeO.none _
   | refine LeO.ite ?_ ?_
   | refine LeO.bind ?_ (fun _ => ?_)
def purflingref15_Fixed.T28 : Bool × List (List Nat × List Nat) := (true, [([], []), ([], []), ([], []), ([], []), ([2, 3], [2, 3]), ([4], [4]), ([], []), ([], []), ([6, 7], [6, 7]), ([8], [8]), ([5, 9], [5, 9]), ([0, 1, 0, 1, 2, 3, 4, 5, 6, 7, 8, 9, 10], [0, 1]), ([11, 10, 10, 0, 1, 2, 3, 4, 5, 6, 7, 8, 9, 10], [10, 11])])
def purflingref15_Fixed.B28 : List Nat := [0, 0, 0, 0, 12, 28, 0, 0, 192, 448, 1020, 2047, 4095]
theorem purflingref15_Fixed.tab28 : rtab .any (opsOf Try.f26 28) = purflingref15_Fixed.T28 := by kernel_rfl
theorem purflingref15_Fixed.bits28 : waitsOk purflingref15_Fixed.T28.2 purflingref15_Fixed.B28 = true := by kernel_rfl
set_option maxHeartbeats 8000000 in
set_option maxRecDepth 100000 in
theorem purflingref15_Fixed.calls (k : Nat) (A0 : Option Addr) (c0 : Nat) (l0 : List (S39)) (a1 : Int) (r1 : List Int) (r2 : Int) (w : World) (hr0 : Kd.C k39 w A0 l0.length l0) (hc0 : l0.length ≤ c0) (h : purflingref15_Fixed.f k l0 a1 = some (r1, r2)) :
  Calls Try.prog 26 #[.slice A0 l0.length c0, .int .i64 a1] w fun e w' => ∃ v0_ : Value, e = .returned (.tuple #[v0_, .int .i64 r2]) ∧ Kd.R (Kd.int .i64) 2 w' w.heap.size (fun _ => True) v0_ r1 ∧ Below w.heap.size w w' := by
 have HR0 := Aside0.mk hr0
 have HC0 := Aside0.mk hc0
 clear hr0 hc0
 have HB := Aside0.mk (Below.refl w.heap.size w)
 have H : ((purflingref13_Right.f l0 ([] : List (S63))).bind fun t500 => (if t500 = true then (if (l0.length : Int) = 0 then (purflingref15_Fixed.j0 k l0 a1 true) else (if a1 < 0 then (purflingref15_Fixed.j0 k l0 a1 true) else (purflingref15_Fixed.j0 k l0 a1 (decide (a1 > 576460752303423488))))) else (purflingref15_Fixed.j0 k l0 a1 true))) = some (r1, r2) := h
 clear h
 replace H := Option.bind_eq_some_iff.mp H
 obtain ⟨t500, A30, H⟩ := H
 replace H : (if t500 = true then (if (l0.length : Int) = 0 then (purflingref15_Fixed.j0 k l0 a1 true) else (if a1 < 0 then (purflingref15_Fixed.j0 k l0 a1 true) else (purflingref15_Fixed.j0 k l0 a1 (decide (a1 > 576460752303423488))))) else (purflingref15_Fixed.j0 k l0 a1 true)) = some (r1, r2) := H
 have A3 := Aside0.mk A30
 clear A30
 have HC4 := Aside0.mk H
 clear H
 go_enter Try.func26, Try.ntmps26
 go_upto_region 2 with (first | ((with_reducible refine gate_callee (f := 53) rfl ?_); refine goesL_ (some 19) rfl rfl Try.func53 (by kernel_rfl) rfl #[.slice A0 l0.length c0, .slice none 0 0] rfl (by (try simp only [List.map_toArray, List.map_cons, List.map_nil]); first | done | rfl | (simp only [List.length_drop, List.length_take]; rfl)) ?_; (refine (purflingref13_Right.calls _ _ l0 _ _ ([] : List (S63)) t500 _ ?side1 ?side2 ?side3 ?side4 A3.out).mono ?_); (case side1 => repeat (first | exact HR0.out | (with_reducible refine Kd.C_alloc ?_ _) | (with_reducible refine Kd.C_drewN ?_ _) | (with_reducible refine Kd.C_drew ?_))); (case side2 => exact HC0.out); (case side3 => exact Kd.C_nil _ _); (case side4 => exact Nat.le_refl _); rintro e w5 ⟨rfl, hb⟩; refine ⟨_, rfl, ?_⟩; have n0_ := Aside0.mk (below_step (by repeat (first | (with_reducible first | exact HB.out | apply below_alloc | apply pw_below_drewN | apply below_drew1) | exact HB.out)) hb); clear HB; have HB := n0_; clear n0_; (try clear hb); (try clear hb2); (try clear hk); (try clear hi)))
 (try simp only [Act.put, List.setIfInBounds_toArray, List.set_cons_zero, List.set_cons_succ])
 go_cut [34] (fun v34 wc => ∃ (kq : Nat) (x34_3 : Bool), v34 = .bool x34_3 ∧ Aside0 (purflingref15_Fixed.j0 kq l0 a1 x34_3 = some (r1, r2)) ∧ Aside0 (kq ≤ k) ∧ Aside0 (Below w.heap.size w wc))
 case first =>
  have H := HC4.out
  clear HC4
  by_cases c6 : t500 = true
  ·subst c6
   have H1 : (if (l0.length : Int) = 0 then (purflingref15_Fixed.j0 k l0 a1 true) else (if a1 < 0 then (purflingref15_Fixed.j0 k l0 a1 true) else (purflingref15_Fixed.j0 k l0 a1 (decide (a1 > 576460752303423488))))) = some (r1, r2) := by rw [if_pos rfl] at H; exact H
   clear H
   have H := H1
   clear H1
   by_cases c7 : (l0.length : Int) = 0
   ·rw [if_pos c7] at H
    have c7b0 : ((l0.length : Int) == 0) = true := beq_iff_eq.mpr c7
    have c7b1 : ((l0.length : Int) != 0) = false := bne_eq_false_iff_eq.mpr c7
    clear c7
    (first | rw [c7b0] | (simp only [i64_w, i32_w]; rw [c7b0]) | skip)
    have H' := Aside0.mk H
    clear H
    go_wp2
    go_meet
    case rel => exact ⟨_, (true), (by first | rfl | (simp; done) | (simp [*]; done)), H', ⟨by first | omega | exact Nat.le_refl _⟩, ⟨by repeat (first | (with_reducible first | exact HB.out | apply below_alloc | apply pw_below_drewN | apply below_drew1) | exact HB.out)⟩⟩
   ·rw [if_neg c7] at H
    have c7b0 : ((l0.length : Int) == 0) = false := beq_eq_false_iff_ne.mpr c7
    have c7b1 : ((l0.length : Int) != 0) = true := bne_iff_ne.mpr c7
    have c7b2 : ¬ (l0 = []) := fun h_ => c7 (by rw [h_]; rfl)
    (first | rw [c7b0] | (simp only [i64_w, i32_w]; rw [c7b0]) | skip)
    by_cases c8 : a1 < 0
    ·rw [if_pos c8] at H
     have c8b0 : decide (a1 < 0) = true := decide_eq_true c8
     clear c8
     have H' := Aside0.mk H
     clear H
     go_wp2
     go_meet
     case rel => exact ⟨_, (true), (by first | rfl | (simp; done) | (simp [*]; done)), H', ⟨by first | omega | exact Nat.le_refl _⟩, ⟨by repeat (first | (with_reducible first | exact HB.out | apply below_alloc | apply pw_below_drewN | apply below_drew1) | exact HB.out)⟩⟩
    ·rw [if_neg c8] at H
     have c8b0 : decide (a1 < 0) = false := decide_eq_false c8
     clear c8
     have H' := Aside0.mk H
     clear H
     go_wp2
     go_meet
     case rel => exact ⟨_, (decide (a1 > 576460752303423488)), (by first | rfl | (simp; done) | (simp [*]; done)), H', ⟨by first | omega | exact Nat.le_refl _⟩, ⟨by repeat (first | (with_reducible first | exact HB.out | apply below_alloc | apply pw_below_drewN | apply below_drew1) | exact HB.out)⟩⟩
  ·replace c6 := Bool.eq_false_iff.mpr c6
   subst c6
   have H1 : (purflingref15_Fixed.j0 k l0 a1 true) = some (r1, r2) := by rw [if_neg (show ¬ (false = true) by decide)] at H; exact H
   clear H
   have H := H1
   clear H1
   have H' := Aside0.mk H
   clear H
   go_wp2
   go_meet
   case rel => exact ⟨_, (true), (by first | rfl | (simp; done) | (simp [*]; done)), H', ⟨by first | omega | exact Nat.le_refl _⟩, ⟨by repeat (first | (with_reducible first | exact HB.out | apply below_alloc | apply pw_below_drewN | apply below_drew1) | exact HB.out)⟩⟩
 case rest =>
  clear HC4
  try clear c2
  try clear p2
  try clear c5
  try clear c6
  try clear c7
  try clear c7b0
  try clear c7b1
  try clear c7b2
  try clear c8
  try clear c8b0
  obtain ⟨kq, x34_3, rfl, HA, HJ3, HB⟩ := hcut
  cases kq with
  | zero => exact absurd HA.out (by simp [purflingref15_Fixed.j0])
  | succ kj3 =>
   have H := HA.out
   clear HA
   simp only [purflingref15_Fixed.j0] at H
   by_cases c9 : x34_3 = true
   ·subst c9
    have H1 : (some (([] : List Int), 130)) = some (r1, r2) := by rw [if_pos rfl] at H; exact H
    clear H
    have H := H1
    clear H1
    simp only [Option.some.injEq, Prod.mk.injEq] at H
    obtain ⟨rfl, rfl⟩ := H
    go_wp2
    go_ret2
    exact ⟨_, by first | rfl | (simp [errW_none, errW_some] <;> rfl) | (simp [*, errW_none, errW_some] <;> rfl), by first | exact Kd.R_nil _ _ _ _ _ | exact Kd.N_nil _ _ _ _ _ | exact Kd.V_nil _ _ _ _ _ | exact Kd.Q_nil _ _ _ _ _ | exact Kd.S_nil _ _ _ _ _, by repeat (first | (with_reducible first | exact HB.out | apply below_alloc | apply pw_below_drewN | apply below_drew1) | exact HB.out)⟩
   ·replace c9 := Bool.eq_false_iff.mpr c9
    subst c9
    have H1 : (purflingref15_Fixed.l0 kj3 l0 a1 ([] : List Int) 0 0 0) = some (r1, r2) := by rw [if_neg (show ¬ (false = true) by decide)] at H; exact H
    clear H
    have H := H1
    clear H1
    have H' := Aside0.mk H
    clear H
    go_wp2
    go_loopg [7, 8, 9, 10] kj3 (fun kq v7 v8 v9 v10 w' => ∃ (x7_2 : List Int) (x8_2 : Int) (x9_2 : Int) (x10_2 : Int), v8 = .int .i64 x8_2 ∧ v9 = .int .i64 x9_2 ∧ v10 = .int .i64 x10_2 ∧ Aside0 (purflingref15_Fixed.l0 kq l0 a1 x7_2 x8_2 x9_2 x10_2 = some (r1, r2)) ∧ Aside0 (kq ≤ kj3) ∧ Aside0 (Kd.R (Kd.int .i64) 2 w' w.heap.size (fun _ => True) v7 x7_2) ∧ Aside0 (Below w.heap.size w w'))
    case atStart => exact ⟨(([] : List Int)), (0), (0), (0), (by first | rfl | (simp; done) | (simp [*]; done)), (by first | rfl | (simp; done) | (simp [*]; done)), (by first | rfl | (simp; done) | (simp [*]; done)), H', ⟨Nat.le_refl _⟩, ⟨by first | exact Kd.R_nil _ _ _ _ _ | exact Kd.N_nil _ _ _ _ _ | exact Kd.V_nil _ _ _ _ _ | exact Kd.Q_nil _ _ _ _ _ | exact Kd.S_nil _ _ _ _ _⟩, ⟨by repeat (first | (with_reducible first | exact HB.out | apply below_alloc | apply pw_below_drewN | apply below_drew1) | exact HB.out)⟩⟩
    case round =>
     clear H'
     try clear c2
     try clear p2
     try clear c5
     try clear c6
     try clear c7
     try clear c7b0
     try clear c7b1
     try clear c7b2
     try clear c8
     try clear c8b0
     try clear c9
     try clear p2
     obtain ⟨x7_2, x8_2, x9_2, x10_2, rfl, rfl, rfl, HA, HK2, HO_7, HB⟩ := hrel
     cases gk with
     | zero => exact absurd HA.out (by simp [purflingref15_Fixed.l0])
     | succ k2 =>
      have H := HA.out
      clear HA
      simp only [purflingref15_Fixed.l0] at H
      by_cases c10 : x10_2 < (l0.length : Int)
      ·rw [if_pos c10] at H
       have c10b0 : decide (x10_2 < (l0.length : Int)) = true := decide_eq_true c10
       clear c10
       by_cases c11 : 0 ≤ x10_2
       ·rw [if_pos c11] at H
        have c11b0 : decide (0 ≤ x10_2) = true := decide_eq_true c11
        clear c11
        by_cases c12 : ((rd_T39 l0 x10_2).f0) = 1
        ·rw [if_pos c12] at H
         have c12b0 : (((rd_T39 l0 x10_2).f0) == 1) = true := beq_iff_eq.mpr c12
         have c12b1 : (((rd_T39 l0 x10_2).f0) != 1) = false := bne_eq_false_iff_eq.mpr c12
         clear c12
         by_cases c13 : x7_2.length < 17592186044416
         ·rw [if_pos c13] at H
          have LMc13 := Aside0.mk c13
          clear c13
          obtain ⟨y503, hy503⟩ : ∃ y_ : List Int, y_ = (x7_2 ++ [(rd_T39 l0 x10_2).f1]) := ⟨_, rfl⟩
          replace H : ((purflingref01_Sum.f k2 x8_2 ((rd_T39 l0 x10_2).f1)).bind fun t506 => (purflingref15_Fixed.l0 k2 l0 a1 y503 t506 x9_2 (wrap64 (x10_2 + 1)))) = some (r1, r2) := by first | (rw [hy503]; with_reducible exact H) | (have H2_ := (Option.bind_some _ _).symm.trans H; rw [hy503]; with_reducible exact H2_) | (have H2_ := (Option.bind_some _ _).symm.trans H; with_reducible exact H2_) | with_reducible exact H | (rw [hy503]; exact H) | exact H
          have Ny503 := Aside0.mk hy503
          clear hy503
          replace H := Option.bind_eq_some_iff.mp H
          obtain ⟨t506, A140, H⟩ := H
          replace H : (purflingref15_Fixed.l0 k2 l0 a1 y503 t506 x9_2 (wrap64 (x10_2 + 1))) = some (r1, r2) := H
          have A14 := Aside0.mk A140
          clear A140
          have H' := Aside0.mk H
          clear H
          have p501 : 0 ≤ (x10_2 : Int) := of_decide_eq_true (by first | (with_reducible assumption) | assumption)
          have q501 : x10_2 < (l0.length : Int) := of_decide_eq_true (by first | (with_reducible assumption) | assumption)
          obtain ⟨ad501, e501, hx501_0, hx501_1⟩ := at_T39 HR0.out x10_2 p501 q501
          cases e501
          replace hx501_0 := (HB.out.cell (World.block_lt_of_cell? w _ hx501_0)).trans hx501_0
          replace hx501_1 := (HB.out.cell (World.block_lt_of_cell? w _ hx501_1)).trans hx501_1
          replace p501 := eq_true p501
          replace q501 := eq_true q501
          have p502 : 0 ≤ (x10_2 : Int) := of_decide_eq_true (by first | (with_reducible assumption) | assumption)
          have q502 : x10_2 < (l0.length : Int) := of_decide_eq_true (by first | (with_reducible assumption) | assumption)
          obtain ⟨ad502, e502, hx502_0, hx502_1⟩ := at_T39 HR0.out x10_2 p502 q502
          obtain rfl : ad501 = ad502 := (by injection e502)
          replace hx502_0 := (HB.out.cell (World.block_lt_of_cell? w _ hx502_0)).trans hx502_0
          replace hx502_1 := (HB.out.cell (World.block_lt_of_cell? w _ hx502_1)).trans hx502_1
          replace p502 := eq_true p502
          replace q502 := eq_true q502
          go_wp2_with (first | ((with_reducible refine gate_builtin (b := .append) (xs := #[.tmp 67, .tmp 69]) rfl ?_); (try (refine gate_guard (by rfl) ?_; dsimp only)); at_builtin; refine Kd.R_append (Kd.int .i64) (w0 := w) w.heap.size rfl (.tmp 67) (.tmp 69) 24 2 (.int .i64 0) 8 rfl Try.underlying24 info2 rfl (by decide) (by omega) u7 x7_2 ((rd_T39 l0 x10_2).f1) [.int .i64 ((rd_T39 l0 x10_2).f1)] (fun _ => True) (fun _ => False) rfl rfl ?aP (fun _ hk => hk.elim) ?aF ?aO ?aB ?aS ?aL ?_; (case aP => exact rfl); (case aB => exact (by repeat (first | (with_reducible first | exact HB.out | apply below_alloc | apply pw_below_drewN | apply below_drew1) | exact HB.out))); (case aF => exact (fun _ _ => trivial)); (case aO => exact (by (with_reducible repeat (first | apply Kd.R_alloc | apply Kd.R_drewN | apply Kd.R_drew)); exact HO_7.out)); (case aS => exact (below_size (by repeat (first | (with_reducible first | exact HB.out | apply below_alloc | apply pw_below_drewN | apply below_drew1) | exact HB.out)))); (case aL => have := LMc13.out; omega); intro v504 w15 ho hb hg hat; rw [← Ny503.out] at ho; have n0_ := Aside0.mk (hb); have n1_ := Aside0.mk (ho); clear HB; clear HO_7; have HB := n0_; have HO505 := n1_; clear n0_ n1_; clear ho hb hg hat) | ((with_reducible refine gate_callee (f := 43) rfl ?_); refine goesL_ (some 73) rfl rfl Try.func43 (by kernel_rfl) rfl #[.int .i64 x8_2, .int .i64 ((rd_T39 l0 x10_2).f1)] rfl (by (try simp only [List.map_toArray, List.map_cons, List.map_nil]); first | done | rfl | (simp only [List.length_drop, List.length_take]; rfl)) ?_; (with_reducible refine (purflingref01_Sum.calls k2 x8_2 ((rd_T39 l0 x10_2).f1) t506 _ A14.out).mono ?_); rintro e w' ⟨rfl, ⟨nd, rfl⟩⟩; refine ⟨_, rfl, ?_⟩))
          go_roundg k2
          case measure => have := HJ3.out; have := HK2.out; omega
          case rel => exact ⟨(y503), (t506), (x9_2), (wrap64 (x10_2 + 1)), (by first | rfl | (simp; done) | (simp [*]; done)), (by first | rfl | (simp; done) | (simp [*]; done)), (by first | rfl | (simp; done) | (simp [*]; done)), H', ⟨by have := HJ3.out; have := HK2.out; omega⟩, ⟨by (with_reducible repeat (first | apply Kd.R_alloc | apply Kd.R_drewN | apply Kd.R_drew)); exact HO505.out⟩, ⟨by repeat (first | (with_reducible first | exact HB.out | apply below_alloc | apply pw_below_drewN | apply below_drew1) | exact HB.out)⟩⟩
         ·rw [if_neg c13] at H
          exact absurd H (by simp)
        ·rw [if_neg c12] at H
         have c12b0 : (((rd_T39 l0 x10_2).f0) == 1) = false := beq_eq_false_iff_ne.mpr c12
         have c12b1 : (((rd_T39 l0 x10_2).f0) != 1) = true := bne_iff_ne.mpr c12
         by_cases c16 : ((rd_T39 l0 x10_2).f0) = 2
         ·rw [if_pos c16] at H
          have c16b0 : (((rd_T39 l0 x10_2).f0) == 2) = true := beq_iff_eq.mpr c16
          have c16b1 : (((rd_T39 l0 x10_2).f0) != 2) = false := bne_eq_false_iff_eq.mpr c16
          clear c16
          replace H := Option.bind_eq_some_iff.mp H
          obtain ⟨t509, A170, H⟩ := H
          replace H : (if x7_2.length < 17592186044416 then ((purflingref01_Sum.f k2 x8_2 t509).bind fun t513 => (purflingref15_Fixed.l0 k2 l0 a1 (x7_2 ++ [t509]) t513 x9_2 (wrap64 (x10_2 + 1)))) else (none)) = some (r1, r2) := H
          have A17 := Aside0.mk A170
          clear A170
          by_cases c18 : x7_2.length < 17592186044416
          ·rw [if_pos c18] at H
           have LMc18 := Aside0.mk c18
           clear c18
           obtain ⟨y510, hy510⟩ : ∃ y_ : List Int, y_ = (x7_2 ++ [t509]) := ⟨_, rfl⟩
           replace H : ((purflingref01_Sum.f k2 x8_2 t509).bind fun t513 => (purflingref15_Fixed.l0 k2 l0 a1 y510 t513 x9_2 (wrap64 (x10_2 + 1)))) = some (r1, r2) := by first | (rw [hy510]; with_reducible exact H) | (have H2_ := (Option.bind_some _ _).symm.trans H; rw [hy510]; with_reducible exact H2_) | (have H2_ := (Option.bind_some _ _).symm.trans H; with_reducible exact H2_) | with_reducible exact H | (rw [hy510]; exact H) | exact H
           have Ny510 := Aside0.mk hy510
           clear hy510
           replace H := Option.bind_eq_some_iff.mp H
           obtain ⟨t513, A190, H⟩ := H
           replace H : (purflingref15_Fixed.l0 k2 l0 a1 y510 t513 x9_2 (wrap64 (x10_2 + 1))) = some (r1, r2) := H
           have A19 := Aside0.mk A190
           clear A190
           have H' := Aside0.mk H
           clear H
           have p501 : 0 ≤ (x10_2 : Int) := of_decide_eq_true (by first | (with_reducible assumption) | assumption)
           have q501 : x10_2 < (l0.length : Int) := of_decide_eq_true (by first | (with_reducible assumption) | assumption)
           obtain ⟨ad501, e501, hx501_0, hx501_1⟩ := at_T39 HR0.out x10_2 p501 q501
           cases e501
           replace hx501_0 := (HB.out.cell (World.block_lt_of_cell? w _ hx501_0)).trans hx501_0
           replace hx501_1 := (HB.out.cell (World.block_lt_of_cell? w _ hx501_1)).trans hx501_1
           replace p501 := eq_true p501
           replace q501 := eq_true q501
           have p507 : 0 ≤ (x10_2 : Int) := of_decide_eq_true (by first | (with_reducible assumption) | assumption)
           have q507 : x10_2 < (l0.length : Int) := of_decide_eq_true (by first | (with_reducible assumption) | assumption)
           obtain ⟨ad507, e507, hx507_0, hx507_1⟩ := at_T39 HR0.out x10_2 p507 q507
           obtain rfl : ad501 = ad507 := (by injection e507)
           replace hx507_0 := (HB.out.cell (World.block_lt_of_cell? w _ hx507_0)).trans hx507_0
           replace hx507_1 := (HB.out.cell (World.block_lt_of_cell? w _ hx507_1)).trans hx507_1
           replace p507 := eq_true p507
           replace q507 := eq_true q507
           have p508 : 0 ≤ (x10_2 : Int) := of_decide_eq_true (by first | (with_reducible assumption) | assumption)
           have q508 : x10_2 < (l0.length : Int) := of_decide_eq_true (by first | (with_reducible assumption) | assumption)
           obtain ⟨ad508, e508, hx508_0, hx508_1⟩ := at_T39 HR0.out x10_2 p508 q508
           obtain rfl : ad501 = ad508 := (by injection e508)
           replace hx508_0 := (HB.out.cell (World.block_lt_of_cell? w _ hx508_0)).trans hx508_0
           replace hx508_1 := (HB.out.cell (World.block_lt_of_cell? w _ hx508_1)).trans hx508_1
           replace p508 := eq_true p508
           replace q508 := eq_true q508
           go_wp2_with (first | ((with_reducible refine gate_callee (f := 54) rfl ?_); refine goesL_ (some 64) rfl rfl Try.func54 (by kernel_rfl) rfl #[.int .i64 ((rd_T39 l0 x10_2).f1), .int .i64 a1] rfl (by (try simp only [List.map_toArray, List.map_cons, List.map_nil]); first | done | rfl | (simp only [List.length_drop, List.length_take]; rfl)) ?_; (with_reducible refine (purflingref01_Part.calls k2 ((rd_T39 l0 x10_2).f1) a1 t509 _ A17.out).mono ?_); rintro e w' ⟨rfl, ⟨nd, rfl⟩⟩; refine ⟨_, rfl, ?_⟩) | ((with_reducible refine gate_builtin (b := .append) (xs := #[.tmp 67, .tmp 69]) rfl ?_); (try (refine gate_guard (by rfl) ?_; dsimp only)); at_builtin; refine Kd.R_append (Kd.int .i64) (w0 := w) w.heap.size rfl (.tmp 67) (.tmp 69) 24 2 (.int .i64 0) 8 rfl Try.underlying24 info2 rfl (by decide) (by omega) u7 x7_2 t509 [.int .i64 t509] (fun _ => True) (fun _ => False) rfl rfl ?aP (fun _ hk => hk.elim) ?aF ?aO ?aB ?aS ?aL ?_; (case aP => exact rfl); (case aB => exact (by repeat (first | (with_reducible first | exact HB.out | apply below_alloc | apply pw_below_drewN | apply below_drew1) | exact HB.out))); (case aF => exact (fun _ _ => trivial)); (case aO => exact (by (with_reducible repeat (first | apply Kd.R_alloc | apply Kd.R_drewN | apply Kd.R_drew)); exact HO_7.out)); (case aS => exact (below_size (by repeat (first | (with_reducible first | exact HB.out | apply below_alloc | apply pw_below_drewN | apply below_drew1) | exact HB.out)))); (case aL => have := LMc18.out; omega); intro v511 w20 ho hb hg hat; rw [← Ny510.out] at ho; have n0_ := Aside0.mk (hb); have n1_ := Aside0.mk (ho); clear HB; clear HO_7; have HB := n0_; have HO512 := n1_; clear n0_ n1_; clear ho hb hg hat) | ((with_reducible refine gate_callee (f := 43) rfl ?_); refine goesL_ (some 73) rfl rfl Try.func43 (by kernel_rfl) rfl #[.int .i64 x8_2, .int .i64 t509] rfl (by (try simp only [List.map_toArray, List.map_cons, List.map_nil]); first | done | rfl | (simp only [List.length_drop, List.length_take]; rfl)) ?_; (with_reducible refine (purflingref01_Sum.calls k2 x8_2 t509 t513 _ A19.out).mono ?_); rintro e w' ⟨rfl, ⟨nd, rfl⟩⟩; refine ⟨_, rfl, ?_⟩))
           go_roundg k2
           case measure => have := HJ3.out; have := HK2.out; omega
           case rel => exact ⟨(y510), (t513), (x9_2), (wrap64 (x10_2 + 1)), (by first | rfl | (simp; done) | (simp [*]; done)), (by first | rfl | (simp; done) | (simp [*]; done)), (by first | rfl | (simp; done) | (simp [*]; done)), H', ⟨by have := HJ3.out; have := HK2.out; omega⟩, ⟨by (with_reducible repeat (first | apply Kd.R_alloc | apply Kd.R_drewN | apply Kd.R_drew)); exact HO512.out⟩, ⟨by repeat (first | (with_reducible first | exact HB.out | apply below_alloc | apply pw_below_drewN | apply below_drew1) | exact HB.out)⟩⟩
          ·rw [if_neg c18] at H
           exact absurd H (by simp)
         ·rw [if_neg c16] at H
          have c16b0 : (((rd_T39 l0 x10_2).f0) == 2) = false := beq_eq_false_iff_ne.mpr c16
          have c16b1 : (((rd_T39 l0 x10_2).f0) != 2) = true := bne_iff_ne.mpr c16
          by_cases c21 : x7_2.length < 17592186044416
          ·rw [if_pos c21] at H
           have LMc21 := Aside0.mk c21
           clear c21
           obtain ⟨y514, hy514⟩ : ∃ y_ : List Int, y_ = (x7_2 ++ [0]) := ⟨_, rfl⟩
           replace H : ((purflingref01_Sum.f k2 x8_2 0).bind fun t517 => (purflingref15_Fixed.l0 k2 l0 a1 y514 t517 (wrap64 (x9_2 + 1)) (wrap64 (x10_2 + 1)))) = some (r1, r2) := by first | (rw [hy514]; with_reducible exact H) | (have H2_ := (Option.bind_some _ _).symm.trans H; rw [hy514]; with_reducible exact H2_) | (have H2_ := (Option.bind_some _ _).symm.trans H; with_reducible exact H2_) | with_reducible exact H | (rw [hy514]; exact H) | exact H
           have Ny514 := Aside0.mk hy514
           clear hy514
           replace H := Option.bind_eq_some_iff.mp H
           obtain ⟨t517, A220, H⟩ := H
           replace H : (purflingref15_Fixed.l0 k2 l0 a1 y514 t517 (wrap64 (x9_2 + 1)) (wrap64 (x10_2 + 1))) = some (r1, r2) := H
           have A22 := Aside0.mk A220
           clear A220
           have H' := Aside0.mk H
           clear H
           have p501 : 0 ≤ (x10_2 : Int) := of_decide_eq_true (by first | (with_reducible assumption) | assumption)
           have q501 : x10_2 < (l0.length : Int) := of_decide_eq_true (by first | (with_reducible assumption) | assumption)
           obtain ⟨ad501, e501, hx501_0, hx501_1⟩ := at_T39 HR0.out x10_2 p501 q501
           cases e501
           replace hx501_0 := (HB.out.cell (World.block_lt_of_cell? w _ hx501_0)).trans hx501_0
           replace hx501_1 := (HB.out.cell (World.block_lt_of_cell? w _ hx501_1)).trans hx501_1
           replace p501 := eq_true p501
           replace q501 := eq_true q501
           have p507 : 0 ≤ (x10_2 : Int) := of_decide_eq_true (by first | (with_reducible assumption) | assumption)
           have q507 : x10_2 < (l0.length : Int) := of_decide_eq_true (by first | (with_reducible assumption) | assumption)
           obtain ⟨ad507, e507, hx507_0, hx507_1⟩ := at_T39 HR0.out x10_2 p507 q507
           obtain rfl : ad501 = ad507 := (by injection e507)
           replace hx507_0 := (HB.out.cell (World.block_lt_of_cell? w _ hx507_0)).trans hx507_0
           replace hx507_1 := (HB.out.cell (World.block_lt_of_cell? w _ hx507_1)).trans hx507_1
           replace p507 := eq_true p507
           replace q507 := eq_true q507
           go_wp2_with (first | ((with_reducible refine gate_builtin (b := .append) (xs := #[.tmp 67, .tmp 69]) rfl ?_); (try (refine gate_guard (by rfl) ?_; dsimp only)); at_builtin; refine Kd.R_append (Kd.int .i64) (w0 := w) w.heap.size rfl (.tmp 67) (.tmp 69) 24 2 (.int .i64 0) 8 rfl Try.underlying24 info2 rfl (by decide) (by omega) u7 x7_2 0 [.int .i64 0] (fun _ => True) (fun _ => False) rfl rfl ?aP (fun _ hk => hk.elim) ?aF ?aO ?aB ?aS ?aL ?_; (case aP => exact rfl); (case aB => exact (by repeat (first | (with_reducible first | exact HB.out | apply below_alloc | apply pw_below_drewN | apply below_drew1) | exact HB.out))); (case aF => exact (fun _ _ => trivial)); (case aO => exact (by (with_reducible repeat (first | apply Kd.R_alloc | apply Kd.R_drewN | apply Kd.R_drew)); exact HO_7.out)); (case aS => exact (below_size (by repeat (first | (with_reducible first | exact HB.out | apply below_alloc | apply pw_below_drewN | apply below_drew1) | exact HB.out)))); (case aL => have := LMc21.out; omega); intro v515 w23 ho hb hg hat; rw [← Ny514.out] at ho; have n0_ := Aside0.mk (hb); have n1_ := Aside0.mk (ho); clear HB; clear HO_7; have HB := n0_; have HO516 := n1_; clear n0_ n1_; clear ho hb hg hat) | ((with_reducible refine gate_callee (f := 43) rfl ?_); refine goesL_ (some 73) rfl rfl Try.func43 (by kernel_rfl) rfl #[.int .i64 x8_2, .int .i64 0] rfl (by (try simp only [List.map_toArray, List.map_cons, List.map_nil]); first | done | rfl | (simp only [List.length_drop, List.length_take]; rfl)) ?_; (with_reducible refine (purflingref01_Sum.calls k2 x8_2 0 t517 _ A22.out).mono ?_); rintro e w' ⟨rfl, ⟨nd, rfl⟩⟩; refine ⟨_, rfl, ?_⟩))
           go_roundg k2
           case measure => have := HJ3.out; have := HK2.out; omega
           case rel => exact ⟨(y514), (t517), (wrap64 (x9_2 + 1)), (wrap64 (x10_2 + 1)), (by first | rfl | (simp; done) | (simp [*]; done)), (by first | rfl | (simp; done) | (simp [*]; done)), (by first | rfl | (simp; done) | (simp [*]; done)), H', ⟨by have := HJ3.out; have := HK2.out; omega⟩, ⟨by (with_reducible repeat (first | apply Kd.R_alloc | apply Kd.R_drewN | apply Kd.R_drew)); exact HO516.out⟩, ⟨by repeat (first | (with_reducible first | exact HB.out | apply below_alloc | apply pw_below_drewN | apply below_drew1) | exact HB.out)⟩⟩
          ·rw [if_neg c21] at H
           exact absurd H (by simp)
       ·rw [if_neg c11] at H
        exact absurd H (by simp)
      ·rw [if_neg c10] at H
       have c10b0 : decide (x10_2 < (l0.length : Int)) = false := decide_eq_false c10
       clear c10
       obtain ⟨ji24, hji24⟩ : ∃ j_ : Int, (mx 0 (wrap64 (a1 - x8_2))) = j_ := ⟨_, rfl⟩
       replace H : (if x9_2 = 0 then (purflingref15_Fixed.j2 k2 l0 x7_2 x9_2 ji24 (l0.length : Int)) else (purflingref15_Fixed.j2 k2 l0 x7_2 x9_2 ji24 x9_2)) = some (r1, r2) := by first | (rw [hji24] at H; exact H) | (simp only [hji24] at H ⊢; exact H)
       have hji24_ : (if 0 < (wrap64 (a1 - x8_2)) then (wrap64 (a1 - x8_2)) else 0) = ji24 := hji24
       have HC25 := Aside0.mk H
       clear H
       go_upto_if 80 with (fail)
       go_cut [13] (fun v13 wc => ∃ (kq : Nat) (x13_24 : Int), v13 = .int .i64 x13_24 ∧ Aside0 (purflingref15_Fixed.j2 kq l0 x7_2 x9_2 ji24 x13_24 = some (r1, r2)) ∧ Aside0 (kq ≤ k2) ∧ Aside0 (Kd.R (Kd.int .i64) 2 wc w.heap.size (fun _ => True) u7 x7_2) ∧ Aside0 (Below w.heap.size w wc))
       case first =>
        have H := HC25.out
        clear HC25
        by_cases c26 : x9_2 = 0
        ·rw [if_pos c26] at H
         have c26b0 : (x9_2 == 0) = true := beq_iff_eq.mpr c26
         have c26b1 : (x9_2 != 0) = false := bne_eq_false_iff_eq.mpr c26
         clear c26
         (first | rw [c26b0] | (simp only [i64_w, i32_w]; rw [c26b0]) | skip)
         have H' := Aside0.mk H
         clear H
         go_wp2
         go_meet
         case rel => exact ⟨_, ((l0.length : Int)), (by first | rfl | (simp; done) | (simp [*]; done)), H', ⟨by have := HJ3.out; have := HK2.out; first | omega | exact Nat.le_refl _⟩, ⟨by (with_reducible repeat (first | apply Kd.R_alloc | apply Kd.R_drewN | apply Kd.R_drew)); exact HO_7.out⟩, ⟨by repeat (first | (with_reducible first | exact HB.out | apply below_alloc | apply pw_below_drewN | apply below_drew1) | exact HB.out)⟩⟩
        ·rw [if_neg c26] at H
         have c26b0 : (x9_2 == 0) = false := beq_eq_false_iff_ne.mpr c26
         have c26b1 : (x9_2 != 0) = true := bne_iff_ne.mpr c26
         (first | rw [c26b0] | (simp only [i64_w, i32_w]; rw [c26b0]) | skip)
         have H' := Aside0.mk H
         clear H
         go_wp2
         go_meet
         case rel => exact ⟨_, (x9_2), (by first | rfl | (simp; done) | (simp [*]; done)), H', ⟨by have := HJ3.out; have := HK2.out; first | omega | exact Nat.le_refl _⟩, ⟨by (with_reducible repeat (first | apply Kd.R_alloc | apply Kd.R_drewN | apply Kd.R_drew)); exact HO_7.out⟩, ⟨by repeat (first | (with_reducible first | exact HB.out | apply below_alloc | apply pw_below_drewN | apply below_drew1) | exact HB.out)⟩⟩
       case rest =>
        clear HC25
        try clear c1
        try clear c2
        try clear p2
        try clear c4
        try clear c5
        try clear p5
        try clear q5
        try clear hx5
        try clear c6
        try clear p6
        try clear c7
        try clear c7b0
        try clear c7b1
        try clear c7b2
        try clear c8
        try clear c8b0
        try clear c9
        try clear c10
        try clear c10b0
        try clear c11
        try clear c11b0
        try clear c12
        try clear c12b0
        try clear c12b1
        try clear c13
        try clear c16
        try clear c16b0
        try clear c16b1
        try clear c18
        try clear c21
        try clear c26
        try clear c26b0
        try clear c26b1
        try clear hx501_0
        try clear hx501_1
        try clear hx502_0
        try clear hx502_1
        try clear hx507_0
        try clear hx507_1
        try clear hx508_0
        try clear hx508_1
        try clear p2
        try clear p501
        try clear p502
        try clear p507
        try clear p508
        try clear q501
        try clear q502
        try clear q507
        try clear q508
        obtain ⟨kq, x13_24, rfl, HA, HJ24, HO_7, HB⟩ := hcut
        cases kq with
        | zero => exact absurd HA.out (by simp [purflingref15_Fixed.j2])
        | succ kj24 =>
         have H := HA.out
         clear HA
         simp only [purflingref15_Fixed.j2] at H
         replace H := Option.bind_eq_some_iff.mp H
         obtain ⟨⟨t518, t519⟩, A270, H⟩ := H
         replace H : (purflingref15_Fixed.l1 kj24 l0 x7_2 x9_2 t518 0 0) = some (r1, r2) := H
         have A27 := Aside0.mk A270
         clear A270
         have H' := Aside0.mk H
         clear H
         go_wp2_with (first | ((with_reducible refine gate_callee (f := 55) rfl ?_); refine goesL_ (some 86) rfl rfl Try.func55 (by kernel_rfl) rfl #[.int .i64 ji24, .int .i64 x13_24] rfl (by (try simp only [List.map_toArray, List.map_cons, List.map_nil]); first | done | (simp only [hji24]; rfl) | rfl | (simp only [List.length_drop, List.length_take]; rfl)) ?_; (with_reducible refine (purflingref01_Even.calls kj24 ji24 x13_24 t518 t519 _ A27.out).mono ?_); rintro e w28 ⟨v520, rfl, ho0, hb⟩; refine ⟨_, rfl, ?_⟩; have n0_ := Aside0.mk (Kd.R_elder' (by (with_reducible repeat (first | apply Kd.R_alloc | apply Kd.R_drewN | apply Kd.R_drew)); exact HO_7.out) (Kd.R_base ho0) hb); have n1_ := Aside0.mk (Kd.R_lower (Kd.R_new' ho0 (Kd.R_lt (by (with_reducible repeat (first | apply Kd.R_alloc | apply Kd.R_drewN | apply Kd.R_drew)); exact HO_7.out))) (below_size (by repeat (first | (with_reducible first | exact HB.out | apply below_alloc | apply pw_below_drewN | apply below_drew1) | exact HB.out)))); have n2_ := Aside0.mk (below_step (by repeat (first | (with_reducible first | exact HB.out | apply below_alloc | apply pw_below_drewN | apply below_drew1) | exact HB.out)) hb); clear HO_7; clear HB; have HO_7 := n0_; have HO521 := n1_; have HB := n2_; clear n0_ n1_ n2_; (try clear hb); (try clear hb2); (try clear hk); (try clear hi); (try clear ho0)))
         go_loopg [16, 17] kj24 (fun kq v16 v17 w' => ∃ (x7_4 : List Int) (x16_4 : Int) (x17_4 : Int), v16 = .int .i64 x16_4 ∧ v17 = .int .i64 x17_4 ∧ Aside0 (purflingref15_Fixed.l1 kq l0 x7_4 x9_2 t518 x16_4 x17_4 = some (r1, r2)) ∧ Aside0 (kq ≤ kj24) ∧ Aside0 (Kd.R (Kd.int .i64) 2 w' w.heap.size (fun k_ => some k_ ≠ (v520 : Value).ownBlock) u7 x7_4) ∧ Aside0 (Kd.R (Kd.int .i64) 2 w' w.heap.size (fun k_ => some k_ ≠ (u7 : Value).ownBlock) v520 t518) ∧ Aside0 (Below w.heap.size w w'))
         case atStart => exact ⟨(x7_2), (0), (0), (by first | rfl | (simp; done) | (simp [*]; done)), (by first | rfl | (simp; done) | (simp [*]; done)), H', ⟨Nat.le_refl _⟩, ⟨by (with_reducible repeat (first | apply Kd.R_alloc | apply Kd.R_drewN | apply Kd.R_drew)); exact Kd.R_mono HO_7.out (fun _ hk => hk.2)⟩, ⟨by (with_reducible repeat (first | apply Kd.R_alloc | apply Kd.R_drewN | apply Kd.R_drew)); exact Kd.R_mono HO521.out (fun _ hk => hk.2)⟩, ⟨by repeat (first | (with_reducible first | exact HB.out | apply below_alloc | apply pw_below_drewN | apply below_drew1) | exact HB.out)⟩⟩
         case round =>
          clear H'
          try clear c1
          try clear c2
          try clear p2
          try clear c4
          try clear c5
          try clear p5
          try clear q5
          try clear hx5
          try clear c6
          try clear p6
          try clear c7
          try clear c7b0
          try clear c7b1
          try clear c7b2
          try clear c8
          try clear c8b0
          try clear c9
          try clear c10
          try clear c10b0
          try clear c11
          try clear c11b0
          try clear c12
          try clear c12b0
          try clear c12b1
          try clear c13
          try clear c16
          try clear c16b0
          try clear c16b1
          try clear c18
          try clear c21
          try clear c26
          try clear c26b0
          try clear c26b1
          try clear hx501_0
          try clear hx501_1
          try clear hx502_0
          try clear hx502_1
          try clear hx507_0
          try clear hx507_1
          try clear hx508_0
          try clear hx508_1
          try clear p2
          try clear p5
          try clear p501
          try clear p502
          try clear p507
          try clear p508
          try clear p6
          try clear q5
          try clear q501
          try clear q502
          try clear q507
          try clear q508
          obtain ⟨x7_4, x16_4, x17_4, rfl, rfl, HA, HK4, HO_7, HO_14, HB⟩ := hrel
          cases gk with
          | zero => exact absurd HA.out (by simp [purflingref15_Fixed.l1])
          | succ k4 =>
           have H := HA.out
           clear HA
           simp only [purflingref15_Fixed.l1] at H
           by_cases c29 : x17_4 < (l0.length : Int)
           ·rw [if_pos c29] at H
            have c29b0 : decide (x17_4 < (l0.length : Int)) = true := decide_eq_true c29
            clear c29
            by_cases c30 : x9_2 = 0
            ·rw [if_pos c30] at H
             have c30b0 : (x9_2 == 0) = true := beq_iff_eq.mpr c30
             have c30b1 : (x9_2 != 0) = false := bne_eq_false_iff_eq.mpr c30
             clear c30
             by_cases c31 : 0 ≤ x17_4
             ·rw [if_pos c31] at H
              have c31b0 : decide (0 ≤ x17_4) = true := decide_eq_true c31
              clear c31
              by_cases c32 : x17_4 < (x7_4.length : Int)
              ·rw [if_pos c32] at H
               have c32b0 : decide (x17_4 < (x7_4.length : Int)) = true := decide_eq_true c32
               clear c32
               by_cases c33 : 0 ≤ x16_4
               ·rw [if_pos c33] at H
                have c33b0 : decide (0 ≤ x16_4) = true := decide_eq_true c33
                clear c33
                by_cases c34 : x16_4 < (t518.length : Int)
                ·rw [if_pos c34] at H
                 have c34b0 : decide (x16_4 < (t518.length : Int)) = true := decide_eq_true c34
                 clear c34
                 replace H := Option.bind_eq_some_iff.mp H
                 obtain ⟨t524, A350, H⟩ := H
                 replace H : (purflingref15_Fixed.l1 k4 l0 (x7_4.set (x17_4 : Int).toNat t524) x9_2 t518 (wrap64 (x16_4 + 1)) (wrap64 (x17_4 + 1))) = some (r1, r2) := H
                 have A35 := Aside0.mk A350
                 clear A350
                 obtain ⟨y525, hy525⟩ : ∃ y_ : List Int, y_ = (x7_4.set (x17_4 : Int).toNat t524) := ⟨_, rfl⟩
                 replace H : (purflingref15_Fixed.l1 k4 l0 y525 x9_2 t518 (wrap64 (x16_4 + 1)) (wrap64 (x17_4 + 1))) = some (r1, r2) := by first | (rw [hy525]; with_reducible exact H) | (have H2_ := (Option.bind_some _ _).symm.trans H; rw [hy525]; with_reducible exact H2_) | (have H2_ := (Option.bind_some _ _).symm.trans H; with_reducible exact H2_) | with_reducible exact H | (rw [hy525]; exact H) | exact H
                 have Ny525 := Aside0.mk hy525
                 clear hy525
                 have H' := Aside0.mk H
                 clear H
                 try go_wp2
                 have n0_ := Aside0.mk (Kd.R_drew HO_7.out)
                 have n1_ := Aside0.mk (Kd.R_drew HO_14.out)
                 have n2_ := Aside0.mk (below_drew1 HB.out)
                 clear HO_7
                 clear HO_14
                 clear HB
                 have HO_7 := n0_
                 have HO_14 := n1_
                 have HB := n2_
                 clear n0_ n1_ n2_
                 obtain ⟨Ao38, co38, eo38⟩ := Kd.R_slice HO_7.out
                 (first | subst eo38 | (injection eo38 with f1_ f2_ f3_; have f4_ := f1_.symm; have f5_ := f3_.symm; clear f1_ f2_ f3_; subst f4_; subst f5_))
                 have p522 : 0 ≤ (x17_4 : Int) := of_decide_eq_true (by first | (with_reducible assumption) | assumption)
                 have q522 : x17_4 < (x7_4.length : Int) := of_decide_eq_true (by first | (with_reducible assumption) | assumption)
                 obtain ⟨ad522, e522, hx522_0⟩ := Kd.at_int (Kd.R_reads' HO_7.out).2.2 x17_4 p522 q522
                 cases e522
                 replace p522 := eq_true p522
                 replace q522 := eq_true q522
                 obtain ⟨Ao39, co39, eo39⟩ := Kd.R_slice HO_14.out
                 (first | subst eo39 | (injection eo39 with f1_ f2_ f3_; have f4_ := f1_.symm; have f5_ := f3_.symm; clear f1_ f2_ f3_; subst f4_; subst f5_))
                 have p523 : 0 ≤ (x16_4 : Int) := of_decide_eq_true (by first | (with_reducible assumption) | assumption)
                 have q523 : x16_4 < (t518.length : Int) := of_decide_eq_true (by first | (with_reducible assumption) | assumption)
                 obtain ⟨ad523, e523, hx523_0⟩ := Kd.at_int (Kd.R_reads' HO_14.out).2.2 x16_4 p523 q523
                 cases e523
                 replace p523 := eq_true p523
                 replace q523 := eq_true q523
                 refine start_ (n := 13) (S := fun w' => w'.cell? (ad522.add (x17_4).toNat) = some (.int .i64 (rd x7_4 x17_4)) ∧ w'.cell? (ad523.add (x16_4).toNat) = some (.int .i64 (rd t518 x16_4))) (ds := [12]) #[false, false, false, false, false, false, false, false, false, false, false, false, false] (by kernel_rfl) rfl rfl ⟨hx522_0, hx523_0⟩ (fun hHeld => ?_); refine with_tabW purflingref15_Fixed.tab28 purflingref15_Fixed.bits28 (fun HT_ HW_ => ?_)
                 generalize wr.drew = w37 at HO_7 HO_14 HB hx522_0 hx523_0 hHeld ⊢
                 refine pure_ (i := 0) (N := some 105) (v := ?_) (a' := ?_) #[true, false, false, false, false, false, false, false, false, false, false, false, false] rfl rfl (any_of HT_.out (by kernel_rfl)) (fun _ _ _ h => h) (Or.inl ⟨by rfl, ?_⟩) ?_ ?_
                 rotate_left
                 ·intro w'
                  go_simp
                  with_reducible rfl
                 rotate_left
                 ·simp only [Act.put, List.setIfInBounds_toArray, List.set_cons_zero, List.set_cons_succ, i64_w, i32_w]
                  rfl
                 refine pure_ (i := 1) (N := some 106) (v := ?_) (a' := ?_) #[true, true, false, false, false, false, false, false, false, false, false, false, false] rfl rfl (any_of HT_.out (by kernel_rfl)) (fun _ _ _ h => h) (Or.inl ⟨by rfl, ?_⟩) ?_ ?_
                 rotate_left
                 ·intro w'
                  go_simp
                  with_reducible rfl
                 rotate_left
                 ·simp only [Act.put, List.setIfInBounds_toArray, List.set_cons_zero, List.set_cons_succ, i64_w, i32_w]
                  rfl
                 refine pure_ (i := 2) (N := some 107) (v := ?_) (a' := ?_) #[true, true, true, false, false, false, false, false, false, false, false, false, false] rfl rfl (any_of HT_.out (by kernel_rfl)) (fun _ _ _ h => h) (Or.inl ⟨by rfl, ?_⟩) ?_ ?_
                 rotate_left
                 ·intro w'
                  go_simp
                  with_reducible rfl
                 rotate_left
                 ·simp only [Act.put, List.setIfInBounds_toArray, List.set_cons_zero, List.set_cons_succ, i64_w, i32_w]
                  rfl
                 refine pure_ (i := 3) (N := some 108) (v := ?_) (a' := ?_) #[true, true, true, true, false, false, false, false, false, false, false, false, false] rfl rfl (any_of HT_.out (by kernel_rfl)) (fun _ _ _ h => h) (Or.inl ⟨by rfl, ?_⟩) ?_ ?_
                 rotate_left
                 ·intro w'
                  go_simp
                  with_reducible rfl
                 rotate_left
                 ·simp only [Act.put, List.setIfInBounds_toArray, List.set_cons_zero, List.set_cons_succ, i64_w, i32_w]
                  rfl
                 refine pure_ (i := 4) (N := some 109) (v := ?_) (a' := ?_) #[true, true, true, true, true, false, false, false, false, false, false, false, false] rfl rfl (any_of HT_.out (by kernel_rfl)) (fun _ _ _ h => h) (Or.inl ⟨by rfl, ?_⟩) ?_ ?_
                 rotate_left
                 ·intro w'
                  go_simp
                  with_reducible rfl
                 rotate_left
                 ·simp only [Act.put, List.setIfInBounds_toArray, List.set_cons_zero, List.set_cons_succ, i64_w, i32_w]
                  rfl
                 refine pure_ (i := 6) (N := some 111) (v := ?_) (a' := ?_) #[true, true, true, true, true, false, true, false, false, false, false, false, false] rfl rfl (any_of HT_.out (by kernel_rfl)) (fun _ _ _ h => h) (Or.inl ⟨by rfl, ?_⟩) ?_ ?_
                 rotate_left
                 ·intro w'
                  go_simp
                  with_reducible rfl
                 rotate_left
                 ·simp only [Act.put, List.setIfInBounds_toArray, List.set_cons_zero, List.set_cons_succ, i64_w, i32_w]
                  rfl
                 refine pure_ (i := 7) (N := some 112) (v := ?_) (a' := ?_) #[true, true, true, true, true, false, true, true, false, false, false, false, false] rfl rfl (any_of HT_.out (by kernel_rfl)) (fun _ _ _ h => h) (Or.inl ⟨by rfl, ?_⟩) ?_ ?_
                 rotate_left
                 ·intro w'
                  go_simp
                  with_reducible rfl
                 rotate_left
                 ·simp only [Act.put, List.setIfInBounds_toArray, List.set_cons_zero, List.set_cons_succ, i64_w, i32_w]
                  rfl
                 refine pure_ (i := 8) (N := some 113) (v := ?_) (a' := ?_) #[true, true, true, true, true, false, true, true, true, false, false, false, false] rfl rfl (any_of HT_.out (by kernel_rfl)) (fun _ _ _ h => h) (Or.inl ⟨by rfl, ?_⟩) ?_ ?_
                 rotate_left
                 ·intro w'
                  go_simp
                  with_reducible rfl
                 rotate_left
                 ·simp only [Act.put, List.setIfInBounds_toArray, List.set_cons_zero, List.set_cons_succ, i64_w, i32_w]
                  rfl
                 refine take_ (i := 5) (N := some 110) (v := ?_) (a' := ?_) #[true, true, true, true, true, true, true, true, true, false, false, false, false] rfl rfl (take_ofW HT_.out HW_.out (by kernel_rfl)) (fun _ _ _ h => h) (Or.inl ⟨by rfl, ?_⟩) hHeld ?_ ?_
                 rotate_left
                 ·rintro w' ⟨s0, s1⟩
                  go_simp
                  with_reducible rfl
                 rotate_left
                 ·simp only [Act.put, List.setIfInBounds_toArray, List.set_cons_zero, List.set_cons_succ, i64_w, i32_w]
                  rfl
                 refine take_ (i := 9) (N := some 114) (v := ?_) (a' := ?_) #[true, true, true, true, true, true, true, true, true, true, false, false, false] rfl rfl (take_ofW HT_.out HW_.out (by kernel_rfl)) (fun _ _ _ h => h) (Or.inl ⟨by rfl, ?_⟩) hHeld ?_ ?_
                 rotate_left
                 ·rintro w' ⟨s0, s1⟩
                  go_simp
                  with_reducible rfl
                 rotate_left
                 ·simp only [Act.put, List.setIfInBounds_toArray, List.set_cons_zero, List.set_cons_succ, i64_w, i32_w]
                  rfl
                 refine one_ (i := 10) (N := some 115) #[true, true, true, true, true, true, true, true, true, true, true, false, false] rfl rfl (one_of HT_.out (by kernel_rfl)) (by decide) (fun K hK => ?_)
                 refine goes_ Try.func43 (by kernel_rfl) rfl #[.int .i64 (rd x7_4 x17_4), .int .i64 (rd t518 x16_4)] (by rfl) rfl rfl (by (try simp only [List.map_toArray, List.map_cons, List.map_nil]); first | done | rfl | (simp only [List.length_drop, List.length_take]; rfl)) ?_
                 with_reducible refine (purflingref01_Sum.calls k4 (rd x7_4 x17_4) (rd t518 x16_4) t524 _ A35.out).mono ?_
                 rintro e w' ⟨rfl, ⟨nd, rfl⟩⟩
                 refine ⟨_, rfl, ?_⟩
                 have p36 : 0 ≤ (x17_4 : Int) := of_decide_eq_true (by first | (with_reducible assumption) | assumption)
                 have q36 : (x17_4 : Int) < ((x7_4.length : Int) : Int) := of_decide_eq_true (by first | (with_reducible assumption) | assumption)
                 obtain ⟨go36, co36, eo36, gb36, gl36, cl36, HG36⟩ := Kd.R_form HO_7.out (by omega)
                 (first | cases eo36 | (injection eo36 with ea_ en_ ec_; (first | subst ea_ | (injection ea_ with ea_; subst ea_)); subst ec_; clear en_))
                 have GB36 := Aside0.mk gb36
                 have GG36 := Aside0.mk HG36
                 clear gb36 gl36 HG36
                 (first | simp only [add_plain] at hx522_0 | skip)
                 obtain ⟨hx36_0, hf36_0⟩ := Kd.R_celln 0 HO_7.out (x17_4 : Int) p36 q36
                 replace p36 := eq_true p36
                 replace q36 := eq_true q36
                 have HP40 := Kd.R_putn HO_7.out (x17_4 : Int) t524
                 rw [← Ny525.out] at HP40
                 have HQ40 := Aside0.mk HP40
                 clear HP40
                 refine hK.out _ _ ⟨hHeld.1, hHeld.2⟩ (fun hHeld => ?_)
                 clear hK K
                 refine norm_ (a' := ?_) ?_ ?_
                 rotate_left
                 ·show Act.put _ (some 115) _ = _
                  simp only [Act.put, List.setIfInBounds_toArray, List.set_cons_zero, List.set_cons_succ, i64_w, i32_w]
                  rfl
                 refine pure_ (i := 11) (N := some 116) (v := ?_) (a' := ?_) #[true, true, true, true, true, true, true, true, true, true, true, true, false] rfl rfl (any_of HT_.out (by kernel_rfl)) (fun _ _ _ h => h) (Or.inl ⟨by rfl, ?_⟩) ?_ ?_
                 rotate_left
                 ·intro w'
                  go_simp
                  with_reducible rfl
                 rotate_left
                 ·simp only [Act.put, List.setIfInBounds_toArray, List.set_cons_zero, List.set_cons_succ, i64_w, i32_w]
                  rfl
                 refine last_ (i := 12) (N := none) #[true, true, true, true, true, true, true, true, true, true, true, true, true] rfl rfl (one_of HT_.out (by kernel_rfl)) (by decide) (fun K hK => ?_)
                 refine skip_ (w1 := ?_) (by rfl) rfl ?_ ?_
                 rotate_left
                 ·go_simp
                  rfl
                 refine hK.out _ _ ?_
                 clear hK K
                 refine done_ (done_of HT_.out (by kernel_rfl)) ?_
                 try go_wp2
                 go_roundg k4
                 case measure => have := HJ3.out; have := HK2.out; have := HJ24.out; have := HK4.out; omega
                 case rel => exact ⟨(y525), (wrap64 (x16_4 + 1)), (wrap64 (x17_4 + 1)), (by first | rfl | (simp; done) | (simp [*]; done)), (by first | rfl | (simp; done) | (simp [*]; done)), H', ⟨by have := HJ3.out; have := HK2.out; have := HJ24.out; have := HK4.out; omega⟩, ⟨by (with_reducible repeat (first | apply Kd.R_alloc | apply Kd.R_drewN | apply Kd.R_drew)); exact HQ40.out⟩, ⟨by (with_reducible repeat (first | apply Kd.R_alloc | apply Kd.R_drewN | apply Kd.R_drew)); exact Kd.R_mono (Kd.R_far (p := ⟨go36, (x17_4 : Int).toNat, none⟩) (Kd.R_mono HO_14.out (fun k_ hk => (⟨hk, fun e_ => hk (by rw [e_]; rfl)⟩ : _ ∧ k_ ≠ go36))) (fun _ hk => hk.2) (.int .i64 t524)) (fun _ hk => hk.1)⟩, ⟨by repeat (first | (with_reducible first | exact HB.out | apply below_alloc | apply pw_below_drewN | apply below_drew1 | refine below_set ?_ GB36.out) | exact HB.out)⟩⟩
                ·rw [if_neg c34] at H
                 exact absurd H (by simp)
               ·rw [if_neg c33] at H
                exact absurd H (by simp)
              ·rw [if_neg c32] at H
               exact absurd H (by simp)
             ·rw [if_neg c31] at H
              exact absurd H (by simp)
            ·rw [if_neg c30] at H
             have c30b0 : (x9_2 == 0) = false := beq_eq_false_iff_ne.mpr c30
             have c30b1 : (x9_2 != 0) = true := bne_iff_ne.mpr c30
             by_cases c41 : 0 ≤ x17_4
             ·rw [if_pos c41] at H
              have c41b0 : decide (0 ≤ x17_4) = true := decide_eq_true c41
              clear c41
              by_cases c42 : ((rd_T39 l0 x17_4).f0) = 0
              ·rw [if_pos c42] at H
               have c42b0 : (((rd_T39 l0 x17_4).f0) == 0) = true := beq_iff_eq.mpr c42
               have c42b1 : (((rd_T39 l0 x17_4).f0) != 0) = false := bne_eq_false_iff_eq.mpr c42
               clear c42
               by_cases c43 : x17_4 < (x7_4.length : Int)
               ·rw [if_pos c43] at H
                have c43b0 : decide (x17_4 < (x7_4.length : Int)) = true := decide_eq_true c43
                clear c43
                by_cases c44 : 0 ≤ x16_4
                ·rw [if_pos c44] at H
                 have c44b0 : decide (0 ≤ x16_4) = true := decide_eq_true c44
                 clear c44
                 by_cases c45 : x16_4 < (t518.length : Int)
                 ·rw [if_pos c45] at H
                  have c45b0 : decide (x16_4 < (t518.length : Int)) = true := decide_eq_true c45
                  clear c45
                  replace H := Option.bind_eq_some_iff.mp H
                  obtain ⟨t529, A460, H⟩ := H
                  replace H : (purflingref15_Fixed.l1 k4 l0 (x7_4.set (x17_4 : Int).toNat t529) x9_2 t518 (wrap64 (x16_4 + 1)) (wrap64 (x17_4 + 1))) = some (r1, r2) := H
                  have A46 := Aside0.mk A460
                  clear A460
                  obtain ⟨y530, hy530⟩ : ∃ y_ : List Int, y_ = (x7_4.set (x17_4 : Int).toNat t529) := ⟨_, rfl⟩
                  replace H : (purflingref15_Fixed.l1 k4 l0 y530 x9_2 t518 (wrap64 (x16_4 + 1)) (wrap64 (x17_4 + 1))) = some (r1, r2) := by first | (rw [hy530]; with_reducible exact H) | (have H2_ := (Option.bind_some _ _).symm.trans H; rw [hy530]; with_reducible exact H2_) | (have H2_ := (Option.bind_some _ _).symm.trans H; with_reducible exact H2_) | with_reducible exact H | (rw [hy530]; exact H) | exact H
                  have Ny530 := Aside0.mk hy530
                  clear hy530
                  have H' := Aside0.mk H
                  clear H
                  have p526 : 0 ≤ (x17_4 : Int) := of_decide_eq_true (by first | (with_reducible assumption) | assumption)
                  have q526 : x17_4 < (l0.length : Int) := of_decide_eq_true (by first | (with_reducible assumption) | assumption)
                  obtain ⟨ad526, e526, hx526_0, hx526_1⟩ := at_T39 HR0.out x17_4 p526 q526
                  cases e526
                  replace hx526_0 := (HB.out.cell (World.block_lt_of_cell? w _ hx526_0)).trans hx526_0
                  replace hx526_1 := (HB.out.cell (World.block_lt_of_cell? w _ hx526_1)).trans hx526_1
                  replace p526 := eq_true p526
                  replace q526 := eq_true q526
                  try go_wp2
                  have n0_ := Aside0.mk (Kd.R_drew HO_7.out)
                  have n1_ := Aside0.mk (Kd.R_drew HO_14.out)
                  have n2_ := Aside0.mk (below_drew1 HB.out)
                  clear HO_7
                  clear HO_14
                  clear HB
                  have HO_7 := n0_
                  have HO_14 := n1_
                  have HB := n2_
                  clear n0_ n1_ n2_
                  obtain ⟨Ao49, co49, eo49⟩ := Kd.R_slice HO_7.out
                  (first | subst eo49 | (injection eo49 with f1_ f2_ f3_; have f4_ := f1_.symm; have f5_ := f3_.symm; clear f1_ f2_ f3_; subst f4_; subst f5_))
                  have p527 : 0 ≤ (x17_4 : Int) := of_decide_eq_true (by first | (with_reducible assumption) | assumption)
                  have q527 : x17_4 < (x7_4.length : Int) := of_decide_eq_true (by first | (with_reducible assumption) | assumption)
                  obtain ⟨ad527, e527, hx527_0⟩ := Kd.at_int (Kd.R_reads' HO_7.out).2.2 x17_4 p527 q527
                  cases e527
                  replace p527 := eq_true p527
                  replace q527 := eq_true q527
                  obtain ⟨Ao50, co50, eo50⟩ := Kd.R_slice HO_14.out
                  (first | subst eo50 | (injection eo50 with f1_ f2_ f3_; have f4_ := f1_.symm; have f5_ := f3_.symm; clear f1_ f2_ f3_; subst f4_; subst f5_))
                  have p528 : 0 ≤ (x16_4 : Int) := of_decide_eq_true (by first | (with_reducible assumption) | assumption)
                  have q528 : x16_4 < (t518.length : Int) := of_decide_eq_true (by first | (with_reducible assumption) | assumption)
                  obtain ⟨ad528, e528, hx528_0⟩ := Kd.at_int (Kd.R_reads' HO_14.out).2.2 x16_4 p528 q528
                  cases e528
                  replace p528 := eq_true p528
                  replace q528 := eq_true q528
                  refine start_ (n := 13) (S := fun w' => w'.cell? (ad527.add (x17_4).toNat) = some (.int .i64 (rd x7_4 x17_4)) ∧ w'.cell? (ad528.add (x16_4).toNat) = some (.int .i64 (rd t518 x16_4))) (ds := [12]) #[false, false, false, false, false, false, false, false, false, false, false, false, false] (by kernel_rfl) rfl rfl ⟨hx527_0, hx528_0⟩ (fun hHeld => ?_); refine with_tabW purflingref15_Fixed.tab28 purflingref15_Fixed.bits28 (fun HT_ HW_ => ?_)
                  generalize wr.drew = w48 at HO_7 HO_14 HB hx527_0 hx528_0 hHeld ⊢
                  refine pure_ (i := 0) (N := some 105) (v := ?_) (a' := ?_) #[true, false, false, false, false, false, false, false, false, false, false, false, false] rfl rfl (any_of HT_.out (by kernel_rfl)) (fun _ _ _ h => h) (Or.inl ⟨by rfl, ?_⟩) ?_ ?_
                  rotate_left
                  ·intro w'
                   go_simp
                   with_reducible rfl
                  rotate_left
                  ·simp only [Act.put, List.setIfInBounds_toArray, List.set_cons_zero, List.set_cons_succ, i64_w, i32_w]
                   rfl
                  refine pure_ (i := 1) (N := some 106) (v := ?_) (a' := ?_) #[true, true, false, false, false, false, false, false, false, false, false, false, false] rfl rfl (any_of HT_.out (by kernel_rfl)) (fun _ _ _ h => h) (Or.inl ⟨by rfl, ?_⟩) ?_ ?_
                  rotate_left
                  ·intro w'
                   go_simp
                   with_reducible rfl
                  rotate_left
                  ·simp only [Act.put, List.setIfInBounds_toArray, List.set_cons_zero, List.set_cons_succ, i64_w, i32_w]
                   rfl
                  refine pure_ (i := 2) (N := some 107) (v := ?_) (a' := ?_) #[true, true, true, false, false, false, false, false, false, false, false, false, false] rfl rfl (any_of HT_.out (by kernel_rfl)) (fun _ _ _ h => h) (Or.inl ⟨by rfl, ?_⟩) ?_ ?_
                  rotate_left
                  ·intro w'
                   go_simp
                   with_reducible rfl
                  rotate_left
                  ·simp only [Act.put, List.setIfInBounds_toArray, List.set_cons_zero, List.set_cons_succ, i64_w, i32_w]
                   rfl
                  refine pure_ (i := 3) (N := some 108) (v := ?_) (a' := ?_) #[true, true, true, true, false, false, false, false, false, false, false, false, false] rfl rfl (any_of HT_.out (by kernel_rfl)) (fun _ _ _ h => h) (Or.inl ⟨by rfl, ?_⟩) ?_ ?_
                  rotate_left
                  ·intro w'
                   go_simp
                   with_reducible rfl
                  rotate_left
                  ·simp only [Act.put, List.setIfInBounds_toArray, List.set_cons_zero, List.set_cons_succ, i64_w, i32_w]
                   rfl
                  refine pure_ (i := 4) (N := some 109) (v := ?_) (a' := ?_) #[true, true, true, true, true, false, false, false, false, false, false, false, false] rfl rfl (any_of HT_.out (by kernel_rfl)) (fun _ _ _ h => h) (Or.inl ⟨by rfl, ?_⟩) ?_ ?_
                  rotate_left
                  ·intro w'
                   go_simp
                   with_reducible rfl
                  rotate_left
                  ·simp only [Act.put, List.setIfInBounds_toArray, List.set_cons_zero, List.set_cons_succ, i64_w, i32_w]
                   rfl
                  refine pure_ (i := 6) (N := some 111) (v := ?_) (a' := ?_) #[true, true, true, true, true, false, true, false, false, false, false, false, false] rfl rfl (any_of HT_.out (by kernel_rfl)) (fun _ _ _ h => h) (Or.inl ⟨by rfl, ?_⟩) ?_ ?_
                  rotate_left
                  ·intro w'
                   go_simp
                   with_reducible rfl
                  rotate_left
                  ·simp only [Act.put, List.setIfInBounds_toArray, List.set_cons_zero, List.set_cons_succ, i64_w, i32_w]
                   rfl
                  refine pure_ (i := 7) (N := some 112) (v := ?_) (a' := ?_) #[true, true, true, true, true, false, true, true, false, false, false, false, false] rfl rfl (any_of HT_.out (by kernel_rfl)) (fun _ _ _ h => h) (Or.inl ⟨by rfl, ?_⟩) ?_ ?_
                  rotate_left
                  ·intro w'
                   go_simp
                   with_reducible rfl
                  rotate_left
                  ·simp only [Act.put, List.setIfInBounds_toArray, List.set_cons_zero, List.set_cons_succ, i64_w, i32_w]
                   rfl
                  refine pure_ (i := 8) (N := some 113) (v := ?_) (a' := ?_) #[true, true, true, true, true, false, true, true, true, false, false, false, false] rfl rfl (any_of HT_.out (by kernel_rfl)) (fun _ _ _ h => h) (Or.inl ⟨by rfl, ?_⟩) ?_ ?_
                  rotate_left
                  ·intro w'
                   go_simp
                   with_reducible rfl
                  rotate_left
                  ·simp only [Act.put, List.setIfInBounds_toArray, List.set_cons_zero, List.set_cons_succ, i64_w, i32_w]
                   rfl
                  refine take_ (i := 5) (N := some 110) (v := ?_) (a' := ?_) #[true, true, true, true, true, true, true, true, true, false, false, false, false] rfl rfl (take_ofW HT_.out HW_.out (by kernel_rfl)) (fun _ _ _ h => h) (Or.inl ⟨by rfl, ?_⟩) hHeld ?_ ?_
                  rotate_left
                  ·rintro w' ⟨s0, s1⟩
                   go_simp
                   with_reducible rfl
                  rotate_left
                  ·simp only [Act.put, List.setIfInBounds_toArray, List.set_cons_zero, List.set_cons_succ, i64_w, i32_w]
                   rfl
                  refine take_ (i := 9) (N := some 114) (v := ?_) (a' := ?_) #[true, true, true, true, true, true, true, true, true, true, false, false, false] rfl rfl (take_ofW HT_.out HW_.out (by kernel_rfl)) (fun _ _ _ h => h) (Or.inl ⟨by rfl, ?_⟩) hHeld ?_ ?_
                  rotate_left
                  ·rintro w' ⟨s0, s1⟩
                   go_simp
                   with_reducible rfl
                  rotate_left
                  ·simp only [Act.put, List.setIfInBounds_toArray, List.set_cons_zero, List.set_cons_succ, i64_w, i32_w]
                   rfl
                  refine one_ (i := 10) (N := some 115) #[true, true, true, true, true, true, true, true, true, true, true, false, false] rfl rfl (one_of HT_.out (by kernel_rfl)) (by decide) (fun K hK => ?_)
                  refine goes_ Try.func43 (by kernel_rfl) rfl #[.int .i64 (rd x7_4 x17_4), .int .i64 (rd t518 x16_4)] (by rfl) rfl rfl (by (try simp only [List.map_toArray, List.map_cons, List.map_nil]); first | done | rfl | (simp only [List.length_drop, List.length_take]; rfl)) ?_
                  with_reducible refine (purflingref01_Sum.calls k4 (rd x7_4 x17_4) (rd t518 x16_4) t529 _ A46.out).mono ?_
                  rintro e w' ⟨rfl, ⟨nd, rfl⟩⟩
                  refine ⟨_, rfl, ?_⟩
                  have p47 : 0 ≤ (x17_4 : Int) := of_decide_eq_true (by first | (with_reducible assumption) | assumption)
                  have q47 : (x17_4 : Int) < ((x7_4.length : Int) : Int) := of_decide_eq_true (by first | (with_reducible assumption) | assumption)
                  obtain ⟨go47, co47, eo47, gb47, gl47, cl47, HG47⟩ := Kd.R_form HO_7.out (by omega)
                  (first | cases eo47 | (injection eo47 with ea_ en_ ec_; (first | subst ea_ | (injection ea_ with ea_; subst ea_)); subst ec_; clear en_))
                  have GB47 := Aside0.mk gb47
                  have GG47 := Aside0.mk HG47
                  clear gb47 gl47 HG47
                  (first | simp only [add_plain] at hx527_0 | skip)
                  obtain ⟨hx47_0, hf47_0⟩ := Kd.R_celln 0 HO_7.out (x17_4 : Int) p47 q47
                  replace p47 := eq_true p47
                  replace q47 := eq_true q47
                  have HP51 := Kd.R_putn HO_7.out (x17_4 : Int) t529
                  rw [← Ny530.out] at HP51
                  have HQ51 := Aside0.mk HP51
                  clear HP51
                  refine hK.out _ _ ⟨hHeld.1, hHeld.2⟩ (fun hHeld => ?_)
                  clear hK K
                  refine norm_ (a' := ?_) ?_ ?_
                  rotate_left
                  ·show Act.put _ (some 115) _ = _
                   simp only [Act.put, List.setIfInBounds_toArray, List.set_cons_zero, List.set_cons_succ, i64_w, i32_w]
                   rfl
                  refine pure_ (i := 11) (N := some 116) (v := ?_) (a' := ?_) #[true, true, true, true, true, true, true, true, true, true, true, true, false] rfl rfl (any_of HT_.out (by kernel_rfl)) (fun _ _ _ h => h) (Or.inl ⟨by rfl, ?_⟩) ?_ ?_
                  rotate_left
                  ·intro w'
                   go_simp
                   with_reducible rfl
                  rotate_left
                  ·simp only [Act.put, List.setIfInBounds_toArray, List.set_cons_zero, List.set_cons_succ, i64_w, i32_w]
                   rfl
                  refine last_ (i := 12) (N := none) #[true, true, true, true, true, true, true, true, true, true, true, true, true] rfl rfl (one_of HT_.out (by kernel_rfl)) (by decide) (fun K hK => ?_)
                  refine skip_ (w1 := ?_) (by rfl) rfl ?_ ?_
                  rotate_left
                  ·go_simp
                   rfl
                  refine hK.out _ _ ?_
                  clear hK K
                  refine done_ (done_of HT_.out (by kernel_rfl)) ?_
                  try go_wp2
                  go_roundg k4
                  case measure => have := HJ3.out; have := HK2.out; have := HJ24.out; have := HK4.out; omega
                  case rel => exact ⟨(y530), (wrap64 (x16_4 + 1)), (wrap64 (x17_4 + 1)), (by first | rfl | (simp; done) | (simp [*]; done)), (by first | rfl | (simp; done) | (simp [*]; done)), H', ⟨by have := HJ3.out; have := HK2.out; have := HJ24.out; have := HK4.out; omega⟩, ⟨by (with_reducible repeat (first | apply Kd.R_alloc | apply Kd.R_drewN | apply Kd.R_drew)); exact HQ51.out⟩, ⟨by (with_reducible repeat (first | apply Kd.R_alloc | apply Kd.R_drewN | apply Kd.R_drew)); exact Kd.R_mono (Kd.R_far (p := ⟨go47, (x17_4 : Int).toNat, none⟩) (Kd.R_mono HO_14.out (fun k_ hk => (⟨hk, fun e_ => hk (by rw [e_]; rfl)⟩ : _ ∧ k_ ≠ go47))) (fun _ hk => hk.2) (.int .i64 t529)) (fun _ hk => hk.1)⟩, ⟨by repeat (first | (with_reducible first | exact HB.out | apply below_alloc | apply pw_below_drewN | apply below_drew1 | refine below_set ?_ GB47.out) | exact HB.out)⟩⟩
                 ·rw [if_neg c45] at H
                  exact absurd H (by simp)
                ·rw [if_neg c44] at H
                 exact absurd H (by simp)
               ·rw [if_neg c43] at H
                exact absurd H (by simp)
              ·rw [if_neg c42] at H
               have c42b0 : (((rd_T39 l0 x17_4).f0) == 0) = false := beq_eq_false_iff_ne.mpr c42
               have c42b1 : (((rd_T39 l0 x17_4).f0) != 0) = true := bne_iff_ne.mpr c42
               have H' := Aside0.mk H
               clear H
               have p526 : 0 ≤ (x17_4 : Int) := of_decide_eq_true (by first | (with_reducible assumption) | assumption)
               have q526 : x17_4 < (l0.length : Int) := of_decide_eq_true (by first | (with_reducible assumption) | assumption)
               obtain ⟨ad526, e526, hx526_0, hx526_1⟩ := at_T39 HR0.out x17_4 p526 q526
               cases e526
               replace hx526_0 := (HB.out.cell (World.block_lt_of_cell? w _ hx526_0)).trans hx526_0
               replace hx526_1 := (HB.out.cell (World.block_lt_of_cell? w _ hx526_1)).trans hx526_1
               replace p526 := eq_true p526
               replace q526 := eq_true q526
               go_wp2
               go_roundg k4
               case measure => have := HJ3.out; have := HK2.out; have := HJ24.out; have := HK4.out; omega
               case rel => exact ⟨(x7_4), (x16_4), (wrap64 (x17_4 + 1)), (by first | rfl | (simp; done) | (simp [*]; done)), (by first | rfl | (simp; done) | (simp [*]; done)), H', ⟨by have := HJ3.out; have := HK2.out; have := HJ24.out; have := HK4.out; omega⟩, ⟨by (with_reducible repeat (first | apply Kd.R_alloc | apply Kd.R_drewN | apply Kd.R_drew)); exact HO_7.out⟩, ⟨by (with_reducible repeat (first | apply Kd.R_alloc | apply Kd.R_drewN | apply Kd.R_drew)); exact HO_14.out⟩, ⟨by repeat (first | (with_reducible first | exact HB.out | apply below_alloc | apply pw_below_drewN | apply below_drew1) | exact HB.out)⟩⟩
             ·rw [if_neg c41] at H
              exact absurd H (by simp)
           ·rw [if_neg c29] at H
            have c29b0 : decide (x17_4 < (l0.length : Int)) = false := decide_eq_false c29
            clear c29
            simp only [Option.some.injEq, Prod.mk.injEq] at H
            obtain ⟨rfl, rfl⟩ := H
            go_wp2
            go_ret2
            exact ⟨_, by first | rfl | (simp [errW_none, errW_some] <;> rfl) | (simp only [← hji24]; first | rfl | (simp [errW_none, errW_some] <;> rfl)) | (simp [*, errW_none, errW_some] <;> rfl), by (with_reducible repeat (first | apply Kd.R_alloc | apply Kd.R_drewN | apply Kd.R_drew)); exact Kd.R_mono HO_7.out (fun _ hk => trivial), by repeat (first | (with_reducible first | exact HB.out | apply below_alloc | apply pw_below_drewN | apply below_drew1) | exact HB.out)⟩

end Go.Proofs.Ytilfgmclhoidiaa.PA
