-- MADE by wip/tools/xprint.py of this repo: the kit's print.py, turned by this session, and texts by hand
import Derived.Test.YtgghbmhmpkeccaaPAx0
import Derived.Test.YtgghbmhmpkeccaaPAx20
import Derived.Test.YtgghbmhmpkeccaaPAx21
import Derived.Test.YtgghbmhmpkeccaaPAx22
namespace Go.Proofs.Ytgghbmhmpkeccaa.PA
open Go.RowKit Go.Proofs.YtgghbmhmpkeccaaW.PrintWords Go.Proofs.YtgghbmhmpkeccaaW.PrintLast Go.Proofs.YtgghbmhmpkeccaaW.PrintMore
attribute [local go_sem] max2_int min2_int max_two min_two max_three min_three max_four min_four   -- for this text's walks alone
set_option linter.unusedVariables false
set_option linter.unusedSimpArgs false

/-! ### purflingref16_Stretch: function 14 -/
mutual
def purflingref16_Stretch.j0 : Nat → List Int → List Int → Int → Bool → Option (List Int × Int)
 | 0, _, _, _, _ => none
 | k + 1, x0, x1, x2, x43 => if x43 = true then (some (([] : List Int), 160)) else (purflingref16_Stretch.l0 k x0 x1 x2 0 0 0)
def purflingref16_Stretch.l0 : Nat → List Int → List Int → Int → Int → Int → Int → Option (List Int × Int)
 | 0, _, _, _, _, _, _ => none
 | k + 1, x0, x1, x2, x9, x10, x11 => if x11 < (x0.length : Int) then (if 0 ≤ x11 then (if (rd x0 x11) < 0 then (purflingref16_Stretch.j2 k x0 x1 x2 x9 x10 x11 true) else (purflingref16_Stretch.j2 k x0 x1 x2 x9 x10 x11 (decide ((rd x0 x11) > 1125899906842623)))) else (none)) else (purflingref16_Stretch.l1 k x0 x1 x2 x9 x10 ([] : List Int) 0)
def purflingref16_Stretch.j2 : Nat → List Int → List Int → Int → Int → Int → Int → Bool → Option (List Int × Int)
 | 0, _, _, _, _, _, _, _ => none
 | k + 1, x0, x1, x2, x9, x10, x11, x61 => if x61 = true then (some (([] : List Int), 160)) else (if 0 ≤ x11 then (if x11 < (x0.length : Int) then ((purflingref01_Sum.f k x9 (rd x0 x11)).bind fun t315 => (if x11 < (x1.length : Int) then (if (rd x1 x11) = (-1) then (purflingref16_Stretch.l0 k x0 x1 x2 t315 (wrap64 (x10 + 1)) (wrap64 (x11 + 1))) else (purflingref16_Stretch.l0 k x0 x1 x2 t315 x10 (wrap64 (x11 + 1)))) else (none))) else (none)) else (none))
def purflingref16_Stretch.l1 : Nat → List Int → List Int → Int → Int → Int → List Int → Int → Option (List Int × Int)
 | 0, _, _, _, _, _, _, _ => none
 | k + 1, x0, x1, x2, x9, x10, x12, x13 => if x13 < (x0.length : Int) then (if 0 ≤ x13 then (if x13 < (x1.length : Int) then (if (rd x1 x13) = (-1) then (if x12.length < 17592186044416 then (purflingref16_Stretch.l1 k x0 x1 x2 x9 x10 (x12 ++ [rd x0 x13]) (wrap64 (x13 + 1))) else (none)) else (if x10 = 0 then (if x12.length < 17592186044416 then (purflingref16_Stretch.l1 k x0 x1 x2 x9 x10 (x12 ++ [rd x0 x13]) (wrap64 (x13 + 1))) else (none)) else (purflingref16_Stretch.l1 k x0 x1 x2 x9 x10 x12 (wrap64 (x13 + 1))))) else (none)) else (none)) else ((purflingref01_Sub.f k x2 x9).bind fun t326 => ((purflingref01_Share.f k (mx 0 t326) x12).bind fun bt327 => (purflingref16_Stretch.l2 k x0 x1 x10 bt327.1 ([] : List Int) 0 0)))
def purflingref16_Stretch.l2 : Nat → List Int → List Int → Int → List Int → List Int → Int → Int → Option (List Int × Int)
 | 0, _, _, _, _, _, _, _ => none
 | k + 1, x0, x1, x10, x14, x16, x17, x18 => if x18 < (x0.length : Int) then (if 0 ≤ x18 then (if x18 < (x1.length : Int) then (if (rd x1 x18) = (-1) then (if 0 ≤ x17 then (if x17 < (x14.length : Int) then (if x16.length < 17592186044416 then (purflingref16_Stretch.l2 k x0 x1 x10 x14 (x16 ++ [wrap64 ((rd x0 x18) + (rd x14 x17))]) (wrap64 (x17 + 1)) (wrap64 (x18 + 1))) else (none)) else (none)) else (none)) else (if x10 = 0 then (if 0 ≤ x17 then (if x17 < (x14.length : Int) then (if x16.length < 17592186044416 then (purflingref16_Stretch.l2 k x0 x1 x10 x14 (x16 ++ [wrap64 ((rd x0 x18) + (rd x14 x17))]) (wrap64 (x17 + 1)) (wrap64 (x18 + 1))) else (none)) else (none)) else (none)) else (if x16.length < 17592186044416 then (purflingref16_Stretch.l2 k x0 x1 x10 x14 (x16 ++ [rd x0 x18]) x17 (wrap64 (x18 + 1))) else (none)))) else (none)) else (none)) else (some (x16, 0))
end
def purflingref16_Stretch.f (k : Nat) (l0 : List Int) (l1 : List Int) (a2 : Int) : Option (List Int × Int) := (purflingref16_wanted.f k l1).bind fun t311 => (if t311 = true then (if (l0.length : Int) < 1 then (purflingref16_Stretch.j0 k l0 l1 a2 true) else (if (l0.length : Int) = (l1.length : Int) then (if a2 < 0 then (purflingref16_Stretch.j0 k l0 l1 a2 true) else (purflingref16_Stretch.j0 k l0 l1 a2 (decide (a2 > 576460752303423488)))) else (purflingref16_Stretch.j0 k l0 l1 a2 true))) else (purflingref16_Stretch.j0 k l0 l1 a2 true))
theorem purflingref16_Stretch.mono_l : ∀ k, (∀ y0 y1 y2 y3, LeO (purflingref16_Stretch.j0 k y0 y1 y2 y3) (purflingref16_Stretch.j0 (k + 1) y0 y1 y2 y3)) ∧ (∀ y0 y1 y2 y3 y4 y5, LeO (purflingref16_Stretch.l0 k y0 y1 y2 y3 y4 y5) (purflingref16_Stretch.l0 (k + 1) y0 y1 y2 y3 y4 y5)) ∧ (∀ y0 y1 y2 y3 y4 y5 y6, LeO (purflingref16_Stretch.j2 k y0 y1 y2 y3 y4 y5 y6) (purflingref16_Stretch.j2 (k + 1) y0 y1 y2 y3 y4 y5 y6)) ∧ (∀ y0 y1 y2 y3 y4 y5 y6, LeO (purflingref16_Stretch.l1 k y0 y1 y2 y3 y4 y5 y6) (purflingref16_Stretch.l1 (k + 1) y0 y1 y2 y3 y4 y5 y6)) ∧ (∀ y0 y1 y2 y3 y4 y5 y6, LeO (purflingref16_Stretch.l2 k y0 y1 y2 y3 y4 y5 y6) (purflingref16_Stretch.l2 (k + 1) y0 y1 y2 y3 y4 y5 y6))
 | 0 => ⟨fun _ _ _ _ r h => by simp [purflingref16_Stretch.j0] at h, fun _ _ _ _ _ _ r h => by simp [purflingref16_Stretch.l0] at h, fun _ _ _ _ _ _ _ r h => by simp [purflingref16_Stretch.j2] at h, fun _ _ _ _ _ _ _ r h => by simp [purflingref16_Stretch.l1] at h, fun _ _ _ _ _ _ _ r h => by simp [purflingref16_Stretch.l2] at h⟩
 | k + 1 => by
  obtain ⟨ih0, ih1, ih2, ih3, ih4⟩ := purflingref16_Stretch.mono_l k
  refine ⟨?_, ?_, ?_, ?_, ?_⟩
  ·intro y0 y1 y2 y3
   unfold purflingref16_Stretch.j0
   repeat' first
   | (with_reducible exact ih0 _ _ _ _)
   | (with_reducible exact ih1 _ _ _ _ _ _)
   | (with_reducible exact ih2 _ _ _ _ _ _ _)
   | (with_reducible exact ih3 _ _ _ _ _ _ _)
   | (with_reducible exact ih4 _ _ _ _ _ _ _)
   | (with_reducible exact purflingref01_Share.mono _ _ _)
   | (with_reducible exact purflingref01_Sub.mono _ _ _)
   | (with_reducible exact purflingref01_Sum.mono _ _ _)
   | (with_reducible exact purflingref16_wanted.mono _ _)
   | (with_reducible exact LeO.refl _)
   | (with_reducible exact LeO.none _)
   | (with_reducible refine LeO.ite ?_ ?_)
   | (with_reducible refine LeO.bind ?_ (fun _ => ?_))
   | exact ih0 _ _ _ _
   | exact ih1 _ _ _ _ _ _
   | exact ih2 _ _ _ _ _ _ _
   | exact ih3 _ _ _ _ _ _ _
   | exact ih4 _ _ _ _ _ _ _
   | exact purflingref01_Share.mono _ _ _
   | exact purflingref01_Sub.mono _ _ _
   | exact purflingref01_Sum.mono _ _ _
   | exact purflingref16_wanted.mono _ _
   | exact LeO.none _
   | refine LeO.ite ?_ ?_
   | refine LeO.bind ?_ (fun _ => ?_)
  ·intro y0 y1 y2 y3 y4 y5
   unfold purflingref16_Stretch.l0
   repeat' first
   | (with_reducible exact ih0 _ _ _ _)
   | (with_reducible exact ih1 _ _ _ _ _ _)
   | (with_reducible exact ih2 _ _ _ _ _ _ _)
   | (with_reducible exact ih3 _ _ _ _ _ _ _)
   | (with_reducible exact ih4 _ _ _ _ _ _ _)
   | (with_reducible exact purflingref01_Share.mono _ _ _)
   | (with_reducible exact purflingref01_Sub.mono _ _ _)
   | (with_reducible exact purflingref01_Sum.mono _ _ _)
   | (with_reducible exact purflingref16_wanted.mono _ _)
   | (with_reducible exact LeO.refl _)
   | (with_reducible exact LeO.none _)
   | (with_reducible refine LeO.ite ?_ ?_)
   | (with_reducible refine LeO.bind ?_ (fun _ => ?_))
   | exact ih0 _ _ _ _
   | exact ih1 _ _ _ _ _ _
   | exact ih2 _ _ _ _ _ _ _
   | exact ih3 _ _ _ _ _ _ _
   | exact ih4 _ _ _ _ _ _ _
   | exact purflingref01_Share.mono _ _ _
   | exact purflingref01_Sub.mono _ _ _
   | exact purflingref01_Sum.mono _ _ _
   | exact purflingref16_wanted.mono _ _
   | exact LeO.none _
   | refine LeO.ite ?_ ?_
   | refine LeO.bind ?_ (fun _ => ?_)
  ·intro y0 y1 y2 y3 y4 y5 y6
   unfold purflingref16_Stretch.j2
   repeat' first
   | (with_reducible exact ih0 _ _ _ _)
   | (with_reducible exact ih1 _ _ _ _ _ _)
   | (with_reducible exact ih2 _ _ _ _ _ _ _)
   | (with_reducible exact ih3 _ _ _ _ _ _ _)
   | (with_reducible exact ih4 _ _ _ _ _ _ _)
   | (with_reducible exact purflingref01_Share.mono _ _ _)
   | (with_reducible exact purflingref01_Sub.mono _ _ _)
   | (with_reducible exact purflingref01_Sum.mono _ _ _)
   | (with_reducible exact purflingref16_wanted.mono _ _)
   | (with_reducible exact LeO.refl _)
   | (with_reducible exact LeO.none _)
   | (with_reducible refine LeO.ite ?_ ?_)
   | (with_reducible refine LeO.bind ?_ (fun _ => ?_))
   | exact ih0 _ _ _ _
   | exact ih1 _ _ _ _ _ _
   | exact ih2 _ _ _ _ _ _ _
   | exact ih3 _ _ _ _ _ _ _
   | exact ih4 _ _ _ _ _ _ _
   | exact purflingref01_Share.mono _ _ _
   | exact purflingref01_Sub.mono _ _ _
   | exact purflingref01_Sum.mono _ _ _
   | exact purflingref16_wanted.mono _ _
   | exact LeO.none _
   | refine LeO.ite ?_ ?_
   | refine LeO.bind ?_ (fun _ => ?_)
  ·intro y0 y1 y2 y3 y4 y5 y6
   unfold purflingref16_Stretch.l1
   repeat' first
   | (with_reducible exact ih0 _ _ _ _)
   | (with_reducible exact ih1 _ _ _ _ _ _)
   | (with_reducible exact ih2 _ _ _ _ _ _ _)
   | (with_reducible exact ih3 _ _ _ _ _ _ _)
   | (with_reducible exact ih4 _ _ _ _ _ _ _)
   | (with_reducible exact purflingref01_Share.mono _ _ _)
   | (with_reducible exact purflingref01_Sub.mono _ _ _)
   | (with_reducible exact purflingref01_Sum.mono _ _ _)
   | (with_reducible exact purflingref16_wanted.mono _ _)
   | (with_reducible exact LeO.refl _)
   | (with_reducible exact LeO.none _)
   | (with_reducible refine LeO.ite ?_ ?_)
   | (with_reducible refine LeO.bind ?_ (fun _ => ?_))
   | exact ih0 _ _ _ _
   | exact ih1 _ _ _ _ _ _
   | exact ih2 _ _ _ _ _ _ _
   | exact ih3 _ _ _ _ _ _ _
   | exact ih4 _ _ _ _ _ _ _
   | exact purflingref01_Share.mono _ _ _
   | exact purflingref01_Sub.mono _ _ _
   | exact purflingref01_Sum.mono _ _ _
   | exact purflingref16_wanted.mono _ _
   | exact LeO.none _
   | refine LeO.ite ?_ ?_
   | refine LeO.bind ?_ (fun _ => ?_)
  ·intro y0 y1 y2 y3 y4 y5 y6
   unfold purflingref16_Stretch.l2
   repeat' first
   | (with_reducible exact ih0 _ _ _ _)
   | (with_reducible exact ih1 _ _ _ _ _ _)
   | (with_reducible exact ih2 _ _ _ _ _ _ _)
   | (with_reducible exact ih3 _ _ _ _ _ _ _)
   | (with_reducible exact ih4 _ _ _ _ _ _ _)
   | (with_reducible exact purflingref01_Share.mono _ _ _)
   | (with_reducible exact purflingref01_Sub.mono _ _ _)
   | (with_reducible exact purflingref01_Sum.mono _ _ _)
   | (with_reducible exact purflingref16_wanted.mono _ _)
   | (with_reducible exact LeO.refl _)
   | (with_reducible exact LeO.none _)
   | (with_reducible refine LeO.ite ?_ ?_)
   | (with_reducible refine LeO.bind ?_ (fun _ => ?_))
   | exact ih0 _ _ _ _
   | exact ih1 _ _ _ _ _ _
   | exact ih2 _ _ _ _ _ _ _
   | exact ih3 _ _ _ _ _ _ _
   | exact ih4 _ _ _ _ _ _ _
   | exact purflingref01_Share.mono _ _ _
   | exact purflingref01_Sub.mono _ _ _
   | exact purflingref01_Sum.mono _ _ _
   | exact purflingref16_wanted.mono _ _
   | exact LeO.none _
   | refine LeO.ite ?_ ?_
   | refine LeO.bind ?_ (fun _ => ?_)
theorem purflingref16_Stretch.mono : ∀ a0 a1 a2 k, LeO (purflingref16_Stretch.f k a0 a1 a2) (purflingref16_Stretch.f (k + 1) a0 a1 a2) := by
 intro a0 a1 a2 k
 obtain ⟨ih0, ih1, ih2, ih3, ih4⟩ := purflingref16_Stretch.mono_l k
 unfold purflingref16_Stretch.f
 repeat' first
   | (with_reducible exact ih0 _ _ _ _)
   | (with_reducible exact ih1 _ _ _ _ _ _)
   | (with_reducible exact ih2 _ _ _ _ _ _ _)
   | (with_reducible exact ih3 _ _ _ _ _ _ _)
   | (with_reducible exact ih4 _ _ _ _ _ _ _)
   | (with_reducible exact purflingref01_Share.mono _ _ _)
   | (with_reducible exact purflingref01_Sub.mono _ _ _)
   | (with_reducible exact purflingref01_Sum.mono _ _ _)
   | (with_reducible exact purflingref16_wanted.mono _ _)
   | (with_reducible exact LeO.refl _)
   | (with_reducible exact LeO.none _)
   | (with_reducible refine LeO.ite ?_ ?_)
   | (with_reducible refine LeO.bind ?_ (fun _ => ?_))
   | exact ih0 _ _ _ _
   | exact ih1 _ _ _ _ _ _
   | exact ih2 _ _ _ _ _ _ _
   | exact ih3 _ _ _ _ _ _ _
   | exact ih4 _ _ _ _ _ _ _
   | exact purflingref01_Share.mono _ _ _
   | exact purflingref01_Sub.mono _ _ _
   | exact purflingref01_Sum.mono _ _ _
   | exact purflingref16_wanted.mono _ _
   | exact LeO.none _
   | refine LeO.ite ?_ ?_
   | refine LeO.bind ?_ (fun _ => ?_)
set_option maxHeartbeats 8000000 in
set_option maxRecDepth 100000 in
theorem purflingref16_Stretch.calls (k : Nat) (A0 : Option Addr) (c0 : Nat) (l0 : List Int) (A1 : Option Addr) (c1 : Nat) (l1 : List Int) (a2 : Int) (r1 : List Int) (r2 : Int) (w : World) (hr0 : Kd.C (Kd.int .i64) w A0 l0.length l0) (hc0 : l0.length ≤ c0) (hr1 : Kd.C (Kd.int .i64) w A1 l1.length l1) (hc1 : l1.length ≤ c1) (h : purflingref16_Stretch.f k l0 l1 a2 = some (r1, r2)) :
  Calls Try.prog 14 #[.slice A0 l0.length c0, .slice A1 l1.length c1, .int .i64 a2] w fun e w' => ∃ v0_ : Value, e = .returned (.tuple #[v0_, .int .i64 r2]) ∧ Kd.R (Kd.int .i64) 2 w' w.heap.size (fun _ => True) v0_ r1 ∧ Below w.heap.size w w' := by
 have HR0 := Aside0.mk hr0
 have HC0 := Aside0.mk hc0
 clear hr0 hc0
 have HR1 := Aside0.mk hr1
 have HC1 := Aside0.mk hc1
 clear hr1 hc1
 have HB := Aside0.mk (Below.refl w.heap.size w)
 have H : ((purflingref16_wanted.f k l1).bind fun t311 => (if t311 = true then (if (l0.length : Int) < 1 then (purflingref16_Stretch.j0 k l0 l1 a2 true) else (if (l0.length : Int) = (l1.length : Int) then (if a2 < 0 then (purflingref16_Stretch.j0 k l0 l1 a2 true) else (purflingref16_Stretch.j0 k l0 l1 a2 (decide (a2 > 576460752303423488)))) else (purflingref16_Stretch.j0 k l0 l1 a2 true))) else (purflingref16_Stretch.j0 k l0 l1 a2 true))) = some (r1, r2) := h
 clear h
 replace H := Option.bind_eq_some_iff.mp H
 obtain ⟨t311, A40, H⟩ := H
 replace H : (if t311 = true then (if (l0.length : Int) < 1 then (purflingref16_Stretch.j0 k l0 l1 a2 true) else (if (l0.length : Int) = (l1.length : Int) then (if a2 < 0 then (purflingref16_Stretch.j0 k l0 l1 a2 true) else (purflingref16_Stretch.j0 k l0 l1 a2 (decide (a2 > 576460752303423488)))) else (purflingref16_Stretch.j0 k l0 l1 a2 true))) else (purflingref16_Stretch.j0 k l0 l1 a2 true)) = some (r1, r2) := H
 have A4 := Aside0.mk A40
 clear A40
 have HC5 := Aside0.mk H
 clear H
 go_enter Try.func14, Try.ntmps14
 go_upto_region 2 with (first | ((with_reducible refine gate_callee (f := 25) rfl ?_); refine goesL_ (some 21) rfl rfl Try.func25 (by kernel_rfl) rfl #[.slice A1 l1.length c1] rfl (by (try simp only [List.map_toArray, List.map_cons, List.map_nil]); first | done | rfl | (simp only [List.length_drop, List.length_take]; rfl)) ?_; (with_reducible refine (purflingref16_wanted.calls k _ _ l1 t311 _ ?side1 ?side2 A4.out).mono ?_); (case side1 => repeat (first | exact HR1.out | (with_reducible refine Kd.C_alloc ?_ _) | (with_reducible refine Kd.C_drewN ?_ _) | (with_reducible refine Kd.C_drew ?_))); (case side2 => exact HC1.out); rintro e w' ⟨rfl, ⟨nd, rfl⟩⟩; refine ⟨_, rfl, ?_⟩))
 (try simp only [Act.put, List.setIfInBounds_toArray, List.set_cons_zero, List.set_cons_succ])
 go_cut [43] (fun v43 wc => ∃ (kq : Nat) (x43_4 : Bool), v43 = .bool x43_4 ∧ Aside0 (purflingref16_Stretch.j0 kq l0 l1 a2 x43_4 = some (r1, r2)) ∧ Aside0 (kq ≤ k) ∧ Aside0 (Below w.heap.size w wc))
 case first =>
  have H := HC5.out
  clear HC5
  by_cases c6 : t311 = true
  ·subst c6
   have H1 : (if (l0.length : Int) < 1 then (purflingref16_Stretch.j0 k l0 l1 a2 true) else (if (l0.length : Int) = (l1.length : Int) then (if a2 < 0 then (purflingref16_Stretch.j0 k l0 l1 a2 true) else (purflingref16_Stretch.j0 k l0 l1 a2 (decide (a2 > 576460752303423488)))) else (purflingref16_Stretch.j0 k l0 l1 a2 true))) = some (r1, r2) := by rw [if_pos rfl] at H; exact H
   clear H
   have H := H1
   clear H1
   by_cases c7 : (l0.length : Int) < 1
   ·rw [if_pos c7] at H
    have c7b0 : decide ((l0.length : Int) < 1) = true := decide_eq_true c7
    have c7b1 : decide (l0.length < 1) = true := decide_eq_true (by omega)
    clear c7
    (first | rw [c7b0] | (simp only [i64_w, i32_w]; rw [c7b0]) | skip)
    have H' := Aside0.mk H
    clear H
    go_wp2
    go_meet
    case rel => exact ⟨_, (true), (by first | rfl | (simp; done) | (simp [*]; done)), H', ⟨by first | omega | exact Nat.le_refl _⟩, ⟨by repeat (first | (with_reducible first | exact HB.out | apply below_alloc | apply pw_below_drewN | apply below_drew1) | exact HB.out)⟩⟩
   ·rw [if_neg c7] at H
    have c7b0 : decide ((l0.length : Int) < 1) = false := decide_eq_false c7
    have c7b1 : decide (l0.length < 1) = false := decide_eq_false (by omega)
    clear c7
    (first | rw [c7b0] | (simp only [i64_w, i32_w]; rw [c7b0]) | skip)
    by_cases c8 : (l0.length : Int) = (l1.length : Int)
    ·rw [if_pos c8] at H
     have c8b0 : ((l0.length : Int) == (l1.length : Int)) = true := beq_iff_eq.mpr c8
     have c8b1 : ((l0.length : Int) != (l1.length : Int)) = false := bne_eq_false_iff_eq.mpr c8
     have c8b2 : (l0.length == l1.length) = true := by first | simpa using c8 | (simp at c8 ⊢; omega)
     clear c8
     by_cases c9 : a2 < 0
     ·rw [if_pos c9] at H
      have c9b0 : decide (a2 < 0) = true := decide_eq_true c9
      clear c9
      have H' := Aside0.mk H
      clear H
      go_wp2
      go_meet
      case rel => exact ⟨_, (true), (by first | rfl | (simp; done) | (simp [*]; done)), H', ⟨by first | omega | exact Nat.le_refl _⟩, ⟨by repeat (first | (with_reducible first | exact HB.out | apply below_alloc | apply pw_below_drewN | apply below_drew1) | exact HB.out)⟩⟩
     ·rw [if_neg c9] at H
      have c9b0 : decide (a2 < 0) = false := decide_eq_false c9
      clear c9
      have H' := Aside0.mk H
      clear H
      go_wp2
      go_meet
      case rel => exact ⟨_, (decide (a2 > 576460752303423488)), (by first | rfl | (simp; done) | (simp [*]; done)), H', ⟨by first | omega | exact Nat.le_refl _⟩, ⟨by repeat (first | (with_reducible first | exact HB.out | apply below_alloc | apply pw_below_drewN | apply below_drew1) | exact HB.out)⟩⟩
    ·rw [if_neg c8] at H
     have c8b0 : ((l0.length : Int) == (l1.length : Int)) = false := beq_eq_false_iff_ne.mpr c8
     have c8b1 : ((l0.length : Int) != (l1.length : Int)) = true := bne_iff_ne.mpr c8
     have c8b2 : (l0.length == l1.length) = false := by first | simpa using c8 | (simp at c8 ⊢; omega)
     have H' := Aside0.mk H
     clear H
     go_wp2
     go_meet
     case rel => exact ⟨_, (true), (by first | rfl | (simp; done) | (simp [*]; done)), H', ⟨by first | omega | exact Nat.le_refl _⟩, ⟨by repeat (first | (with_reducible first | exact HB.out | apply below_alloc | apply pw_below_drewN | apply below_drew1) | exact HB.out)⟩⟩
  ·replace c6 := Bool.eq_false_iff.mpr c6
   subst c6
   have H1 : (purflingref16_Stretch.j0 k l0 l1 a2 true) = some (r1, r2) := by rw [if_neg (show ¬ (false = true) by decide)] at H; exact H
   clear H
   have H := H1
   clear H1
   have H' := Aside0.mk H
   clear H
   go_wp2
   go_meet
   case rel => exact ⟨_, (true), (by first | rfl | (simp; done) | (simp [*]; done)), H', ⟨by first | omega | exact Nat.le_refl _⟩, ⟨by repeat (first | (with_reducible first | exact HB.out | apply below_alloc | apply pw_below_drewN | apply below_drew1) | exact HB.out)⟩⟩
 case rest =>
  clear HC5
  try clear c1
  try clear c2
  try clear p2
  try clear c6
  try clear c7
  try clear c7b0
  try clear c7b1
  try clear c8
  try clear c8b0
  try clear c8b1
  try clear c8b2
  try clear c9
  try clear c9b0
  obtain ⟨kq, x43_4, rfl, HA, HJ4, HB⟩ := hcut
  cases kq with
  | zero => exact absurd HA.out (by simp [purflingref16_Stretch.j0])
  | succ kj4 =>
   have H := HA.out
   clear HA
   simp only [purflingref16_Stretch.j0] at H
   by_cases c10 : x43_4 = true
   ·subst c10
    have H1 : (some (([] : List Int), 160)) = some (r1, r2) := by rw [if_pos rfl] at H; exact H
    clear H
    have H := H1
    clear H1
    simp only [Option.some.injEq, Prod.mk.injEq] at H
    obtain ⟨rfl, rfl⟩ := H
    go_wp2
    go_ret2
    exact ⟨_, by first | rfl | (simp [errW_none, errW_some] <;> rfl) | (simp [*, errW_none, errW_some] <;> rfl), by first | exact Kd.R_nil _ _ _ _ _ | exact Kd.N_nil _ _ _ _ _ | exact Kd.V_nil _ _ _ _ _ | exact Kd.Q_nil _ _ _ _ _ | exact Kd.S_nil _ _ _ _ _, by repeat (first | (with_reducible first | exact HB.out | apply below_alloc | apply pw_below_drewN | apply below_drew1) | exact HB.out)⟩
   ·replace c10 := Bool.eq_false_iff.mpr c10
    subst c10
    have H1 : (purflingref16_Stretch.l0 kj4 l0 l1 a2 0 0 0) = some (r1, r2) := by rw [if_neg (show ¬ (false = true) by decide)] at H; exact H
    clear H
    have H := H1
    clear H1
    have H' := Aside0.mk H
    clear H
    go_wp2
    go_loopg [9, 10, 11] kj4 (fun kq v9 v10 v11 w' => ∃ (x9_2 : Int) (x10_2 : Int) (x11_2 : Int), v9 = .int .i64 x9_2 ∧ v10 = .int .i64 x10_2 ∧ v11 = .int .i64 x11_2 ∧ Aside0 (purflingref16_Stretch.l0 kq l0 l1 a2 x9_2 x10_2 x11_2 = some (r1, r2)) ∧ Aside0 (kq ≤ kj4) ∧ Aside0 (Below w.heap.size w w'))
    case atStart => exact ⟨(0), (0), (0), (by first | rfl | (simp; done) | (simp [*]; done)), (by first | rfl | (simp; done) | (simp [*]; done)), (by first | rfl | (simp; done) | (simp [*]; done)), H', ⟨Nat.le_refl _⟩, ⟨by repeat (first | (with_reducible first | exact HB.out | apply below_alloc | apply pw_below_drewN | apply below_drew1) | exact HB.out)⟩⟩
    case round =>
     clear H'
     try clear c1
     try clear c2
     try clear p2
     try clear c6
     try clear c7
     try clear c7b0
     try clear c7b1
     try clear c8
     try clear c8b0
     try clear c8b1
     try clear c8b2
     try clear c9
     try clear c9b0
     try clear c10
     try clear p2
     obtain ⟨x9_2, x10_2, x11_2, rfl, rfl, rfl, HA, HK2, HB⟩ := hrel
     cases gk with
     | zero => exact absurd HA.out (by simp [purflingref16_Stretch.l0])
     | succ k2 =>
      have H := HA.out
      clear HA
      simp only [purflingref16_Stretch.l0] at H
      by_cases c11 : x11_2 < (l0.length : Int)
      ·rw [if_pos c11] at H
       have c11b0 : decide (x11_2 < (l0.length : Int)) = true := decide_eq_true c11
       clear c11
       have HC12 := Aside0.mk H
       clear H
       go_upto_region 9 with (fail)
       go_cut [61] (fun v61 wc => ∃ (kq : Nat) (x61_11 : Bool), v61 = .bool x61_11 ∧ Aside0 (purflingref16_Stretch.j2 kq l0 l1 a2 x9_2 x10_2 x11_2 x61_11 = some (r1, r2)) ∧ Aside0 (kq ≤ k2) ∧ Aside0 (Below w.heap.size w wc))
       case first =>
        have H := HC12.out
        clear HC12
        by_cases c13 : 0 ≤ x11_2
        ·rw [if_pos c13] at H
         have c13b0 : decide (0 ≤ x11_2) = true := decide_eq_true c13
         clear c13
         (first | rw [c13b0] | (simp only [i64_w, i32_w]; rw [c13b0]) | skip)
         by_cases c14 : (rd l0 x11_2) < 0
         ·rw [if_pos c14] at H
          have c14b0 : decide ((rd l0 x11_2) < 0) = true := decide_eq_true c14
          clear c14
          have H' := Aside0.mk H
          clear H
          have p312 : 0 ≤ (x11_2 : Int) := of_decide_eq_true (by first | (with_reducible assumption) | assumption)
          have q312 : x11_2 < (l0.length : Int) := of_decide_eq_true (by first | (with_reducible assumption) | assumption)
          obtain ⟨ad312, e312, hx312_0⟩ := Kd.at_int HR0.out x11_2 p312 q312
          cases e312
          replace hx312_0 := (HB.out.cell (World.block_lt_of_cell? w _ hx312_0)).trans hx312_0
          replace p312 := eq_true p312
          replace q312 := eq_true q312
          go_wp2
          go_meet
          case rel => exact ⟨_, (true), (by first | rfl | (simp; done) | (simp [*]; done)), H', ⟨by have := HJ4.out; have := HK2.out; first | omega | exact Nat.le_refl _⟩, ⟨by repeat (first | (with_reducible first | exact HB.out | apply below_alloc | apply pw_below_drewN | apply below_drew1) | exact HB.out)⟩⟩
         ·rw [if_neg c14] at H
          have c14b0 : decide ((rd l0 x11_2) < 0) = false := decide_eq_false c14
          clear c14
          have H' := Aside0.mk H
          clear H
          have p312 : 0 ≤ (x11_2 : Int) := of_decide_eq_true (by first | (with_reducible assumption) | assumption)
          have q312 : x11_2 < (l0.length : Int) := of_decide_eq_true (by first | (with_reducible assumption) | assumption)
          obtain ⟨ad312, e312, hx312_0⟩ := Kd.at_int HR0.out x11_2 p312 q312
          cases e312
          replace hx312_0 := (HB.out.cell (World.block_lt_of_cell? w _ hx312_0)).trans hx312_0
          replace p312 := eq_true p312
          replace q312 := eq_true q312
          have p313 : 0 ≤ (x11_2 : Int) := of_decide_eq_true (by first | (with_reducible assumption) | assumption)
          have q313 : x11_2 < (l0.length : Int) := of_decide_eq_true (by first | (with_reducible assumption) | assumption)
          obtain ⟨ad313, e313, hx313_0⟩ := Kd.at_int HR0.out x11_2 p313 q313
          obtain rfl : ad312 = ad313 := (by injection e313)
          replace hx313_0 := (HB.out.cell (World.block_lt_of_cell? w _ hx313_0)).trans hx313_0
          replace p313 := eq_true p313
          replace q313 := eq_true q313
          go_wp2
          go_meet
          case rel => exact ⟨_, (decide ((rd l0 x11_2) > 1125899906842623)), (by first | rfl | (simp; done) | (simp [*]; done)), H', ⟨by have := HJ4.out; have := HK2.out; first | omega | exact Nat.le_refl _⟩, ⟨by repeat (first | (with_reducible first | exact HB.out | apply below_alloc | apply pw_below_drewN | apply below_drew1) | exact HB.out)⟩⟩
        ·rw [if_neg c13] at H
         exact absurd H (by simp)
       case rest =>
        clear HC12
        try clear c1
        try clear c2
        try clear p2
        try clear p3
        try clear q3
        try clear hx3
        try clear c6
        try clear c7
        try clear c7b0
        try clear c7b1
        try clear c8
        try clear c8b0
        try clear c8b1
        try clear c8b2
        try clear c9
        try clear c9b0
        try clear c10
        try clear c11
        try clear c11b0
        try clear c13
        try clear c13b0
        try clear c14
        try clear c14b0
        try clear hx312_0
        try clear hx313_0
        try clear p2
        try clear p312
        try clear p313
        try clear q312
        try clear q313
        obtain ⟨kq, x61_11, rfl, HA, HJ11, HB⟩ := hcut
        cases kq with
        | zero => exact absurd HA.out (by simp [purflingref16_Stretch.j2])
        | succ kj11 =>
         have H := HA.out
         clear HA
         simp only [purflingref16_Stretch.j2] at H
         by_cases c15 : x61_11 = true
         ·subst c15
          have H1 : (some (([] : List Int), 160)) = some (r1, r2) := by rw [if_pos rfl] at H; exact H
          clear H
          have H := H1
          clear H1
          simp only [Option.some.injEq, Prod.mk.injEq] at H
          obtain ⟨rfl, rfl⟩ := H
          go_wp2
          go_ret2
          exact ⟨_, by first | rfl | (simp [errW_none, errW_some] <;> rfl) | (simp [*, errW_none, errW_some] <;> rfl), by first | exact Kd.R_nil _ _ _ _ _ | exact Kd.N_nil _ _ _ _ _ | exact Kd.V_nil _ _ _ _ _ | exact Kd.Q_nil _ _ _ _ _ | exact Kd.S_nil _ _ _ _ _, by repeat (first | (with_reducible first | exact HB.out | apply below_alloc | apply pw_below_drewN | apply below_drew1) | exact HB.out)⟩
         ·replace c15 := Bool.eq_false_iff.mpr c15
          subst c15
          have H1 : (if 0 ≤ x11_2 then (if x11_2 < (l0.length : Int) then ((purflingref01_Sum.f kj11 x9_2 (rd l0 x11_2)).bind fun t315 => (if x11_2 < (l1.length : Int) then (if (rd l1 x11_2) = (-1) then (purflingref16_Stretch.l0 kj11 l0 l1 a2 t315 (wrap64 (x10_2 + 1)) (wrap64 (x11_2 + 1))) else (purflingref16_Stretch.l0 kj11 l0 l1 a2 t315 x10_2 (wrap64 (x11_2 + 1)))) else (none))) else (none)) else (none)) = some (r1, r2) := by rw [if_neg (show ¬ (false = true) by decide)] at H; exact H
          clear H
          have H := H1
          clear H1
          by_cases c16 : 0 ≤ x11_2
          ·rw [if_pos c16] at H
           have c16b0 : decide (0 ≤ x11_2) = true := decide_eq_true c16
           clear c16
           by_cases c17 : x11_2 < (l0.length : Int)
           ·rw [if_pos c17] at H
            have c17b0 : decide (x11_2 < (l0.length : Int)) = true := decide_eq_true c17
            clear c17
            replace H := Option.bind_eq_some_iff.mp H
            obtain ⟨t315, A180, H⟩ := H
            replace H : (if x11_2 < (l1.length : Int) then (if (rd l1 x11_2) = (-1) then (purflingref16_Stretch.l0 kj11 l0 l1 a2 t315 (wrap64 (x10_2 + 1)) (wrap64 (x11_2 + 1))) else (purflingref16_Stretch.l0 kj11 l0 l1 a2 t315 x10_2 (wrap64 (x11_2 + 1)))) else (none)) = some (r1, r2) := H
            have A18 := Aside0.mk A180
            clear A180
            by_cases c19 : x11_2 < (l1.length : Int)
            ·rw [if_pos c19] at H
             have c19b0 : decide (x11_2 < (l1.length : Int)) = true := decide_eq_true c19
             clear c19
             by_cases c20 : (rd l1 x11_2) = (-1)
             ·rw [if_pos c20] at H
              have c20b0 : ((rd l1 x11_2) == (-1)) = true := beq_iff_eq.mpr c20
              have c20b1 : ((rd l1 x11_2) != (-1)) = false := bne_eq_false_iff_eq.mpr c20
              clear c20
              have H' := Aside0.mk H
              clear H
              have p314 : 0 ≤ (x11_2 : Int) := of_decide_eq_true (by first | (with_reducible assumption) | assumption)
              have q314 : x11_2 < (l0.length : Int) := of_decide_eq_true (by first | (with_reducible assumption) | assumption)
              obtain ⟨ad314, e314, hx314_0⟩ := Kd.at_int HR0.out x11_2 p314 q314
              cases e314
              replace hx314_0 := (HB.out.cell (World.block_lt_of_cell? w _ hx314_0)).trans hx314_0
              replace p314 := eq_true p314
              replace q314 := eq_true q314
              go_wp2_with (first | ((with_reducible refine gate_callee (f := 32) rfl ?_); refine goesL_ (some 67) rfl rfl Try.func32 (by kernel_rfl) rfl #[.int .i64 x9_2, .int .i64 (rd l0 x11_2)] rfl (by (try simp only [List.map_toArray, List.map_cons, List.map_nil]); first | done | rfl | (simp only [List.length_drop, List.length_take]; rfl)) ?_; (with_reducible refine (purflingref01_Sum.calls kj11 x9_2 (rd l0 x11_2) t315 _ A18.out).mono ?_); rintro e w' ⟨rfl, ⟨nd, rfl⟩⟩; refine ⟨_, rfl, ?_⟩; have p316 : 0 ≤ (x11_2 : Int) := of_decide_eq_true (by first | (with_reducible assumption) | assumption); have q316 : x11_2 < (l1.length : Int) := of_decide_eq_true (by first | (with_reducible assumption) | assumption); obtain ⟨ad316, e316, hx316_0⟩ := Kd.at_int HR1.out x11_2 p316 q316; cases e316; replace hx316_0 := (HB.out.cell (World.block_lt_of_cell? w _ hx316_0)).trans hx316_0; replace p316 := eq_true p316; replace q316 := eq_true q316))
              go_roundg kj11
              case measure => have := HJ4.out; have := HK2.out; have := HJ11.out; omega
              case rel => exact ⟨(t315), (wrap64 (x10_2 + 1)), (wrap64 (x11_2 + 1)), (by first | rfl | (simp; done) | (simp [*]; done)), (by first | rfl | (simp; done) | (simp [*]; done)), (by first | rfl | (simp; done) | (simp [*]; done)), H', ⟨by have := HJ4.out; have := HK2.out; have := HJ11.out; omega⟩, ⟨by repeat (first | (with_reducible first | exact HB.out | apply below_alloc | apply pw_below_drewN | apply below_drew1) | exact HB.out)⟩⟩
             ·rw [if_neg c20] at H
              have c20b0 : ((rd l1 x11_2) == (-1)) = false := beq_eq_false_iff_ne.mpr c20
              have c20b1 : ((rd l1 x11_2) != (-1)) = true := bne_iff_ne.mpr c20
              have H' := Aside0.mk H
              clear H
              have p314 : 0 ≤ (x11_2 : Int) := of_decide_eq_true (by first | (with_reducible assumption) | assumption)
              have q314 : x11_2 < (l0.length : Int) := of_decide_eq_true (by first | (with_reducible assumption) | assumption)
              obtain ⟨ad314, e314, hx314_0⟩ := Kd.at_int HR0.out x11_2 p314 q314
              cases e314
              replace hx314_0 := (HB.out.cell (World.block_lt_of_cell? w _ hx314_0)).trans hx314_0
              replace p314 := eq_true p314
              replace q314 := eq_true q314
              go_wp2_with (first | ((with_reducible refine gate_callee (f := 32) rfl ?_); refine goesL_ (some 67) rfl rfl Try.func32 (by kernel_rfl) rfl #[.int .i64 x9_2, .int .i64 (rd l0 x11_2)] rfl (by (try simp only [List.map_toArray, List.map_cons, List.map_nil]); first | done | rfl | (simp only [List.length_drop, List.length_take]; rfl)) ?_; (with_reducible refine (purflingref01_Sum.calls kj11 x9_2 (rd l0 x11_2) t315 _ A18.out).mono ?_); rintro e w' ⟨rfl, ⟨nd, rfl⟩⟩; refine ⟨_, rfl, ?_⟩; have p316 : 0 ≤ (x11_2 : Int) := of_decide_eq_true (by first | (with_reducible assumption) | assumption); have q316 : x11_2 < (l1.length : Int) := of_decide_eq_true (by first | (with_reducible assumption) | assumption); obtain ⟨ad316, e316, hx316_0⟩ := Kd.at_int HR1.out x11_2 p316 q316; cases e316; replace hx316_0 := (HB.out.cell (World.block_lt_of_cell? w _ hx316_0)).trans hx316_0; replace p316 := eq_true p316; replace q316 := eq_true q316))
              go_roundg kj11
              case measure => have := HJ4.out; have := HK2.out; have := HJ11.out; omega
              case rel => exact ⟨(t315), (x10_2), (wrap64 (x11_2 + 1)), (by first | rfl | (simp; done) | (simp [*]; done)), (by first | rfl | (simp; done) | (simp [*]; done)), (by first | rfl | (simp; done) | (simp [*]; done)), H', ⟨by have := HJ4.out; have := HK2.out; have := HJ11.out; omega⟩, ⟨by repeat (first | (with_reducible first | exact HB.out | apply below_alloc | apply pw_below_drewN | apply below_drew1) | exact HB.out)⟩⟩
            ·rw [if_neg c19] at H
             exact absurd H (by simp)
           ·rw [if_neg c17] at H
            exact absurd H (by simp)
          ·rw [if_neg c16] at H
           exact absurd H (by simp)
      ·rw [if_neg c11] at H
       have c11b0 : decide (x11_2 < (l0.length : Int)) = false := decide_eq_false c11
       clear c11
       have H' := Aside0.mk H
       clear H
       go_wp2
       go_loopg [12, 13] k2 (fun kq v12 v13 w' => ∃ (x12_3 : List Int) (x13_3 : Int), v13 = .int .i64 x13_3 ∧ Aside0 (purflingref16_Stretch.l1 kq l0 l1 a2 x9_2 x10_2 x12_3 x13_3 = some (r1, r2)) ∧ Aside0 (kq ≤ k2) ∧ Aside0 (Kd.R (Kd.int .i64) 2 w' w.heap.size (fun _ => True) v12 x12_3) ∧ Aside0 (Below w.heap.size w w'))
       case atStart => exact ⟨(([] : List Int)), (0), (by first | rfl | (simp; done) | (simp [*]; done)), H', ⟨Nat.le_refl _⟩, ⟨by first | exact Kd.R_nil _ _ _ _ _ | exact Kd.N_nil _ _ _ _ _ | exact Kd.V_nil _ _ _ _ _ | exact Kd.Q_nil _ _ _ _ _ | exact Kd.S_nil _ _ _ _ _⟩, ⟨by repeat (first | (with_reducible first | exact HB.out | apply below_alloc | apply pw_below_drewN | apply below_drew1) | exact HB.out)⟩⟩
       case round =>
        clear H'
        try clear c1
        try clear c2
        try clear p2
        try clear c3
        try clear p3
        try clear q3
        try clear hx3
        try clear c6
        try clear p6
        try clear c7
        try clear c7b0
        try clear c7b1
        try clear c8
        try clear c8b0
        try clear c8b1
        try clear c8b2
        try clear c9
        try clear c9b0
        try clear c10
        try clear c11
        try clear c11b0
        try clear c13
        try clear c13b0
        try clear c14
        try clear c14b0
        try clear c15
        try clear c16
        try clear c16b0
        try clear c17
        try clear c17b0
        try clear c19
        try clear c19b0
        try clear c20
        try clear c20b0
        try clear c20b1
        try clear hx312_0
        try clear hx313_0
        try clear hx314_0
        try clear hx316_0
        try clear p2
        try clear p3
        try clear p312
        try clear p313
        try clear p314
        try clear p316
        try clear q3
        try clear q312
        try clear q313
        try clear q314
        try clear q316
        obtain ⟨x12_3, x13_3, rfl, HA, HK3, HO_12, HB⟩ := hrel
        cases gk with
        | zero => exact absurd HA.out (by simp [purflingref16_Stretch.l1])
        | succ k3 =>
         have H := HA.out
         clear HA
         simp only [purflingref16_Stretch.l1] at H
         by_cases c21 : x13_3 < (l0.length : Int)
         ·rw [if_pos c21] at H
          have c21b0 : decide (x13_3 < (l0.length : Int)) = true := decide_eq_true c21
          clear c21
          by_cases c22 : 0 ≤ x13_3
          ·rw [if_pos c22] at H
           have c22b0 : decide (0 ≤ x13_3) = true := decide_eq_true c22
           clear c22
           by_cases c23 : x13_3 < (l1.length : Int)
           ·rw [if_pos c23] at H
            have c23b0 : decide (x13_3 < (l1.length : Int)) = true := decide_eq_true c23
            clear c23
            by_cases c24 : (rd l1 x13_3) = (-1)
            ·rw [if_pos c24] at H
             have c24b0 : ((rd l1 x13_3) == (-1)) = true := beq_iff_eq.mpr c24
             have c24b1 : ((rd l1 x13_3) != (-1)) = false := bne_eq_false_iff_eq.mpr c24
             clear c24
             by_cases c25 : x12_3.length < 17592186044416
             ·rw [if_pos c25] at H
              have LMc25 := Aside0.mk c25
              clear c25
              obtain ⟨y319, hy319⟩ : ∃ y_ : List Int, y_ = (x12_3 ++ [rd l0 x13_3]) := ⟨_, rfl⟩
              replace H : (purflingref16_Stretch.l1 k3 l0 l1 a2 x9_2 x10_2 y319 (wrap64 (x13_3 + 1))) = some (r1, r2) := by first | (rw [hy319]; with_reducible exact H) | (have H2_ := (Option.bind_some _ _).symm.trans H; rw [hy319]; with_reducible exact H2_) | (have H2_ := (Option.bind_some _ _).symm.trans H; with_reducible exact H2_) | with_reducible exact H | (rw [hy319]; exact H) | exact H
              have Ny319 := Aside0.mk hy319
              clear hy319
              have H' := Aside0.mk H
              clear H
              have p317 : 0 ≤ (x13_3 : Int) := of_decide_eq_true (by first | (with_reducible assumption) | assumption)
              have q317 : x13_3 < (l1.length : Int) := of_decide_eq_true (by first | (with_reducible assumption) | assumption)
              obtain ⟨ad317, e317, hx317_0⟩ := Kd.at_int HR1.out x13_3 p317 q317
              cases e317
              replace hx317_0 := (HB.out.cell (World.block_lt_of_cell? w _ hx317_0)).trans hx317_0
              replace p317 := eq_true p317
              replace q317 := eq_true q317
              have p318 : 0 ≤ (x13_3 : Int) := of_decide_eq_true (by first | (with_reducible assumption) | assumption)
              have q318 : x13_3 < (l0.length : Int) := of_decide_eq_true (by first | (with_reducible assumption) | assumption)
              obtain ⟨ad318, e318, hx318_0⟩ := Kd.at_int HR0.out x13_3 p318 q318
              cases e318
              replace hx318_0 := (HB.out.cell (World.block_lt_of_cell? w _ hx318_0)).trans hx318_0
              replace p318 := eq_true p318
              replace q318 := eq_true q318
              go_wp2_with (first | ((with_reducible refine gate_builtin (b := .append) (xs := #[.tmp 90, .tmp 95]) rfl ?_); (try (refine gate_guard (by rfl) ?_; dsimp only)); at_builtin; refine Kd.R_append (Kd.int .i64) (w0 := w) w.heap.size rfl (.tmp 90) (.tmp 95) 22 2 (.int .i64 0) 8 rfl Try.underlying22 info2 rfl (by decide) (by omega) u12 x12_3 (rd l0 x13_3) [.int .i64 (rd l0 x13_3)] (fun _ => True) (fun _ => False) rfl rfl ?aP (fun _ hk => hk.elim) ?aF ?aO ?aB ?aS ?aL ?_; (case aP => exact rfl); (case aB => exact (by repeat (first | (with_reducible first | exact HB.out | apply below_alloc | apply pw_below_drewN | apply below_drew1) | exact HB.out))); (case aF => exact (fun _ _ => trivial)); (case aO => exact (by (with_reducible repeat (first | apply Kd.R_alloc | apply Kd.R_drewN | apply Kd.R_drew)); exact HO_12.out)); (case aS => exact (below_size (by repeat (first | (with_reducible first | exact HB.out | apply below_alloc | apply pw_below_drewN | apply below_drew1) | exact HB.out)))); (case aL => have := LMc25.out; omega); intro v320 w26 ho hb hg hat; rw [← Ny319.out] at ho; have n0_ := Aside0.mk (hb); have n1_ := Aside0.mk (ho); clear HB; clear HO_12; have HB := n0_; have HO321 := n1_; clear n0_ n1_; clear ho hb hg hat))
              go_roundg k3
              case measure => have := HJ4.out; have := HK2.out; have := HK3.out; omega
              case rel => exact ⟨(y319), (wrap64 (x13_3 + 1)), (by first | rfl | (simp; done) | (simp [*]; done)), H', ⟨by have := HJ4.out; have := HK2.out; have := HK3.out; omega⟩, ⟨by (with_reducible repeat (first | apply Kd.R_alloc | apply Kd.R_drewN | apply Kd.R_drew)); exact HO321.out⟩, ⟨by repeat (first | (with_reducible first | exact HB.out | apply below_alloc | apply pw_below_drewN | apply below_drew1) | exact HB.out)⟩⟩
             ·rw [if_neg c25] at H
              exact absurd H (by simp)
            ·rw [if_neg c24] at H
             have c24b0 : ((rd l1 x13_3) == (-1)) = false := beq_eq_false_iff_ne.mpr c24
             have c24b1 : ((rd l1 x13_3) != (-1)) = true := bne_iff_ne.mpr c24
             by_cases c27 : x10_2 = 0
             ·rw [if_pos c27] at H
              have c27b0 : (x10_2 == 0) = true := beq_iff_eq.mpr c27
              have c27b1 : (x10_2 != 0) = false := bne_eq_false_iff_eq.mpr c27
              clear c27
              by_cases c28 : x12_3.length < 17592186044416
              ·rw [if_pos c28] at H
               have LMc28 := Aside0.mk c28
               clear c28
               obtain ⟨y323, hy323⟩ : ∃ y_ : List Int, y_ = (x12_3 ++ [rd l0 x13_3]) := ⟨_, rfl⟩
               replace H : (purflingref16_Stretch.l1 k3 l0 l1 a2 x9_2 x10_2 y323 (wrap64 (x13_3 + 1))) = some (r1, r2) := by first | (rw [hy323]; with_reducible exact H) | (have H2_ := (Option.bind_some _ _).symm.trans H; rw [hy323]; with_reducible exact H2_) | (have H2_ := (Option.bind_some _ _).symm.trans H; with_reducible exact H2_) | with_reducible exact H | (rw [hy323]; exact H) | exact H
               have Ny323 := Aside0.mk hy323
               clear hy323
               have H' := Aside0.mk H
               clear H
               have p317 : 0 ≤ (x13_3 : Int) := of_decide_eq_true (by first | (with_reducible assumption) | assumption)
               have q317 : x13_3 < (l1.length : Int) := of_decide_eq_true (by first | (with_reducible assumption) | assumption)
               obtain ⟨ad317, e317, hx317_0⟩ := Kd.at_int HR1.out x13_3 p317 q317
               cases e317
               replace hx317_0 := (HB.out.cell (World.block_lt_of_cell? w _ hx317_0)).trans hx317_0
               replace p317 := eq_true p317
               replace q317 := eq_true q317
               have p322 : 0 ≤ (x13_3 : Int) := of_decide_eq_true (by first | (with_reducible assumption) | assumption)
               have q322 : x13_3 < (l0.length : Int) := of_decide_eq_true (by first | (with_reducible assumption) | assumption)
               obtain ⟨ad322, e322, hx322_0⟩ := Kd.at_int HR0.out x13_3 p322 q322
               cases e322
               replace hx322_0 := (HB.out.cell (World.block_lt_of_cell? w _ hx322_0)).trans hx322_0
               replace p322 := eq_true p322
               replace q322 := eq_true q322
               go_wp2_with (first | ((with_reducible refine gate_builtin (b := .append) (xs := #[.tmp 90, .tmp 95]) rfl ?_); (try (refine gate_guard (by rfl) ?_; dsimp only)); at_builtin; refine Kd.R_append (Kd.int .i64) (w0 := w) w.heap.size rfl (.tmp 90) (.tmp 95) 22 2 (.int .i64 0) 8 rfl Try.underlying22 info2 rfl (by decide) (by omega) u12 x12_3 (rd l0 x13_3) [.int .i64 (rd l0 x13_3)] (fun _ => True) (fun _ => False) rfl rfl ?aP (fun _ hk => hk.elim) ?aF ?aO ?aB ?aS ?aL ?_; (case aP => exact rfl); (case aB => exact (by repeat (first | (with_reducible first | exact HB.out | apply below_alloc | apply pw_below_drewN | apply below_drew1) | exact HB.out))); (case aF => exact (fun _ _ => trivial)); (case aO => exact (by (with_reducible repeat (first | apply Kd.R_alloc | apply Kd.R_drewN | apply Kd.R_drew)); exact HO_12.out)); (case aS => exact (below_size (by repeat (first | (with_reducible first | exact HB.out | apply below_alloc | apply pw_below_drewN | apply below_drew1) | exact HB.out)))); (case aL => have := LMc28.out; omega); intro v324 w29 ho hb hg hat; rw [← Ny323.out] at ho; have n0_ := Aside0.mk (hb); have n1_ := Aside0.mk (ho); clear HB; clear HO_12; have HB := n0_; have HO325 := n1_; clear n0_ n1_; clear ho hb hg hat))
               go_roundg k3
               case measure => have := HJ4.out; have := HK2.out; have := HK3.out; omega
               case rel => exact ⟨(y323), (wrap64 (x13_3 + 1)), (by first | rfl | (simp; done) | (simp [*]; done)), H', ⟨by have := HJ4.out; have := HK2.out; have := HK3.out; omega⟩, ⟨by (with_reducible repeat (first | apply Kd.R_alloc | apply Kd.R_drewN | apply Kd.R_drew)); exact HO325.out⟩, ⟨by repeat (first | (with_reducible first | exact HB.out | apply below_alloc | apply pw_below_drewN | apply below_drew1) | exact HB.out)⟩⟩
              ·rw [if_neg c28] at H
               exact absurd H (by simp)
             ·rw [if_neg c27] at H
              have c27b0 : (x10_2 == 0) = false := beq_eq_false_iff_ne.mpr c27
              have c27b1 : (x10_2 != 0) = true := bne_iff_ne.mpr c27
              have H' := Aside0.mk H
              clear H
              have p317 : 0 ≤ (x13_3 : Int) := of_decide_eq_true (by first | (with_reducible assumption) | assumption)
              have q317 : x13_3 < (l1.length : Int) := of_decide_eq_true (by first | (with_reducible assumption) | assumption)
              obtain ⟨ad317, e317, hx317_0⟩ := Kd.at_int HR1.out x13_3 p317 q317
              cases e317
              replace hx317_0 := (HB.out.cell (World.block_lt_of_cell? w _ hx317_0)).trans hx317_0
              replace p317 := eq_true p317
              replace q317 := eq_true q317
              go_wp2
              go_roundg k3
              case measure => have := HJ4.out; have := HK2.out; have := HK3.out; omega
              case rel => exact ⟨(x12_3), (wrap64 (x13_3 + 1)), (by first | rfl | (simp; done) | (simp [*]; done)), H', ⟨by have := HJ4.out; have := HK2.out; have := HK3.out; omega⟩, ⟨by (with_reducible repeat (first | apply Kd.R_alloc | apply Kd.R_drewN | apply Kd.R_drew)); exact HO_12.out⟩, ⟨by repeat (first | (with_reducible first | exact HB.out | apply below_alloc | apply pw_below_drewN | apply below_drew1) | exact HB.out)⟩⟩
           ·rw [if_neg c23] at H
            exact absurd H (by simp)
          ·rw [if_neg c22] at H
           exact absurd H (by simp)
         ·rw [if_neg c21] at H
          have c21b0 : decide (x13_3 < (l0.length : Int)) = false := decide_eq_false c21
          clear c21
          replace H := Option.bind_eq_some_iff.mp H
          obtain ⟨t326, A300, H⟩ := H
          replace H : ((purflingref01_Share.f k3 (mx 0 t326) x12_3).bind fun bt327 => (purflingref16_Stretch.l2 k3 l0 l1 x10_2 bt327.1 ([] : List Int) 0 0)) = some (r1, r2) := H
          have A30 := Aside0.mk A300
          clear A300
          obtain ⟨ji31, hji31⟩ : ∃ j_ : Int, (mx 0 t326) = j_ := ⟨_, rfl⟩
          replace H : ((purflingref01_Share.f k3 (ji31) x12_3).bind fun bt327 => (purflingref16_Stretch.l2 k3 l0 l1 x10_2 bt327.1 ([] : List Int) 0 0)) = some (r1, r2) := by first | (rw [hji31] at H; exact H) | (simp only [hji31] at H ⊢; exact H)
          (try rw [hji31] at A30)
          (try (have hji31l : 0 ≤ ji31 := by (rw [← hji31]; unfold mx; (repeat' split) <;> omega)))
          (try (have hji31m : 0 ≤ ji31 := by omega))
          have hji31_ : (if 0 < t326 then t326 else 0) = ji31 := hji31
          replace H := Option.bind_eq_some_iff.mp H
          obtain ⟨⟨t327, t328⟩, A320, H⟩ := H
          replace H : (purflingref16_Stretch.l2 k3 l0 l1 x10_2 t327 ([] : List Int) 0 0) = some (r1, r2) := H
          have A32 := Aside0.mk A320
          clear A320
          have H' := Aside0.mk H
          clear H
          go_wp2_with (first | ((with_reducible refine gate_callee (f := 34) rfl ?_); refine goesL_ (some 100) rfl rfl Try.func34 (by kernel_rfl) rfl #[.int .i64 a2, .int .i64 x9_2] rfl (by (try simp only [List.map_toArray, List.map_cons, List.map_nil]); first | done | rfl | (simp only [List.length_drop, List.length_take]; rfl)) ?_; (with_reducible refine (purflingref01_Sub.calls k3 a2 x9_2 t326 _ A30.out).mono ?_); rintro e w' ⟨rfl, ⟨nd, rfl⟩⟩; refine ⟨_, rfl, ?_⟩; obtain ⟨Ao33, co33, eo33⟩ := Kd.R_slice HO_12.out; subst eo33) | ((with_reducible refine gate_callee (f := 33) rfl ?_); refine goesL_ (some 103) rfl rfl Try.func33 (by kernel_rfl) rfl #[.int .i64 ji31, .slice Ao33 x12_3.length co33] rfl (by (try simp only [List.map_toArray, List.map_cons, List.map_nil]); first | done | (simp only [hji31]; rfl) | rfl | (simp only [List.length_drop, List.length_take]; rfl)) ?_; (with_reducible refine (purflingref01_Share.calls k3 ji31 _ _ x12_3 t327 t328 _ ?side1 ?side2 A32.out).mono ?_); (case side1 => repeat (first | exact (Kd.R_reads' HO_12.out).2.2 | (with_reducible refine Kd.C_alloc ?_ _) | (with_reducible refine Kd.C_drewN ?_ _) | (with_reducible refine Kd.C_drew ?_))); (case side2 => exact (Kd.R_reads' HO_12.out).2.1); rintro e w34 ⟨v329, rfl, ho0, hb⟩; refine ⟨_, rfl, ?_⟩; have n0_ := Aside0.mk (Kd.R_elder' (by (with_reducible repeat (first | apply Kd.R_alloc | apply Kd.R_drewN | apply Kd.R_drew)); exact HO_12.out) (Kd.R_base ho0) hb); have n1_ := Aside0.mk (Kd.R_lower (Kd.R_new' ho0 (Kd.R_lt (by (with_reducible repeat (first | apply Kd.R_alloc | apply Kd.R_drewN | apply Kd.R_drew)); exact HO_12.out))) (below_size (by repeat (first | (with_reducible first | exact HB.out | apply below_alloc | apply pw_below_drewN | apply below_drew1) | exact HB.out)))); have n2_ := Aside0.mk (below_step (by repeat (first | (with_reducible first | exact HB.out | apply below_alloc | apply pw_below_drewN | apply below_drew1) | exact HB.out)) hb); clear HO_12; clear HB; have HO_12 := n0_; have HO330 := n1_; have HB := n2_; clear n0_ n1_ n2_; (try clear hb); (try clear hb2); (try clear hk); (try clear hi); (try clear ho0)))
          go_loopg [16, 17, 18] k3 (fun kq v16 v17 v18 w' => ∃ (x16_4 : List Int) (x17_4 : Int) (x18_4 : Int), v17 = .int .i64 x17_4 ∧ v18 = .int .i64 x18_4 ∧ Aside0 (purflingref16_Stretch.l2 kq l0 l1 x10_2 t327 x16_4 x17_4 x18_4 = some (r1, r2)) ∧ Aside0 (kq ≤ k3) ∧ Aside0 (Kd.R (Kd.int .i64) 2 w' w.heap.size (fun k_ => some k_ ≠ (v16 : Value).ownBlock) v329 t327) ∧ Aside0 (Kd.R (Kd.int .i64) 2 w' w.heap.size (fun k_ => some k_ ≠ (v329 : Value).ownBlock) v16 x16_4) ∧ Aside0 (Below w.heap.size w w'))
          case atStart => exact ⟨(([] : List Int)), (0), (0), (by first | rfl | (simp; done) | (simp [*]; done)), (by first | rfl | (simp; done) | (simp [*]; done)), H', ⟨Nat.le_refl _⟩, ⟨by (with_reducible repeat (first | apply Kd.R_alloc | apply Kd.R_drewN | apply Kd.R_drew)); exact Kd.R_mono HO330.out (fun _ hk => (by simp [Value.ownBlock]))⟩, ⟨by first | exact Kd.R_nil _ _ _ _ _ | exact Kd.N_nil _ _ _ _ _ | exact Kd.V_nil _ _ _ _ _ | exact Kd.Q_nil _ _ _ _ _ | exact Kd.S_nil _ _ _ _ _⟩, ⟨by repeat (first | (with_reducible first | exact HB.out | apply below_alloc | apply pw_below_drewN | apply below_drew1) | exact HB.out)⟩⟩
          case round =>
           clear H'
           try clear c1
           try clear c2
           try clear p2
           try clear c3
           try clear p3
           try clear q3
           try clear hx3
           try clear c6
           try clear p6
           try clear c7
           try clear c7b0
           try clear c7b1
           try clear c8
           try clear c8b0
           try clear c8b1
           try clear c8b2
           try clear c9
           try clear c9b0
           try clear c10
           try clear c11
           try clear c11b0
           try clear c13
           try clear c13b0
           try clear c14
           try clear c14b0
           try clear c15
           try clear c16
           try clear c16b0
           try clear c17
           try clear c17b0
           try clear c19
           try clear c19b0
           try clear c20
           try clear c20b0
           try clear c20b1
           try clear c21
           try clear c21b0
           try clear c22
           try clear c22b0
           try clear c23
           try clear c23b0
           try clear c24
           try clear c24b0
           try clear c24b1
           try clear c25
           try clear c27
           try clear c27b0
           try clear c27b1
           try clear c28
           try clear p31
           try clear q31
           try clear hx31
           try clear c32
           try clear p32
           try clear q32
           try clear hx32
           try clear c33
           try clear c34
           try clear hx312_0
           try clear hx313_0
           try clear hx314_0
           try clear hx316_0
           try clear hx317_0
           try clear hx318_0
           try clear hx322_0
           try clear p2
           try clear p3
           try clear p312
           try clear p313
           try clear p314
           try clear p316
           try clear p317
           try clear p318
           try clear p322
           try clear p6
           try clear q3
           try clear q312
           try clear q313
           try clear q314
           try clear q316
           try clear q317
           try clear q318
           try clear q322
           obtain ⟨x16_4, x17_4, x18_4, rfl, rfl, HA, HK4, HO_14, HO_16, HB⟩ := hrel
           cases gk with
           | zero => exact absurd HA.out (by simp [purflingref16_Stretch.l2])
           | succ k4 =>
            have H := HA.out
            clear HA
            simp only [purflingref16_Stretch.l2] at H
            by_cases c35 : x18_4 < (l0.length : Int)
            ·rw [if_pos c35] at H
             have c35b0 : decide (x18_4 < (l0.length : Int)) = true := decide_eq_true c35
             clear c35
             by_cases c36 : 0 ≤ x18_4
             ·rw [if_pos c36] at H
              have c36b0 : decide (0 ≤ x18_4) = true := decide_eq_true c36
              clear c36
              by_cases c37 : x18_4 < (l1.length : Int)
              ·rw [if_pos c37] at H
               have c37b0 : decide (x18_4 < (l1.length : Int)) = true := decide_eq_true c37
               clear c37
               by_cases c38 : (rd l1 x18_4) = (-1)
               ·rw [if_pos c38] at H
                have c38b0 : ((rd l1 x18_4) == (-1)) = true := beq_iff_eq.mpr c38
                have c38b1 : ((rd l1 x18_4) != (-1)) = false := bne_eq_false_iff_eq.mpr c38
                clear c38
                by_cases c39 : 0 ≤ x17_4
                ·rw [if_pos c39] at H
                 have c39b0 : decide (0 ≤ x17_4) = true := decide_eq_true c39
                 clear c39
                 by_cases c40 : x17_4 < (t327.length : Int)
                 ·rw [if_pos c40] at H
                  have c40b0 : decide (x17_4 < (t327.length : Int)) = true := decide_eq_true c40
                  clear c40
                  by_cases c41 : x16_4.length < 17592186044416
                  ·rw [if_pos c41] at H
                   have LMc41 := Aside0.mk c41
                   clear c41
                   obtain ⟨y334, hy334⟩ : ∃ y_ : List Int, y_ = (x16_4 ++ [wrap64 ((rd l0 x18_4) + (rd t327 x17_4))]) := ⟨_, rfl⟩
                   replace H : (purflingref16_Stretch.l2 k4 l0 l1 x10_2 t327 y334 (wrap64 (x17_4 + 1)) (wrap64 (x18_4 + 1))) = some (r1, r2) := by first | (rw [hy334]; with_reducible exact H) | (have H2_ := (Option.bind_some _ _).symm.trans H; rw [hy334]; with_reducible exact H2_) | (have H2_ := (Option.bind_some _ _).symm.trans H; with_reducible exact H2_) | with_reducible exact H | (rw [hy334]; exact H) | exact H
                   have Ny334 := Aside0.mk hy334
                   clear hy334
                   have H' := Aside0.mk H
                   clear H
                   have p331 : 0 ≤ (x18_4 : Int) := of_decide_eq_true (by first | (with_reducible assumption) | assumption)
                   have q331 : x18_4 < (l0.length : Int) := of_decide_eq_true (by first | (with_reducible assumption) | assumption)
                   obtain ⟨ad331, e331, hx331_0⟩ := Kd.at_int HR0.out x18_4 p331 q331
                   cases e331
                   replace hx331_0 := (HB.out.cell (World.block_lt_of_cell? w _ hx331_0)).trans hx331_0
                   replace p331 := eq_true p331
                   replace q331 := eq_true q331
                   have p332 : 0 ≤ (x18_4 : Int) := of_decide_eq_true (by first | (with_reducible assumption) | assumption)
                   have q332 : x18_4 < (l1.length : Int) := of_decide_eq_true (by first | (with_reducible assumption) | assumption)
                   obtain ⟨ad332, e332, hx332_0⟩ := Kd.at_int HR1.out x18_4 p332 q332
                   cases e332
                   replace hx332_0 := (HB.out.cell (World.block_lt_of_cell? w _ hx332_0)).trans hx332_0
                   replace p332 := eq_true p332
                   replace q332 := eq_true q332
                   obtain ⟨Ao42, co42, eo42⟩ := Kd.R_slice HO_14.out
                   subst eo42
                   have p333 : 0 ≤ (x17_4 : Int) := of_decide_eq_true (by first | (with_reducible assumption) | assumption)
                   have q333 : x17_4 < (t327.length : Int) := of_decide_eq_true (by first | (with_reducible assumption) | assumption)
                   obtain ⟨ad333, e333, hx333_0⟩ := Kd.at_int (Kd.R_reads' HO_14.out).2.2 x17_4 p333 q333
                   cases e333
                   replace p333 := eq_true p333
                   replace q333 := eq_true q333
                   go_wp2_with (first | ((with_reducible refine gate_builtin (b := .append) (xs := #[.tmp 133, .tmp 135]) rfl ?_); (try (refine gate_guard (by rfl) ?_; dsimp only)); at_builtin; refine Kd.R_append (Kd.int .i64) (w0 := w) w.heap.size rfl (.tmp 133) (.tmp 135) 22 2 (.int .i64 0) 8 rfl Try.underlying22 info2 rfl (by decide) (by omega) u16 x16_4 (wrap64 ((rd l0 x18_4) + (rd t327 x17_4))) [.int .i64 (wrap64 ((rd l0 x18_4) + (rd t327 x17_4)))] (fun k_ => some k_ ≠ (.slice (some ad333) t327.length co42 : Value).ownBlock) (fun _ => False) rfl rfl ?aP (fun _ hk => hk.elim) ?aF ?aO ?aB ?aS ?aL ?_; (case aP => exact rfl); (case aB => exact (by repeat (first | (with_reducible first | exact HB.out | apply below_alloc | apply pw_below_drewN | apply below_drew1) | exact HB.out))); (case aF => exact (fun k_ hk => Kd.fresh' (Kd.R_lt (by (with_reducible repeat (first | apply Kd.R_alloc | apply Kd.R_drewN | apply Kd.R_drew)); exact HO_14.out)) k_ hk)); (case aO => exact (by (with_reducible repeat (first | apply Kd.R_alloc | apply Kd.R_drewN | apply Kd.R_drew)); exact HO_16.out)); (case aS => exact (below_size (by repeat (first | (with_reducible first | exact HB.out | apply below_alloc | apply pw_below_drewN | apply below_drew1) | exact HB.out)))); (case aL => have := LMc41.out; omega); intro v335 w43 ho hb hg hat; rw [← Ny334.out] at ho; have n0_ := Aside0.mk (Kd.R_after (ok := (fun _ => True)) (by (with_reducible repeat (first | apply Kd.R_alloc | apply Kd.R_drewN | apply Kd.R_drew)); exact Kd.R_mono HO_14.out (fun _ hk => ⟨trivial, hk⟩)) hg hat); have n1_ := Aside0.mk (hb); have n2_ := Aside0.mk (ho); clear HO_14; clear HB; clear HO_16; have HO_14 := n0_; have HB := n1_; have HO336 := n2_; clear n0_ n1_ n2_; clear ho hb hg hat))
                   go_roundg k4
                   case measure => have := HJ4.out; have := HK2.out; have := HK3.out; have := HK4.out; omega
                   case rel => exact ⟨(y334), (wrap64 (x17_4 + 1)), (wrap64 (x18_4 + 1)), (by first | rfl | (simp; done) | (simp [*]; done)), (by first | rfl | (simp; done) | (simp [*]; done)), H', ⟨by have := HJ4.out; have := HK2.out; have := HK3.out; have := HK4.out; omega⟩, ⟨by (with_reducible repeat (first | apply Kd.R_alloc | apply Kd.R_drewN | apply Kd.R_drew)); exact Kd.R_mono HO_14.out (fun _ hk => hk.2)⟩, ⟨by (with_reducible repeat (first | apply Kd.R_alloc | apply Kd.R_drewN | apply Kd.R_drew)); exact HO336.out⟩, ⟨by repeat (first | (with_reducible first | exact HB.out | apply below_alloc | apply pw_below_drewN | apply below_drew1) | exact HB.out)⟩⟩
                  ·rw [if_neg c41] at H
                   exact absurd H (by simp)
                 ·rw [if_neg c40] at H
                  exact absurd H (by simp)
                ·rw [if_neg c39] at H
                 exact absurd H (by simp)
               ·rw [if_neg c38] at H
                have c38b0 : ((rd l1 x18_4) == (-1)) = false := beq_eq_false_iff_ne.mpr c38
                have c38b1 : ((rd l1 x18_4) != (-1)) = true := bne_iff_ne.mpr c38
                by_cases c44 : x10_2 = 0
                ·rw [if_pos c44] at H
                 have c44b0 : (x10_2 == 0) = true := beq_iff_eq.mpr c44
                 have c44b1 : (x10_2 != 0) = false := bne_eq_false_iff_eq.mpr c44
                 clear c44
                 by_cases c45 : 0 ≤ x17_4
                 ·rw [if_pos c45] at H
                  have c45b0 : decide (0 ≤ x17_4) = true := decide_eq_true c45
                  clear c45
                  by_cases c46 : x17_4 < (t327.length : Int)
                  ·rw [if_pos c46] at H
                   have c46b0 : decide (x17_4 < (t327.length : Int)) = true := decide_eq_true c46
                   clear c46
                   by_cases c47 : x16_4.length < 17592186044416
                   ·rw [if_pos c47] at H
                    have LMc47 := Aside0.mk c47
                    clear c47
                    obtain ⟨y338, hy338⟩ : ∃ y_ : List Int, y_ = (x16_4 ++ [wrap64 ((rd l0 x18_4) + (rd t327 x17_4))]) := ⟨_, rfl⟩
                    replace H : (purflingref16_Stretch.l2 k4 l0 l1 x10_2 t327 y338 (wrap64 (x17_4 + 1)) (wrap64 (x18_4 + 1))) = some (r1, r2) := by first | (rw [hy338]; with_reducible exact H) | (have H2_ := (Option.bind_some _ _).symm.trans H; rw [hy338]; with_reducible exact H2_) | (have H2_ := (Option.bind_some _ _).symm.trans H; with_reducible exact H2_) | with_reducible exact H | (rw [hy338]; exact H) | exact H
                    have Ny338 := Aside0.mk hy338
                    clear hy338
                    have H' := Aside0.mk H
                    clear H
                    have p331 : 0 ≤ (x18_4 : Int) := of_decide_eq_true (by first | (with_reducible assumption) | assumption)
                    have q331 : x18_4 < (l0.length : Int) := of_decide_eq_true (by first | (with_reducible assumption) | assumption)
                    obtain ⟨ad331, e331, hx331_0⟩ := Kd.at_int HR0.out x18_4 p331 q331
                    cases e331
                    replace hx331_0 := (HB.out.cell (World.block_lt_of_cell? w _ hx331_0)).trans hx331_0
                    replace p331 := eq_true p331
                    replace q331 := eq_true q331
                    have p332 : 0 ≤ (x18_4 : Int) := of_decide_eq_true (by first | (with_reducible assumption) | assumption)
                    have q332 : x18_4 < (l1.length : Int) := of_decide_eq_true (by first | (with_reducible assumption) | assumption)
                    obtain ⟨ad332, e332, hx332_0⟩ := Kd.at_int HR1.out x18_4 p332 q332
                    cases e332
                    replace hx332_0 := (HB.out.cell (World.block_lt_of_cell? w _ hx332_0)).trans hx332_0
                    replace p332 := eq_true p332
                    replace q332 := eq_true q332
                    obtain ⟨Ao48, co48, eo48⟩ := Kd.R_slice HO_14.out
                    subst eo48
                    have p337 : 0 ≤ (x17_4 : Int) := of_decide_eq_true (by first | (with_reducible assumption) | assumption)
                    have q337 : x17_4 < (t327.length : Int) := of_decide_eq_true (by first | (with_reducible assumption) | assumption)
                    obtain ⟨ad337, e337, hx337_0⟩ := Kd.at_int (Kd.R_reads' HO_14.out).2.2 x17_4 p337 q337
                    cases e337
                    replace p337 := eq_true p337
                    replace q337 := eq_true q337
                    go_wp2_with (first | ((with_reducible refine gate_builtin (b := .append) (xs := #[.tmp 133, .tmp 135]) rfl ?_); (try (refine gate_guard (by rfl) ?_; dsimp only)); at_builtin; refine Kd.R_append (Kd.int .i64) (w0 := w) w.heap.size rfl (.tmp 133) (.tmp 135) 22 2 (.int .i64 0) 8 rfl Try.underlying22 info2 rfl (by decide) (by omega) u16 x16_4 (wrap64 ((rd l0 x18_4) + (rd t327 x17_4))) [.int .i64 (wrap64 ((rd l0 x18_4) + (rd t327 x17_4)))] (fun k_ => some k_ ≠ (.slice (some ad337) t327.length co48 : Value).ownBlock) (fun _ => False) rfl rfl ?aP (fun _ hk => hk.elim) ?aF ?aO ?aB ?aS ?aL ?_; (case aP => exact rfl); (case aB => exact (by repeat (first | (with_reducible first | exact HB.out | apply below_alloc | apply pw_below_drewN | apply below_drew1) | exact HB.out))); (case aF => exact (fun k_ hk => Kd.fresh' (Kd.R_lt (by (with_reducible repeat (first | apply Kd.R_alloc | apply Kd.R_drewN | apply Kd.R_drew)); exact HO_14.out)) k_ hk)); (case aO => exact (by (with_reducible repeat (first | apply Kd.R_alloc | apply Kd.R_drewN | apply Kd.R_drew)); exact HO_16.out)); (case aS => exact (below_size (by repeat (first | (with_reducible first | exact HB.out | apply below_alloc | apply pw_below_drewN | apply below_drew1) | exact HB.out)))); (case aL => have := LMc47.out; omega); intro v339 w49 ho hb hg hat; rw [← Ny338.out] at ho; have n0_ := Aside0.mk (Kd.R_after (ok := (fun _ => True)) (by (with_reducible repeat (first | apply Kd.R_alloc | apply Kd.R_drewN | apply Kd.R_drew)); exact Kd.R_mono HO_14.out (fun _ hk => ⟨trivial, hk⟩)) hg hat); have n1_ := Aside0.mk (hb); have n2_ := Aside0.mk (ho); clear HO_14; clear HB; clear HO_16; have HO_14 := n0_; have HB := n1_; have HO340 := n2_; clear n0_ n1_ n2_; clear ho hb hg hat))
                    go_roundg k4
                    case measure => have := HJ4.out; have := HK2.out; have := HK3.out; have := HK4.out; omega
                    case rel => exact ⟨(y338), (wrap64 (x17_4 + 1)), (wrap64 (x18_4 + 1)), (by first | rfl | (simp; done) | (simp [*]; done)), (by first | rfl | (simp; done) | (simp [*]; done)), H', ⟨by have := HJ4.out; have := HK2.out; have := HK3.out; have := HK4.out; omega⟩, ⟨by (with_reducible repeat (first | apply Kd.R_alloc | apply Kd.R_drewN | apply Kd.R_drew)); exact Kd.R_mono HO_14.out (fun _ hk => hk.2)⟩, ⟨by (with_reducible repeat (first | apply Kd.R_alloc | apply Kd.R_drewN | apply Kd.R_drew)); exact HO340.out⟩, ⟨by repeat (first | (with_reducible first | exact HB.out | apply below_alloc | apply pw_below_drewN | apply below_drew1) | exact HB.out)⟩⟩
                   ·rw [if_neg c47] at H
                    exact absurd H (by simp)
                  ·rw [if_neg c46] at H
                   exact absurd H (by simp)
                 ·rw [if_neg c45] at H
                  exact absurd H (by simp)
                ·rw [if_neg c44] at H
                 have c44b0 : (x10_2 == 0) = false := beq_eq_false_iff_ne.mpr c44
                 have c44b1 : (x10_2 != 0) = true := bne_iff_ne.mpr c44
                 by_cases c50 : x16_4.length < 17592186044416
                 ·rw [if_pos c50] at H
                  have LMc50 := Aside0.mk c50
                  clear c50
                  obtain ⟨y341, hy341⟩ : ∃ y_ : List Int, y_ = (x16_4 ++ [rd l0 x18_4]) := ⟨_, rfl⟩
                  replace H : (purflingref16_Stretch.l2 k4 l0 l1 x10_2 t327 y341 x17_4 (wrap64 (x18_4 + 1))) = some (r1, r2) := by first | (rw [hy341]; with_reducible exact H) | (have H2_ := (Option.bind_some _ _).symm.trans H; rw [hy341]; with_reducible exact H2_) | (have H2_ := (Option.bind_some _ _).symm.trans H; with_reducible exact H2_) | with_reducible exact H | (rw [hy341]; exact H) | exact H
                  have Ny341 := Aside0.mk hy341
                  clear hy341
                  have H' := Aside0.mk H
                  clear H
                  have p331 : 0 ≤ (x18_4 : Int) := of_decide_eq_true (by first | (with_reducible assumption) | assumption)
                  have q331 : x18_4 < (l0.length : Int) := of_decide_eq_true (by first | (with_reducible assumption) | assumption)
                  obtain ⟨ad331, e331, hx331_0⟩ := Kd.at_int HR0.out x18_4 p331 q331
                  cases e331
                  replace hx331_0 := (HB.out.cell (World.block_lt_of_cell? w _ hx331_0)).trans hx331_0
                  replace p331 := eq_true p331
                  replace q331 := eq_true q331
                  have p332 : 0 ≤ (x18_4 : Int) := of_decide_eq_true (by first | (with_reducible assumption) | assumption)
                  have q332 : x18_4 < (l1.length : Int) := of_decide_eq_true (by first | (with_reducible assumption) | assumption)
                  obtain ⟨ad332, e332, hx332_0⟩ := Kd.at_int HR1.out x18_4 p332 q332
                  cases e332
                  replace hx332_0 := (HB.out.cell (World.block_lt_of_cell? w _ hx332_0)).trans hx332_0
                  replace p332 := eq_true p332
                  replace q332 := eq_true q332
                  go_wp2_with (first | ((with_reducible refine gate_builtin (b := .append) (xs := #[.tmp 133, .tmp 135]) rfl ?_); (try (refine gate_guard (by rfl) ?_; dsimp only)); at_builtin; refine Kd.R_append (Kd.int .i64) (w0 := w) w.heap.size rfl (.tmp 133) (.tmp 135) 22 2 (.int .i64 0) 8 rfl Try.underlying22 info2 rfl (by decide) (by omega) u16 x16_4 (rd l0 x18_4) [.int .i64 (rd l0 x18_4)] (fun k_ => some k_ ≠ (v329 : Value).ownBlock) (fun _ => False) rfl rfl ?aP (fun _ hk => hk.elim) ?aF ?aO ?aB ?aS ?aL ?_; (case aP => exact rfl); (case aB => exact (by repeat (first | (with_reducible first | exact HB.out | apply below_alloc | apply pw_below_drewN | apply below_drew1) | exact HB.out))); (case aF => exact (fun k_ hk => Kd.fresh' (Kd.R_lt (by (with_reducible repeat (first | apply Kd.R_alloc | apply Kd.R_drewN | apply Kd.R_drew)); exact HO_14.out)) k_ hk)); (case aO => exact (by (with_reducible repeat (first | apply Kd.R_alloc | apply Kd.R_drewN | apply Kd.R_drew)); exact HO_16.out)); (case aS => exact (below_size (by repeat (first | (with_reducible first | exact HB.out | apply below_alloc | apply pw_below_drewN | apply below_drew1) | exact HB.out)))); (case aL => have := LMc50.out; omega); intro v342 w51 ho hb hg hat; rw [← Ny341.out] at ho; have n0_ := Aside0.mk (Kd.R_after (ok := (fun _ => True)) (by (with_reducible repeat (first | apply Kd.R_alloc | apply Kd.R_drewN | apply Kd.R_drew)); exact Kd.R_mono HO_14.out (fun _ hk => ⟨trivial, hk⟩)) hg hat); have n1_ := Aside0.mk (hb); have n2_ := Aside0.mk (ho); clear HO_14; clear HB; clear HO_16; have HO_14 := n0_; have HB := n1_; have HO343 := n2_; clear n0_ n1_ n2_; clear ho hb hg hat))
                  go_roundg k4
                  case measure => have := HJ4.out; have := HK2.out; have := HK3.out; have := HK4.out; omega
                  case rel => exact ⟨(y341), (x17_4), (wrap64 (x18_4 + 1)), (by first | rfl | (simp; done) | (simp [*]; done)), (by first | rfl | (simp; done) | (simp [*]; done)), H', ⟨by have := HJ4.out; have := HK2.out; have := HK3.out; have := HK4.out; omega⟩, ⟨by (with_reducible repeat (first | apply Kd.R_alloc | apply Kd.R_drewN | apply Kd.R_drew)); exact Kd.R_mono HO_14.out (fun _ hk => hk.2)⟩, ⟨by (with_reducible repeat (first | apply Kd.R_alloc | apply Kd.R_drewN | apply Kd.R_drew)); exact HO343.out⟩, ⟨by repeat (first | (with_reducible first | exact HB.out | apply below_alloc | apply pw_below_drewN | apply below_drew1) | exact HB.out)⟩⟩
                 ·rw [if_neg c50] at H
                  exact absurd H (by simp)
              ·rw [if_neg c37] at H
               exact absurd H (by simp)
             ·rw [if_neg c36] at H
              exact absurd H (by simp)
            ·rw [if_neg c35] at H
             have c35b0 : decide (x18_4 < (l0.length : Int)) = false := decide_eq_false c35
             clear c35
             simp only [Option.some.injEq, Prod.mk.injEq] at H
             obtain ⟨rfl, rfl⟩ := H
             go_wp2
             go_ret2
             exact ⟨_, by first | rfl | (simp [errW_none, errW_some] <;> rfl) | (simp only [← hji31]; first | rfl | (simp [errW_none, errW_some] <;> rfl)) | (simp [*, errW_none, errW_some] <;> rfl), by (with_reducible repeat (first | apply Kd.R_alloc | apply Kd.R_drewN | apply Kd.R_drew)); exact Kd.R_mono HO_16.out (fun _ hk => trivial), by repeat (first | (with_reducible first | exact HB.out | apply below_alloc | apply pw_below_drewN | apply below_drew1) | exact HB.out)⟩

end Go.Proofs.Ytgghbmhmpkeccaa.PA
