-- MADE by wip/tools/xprint.py of this repo: the kit's print.py, turned by this session, and texts by hand
import Derived.Test.YtacigmhhegaieaaPAx0
import Derived.Test.YtacigmhhegaieaaPAx3
import Derived.Test.YtacigmhhegaieaaPAx4
import Derived.Test.YtacigmhhegaieaaPAx23
namespace Go.Proofs.Ytacigmhhegaieaa.PA
open Go.RowKit Go.Proofs.YtacigmhhegaieaaW.PrintWords Go.Proofs.YtacigmhhegaieaaW.PrintLast Go.Proofs.YtacigmhhegaieaaW.PrintMore
attribute [local go_sem] max2_int min2_int max_two min_two max_three min_three max_four min_four   -- for this text's walks alone
set_option linter.unusedVariables false
set_option linter.unusedSimpArgs false

/-! ### purflingref01_Share: function 63 -/
mutual
def purflingref01_Share.l0 : Nat → Int → List Int → Int → Int → Option (List Int × Int)
 | 0, _, _, _, _ => none
 | k + 1, x0, x1, x6, x7 => if x7 < (x1.length : Int) then (if 0 ≤ x7 then (if (rd x1 x7) < 0 then (some (([] : List Int), 10)) else (if (rd x1 x7) ≥ 1125899906842624 then (some (([] : List Int), 10)) else (purflingref01_Share.l0 k x0 x1 (IntKind.u64.wrap (x6 + (IntKind.u64.wrap (rd x1 x7)))) (wrap64 (x7 + 1))))) else (none)) else (if x6 = 0 then ((purflingref01_Even.f k x0 (x1.length : Int)).bind fun bt197 => (some (bt197.1, bt197.2))) else (purflingref01_Share.l1 k x0 x1 x6 ([] : List Int) ([] : List Int) x0 0))
def purflingref01_Share.l1 : Nat → Int → List Int → Int → List Int → List Int → Int → Int → Option (List Int × Int)
 | 0, _, _, _, _, _, _, _ => none
 | k + 1, x0, x1, x6, x8, x9, x10, x11 => if x11 < (x1.length : Int) then (if 0 ≤ x11 then ((bits_Mul64.f (IntKind.u64.wrap (x0)) (IntKind.u64.wrap (rd x1 x11))).bind fun bt202 => ((bits_Div64.f k bt202.1 bt202.2 x6).bind fun bt204 => (if x8.length < 17592186044416 then (if x9.length < 17592186044416 then (purflingref01_Share.l1 k x0 x1 x6 (x8 ++ [wrap64 (bt204.1)]) (x9 ++ [bt204.2]) (wrap64 (x10 - (wrap64 (bt204.1)))) (wrap64 (x11 + 1))) else (none)) else (none)))) else (none)) else (if 0 ≤ (x1.length : Int) then (if ((x1.length : Int) : Int).toNat ≤ 281474976710656 then (purflingref01_Share.l2 k x1 x8 x9 x10 (List.replicate ((x1.length : Int) : Int).toNat false)) else (none)) else (none))
def purflingref01_Share.l2 : Nat → List Int → List Int → List Int → Int → List Bool → Option (List Int × Int)
 | 0, _, _, _, _, _ => none
 | k + 1, x1, x8, x9, x10, x16 => if x10 > 0 then (purflingref01_Share.l3 k x1 x8 x9 x10 x16 (-1) 0) else (some (x8, 0))
def purflingref01_Share.l3 : Nat → List Int → List Int → List Int → Int → List Bool → Int → Int → Option (List Int × Int)
 | 0, _, _, _, _, _, _, _ => none
 | k + 1, x1, x8, x9, x10, x16, x17, x18 => if x18 < (x1.length : Int) then (if 0 ≤ x18 then (if x18 < (x16.length : Int) then (if rdOf false x16 x18 = true then (purflingref01_Share.l3 k x1 x8 x9 x10 x16 x17 (wrap64 (x18 + 1))) else (if x17 < 0 then (purflingref01_Share.l3 k x1 x8 x9 x10 x16 x18 (wrap64 (x18 + 1))) else ((purflingref01_more.f x9 x18 x17).bind fun t216 => (if t216 = true then (purflingref01_Share.l3 k x1 x8 x9 x10 x16 x18 (wrap64 (x18 + 1))) else (purflingref01_Share.l3 k x1 x8 x9 x10 x16 x17 (wrap64 (x18 + 1))))))) else (none)) else (none)) else (if 0 ≤ x17 then (if x17 < (x16.length : Int) then (if x17 < (x8.length : Int) then (purflingref01_Share.l2 k x1 (x8.set (x17 : Int).toNat (wrap64 ((rd x8 x17) + 1))) x9 (wrap64 (x10 - 1)) (x16.set (x17 : Int).toNat true)) else (none)) else (none)) else (none))
end
def purflingref01_Share.f (k : Nat) (a0 : Int) (l1 : List Int) : Option (List Int × Int) := (purflingref01_shared.f a0 (l1.length : Int)).bind fun t193 => (if t193 = true then (purflingref01_Share.l0 k a0 l1 0 0) else (some (([] : List Int), 10)))
theorem purflingref01_Share.mono_l : ∀ k, (∀ y0 y1 y2 y3, LeO (purflingref01_Share.l0 k y0 y1 y2 y3) (purflingref01_Share.l0 (k + 1) y0 y1 y2 y3)) ∧ (∀ y0 y1 y2 y3 y4 y5 y6, LeO (purflingref01_Share.l1 k y0 y1 y2 y3 y4 y5 y6) (purflingref01_Share.l1 (k + 1) y0 y1 y2 y3 y4 y5 y6)) ∧ (∀ y0 y1 y2 y3 y4, LeO (purflingref01_Share.l2 k y0 y1 y2 y3 y4) (purflingref01_Share.l2 (k + 1) y0 y1 y2 y3 y4)) ∧ (∀ y0 y1 y2 y3 y4 y5 y6, LeO (purflingref01_Share.l3 k y0 y1 y2 y3 y4 y5 y6) (purflingref01_Share.l3 (k + 1) y0 y1 y2 y3 y4 y5 y6))
 | 0 => ⟨fun _ _ _ _ r h => by simp [purflingref01_Share.l0] at h, fun _ _ _ _ _ _ _ r h => by simp [purflingref01_Share.l1] at h, fun _ _ _ _ _ r h => by simp [purflingref01_Share.l2] at h, fun _ _ _ _ _ _ _ r h => by simp [purflingref01_Share.l3] at h⟩
 | k + 1 => by
  obtain ⟨ih0, ih1, ih2, ih3⟩ := purflingref01_Share.mono_l k
  refine ⟨?_, ?_, ?_, ?_⟩
  ·intro y0 y1 y2 y3
   unfold purflingref01_Share.l0
   repeat' first
   | (with_reducible exact ih0 _ _ _ _)
   | (with_reducible exact ih1 _ _ _ _ _ _ _)
   | (with_reducible exact ih2 _ _ _ _ _)
   | (with_reducible exact ih3 _ _ _ _ _ _ _)
   | (with_reducible exact bits_Div64.mono _ _ _ _)
   | (with_reducible exact purflingref01_Even.mono _ _ _)
   | (with_reducible exact LeO.refl _)
   | (with_reducible exact LeO.none _)
   | (with_reducible refine LeO.ite ?_ ?_)
   | (with_reducible refine LeO.bind ?_ (fun _ => ?_))
   | exact ih0 _ _ _ _
   | exact ih1 _ _ _ _ _ _ _
   | exact ih2 _ _ _ _ _
   | exact ih3 _ _ _ _ _ _ _
   | exact bits_Div64.mono _ _ _ _
   | exact purflingref01_Even.mono _ _ _
   | exact LeO.none _
   | refine LeO.ite ?_ ?_
   | refine LeO.bind ?_ (fun _ => ?_)
  ·intro y0 y1 y2 y3 y4 y5 y6
   unfold purflingref01_Share.l1
   repeat' first
   | (with_reducible exact ih0 _ _ _ _)
   | (with_reducible exact ih1 _ _ _ _ _ _ _)
   | (with_reducible exact ih2 _ _ _ _ _)
   | (with_reducible exact ih3 _ _ _ _ _ _ _)
   | (with_reducible exact bits_Div64.mono _ _ _ _)
   | (with_reducible exact purflingref01_Even.mono _ _ _)
   | (with_reducible exact LeO.refl _)
   | (with_reducible exact LeO.none _)
   | (with_reducible refine LeO.ite ?_ ?_)
   | (with_reducible refine LeO.bind ?_ (fun _ => ?_))
   | exact ih0 _ _ _ _
   | exact ih1 _ _ _ _ _ _ _
   | exact ih2 _ _ _ _ _
   | exact ih3 _ _ _ _ _ _ _
   | exact bits_Div64.mono _ _ _ _
   | exact purflingref01_Even.mono _ _ _
   | exact LeO.none _
   | refine LeO.ite ?_ ?_
   | refine LeO.bind ?_ (fun _ => ?_)
  ·intro y0 y1 y2 y3 y4
   unfold purflingref01_Share.l2
   repeat' first
   | (with_reducible exact ih0 _ _ _ _)
   | (with_reducible exact ih1 _ _ _ _ _ _ _)
   | (with_reducible exact ih2 _ _ _ _ _)
   | (with_reducible exact ih3 _ _ _ _ _ _ _)
   | (with_reducible exact bits_Div64.mono _ _ _ _)
   | (with_reducible exact purflingref01_Even.mono _ _ _)
   | (with_reducible exact LeO.refl _)
   | (with_reducible exact LeO.none _)
   | (with_reducible refine LeO.ite ?_ ?_)
   | (with_reducible refine LeO.bind ?_ (fun _ => ?_))
   | exact ih0 _ _ _ _
   | exact ih1 _ _ _ _ _ _ _
   | exact ih2 _ _ _ _ _
   | exact ih3 _ _ _ _ _ _ _
   | exact bits_Div64.mono _ _ _ _
   | exact purflingref01_Even.mono _ _ _
   | exact LeO.none _
   | refine LeO.ite ?_ ?_
   | refine LeO.bind ?_ (fun _ => ?_)
  ·intro y0 y1 y2 y3 y4 y5 y6
   unfold purflingref01_Share.l3
   repeat' first
   | (with_reducible exact ih0 _ _ _ _)
   | (with_reducible exact ih1 _ _ _ _ _ _ _)
   | (with_reducible exact ih2 _ _ _ _ _)
   | (with_reducible exact ih3 _ _ _ _ _ _ _)
   | (with_reducible exact bits_Div64.mono _ _ _ _)
   | (with_reducible exact purflingref01_Even.mono _ _ _)
   | (with_reducible exact LeO.refl _)
   | (with_reducible exact LeO.none _)
   | (with_reducible refine LeO.ite ?_ ?_)
   | (with_reducible refine LeO.bind ?_ (fun _ => ?_))
   | exact ih0 _ _ _ _
   | exact ih1 _ _ _ _ _ _ _
   | exact ih2 _ _ _ _ _
   | exact ih3 _ _ _ _ _ _ _
   | exact bits_Div64.mono _ _ _ _
   | exact purflingref01_Even.mono _ _ _
   | exact LeO.none _
   | refine LeO.ite ?_ ?_
   | refine LeO.bind ?_ (fun _ => ?_)
theorem purflingref01_Share.mono : ∀ a0 a1 k, LeO (purflingref01_Share.f k a0 a1) (purflingref01_Share.f (k + 1) a0 a1) := by
 intro a0 a1 k
 obtain ⟨ih0, ih1, ih2, ih3⟩ := purflingref01_Share.mono_l k
 unfold purflingref01_Share.f
 repeat' first
   | (with_reducible exact ih0 _ _ _ _)
   | (with_reducible exact ih1 _ _ _ _ _ _ _)
   | (with_reducible exact ih2 _ _ _ _ _)
   | (with_reducible exact ih3 _ _ _ _ _ _ _)
   | (with_reducible exact bits_Div64.mono _ _ _ _)
   | (with_reducible exact purflingref01_Even.mono _ _ _)
   | (with_reducible exact LeO.refl _)
   | (with_reducible exact LeO.none _)
   | (with_reducible refine LeO.ite ?_ ?_)
   | (with_reducible refine LeO.bind ?_ (fun _ => ?_))
   | exact ih0 _ _ _ _
   | exact ih1 _ _ _ _ _ _ _
   | exact ih2 _ _ _ _ _
   | exact ih3 _ _ _ _ _ _ _
   | exact bits_Div64.mono _ _ _ _
   | exact purflingref01_Even.mono _ _ _
   | exact LeO.none _
   | refine LeO.ite ?_ ?_
   | refine LeO.bind ?_ (fun _ => ?_)
set_option maxHeartbeats 8000000 in
set_option maxRecDepth 100000 in
theorem purflingref01_Share.calls (k : Nat) (a0 : Int) (A1 : Option Addr) (c1 : Nat) (l1 : List Int) (r1 : List Int) (r2 : Int) (w : World) (hr1 : Kd.C (Kd.int .i64) w A1 l1.length l1) (hc1 : l1.length ≤ c1) (h : purflingref01_Share.f k a0 l1 = some (r1, r2)) :
  Calls Try.prog 63 #[.int .i64 a0, .slice A1 l1.length c1] w fun e w' => ∃ v0_ : Value, e = .returned (.tuple #[v0_, .int .i64 r2]) ∧ Kd.R (Kd.int .i64) 2 w' w.heap.size (fun _ => True) v0_ r1 ∧ Below w.heap.size w w' := by
 have HR1 := Aside0.mk hr1
 have HC1 := Aside0.mk hc1
 clear hr1 hc1
 have HB := Aside0.mk (Below.refl w.heap.size w)
 have H : ((purflingref01_shared.f a0 (l1.length : Int)).bind fun t193 => (if t193 = true then (purflingref01_Share.l0 k a0 l1 0 0) else (some (([] : List Int), 10)))) = some (r1, r2) := h
 clear h
 replace H := Option.bind_eq_some_iff.mp H
 obtain ⟨t193, A30, H⟩ := H
 replace H : (if t193 = true then (purflingref01_Share.l0 k a0 l1 0 0) else (some (([] : List Int), 10))) = some (r1, r2) := H
 have A3 := Aside0.mk A30
 clear A30
 by_cases c4 : t193 = true
 ·subst c4
  have H1 : (purflingref01_Share.l0 k a0 l1 0 0) = some (r1, r2) := by rw [if_pos rfl] at H; exact H
  clear H
  have H := H1
  clear H1
  have H' := Aside0.mk H
  clear H
  go_enter Try.func63, Try.ntmps63
  go_wp2_with (first | ((with_reducible refine gate_callee (f := 104) rfl ?_); refine goesL_ (some 22) rfl rfl Try.func104 (by kernel_rfl) rfl #[.int .i64 a0, .int .i64 (l1.length : Int)] rfl (by (try simp only [List.map_toArray, List.map_cons, List.map_nil]); first | done | rfl | (simp only [List.length_drop, List.length_take]; rfl)) ?_; (with_reducible refine (purflingref01_shared.calls a0 (l1.length : Int) true _ A3.out).mono ?_); rintro e w' ⟨rfl, ⟨nd, rfl⟩⟩; refine ⟨_, rfl, ?_⟩))
  go_loopg [6, 7] k (fun kq v6 v7 w' => ∃ (x6_1 : Int) (x7_1 : Int), v6 = .int .u64 x6_1 ∧ v7 = .int .i64 x7_1 ∧ Aside0 (purflingref01_Share.l0 kq a0 l1 x6_1 x7_1 = some (r1, r2)) ∧ Aside0 (kq ≤ k) ∧ Aside0 (Below w.heap.size w w'))
  case atStart => exact ⟨(0), (0), (by first | rfl | (simp; done) | (simp [*]; done)), (by first | rfl | (simp; done) | (simp [*]; done)), H', ⟨Nat.le_refl _⟩, ⟨by repeat (first | (with_reducible first | exact HB.out | apply below_alloc | apply pw_below_drewN | apply below_drew1) | exact HB.out)⟩⟩
  case round =>
   clear H'
   try clear c1
   try clear p2
   try clear c4
   obtain ⟨x6_1, x7_1, rfl, rfl, HA, HK1, HB⟩ := hrel
   cases gk with
   | zero => exact absurd HA.out (by simp [purflingref01_Share.l0])
   | succ k1 =>
    have H := HA.out
    clear HA
    simp only [purflingref01_Share.l0] at H
    by_cases c5 : x7_1 < (l1.length : Int)
    ·rw [if_pos c5] at H
     have c5b0 : decide (x7_1 < (l1.length : Int)) = true := decide_eq_true c5
     clear c5
     by_cases c6 : 0 ≤ x7_1
     ·rw [if_pos c6] at H
      have c6b0 : decide (0 ≤ x7_1) = true := decide_eq_true c6
      clear c6
      by_cases c7 : (rd l1 x7_1) < 0
      ·rw [if_pos c7] at H
       have c7b0 : decide ((rd l1 x7_1) < 0) = true := decide_eq_true c7
       clear c7
       simp only [Option.some.injEq, Prod.mk.injEq] at H
       obtain ⟨rfl, rfl⟩ := H
       have p194 : 0 ≤ (x7_1 : Int) := of_decide_eq_true (by first | (with_reducible assumption) | assumption)
       have q194 : x7_1 < (l1.length : Int) := of_decide_eq_true (by first | (with_reducible assumption) | assumption)
       obtain ⟨ad194, e194, hx194_0⟩ := Kd.at_int HR1.out x7_1 p194 q194
       cases e194
       replace hx194_0 := (HB.out.cell (World.block_lt_of_cell? w _ hx194_0)).trans hx194_0
       replace p194 := eq_true p194
       replace q194 := eq_true q194
       go_wp2
       go_ret2
       exact ⟨_, by first | rfl | (simp [errW_none, errW_some] <;> rfl) | (simp [*, errW_none, errW_some] <;> rfl), by first | exact Kd.R_nil _ _ _ _ _ | exact Kd.N_nil _ _ _ _ _ | exact Kd.V_nil _ _ _ _ _ | exact Kd.Q_nil _ _ _ _ _ | exact Kd.S_nil _ _ _ _ _, by repeat (first | (with_reducible first | exact HB.out | apply below_alloc | apply pw_below_drewN | apply below_drew1) | exact HB.out)⟩
      ·rw [if_neg c7] at H
       have c7b0 : decide ((rd l1 x7_1) < 0) = false := decide_eq_false c7
       clear c7
       by_cases c8 : (rd l1 x7_1) ≥ 1125899906842624
       ·rw [if_pos c8] at H
        have c8b0 : decide (1125899906842624 ≤ (rd l1 x7_1)) = true := decide_eq_true c8
        clear c8
        simp only [Option.some.injEq, Prod.mk.injEq] at H
        obtain ⟨rfl, rfl⟩ := H
        have p194 : 0 ≤ (x7_1 : Int) := of_decide_eq_true (by first | (with_reducible assumption) | assumption)
        have q194 : x7_1 < (l1.length : Int) := of_decide_eq_true (by first | (with_reducible assumption) | assumption)
        obtain ⟨ad194, e194, hx194_0⟩ := Kd.at_int HR1.out x7_1 p194 q194
        cases e194
        replace hx194_0 := (HB.out.cell (World.block_lt_of_cell? w _ hx194_0)).trans hx194_0
        replace p194 := eq_true p194
        replace q194 := eq_true q194
        have p195 : 0 ≤ (x7_1 : Int) := of_decide_eq_true (by first | (with_reducible assumption) | assumption)
        have q195 : x7_1 < (l1.length : Int) := of_decide_eq_true (by first | (with_reducible assumption) | assumption)
        obtain ⟨ad195, e195, hx195_0⟩ := Kd.at_int HR1.out x7_1 p195 q195
        obtain rfl : ad194 = ad195 := (by injection e195)
        replace hx195_0 := (HB.out.cell (World.block_lt_of_cell? w _ hx195_0)).trans hx195_0
        replace p195 := eq_true p195
        replace q195 := eq_true q195
        go_wp2
        go_ret2
        exact ⟨_, by first | rfl | (simp [errW_none, errW_some] <;> rfl) | (simp [*, errW_none, errW_some] <;> rfl), by first | exact Kd.R_nil _ _ _ _ _ | exact Kd.N_nil _ _ _ _ _ | exact Kd.V_nil _ _ _ _ _ | exact Kd.Q_nil _ _ _ _ _ | exact Kd.S_nil _ _ _ _ _, by repeat (first | (with_reducible first | exact HB.out | apply below_alloc | apply pw_below_drewN | apply below_drew1) | exact HB.out)⟩
       ·rw [if_neg c8] at H
        have c8b0 : decide (1125899906842624 ≤ (rd l1 x7_1)) = false := decide_eq_false c8
        clear c8
        have H' := Aside0.mk H
        clear H
        have p194 : 0 ≤ (x7_1 : Int) := of_decide_eq_true (by first | (with_reducible assumption) | assumption)
        have q194 : x7_1 < (l1.length : Int) := of_decide_eq_true (by first | (with_reducible assumption) | assumption)
        obtain ⟨ad194, e194, hx194_0⟩ := Kd.at_int HR1.out x7_1 p194 q194
        cases e194
        replace hx194_0 := (HB.out.cell (World.block_lt_of_cell? w _ hx194_0)).trans hx194_0
        replace p194 := eq_true p194
        replace q194 := eq_true q194
        have p195 : 0 ≤ (x7_1 : Int) := of_decide_eq_true (by first | (with_reducible assumption) | assumption)
        have q195 : x7_1 < (l1.length : Int) := of_decide_eq_true (by first | (with_reducible assumption) | assumption)
        obtain ⟨ad195, e195, hx195_0⟩ := Kd.at_int HR1.out x7_1 p195 q195
        obtain rfl : ad194 = ad195 := (by injection e195)
        replace hx195_0 := (HB.out.cell (World.block_lt_of_cell? w _ hx195_0)).trans hx195_0
        replace p195 := eq_true p195
        replace q195 := eq_true q195
        have p196 : 0 ≤ (x7_1 : Int) := of_decide_eq_true (by first | (with_reducible assumption) | assumption)
        have q196 : x7_1 < (l1.length : Int) := of_decide_eq_true (by first | (with_reducible assumption) | assumption)
        obtain ⟨ad196, e196, hx196_0⟩ := Kd.at_int HR1.out x7_1 p196 q196
        obtain rfl : ad194 = ad196 := (by injection e196)
        replace hx196_0 := (HB.out.cell (World.block_lt_of_cell? w _ hx196_0)).trans hx196_0
        replace p196 := eq_true p196
        replace q196 := eq_true q196
        go_wp2
        go_roundg k1
        case measure => have := HK1.out; omega
        case rel => exact ⟨(IntKind.u64.wrap (x6_1 + (IntKind.u64.wrap (rd l1 x7_1)))), (wrap64 (x7_1 + 1)), (by first | rfl | (simp; done) | (simp [*]; done)), (by first | rfl | (simp; done) | (simp [*]; done)), H', ⟨by have := HK1.out; omega⟩, ⟨by repeat (first | (with_reducible first | exact HB.out | apply below_alloc | apply pw_below_drewN | apply below_drew1) | exact HB.out)⟩⟩
     ·rw [if_neg c6] at H
      exact absurd H (by simp)
    ·rw [if_neg c5] at H
     have c5b0 : decide (x7_1 < (l1.length : Int)) = false := decide_eq_false c5
     clear c5
     by_cases c9 : x6_1 = 0
     ·rw [if_pos c9] at H
      have c9b0 : (x6_1 == 0) = true := beq_iff_eq.mpr c9
      have c9b1 : (x6_1 != 0) = false := bne_eq_false_iff_eq.mpr c9
      clear c9
      replace H := Option.bind_eq_some_iff.mp H
      obtain ⟨⟨t197, t198⟩, A100, H⟩ := H
      replace H : (some (t197, t198)) = some (r1, r2) := H
      have A10 := Aside0.mk A100
      clear A100
      simp only [Option.some.injEq, Prod.mk.injEq] at H
      obtain ⟨rfl, rfl⟩ := H
      go_wp2_with (first | ((with_reducible refine gate_callee (f := 105) rfl ?_); refine goesL_ (some 54) rfl rfl Try.func105 (by kernel_rfl) rfl #[.int .i64 a0, .int .i64 (l1.length : Int)] rfl (by (try simp only [List.map_toArray, List.map_cons, List.map_nil]); first | done | rfl | (simp only [List.length_drop, List.length_take]; rfl)) ?_; (with_reducible refine (purflingref01_Even.calls k1 a0 (l1.length : Int) t197 t198 _ A10.out).mono ?_); rintro e w11 ⟨v199, rfl, ho0, hb⟩; refine ⟨_, rfl, ?_⟩; have n0_ := Aside0.mk (Kd.R_lower ho0 (below_size (by repeat (first | (with_reducible first | exact HB.out | apply below_alloc | apply pw_below_drewN | apply below_drew1) | exact HB.out)))); have n1_ := Aside0.mk (below_step (by repeat (first | (with_reducible first | exact HB.out | apply below_alloc | apply pw_below_drewN | apply below_drew1) | exact HB.out)) hb); clear HB; have HO200 := n0_; have HB := n1_; clear n0_ n1_; (try clear hb); (try clear hb2); (try clear hk); (try clear hi); (try clear ho0)))
      go_ret2
      exact ⟨_, by first | rfl | (simp [errW_none, errW_some] <;> rfl) | (simp [*, errW_none, errW_some] <;> rfl), by (with_reducible repeat (first | apply Kd.R_alloc | apply Kd.R_drewN | apply Kd.R_drew)); exact HO200.out, by repeat (first | (with_reducible first | exact HB.out | apply below_alloc | apply pw_below_drewN | apply below_drew1) | exact HB.out)⟩
     ·rw [if_neg c9] at H
      have c9b0 : (x6_1 == 0) = false := beq_eq_false_iff_ne.mpr c9
      have c9b1 : (x6_1 != 0) = true := bne_iff_ne.mpr c9
      have H' := Aside0.mk H
      clear H
      go_wp2
      go_loopg [8, 9, 10, 11] k1 (fun kq v8 v9 v10 v11 w' => ∃ (x8_2 : List Int) (x9_2 : List Int) (x10_2 : Int) (x11_2 : Int), v10 = .int .i64 x10_2 ∧ v11 = .int .i64 x11_2 ∧ Aside0 (purflingref01_Share.l1 kq a0 l1 x6_1 x8_2 x9_2 x10_2 x11_2 = some (r1, r2)) ∧ Aside0 (kq ≤ k1) ∧ Aside0 (Kd.R (Kd.int .i64) 2 w' w.heap.size (fun _ => True) v8 x8_2) ∧ Aside0 (Kd.R (Kd.int .u64) 118 w' w.heap.size (fun _ => True) v9 x9_2) ∧ Aside0 (Below w.heap.size w w'))
      case atStart => exact ⟨(([] : List Int)), (([] : List Int)), (a0), (0), (by first | rfl | (simp; done) | (simp [*]; done)), (by first | rfl | (simp; done) | (simp [*]; done)), H', ⟨Nat.le_refl _⟩, ⟨by first | exact Kd.R_nil _ _ _ _ _ | exact Kd.N_nil _ _ _ _ _ | exact Kd.V_nil _ _ _ _ _ | exact Kd.Q_nil _ _ _ _ _ | exact Kd.S_nil _ _ _ _ _⟩, ⟨by first | exact Kd.R_nil _ _ _ _ _ | exact Kd.N_nil _ _ _ _ _ | exact Kd.V_nil _ _ _ _ _ | exact Kd.Q_nil _ _ _ _ _ | exact Kd.S_nil _ _ _ _ _⟩, ⟨by repeat (first | (with_reducible first | exact HB.out | apply below_alloc | apply pw_below_drewN | apply below_drew1) | exact HB.out)⟩⟩
      case round =>
       clear H'
       try clear c1
       try clear p1
       try clear q1
       try clear hx1
       try clear p2
       try clear c4
       try clear c5
       try clear c5b0
       try clear c6
       try clear c6b0
       try clear p6
       try clear c7
       try clear c7b0
       try clear c8
       try clear c8b0
       try clear c9
       try clear c9b0
       try clear c9b1
       try clear c10
       try clear hx194_0
       try clear hx195_0
       try clear hx196_0
       try clear p194
       try clear p195
       try clear p196
       try clear p2
       try clear q194
       try clear q195
       try clear q196
       obtain ⟨x8_2, x9_2, x10_2, x11_2, rfl, rfl, HA, HK2, HO_8, HO_9, HB⟩ := hrel
       cases gk with
       | zero => exact absurd HA.out (by simp [purflingref01_Share.l1])
       | succ k2 =>
        have H := HA.out
        clear HA
        simp only [purflingref01_Share.l1] at H
        by_cases c12 : x11_2 < (l1.length : Int)
        ·rw [if_pos c12] at H
         have c12b0 : decide (x11_2 < (l1.length : Int)) = true := decide_eq_true c12
         clear c12
         by_cases c13 : 0 ≤ x11_2
         ·rw [if_pos c13] at H
          have c13b0 : decide (0 ≤ x11_2) = true := decide_eq_true c13
          clear c13
          replace H := Option.bind_eq_some_iff.mp H
          obtain ⟨⟨t202, t203⟩, A140, H⟩ := H
          replace H : ((bits_Div64.f k2 t202 t203 x6_1).bind fun bt204 => (if x8_2.length < 17592186044416 then (if x9_2.length < 17592186044416 then (purflingref01_Share.l1 k2 a0 l1 x6_1 (x8_2 ++ [wrap64 (bt204.1)]) (x9_2 ++ [bt204.2]) (wrap64 (x10_2 - (wrap64 (bt204.1)))) (wrap64 (x11_2 + 1))) else (none)) else (none))) = some (r1, r2) := H
          have A14 := Aside0.mk A140
          clear A140
          replace H := Option.bind_eq_some_iff.mp H
          obtain ⟨⟨t204, t205⟩, A150, H⟩ := H
          replace H : (if x8_2.length < 17592186044416 then (if x9_2.length < 17592186044416 then (purflingref01_Share.l1 k2 a0 l1 x6_1 (x8_2 ++ [wrap64 (t204)]) (x9_2 ++ [t205]) (wrap64 (x10_2 - (wrap64 (t204)))) (wrap64 (x11_2 + 1))) else (none)) else (none)) = some (r1, r2) := H
          have A15 := Aside0.mk A150
          clear A150
          by_cases c16 : x8_2.length < 17592186044416
          ·rw [if_pos c16] at H
           have LMc16 := Aside0.mk c16
           clear c16
           obtain ⟨y206, hy206⟩ : ∃ y_ : List Int, y_ = (x8_2 ++ [wrap64 (t204)]) := ⟨_, rfl⟩
           replace H : (if x9_2.length < 17592186044416 then (purflingref01_Share.l1 k2 a0 l1 x6_1 y206 (x9_2 ++ [t205]) (wrap64 (x10_2 - (wrap64 (t204)))) (wrap64 (x11_2 + 1))) else (none)) = some (r1, r2) := by first | (rw [hy206]; with_reducible exact H) | (have H2_ := (Option.bind_some _ _).symm.trans H; rw [hy206]; with_reducible exact H2_) | (have H2_ := (Option.bind_some _ _).symm.trans H; with_reducible exact H2_) | with_reducible exact H | (rw [hy206]; exact H) | exact H
           have Ny206 := Aside0.mk hy206
           clear hy206
           by_cases c17 : x9_2.length < 17592186044416
           ·rw [if_pos c17] at H
            have LMc17 := Aside0.mk c17
            clear c17
            obtain ⟨y209, hy209⟩ : ∃ y_ : List Int, y_ = (x9_2 ++ [t205]) := ⟨_, rfl⟩
            replace H : (purflingref01_Share.l1 k2 a0 l1 x6_1 y206 y209 (wrap64 (x10_2 - (wrap64 (t204)))) (wrap64 (x11_2 + 1))) = some (r1, r2) := by first | (rw [hy209]; with_reducible exact H) | (have H2_ := (Option.bind_some _ _).symm.trans H; rw [hy209]; with_reducible exact H2_) | (have H2_ := (Option.bind_some _ _).symm.trans H; with_reducible exact H2_) | with_reducible exact H | (rw [hy209]; exact H) | exact H
            have Ny209 := Aside0.mk hy209
            clear hy209
            have H' := Aside0.mk H
            clear H
            have p201 : 0 ≤ (x11_2 : Int) := of_decide_eq_true (by first | (with_reducible assumption) | assumption)
            have q201 : x11_2 < (l1.length : Int) := of_decide_eq_true (by first | (with_reducible assumption) | assumption)
            obtain ⟨ad201, e201, hx201_0⟩ := Kd.at_int HR1.out x11_2 p201 q201
            cases e201
            replace hx201_0 := (HB.out.cell (World.block_lt_of_cell? w _ hx201_0)).trans hx201_0
            replace p201 := eq_true p201
            replace q201 := eq_true q201
            go_wp2_with (first | ((with_reducible refine gate_callee (f := 106) rfl ?_); refine goesL_ (some 72) rfl rfl Try.func106 (by kernel_rfl) rfl #[.int .u64 (IntKind.u64.wrap (a0)), .int .u64 (IntKind.u64.wrap (rd l1 x11_2))] rfl (by (try simp only [List.map_toArray, List.map_cons, List.map_nil]); first | done | rfl | (simp only [List.length_drop, List.length_take]; rfl)) ?_; (with_reducible refine (bits_Mul64.calls (IntKind.u64.wrap (a0)) (IntKind.u64.wrap (rd l1 x11_2)) t202 t203 _ A14.out).mono ?_); rintro e w' ⟨rfl, ⟨nd, rfl⟩⟩; refine ⟨_, rfl, ?_⟩) | ((with_reducible refine gate_callee (f := 107) rfl ?_); refine goesL_ (some 79) rfl rfl Try.func107 (by kernel_rfl) rfl #[.int .u64 t202, .int .u64 t203, .int .u64 x6_1] rfl (by (try simp only [List.map_toArray, List.map_cons, List.map_nil]); first | done | rfl | (simp only [List.length_drop, List.length_take]; rfl)) ?_; (with_reducible refine (bits_Div64.calls k2 t202 t203 x6_1 t204 t205 _ A15.out).mono ?_); rintro e w' ⟨rfl, ⟨nd, rfl⟩⟩; refine ⟨_, rfl, ?_⟩) | ((with_reducible refine gate_builtin (b := .append) (xs := #[.tmp 82, .tmp 85]) rfl ?_); at_builtin; refine Kd.R_append (Kd.int .i64) (w0 := w) w.heap.size rfl (.tmp 82) (.tmp 85) 46 2 (.int .i64 0) 8 rfl Try.underlying46 info2 rfl (by decide) (by omega) u8 x8_2 (wrap64 (t204)) [.int .i64 (wrap64 (t204))] (fun _ => True) (fun _ => False) rfl rfl ?aP (fun _ hk => hk.elim) ?aF ?aO ?aB ?aS ?aL ?_; (case aP => exact rfl); (case aB => exact (by repeat (first | (with_reducible first | exact HB.out | apply below_alloc | apply pw_below_drewN | apply below_drew1) | exact HB.out))); (case aF => exact (fun _ _ => trivial)); (case aO => exact (by (with_reducible repeat (first | apply Kd.R_alloc | apply Kd.R_drewN | apply Kd.R_drew)); exact HO_8.out)); (case aS => exact (below_size (by repeat (first | (with_reducible first | exact HB.out | apply below_alloc | apply pw_below_drewN | apply below_drew1) | exact HB.out)))); (case aL => have := LMc16.out; omega); intro v207 w18 ho hb hg hat; rw [← Ny206.out] at ho; have n0_ := Aside0.mk (Kd.R_over' (by (with_reducible repeat (first | apply Kd.R_alloc | apply Kd.R_drewN | apply Kd.R_drew)); exact HO_9.out) (Kd.R_typed (by (with_reducible repeat (first | apply Kd.R_alloc | apply Kd.R_drewN | apply Kd.R_drew)); exact HO_8.out)) (by decide) hg); have n1_ := Aside0.mk (hb); have n2_ := Aside0.mk (ho); clear HO_9; clear HB; clear HO_8; have HO_9 := n0_; have HB := n1_; have HO208 := n2_; clear n0_ n1_ n2_; clear ho hb hg hat) | ((with_reducible refine gate_builtin (b := .append) (xs := #[.tmp 87, .tmp 89]) rfl ?_); at_builtin; refine Kd.R_append (Kd.int .u64) (w0 := w) w.heap.size rfl (.tmp 87) (.tmp 89) 131 118 (.int .u64 0) 8 rfl Try.underlying131 info118 rfl (by decide) (by omega) u9 x9_2 t205 [.int .u64 t205] (fun _ => True) (fun _ => False) rfl rfl ?aP (fun _ hk => hk.elim) ?aF ?aO ?aB ?aS ?aL ?_; (case aP => exact rfl); (case aB => exact (by repeat (first | (with_reducible first | exact HB.out | apply below_alloc | apply pw_below_drewN | apply below_drew1) | exact HB.out))); (case aF => exact (fun _ _ => trivial)); (case aO => exact (by (with_reducible repeat (first | apply Kd.R_alloc | apply Kd.R_drewN | apply Kd.R_drew)); exact HO_9.out)); (case aS => exact (below_size (by repeat (first | (with_reducible first | exact HB.out | apply below_alloc | apply pw_below_drewN | apply below_drew1) | exact HB.out)))); (case aL => have := LMc17.out; omega); intro v210 w19 ho hb hg hat; rw [← Ny209.out] at ho; have n0_ := Aside0.mk (Kd.R_over' (by (with_reducible repeat (first | apply Kd.R_alloc | apply Kd.R_drewN | apply Kd.R_drew)); exact HO208.out) (Kd.R_typed (by (with_reducible repeat (first | apply Kd.R_alloc | apply Kd.R_drewN | apply Kd.R_drew)); exact HO_9.out)) (by decide) hg); have n1_ := Aside0.mk (hb); have n2_ := Aside0.mk (ho); clear HO208; clear HB; clear HO_9; have HO208 := n0_; have HB := n1_; have HO211 := n2_; clear n0_ n1_ n2_; clear ho hb hg hat))
            go_roundg k2
            case measure => have := HK1.out; have := HK2.out; omega
            case rel => exact ⟨(y206), (y209), (wrap64 (x10_2 - (wrap64 (t204)))), (wrap64 (x11_2 + 1)), (by first | rfl | (simp; done) | (simp [*]; done)), (by first | rfl | (simp; done) | (simp [*]; done)), H', ⟨by have := HK1.out; have := HK2.out; omega⟩, ⟨by (with_reducible repeat (first | apply Kd.R_alloc | apply Kd.R_drewN | apply Kd.R_drew)); exact HO208.out⟩, ⟨by (with_reducible repeat (first | apply Kd.R_alloc | apply Kd.R_drewN | apply Kd.R_drew)); exact HO211.out⟩, ⟨by repeat (first | (with_reducible first | exact HB.out | apply below_alloc | apply pw_below_drewN | apply below_drew1) | exact HB.out)⟩⟩
           ·rw [if_neg c17] at H
            exact absurd H (by simp)
          ·rw [if_neg c16] at H
           exact absurd H (by simp)
         ·rw [if_neg c13] at H
          exact absurd H (by simp)
        ·rw [if_neg c12] at H
         have c12b0 : decide (x11_2 < (l1.length : Int)) = false := decide_eq_false c12
         clear c12
         by_cases c20 : 0 ≤ (l1.length : Int)
         ·rw [if_pos c20] at H
          have c20b0 := eq_true c20
          have c20b1 : decide (0 ≤ (l1.length : Int)) = true := decide_eq_true c20
          clear c20
          by_cases c21 : ((l1.length : Int) : Int).toNat ≤ 281474976710656
          ·rw [if_pos c21] at H
           have c21b0 := eq_true c21
           have c21b1 : decide (((l1.length : Int) : Int).toNat ≤ 281474976710656) = true := decide_eq_true c21
           clear c21
           obtain ⟨y212, hy212⟩ : ∃ y_ : List Bool, y_ = (List.replicate ((l1.length : Int) : Int).toNat false) := ⟨_, rfl⟩
           replace H : (purflingref01_Share.l2 k2 l1 x8_2 x9_2 x10_2 y212) = some (r1, r2) := by first | (rw [hy212]; with_reducible exact H) | (have H2_ := (Option.bind_some _ _).symm.trans H; rw [hy212]; with_reducible exact H2_) | (have H2_ := (Option.bind_some _ _).symm.trans H; with_reducible exact H2_) | with_reducible exact H | (rw [hy212]; exact H) | exact H
           have Ny212 := Aside0.mk hy212
           clear hy212
           have H' := Aside0.mk H
           clear H
           go_wp2_with (first | ((with_reducible refine gate_dst (N := 97) rfl ?_); refine Kd.R_make Kd.bool _ 4 rfl (N := 97) rfl 135 _ _ rfl (l1.length : Int) rfl rfl Try.underlying135 (.bool false) 1 info4 rfl (by decide) (by omega) false (ok := fun _ => True) (okp := fun _ => True) rfl (fun _ hk => hk) trivial (of_decide_eq_true (by first | (with_reducible assumption) | assumption)) (Nat.le_trans (Nat.mul_le_mul_right _ (of_decide_eq_true (by first | (with_reducible assumption) | assumption) : (l1.length : Int).toNat ≤ 281474976710656)) (by omega)) (Below.refl _ _) (Nat.le_refl _) ?_; intro v213 w22 ho23 hb hg_ hnew_; clear hg_ hnew_; (first | rw [← Ny212.out] at ho23 | (simp only [Int.reduceToNat] at ho23; rw [← Ny212.out] at ho23)); have n0_ := Aside0.mk (Kd.R_below (by (with_reducible repeat (first | apply Kd.R_alloc | apply Kd.R_drewN | apply Kd.R_drew)); exact HO_8.out) hb); have n1_ := Aside0.mk (Kd.R_below (by (with_reducible repeat (first | apply Kd.R_alloc | apply Kd.R_drewN | apply Kd.R_drew)); exact HO_9.out) hb); have n2_ := Aside0.mk (Kd.R_lower ho23 (below_size (by repeat (first | (with_reducible first | exact HB.out | apply below_alloc | apply pw_below_drewN | apply below_drew1) | exact HB.out)))); have n3_ := Aside0.mk (below_step (by repeat (first | (with_reducible first | exact HB.out | apply below_alloc | apply pw_below_drewN | apply below_drew1) | exact HB.out)) hb); clear HO_8; clear HO_9; clear HB; have HO_8 := n0_; have HO_9 := n1_; have HO214 := n2_; have HB := n3_; clear n0_ n1_ n2_ n3_; clear hb ho23))
           go_loopg [10] k2 (fun kq v10 w' => ∃ (x8_3 : List Int) (x10_3 : Int) (x16_3 : List Bool), v10 = .int .i64 x10_3 ∧ Aside0 (purflingref01_Share.l2 kq l1 x8_3 x9_2 x10_3 x16_3 = some (r1, r2)) ∧ Aside0 (kq ≤ k2) ∧ Aside0 (Kd.R (Kd.int .i64) 2 w' w.heap.size (fun _ => True) u8 x8_3) ∧ Aside0 (Kd.R (Kd.int .u64) 118 w' w.heap.size (fun _ => True) u9 x9_2) ∧ Aside0 (Kd.R Kd.bool 4 w' w.heap.size (fun _ => True) v213 x16_3) ∧ Aside0 (Below w.heap.size w w'))
           case atStart => exact ⟨(x8_2), (x10_2), (y212), (by first | rfl | (simp; done) | (simp [*]; done)), H', ⟨Nat.le_refl _⟩, ⟨by (with_reducible repeat (first | apply Kd.R_alloc | apply Kd.R_drewN | apply Kd.R_drew)); exact HO_8.out⟩, ⟨by (with_reducible repeat (first | apply Kd.R_alloc | apply Kd.R_drewN | apply Kd.R_drew)); exact HO_9.out⟩, ⟨by (with_reducible repeat (first | apply Kd.R_alloc | apply Kd.R_drewN | apply Kd.R_drew)); exact HO214.out⟩, ⟨by repeat (first | (with_reducible first | exact HB.out | apply below_alloc | apply pw_below_drewN | apply below_drew1) | exact HB.out)⟩⟩
           case round =>
            clear H'
            try clear c1
            try clear p1
            try clear q1
            try clear hx1
            try clear c2
            try clear p2
            try clear q2
            try clear hx2
            try clear c4
            try clear c5
            try clear c5b0
            try clear c6
            try clear c6b0
            try clear p6
            try clear c7
            try clear c7b0
            try clear c8
            try clear c8b0
            try clear c9
            try clear c9b0
            try clear c9b1
            try clear c10
            try clear c12
            try clear c12b0
            try clear c13
            try clear c13b0
            try clear c16
            try clear c17
            try clear p19
            try clear q19
            try clear hx19
            try clear c20
            try clear c20b0
            try clear c20b1
            try clear p20
            try clear q20
            try clear hx20
            try clear c21
            try clear c21b0
            try clear c21b1
            try clear hx194_0
            try clear hx195_0
            try clear hx196_0
            try clear hx201_0
            try clear p1
            try clear p194
            try clear p195
            try clear p196
            try clear p2
            try clear p201
            try clear p6
            try clear q1
            try clear q194
            try clear q195
            try clear q196
            try clear q201
            obtain ⟨x8_3, x10_3, x16_3, rfl, HA, HK3, HO_8, HO_9, HO_16, HB⟩ := hrel
            cases gk with
            | zero => exact absurd HA.out (by simp [purflingref01_Share.l2])
            | succ k3 =>
             have H := HA.out
             clear HA
             simp only [purflingref01_Share.l2] at H
             by_cases c24 : x10_3 > 0
             ·rw [if_pos c24] at H
              have c24b0 : decide (0 < x10_3) = true := decide_eq_true c24
              clear c24
              have H' := Aside0.mk H
              clear H
              go_wp2
              go_loopg [17, 18] k3 (fun kq v17 v18 w' => ∃ (x17_4 : Int) (x18_4 : Int), v17 = .int .i64 x17_4 ∧ v18 = .int .i64 x18_4 ∧ Aside0 (purflingref01_Share.l3 kq l1 x8_3 x9_2 x10_3 x16_3 x17_4 x18_4 = some (r1, r2)) ∧ Aside0 (kq ≤ k3) ∧ Aside0 (Kd.R (Kd.int .i64) 2 w' w.heap.size (fun _ => True) u8 x8_3) ∧ Aside0 (Kd.R (Kd.int .u64) 118 w' w.heap.size (fun _ => True) u9 x9_2) ∧ Aside0 (Kd.R Kd.bool 4 w' w.heap.size (fun _ => True) v213 x16_3) ∧ Aside0 (Below w.heap.size w w'))
              case atStart => exact ⟨((-1)), (0), (by first | rfl | (simp; done) | (simp [*]; done)), (by first | rfl | (simp; done) | (simp [*]; done)), H', ⟨Nat.le_refl _⟩, ⟨by (with_reducible repeat (first | apply Kd.R_alloc | apply Kd.R_drewN | apply Kd.R_drew)); exact HO_8.out⟩, ⟨by (with_reducible repeat (first | apply Kd.R_alloc | apply Kd.R_drewN | apply Kd.R_drew)); exact HO_9.out⟩, ⟨by (with_reducible repeat (first | apply Kd.R_alloc | apply Kd.R_drewN | apply Kd.R_drew)); exact HO_16.out⟩, ⟨by repeat (first | (with_reducible first | exact HB.out | apply below_alloc | apply pw_below_drewN | apply below_drew1) | exact HB.out)⟩⟩
              case round =>
               clear H'
               try clear c1
               try clear p1
               try clear q1
               try clear hx1
               try clear c2
               try clear p2
               try clear q2
               try clear hx2
               try clear c4
               try clear c5
               try clear c5b0
               try clear c6
               try clear c6b0
               try clear p6
               try clear c7
               try clear c7b0
               try clear c8
               try clear c8b0
               try clear c9
               try clear c9b0
               try clear c9b1
               try clear c10
               try clear c12
               try clear c12b0
               try clear c13
               try clear c13b0
               try clear c16
               try clear c17
               try clear p19
               try clear q19
               try clear hx19
               try clear c20
               try clear c20b0
               try clear c20b1
               try clear p20
               try clear q20
               try clear hx20
               try clear c21
               try clear c21b0
               try clear c21b1
               try clear c24
               try clear c24b0
               try clear hx194_0
               try clear hx195_0
               try clear hx196_0
               try clear hx201_0
               try clear p1
               try clear p19
               try clear p194
               try clear p195
               try clear p196
               try clear p2
               try clear p20
               try clear p201
               try clear p6
               try clear q1
               try clear q19
               try clear q194
               try clear q195
               try clear q196
               try clear q2
               try clear q20
               try clear q201
               obtain ⟨x17_4, x18_4, rfl, rfl, HA, HK4, HO_8, HO_9, HO_16, HB⟩ := hrel
               cases gk with
               | zero => exact absurd HA.out (by simp [purflingref01_Share.l3])
               | succ k4 =>
                have H := HA.out
                clear HA
                simp only [purflingref01_Share.l3] at H
                by_cases c25 : x18_4 < (l1.length : Int)
                ·rw [if_pos c25] at H
                 have c25b0 : decide (x18_4 < (l1.length : Int)) = true := decide_eq_true c25
                 clear c25
                 by_cases c26 : 0 ≤ x18_4
                 ·rw [if_pos c26] at H
                  have c26b0 : decide (0 ≤ x18_4) = true := decide_eq_true c26
                  clear c26
                  by_cases c27 : x18_4 < (x16_3.length : Int)
                  ·rw [if_pos c27] at H
                   have c27b0 : decide (x18_4 < (x16_3.length : Int)) = true := decide_eq_true c27
                   clear c27
                   obtain ⟨bq28, hbq28⟩ : ∃ b_ : Bool, b_ = (rdOf false x16_3 x18_4) := ⟨_, rfl⟩
                   replace H : (if bq28 = true then (purflingref01_Share.l3 k4 l1 x8_3 x9_2 x10_3 x16_3 x17_4 (wrap64 (x18_4 + 1))) else (if x17_4 < 0 then (purflingref01_Share.l3 k4 l1 x8_3 x9_2 x10_3 x16_3 x18_4 (wrap64 (x18_4 + 1))) else ((purflingref01_more.f x9_2 x18_4 x17_4).bind fun t216 => (if t216 = true then (purflingref01_Share.l3 k4 l1 x8_3 x9_2 x10_3 x16_3 x18_4 (wrap64 (x18_4 + 1))) else (purflingref01_Share.l3 k4 l1 x8_3 x9_2 x10_3 x16_3 x17_4 (wrap64 (x18_4 + 1))))))) = some (r1, r2) := by rw [← hbq28] at H; exact H
                   have Nbq28 := Aside0.mk hbq28
                   clear hbq28
                   by_cases c29 : bq28 = true
                   ·subst c29
                    have H1 : (purflingref01_Share.l3 k4 l1 x8_3 x9_2 x10_3 x16_3 x17_4 (wrap64 (x18_4 + 1))) = some (r1, r2) := by rw [if_pos rfl] at H; exact H
                    clear H
                    have H := H1
                    clear H1
                    have H' := Aside0.mk H
                    clear H
                    obtain ⟨Ao30, co30, eo30⟩ := Kd.R_slice HO_16.out
                    subst eo30
                    have p215 : 0 ≤ (x18_4 : Int) := of_decide_eq_true (by first | (with_reducible assumption) | assumption)
                    have q215 : x18_4 < (x16_3.length : Int) := of_decide_eq_true (by first | (with_reducible assumption) | assumption)
                    obtain ⟨ad215, e215, hx215_0⟩ := Kd.at_bool (Kd.R_reads' HO_16.out).2.2 x18_4 p215 q215
                    (try rw [← Nbq28.out] at hx215_0)
                    cases e215
                    replace p215 := eq_true p215
                    replace q215 := eq_true q215
                    go_wp2
                    go_roundg k4
                    case measure => have := HK1.out; have := HK2.out; have := HK3.out; have := HK4.out; omega
                    case rel => exact ⟨(x17_4), (wrap64 (x18_4 + 1)), (by first | rfl | (simp; done) | (simp [*]; done)), (by first | rfl | (simp; done) | (simp [*]; done)), H', ⟨by have := HK1.out; have := HK2.out; have := HK3.out; have := HK4.out; omega⟩, ⟨by (with_reducible repeat (first | apply Kd.R_alloc | apply Kd.R_drewN | apply Kd.R_drew)); exact HO_8.out⟩, ⟨by (with_reducible repeat (first | apply Kd.R_alloc | apply Kd.R_drewN | apply Kd.R_drew)); exact HO_9.out⟩, ⟨by (with_reducible repeat (first | apply Kd.R_alloc | apply Kd.R_drewN | apply Kd.R_drew)); exact HO_16.out⟩, ⟨by repeat (first | (with_reducible first | exact HB.out | apply below_alloc | apply pw_below_drewN | apply below_drew1) | exact HB.out)⟩⟩
                   ·replace c29 := Bool.eq_false_iff.mpr c29
                    subst c29
                    have H1 : (if x17_4 < 0 then (purflingref01_Share.l3 k4 l1 x8_3 x9_2 x10_3 x16_3 x18_4 (wrap64 (x18_4 + 1))) else ((purflingref01_more.f x9_2 x18_4 x17_4).bind fun t216 => (if t216 = true then (purflingref01_Share.l3 k4 l1 x8_3 x9_2 x10_3 x16_3 x18_4 (wrap64 (x18_4 + 1))) else (purflingref01_Share.l3 k4 l1 x8_3 x9_2 x10_3 x16_3 x17_4 (wrap64 (x18_4 + 1)))))) = some (r1, r2) := by rw [if_neg (show ¬ (false = true) by decide)] at H; exact H
                    clear H
                    have H := H1
                    clear H1
                    by_cases c31 : x17_4 < 0
                    ·rw [if_pos c31] at H
                     have c31b0 : decide (x17_4 < 0) = true := decide_eq_true c31
                     clear c31
                     have H' := Aside0.mk H
                     clear H
                     obtain ⟨Ao32, co32, eo32⟩ := Kd.R_slice HO_16.out
                     subst eo32
                     have p215 : 0 ≤ (x18_4 : Int) := of_decide_eq_true (by first | (with_reducible assumption) | assumption)
                     have q215 : x18_4 < (x16_3.length : Int) := of_decide_eq_true (by first | (with_reducible assumption) | assumption)
                     obtain ⟨ad215, e215, hx215_0⟩ := Kd.at_bool (Kd.R_reads' HO_16.out).2.2 x18_4 p215 q215
                     (try rw [← Nbq28.out] at hx215_0)
                     cases e215
                     replace p215 := eq_true p215
                     replace q215 := eq_true q215
                     go_wp2
                     go_roundg k4
                     case measure => have := HK1.out; have := HK2.out; have := HK3.out; have := HK4.out; omega
                     case rel => exact ⟨(x18_4), (wrap64 (x18_4 + 1)), (by first | rfl | (simp; done) | (simp [*]; done)), (by first | rfl | (simp; done) | (simp [*]; done)), H', ⟨by have := HK1.out; have := HK2.out; have := HK3.out; have := HK4.out; omega⟩, ⟨by (with_reducible repeat (first | apply Kd.R_alloc | apply Kd.R_drewN | apply Kd.R_drew)); exact HO_8.out⟩, ⟨by (with_reducible repeat (first | apply Kd.R_alloc | apply Kd.R_drewN | apply Kd.R_drew)); exact HO_9.out⟩, ⟨by (with_reducible repeat (first | apply Kd.R_alloc | apply Kd.R_drewN | apply Kd.R_drew)); exact HO_16.out⟩, ⟨by repeat (first | (with_reducible first | exact HB.out | apply below_alloc | apply pw_below_drewN | apply below_drew1) | exact HB.out)⟩⟩
                    ·rw [if_neg c31] at H
                     have c31b0 : decide (x17_4 < 0) = false := decide_eq_false c31
                     clear c31
                     replace H := Option.bind_eq_some_iff.mp H
                     obtain ⟨t216, A330, H⟩ := H
                     replace H : (if t216 = true then (purflingref01_Share.l3 k4 l1 x8_3 x9_2 x10_3 x16_3 x18_4 (wrap64 (x18_4 + 1))) else (purflingref01_Share.l3 k4 l1 x8_3 x9_2 x10_3 x16_3 x17_4 (wrap64 (x18_4 + 1)))) = some (r1, r2) := H
                     have A33 := Aside0.mk A330
                     clear A330
                     by_cases c34 : t216 = true
                     ·subst c34
                      have H1 : (purflingref01_Share.l3 k4 l1 x8_3 x9_2 x10_3 x16_3 x18_4 (wrap64 (x18_4 + 1))) = some (r1, r2) := by rw [if_pos rfl] at H; exact H
                      clear H
                      have H := H1
                      clear H1
                      have H' := Aside0.mk H
                      clear H
                      obtain ⟨Ao35, co35, eo35⟩ := Kd.R_slice HO_16.out
                      subst eo35
                      have p215 : 0 ≤ (x18_4 : Int) := of_decide_eq_true (by first | (with_reducible assumption) | assumption)
                      have q215 : x18_4 < (x16_3.length : Int) := of_decide_eq_true (by first | (with_reducible assumption) | assumption)
                      obtain ⟨ad215, e215, hx215_0⟩ := Kd.at_bool (Kd.R_reads' HO_16.out).2.2 x18_4 p215 q215
                      (try rw [← Nbq28.out] at hx215_0)
                      cases e215
                      replace p215 := eq_true p215
                      replace q215 := eq_true q215
                      obtain ⟨Ao36, co36, eo36⟩ := Kd.R_slice HO_9.out
                      subst eo36
                      go_wp2_with (first | (go_at_call 108; (with_reducible refine (purflingref01_more.calls _ _ x9_2 x18_4 x17_4 true _ ?side1 ?side2 A33.out).mono ?_); (case side1 => repeat (first | exact (Kd.R_reads' HO_9.out).2.2 | (with_reducible refine Kd.C_alloc ?_ _) | (with_reducible refine Kd.C_drewN ?_ _) | (with_reducible refine Kd.C_drew ?_))); (case side2 => exact (Kd.R_reads' HO_9.out).2.1); rintro e w' ⟨rfl, ⟨nd, rfl⟩⟩))
                      go_roundg k4
                      case measure => have := HK1.out; have := HK2.out; have := HK3.out; have := HK4.out; omega
                      case rel => exact ⟨(x18_4), (wrap64 (x18_4 + 1)), (by first | rfl | (simp; done) | (simp [*]; done)), (by first | rfl | (simp; done) | (simp [*]; done)), H', ⟨by have := HK1.out; have := HK2.out; have := HK3.out; have := HK4.out; omega⟩, ⟨by (with_reducible repeat (first | apply Kd.R_alloc | apply Kd.R_drewN | apply Kd.R_drew)); exact HO_8.out⟩, ⟨by (with_reducible repeat (first | apply Kd.R_alloc | apply Kd.R_drewN | apply Kd.R_drew)); exact HO_9.out⟩, ⟨by (with_reducible repeat (first | apply Kd.R_alloc | apply Kd.R_drewN | apply Kd.R_drew)); exact HO_16.out⟩, ⟨by repeat (first | (with_reducible first | exact HB.out | apply below_alloc | apply pw_below_drewN | apply below_drew1) | exact HB.out)⟩⟩
                     ·replace c34 := Bool.eq_false_iff.mpr c34
                      subst c34
                      have H1 : (purflingref01_Share.l3 k4 l1 x8_3 x9_2 x10_3 x16_3 x17_4 (wrap64 (x18_4 + 1))) = some (r1, r2) := by rw [if_neg (show ¬ (false = true) by decide)] at H; exact H
                      clear H
                      have H := H1
                      clear H1
                      have H' := Aside0.mk H
                      clear H
                      obtain ⟨Ao37, co37, eo37⟩ := Kd.R_slice HO_16.out
                      subst eo37
                      have p215 : 0 ≤ (x18_4 : Int) := of_decide_eq_true (by first | (with_reducible assumption) | assumption)
                      have q215 : x18_4 < (x16_3.length : Int) := of_decide_eq_true (by first | (with_reducible assumption) | assumption)
                      obtain ⟨ad215, e215, hx215_0⟩ := Kd.at_bool (Kd.R_reads' HO_16.out).2.2 x18_4 p215 q215
                      (try rw [← Nbq28.out] at hx215_0)
                      cases e215
                      replace p215 := eq_true p215
                      replace q215 := eq_true q215
                      obtain ⟨Ao38, co38, eo38⟩ := Kd.R_slice HO_9.out
                      subst eo38
                      go_wp2_with (first | (go_at_call 108; (with_reducible refine (purflingref01_more.calls _ _ x9_2 x18_4 x17_4 false _ ?side1 ?side2 A33.out).mono ?_); (case side1 => repeat (first | exact (Kd.R_reads' HO_9.out).2.2 | (with_reducible refine Kd.C_alloc ?_ _) | (with_reducible refine Kd.C_drewN ?_ _) | (with_reducible refine Kd.C_drew ?_))); (case side2 => exact (Kd.R_reads' HO_9.out).2.1); rintro e w' ⟨rfl, ⟨nd, rfl⟩⟩))
                      go_roundg k4
                      case measure => have := HK1.out; have := HK2.out; have := HK3.out; have := HK4.out; omega
                      case rel => exact ⟨(x17_4), (wrap64 (x18_4 + 1)), (by first | rfl | (simp; done) | (simp [*]; done)), (by first | rfl | (simp; done) | (simp [*]; done)), H', ⟨by have := HK1.out; have := HK2.out; have := HK3.out; have := HK4.out; omega⟩, ⟨by (with_reducible repeat (first | apply Kd.R_alloc | apply Kd.R_drewN | apply Kd.R_drew)); exact HO_8.out⟩, ⟨by (with_reducible repeat (first | apply Kd.R_alloc | apply Kd.R_drewN | apply Kd.R_drew)); exact HO_9.out⟩, ⟨by (with_reducible repeat (first | apply Kd.R_alloc | apply Kd.R_drewN | apply Kd.R_drew)); exact HO_16.out⟩, ⟨by repeat (first | (with_reducible first | exact HB.out | apply below_alloc | apply pw_below_drewN | apply below_drew1) | exact HB.out)⟩⟩
                  ·rw [if_neg c27] at H
                   exact absurd H (by simp)
                 ·rw [if_neg c26] at H
                  exact absurd H (by simp)
                ·rw [if_neg c25] at H
                 have c25b0 : decide (x18_4 < (l1.length : Int)) = false := decide_eq_false c25
                 clear c25
                 by_cases c39 : 0 ≤ x17_4
                 ·rw [if_pos c39] at H
                  have c39b0 : decide (0 ≤ x17_4) = true := decide_eq_true c39
                  clear c39
                  by_cases c40 : x17_4 < (x16_3.length : Int)
                  ·rw [if_pos c40] at H
                   have c40b0 : decide (x17_4 < (x16_3.length : Int)) = true := decide_eq_true c40
                   clear c40
                   obtain ⟨y217, hy217⟩ : ∃ y_ : List Bool, y_ = (x16_3.set (x17_4 : Int).toNat true) := ⟨_, rfl⟩
                   replace H : (if x17_4 < (x8_3.length : Int) then (purflingref01_Share.l2 k4 l1 (x8_3.set (x17_4 : Int).toNat (wrap64 ((rd x8_3 x17_4) + 1))) x9_2 (wrap64 (x10_3 - 1)) y217) else (none)) = some (r1, r2) := by first | (rw [hy217]; with_reducible exact H) | (have H2_ := (Option.bind_some _ _).symm.trans H; rw [hy217]; with_reducible exact H2_) | (have H2_ := (Option.bind_some _ _).symm.trans H; with_reducible exact H2_) | with_reducible exact H | (rw [hy217]; exact H) | exact H
                   have Ny217 := Aside0.mk hy217
                   clear hy217
                   by_cases c42 : x17_4 < (x8_3.length : Int)
                   ·rw [if_pos c42] at H
                    have c42b0 : decide (x17_4 < (x8_3.length : Int)) = true := decide_eq_true c42
                    clear c42
                    obtain ⟨y219, hy219⟩ : ∃ y_ : List Int, y_ = (x8_3.set (x17_4 : Int).toNat (wrap64 ((rd x8_3 x17_4) + 1))) := ⟨_, rfl⟩
                    replace H : (purflingref01_Share.l2 k4 l1 y219 x9_2 (wrap64 (x10_3 - 1)) y217) = some (r1, r2) := by first | (rw [hy219]; with_reducible exact H) | (have H2_ := (Option.bind_some _ _).symm.trans H; rw [hy219]; with_reducible exact H2_) | (have H2_ := (Option.bind_some _ _).symm.trans H; with_reducible exact H2_) | with_reducible exact H | (rw [hy219]; exact H) | exact H
                    have Ny219 := Aside0.mk hy219
                    clear hy219
                    have H' := Aside0.mk H
                    clear H
                    have p41 : 0 ≤ (x17_4 : Int) := of_decide_eq_true (by first | (with_reducible assumption) | assumption)
                    have q41 : (x17_4 : Int) < ((x16_3.length : Int) : Int) := of_decide_eq_true (by first | (with_reducible assumption) | assumption)
                    obtain ⟨go41, co41, eo41, gb41, gl41, cl41, HG41⟩ := Kd.R_form HO_16.out (by omega)
                    (first | cases eo41 | (injection eo41 with ea_ en_ ec_; (first | subst ea_ | (injection ea_ with ea_; subst ea_)); subst ec_; clear en_))
                    have GB41 := Aside0.mk gb41
                    have GG41 := Aside0.mk HG41
                    clear gb41 gl41 HG41
                    obtain ⟨hx41_0, hf41_0⟩ := Kd.R_celln false HO_16.out (x17_4 : Int) p41 q41
                    replace p41 := eq_true p41
                    replace q41 := eq_true q41
                    have HP44 := Kd.R_putg HO_16.out (x17_4 : Int) true
                    go_wp2_with (first | ((with_reducible refine gate_store (t := 4) (p := 124) rfl ?_); refine store_event (t := 4) (p := 124) (v := ?vo_w45) (w1 := (wr.setCell ⟨go41, (x17_4 : Int).toNat, none⟩ (.bool true))) ?hg ?ho ?hn ?hr ?_; (case ho => rfl); (case hg => rfl); (case hn => rfl); (case hr => first | (go_simp; done) | (go_simp; rfl)); intro w45 hw; have hg : wr.grownBy w45 (some go41) := (by rw [hw]; exact HP44.2); have hp_ : Kd.R Kd.bool 4 w45 w.heap.size (fun _ => True) (.slice (some ⟨go41, 0, none⟩) x16_3.length co41) y217 := (by rw [hw, Ny217.out]; exact HP44.1); clear HP44; have n0_ := Aside0.mk (Kd.R_over' (v := (.slice (some ⟨go41, 0, none⟩) x16_3.length co41)) (by (with_reducible repeat (first | apply Kd.R_alloc | apply Kd.R_drewN | apply Kd.R_drew)); exact HO_8.out) (Kd.R_typed HO_16.out) (by decide) hg); have n1_ := Aside0.mk (Kd.R_over' (v := (.slice (some ⟨go41, 0, none⟩) x16_3.length co41)) (by (with_reducible repeat (first | apply Kd.R_alloc | apply Kd.R_drewN | apply Kd.R_drew)); exact HO_9.out) (Kd.R_typed HO_16.out) (by decide) hg); have n2_ := Aside0.mk (hp_); have n3_ := Aside0.mk ((by rw [hw]; exact below_set (HB.out) GB41.out : Below w.heap.size w w45)); clear HO_8; clear HO_9; clear HO_16; clear HB; have HO_8 := n0_; have HO_9 := n1_; have HO_16 := n2_; have HB := n3_; clear n0_ n1_ n2_ n3_; clear hg hw hp_; obtain ⟨Ao46, co46, eo46⟩ := Kd.R_slice HO_8.out; subst eo46; have p218 : 0 ≤ (x17_4 : Int) := of_decide_eq_true (by first | (with_reducible assumption) | assumption); have q218 : x17_4 < (x8_3.length : Int) := of_decide_eq_true (by first | (with_reducible assumption) | assumption); obtain ⟨ad218, e218, hx218_0⟩ := Kd.at_int (Kd.R_reads' HO_8.out).2.2 x17_4 p218 q218; cases e218; replace p218 := eq_true p218; replace q218 := eq_true q218; have p43 : 0 ≤ (x17_4 : Int) := of_decide_eq_true (by first | (with_reducible assumption) | assumption); have q43 : (x17_4 : Int) < ((x8_3.length : Int) : Int) := of_decide_eq_true (by first | (with_reducible assumption) | assumption); obtain ⟨go43, co43, eo43, gb43, gl43, cl43, HG43⟩ := Kd.R_form HO_8.out (by omega); (first | cases eo43 | (injection eo43 with ea_ en_ ec_; (first | subst ea_ | (injection ea_ with ea_; subst ea_)); subst ec_; clear en_)); have GB43 := Aside0.mk gb43; have GG43 := Aside0.mk HG43; clear gb43 gl43 HG43; (first | simp only [add_plain] at hx218_0 | skip); obtain ⟨hx43_0, hf43_0⟩ := Kd.R_celln 0 HO_8.out (x17_4 : Int) p43 q43; replace p43 := eq_true p43; replace q43 := eq_true q43; obtain ⟨hy47_, hz47_⟩ := Kd.R_celln 0 HO_8.out (x17_4 : Int) (of_decide_eq_true (by first | (with_reducible assumption) | assumption)) (of_decide_eq_true (by first | (with_reducible assumption) | assumption)); have HP47 := Kd.R_putg HO_8.out (x17_4 : Int) (wrap64 ((rd x8_3 x17_4) + 1))) | ((with_reducible refine gate_store (t := 2) (p := 130) rfl ?_); refine store_event (t := 2) (p := 130) (v := ?vo_w48) (w1 := (w45.setCell ⟨go43, (x17_4 : Int).toNat, none⟩ (.int .i64 (wrap64 ((rd x8_3 x17_4) + 1))))) ?hg ?ho ?hn ?hr ?_; (case ho => rfl); (case hg => rfl); (case hn => rfl); (case hr => first | (go_simp; done) | (go_simp; rfl)); intro w48 hw; have hg : w45.grownBy w48 (some go43) := (by rw [hw]; exact HP47.2); have hp_ : Kd.R (Kd.int .i64) 2 w48 w.heap.size (fun _ => True) (.slice (some ⟨go43, 0, none⟩) x8_3.length co46) y219 := (by rw [hw, Ny219.out]; exact HP47.1); clear HP47; have n0_ := Aside0.mk (hp_); have n1_ := Aside0.mk (Kd.R_over' (v := (.slice (some ⟨go43, 0, none⟩) x8_3.length co46)) (by (with_reducible repeat (first | apply Kd.R_alloc | apply Kd.R_drewN | apply Kd.R_drew)); exact HO_9.out) (Kd.R_typed HO_8.out) (by decide) hg); have n2_ := Aside0.mk (Kd.R_over' (v := (.slice (some ⟨go43, 0, none⟩) x8_3.length co46)) (by (with_reducible repeat (first | apply Kd.R_alloc | apply Kd.R_drewN | apply Kd.R_drew)); exact HO_16.out) (Kd.R_typed HO_8.out) (by decide) hg); have n3_ := Aside0.mk ((by rw [hw]; exact below_set (HB.out) GB43.out : Below w.heap.size w w48)); clear HO_8; clear HO_9; clear HO_16; clear HB; have HO_8 := n0_; have HO_9 := n1_; have HO_16 := n2_; have HB := n3_; clear n0_ n1_ n2_ n3_; clear hg hw hp_))
                    go_roundg k4
                    case measure => have := HK1.out; have := HK2.out; have := HK3.out; have := HK4.out; omega
                    case rel => exact ⟨(y219), (wrap64 (x10_3 - 1)), (y217), (by first | rfl | (simp; done) | (simp [*]; done)), H', ⟨by have := HK1.out; have := HK2.out; have := HK3.out; have := HK4.out; omega⟩, ⟨by (with_reducible repeat (first | apply Kd.R_alloc | apply Kd.R_drewN | apply Kd.R_drew)); exact HO_8.out⟩, ⟨by (with_reducible repeat (first | apply Kd.R_alloc | apply Kd.R_drewN | apply Kd.R_drew)); exact HO_9.out⟩, ⟨by (with_reducible repeat (first | apply Kd.R_alloc | apply Kd.R_drewN | apply Kd.R_drew)); exact HO_16.out⟩, ⟨by repeat (first | (with_reducible first | exact HB.out | apply below_alloc | apply pw_below_drewN | apply below_drew1) | exact HB.out)⟩⟩
                   ·rw [if_neg c42] at H
                    exact absurd H (by simp)
                  ·rw [if_neg c40] at H
                   exact absurd H (by simp)
                 ·rw [if_neg c39] at H
                  exact absurd H (by simp)
             ·rw [if_neg c24] at H
              have c24b0 : decide (0 < x10_3) = false := decide_eq_false c24
              clear c24
              simp only [Option.some.injEq, Prod.mk.injEq] at H
              obtain ⟨rfl, rfl⟩ := H
              go_wp2
              go_ret2
              exact ⟨_, by first | rfl | (simp [errW_none, errW_some] <;> rfl) | (simp [*, errW_none, errW_some] <;> rfl), by (with_reducible repeat (first | apply Kd.R_alloc | apply Kd.R_drewN | apply Kd.R_drew)); exact HO_8.out, by repeat (first | (with_reducible first | exact HB.out | apply below_alloc | apply pw_below_drewN | apply below_drew1) | exact HB.out)⟩
          ·rw [if_neg c21] at H
           exact absurd H (by simp)
         ·rw [if_neg c20] at H
          exact absurd H (by simp)
 ·replace c4 := Bool.eq_false_iff.mpr c4
  subst c4
  have H1 : (some (([] : List Int), 10)) = some (r1, r2) := by rw [if_neg (show ¬ (false = true) by decide)] at H; exact H
  clear H
  have H := H1
  clear H1
  simp only [Option.some.injEq, Prod.mk.injEq] at H
  obtain ⟨rfl, rfl⟩ := H
  go_enter Try.func63, Try.ntmps63
  go_wp2_with (first | ((with_reducible refine gate_callee (f := 104) rfl ?_); refine goesL_ (some 22) rfl rfl Try.func104 (by kernel_rfl) rfl #[.int .i64 a0, .int .i64 (l1.length : Int)] rfl (by (try simp only [List.map_toArray, List.map_cons, List.map_nil]); first | done | rfl | (simp only [List.length_drop, List.length_take]; rfl)) ?_; (with_reducible refine (purflingref01_shared.calls a0 (l1.length : Int) false _ A3.out).mono ?_); rintro e w' ⟨rfl, ⟨nd, rfl⟩⟩; refine ⟨_, rfl, ?_⟩))
  go_ret2
  exact ⟨_, by first | rfl | (simp [errW_none, errW_some] <;> rfl) | (simp [*, errW_none, errW_some] <;> rfl), by first | exact Kd.R_nil _ _ _ _ _ | exact Kd.N_nil _ _ _ _ _ | exact Kd.V_nil _ _ _ _ _ | exact Kd.Q_nil _ _ _ _ _ | exact Kd.S_nil _ _ _ _ _, by repeat (first | (with_reducible first | exact HB.out | apply below_alloc | apply pw_below_drewN | apply below_drew1) | exact HB.out)⟩

/-! ### purflingref01_Sub: function 64 -/
def purflingref01_Sub.j0 : Nat → Int → Int → Bool → Option (Int)
 | 0, _, _, _ => none
 | k + 1, x0, x1, x12 => if x12 = true then (some 9223372036854775807) else (if x1 > 0 then (if x0 < (wrap64 ((-9223372036854775808) + x1)) then (some (-9223372036854775808)) else (some (wrap64 (x0 - x1)))) else (some (wrap64 (x0 - x1))))
def purflingref01_Sub.f (k : Nat) (a0 : Int) (a1 : Int) : Option (Int) := if a1 < 0 then (purflingref01_Sub.j0 k a0 a1 (decide (a0 > (wrap64 (9223372036854775807 + a1))))) else (purflingref01_Sub.j0 k a0 a1 false)
theorem purflingref01_Sub.mono_l : ∀ k, (∀ y0 y1 y2, LeO (purflingref01_Sub.j0 k y0 y1 y2) (purflingref01_Sub.j0 (k + 1) y0 y1 y2))
 | 0 => fun _ _ _ r h => by simp [purflingref01_Sub.j0] at h
 | k + 1 => by
  have ih0 := purflingref01_Sub.mono_l k
  ·intro y0 y1 y2
   unfold purflingref01_Sub.j0
   repeat' first
   | (with_reducible exact ih0 _ _ _)
   | (with_reducible exact LeO.refl _)
   | (with_reducible exact LeO.none _)
   | (with_reducible refine LeO.ite ?_ ?_)
   | (with_reducible refine LeO.bind ?_ (fun _ => ?_))
   | exact ih0 _ _ _
   | exact LeO.none _
   | refine LeO.ite ?_ ?_
   | refine LeO.bind ?_ (fun _ => ?_)
theorem purflingref01_Sub.mono : ∀ a0 a1 k, LeO (purflingref01_Sub.f k a0 a1) (purflingref01_Sub.f (k + 1) a0 a1) := by
 intro a0 a1 k
 have ih0 := purflingref01_Sub.mono_l k
 unfold purflingref01_Sub.f
 repeat' first
   | (with_reducible exact ih0 _ _ _)
   | (with_reducible exact LeO.refl _)
   | (with_reducible exact LeO.none _)
   | (with_reducible refine LeO.ite ?_ ?_)
   | (with_reducible refine LeO.bind ?_ (fun _ => ?_))
   | exact ih0 _ _ _
   | exact LeO.none _
   | refine LeO.ite ?_ ?_
   | refine LeO.bind ?_ (fun _ => ?_)
set_option maxHeartbeats 8000000 in
set_option maxRecDepth 100000 in
theorem purflingref01_Sub.calls (k : Nat) (a0 : Int) (a1 : Int) (r : Int) (w : World) (h : purflingref01_Sub.f k a0 a1 = some r) :
  Calls Try.prog 64 #[.int .i64 a0, .int .i64 a1] w fun e w' => e = .returned (.int .i64 r) ∧ Drawn0 w w' := by
 have H : (if a1 < 0 then (purflingref01_Sub.j0 k a0 a1 (decide (a0 > (wrap64 (9223372036854775807 + a1))))) else (purflingref01_Sub.j0 k a0 a1 false)) = some r := h
 clear h
 have HC3 := Aside0.mk H
 clear H
 go_enter Try.func64, Try.ntmps64
 go_upto_region 1 with (fail)
 go_cut [12] (fun v12 wc => ∃ (kq : Nat) (x12_2 : Bool), v12 = .bool x12_2 ∧ Aside0 (purflingref01_Sub.j0 kq a0 a1 x12_2 = some r) ∧ Aside0 (kq ≤ k) ∧ Drawn0 w wc)
 case first =>
  have H := HC3.out
  clear HC3
  by_cases c4 : a1 < 0
  ·rw [if_pos c4] at H
   have c4b0 : decide (a1 < 0) = true := decide_eq_true c4
   clear c4
   (first | rw [c4b0] | (simp only [i64_w, i32_w]; rw [c4b0]) | skip)
   have H' := Aside0.mk H
   clear H
   go_wp2
   go_meet
   case rel => exact ⟨_, (decide (a0 > (wrap64 (9223372036854775807 + a1)))), (by first | rfl | (simp; done) | (simp [*]; done)), H', ⟨by first | omega | exact Nat.le_refl _⟩, by repeat (first | exact Drawn0.refl _ | apply Drawn0.step)⟩
  ·rw [if_neg c4] at H
   have c4b0 : decide (a1 < 0) = false := decide_eq_false c4
   clear c4
   (first | rw [c4b0] | (simp only [i64_w, i32_w]; rw [c4b0]) | skip)
   have H' := Aside0.mk H
   clear H
   go_wp2
   go_meet
   case rel => exact ⟨_, (false), (by first | rfl | (simp; done) | (simp [*]; done)), H', ⟨by first | omega | exact Nat.le_refl _⟩, by repeat (first | exact Drawn0.refl _ | apply Drawn0.step)⟩
 case rest =>
  clear HC3
  try clear p2
  try clear c4
  try clear c4b0
  obtain ⟨kq, x12_2, rfl, HA, HJ2, ⟨mc2, rfl⟩⟩ := hcut
  cases kq with
  | zero => exact absurd HA.out (by simp [purflingref01_Sub.j0])
  | succ kj2 =>
   have H := HA.out
   clear HA
   simp only [purflingref01_Sub.j0] at H
   by_cases c5 : x12_2 = true
   ·subst c5
    have H1 : (some 9223372036854775807) = some r := by rw [if_pos rfl] at H; exact H
    clear H
    have H := H1
    clear H1
    obtain rfl := Option.some.inj H
    go_wp2
    go_ret
    exact ⟨by first | rfl | (simp; done) | (simp [*]; done), by repeat (first | exact Drawn0.refl _ | apply Drawn0.step)⟩
   ·replace c5 := Bool.eq_false_iff.mpr c5
    subst c5
    have H1 : (if a1 > 0 then (if a0 < (wrap64 ((-9223372036854775808) + a1)) then (some (-9223372036854775808)) else (some (wrap64 (a0 - a1)))) else (some (wrap64 (a0 - a1)))) = some r := by rw [if_neg (show ¬ (false = true) by decide)] at H; exact H
    clear H
    have H := H1
    clear H1
    by_cases c6 : a1 > 0
    ·rw [if_pos c6] at H
     have c6b0 : decide (0 < a1) = true := decide_eq_true c6
     clear c6
     by_cases c7 : a0 < (wrap64 ((-9223372036854775808) + a1))
     ·rw [if_pos c7] at H
      have c7b0 : decide (a0 < (wrap64 ((-9223372036854775808) + a1))) = true := decide_eq_true c7
      clear c7
      obtain rfl := Option.some.inj H
      go_wp2
      go_ret
      exact ⟨by first | rfl | (simp; done) | (simp [*]; done), by repeat (first | exact Drawn0.refl _ | apply Drawn0.step)⟩
     ·rw [if_neg c7] at H
      have c7b0 : decide (a0 < (wrap64 ((-9223372036854775808) + a1))) = false := decide_eq_false c7
      clear c7
      obtain rfl := Option.some.inj H
      go_wp2
      go_ret
      exact ⟨by first | rfl | (simp; done) | (simp [*]; done), by repeat (first | exact Drawn0.refl _ | apply Drawn0.step)⟩
    ·rw [if_neg c6] at H
     have c6b0 : decide (0 < a1) = false := decide_eq_false c6
     clear c6
     obtain rfl := Option.some.inj H
     go_wp2
     go_ret
     exact ⟨by first | rfl | (simp; done) | (simp [*]; done), by repeat (first | exact Drawn0.refl _ | apply Drawn0.step)⟩

end Go.Proofs.Ytacigmhhegaieaa.PA
