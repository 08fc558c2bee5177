-- MADE by wip/tools/xprint.py of this repo: the kit's print.py, turned by this session, and texts by hand
import Derived.Test.YtgghbmhmpkeccaaPAx0
import Derived.Test.YtgghbmhmpkeccaaPAx2
import Derived.Test.YtgghbmhmpkeccaaPAx3
import Derived.Test.YtgghbmhmpkeccaaPAx21
namespace Go.Proofs.Ytgghbmhmpkeccaa.PA
open Go.RowKit Go.Proofs.YtgghbmhmpkeccaaW.PrintWords Go.Proofs.YtgghbmhmpkeccaaW.PrintLast Go.Proofs.YtgghbmhmpkeccaaW.PrintMore
attribute [local go_sem] max2_int min2_int max_two min_two max_three min_three max_four min_four   -- for this text's walks alone
set_option linter.unusedVariables false
set_option linter.unusedSimpArgs false

/-! ### purflingref01_Share: function 33 -/
mutual
def purflingref01_Share.l0 : Nat → Int → List Int → Int → Int → Option (List Int × Int)
 | 0, _, _, _, _ => none
 | k + 1, x0, x1, x6, x7 => if x7 < (x1.length : Int) then (if 0 ≤ x7 then (if (rd x1 x7) < 0 then (some (([] : List Int), 10)) else (if (rd x1 x7) ≥ 1125899906842624 then (some (([] : List Int), 10)) else (purflingref01_Share.l0 k x0 x1 (IntKind.u64.wrap (x6 + (IntKind.u64.wrap (rd x1 x7)))) (wrap64 (x7 + 1))))) else (none)) else (if x6 = 0 then ((purflingref01_Even.f k x0 (x1.length : Int)).bind fun bt214 => (some (bt214.1, bt214.2))) else (purflingref01_Share.l1 k x0 x1 x6 ([] : List Int) ([] : List Int) x0 0))
def purflingref01_Share.l1 : Nat → Int → List Int → Int → List Int → List Int → Int → Int → Option (List Int × Int)
 | 0, _, _, _, _, _, _, _ => none
 | k + 1, x0, x1, x6, x8, x9, x10, x11 => if x11 < (x1.length : Int) then (if 0 ≤ x11 then ((bits_Mul64.f (IntKind.u64.wrap (x0)) (IntKind.u64.wrap (rd x1 x11))).bind fun bt219 => ((bits_Div64.f k bt219.1 bt219.2 x6).bind fun bt221 => (if x8.length < 17592186044416 then (if x9.length < 17592186044416 then (purflingref01_Share.l1 k x0 x1 x6 (x8 ++ [wrap64 (bt221.1)]) (x9 ++ [bt221.2]) (wrap64 (x10 - (wrap64 (bt221.1)))) (wrap64 (x11 + 1))) else (none)) else (none)))) else (none)) else (if 0 ≤ (x1.length : Int) then (if ((x1.length : Int) : Int).toNat ≤ 281474976710656 then (purflingref01_Share.l2 k x1 x8 x9 x10 (List.replicate ((x1.length : Int) : Int).toNat false)) else (none)) else (none))
def purflingref01_Share.l2 : Nat → List Int → List Int → List Int → Int → List Bool → Option (List Int × Int)
 | 0, _, _, _, _, _ => none
 | k + 1, x1, x8, x9, x10, x16 => if x10 > 0 then (purflingref01_Share.l3 k x1 x8 x9 x10 x16 (-1) 0) else (some (x8, 0))
def purflingref01_Share.l3 : Nat → List Int → List Int → List Int → Int → List Bool → Int → Int → Option (List Int × Int)
 | 0, _, _, _, _, _, _, _ => none
 | k + 1, x1, x8, x9, x10, x16, x17, x18 => if x18 < (x1.length : Int) then (if 0 ≤ x18 then (if x18 < (x16.length : Int) then (if rdOf false x16 x18 = true then (purflingref01_Share.l3 k x1 x8 x9 x10 x16 x17 (wrap64 (x18 + 1))) else (if x17 < 0 then (purflingref01_Share.l3 k x1 x8 x9 x10 x16 x18 (wrap64 (x18 + 1))) else ((purflingref01_more.f x9 x18 x17).bind fun t233 => (if t233 = true then (purflingref01_Share.l3 k x1 x8 x9 x10 x16 x18 (wrap64 (x18 + 1))) else (purflingref01_Share.l3 k x1 x8 x9 x10 x16 x17 (wrap64 (x18 + 1))))))) else (none)) else (none)) else (if 0 ≤ x17 then (if x17 < (x16.length : Int) then (if x17 < (x8.length : Int) then (purflingref01_Share.l2 k x1 (x8.set (x17 : Int).toNat (wrap64 ((rd x8 x17) + 1))) x9 (wrap64 (x10 - 1)) (x16.set (x17 : Int).toNat true)) else (none)) else (none)) else (none))
end
def purflingref01_Share.f (k : Nat) (a0 : Int) (l1 : List Int) : Option (List Int × Int) := (purflingref01_shared.f a0 (l1.length : Int)).bind fun t210 => (if t210 = true then (purflingref01_Share.l0 k a0 l1 0 0) else (some (([] : List Int), 10)))
theorem purflingref01_Share.mono_l : ∀ k, (∀ y0 y1 y2 y3, LeO (purflingref01_Share.l0 k y0 y1 y2 y3) (purflingref01_Share.l0 (k + 1) y0 y1 y2 y3)) ∧ (∀ y0 y1 y2 y3 y4 y5 y6, LeO (purflingref01_Share.l1 k y0 y1 y2 y3 y4 y5 y6) (purflingref01_Share.l1 (k + 1) y0 y1 y2 y3 y4 y5 y6)) ∧ (∀ y0 y1 y2 y3 y4, LeO (purflingref01_Share.l2 k y0 y1 y2 y3 y4) (purflingref01_Share.l2 (k + 1) y0 y1 y2 y3 y4)) ∧ (∀ y0 y1 y2 y3 y4 y5 y6, LeO (purflingref01_Share.l3 k y0 y1 y2 y3 y4 y5 y6) (purflingref01_Share.l3 (k + 1) y0 y1 y2 y3 y4 y5 y6))
 | 0 => ⟨fun _ _ _ _ r h => by simp [purflingref01_Share.l0] at h, fun _ _ _ _ _ _ _ r h => by simp [purflingref01_Share.l1] at h, fun _ _ _ _ _ r h => by simp [purflingref01_Share.l2] at h, fun _ _ _ _ _ _ _ r h => by simp [purflingref01_Share.l3] at h⟩
 | k + 1 => by
  obtain ⟨ih0, ih1, ih2, ih3⟩ := purflingref01_Share.mono_l k
  refine ⟨?_, ?_, ?_, ?_⟩
  ·intro y0 y1 y2 y3
   unfold purflingref01_Share.l0
   repeat' first
   | (with_reducible exact ih0 _ _ _ _)
   | (with_reducible exact ih1 _ _ _ _ _ _ _)
   | (with_reducible exact ih2 _ _ _ _ _)
   | (with_reducible exact ih3 _ _ _ _ _ _ _)
   | (with_reducible exact bits_Div64.mono _ _ _ _)
   | (with_reducible exact purflingref01_Even.mono _ _ _)
   | (with_reducible exact LeO.refl _)
   | (with_reducible exact LeO.none _)
   | (with_reducible refine LeO.ite ?_ ?_)
   | (with_reducible refine LeO.bind ?_ (fun _ => ?_))
   | exact ih0 _ _ _ _
   | exact ih1 _ _ _ _ _ _ _
   | exact ih2 _ _ _ _ _
   | exact ih3 _ _ _ _ _ _ _
   | exact bits_Div64.mono _ _ _ _
   | exact purflingref01_Even.mono _ _ _
   | exact LeO.none _
   | refine LeO.ite ?_ ?_
   | refine LeO.bind ?_ (fun _ => ?_)
  ·intro y0 y1 y2 y3 y4 y5 y6
   unfold purflingref01_Share.l1
   repeat' first
   | (with_reducible exact ih0 _ _ _ _)
   | (with_reducible exact ih1 _ _ _ _ _ _ _)
   | (with_reducible exact ih2 _ _ _ _ _)
   | (with_reducible exact ih3 _ _ _ _ _ _ _)
   | (with_reducible exact bits_Div64.mono _ _ _ _)
   | (with_reducible exact purflingref01_Even.mono _ _ _)
   | (with_reducible exact LeO.refl _)
   | (with_reducible exact LeO.none _)
   | (with_reducible refine LeO.ite ?_ ?_)
   | (with_reducible refine LeO.bind ?_ (fun _ => ?_))
   | exact ih0 _ _ _ _
   | exact ih1 _ _ _ _ _ _ _
   | exact ih2 _ _ _ _ _
   | exact ih3 _ _ _ _ _ _ _
   | exact bits_Div64.mono _ _ _ _
   | exact purflingref01_Even.mono _ _ _
   | exact LeO.none _
   | refine LeO.ite ?_ ?_
   | refine LeO.bind ?_ (fun _ => ?_)
  ·intro y0 y1 y2 y3 y4
   unfold purflingref01_Share.l2
   repeat' first
   | (with_reducible exact ih0 _ _ _ _)
   | (with_reducible exact ih1 _ _ _ _ _ _ _)
   | (with_reducible exact ih2 _ _ _ _ _)
   | (with_reducible exact ih3 _ _ _ _ _ _ _)
   | (with_reducible exact bits_Div64.mono _ _ _ _)
   | (with_reducible exact purflingref01_Even.mono _ _ _)
   | (with_reducible exact LeO.refl _)
   | (with_reducible exact LeO.none _)
   | (with_reducible refine LeO.ite ?_ ?_)
   | (with_reducible refine LeO.bind ?_ (fun _ => ?_))
   | exact ih0 _ _ _ _
   | exact ih1 _ _ _ _ _ _ _
   | exact ih2 _ _ _ _ _
   | exact ih3 _ _ _ _ _ _ _
   | exact bits_Div64.mono _ _ _ _
   | exact purflingref01_Even.mono _ _ _
   | exact LeO.none _
   | refine LeO.ite ?_ ?_
   | refine LeO.bind ?_ (fun _ => ?_)
  ·intro y0 y1 y2 y3 y4 y5 y6
   unfold purflingref01_Share.l3
   repeat' first
   | (with_reducible exact ih0 _ _ _ _)
   | (with_reducible exact ih1 _ _ _ _ _ _ _)
   | (with_reducible exact ih2 _ _ _ _ _)
   | (with_reducible exact ih3 _ _ _ _ _ _ _)
   | (with_reducible exact bits_Div64.mono _ _ _ _)
   | (with_reducible exact purflingref01_Even.mono _ _ _)
   | (with_reducible exact LeO.refl _)
   | (with_reducible exact LeO.none _)
   | (with_reducible refine LeO.ite ?_ ?_)
   | (with_reducible refine LeO.bind ?_ (fun _ => ?_))
   | exact ih0 _ _ _ _
   | exact ih1 _ _ _ _ _ _ _
   | exact ih2 _ _ _ _ _
   | exact ih3 _ _ _ _ _ _ _
   | exact bits_Div64.mono _ _ _ _
   | exact purflingref01_Even.mono _ _ _
   | exact LeO.none _
   | refine LeO.ite ?_ ?_
   | refine LeO.bind ?_ (fun _ => ?_)
theorem purflingref01_Share.mono : ∀ a0 a1 k, LeO (purflingref01_Share.f k a0 a1) (purflingref01_Share.f (k + 1) a0 a1) := by
 intro a0 a1 k
 obtain ⟨ih0, ih1, ih2, ih3⟩ := purflingref01_Share.mono_l k
 unfold purflingref01_Share.f
 repeat' first
   | (with_reducible exact ih0 _ _ _ _)
   | (with_reducible exact ih1 _ _ _ _ _ _ _)
   | (with_reducible exact ih2 _ _ _ _ _)
   | (with_reducible exact ih3 _ _ _ _ _ _ _)
   | (with_reducible exact bits_Div64.mono _ _ _ _)
   | (with_reducible exact purflingref01_Even.mono _ _ _)
   | (with_reducible exact LeO.refl _)
   | (with_reducible exact LeO.none _)
   | (with_reducible refine LeO.ite ?_ ?_)
   | (with_reducible refine LeO.bind ?_ (fun _ => ?_))
   | exact ih0 _ _ _ _
   | exact ih1 _ _ _ _ _ _ _
   | exact ih2 _ _ _ _ _
   | exact ih3 _ _ _ _ _ _ _
   | exact bits_Div64.mono _ _ _ _
   | exact purflingref01_Even.mono _ _ _
   | exact LeO.none _
   | refine LeO.ite ?_ ?_
   | refine LeO.bind ?_ (fun _ => ?_)
set_option maxHeartbeats 8000000 in
set_option maxRecDepth 100000 in
theorem purflingref01_Share.calls (k : Nat) (a0 : Int) (A1 : Option Addr) (c1 : Nat) (l1 : List Int) (r1 : List Int) (r2 : Int) (w : World) (hr1 : Kd.C (Kd.int .i64) w A1 l1.length l1) (hc1 : l1.length ≤ c1) (h : purflingref01_Share.f k a0 l1 = some (r1, r2)) :
  Calls Try.prog 33 #[.int .i64 a0, .slice A1 l1.length c1] w fun e w' => ∃ v0_ : Value, e = .returned (.tuple #[v0_, .int .i64 r2]) ∧ Kd.R (Kd.int .i64) 2 w' w.heap.size (fun _ => True) v0_ r1 ∧ Below w.heap.size w w' := by
 have HR1 := Aside0.mk hr1
 have HC1 := Aside0.mk hc1
 clear hr1 hc1
 have HB := Aside0.mk (Below.refl w.heap.size w)
 have H : ((purflingref01_shared.f a0 (l1.length : Int)).bind fun t210 => (if t210 = true then (purflingref01_Share.l0 k a0 l1 0 0) else (some (([] : List Int), 10)))) = some (r1, r2) := h
 clear h
 replace H := Option.bind_eq_some_iff.mp H
 obtain ⟨t210, A30, H⟩ := H
 replace H : (if t210 = true then (purflingref01_Share.l0 k a0 l1 0 0) else (some (([] : List Int), 10))) = some (r1, r2) := H
 have A3 := Aside0.mk A30
 clear A30
 by_cases c4 : t210 = true
 ·subst c4
  have H1 : (purflingref01_Share.l0 k a0 l1 0 0) = some (r1, r2) := by rw [if_pos rfl] at H; exact H
  clear H
  have H := H1
  clear H1
  have H' := Aside0.mk H
  clear H
  go_enter Try.func33, Try.ntmps33
  go_wp2_with (first | ((with_reducible refine gate_callee (f := 54) rfl ?_); refine goesL_ (some 22) rfl rfl Try.func54 (by kernel_rfl) rfl #[.int .i64 a0, .int .i64 (l1.length : Int)] rfl (by (try simp only [List.map_toArray, List.map_cons, List.map_nil]); first | done | rfl | (simp only [List.length_drop, List.length_take]; rfl)) ?_; (with_reducible refine (purflingref01_shared.calls a0 (l1.length : Int) true _ A3.out).mono ?_); rintro e w' ⟨rfl, ⟨nd, rfl⟩⟩; refine ⟨_, rfl, ?_⟩))
  go_loopg [6, 7] k (fun kq v6 v7 w' => ∃ (x6_1 : Int) (x7_1 : Int), v6 = .int .u64 x6_1 ∧ v7 = .int .i64 x7_1 ∧ Aside0 (purflingref01_Share.l0 kq a0 l1 x6_1 x7_1 = some (r1, r2)) ∧ Aside0 (kq ≤ k) ∧ Aside0 (Below w.heap.size w w'))
  case atStart => exact ⟨(0), (0), (by first | rfl | (simp; done) | (simp [*]; done)), (by first | rfl | (simp; done) | (simp [*]; done)), H', ⟨Nat.le_refl _⟩, ⟨by repeat (first | (with_reducible first | exact HB.out | apply below_alloc | apply pw_below_drewN | apply below_drew1) | exact HB.out)⟩⟩
  case round =>
   clear H'
   try clear c1
   try clear p2
   try clear c3
   try clear c4
   obtain ⟨x6_1, x7_1, rfl, rfl, HA, HK1, HB⟩ := hrel
   cases gk with
   | zero => exact absurd HA.out (by simp [purflingref01_Share.l0])
   | succ k1 =>
    have H := HA.out
    clear HA
    simp only [purflingref01_Share.l0] at H
    by_cases c5 : x7_1 < (l1.length : Int)
    ·rw [if_pos c5] at H
     have c5b0 : decide (x7_1 < (l1.length : Int)) = true := decide_eq_true c5
     clear c5
     by_cases c6 : 0 ≤ x7_1
     ·rw [if_pos c6] at H
      have c6b0 : decide (0 ≤ x7_1) = true := decide_eq_true c6
      clear c6
      by_cases c7 : (rd l1 x7_1) < 0
      ·rw [if_pos c7] at H
       have c7b0 : decide ((rd l1 x7_1) < 0) = true := decide_eq_true c7
       clear c7
       simp only [Option.some.injEq, Prod.mk.injEq] at H
       obtain ⟨rfl, rfl⟩ := H
       have p211 : 0 ≤ (x7_1 : Int) := of_decide_eq_true (by first | (with_reducible assumption) | assumption)
       have q211 : x7_1 < (l1.length : Int) := of_decide_eq_true (by first | (with_reducible assumption) | assumption)
       obtain ⟨ad211, e211, hx211_0⟩ := Kd.at_int HR1.out x7_1 p211 q211
       cases e211
       replace hx211_0 := (HB.out.cell (World.block_lt_of_cell? w _ hx211_0)).trans hx211_0
       replace p211 := eq_true p211
       replace q211 := eq_true q211
       go_wp2
       go_ret2
       exact ⟨_, by first | rfl | (simp [errW_none, errW_some] <;> rfl) | (simp [*, errW_none, errW_some] <;> rfl), by first | exact Kd.R_nil _ _ _ _ _ | exact Kd.N_nil _ _ _ _ _ | exact Kd.V_nil _ _ _ _ _ | exact Kd.Q_nil _ _ _ _ _ | exact Kd.S_nil _ _ _ _ _, by repeat (first | (with_reducible first | exact HB.out | apply below_alloc | apply pw_below_drewN | apply below_drew1) | exact HB.out)⟩
      ·rw [if_neg c7] at H
       have c7b0 : decide ((rd l1 x7_1) < 0) = false := decide_eq_false c7
       clear c7
       by_cases c8 : (rd l1 x7_1) ≥ 1125899906842624
       ·rw [if_pos c8] at H
        have c8b0 : decide (1125899906842624 ≤ (rd l1 x7_1)) = true := decide_eq_true c8
        clear c8
        simp only [Option.some.injEq, Prod.mk.injEq] at H
        obtain ⟨rfl, rfl⟩ := H
        have p211 : 0 ≤ (x7_1 : Int) := of_decide_eq_true (by first | (with_reducible assumption) | assumption)
        have q211 : x7_1 < (l1.length : Int) := of_decide_eq_true (by first | (with_reducible assumption) | assumption)
        obtain ⟨ad211, e211, hx211_0⟩ := Kd.at_int HR1.out x7_1 p211 q211
        cases e211
        replace hx211_0 := (HB.out.cell (World.block_lt_of_cell? w _ hx211_0)).trans hx211_0
        replace p211 := eq_true p211
        replace q211 := eq_true q211
        have p212 : 0 ≤ (x7_1 : Int) := of_decide_eq_true (by first | (with_reducible assumption) | assumption)
        have q212 : x7_1 < (l1.length : Int) := of_decide_eq_true (by first | (with_reducible assumption) | assumption)
        obtain ⟨ad212, e212, hx212_0⟩ := Kd.at_int HR1.out x7_1 p212 q212
        obtain rfl : ad211 = ad212 := (by injection e212)
        replace hx212_0 := (HB.out.cell (World.block_lt_of_cell? w _ hx212_0)).trans hx212_0
        replace p212 := eq_true p212
        replace q212 := eq_true q212
        go_wp2
        go_ret2
        exact ⟨_, by first | rfl | (simp [errW_none, errW_some] <;> rfl) | (simp [*, errW_none, errW_some] <;> rfl), by first | exact Kd.R_nil _ _ _ _ _ | exact Kd.N_nil _ _ _ _ _ | exact Kd.V_nil _ _ _ _ _ | exact Kd.Q_nil _ _ _ _ _ | exact Kd.S_nil _ _ _ _ _, by repeat (first | (with_reducible first | exact HB.out | apply below_alloc | apply pw_below_drewN | apply below_drew1) | exact HB.out)⟩
       ·rw [if_neg c8] at H
        have c8b0 : decide (1125899906842624 ≤ (rd l1 x7_1)) = false := decide_eq_false c8
        clear c8
        have H' := Aside0.mk H
        clear H
        have p211 : 0 ≤ (x7_1 : Int) := of_decide_eq_true (by first | (with_reducible assumption) | assumption)
        have q211 : x7_1 < (l1.length : Int) := of_decide_eq_true (by first | (with_reducible assumption) | assumption)
        obtain ⟨ad211, e211, hx211_0⟩ := Kd.at_int HR1.out x7_1 p211 q211
        cases e211
        replace hx211_0 := (HB.out.cell (World.block_lt_of_cell? w _ hx211_0)).trans hx211_0
        replace p211 := eq_true p211
        replace q211 := eq_true q211
        have p212 : 0 ≤ (x7_1 : Int) := of_decide_eq_true (by first | (with_reducible assumption) | assumption)
        have q212 : x7_1 < (l1.length : Int) := of_decide_eq_true (by first | (with_reducible assumption) | assumption)
        obtain ⟨ad212, e212, hx212_0⟩ := Kd.at_int HR1.out x7_1 p212 q212
        obtain rfl : ad211 = ad212 := (by injection e212)
        replace hx212_0 := (HB.out.cell (World.block_lt_of_cell? w _ hx212_0)).trans hx212_0
        replace p212 := eq_true p212
        replace q212 := eq_true q212
        have p213 : 0 ≤ (x7_1 : Int) := of_decide_eq_true (by first | (with_reducible assumption) | assumption)
        have q213 : x7_1 < (l1.length : Int) := of_decide_eq_true (by first | (with_reducible assumption) | assumption)
        obtain ⟨ad213, e213, hx213_0⟩ := Kd.at_int HR1.out x7_1 p213 q213
        obtain rfl : ad211 = ad213 := (by injection e213)
        replace hx213_0 := (HB.out.cell (World.block_lt_of_cell? w _ hx213_0)).trans hx213_0
        replace p213 := eq_true p213
        replace q213 := eq_true q213
        go_wp2
        go_roundg k1
        case measure => have := HK1.out; omega
        case rel => exact ⟨(IntKind.u64.wrap (x6_1 + (IntKind.u64.wrap (rd l1 x7_1)))), (wrap64 (x7_1 + 1)), (by first | rfl | (simp; done) | (simp [*]; done)), (by first | rfl | (simp; done) | (simp [*]; done)), H', ⟨by have := HK1.out; omega⟩, ⟨by repeat (first | (with_reducible first | exact HB.out | apply below_alloc | apply pw_below_drewN | apply below_drew1) | exact HB.out)⟩⟩
     ·rw [if_neg c6] at H
      exact absurd H (by simp)
    ·rw [if_neg c5] at H
     have c5b0 : decide (x7_1 < (l1.length : Int)) = false := decide_eq_false c5
     clear c5
     by_cases c9 : x6_1 = 0
     ·rw [if_pos c9] at H
      have c9b0 : (x6_1 == 0) = true := beq_iff_eq.mpr c9
      have c9b1 : (x6_1 != 0) = false := bne_eq_false_iff_eq.mpr c9
      clear c9
      replace H := Option.bind_eq_some_iff.mp H
      obtain ⟨⟨t214, t215⟩, A100, H⟩ := H
      replace H : (some (t214, t215)) = some (r1, r2) := H
      have A10 := Aside0.mk A100
      clear A100
      simp only [Option.some.injEq, Prod.mk.injEq] at H
      obtain ⟨rfl, rfl⟩ := H
      go_wp2_with (first | ((with_reducible refine gate_callee (f := 55) rfl ?_); refine goesL_ (some 54) rfl rfl Try.func55 (by kernel_rfl) rfl #[.int .i64 a0, .int .i64 (l1.length : Int)] rfl (by (try simp only [List.map_toArray, List.map_cons, List.map_nil]); first | done | rfl | (simp only [List.length_drop, List.length_take]; rfl)) ?_; (with_reducible refine (purflingref01_Even.calls k1 a0 (l1.length : Int) t214 t215 _ A10.out).mono ?_); rintro e w11 ⟨v216, rfl, ho0, hb⟩; refine ⟨_, rfl, ?_⟩; have n0_ := Aside0.mk (Kd.R_lower ho0 (below_size (by repeat (first | (with_reducible first | exact HB.out | apply below_alloc | apply pw_below_drewN | apply below_drew1) | exact HB.out)))); have n1_ := Aside0.mk (below_step (by repeat (first | (with_reducible first | exact HB.out | apply below_alloc | apply pw_below_drewN | apply below_drew1) | exact HB.out)) hb); clear HB; have HO217 := n0_; have HB := n1_; clear n0_ n1_; (try clear hb); (try clear hb2); (try clear hk); (try clear hi); (try clear ho0)))
      go_ret2
      exact ⟨_, by first | rfl | (simp [errW_none, errW_some] <;> rfl) | (simp [*, errW_none, errW_some] <;> rfl), by (with_reducible repeat (first | apply Kd.R_alloc | apply Kd.R_drewN | apply Kd.R_drew)); exact HO217.out, by repeat (first | (with_reducible first | exact HB.out | apply below_alloc | apply pw_below_drewN | apply below_drew1) | exact HB.out)⟩
     ·rw [if_neg c9] at H
      have c9b0 : (x6_1 == 0) = false := beq_eq_false_iff_ne.mpr c9
      have c9b1 : (x6_1 != 0) = true := bne_iff_ne.mpr c9
      have H' := Aside0.mk H
      clear H
      go_wp2
      go_loopg [8, 9, 10, 11] k1 (fun kq v8 v9 v10 v11 w' => ∃ (x8_2 : List Int) (x9_2 : List Int) (x10_2 : Int) (x11_2 : Int), v10 = .int .i64 x10_2 ∧ v11 = .int .i64 x11_2 ∧ Aside0 (purflingref01_Share.l1 kq a0 l1 x6_1 x8_2 x9_2 x10_2 x11_2 = some (r1, r2)) ∧ Aside0 (kq ≤ k1) ∧ Aside0 (Kd.R (Kd.int .i64) 2 w' w.heap.size (fun _ => True) v8 x8_2) ∧ Aside0 (Kd.R (Kd.int .u64) 64 w' w.heap.size (fun _ => True) v9 x9_2) ∧ Aside0 (Below w.heap.size w w'))
      case atStart => exact ⟨(([] : List Int)), (([] : List Int)), (a0), (0), (by first | rfl | (simp; done) | (simp [*]; done)), (by first | rfl | (simp; done) | (simp [*]; done)), H', ⟨Nat.le_refl _⟩, ⟨by first | exact Kd.R_nil _ _ _ _ _ | exact Kd.N_nil _ _ _ _ _ | exact Kd.V_nil _ _ _ _ _ | exact Kd.Q_nil _ _ _ _ _ | exact Kd.S_nil _ _ _ _ _⟩, ⟨by first | exact Kd.R_nil _ _ _ _ _ | exact Kd.N_nil _ _ _ _ _ | exact Kd.V_nil _ _ _ _ _ | exact Kd.Q_nil _ _ _ _ _ | exact Kd.S_nil _ _ _ _ _⟩, ⟨by repeat (first | (with_reducible first | exact HB.out | apply below_alloc | apply pw_below_drewN | apply below_drew1) | exact HB.out)⟩⟩
      case round =>
       clear H'
       try clear c1
       try clear p2
       try clear q2
       try clear hx2
       try clear c3
       try clear c4
       try clear c5
       try clear c5b0
       try clear c6
       try clear c6b0
       try clear p6
       try clear c7
       try clear c7b0
       try clear c8
       try clear c8b0
       try clear c9
       try clear c9b0
       try clear c9b1
       try clear hx211_0
       try clear hx212_0
       try clear hx213_0
       try clear p2
       try clear p211
       try clear p212
       try clear p213
       try clear q211
       try clear q212
       try clear q213
       obtain ⟨x8_2, x9_2, x10_2, x11_2, rfl, rfl, HA, HK2, HO_8, HO_9, HB⟩ := hrel
       cases gk with
       | zero => exact absurd HA.out (by simp [purflingref01_Share.l1])
       | succ k2 =>
        have H := HA.out
        clear HA
        simp only [purflingref01_Share.l1] at H
        by_cases c12 : x11_2 < (l1.length : Int)
        ·rw [if_pos c12] at H
         have c12b0 : decide (x11_2 < (l1.length : Int)) = true := decide_eq_true c12
         clear c12
         by_cases c13 : 0 ≤ x11_2
         ·rw [if_pos c13] at H
          have c13b0 : decide (0 ≤ x11_2) = true := decide_eq_true c13
          clear c13
          replace H := Option.bind_eq_some_iff.mp H
          obtain ⟨⟨t219, t220⟩, A140, H⟩ := H
          replace H : ((bits_Div64.f k2 t219 t220 x6_1).bind fun bt221 => (if x8_2.length < 17592186044416 then (if x9_2.length < 17592186044416 then (purflingref01_Share.l1 k2 a0 l1 x6_1 (x8_2 ++ [wrap64 (bt221.1)]) (x9_2 ++ [bt221.2]) (wrap64 (x10_2 - (wrap64 (bt221.1)))) (wrap64 (x11_2 + 1))) else (none)) else (none))) = some (r1, r2) := H
          have A14 := Aside0.mk A140
          clear A140
          replace H := Option.bind_eq_some_iff.mp H
          obtain ⟨⟨t221, t222⟩, A150, H⟩ := H
          replace H : (if x8_2.length < 17592186044416 then (if x9_2.length < 17592186044416 then (purflingref01_Share.l1 k2 a0 l1 x6_1 (x8_2 ++ [wrap64 (t221)]) (x9_2 ++ [t222]) (wrap64 (x10_2 - (wrap64 (t221)))) (wrap64 (x11_2 + 1))) else (none)) else (none)) = some (r1, r2) := H
          have A15 := Aside0.mk A150
          clear A150
          by_cases c16 : x8_2.length < 17592186044416
          ·rw [if_pos c16] at H
           have LMc16 := Aside0.mk c16
           clear c16
           obtain ⟨y223, hy223⟩ : ∃ y_ : List Int, y_ = (x8_2 ++ [wrap64 (t221)]) := ⟨_, rfl⟩
           replace H : (if x9_2.length < 17592186044416 then (purflingref01_Share.l1 k2 a0 l1 x6_1 y223 (x9_2 ++ [t222]) (wrap64 (x10_2 - (wrap64 (t221)))) (wrap64 (x11_2 + 1))) else (none)) = some (r1, r2) := by first | (rw [hy223]; with_reducible exact H) | (have H2_ := (Option.bind_some _ _).symm.trans H; rw [hy223]; with_reducible exact H2_) | (have H2_ := (Option.bind_some _ _).symm.trans H; with_reducible exact H2_) | with_reducible exact H | (rw [hy223]; exact H) | exact H
           have Ny223 := Aside0.mk hy223
           clear hy223
           by_cases c17 : x9_2.length < 17592186044416
           ·rw [if_pos c17] at H
            have LMc17 := Aside0.mk c17
            clear c17
            obtain ⟨y226, hy226⟩ : ∃ y_ : List Int, y_ = (x9_2 ++ [t222]) := ⟨_, rfl⟩
            replace H : (purflingref01_Share.l1 k2 a0 l1 x6_1 y223 y226 (wrap64 (x10_2 - (wrap64 (t221)))) (wrap64 (x11_2 + 1))) = some (r1, r2) := by first | (rw [hy226]; with_reducible exact H) | (have H2_ := (Option.bind_some _ _).symm.trans H; rw [hy226]; with_reducible exact H2_) | (have H2_ := (Option.bind_some _ _).symm.trans H; with_reducible exact H2_) | with_reducible exact H | (rw [hy226]; exact H) | exact H
            have Ny226 := Aside0.mk hy226
            clear hy226
            have H' := Aside0.mk H
            clear H
            have p218 : 0 ≤ (x11_2 : Int) := of_decide_eq_true (by first | (with_reducible assumption) | assumption)
            have q218 : x11_2 < (l1.length : Int) := of_decide_eq_true (by first | (with_reducible assumption) | assumption)
            obtain ⟨ad218, e218, hx218_0⟩ := Kd.at_int HR1.out x11_2 p218 q218
            cases e218
            replace hx218_0 := (HB.out.cell (World.block_lt_of_cell? w _ hx218_0)).trans hx218_0
            replace p218 := eq_true p218
            replace q218 := eq_true q218
            go_wp2_with (first | ((with_reducible refine gate_callee (f := 56) rfl ?_); refine goesL_ (some 72) rfl rfl Try.func56 (by kernel_rfl) rfl #[.int .u64 (IntKind.u64.wrap (a0)), .int .u64 (IntKind.u64.wrap (rd l1 x11_2))] rfl (by (try simp only [List.map_toArray, List.map_cons, List.map_nil]); first | done | rfl | (simp only [List.length_drop, List.length_take]; rfl)) ?_; (with_reducible refine (bits_Mul64.calls (IntKind.u64.wrap (a0)) (IntKind.u64.wrap (rd l1 x11_2)) t219 t220 _ A14.out).mono ?_); rintro e w' ⟨rfl, ⟨nd, rfl⟩⟩; refine ⟨_, rfl, ?_⟩) | ((with_reducible refine gate_callee (f := 57) rfl ?_); refine goesL_ (some 79) rfl rfl Try.func57 (by kernel_rfl) rfl #[.int .u64 t219, .int .u64 t220, .int .u64 x6_1] rfl (by (try simp only [List.map_toArray, List.map_cons, List.map_nil]); first | done | rfl | (simp only [List.length_drop, List.length_take]; rfl)) ?_; (with_reducible refine (bits_Div64.calls k2 t219 t220 x6_1 t221 t222 _ A15.out).mono ?_); rintro e w' ⟨rfl, ⟨nd, rfl⟩⟩; refine ⟨_, rfl, ?_⟩) | ((with_reducible refine gate_builtin (b := .append) (xs := #[.tmp 82, .tmp 85]) rfl ?_); at_builtin; refine Kd.R_append (Kd.int .i64) (w0 := w) w.heap.size rfl (.tmp 82) (.tmp 85) 22 2 (.int .i64 0) 8 rfl Try.underlying22 info2 rfl (by decide) (by omega) u8 x8_2 (wrap64 (t221)) [.int .i64 (wrap64 (t221))] (fun _ => True) (fun _ => False) rfl rfl ?aP (fun _ hk => hk.elim) ?aF ?aO ?aB ?aS ?aL ?_; (case aP => exact rfl); (case aB => exact (by repeat (first | (with_reducible first | exact HB.out | apply below_alloc | apply pw_below_drewN | apply below_drew1) | exact HB.out))); (case aF => exact (fun _ _ => trivial)); (case aO => exact (by (with_reducible repeat (first | apply Kd.R_alloc | apply Kd.R_drewN | apply Kd.R_drew)); exact HO_8.out)); (case aS => exact (below_size (by repeat (first | (with_reducible first | exact HB.out | apply below_alloc | apply pw_below_drewN | apply below_drew1) | exact HB.out)))); (case aL => have := LMc16.out; omega); intro v224 w18 ho hb hg hat; rw [← Ny223.out] at ho; have n0_ := Aside0.mk (Kd.R_over' (by (with_reducible repeat (first | apply Kd.R_alloc | apply Kd.R_drewN | apply Kd.R_drew)); exact HO_9.out) (Kd.R_typed (by (with_reducible repeat (first | apply Kd.R_alloc | apply Kd.R_drewN | apply Kd.R_drew)); exact HO_8.out)) (by decide) hg); have n1_ := Aside0.mk (hb); have n2_ := Aside0.mk (ho); clear HO_9; clear HB; clear HO_8; have HO_9 := n0_; have HB := n1_; have HO225 := n2_; clear n0_ n1_ n2_; clear ho hb hg hat) | ((with_reducible refine gate_builtin (b := .append) (xs := #[.tmp 87, .tmp 89]) rfl ?_); at_builtin; refine Kd.R_append (Kd.int .u64) (w0 := w) w.heap.size rfl (.tmp 87) (.tmp 89) 77 64 (.int .u64 0) 8 rfl Try.underlying77 info64 rfl (by decide) (by omega) u9 x9_2 t222 [.int .u64 t222] (fun _ => True) (fun _ => False) rfl rfl ?aP (fun _ hk => hk.elim) ?aF ?aO ?aB ?aS ?aL ?_; (case aP => exact rfl); (case aB => exact (by repeat (first | (with_reducible first | exact HB.out | apply below_alloc | apply pw_below_drewN | apply below_drew1) | exact HB.out))); (case aF => exact (fun _ _ => trivial)); (case aO => exact (by (with_reducible repeat (first | apply Kd.R_alloc | apply Kd.R_drewN | apply Kd.R_drew)); exact HO_9.out)); (case aS => exact (below_size (by repeat (first | (with_reducible first | exact HB.out | apply below_alloc | apply pw_below_drewN | apply below_drew1) | exact HB.out)))); (case aL => have := LMc17.out; omega); intro v227 w19 ho hb hg hat; rw [← Ny226.out] at ho; have n0_ := Aside0.mk (Kd.R_over' (by (with_reducible repeat (first | apply Kd.R_alloc | apply Kd.R_drewN | apply Kd.R_drew)); exact HO225.out) (Kd.R_typed (by (with_reducible repeat (first | apply Kd.R_alloc | apply Kd.R_drewN | apply Kd.R_drew)); exact HO_9.out)) (by decide) hg); have n1_ := Aside0.mk (hb); have n2_ := Aside0.mk (ho); clear HO225; clear HB; clear HO_9; have HO225 := n0_; have HB := n1_; have HO228 := n2_; clear n0_ n1_ n2_; clear ho hb hg hat))
            go_roundg k2
            case measure => have := HK1.out; have := HK2.out; omega
            case rel => exact ⟨(y223), (y226), (wrap64 (x10_2 - (wrap64 (t221)))), (wrap64 (x11_2 + 1)), (by first | rfl | (simp; done) | (simp [*]; done)), (by first | rfl | (simp; done) | (simp [*]; done)), H', ⟨by have := HK1.out; have := HK2.out; omega⟩, ⟨by (with_reducible repeat (first | apply Kd.R_alloc | apply Kd.R_drewN | apply Kd.R_drew)); exact HO225.out⟩, ⟨by (with_reducible repeat (first | apply Kd.R_alloc | apply Kd.R_drewN | apply Kd.R_drew)); exact HO228.out⟩, ⟨by repeat (first | (with_reducible first | exact HB.out | apply below_alloc | apply pw_below_drewN | apply below_drew1) | exact HB.out)⟩⟩
           ·rw [if_neg c17] at H
            exact absurd H (by simp)
          ·rw [if_neg c16] at H
           exact absurd H (by simp)
         ·rw [if_neg c13] at H
          exact absurd H (by simp)
        ·rw [if_neg c12] at H
         have c12b0 : decide (x11_2 < (l1.length : Int)) = false := decide_eq_false c12
         clear c12
         by_cases c20 : 0 ≤ (l1.length : Int)
         ·rw [if_pos c20] at H
          have c20b0 := eq_true c20
          have c20b1 : decide (0 ≤ (l1.length : Int)) = true := decide_eq_true c20
          clear c20
          by_cases c21 : ((l1.length : Int) : Int).toNat ≤ 281474976710656
          ·rw [if_pos c21] at H
           have c21b0 := eq_true c21
           have c21b1 : decide (((l1.length : Int) : Int).toNat ≤ 281474976710656) = true := decide_eq_true c21
           clear c21
           obtain ⟨y229, hy229⟩ : ∃ y_ : List Bool, y_ = (List.replicate ((l1.length : Int) : Int).toNat false) := ⟨_, rfl⟩
           replace H : (purflingref01_Share.l2 k2 l1 x8_2 x9_2 x10_2 y229) = some (r1, r2) := by first | (rw [hy229]; with_reducible exact H) | (have H2_ := (Option.bind_some _ _).symm.trans H; rw [hy229]; with_reducible exact H2_) | (have H2_ := (Option.bind_some _ _).symm.trans H; with_reducible exact H2_) | with_reducible exact H | (rw [hy229]; exact H) | exact H
           have Ny229 := Aside0.mk hy229
           clear hy229
           have H' := Aside0.mk H
           clear H
           go_wp2_with (first | ((with_reducible refine gate_dst (N := 97) rfl ?_); refine Kd.R_make Kd.bool _ 4 rfl (N := 97) rfl 81 _ _ rfl (l1.length : Int) rfl rfl Try.underlying81 (.bool false) 1 info4 rfl (by decide) (by omega) false (ok := fun _ => True) (okp := fun _ => True) rfl (fun _ hk => hk) trivial (of_decide_eq_true (by first | (with_reducible assumption) | assumption)) (Nat.le_trans (Nat.mul_le_mul_right _ (of_decide_eq_true (by first | (with_reducible assumption) | assumption) : (l1.length : Int).toNat ≤ 281474976710656)) (by omega)) (Below.refl _ _) (Nat.le_refl _) ?_; intro v230 w22 ho23 hb hg_ hnew_; clear hg_ hnew_; (first | rw [← Ny229.out] at ho23 | (simp only [Int.reduceToNat] at ho23; rw [← Ny229.out] at ho23)); have n0_ := Aside0.mk (Kd.R_below (by (with_reducible repeat (first | apply Kd.R_alloc | apply Kd.R_drewN | apply Kd.R_drew)); exact HO_8.out) hb); have n1_ := Aside0.mk (Kd.R_below (by (with_reducible repeat (first | apply Kd.R_alloc | apply Kd.R_drewN | apply Kd.R_drew)); exact HO_9.out) hb); have n2_ := Aside0.mk (Kd.R_lower ho23 (below_size (by repeat (first | (with_reducible first | exact HB.out | apply below_alloc | apply pw_below_drewN | apply below_drew1) | exact HB.out)))); have n3_ := Aside0.mk (below_step (by repeat (first | (with_reducible first | exact HB.out | apply below_alloc | apply pw_below_drewN | apply below_drew1) | exact HB.out)) hb); clear HO_8; clear HO_9; clear HB; have HO_8 := n0_; have HO_9 := n1_; have HO231 := n2_; have HB := n3_; clear n0_ n1_ n2_ n3_; clear hb ho23))
           go_loopg [10] k2 (fun kq v10 w' => ∃ (x8_3 : List Int) (x10_3 : Int) (x16_3 : List Bool), v10 = .int .i64 x10_3 ∧ Aside0 (purflingref01_Share.l2 kq l1 x8_3 x9_2 x10_3 x16_3 = some (r1, r2)) ∧ Aside0 (kq ≤ k2) ∧ Aside0 (Kd.R (Kd.int .i64) 2 w' w.heap.size (fun _ => True) u8 x8_3) ∧ Aside0 (Kd.R (Kd.int .u64) 64 w' w.heap.size (fun _ => True) u9 x9_2) ∧ Aside0 (Kd.R Kd.bool 4 w' w.heap.size (fun _ => True) v230 x16_3) ∧ Aside0 (Below w.heap.size w w'))
           case atStart => exact ⟨(x8_2), (x10_2), (y229), (by first | rfl | (simp; done) | (simp [*]; done)), H', ⟨Nat.le_refl _⟩, ⟨by (with_reducible repeat (first | apply Kd.R_alloc | apply Kd.R_drewN | apply Kd.R_drew)); exact HO_8.out⟩, ⟨by (with_reducible repeat (first | apply Kd.R_alloc | apply Kd.R_drewN | apply Kd.R_drew)); exact HO_9.out⟩, ⟨by (with_reducible repeat (first | apply Kd.R_alloc | apply Kd.R_drewN | apply Kd.R_drew)); exact HO231.out⟩, ⟨by repeat (first | (with_reducible first | exact HB.out | apply below_alloc | apply pw_below_drewN | apply below_drew1) | exact HB.out)⟩⟩
           case round =>
            clear H'
            try clear c1
            try clear c2
            try clear p2
            try clear q2
            try clear hx2
            try clear c3
            try clear c4
            try clear c5
            try clear c5b0
            try clear c6
            try clear c6b0
            try clear p6
            try clear c7
            try clear c7b0
            try clear c8
            try clear c8b0
            try clear c9
            try clear c9b0
            try clear c9b1
            try clear c12
            try clear c12b0
            try clear c13
            try clear c13b0
            try clear c16
            try clear c17
            try clear c20
            try clear c20b0
            try clear c20b1
            try clear c21
            try clear c21b0
            try clear c21b1
            try clear p21
            try clear q21
            try clear hx21
            try clear hx211_0
            try clear hx212_0
            try clear hx213_0
            try clear hx218_0
            try clear p2
            try clear p211
            try clear p212
            try clear p213
            try clear p218
            try clear p6
            try clear q2
            try clear q211
            try clear q212
            try clear q213
            try clear q218
            obtain ⟨x8_3, x10_3, x16_3, rfl, HA, HK3, HO_8, HO_9, HO_16, HB⟩ := hrel
            cases gk with
            | zero => exact absurd HA.out (by simp [purflingref01_Share.l2])
            | succ k3 =>
             have H := HA.out
             clear HA
             simp only [purflingref01_Share.l2] at H
             by_cases c24 : x10_3 > 0
             ·rw [if_pos c24] at H
              have c24b0 : decide (0 < x10_3) = true := decide_eq_true c24
              clear c24
              have H' := Aside0.mk H
              clear H
              go_wp2
              go_loopg [17, 18] k3 (fun kq v17 v18 w' => ∃ (x17_4 : Int) (x18_4 : Int), v17 = .int .i64 x17_4 ∧ v18 = .int .i64 x18_4 ∧ Aside0 (purflingref01_Share.l3 kq l1 x8_3 x9_2 x10_3 x16_3 x17_4 x18_4 = some (r1, r2)) ∧ Aside0 (kq ≤ k3) ∧ Aside0 (Kd.R (Kd.int .i64) 2 w' w.heap.size (fun _ => True) u8 x8_3) ∧ Aside0 (Kd.R (Kd.int .u64) 64 w' w.heap.size (fun _ => True) u9 x9_2) ∧ Aside0 (Kd.R Kd.bool 4 w' w.heap.size (fun _ => True) v230 x16_3) ∧ Aside0 (Below w.heap.size w w'))
              case atStart => exact ⟨((-1)), (0), (by first | rfl | (simp; done) | (simp [*]; done)), (by first | rfl | (simp; done) | (simp [*]; done)), H', ⟨Nat.le_refl _⟩, ⟨by (with_reducible repeat (first | apply Kd.R_alloc | apply Kd.R_drewN | apply Kd.R_drew)); exact HO_8.out⟩, ⟨by (with_reducible repeat (first | apply Kd.R_alloc | apply Kd.R_drewN | apply Kd.R_drew)); exact HO_9.out⟩, ⟨by (with_reducible repeat (first | apply Kd.R_alloc | apply Kd.R_drewN | apply Kd.R_drew)); exact HO_16.out⟩, ⟨by repeat (first | (with_reducible first | exact HB.out | apply below_alloc | apply pw_below_drewN | apply below_drew1) | exact HB.out)⟩⟩
              case round =>
               clear H'
               try clear c1
               try clear c2
               try clear p2
               try clear q2
               try clear hx2
               try clear c3
               try clear c4
               try clear c5
               try clear c5b0
               try clear c6
               try clear c6b0
               try clear p6
               try clear c7
               try clear c7b0
               try clear c8
               try clear c8b0
               try clear c9
               try clear c9b0
               try clear c9b1
               try clear c12
               try clear c12b0
               try clear c13
               try clear c13b0
               try clear c16
               try clear c17
               try clear c20
               try clear c20b0
               try clear c20b1
               try clear c21
               try clear c21b0
               try clear c21b1
               try clear p21
               try clear q21
               try clear hx21
               try clear c24
               try clear c24b0
               try clear hx211_0
               try clear hx212_0
               try clear hx213_0
               try clear hx218_0
               try clear p2
               try clear p21
               try clear p211
               try clear p212
               try clear p213
               try clear p218
               try clear p6
               try clear q2
               try clear q21
               try clear q211
               try clear q212
               try clear q213
               try clear q218
               obtain ⟨x17_4, x18_4, rfl, rfl, HA, HK4, HO_8, HO_9, HO_16, HB⟩ := hrel
               cases gk with
               | zero => exact absurd HA.out (by simp [purflingref01_Share.l3])
               | succ k4 =>
                have H := HA.out
                clear HA
                simp only [purflingref01_Share.l3] at H
                by_cases c25 : x18_4 < (l1.length : Int)
                ·rw [if_pos c25] at H
                 have c25b0 : decide (x18_4 < (l1.length : Int)) = true := decide_eq_true c25
                 clear c25
                 by_cases c26 : 0 ≤ x18_4
                 ·rw [if_pos c26] at H
                  have c26b0 : decide (0 ≤ x18_4) = true := decide_eq_true c26
                  clear c26
                  by_cases c27 : x18_4 < (x16_3.length : Int)
                  ·rw [if_pos c27] at H
                   have c27b0 : decide (x18_4 < (x16_3.length : Int)) = true := decide_eq_true c27
                   clear c27
                   obtain ⟨bq28, hbq28⟩ : ∃ b_ : Bool, b_ = (rdOf false x16_3 x18_4) := ⟨_, rfl⟩
                   replace H : (if bq28 = true then (purflingref01_Share.l3 k4 l1 x8_3 x9_2 x10_3 x16_3 x17_4 (wrap64 (x18_4 + 1))) else (if x17_4 < 0 then (purflingref01_Share.l3 k4 l1 x8_3 x9_2 x10_3 x16_3 x18_4 (wrap64 (x18_4 + 1))) else ((purflingref01_more.f x9_2 x18_4 x17_4).bind fun t233 => (if t233 = true then (purflingref01_Share.l3 k4 l1 x8_3 x9_2 x10_3 x16_3 x18_4 (wrap64 (x18_4 + 1))) else (purflingref01_Share.l3 k4 l1 x8_3 x9_2 x10_3 x16_3 x17_4 (wrap64 (x18_4 + 1))))))) = some (r1, r2) := by rw [← hbq28] at H; exact H
                   have Nbq28 := Aside0.mk hbq28
                   clear hbq28
                   by_cases c29 : bq28 = true
                   ·subst c29
                    have H1 : (purflingref01_Share.l3 k4 l1 x8_3 x9_2 x10_3 x16_3 x17_4 (wrap64 (x18_4 + 1))) = some (r1, r2) := by rw [if_pos rfl] at H; exact H
                    clear H
                    have H := H1
                    clear H1
                    have H' := Aside0.mk H
                    clear H
                    obtain ⟨Ao30, co30, eo30⟩ := Kd.R_slice HO_16.out
                    subst eo30
                    have p232 : 0 ≤ (x18_4 : Int) := of_decide_eq_true (by first | (with_reducible assumption) | assumption)
                    have q232 : x18_4 < (x16_3.length : Int) := of_decide_eq_true (by first | (with_reducible assumption) | assumption)
                    obtain ⟨ad232, e232, hx232_0⟩ := Kd.at_bool (Kd.R_reads' HO_16.out).2.2 x18_4 p232 q232
                    (try rw [← Nbq28.out] at hx232_0)
                    cases e232
                    replace p232 := eq_true p232
                    replace q232 := eq_true q232
                    go_wp2
                    go_roundg k4
                    case measure => have := HK1.out; have := HK2.out; have := HK3.out; have := HK4.out; omega
                    case rel => exact ⟨(x17_4), (wrap64 (x18_4 + 1)), (by first | rfl | (simp; done) | (simp [*]; done)), (by first | rfl | (simp; done) | (simp [*]; done)), H', ⟨by have := HK1.out; have := HK2.out; have := HK3.out; have := HK4.out; omega⟩, ⟨by (with_reducible repeat (first | apply Kd.R_alloc | apply Kd.R_drewN | apply Kd.R_drew)); exact HO_8.out⟩, ⟨by (with_reducible repeat (first | apply Kd.R_alloc | apply Kd.R_drewN | apply Kd.R_drew)); exact HO_9.out⟩, ⟨by (with_reducible repeat (first | apply Kd.R_alloc | apply Kd.R_drewN | apply Kd.R_drew)); exact HO_16.out⟩, ⟨by repeat (first | (with_reducible first | exact HB.out | apply below_alloc | apply pw_below_drewN | apply below_drew1) | exact HB.out)⟩⟩
                   ·replace c29 := Bool.eq_false_iff.mpr c29
                    subst c29
                    have H1 : (if x17_4 < 0 then (purflingref01_Share.l3 k4 l1 x8_3 x9_2 x10_3 x16_3 x18_4 (wrap64 (x18_4 + 1))) else ((purflingref01_more.f x9_2 x18_4 x17_4).bind fun t233 => (if t233 = true then (purflingref01_Share.l3 k4 l1 x8_3 x9_2 x10_3 x16_3 x18_4 (wrap64 (x18_4 + 1))) else (purflingref01_Share.l3 k4 l1 x8_3 x9_2 x10_3 x16_3 x17_4 (wrap64 (x18_4 + 1)))))) = some (r1, r2) := by rw [if_neg (show ¬ (false = true) by decide)] at H; exact H
                    clear H
                    have H := H1
                    clear H1
                    by_cases c31 : x17_4 < 0
                    ·rw [if_pos c31] at H
                     have c31b0 : decide (x17_4 < 0) = true := decide_eq_true c31
                     clear c31
                     have H' := Aside0.mk H
                     clear H
                     obtain ⟨Ao32, co32, eo32⟩ := Kd.R_slice HO_16.out
                     subst eo32
                     have p232 : 0 ≤ (x18_4 : Int) := of_decide_eq_true (by first | (with_reducible assumption) | assumption)
                     have q232 : x18_4 < (x16_3.length : Int) := of_decide_eq_true (by first | (with_reducible assumption) | assumption)
                     obtain ⟨ad232, e232, hx232_0⟩ := Kd.at_bool (Kd.R_reads' HO_16.out).2.2 x18_4 p232 q232
                     (try rw [← Nbq28.out] at hx232_0)
                     cases e232
                     replace p232 := eq_true p232
                     replace q232 := eq_true q232
                     go_wp2
                     go_roundg k4
                     case measure => have := HK1.out; have := HK2.out; have := HK3.out; have := HK4.out; omega
                     case rel => exact ⟨(x18_4), (wrap64 (x18_4 + 1)), (by first | rfl | (simp; done) | (simp [*]; done)), (by first | rfl | (simp; done) | (simp [*]; done)), H', ⟨by have := HK1.out; have := HK2.out; have := HK3.out; have := HK4.out; omega⟩, ⟨by (with_reducible repeat (first | apply Kd.R_alloc | apply Kd.R_drewN | apply Kd.R_drew)); exact HO_8.out⟩, ⟨by (with_reducible repeat (first | apply Kd.R_alloc | apply Kd.R_drewN | apply Kd.R_drew)); exact HO_9.out⟩, ⟨by (with_reducible repeat (first | apply Kd.R_alloc | apply Kd.R_drewN | apply Kd.R_drew)); exact HO_16.out⟩, ⟨by repeat (first | (with_reducible first | exact HB.out | apply below_alloc | apply pw_below_drewN | apply below_drew1) | exact HB.out)⟩⟩
                    ·rw [if_neg c31] at H
                     have c31b0 : decide (x17_4 < 0) = false := decide_eq_false c31
                     clear c31
                     replace H := Option.bind_eq_some_iff.mp H
                     obtain ⟨t233, A330, H⟩ := H
                     replace H : (if t233 = true then (purflingref01_Share.l3 k4 l1 x8_3 x9_2 x10_3 x16_3 x18_4 (wrap64 (x18_4 + 1))) else (purflingref01_Share.l3 k4 l1 x8_3 x9_2 x10_3 x16_3 x17_4 (wrap64 (x18_4 + 1)))) = some (r1, r2) := H
                     have A33 := Aside0.mk A330
                     clear A330
                     by_cases c34 : t233 = true
                     ·subst c34
                      have H1 : (purflingref01_Share.l3 k4 l1 x8_3 x9_2 x10_3 x16_3 x18_4 (wrap64 (x18_4 + 1))) = some (r1, r2) := by rw [if_pos rfl] at H; exact H
                      clear H
                      have H := H1
                      clear H1
                      have H' := Aside0.mk H
                      clear H
                      obtain ⟨Ao35, co35, eo35⟩ := Kd.R_slice HO_16.out
                      subst eo35
                      have p232 : 0 ≤ (x18_4 : Int) := of_decide_eq_true (by first | (with_reducible assumption) | assumption)
                      have q232 : x18_4 < (x16_3.length : Int) := of_decide_eq_true (by first | (with_reducible assumption) | assumption)
                      obtain ⟨ad232, e232, hx232_0⟩ := Kd.at_bool (Kd.R_reads' HO_16.out).2.2 x18_4 p232 q232
                      (try rw [← Nbq28.out] at hx232_0)
                      cases e232
                      replace p232 := eq_true p232
                      replace q232 := eq_true q232
                      obtain ⟨Ao36, co36, eo36⟩ := Kd.R_slice HO_9.out
                      subst eo36
                      go_wp2_with (first | (go_at_call 58; (with_reducible refine (purflingref01_more.calls _ _ x9_2 x18_4 x17_4 true _ ?side1 ?side2 A33.out).mono ?_); (case side1 => repeat (first | exact (Kd.R_reads' HO_9.out).2.2 | (with_reducible refine Kd.C_alloc ?_ _) | (with_reducible refine Kd.C_drewN ?_ _) | (with_reducible refine Kd.C_drew ?_))); (case side2 => exact (Kd.R_reads' HO_9.out).2.1); rintro e w' ⟨rfl, ⟨nd, rfl⟩⟩))
                      go_roundg k4
                      case measure => have := HK1.out; have := HK2.out; have := HK3.out; have := HK4.out; omega
                      case rel => exact ⟨(x18_4), (wrap64 (x18_4 + 1)), (by first | rfl | (simp; done) | (simp [*]; done)), (by first | rfl | (simp; done) | (simp [*]; done)), H', ⟨by have := HK1.out; have := HK2.out; have := HK3.out; have := HK4.out; omega⟩, ⟨by (with_reducible repeat (first | apply Kd.R_alloc | apply Kd.R_drewN | apply Kd.R_drew)); exact HO_8.out⟩, ⟨by (with_reducible repeat (first | apply Kd.R_alloc | apply Kd.R_drewN | apply Kd.R_drew)); exact HO_9.out⟩, ⟨by (with_reducible repeat (first | apply Kd.R_alloc | apply Kd.R_drewN | apply Kd.R_drew)); exact HO_16.out⟩, ⟨by repeat (first | (with_reducible first | exact HB.out | apply below_alloc | apply pw_below_drewN | apply below_drew1) | exact HB.out)⟩⟩
                     ·replace c34 := Bool.eq_false_iff.mpr c34
                      subst c34
                      have H1 : (purflingref01_Share.l3 k4 l1 x8_3 x9_2 x10_3 x16_3 x17_4 (wrap64 (x18_4 + 1))) = some (r1, r2) := by rw [if_neg (show ¬ (false = true) by decide)] at H; exact H
                      clear H
                      have H := H1
                      clear H1
                      have H' := Aside0.mk H
                      clear H
                      obtain ⟨Ao37, co37, eo37⟩ := Kd.R_slice HO_16.out
                      subst eo37
                      have p232 : 0 ≤ (x18_4 : Int) := of_decide_eq_true (by first | (with_reducible assumption) | assumption)
                      have q232 : x18_4 < (x16_3.length : Int) := of_decide_eq_true (by first | (with_reducible assumption) | assumption)
                      obtain ⟨ad232, e232, hx232_0⟩ := Kd.at_bool (Kd.R_reads' HO_16.out).2.2 x18_4 p232 q232
                      (try rw [← Nbq28.out] at hx232_0)
                      cases e232
                      replace p232 := eq_true p232
                      replace q232 := eq_true q232
                      obtain ⟨Ao38, co38, eo38⟩ := Kd.R_slice HO_9.out
                      subst eo38
                      go_wp2_with (first | (go_at_call 58; (with_reducible refine (purflingref01_more.calls _ _ x9_2 x18_4 x17_4 false _ ?side1 ?side2 A33.out).mono ?_); (case side1 => repeat (first | exact (Kd.R_reads' HO_9.out).2.2 | (with_reducible refine Kd.C_alloc ?_ _) | (with_reducible refine Kd.C_drewN ?_ _) | (with_reducible refine Kd.C_drew ?_))); (case side2 => exact (Kd.R_reads' HO_9.out).2.1); rintro e w' ⟨rfl, ⟨nd, rfl⟩⟩))
                      go_roundg k4
                      case measure => have := HK1.out; have := HK2.out; have := HK3.out; have := HK4.out; omega
                      case rel => exact ⟨(x17_4), (wrap64 (x18_4 + 1)), (by first | rfl | (simp; done) | (simp [*]; done)), (by first | rfl | (simp; done) | (simp [*]; done)), H', ⟨by have := HK1.out; have := HK2.out; have := HK3.out; have := HK4.out; omega⟩, ⟨by (with_reducible repeat (first | apply Kd.R_alloc | apply Kd.R_drewN | apply Kd.R_drew)); exact HO_8.out⟩, ⟨by (with_reducible repeat (first | apply Kd.R_alloc | apply Kd.R_drewN | apply Kd.R_drew)); exact HO_9.out⟩, ⟨by (with_reducible repeat (first | apply Kd.R_alloc | apply Kd.R_drewN | apply Kd.R_drew)); exact HO_16.out⟩, ⟨by repeat (first | (with_reducible first | exact HB.out | apply below_alloc | apply pw_below_drewN | apply below_drew1) | exact HB.out)⟩⟩
                  ·rw [if_neg c27] at H
                   exact absurd H (by simp)
                 ·rw [if_neg c26] at H
                  exact absurd H (by simp)
                ·rw [if_neg c25] at H
                 have c25b0 : decide (x18_4 < (l1.length : Int)) = false := decide_eq_false c25
                 clear c25
                 by_cases c39 : 0 ≤ x17_4
                 ·rw [if_pos c39] at H
                  have c39b0 : decide (0 ≤ x17_4) = true := decide_eq_true c39
                  clear c39
                  by_cases c40 : x17_4 < (x16_3.length : Int)
                  ·rw [if_pos c40] at H
                   have c40b0 : decide (x17_4 < (x16_3.length : Int)) = true := decide_eq_true c40
                   clear c40
                   obtain ⟨y234, hy234⟩ : ∃ y_ : List Bool, y_ = (x16_3.set (x17_4 : Int).toNat true) := ⟨_, rfl⟩
                   replace H : (if x17_4 < (x8_3.length : Int) then (purflingref01_Share.l2 k4 l1 (x8_3.set (x17_4 : Int).toNat (wrap64 ((rd x8_3 x17_4) + 1))) x9_2 (wrap64 (x10_3 - 1)) y234) else (none)) = some (r1, r2) := by first | (rw [hy234]; with_reducible exact H) | (have H2_ := (Option.bind_some _ _).symm.trans H; rw [hy234]; with_reducible exact H2_) | (have H2_ := (Option.bind_some _ _).symm.trans H; with_reducible exact H2_) | with_reducible exact H | (rw [hy234]; exact H) | exact H
                   have Ny234 := Aside0.mk hy234
                   clear hy234
                   by_cases c42 : x17_4 < (x8_3.length : Int)
                   ·rw [if_pos c42] at H
                    have c42b0 : decide (x17_4 < (x8_3.length : Int)) = true := decide_eq_true c42
                    clear c42
                    obtain ⟨y236, hy236⟩ : ∃ y_ : List Int, y_ = (x8_3.set (x17_4 : Int).toNat (wrap64 ((rd x8_3 x17_4) + 1))) := ⟨_, rfl⟩
                    replace H : (purflingref01_Share.l2 k4 l1 y236 x9_2 (wrap64 (x10_3 - 1)) y234) = some (r1, r2) := by first | (rw [hy236]; with_reducible exact H) | (have H2_ := (Option.bind_some _ _).symm.trans H; rw [hy236]; with_reducible exact H2_) | (have H2_ := (Option.bind_some _ _).symm.trans H; with_reducible exact H2_) | with_reducible exact H | (rw [hy236]; exact H) | exact H
                    have Ny236 := Aside0.mk hy236
                    clear hy236
                    have H' := Aside0.mk H
                    clear H
                    have p41 : 0 ≤ (x17_4 : Int) := of_decide_eq_true (by first | (with_reducible assumption) | assumption)
                    have q41 : (x17_4 : Int) < ((x16_3.length : Int) : Int) := of_decide_eq_true (by first | (with_reducible assumption) | assumption)
                    obtain ⟨go41, co41, eo41, gb41, gl41, cl41, HG41⟩ := Kd.R_form HO_16.out (by omega)
                    (first | cases eo41 | (injection eo41 with ea_ en_ ec_; (first | subst ea_ | (injection ea_ with ea_; subst ea_)); subst ec_; clear en_))
                    have GB41 := Aside0.mk gb41
                    have GG41 := Aside0.mk HG41
                    clear gb41 gl41 HG41
                    obtain ⟨hx41_0, hf41_0⟩ := Kd.R_celln false HO_16.out (x17_4 : Int) p41 q41
                    replace p41 := eq_true p41
                    replace q41 := eq_true q41
                    have HP44 := Kd.R_putg HO_16.out (x17_4 : Int) true
                    go_wp2_with (first | ((with_reducible refine gate_store (t := 4) (p := 124) rfl ?_); refine store_event (t := 4) (p := 124) (v := ?vo_w45) (w1 := (wr.setCell ⟨go41, (x17_4 : Int).toNat, none⟩ (.bool true))) ?hg ?ho ?hn ?hr ?_; (case ho => rfl); (case hg => rfl); (case hn => rfl); (case hr => first | (go_simp; done) | (go_simp; rfl)); intro w45 hw; have hg : wr.grownBy w45 (some go41) := (by rw [hw]; exact HP44.2); have hp_ : Kd.R Kd.bool 4 w45 w.heap.size (fun _ => True) (.slice (some ⟨go41, 0, none⟩) x16_3.length co41) y234 := (by rw [hw, Ny234.out]; exact HP44.1); clear HP44; have n0_ := Aside0.mk (Kd.R_over' (v := (.slice (some ⟨go41, 0, none⟩) x16_3.length co41)) (by (with_reducible repeat (first | apply Kd.R_alloc | apply Kd.R_drewN | apply Kd.R_drew)); exact HO_8.out) (Kd.R_typed HO_16.out) (by decide) hg); have n1_ := Aside0.mk (Kd.R_over' (v := (.slice (some ⟨go41, 0, none⟩) x16_3.length co41)) (by (with_reducible repeat (first | apply Kd.R_alloc | apply Kd.R_drewN | apply Kd.R_drew)); exact HO_9.out) (Kd.R_typed HO_16.out) (by decide) hg); have n2_ := Aside0.mk (hp_); have n3_ := Aside0.mk ((by rw [hw]; exact below_set (HB.out) GB41.out : Below w.heap.size w w45)); clear HO_8; clear HO_9; clear HO_16; clear HB; have HO_8 := n0_; have HO_9 := n1_; have HO_16 := n2_; have HB := n3_; clear n0_ n1_ n2_ n3_; clear hg hw hp_; obtain ⟨Ao46, co46, eo46⟩ := Kd.R_slice HO_8.out; subst eo46; have p235 : 0 ≤ (x17_4 : Int) := of_decide_eq_true (by first | (with_reducible assumption) | assumption); have q235 : x17_4 < (x8_3.length : Int) := of_decide_eq_true (by first | (with_reducible assumption) | assumption); obtain ⟨ad235, e235, hx235_0⟩ := Kd.at_int (Kd.R_reads' HO_8.out).2.2 x17_4 p235 q235; cases e235; replace p235 := eq_true p235; replace q235 := eq_true q235; have p43 : 0 ≤ (x17_4 : Int) := of_decide_eq_true (by first | (with_reducible assumption) | assumption); have q43 : (x17_4 : Int) < ((x8_3.length : Int) : Int) := of_decide_eq_true (by first | (with_reducible assumption) | assumption); obtain ⟨go43, co43, eo43, gb43, gl43, cl43, HG43⟩ := Kd.R_form HO_8.out (by omega); (first | cases eo43 | (injection eo43 with ea_ en_ ec_; (first | subst ea_ | (injection ea_ with ea_; subst ea_)); subst ec_; clear en_)); have GB43 := Aside0.mk gb43; have GG43 := Aside0.mk HG43; clear gb43 gl43 HG43; (first | simp only [add_plain] at hx235_0 | skip); obtain ⟨hx43_0, hf43_0⟩ := Kd.R_celln 0 HO_8.out (x17_4 : Int) p43 q43; replace p43 := eq_true p43; replace q43 := eq_true q43; obtain ⟨hy47_, hz47_⟩ := Kd.R_celln 0 HO_8.out (x17_4 : Int) (of_decide_eq_true (by first | (with_reducible assumption) | assumption)) (of_decide_eq_true (by first | (with_reducible assumption) | assumption)); have HP47 := Kd.R_putg HO_8.out (x17_4 : Int) (wrap64 ((rd x8_3 x17_4) + 1))) | ((with_reducible refine gate_store (t := 2) (p := 130) rfl ?_); refine store_event (t := 2) (p := 130) (v := ?vo_w48) (w1 := (w45.setCell ⟨go43, (x17_4 : Int).toNat, none⟩ (.int .i64 (wrap64 ((rd x8_3 x17_4) + 1))))) ?hg ?ho ?hn ?hr ?_; (case ho => rfl); (case hg => rfl); (case hn => rfl); (case hr => first | (go_simp; done) | (go_simp; rfl)); intro w48 hw; have hg : w45.grownBy w48 (some go43) := (by rw [hw]; exact HP47.2); have hp_ : Kd.R (Kd.int .i64) 2 w48 w.heap.size (fun _ => True) (.slice (some ⟨go43, 0, none⟩) x8_3.length co46) y236 := (by rw [hw, Ny236.out]; exact HP47.1); clear HP47; have n0_ := Aside0.mk (hp_); have n1_ := Aside0.mk (Kd.R_over' (v := (.slice (some ⟨go43, 0, none⟩) x8_3.length co46)) (by (with_reducible repeat (first | apply Kd.R_alloc | apply Kd.R_drewN | apply Kd.R_drew)); exact HO_9.out) (Kd.R_typed HO_8.out) (by decide) hg); have n2_ := Aside0.mk (Kd.R_over' (v := (.slice (some ⟨go43, 0, none⟩) x8_3.length co46)) (by (with_reducible repeat (first | apply Kd.R_alloc | apply Kd.R_drewN | apply Kd.R_drew)); exact HO_16.out) (Kd.R_typed HO_8.out) (by decide) hg); have n3_ := Aside0.mk ((by rw [hw]; exact below_set (HB.out) GB43.out : Below w.heap.size w w48)); clear HO_8; clear HO_9; clear HO_16; clear HB; have HO_8 := n0_; have HO_9 := n1_; have HO_16 := n2_; have HB := n3_; clear n0_ n1_ n2_ n3_; clear hg hw hp_))
                    go_roundg k4
                    case measure => have := HK1.out; have := HK2.out; have := HK3.out; have := HK4.out; omega
                    case rel => exact ⟨(y236), (wrap64 (x10_3 - 1)), (y234), (by first | rfl | (simp; done) | (simp [*]; done)), H', ⟨by have := HK1.out; have := HK2.out; have := HK3.out; have := HK4.out; omega⟩, ⟨by (with_reducible repeat (first | apply Kd.R_alloc | apply Kd.R_drewN | apply Kd.R_drew)); exact HO_8.out⟩, ⟨by (with_reducible repeat (first | apply Kd.R_alloc | apply Kd.R_drewN | apply Kd.R_drew)); exact HO_9.out⟩, ⟨by (with_reducible repeat (first | apply Kd.R_alloc | apply Kd.R_drewN | apply Kd.R_drew)); exact HO_16.out⟩, ⟨by repeat (first | (with_reducible first | exact HB.out | apply below_alloc | apply pw_below_drewN | apply below_drew1) | exact HB.out)⟩⟩
                   ·rw [if_neg c42] at H
                    exact absurd H (by simp)
                  ·rw [if_neg c40] at H
                   exact absurd H (by simp)
                 ·rw [if_neg c39] at H
                  exact absurd H (by simp)
             ·rw [if_neg c24] at H
              have c24b0 : decide (0 < x10_3) = false := decide_eq_false c24
              clear c24
              simp only [Option.some.injEq, Prod.mk.injEq] at H
              obtain ⟨rfl, rfl⟩ := H
              go_wp2
              go_ret2
              exact ⟨_, by first | rfl | (simp [errW_none, errW_some] <;> rfl) | (simp [*, errW_none, errW_some] <;> rfl), by (with_reducible repeat (first | apply Kd.R_alloc | apply Kd.R_drewN | apply Kd.R_drew)); exact HO_8.out, by repeat (first | (with_reducible first | exact HB.out | apply below_alloc | apply pw_below_drewN | apply below_drew1) | exact HB.out)⟩
          ·rw [if_neg c21] at H
           exact absurd H (by simp)
         ·rw [if_neg c20] at H
          exact absurd H (by simp)
 ·replace c4 := Bool.eq_false_iff.mpr c4
  subst c4
  have H1 : (some (([] : List Int), 10)) = some (r1, r2) := by rw [if_neg (show ¬ (false = true) by decide)] at H; exact H
  clear H
  have H := H1
  clear H1
  simp only [Option.some.injEq, Prod.mk.injEq] at H
  obtain ⟨rfl, rfl⟩ := H
  go_enter Try.func33, Try.ntmps33
  go_wp2_with (first | ((with_reducible refine gate_callee (f := 54) rfl ?_); refine goesL_ (some 22) rfl rfl Try.func54 (by kernel_rfl) rfl #[.int .i64 a0, .int .i64 (l1.length : Int)] rfl (by (try simp only [List.map_toArray, List.map_cons, List.map_nil]); first | done | rfl | (simp only [List.length_drop, List.length_take]; rfl)) ?_; (with_reducible refine (purflingref01_shared.calls a0 (l1.length : Int) false _ A3.out).mono ?_); rintro e w' ⟨rfl, ⟨nd, rfl⟩⟩; refine ⟨_, rfl, ?_⟩))
  go_ret2
  exact ⟨_, by first | rfl | (simp [errW_none, errW_some] <;> rfl) | (simp [*, errW_none, errW_some] <;> rfl), by first | exact Kd.R_nil _ _ _ _ _ | exact Kd.N_nil _ _ _ _ _ | exact Kd.V_nil _ _ _ _ _ | exact Kd.Q_nil _ _ _ _ _ | exact Kd.S_nil _ _ _ _ _, by repeat (first | (with_reducible first | exact HB.out | apply below_alloc | apply pw_below_drewN | apply below_drew1) | exact HB.out)⟩

/-! ### purflingref01_Sub: function 34 -/
def purflingref01_Sub.j0 : Nat → Int → Int → Bool → Option (Int)
 | 0, _, _, _ => none
 | k + 1, x0, x1, x12 => if x12 = true then (some 9223372036854775807) else (if x1 > 0 then (if x0 < (wrap64 ((-9223372036854775808) + x1)) then (some (-9223372036854775808)) else (some (wrap64 (x0 - x1)))) else (some (wrap64 (x0 - x1))))
def purflingref01_Sub.f (k : Nat) (a0 : Int) (a1 : Int) : Option (Int) := if a1 < 0 then (purflingref01_Sub.j0 k a0 a1 (decide (a0 > (wrap64 (9223372036854775807 + a1))))) else (purflingref01_Sub.j0 k a0 a1 false)
theorem purflingref01_Sub.mono_l : ∀ k, (∀ y0 y1 y2, LeO (purflingref01_Sub.j0 k y0 y1 y2) (purflingref01_Sub.j0 (k + 1) y0 y1 y2))
 | 0 => fun _ _ _ r h => by simp [purflingref01_Sub.j0] at h
 | k + 1 => by
  have ih0 := purflingref01_Sub.mono_l k
  ·intro y0 y1 y2
   unfold purflingref01_Sub.j0
   repeat' first
   | (with_reducible exact ih0 _ _ _)
   | (with_reducible exact LeO.refl _)
   | (with_reducible exact LeO.none _)
   | (with_reducible refine LeO.ite ?_ ?_)
   | (with_reducible refine LeO.bind ?_ (fun _ => ?_))
   | exact ih0 _ _ _
   | exact LeO.none _
   | refine LeO.ite ?_ ?_
   | refine LeO.bind ?_ (fun _ => ?_)
theorem purflingref01_Sub.mono : ∀ a0 a1 k, LeO (purflingref01_Sub.f k a0 a1) (purflingref01_Sub.f (k + 1) a0 a1) := by
 intro a0 a1 k
 have ih0 := purflingref01_Sub.mono_l k
 unfold purflingref01_Sub.f
 repeat' first
   | (with_reducible exact ih0 _ _ _)
   | (with_reducible exact LeO.refl _)
   | (with_reducible exact LeO.none _)
   | (with_reducible refine LeO.ite ?_ ?_)
   | (with_reducible refine LeO.bind ?_ (fun _ => ?_))
   | exact ih0 _ _ _
   | exact LeO.none _
   | refine LeO.ite ?_ ?_
   | refine LeO.bind ?_ (fun _ => ?_)
set_option maxHeartbeats 8000000 in
set_option maxRecDepth 100000 in
theorem purflingref01_Sub.calls (k : Nat) (a0 : Int) (a1 : Int) (r : Int) (w : World) (h : purflingref01_Sub.f k a0 a1 = some r) :
  Calls Try.prog 34 #[.int .i64 a0, .int .i64 a1] w fun e w' => e = .returned (.int .i64 r) ∧ Drawn0 w w' := by
 have H : (if a1 < 0 then (purflingref01_Sub.j0 k a0 a1 (decide (a0 > (wrap64 (9223372036854775807 + a1))))) else (purflingref01_Sub.j0 k a0 a1 false)) = some r := h
 clear h
 have HC3 := Aside0.mk H
 clear H
 go_enter Try.func34, Try.ntmps34
 go_upto_region 1 with (fail)
 go_cut [12] (fun v12 wc => ∃ (kq : Nat) (x12_2 : Bool), v12 = .bool x12_2 ∧ Aside0 (purflingref01_Sub.j0 kq a0 a1 x12_2 = some r) ∧ Aside0 (kq ≤ k) ∧ Drawn0 w wc)
 case first =>
  have H := HC3.out
  clear HC3
  by_cases c4 : a1 < 0
  ·rw [if_pos c4] at H
   have c4b0 : decide (a1 < 0) = true := decide_eq_true c4
   clear c4
   (first | rw [c4b0] | (simp only [i64_w, i32_w]; rw [c4b0]) | skip)
   have H' := Aside0.mk H
   clear H
   go_wp2
   go_meet
   case rel => exact ⟨_, (decide (a0 > (wrap64 (9223372036854775807 + a1)))), (by first | rfl | (simp; done) | (simp [*]; done)), H', ⟨by first | omega | exact Nat.le_refl _⟩, by repeat (first | exact Drawn0.refl _ | apply Drawn0.step)⟩
  ·rw [if_neg c4] at H
   have c4b0 : decide (a1 < 0) = false := decide_eq_false c4
   clear c4
   (first | rw [c4b0] | (simp only [i64_w, i32_w]; rw [c4b0]) | skip)
   have H' := Aside0.mk H
   clear H
   go_wp2
   go_meet
   case rel => exact ⟨_, (false), (by first | rfl | (simp; done) | (simp [*]; done)), H', ⟨by first | omega | exact Nat.le_refl _⟩, by repeat (first | exact Drawn0.refl _ | apply Drawn0.step)⟩
 case rest =>
  clear HC3
  try clear p2
  try clear c3
  try clear c4
  try clear c4b0
  obtain ⟨kq, x12_2, rfl, HA, HJ2, ⟨mc2, rfl⟩⟩ := hcut
  cases kq with
  | zero => exact absurd HA.out (by simp [purflingref01_Sub.j0])
  | succ kj2 =>
   have H := HA.out
   clear HA
   simp only [purflingref01_Sub.j0] at H
   by_cases c5 : x12_2 = true
   ·subst c5
    have H1 : (some 9223372036854775807) = some r := by rw [if_pos rfl] at H; exact H
    clear H
    have H := H1
    clear H1
    obtain rfl := Option.some.inj H
    go_wp2
    go_ret
    exact ⟨by first | rfl | (simp; done) | (simp [*]; done), by repeat (first | exact Drawn0.refl _ | apply Drawn0.step)⟩
   ·replace c5 := Bool.eq_false_iff.mpr c5
    subst c5
    have H1 : (if a1 > 0 then (if a0 < (wrap64 ((-9223372036854775808) + a1)) then (some (-9223372036854775808)) else (some (wrap64 (a0 - a1)))) else (some (wrap64 (a0 - a1)))) = some r := by rw [if_neg (show ¬ (false = true) by decide)] at H; exact H
    clear H
    have H := H1
    clear H1
    by_cases c6 : a1 > 0
    ·rw [if_pos c6] at H
     have c6b0 : decide (0 < a1) = true := decide_eq_true c6
     clear c6
     by_cases c7 : a0 < (wrap64 ((-9223372036854775808) + a1))
     ·rw [if_pos c7] at H
      have c7b0 : decide (a0 < (wrap64 ((-9223372036854775808) + a1))) = true := decide_eq_true c7
      clear c7
      obtain rfl := Option.some.inj H
      go_wp2
      go_ret
      exact ⟨by first | rfl | (simp; done) | (simp [*]; done), by repeat (first | exact Drawn0.refl _ | apply Drawn0.step)⟩
     ·rw [if_neg c7] at H
      have c7b0 : decide (a0 < (wrap64 ((-9223372036854775808) + a1))) = false := decide_eq_false c7
      clear c7
      obtain rfl := Option.some.inj H
      go_wp2
      go_ret
      exact ⟨by first | rfl | (simp; done) | (simp [*]; done), by repeat (first | exact Drawn0.refl _ | apply Drawn0.step)⟩
    ·rw [if_neg c6] at H
     have c6b0 : decide (0 < a1) = false := decide_eq_false c6
     clear c6
     obtain rfl := Option.some.inj H
     go_wp2
     go_ret
     exact ⟨by first | rfl | (simp; done) | (simp [*]; done), by repeat (first | exact Drawn0.refl _ | apply Drawn0.step)⟩

end Go.Proofs.Ytgghbmhmpkeccaa.PA
