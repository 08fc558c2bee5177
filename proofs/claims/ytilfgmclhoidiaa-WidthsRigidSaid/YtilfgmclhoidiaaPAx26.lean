-- MADE by wip/tools/xprint.py of this repo: the kit's print.py, turned by this session, and texts by hand
import Derived.Test.YtilfgmclhoidiaaPAx0
import Derived.Test.YtilfgmclhoidiaaPAx18
import Derived.Test.YtilfgmclhoidiaaPAx19
namespace Go.Proofs.Ytilfgmclhoidiaa.PA
open Go.RowKit Go.Proofs.YtilfgmclhoidiaaW.PrintWords Go.Proofs.YtilfgmclhoidiaaW.PrintLast Go.Proofs.YtilfgmclhoidiaaW.PrintMore
attribute [local go_sem] max2_int min2_int max_two min_two max_three min_three max_four min_four   -- for this text's walks alone
set_option linter.unusedVariables false
set_option linter.unusedSimpArgs false

/-! ### purflinglaw15_WidthsRigid: function 5 -/
mutual
def purflinglaw15_WidthsRigid.l0 : Nat → List (S39) → Int → Bool → List Int → Bool → Int → Option (Bool)
  | 0, _, _, _, _, _, _ => none
  | k + 1, x0, x1, x5, x6, x8, x9 => if x9 < (x0.length : Int) then (if x8 = true then (purflinglaw15_WidthsRigid.l0 k x0 x1 x5 x6 true (wrap64 (x9 + 1))) else (if 0 ≤ x9 then (purflinglaw15_WidthsRigid.l0 k x0 x1 x5 x6 (((rd_T39 x0 x9).f0) == 0) (wrap64 (x9 + 1))) else (none))) else (purflinglaw15_WidthsRigid.l1 k x0 x1 x5 x6 x8 0 0)
def purflinglaw15_WidthsRigid.l1 : Nat → List (S39) → Int → Bool → List Int → Bool → Int → Int → Option (Bool)
  | 0, _, _, _, _, _, _, _ => none
  | k + 1, x0, x1, x5, x6, x8, x10, x11 => if x11 < (x6.length : Int) then (if 0 ≤ x11 then (if (rd x6 x11) < 0 then (some false) else (if x11 < (x0.length : Int) then (if ((rd_T39 x0 x11).f0) = 1 then (if (rd x6 x11) < ((rd_T39 x0 x11).f1) then (some false) else (if x8 = true then (if (rd x6 x11) = ((rd_T39 x0 x11).f1) then (purflinglaw15_WidthsRigid.l1 k x0 x1 x5 x6 x8 (wrap64 (x10 + (mn (rd x6 x11) 72057594037927936))) (wrap64 (x11 + 1))) else (some false)) else (purflinglaw15_WidthsRigid.l1 k x0 x1 x5 x6 x8 (wrap64 (x10 + (mn (rd x6 x11) 72057594037927936))) (wrap64 (x11 + 1))))) else (purflinglaw15_WidthsRigid.l1 k x0 x1 x5 x6 x8 (wrap64 (x10 + (mn (rd x6 x11) 72057594037927936))) (wrap64 (x11 + 1)))) else (none))) else (none)) else (if x5 = true then (if (x6.length : Int) = (x0.length : Int) then (if x10 ≥ x1 then (some true) else (some (decide (x10 ≥ 72057594037927936)))) else (some false)) else (some false))
end
def purflinglaw15_WidthsRigid.f (k : Nat) (l0 : List (S39)) (a1 : Int) : Option (Bool) := (purflinglaw15_shown.f k).bind fun t412 => (if 0 ≤ (mn (l0.length : Int) 40) then (if (mn (l0.length : Int) 40) ≤ (l0.length : Int) then ((some (l0.take ((mn (l0.length : Int) 40) : Int).toNat : List (S39))).bind fun y413 => ((widths_Fixed.f k y413 a1).bind fun bt417 => (if bt417.2 = 0 then (purflinglaw15_WidthsRigid.l0 k y413 a1 t412 bt417.1 false 0) else (if t412 = true then (some ((bt417.1.length : Int) == 0)) else (some false))))) else (none)) else (none))
theorem purflinglaw15_WidthsRigid.mono_l : ∀ k, (∀ y0 y1 y2 y3 y4 y5, LeO (purflinglaw15_WidthsRigid.l0 k y0 y1 y2 y3 y4 y5) (purflinglaw15_WidthsRigid.l0 (k + 1) y0 y1 y2 y3 y4 y5)) ∧ (∀ y0 y1 y2 y3 y4 y5 y6, LeO (purflinglaw15_WidthsRigid.l1 k y0 y1 y2 y3 y4 y5 y6) (purflinglaw15_WidthsRigid.l1 (k + 1) y0 y1 y2 y3 y4 y5 y6))
  | 0 => ⟨fun _ _ _ _ _ _ r h => by simp [purflinglaw15_WidthsRigid.l0] at h, fun _ _ _ _ _ _ _ r h => by simp [purflinglaw15_WidthsRigid.l1] at h⟩
  | k + 1 => by
    obtain ⟨ih0, ih1⟩ := purflinglaw15_WidthsRigid.mono_l k
    refine ⟨?_, ?_⟩
    · intro y0 y1 y2 y3 y4 y5
      unfold purflinglaw15_WidthsRigid.l0
      repeat' first
      | (with_reducible exact ih0 _ _ _ _ _ _)
      | (with_reducible exact ih1 _ _ _ _ _ _ _)
      | (with_reducible exact purflinglaw15_shown.mono _)
      | (with_reducible exact widths_Fixed.mono _ _ _)
      | (with_reducible exact LeO.refl _)
      | (with_reducible exact LeO.none _)
      | (with_reducible refine LeO.ite ?_ ?_)
      | (with_reducible refine LeO.bind ?_ (fun _ => ?_))
      | exact ih0 _ _ _ _ _ _
      | exact ih1 _ _ _ _ _ _ _
      | exact purflinglaw15_shown.mono _
      | exact widths_Fixed.mono _ _ _
      | exact LeO.none _
      | refine LeO.ite ?_ ?_
      | refine LeO.bind ?_ (fun _ => ?_)
    · intro y0 y1 y2 y3 y4 y5 y6
      unfold purflinglaw15_WidthsRigid.l1
      repeat' first
      | (with_reducible exact ih0 _ _ _ _ _ _)
      | (with_reducible exact ih1 _ _ _ _ _ _ _)
      | (with_reducible exact purflinglaw15_shown.mono _)
      | (with_reducible exact widths_Fixed.mono _ _ _)
      | (with_reducible exact LeO.refl _)
      | (with_reducible exact LeO.none _)
      | (with_reducible refine LeO.ite ?_ ?_)
      | (with_reducible refine LeO.bind ?_ (fun _ => ?_))
      | exact ih0 _ _ _ _ _ _
      | exact ih1 _ _ _ _ _ _ _
      | exact purflinglaw15_shown.mono _
      | exact widths_Fixed.mono _ _ _
      | exact LeO.none _
      | refine LeO.ite ?_ ?_
      | refine LeO.bind ?_ (fun _ => ?_)
theorem purflinglaw15_WidthsRigid.mono : ∀ a0 a1 k, LeO (purflinglaw15_WidthsRigid.f k a0 a1) (purflinglaw15_WidthsRigid.f (k + 1) a0 a1) := by
  intro a0 a1 k
  obtain ⟨ih0, ih1⟩ := purflinglaw15_WidthsRigid.mono_l k
  unfold purflinglaw15_WidthsRigid.f
  repeat' first
      | (with_reducible exact ih0 _ _ _ _ _ _)
      | (with_reducible exact ih1 _ _ _ _ _ _ _)
      | (with_reducible exact purflinglaw15_shown.mono _)
      | (with_reducible exact widths_Fixed.mono _ _ _)
      | (with_reducible exact LeO.refl _)
      | (with_reducible exact LeO.none _)
      | (with_reducible refine LeO.ite ?_ ?_)
      | (with_reducible refine LeO.bind ?_ (fun _ => ?_))
      | exact ih0 _ _ _ _ _ _
      | exact ih1 _ _ _ _ _ _ _
      | exact purflinglaw15_shown.mono _
      | exact widths_Fixed.mono _ _ _
      | exact LeO.none _
      | refine LeO.ite ?_ ?_
      | refine LeO.bind ?_ (fun _ => ?_)
set_option maxHeartbeats 8000000 in
set_option maxRecDepth 100000 in
theorem purflinglaw15_WidthsRigid.calls (k : Nat) (A0 : Option Addr) (c0 : Nat) (l0 : List (S39)) (a1 : Int) (r : Bool) (w : World) (hr0 : Kd.C k39 w A0 l0.length l0) (hc0 : l0.length ≤ c0) (h : purflinglaw15_WidthsRigid.f k l0 a1 = some r) :
    Calls Try.prog 5 #[.slice A0 l0.length c0, .int .i64 a1] w fun e w' => e = .returned (.bool r) ∧ Below w.heap.size w w' := by
  have HR0 := Aside0.mk hr0
  have HC0 := Aside0.mk hc0
  clear hr0 hc0
  have HB := Aside0.mk (Below.refl w.heap.size w)
  have H : ((purflinglaw15_shown.f k).bind fun t412 => (if 0 ≤ (mn (l0.length : Int) 40) then (if (mn (l0.length : Int) 40) ≤ (l0.length : Int) then ((some (l0.take ((mn (l0.length : Int) 40) : Int).toNat : List (S39))).bind fun y413 => ((widths_Fixed.f k y413 a1).bind fun bt417 => (if bt417.2 = 0 then (purflinglaw15_WidthsRigid.l0 k y413 a1 t412 bt417.1 false 0) else (if t412 = true then (some ((bt417.1.length : Int) == 0)) else (some false))))) else (none)) else (none))) = some r := h
  clear h
  replace H := Option.bind_eq_some_iff.mp H
  obtain ⟨t412, A30, H⟩ := H
  replace H : (if 0 ≤ (mn (l0.length : Int) 40) then (if (mn (l0.length : Int) 40) ≤ (l0.length : Int) then ((some (l0.take ((mn (l0.length : Int) 40) : Int).toNat : List (S39))).bind fun y413 => ((widths_Fixed.f k y413 a1).bind fun bt417 => (if bt417.2 = 0 then (purflinglaw15_WidthsRigid.l0 k y413 a1 t412 bt417.1 false 0) else (if t412 = true then (some ((bt417.1.length : Int) == 0)) else (some false))))) else (none)) else (none)) = some r := H
  have A3 := Aside0.mk A30
  clear A30
  obtain ⟨ji4, hji4⟩ : ∃ j_ : Int, (mn (l0.length : Int) 40) = j_ := ⟨_, rfl⟩
  replace H : (if 0 ≤ (ji4) then (if (ji4) ≤ (l0.length : Int) then ((some (l0.take ((ji4) : Int).toNat : List (S39))).bind fun y413 => ((widths_Fixed.f k y413 a1).bind fun bt417 => (if bt417.2 = 0 then (purflinglaw15_WidthsRigid.l0 k y413 a1 t412 bt417.1 false 0) else (if t412 = true then (some ((bt417.1.length : Int) == 0)) else (some false))))) else (none)) else (none)) = some r := by first | (rw [hji4] at H; exact H) | (simp only [hji4] at H ⊢; exact H)
  (try rw [hji4] at A3)
  (try (have hji4h : ji4 ≤ 40 := by (rw [← hji4]; unfold mn; (repeat' split) <;> omega)))
  (try (have hji4g : ji4 ≤ 64 := by omega))
  (try (have hji4l : 0 ≤ ji4 := by (rw [← hji4]; unfold mn; (repeat' split) <;> omega)))
  (try (have hji4m : 0 ≤ ji4 := by omega))
  have hji4_ : (if 40 < (l0.length : Int) then 40 else (l0.length : Int)) = ji4 := hji4
  by_cases c5 : 0 ≤ (ji4)
  · rw [if_pos c5] at H
    have c5b0 := eq_true c5
    have c5b1 : decide (0 ≤ (ji4)) = true := decide_eq_true c5
    clear c5
    by_cases c6 : (ji4) ≤ (l0.length : Int)
    · rw [if_pos c6] at H
      have c6b0 := eq_true c6
      have c6b1 : decide ((ji4) ≤ (l0.length : Int)) = true := decide_eq_true c6
      clear c6
      obtain ⟨y413, hy413⟩ : ∃ y_ : List (S39), y_ = (l0.take ((ji4) : Int).toNat) := ⟨_, rfl⟩
      replace H : ((widths_Fixed.f k y413 a1).bind fun bt417 => (if bt417.2 = 0 then (purflinglaw15_WidthsRigid.l0 k y413 a1 t412 bt417.1 false 0) else (if t412 = true then (some ((bt417.1.length : Int) == 0)) else (some false)))) = some r := by first | (rw [hy413]; with_reducible exact H) | (have H2_ := (Option.bind_some _ _).symm.trans H; rw [hy413]; with_reducible exact H2_) | (have H2_ := (Option.bind_some _ _).symm.trans H; with_reducible exact H2_) | with_reducible exact H | (rw [hy413]; exact H) | exact H
      have Ny413 := Aside0.mk hy413
      clear hy413
      replace H := Option.bind_eq_some_iff.mp H
      obtain ⟨⟨t417, t418⟩, A70, H⟩ := H
      replace H : (if t418 = 0 then (purflinglaw15_WidthsRigid.l0 k y413 a1 t412 t417 false 0) else (if t412 = true then (some ((t417.length : Int) == 0)) else (some false))) = some r := H
      have A7 := Aside0.mk A70
      clear A70
      by_cases c8 : t418 = 0
      · rw [if_pos c8] at H
        have c8b0 : (t418 == 0) = true := beq_iff_eq.mpr c8
        have c8b1 : (t418 != 0) = false := bne_eq_false_iff_eq.mpr c8
        clear c8
        have H' := Aside0.mk H
        clear H
        go_enter Try.func5, Try.ntmps5
        go_wp2_with (first | (go_at_call 15; (with_reducible refine (purflinglaw15_shown.calls k  t412 _ A3.out).mono ?_); rintro e w9 ⟨rfl, hb⟩; have n0_ := Aside0.mk (below_step (by repeat (first | (with_reducible first | exact HB.out | apply below_alloc | apply pw_below_drewN | apply below_drew1) | exact HB.out)) hb); clear HB; have HB := n0_; clear n0_; (try clear hb); (try clear hb2); (try clear hk); (try clear hi); have q10 : ((ji4) : Int) ≤ ((l0.length : Int) : Int) := of_decide_eq_true (by first | (with_reducible assumption) | assumption); obtain ⟨i010, hi010, _, hsz10, _⟩ := info_parts info39; have hroom10 : l0.length ≤ c0 := HC0.out; have hC10 : Kd.C k39 _ A0 l0.length l0 := HR0.out; have hcut10 := cut_to (P := Try.prog) 36 39 .i64 Try.underlying36 hi010 A0 l0.length c0 (ji4) (of_decide_eq_true (by first | (with_reducible assumption) | assumption)) q10 hroom10; have hr10 := Kd.C_take (m := ((ji4) : Int).toNat) hC10 (by omega); have hy10 : y413.length = ((ji4) : Int).toNat := (by rw [Ny413.out, List.length_take]; omega); rw [← Ny413.out] at hr10; rw [← hy10] at hcut10; have HR416 := Aside0.mk hr10; have HC416 := Aside0.mk (show y413.length ≤ c0 from by omega); clear hr10 hC10 hroom10 hi010 hsz10; have KY10 := Aside0.mk hy10; clear hy10; replace q10 := eq_true q10) | (go_at_call 22; (with_reducible refine (widths_Fixed.calls k _ _ y413 a1 t417 t418 _ ?side1 ?side2 A7.out).mono ?_); (case side1 => repeat (first | exact (Kd.C_below HR416.out HB.out) | (with_reducible refine Kd.C_alloc ?_ _) | (with_reducible refine Kd.C_drewN ?_ _) | (with_reducible refine Kd.C_drew ?_))); (case side2 => exact HC416.out); rintro e w11 ⟨v419, rfl, ho0, hb⟩; have n0_ := Aside0.mk (Kd.R_lower ho0 (below_size (by repeat (first | (with_reducible first | exact HB.out | apply below_alloc | apply pw_below_drewN | apply below_drew1) | exact HB.out)))); have n1_ := Aside0.mk (below_step (by repeat (first | (with_reducible first | exact HB.out | apply below_alloc | apply pw_below_drewN | apply below_drew1) | exact HB.out)) hb); clear HB; have HO420 := n0_; have HB := n1_; clear n0_ n1_; (try clear hb); (try clear hb2); (try clear hk); (try clear hi); (try clear ho0)))
        repeat (go_quiet (first | (go_at_call 15; (with_reducible refine (purflinglaw15_shown.calls k  t412 _ A3.out).mono ?_); rintro e w9 ⟨rfl, hb⟩; have n0_ := Aside0.mk (below_step (by repeat (first | (with_reducible first | exact HB.out | apply below_alloc | apply pw_below_drewN | apply below_drew1) | exact HB.out)) hb); clear HB; have HB := n0_; clear n0_; (try clear hb); (try clear hb2); (try clear hk); (try clear hi); have q10 : ((ji4) : Int) ≤ ((l0.length : Int) : Int) := of_decide_eq_true (by first | (with_reducible assumption) | assumption); obtain ⟨i010, hi010, _, hsz10, _⟩ := info_parts info39; have hroom10 : l0.length ≤ c0 := HC0.out; have hC10 : Kd.C k39 _ A0 l0.length l0 := HR0.out; have hcut10 := cut_to (P := Try.prog) 36 39 .i64 Try.underlying36 hi010 A0 l0.length c0 (ji4) (of_decide_eq_true (by first | (with_reducible assumption) | assumption)) q10 hroom10; have hr10 := Kd.C_take (m := ((ji4) : Int).toNat) hC10 (by omega); have hy10 : y413.length = ((ji4) : Int).toNat := (by rw [Ny413.out, List.length_take]; omega); rw [← Ny413.out] at hr10; rw [← hy10] at hcut10; have HR416 := Aside0.mk hr10; have HC416 := Aside0.mk (show y413.length ≤ c0 from by omega); clear hr10 hC10 hroom10 hi010 hsz10; have KY10 := Aside0.mk hy10; clear hy10; replace q10 := eq_true q10) | (go_at_call 22; (with_reducible refine (widths_Fixed.calls k _ _ y413 a1 t417 t418 _ ?side1 ?side2 A7.out).mono ?_); (case side1 => repeat (first | exact (Kd.C_below HR416.out HB.out) | (with_reducible refine Kd.C_alloc ?_ _) | (with_reducible refine Kd.C_drewN ?_ _) | (with_reducible refine Kd.C_drew ?_))); (case side2 => exact HC416.out); rintro e w11 ⟨v419, rfl, ho0, hb⟩; have n0_ := Aside0.mk (Kd.R_lower ho0 (below_size (by repeat (first | (with_reducible first | exact HB.out | apply below_alloc | apply pw_below_drewN | apply below_drew1) | exact HB.out)))); have n1_ := Aside0.mk (below_step (by repeat (first | (with_reducible first | exact HB.out | apply below_alloc | apply pw_below_drewN | apply below_drew1) | exact HB.out)) hb); clear HB; have HO420 := n0_; have HB := n1_; clear n0_ n1_; (try clear hb); (try clear hb2); (try clear hk); (try clear hi); (try clear ho0))); try go_wp2_with (first | (go_at_call 15; (with_reducible refine (purflinglaw15_shown.calls k  t412 _ A3.out).mono ?_); rintro e w9 ⟨rfl, hb⟩; have n0_ := Aside0.mk (below_step (by repeat (first | (with_reducible first | exact HB.out | apply below_alloc | apply pw_below_drewN | apply below_drew1) | exact HB.out)) hb); clear HB; have HB := n0_; clear n0_; (try clear hb); (try clear hb2); (try clear hk); (try clear hi); have q10 : ((ji4) : Int) ≤ ((l0.length : Int) : Int) := of_decide_eq_true (by first | (with_reducible assumption) | assumption); obtain ⟨i010, hi010, _, hsz10, _⟩ := info_parts info39; have hroom10 : l0.length ≤ c0 := HC0.out; have hC10 : Kd.C k39 _ A0 l0.length l0 := HR0.out; have hcut10 := cut_to (P := Try.prog) 36 39 .i64 Try.underlying36 hi010 A0 l0.length c0 (ji4) (of_decide_eq_true (by first | (with_reducible assumption) | assumption)) q10 hroom10; have hr10 := Kd.C_take (m := ((ji4) : Int).toNat) hC10 (by omega); have hy10 : y413.length = ((ji4) : Int).toNat := (by rw [Ny413.out, List.length_take]; omega); rw [← Ny413.out] at hr10; rw [← hy10] at hcut10; have HR416 := Aside0.mk hr10; have HC416 := Aside0.mk (show y413.length ≤ c0 from by omega); clear hr10 hC10 hroom10 hi010 hsz10; have KY10 := Aside0.mk hy10; clear hy10; replace q10 := eq_true q10) | (go_at_call 22; (with_reducible refine (widths_Fixed.calls k _ _ y413 a1 t417 t418 _ ?side1 ?side2 A7.out).mono ?_); (case side1 => repeat (first | exact (Kd.C_below HR416.out HB.out) | (with_reducible refine Kd.C_alloc ?_ _) | (with_reducible refine Kd.C_drewN ?_ _) | (with_reducible refine Kd.C_drew ?_))); (case side2 => exact HC416.out); rintro e w11 ⟨v419, rfl, ho0, hb⟩; have n0_ := Aside0.mk (Kd.R_lower ho0 (below_size (by repeat (first | (with_reducible first | exact HB.out | apply below_alloc | apply pw_below_drewN | apply below_drew1) | exact HB.out)))); have n1_ := Aside0.mk (below_step (by repeat (first | (with_reducible first | exact HB.out | apply below_alloc | apply pw_below_drewN | apply below_drew1) | exact HB.out)) hb); clear HB; have HO420 := n0_; have HB := n1_; clear n0_ n1_; (try clear hb); (try clear hb2); (try clear hk); (try clear hi); (try clear ho0))))
        go_loopg [8, 9] k (fun kq v8 v9 w' => ∃ (x8_1 : Bool) (x9_1 : Int), v8 = .bool x8_1 ∧ v9 = .int .i64 x9_1 ∧ Aside0 (purflinglaw15_WidthsRigid.l0 kq y413 a1 t412 t417 x8_1 x9_1 = some r) ∧ Aside0 (kq ≤ k) ∧ Aside0 (Kd.R (Kd.int .i64) 2 w' w.heap.size (fun _ => True) v419 t417) ∧ Aside0 (Below w.heap.size w w'))
        case atStart => exact ⟨(false), (0), (by first | rfl | (simp; done) | (simp [*]; done)), (by first | rfl | (simp; done) | (simp [*]; done)), H', ⟨Nat.le_refl _⟩, ⟨by (with_reducible repeat (first | apply Kd.R_alloc | apply Kd.R_drewN | apply Kd.R_drew)); exact HO420.out⟩, ⟨by repeat (first | (with_reducible first | exact HB.out | apply below_alloc | apply pw_below_drewN | apply below_drew1) | exact HB.out)⟩⟩
        case round =>
          clear H'
          try clear q1
          try clear p2
          try clear c5
          try clear c5b0
          try clear c5b1
          try clear c6
          try clear c6b0
          try clear c6b1
          try clear c8
          try clear c8b0
          try clear c8b1
          try clear q10
          try clear q10
          obtain ⟨x8_1, x9_1, rfl, rfl, HA, HK1, HO_6, HB⟩ := hrel
          cases gk with
          | zero => exact absurd HA.out (by simp [purflinglaw15_WidthsRigid.l0])
          | succ k1 =>
            have H := HA.out
            clear HA
            simp only [purflinglaw15_WidthsRigid.l0] at H
            by_cases c12 : x9_1 < (y413.length : Int)
            · rw [if_pos c12] at H
              have c12b0 : decide (x9_1 < (y413.length : Int)) = true := decide_eq_true c12
              clear c12
              by_cases c13 : x8_1 = true
              · subst c13
                have H1 : (purflinglaw15_WidthsRigid.l0 k1 y413 a1 t412 t417 true (wrap64 (x9_1 + 1))) = some r := by rw [if_pos rfl] at H; exact H
                clear H
                have H := H1
                clear H1
                have H' := Aside0.mk H
                clear H
                go_wp2
                repeat (go_quiet (fail); try go_wp2)
                go_roundg k1
                case measure => have := HK1.out; omega
                case rel => exact ⟨(true), (wrap64 (x9_1 + 1)), (by first | rfl | (simp; done) | (simp [*]; done)), (by first | rfl | (simp; done) | (simp [*]; done)), H', ⟨by have := HK1.out; omega⟩, ⟨by (with_reducible repeat (first | apply Kd.R_alloc | apply Kd.R_drewN | apply Kd.R_drew)); exact HO_6.out⟩, ⟨by repeat (first | (with_reducible first | exact HB.out | apply below_alloc | apply pw_below_drewN | apply below_drew1) | exact HB.out)⟩⟩
              · replace c13 := Bool.eq_false_iff.mpr c13
                subst c13
                have H1 : (if 0 ≤ x9_1 then (purflinglaw15_WidthsRigid.l0 k1 y413 a1 t412 t417 (((rd_T39 y413 x9_1).f0) == 0) (wrap64 (x9_1 + 1))) else (none)) = some r := by rw [if_neg (show ¬ (false = true) by decide)] at H; exact H
                clear H
                have H := H1
                clear H1
                by_cases c14 : 0 ≤ x9_1
                · rw [if_pos c14] at H
                  have c14b0 : decide (0 ≤ x9_1) = true := decide_eq_true c14
                  clear c14
                  have H' := Aside0.mk H
                  clear H
                  have p421 : 0 ≤ (x9_1 : Int) := of_decide_eq_true (by first | (with_reducible assumption) | assumption)
                  have q421 : x9_1 < (y413.length : Int) := of_decide_eq_true (by first | (with_reducible assumption) | assumption)
                  obtain ⟨ad421, e421, hx421_0, hx421_1⟩ := at_T39 HR416.out x9_1 p421 q421
                  cases e421
                  replace hx421_0 := (HB.out.cell (World.block_lt_of_cell? w _ hx421_0)).trans hx421_0
                  replace hx421_1 := (HB.out.cell (World.block_lt_of_cell? w _ hx421_1)).trans hx421_1
                  replace p421 := eq_true p421
                  replace q421 := eq_true q421
                  go_wp2
                  repeat (go_quiet (fail); try go_wp2)
                  go_roundg k1
                  case measure => have := HK1.out; omega
                  case rel => exact ⟨((((rd_T39 y413 x9_1).f0) == 0)), (wrap64 (x9_1 + 1)), (by first | rfl | (simp; done) | (simp [*]; done)), (by first | rfl | (simp; done) | (simp [*]; done)), H', ⟨by have := HK1.out; omega⟩, ⟨by (with_reducible repeat (first | apply Kd.R_alloc | apply Kd.R_drewN | apply Kd.R_drew)); exact HO_6.out⟩, ⟨by repeat (first | (with_reducible first | exact HB.out | apply below_alloc | apply pw_below_drewN | apply below_drew1) | exact HB.out)⟩⟩
                · rw [if_neg c14] at H
                  exact absurd H (by simp)
            · rw [if_neg c12] at H
              have c12b0 : decide (x9_1 < (y413.length : Int)) = false := decide_eq_false c12
              clear c12
              have H' := Aside0.mk H
              clear H
              go_wp2
              repeat (go_quiet (fail); try go_wp2)
              go_loopg [10, 11] k1 (fun kq v10 v11 w' => ∃ (x10_2 : Int) (x11_2 : Int), v10 = .int .i64 x10_2 ∧ v11 = .int .i64 x11_2 ∧ Aside0 (purflinglaw15_WidthsRigid.l1 kq y413 a1 t412 t417 x8_1 x10_2 x11_2 = some r) ∧ Aside0 (kq ≤ k1) ∧ Aside0 (Kd.R (Kd.int .i64) 2 w' w.heap.size (fun _ => True) v419 t417) ∧ Aside0 (Below w.heap.size w w'))
              case atStart => exact ⟨(0), (0), (by first | rfl | (simp; done) | (simp [*]; done)), (by first | rfl | (simp; done) | (simp [*]; done)), H', ⟨Nat.le_refl _⟩, ⟨by (with_reducible repeat (first | apply Kd.R_alloc | apply Kd.R_drewN | apply Kd.R_drew)); exact HO_6.out⟩, ⟨by repeat (first | (with_reducible first | exact HB.out | apply below_alloc | apply pw_below_drewN | apply below_drew1) | exact HB.out)⟩⟩
              case round =>
                clear H'
                try clear c1
                try clear q1
                try clear p2
                try clear p4
                try clear q4
                try clear hx4
                try clear c5
                try clear c5b0
                try clear c5b1
                try clear c6
                try clear c6b0
                try clear c6b1
                try clear p6
                try clear c8
                try clear c8b0
                try clear c8b1
                try clear q10
                try clear c12
                try clear c12b0
                try clear c13
                try clear c14
                try clear c14b0
                try clear hx421_0
                try clear hx421_1
                try clear p2
                try clear p421
                try clear q1
                try clear q10
                try clear q421
                obtain ⟨x10_2, x11_2, rfl, rfl, HA, HK2, HO_6, HB⟩ := hrel
                cases gk with
                | zero => exact absurd HA.out (by simp [purflinglaw15_WidthsRigid.l1])
                | succ k2 =>
                  have H := HA.out
                  clear HA
                  simp only [purflinglaw15_WidthsRigid.l1] at H
                  by_cases c15 : x11_2 < (t417.length : Int)
                  · rw [if_pos c15] at H
                    have c15b0 : decide (x11_2 < (t417.length : Int)) = true := decide_eq_true c15
                    clear c15
                    by_cases c16 : 0 ≤ x11_2
                    · rw [if_pos c16] at H
                      have c16b0 : decide (0 ≤ x11_2) = true := decide_eq_true c16
                      clear c16
                      obtain ⟨ji17, hji17⟩ : ∃ j_ : Int, (mn (rd t417 x11_2) 72057594037927936) = j_ := ⟨_, rfl⟩
                      replace H : (if (rd t417 x11_2) < 0 then (some false) else (if x11_2 < (y413.length : Int) then (if ((rd_T39 y413 x11_2).f0) = 1 then (if (rd t417 x11_2) < ((rd_T39 y413 x11_2).f1) then (some false) else (if x8_1 = true then (if (rd t417 x11_2) = ((rd_T39 y413 x11_2).f1) then (purflinglaw15_WidthsRigid.l1 k2 y413 a1 t412 t417 x8_1 (wrap64 (x10_2 + (ji17))) (wrap64 (x11_2 + 1))) else (some false)) else (purflinglaw15_WidthsRigid.l1 k2 y413 a1 t412 t417 x8_1 (wrap64 (x10_2 + (ji17))) (wrap64 (x11_2 + 1))))) else (purflinglaw15_WidthsRigid.l1 k2 y413 a1 t412 t417 x8_1 (wrap64 (x10_2 + (ji17))) (wrap64 (x11_2 + 1)))) else (none))) = some r := by first | (rw [hji17] at H; exact H) | (simp only [hji17] at H ⊢; exact H)
                      have hji17_ : (if 72057594037927936 < (rd t417 x11_2) then 72057594037927936 else (rd t417 x11_2)) = ji17 := hji17
                      by_cases c18 : (rd t417 x11_2) < 0
                      · rw [if_pos c18] at H
                        have c18b0 : decide ((rd t417 x11_2) < 0) = true := decide_eq_true c18
                        clear c18
                        obtain rfl := Option.some.inj H
                        obtain ⟨Ao19, co19, eo19⟩ := Kd.R_slice HO_6.out
                        subst eo19
                        have p422 : 0 ≤ (x11_2 : Int) := of_decide_eq_true (by first | (with_reducible assumption) | assumption)
                        have q422 : x11_2 < (t417.length : Int) := of_decide_eq_true (by first | (with_reducible assumption) | assumption)
                        obtain ⟨ad422, e422, hx422_0⟩ := Kd.at_int (Kd.R_reads' HO_6.out).2.2 x11_2 p422 q422
                        cases e422
                        replace p422 := eq_true p422
                        replace q422 := eq_true q422
                        have p423 : 0 ≤ (x11_2 : Int) := of_decide_eq_true (by first | (with_reducible assumption) | assumption)
                        have q423 : x11_2 < (t417.length : Int) := of_decide_eq_true (by first | (with_reducible assumption) | assumption)
                        obtain ⟨ad423, e423, hx423_0⟩ := Kd.at_int (Kd.R_reads' HO_6.out).2.2 x11_2 p423 q423
                        obtain rfl : ad422 = ad423 := (by injection e423)
                        replace p423 := eq_true p423
                        replace q423 := eq_true q423
                        go_wp2
                        repeat (go_quiet (fail); try go_wp2)
                        go_ret
                        exact ⟨by first | rfl | (simp [errW_none, errW_some] <;> rfl) | (simp only [← hji4, ← hji17]; first | rfl | (simp [errW_none, errW_some] <;> rfl)) | (simp [*, errW_none, errW_some] <;> rfl), by repeat (first | (with_reducible first | exact HB.out | apply below_alloc | apply pw_below_drewN | apply below_drew1) | exact HB.out)⟩
                      · rw [if_neg c18] at H
                        have c18b0 : decide ((rd t417 x11_2) < 0) = false := decide_eq_false c18
                        clear c18
                        by_cases c20 : x11_2 < (y413.length : Int)
                        · rw [if_pos c20] at H
                          have c20b0 : decide (x11_2 < (y413.length : Int)) = true := decide_eq_true c20
                          clear c20
                          by_cases c21 : ((rd_T39 y413 x11_2).f0) = 1
                          · rw [if_pos c21] at H
                            have c21b0 : (((rd_T39 y413 x11_2).f0) == 1) = true := beq_iff_eq.mpr c21
                            have c21b1 : (((rd_T39 y413 x11_2).f0) != 1) = false := bne_eq_false_iff_eq.mpr c21
                            clear c21
                            by_cases c22 : (rd t417 x11_2) < ((rd_T39 y413 x11_2).f1)
                            · rw [if_pos c22] at H
                              have c22b0 : decide ((rd t417 x11_2) < ((rd_T39 y413 x11_2).f1)) = true := decide_eq_true c22
                              clear c22
                              obtain rfl := Option.some.inj H
                              obtain ⟨Ao23, co23, eo23⟩ := Kd.R_slice HO_6.out
                              subst eo23
                              have p422 : 0 ≤ (x11_2 : Int) := of_decide_eq_true (by first | (with_reducible assumption) | assumption)
                              have q422 : x11_2 < (t417.length : Int) := of_decide_eq_true (by first | (with_reducible assumption) | assumption)
                              obtain ⟨ad422, e422, hx422_0⟩ := Kd.at_int (Kd.R_reads' HO_6.out).2.2 x11_2 p422 q422
                              cases e422
                              replace p422 := eq_true p422
                              replace q422 := eq_true q422
                              have p423 : 0 ≤ (x11_2 : Int) := of_decide_eq_true (by first | (with_reducible assumption) | assumption)
                              have q423 : x11_2 < (t417.length : Int) := of_decide_eq_true (by first | (with_reducible assumption) | assumption)
                              obtain ⟨ad423, e423, hx423_0⟩ := Kd.at_int (Kd.R_reads' HO_6.out).2.2 x11_2 p423 q423
                              obtain rfl : ad422 = ad423 := (by injection e423)
                              replace p423 := eq_true p423
                              replace q423 := eq_true q423
                              have p424 : 0 ≤ (x11_2 : Int) := of_decide_eq_true (by first | (with_reducible assumption) | assumption)
                              have q424 : x11_2 < (y413.length : Int) := of_decide_eq_true (by first | (with_reducible assumption) | assumption)
                              obtain ⟨ad424, e424, hx424_0, hx424_1⟩ := at_T39 HR416.out x11_2 p424 q424
                              cases e424
                              replace hx424_0 := (HB.out.cell (World.block_lt_of_cell? w _ hx424_0)).trans hx424_0
                              replace hx424_1 := (HB.out.cell (World.block_lt_of_cell? w _ hx424_1)).trans hx424_1
                              replace p424 := eq_true p424
                              replace q424 := eq_true q424
                              have p425 : 0 ≤ (x11_2 : Int) := of_decide_eq_true (by first | (with_reducible assumption) | assumption)
                              have q425 : x11_2 < (t417.length : Int) := of_decide_eq_true (by first | (with_reducible assumption) | assumption)
                              obtain ⟨ad425, e425, hx425_0⟩ := Kd.at_int (Kd.R_reads' HO_6.out).2.2 x11_2 p425 q425
                              obtain rfl : ad422 = ad425 := (by injection e425)
                              replace p425 := eq_true p425
                              replace q425 := eq_true q425
                              have p426 : 0 ≤ (x11_2 : Int) := of_decide_eq_true (by first | (with_reducible assumption) | assumption)
                              have q426 : x11_2 < (y413.length : Int) := of_decide_eq_true (by first | (with_reducible assumption) | assumption)
                              obtain ⟨ad426, e426, hx426_0, hx426_1⟩ := at_T39 HR416.out x11_2 p426 q426
                              obtain rfl : ad424 = ad426 := (by injection e426)
                              replace hx426_0 := (HB.out.cell (World.block_lt_of_cell? w _ hx426_0)).trans hx426_0
                              replace hx426_1 := (HB.out.cell (World.block_lt_of_cell? w _ hx426_1)).trans hx426_1
                              replace p426 := eq_true p426
                              replace q426 := eq_true q426
                              go_wp2
                              repeat (go_quiet (fail); try go_wp2)
                              go_ret
                              exact ⟨by first | rfl | (simp [errW_none, errW_some] <;> rfl) | (simp only [← hji4, ← hji17]; first | rfl | (simp [errW_none, errW_some] <;> rfl)) | (simp [*, errW_none, errW_some] <;> rfl), by repeat (first | (with_reducible first | exact HB.out | apply below_alloc | apply pw_below_drewN | apply below_drew1) | exact HB.out)⟩
                            · rw [if_neg c22] at H
                              have c22b0 : decide ((rd t417 x11_2) < ((rd_T39 y413 x11_2).f1)) = false := decide_eq_false c22
                              clear c22
                              by_cases c24 : x8_1 = true
                              · subst c24
                                have H1 : (if (rd t417 x11_2) = ((rd_T39 y413 x11_2).f1) then (purflinglaw15_WidthsRigid.l1 k2 y413 a1 t412 t417 true (wrap64 (x10_2 + (ji17))) (wrap64 (x11_2 + 1))) else (some false)) = some r := by rw [if_pos rfl] at H; exact H
                                clear H
                                have H := H1
                                clear H1
                                by_cases c25 : (rd t417 x11_2) = ((rd_T39 y413 x11_2).f1)
                                · rw [if_pos c25] at H
                                  have c25b0 : ((rd t417 x11_2) == ((rd_T39 y413 x11_2).f1)) = true := beq_iff_eq.mpr c25
                                  have c25b1 : ((rd t417 x11_2) != ((rd_T39 y413 x11_2).f1)) = false := bne_eq_false_iff_eq.mpr c25
                                  clear c25
                                  have H' := Aside0.mk H
                                  clear H
                                  obtain ⟨Ao26, co26, eo26⟩ := Kd.R_slice HO_6.out
                                  subst eo26
                                  have p422 : 0 ≤ (x11_2 : Int) := of_decide_eq_true (by first | (with_reducible assumption) | assumption)
                                  have q422 : x11_2 < (t417.length : Int) := of_decide_eq_true (by first | (with_reducible assumption) | assumption)
                                  obtain ⟨ad422, e422, hx422_0⟩ := Kd.at_int (Kd.R_reads' HO_6.out).2.2 x11_2 p422 q422
                                  cases e422
                                  replace p422 := eq_true p422
                                  replace q422 := eq_true q422
                                  have p423 : 0 ≤ (x11_2 : Int) := of_decide_eq_true (by first | (with_reducible assumption) | assumption)
                                  have q423 : x11_2 < (t417.length : Int) := of_decide_eq_true (by first | (with_reducible assumption) | assumption)
                                  obtain ⟨ad423, e423, hx423_0⟩ := Kd.at_int (Kd.R_reads' HO_6.out).2.2 x11_2 p423 q423
                                  obtain rfl : ad422 = ad423 := (by injection e423)
                                  replace p423 := eq_true p423
                                  replace q423 := eq_true q423
                                  have p424 : 0 ≤ (x11_2 : Int) := of_decide_eq_true (by first | (with_reducible assumption) | assumption)
                                  have q424 : x11_2 < (y413.length : Int) := of_decide_eq_true (by first | (with_reducible assumption) | assumption)
                                  obtain ⟨ad424, e424, hx424_0, hx424_1⟩ := at_T39 HR416.out x11_2 p424 q424
                                  cases e424
                                  replace hx424_0 := (HB.out.cell (World.block_lt_of_cell? w _ hx424_0)).trans hx424_0
                                  replace hx424_1 := (HB.out.cell (World.block_lt_of_cell? w _ hx424_1)).trans hx424_1
                                  replace p424 := eq_true p424
                                  replace q424 := eq_true q424
                                  have p425 : 0 ≤ (x11_2 : Int) := of_decide_eq_true (by first | (with_reducible assumption) | assumption)
                                  have q425 : x11_2 < (t417.length : Int) := of_decide_eq_true (by first | (with_reducible assumption) | assumption)
                                  obtain ⟨ad425, e425, hx425_0⟩ := Kd.at_int (Kd.R_reads' HO_6.out).2.2 x11_2 p425 q425
                                  obtain rfl : ad422 = ad425 := (by injection e425)
                                  replace p425 := eq_true p425
                                  replace q425 := eq_true q425
                                  have p426 : 0 ≤ (x11_2 : Int) := of_decide_eq_true (by first | (with_reducible assumption) | assumption)
                                  have q426 : x11_2 < (y413.length : Int) := of_decide_eq_true (by first | (with_reducible assumption) | assumption)
                                  obtain ⟨ad426, e426, hx426_0, hx426_1⟩ := at_T39 HR416.out x11_2 p426 q426
                                  obtain rfl : ad424 = ad426 := (by injection e426)
                                  replace hx426_0 := (HB.out.cell (World.block_lt_of_cell? w _ hx426_0)).trans hx426_0
                                  replace hx426_1 := (HB.out.cell (World.block_lt_of_cell? w _ hx426_1)).trans hx426_1
                                  replace p426 := eq_true p426
                                  replace q426 := eq_true q426
                                  have p427 : 0 ≤ (x11_2 : Int) := of_decide_eq_true (by first | (with_reducible assumption) | assumption)
                                  have q427 : x11_2 < (t417.length : Int) := of_decide_eq_true (by first | (with_reducible assumption) | assumption)
                                  obtain ⟨ad427, e427, hx427_0⟩ := Kd.at_int (Kd.R_reads' HO_6.out).2.2 x11_2 p427 q427
                                  obtain rfl : ad422 = ad427 := (by injection e427)
                                  replace p427 := eq_true p427
                                  replace q427 := eq_true q427
                                  have p428 : 0 ≤ (x11_2 : Int) := of_decide_eq_true (by first | (with_reducible assumption) | assumption)
                                  have q428 : x11_2 < (y413.length : Int) := of_decide_eq_true (by first | (with_reducible assumption) | assumption)
                                  obtain ⟨ad428, e428, hx428_0, hx428_1⟩ := at_T39 HR416.out x11_2 p428 q428
                                  obtain rfl : ad424 = ad428 := (by injection e428)
                                  replace hx428_0 := (HB.out.cell (World.block_lt_of_cell? w _ hx428_0)).trans hx428_0
                                  replace hx428_1 := (HB.out.cell (World.block_lt_of_cell? w _ hx428_1)).trans hx428_1
                                  replace p428 := eq_true p428
                                  replace q428 := eq_true q428
                                  go_wp2
                                  repeat (go_quiet (fail); try go_wp2)
                                  go_roundg k2
                                  case measure => have := HK1.out; have := HK2.out; omega
                                  case rel => exact ⟨(wrap64 (x10_2 + (ji17))), (wrap64 (x11_2 + 1)), (by first | rfl | (simp; done) | (simp only [← hji17] <;> (first | rfl | simp)) | (simp [*]; done)), (by first | rfl | (simp; done) | (simp [*]; done)), H', ⟨by have := HK1.out; have := HK2.out; omega⟩, ⟨by (with_reducible repeat (first | apply Kd.R_alloc | apply Kd.R_drewN | apply Kd.R_drew)); exact HO_6.out⟩, ⟨by repeat (first | (with_reducible first | exact HB.out | apply below_alloc | apply pw_below_drewN | apply below_drew1) | exact HB.out)⟩⟩
                                · rw [if_neg c25] at H
                                  have c25b0 : ((rd t417 x11_2) == ((rd_T39 y413 x11_2).f1)) = false := beq_eq_false_iff_ne.mpr c25
                                  have c25b1 : ((rd t417 x11_2) != ((rd_T39 y413 x11_2).f1)) = true := bne_iff_ne.mpr c25
                                  obtain rfl := Option.some.inj H
                                  obtain ⟨Ao27, co27, eo27⟩ := Kd.R_slice HO_6.out
                                  subst eo27
                                  have p422 : 0 ≤ (x11_2 : Int) := of_decide_eq_true (by first | (with_reducible assumption) | assumption)
                                  have q422 : x11_2 < (t417.length : Int) := of_decide_eq_true (by first | (with_reducible assumption) | assumption)
                                  obtain ⟨ad422, e422, hx422_0⟩ := Kd.at_int (Kd.R_reads' HO_6.out).2.2 x11_2 p422 q422
                                  cases e422
                                  replace p422 := eq_true p422
                                  replace q422 := eq_true q422
                                  have p423 : 0 ≤ (x11_2 : Int) := of_decide_eq_true (by first | (with_reducible assumption) | assumption)
                                  have q423 : x11_2 < (t417.length : Int) := of_decide_eq_true (by first | (with_reducible assumption) | assumption)
                                  obtain ⟨ad423, e423, hx423_0⟩ := Kd.at_int (Kd.R_reads' HO_6.out).2.2 x11_2 p423 q423
                                  obtain rfl : ad422 = ad423 := (by injection e423)
                                  replace p423 := eq_true p423
                                  replace q423 := eq_true q423
                                  have p424 : 0 ≤ (x11_2 : Int) := of_decide_eq_true (by first | (with_reducible assumption) | assumption)
                                  have q424 : x11_2 < (y413.length : Int) := of_decide_eq_true (by first | (with_reducible assumption) | assumption)
                                  obtain ⟨ad424, e424, hx424_0, hx424_1⟩ := at_T39 HR416.out x11_2 p424 q424
                                  cases e424
                                  replace hx424_0 := (HB.out.cell (World.block_lt_of_cell? w _ hx424_0)).trans hx424_0
                                  replace hx424_1 := (HB.out.cell (World.block_lt_of_cell? w _ hx424_1)).trans hx424_1
                                  replace p424 := eq_true p424
                                  replace q424 := eq_true q424
                                  have p425 : 0 ≤ (x11_2 : Int) := of_decide_eq_true (by first | (with_reducible assumption) | assumption)
                                  have q425 : x11_2 < (t417.length : Int) := of_decide_eq_true (by first | (with_reducible assumption) | assumption)
                                  obtain ⟨ad425, e425, hx425_0⟩ := Kd.at_int (Kd.R_reads' HO_6.out).2.2 x11_2 p425 q425
                                  obtain rfl : ad422 = ad425 := (by injection e425)
                                  replace p425 := eq_true p425
                                  replace q425 := eq_true q425
                                  have p426 : 0 ≤ (x11_2 : Int) := of_decide_eq_true (by first | (with_reducible assumption) | assumption)
                                  have q426 : x11_2 < (y413.length : Int) := of_decide_eq_true (by first | (with_reducible assumption) | assumption)
                                  obtain ⟨ad426, e426, hx426_0, hx426_1⟩ := at_T39 HR416.out x11_2 p426 q426
                                  obtain rfl : ad424 = ad426 := (by injection e426)
                                  replace hx426_0 := (HB.out.cell (World.block_lt_of_cell? w _ hx426_0)).trans hx426_0
                                  replace hx426_1 := (HB.out.cell (World.block_lt_of_cell? w _ hx426_1)).trans hx426_1
                                  replace p426 := eq_true p426
                                  replace q426 := eq_true q426
                                  have p427 : 0 ≤ (x11_2 : Int) := of_decide_eq_true (by first | (with_reducible assumption) | assumption)
                                  have q427 : x11_2 < (t417.length : Int) := of_decide_eq_true (by first | (with_reducible assumption) | assumption)
                                  obtain ⟨ad427, e427, hx427_0⟩ := Kd.at_int (Kd.R_reads' HO_6.out).2.2 x11_2 p427 q427
                                  obtain rfl : ad422 = ad427 := (by injection e427)
                                  replace p427 := eq_true p427
                                  replace q427 := eq_true q427
                                  have p428 : 0 ≤ (x11_2 : Int) := of_decide_eq_true (by first | (with_reducible assumption) | assumption)
                                  have q428 : x11_2 < (y413.length : Int) := of_decide_eq_true (by first | (with_reducible assumption) | assumption)
                                  obtain ⟨ad428, e428, hx428_0, hx428_1⟩ := at_T39 HR416.out x11_2 p428 q428
                                  obtain rfl : ad424 = ad428 := (by injection e428)
                                  replace hx428_0 := (HB.out.cell (World.block_lt_of_cell? w _ hx428_0)).trans hx428_0
                                  replace hx428_1 := (HB.out.cell (World.block_lt_of_cell? w _ hx428_1)).trans hx428_1
                                  replace p428 := eq_true p428
                                  replace q428 := eq_true q428
                                  go_wp2
                                  repeat (go_quiet (fail); try go_wp2)
                                  go_ret
                                  exact ⟨by first | rfl | (simp [errW_none, errW_some] <;> rfl) | (simp only [← hji4, ← hji17]; first | rfl | (simp [errW_none, errW_some] <;> rfl)) | (simp [*, errW_none, errW_some] <;> rfl), by repeat (first | (with_reducible first | exact HB.out | apply below_alloc | apply pw_below_drewN | apply below_drew1) | exact HB.out)⟩
                              · replace c24 := Bool.eq_false_iff.mpr c24
                                subst c24
                                have H1 : (purflinglaw15_WidthsRigid.l1 k2 y413 a1 t412 t417 false (wrap64 (x10_2 + (ji17))) (wrap64 (x11_2 + 1))) = some r := by rw [if_neg (show ¬ (false = true) by decide)] at H; exact H
                                clear H
                                have H := H1
                                clear H1
                                have H' := Aside0.mk H
                                clear H
                                obtain ⟨Ao28, co28, eo28⟩ := Kd.R_slice HO_6.out
                                subst eo28
                                have p422 : 0 ≤ (x11_2 : Int) := of_decide_eq_true (by first | (with_reducible assumption) | assumption)
                                have q422 : x11_2 < (t417.length : Int) := of_decide_eq_true (by first | (with_reducible assumption) | assumption)
                                obtain ⟨ad422, e422, hx422_0⟩ := Kd.at_int (Kd.R_reads' HO_6.out).2.2 x11_2 p422 q422
                                cases e422
                                replace p422 := eq_true p422
                                replace q422 := eq_true q422
                                have p423 : 0 ≤ (x11_2 : Int) := of_decide_eq_true (by first | (with_reducible assumption) | assumption)
                                have q423 : x11_2 < (t417.length : Int) := of_decide_eq_true (by first | (with_reducible assumption) | assumption)
                                obtain ⟨ad423, e423, hx423_0⟩ := Kd.at_int (Kd.R_reads' HO_6.out).2.2 x11_2 p423 q423
                                obtain rfl : ad422 = ad423 := (by injection e423)
                                replace p423 := eq_true p423
                                replace q423 := eq_true q423
                                have p424 : 0 ≤ (x11_2 : Int) := of_decide_eq_true (by first | (with_reducible assumption) | assumption)
                                have q424 : x11_2 < (y413.length : Int) := of_decide_eq_true (by first | (with_reducible assumption) | assumption)
                                obtain ⟨ad424, e424, hx424_0, hx424_1⟩ := at_T39 HR416.out x11_2 p424 q424
                                cases e424
                                replace hx424_0 := (HB.out.cell (World.block_lt_of_cell? w _ hx424_0)).trans hx424_0
                                replace hx424_1 := (HB.out.cell (World.block_lt_of_cell? w _ hx424_1)).trans hx424_1
                                replace p424 := eq_true p424
                                replace q424 := eq_true q424
                                have p425 : 0 ≤ (x11_2 : Int) := of_decide_eq_true (by first | (with_reducible assumption) | assumption)
                                have q425 : x11_2 < (t417.length : Int) := of_decide_eq_true (by first | (with_reducible assumption) | assumption)
                                obtain ⟨ad425, e425, hx425_0⟩ := Kd.at_int (Kd.R_reads' HO_6.out).2.2 x11_2 p425 q425
                                obtain rfl : ad422 = ad425 := (by injection e425)
                                replace p425 := eq_true p425
                                replace q425 := eq_true q425
                                have p426 : 0 ≤ (x11_2 : Int) := of_decide_eq_true (by first | (with_reducible assumption) | assumption)
                                have q426 : x11_2 < (y413.length : Int) := of_decide_eq_true (by first | (with_reducible assumption) | assumption)
                                obtain ⟨ad426, e426, hx426_0, hx426_1⟩ := at_T39 HR416.out x11_2 p426 q426
                                obtain rfl : ad424 = ad426 := (by injection e426)
                                replace hx426_0 := (HB.out.cell (World.block_lt_of_cell? w _ hx426_0)).trans hx426_0
                                replace hx426_1 := (HB.out.cell (World.block_lt_of_cell? w _ hx426_1)).trans hx426_1
                                replace p426 := eq_true p426
                                replace q426 := eq_true q426
                                go_wp2
                                repeat (go_quiet (fail); try go_wp2)
                                go_roundg k2
                                case measure => have := HK1.out; have := HK2.out; omega
                                case rel => exact ⟨(wrap64 (x10_2 + (ji17))), (wrap64 (x11_2 + 1)), (by first | rfl | (simp; done) | (simp only [← hji17] <;> (first | rfl | simp)) | (simp [*]; done)), (by first | rfl | (simp; done) | (simp [*]; done)), H', ⟨by have := HK1.out; have := HK2.out; omega⟩, ⟨by (with_reducible repeat (first | apply Kd.R_alloc | apply Kd.R_drewN | apply Kd.R_drew)); exact HO_6.out⟩, ⟨by repeat (first | (with_reducible first | exact HB.out | apply below_alloc | apply pw_below_drewN | apply below_drew1) | exact HB.out)⟩⟩
                          · rw [if_neg c21] at H
                            have c21b0 : (((rd_T39 y413 x11_2).f0) == 1) = false := beq_eq_false_iff_ne.mpr c21
                            have c21b1 : (((rd_T39 y413 x11_2).f0) != 1) = true := bne_iff_ne.mpr c21
                            have H' := Aside0.mk H
                            clear H
                            obtain ⟨Ao29, co29, eo29⟩ := Kd.R_slice HO_6.out
                            subst eo29
                            have p422 : 0 ≤ (x11_2 : Int) := of_decide_eq_true (by first | (with_reducible assumption) | assumption)
                            have q422 : x11_2 < (t417.length : Int) := of_decide_eq_true (by first | (with_reducible assumption) | assumption)
                            obtain ⟨ad422, e422, hx422_0⟩ := Kd.at_int (Kd.R_reads' HO_6.out).2.2 x11_2 p422 q422
                            cases e422
                            replace p422 := eq_true p422
                            replace q422 := eq_true q422
                            have p423 : 0 ≤ (x11_2 : Int) := of_decide_eq_true (by first | (with_reducible assumption) | assumption)
                            have q423 : x11_2 < (t417.length : Int) := of_decide_eq_true (by first | (with_reducible assumption) | assumption)
                            obtain ⟨ad423, e423, hx423_0⟩ := Kd.at_int (Kd.R_reads' HO_6.out).2.2 x11_2 p423 q423
                            obtain rfl : ad422 = ad423 := (by injection e423)
                            replace p423 := eq_true p423
                            replace q423 := eq_true q423
                            have p424 : 0 ≤ (x11_2 : Int) := of_decide_eq_true (by first | (with_reducible assumption) | assumption)
                            have q424 : x11_2 < (y413.length : Int) := of_decide_eq_true (by first | (with_reducible assumption) | assumption)
                            obtain ⟨ad424, e424, hx424_0, hx424_1⟩ := at_T39 HR416.out x11_2 p424 q424
                            cases e424
                            replace hx424_0 := (HB.out.cell (World.block_lt_of_cell? w _ hx424_0)).trans hx424_0
                            replace hx424_1 := (HB.out.cell (World.block_lt_of_cell? w _ hx424_1)).trans hx424_1
                            replace p424 := eq_true p424
                            replace q424 := eq_true q424
                            go_wp2
                            repeat (go_quiet (fail); try go_wp2)
                            go_roundg k2
                            case measure => have := HK1.out; have := HK2.out; omega
                            case rel => exact ⟨(wrap64 (x10_2 + (ji17))), (wrap64 (x11_2 + 1)), (by first | rfl | (simp; done) | (simp only [← hji17] <;> (first | rfl | simp)) | (simp [*]; done)), (by first | rfl | (simp; done) | (simp [*]; done)), H', ⟨by have := HK1.out; have := HK2.out; omega⟩, ⟨by (with_reducible repeat (first | apply Kd.R_alloc | apply Kd.R_drewN | apply Kd.R_drew)); exact HO_6.out⟩, ⟨by repeat (first | (with_reducible first | exact HB.out | apply below_alloc | apply pw_below_drewN | apply below_drew1) | exact HB.out)⟩⟩
                        · rw [if_neg c20] at H
                          exact absurd H (by simp)
                    · rw [if_neg c16] at H
                      exact absurd H (by simp)
                  · rw [if_neg c15] at H
                    have c15b0 : decide (x11_2 < (t417.length : Int)) = false := decide_eq_false c15
                    clear c15
                    by_cases c30 : t412 = true
                    · subst c30
                      have H1 : (if (t417.length : Int) = (y413.length : Int) then (if x10_2 ≥ a1 then (some true) else (some (decide (x10_2 ≥ 72057594037927936)))) else (some false)) = some r := by rw [if_pos rfl] at H; exact H
                      clear H
                      have H := H1
                      clear H1
                      by_cases c31 : (t417.length : Int) = (y413.length : Int)
                      · rw [if_pos c31] at H
                        have c31b0 : ((t417.length : Int) == (y413.length : Int)) = true := beq_iff_eq.mpr c31
                        have c31b1 : ((t417.length : Int) != (y413.length : Int)) = false := bne_eq_false_iff_eq.mpr c31
                        have c31b2 : (t417.length == y413.length) = true := by first | simpa using c31 | (simp at c31 ⊢; omega)
                        clear c31
                        by_cases c32 : x10_2 ≥ a1
                        · rw [if_pos c32] at H
                          have c32b0 : decide (a1 ≤ x10_2) = true := decide_eq_true c32
                          clear c32
                          obtain rfl := Option.some.inj H
                          obtain ⟨Ao33, co33, eo33⟩ := Kd.R_slice HO_6.out
                          subst eo33
                          go_wp2
                          repeat (go_quiet (fail); try go_wp2)
                          go_ret
                          exact ⟨by first | rfl | (simp [errW_none, errW_some] <;> rfl) | (simp only [← hji4]; first | rfl | (simp [errW_none, errW_some] <;> rfl)) | (simp [*, errW_none, errW_some] <;> rfl), by repeat (first | (with_reducible first | exact HB.out | apply below_alloc | apply pw_below_drewN | apply below_drew1) | exact HB.out)⟩
                        · rw [if_neg c32] at H
                          have c32b0 : decide (a1 ≤ x10_2) = false := decide_eq_false c32
                          clear c32
                          obtain rfl := Option.some.inj H
                          obtain ⟨Ao34, co34, eo34⟩ := Kd.R_slice HO_6.out
                          subst eo34
                          go_wp2
                          repeat (go_quiet (fail); try go_wp2)
                          go_ret
                          exact ⟨by first | rfl | (simp [errW_none, errW_some] <;> rfl) | (simp only [← hji4]; first | rfl | (simp [errW_none, errW_some] <;> rfl)) | (simp [*, errW_none, errW_some] <;> rfl), by repeat (first | (with_reducible first | exact HB.out | apply below_alloc | apply pw_below_drewN | apply below_drew1) | exact HB.out)⟩
                      · rw [if_neg c31] at H
                        have c31b0 : ((t417.length : Int) == (y413.length : Int)) = false := beq_eq_false_iff_ne.mpr c31
                        have c31b1 : ((t417.length : Int) != (y413.length : Int)) = true := bne_iff_ne.mpr c31
                        have c31b2 : (t417.length == y413.length) = false := by first | simpa using c31 | (simp at c31 ⊢; omega)
                        obtain rfl := Option.some.inj H
                        obtain ⟨Ao35, co35, eo35⟩ := Kd.R_slice HO_6.out
                        subst eo35
                        go_wp2
                        repeat (go_quiet (fail); try go_wp2)
                        go_ret
                        exact ⟨by first | rfl | (simp [errW_none, errW_some] <;> rfl) | (simp only [← hji4]; first | rfl | (simp [errW_none, errW_some] <;> rfl)) | (simp [*, errW_none, errW_some] <;> rfl), by repeat (first | (with_reducible first | exact HB.out | apply below_alloc | apply pw_below_drewN | apply below_drew1) | exact HB.out)⟩
                    · replace c30 := Bool.eq_false_iff.mpr c30
                      subst c30
                      have H1 : (some false) = some r := by rw [if_neg (show ¬ (false = true) by decide)] at H; exact H
                      clear H
                      have H := H1
                      clear H1
                      obtain rfl := Option.some.inj H
                      obtain ⟨Ao36, co36, eo36⟩ := Kd.R_slice HO_6.out
                      subst eo36
                      go_wp2
                      repeat (go_quiet (fail); try go_wp2)
                      go_ret
                      exact ⟨by first | rfl | (simp [errW_none, errW_some] <;> rfl) | (simp only [← hji4]; first | rfl | (simp [errW_none, errW_some] <;> rfl)) | (simp [*, errW_none, errW_some] <;> rfl), by repeat (first | (with_reducible first | exact HB.out | apply below_alloc | apply pw_below_drewN | apply below_drew1) | exact HB.out)⟩
      · rw [if_neg c8] at H
        have c8b0 : (t418 == 0) = false := beq_eq_false_iff_ne.mpr c8
        have c8b1 : (t418 != 0) = true := bne_iff_ne.mpr c8
        by_cases c37 : t412 = true
        · subst c37
          have H1 : (some ((t417.length : Int) == 0)) = some r := by rw [if_pos rfl] at H; exact H
          clear H
          have H := H1
          clear H1
          obtain rfl := Option.some.inj H
          go_enter Try.func5, Try.ntmps5
          go_wp2_with (first | (go_at_call 15; (with_reducible refine (purflinglaw15_shown.calls k  true _ A3.out).mono ?_); rintro e w38 ⟨rfl, hb⟩; have n0_ := Aside0.mk (below_step (by repeat (first | (with_reducible first | exact HB.out | apply below_alloc | apply pw_below_drewN | apply below_drew1) | exact HB.out)) hb); clear HB; have HB := n0_; clear n0_; (try clear hb); (try clear hb2); (try clear hk); (try clear hi); have q39 : ((ji4) : Int) ≤ ((l0.length : Int) : Int) := of_decide_eq_true (by first | (with_reducible assumption) | assumption); obtain ⟨i039, hi039, _, hsz39, _⟩ := info_parts info39; have hroom39 : l0.length ≤ c0 := HC0.out; have hC39 : Kd.C k39 _ A0 l0.length l0 := HR0.out; have hcut39 := cut_to (P := Try.prog) 36 39 .i64 Try.underlying36 hi039 A0 l0.length c0 (ji4) (of_decide_eq_true (by first | (with_reducible assumption) | assumption)) q39 hroom39; have hr39 := Kd.C_take (m := ((ji4) : Int).toNat) hC39 (by omega); have hy39 : y413.length = ((ji4) : Int).toNat := (by rw [Ny413.out, List.length_take]; omega); rw [← Ny413.out] at hr39; rw [← hy39] at hcut39; have HR416 := Aside0.mk hr39; have HC416 := Aside0.mk (show y413.length ≤ c0 from by omega); clear hr39 hC39 hroom39 hi039 hsz39; have KY39 := Aside0.mk hy39; clear hy39; replace q39 := eq_true q39) | (go_at_call 22; (with_reducible refine (widths_Fixed.calls k _ _ y413 a1 t417 t418 _ ?side1 ?side2 A7.out).mono ?_); (case side1 => repeat (first | exact (Kd.C_below HR416.out HB.out) | (with_reducible refine Kd.C_alloc ?_ _) | (with_reducible refine Kd.C_drewN ?_ _) | (with_reducible refine Kd.C_drew ?_))); (case side2 => exact HC416.out); rintro e w40 ⟨v419, rfl, ho0, hb⟩; have n0_ := Aside0.mk (Kd.R_lower ho0 (below_size (by repeat (first | (with_reducible first | exact HB.out | apply below_alloc | apply pw_below_drewN | apply below_drew1) | exact HB.out)))); have n1_ := Aside0.mk (below_step (by repeat (first | (with_reducible first | exact HB.out | apply below_alloc | apply pw_below_drewN | apply below_drew1) | exact HB.out)) hb); clear HB; have HO420 := n0_; have HB := n1_; clear n0_ n1_; (try clear hb); (try clear hb2); (try clear hk); (try clear hi); (try clear ho0); obtain ⟨Ao41, co41, eo41⟩ := Kd.R_slice HO420.out; subst eo41))
          repeat (go_quiet (first | (go_at_call 15; (with_reducible refine (purflinglaw15_shown.calls k  true _ A3.out).mono ?_); rintro e w38 ⟨rfl, hb⟩; have n0_ := Aside0.mk (below_step (by repeat (first | (with_reducible first | exact HB.out | apply below_alloc | apply pw_below_drewN | apply below_drew1) | exact HB.out)) hb); clear HB; have HB := n0_; clear n0_; (try clear hb); (try clear hb2); (try clear hk); (try clear hi); have q39 : ((ji4) : Int) ≤ ((l0.length : Int) : Int) := of_decide_eq_true (by first | (with_reducible assumption) | assumption); obtain ⟨i039, hi039, _, hsz39, _⟩ := info_parts info39; have hroom39 : l0.length ≤ c0 := HC0.out; have hC39 : Kd.C k39 _ A0 l0.length l0 := HR0.out; have hcut39 := cut_to (P := Try.prog) 36 39 .i64 Try.underlying36 hi039 A0 l0.length c0 (ji4) (of_decide_eq_true (by first | (with_reducible assumption) | assumption)) q39 hroom39; have hr39 := Kd.C_take (m := ((ji4) : Int).toNat) hC39 (by omega); have hy39 : y413.length = ((ji4) : Int).toNat := (by rw [Ny413.out, List.length_take]; omega); rw [← Ny413.out] at hr39; rw [← hy39] at hcut39; have HR416 := Aside0.mk hr39; have HC416 := Aside0.mk (show y413.length ≤ c0 from by omega); clear hr39 hC39 hroom39 hi039 hsz39; have KY39 := Aside0.mk hy39; clear hy39; replace q39 := eq_true q39) | (go_at_call 22; (with_reducible refine (widths_Fixed.calls k _ _ y413 a1 t417 t418 _ ?side1 ?side2 A7.out).mono ?_); (case side1 => repeat (first | exact (Kd.C_below HR416.out HB.out) | (with_reducible refine Kd.C_alloc ?_ _) | (with_reducible refine Kd.C_drewN ?_ _) | (with_reducible refine Kd.C_drew ?_))); (case side2 => exact HC416.out); rintro e w40 ⟨v419, rfl, ho0, hb⟩; have n0_ := Aside0.mk (Kd.R_lower ho0 (below_size (by repeat (first | (with_reducible first | exact HB.out | apply below_alloc | apply pw_below_drewN | apply below_drew1) | exact HB.out)))); have n1_ := Aside0.mk (below_step (by repeat (first | (with_reducible first | exact HB.out | apply below_alloc | apply pw_below_drewN | apply below_drew1) | exact HB.out)) hb); clear HB; have HO420 := n0_; have HB := n1_; clear n0_ n1_; (try clear hb); (try clear hb2); (try clear hk); (try clear hi); (try clear ho0); obtain ⟨Ao41, co41, eo41⟩ := Kd.R_slice HO420.out; subst eo41)); try go_wp2_with (first | (go_at_call 15; (with_reducible refine (purflinglaw15_shown.calls k  true _ A3.out).mono ?_); rintro e w38 ⟨rfl, hb⟩; have n0_ := Aside0.mk (below_step (by repeat (first | (with_reducible first | exact HB.out | apply below_alloc | apply pw_below_drewN | apply below_drew1) | exact HB.out)) hb); clear HB; have HB := n0_; clear n0_; (try clear hb); (try clear hb2); (try clear hk); (try clear hi); have q39 : ((ji4) : Int) ≤ ((l0.length : Int) : Int) := of_decide_eq_true (by first | (with_reducible assumption) | assumption); obtain ⟨i039, hi039, _, hsz39, _⟩ := info_parts info39; have hroom39 : l0.length ≤ c0 := HC0.out; have hC39 : Kd.C k39 _ A0 l0.length l0 := HR0.out; have hcut39 := cut_to (P := Try.prog) 36 39 .i64 Try.underlying36 hi039 A0 l0.length c0 (ji4) (of_decide_eq_true (by first | (with_reducible assumption) | assumption)) q39 hroom39; have hr39 := Kd.C_take (m := ((ji4) : Int).toNat) hC39 (by omega); have hy39 : y413.length = ((ji4) : Int).toNat := (by rw [Ny413.out, List.length_take]; omega); rw [← Ny413.out] at hr39; rw [← hy39] at hcut39; have HR416 := Aside0.mk hr39; have HC416 := Aside0.mk (show y413.length ≤ c0 from by omega); clear hr39 hC39 hroom39 hi039 hsz39; have KY39 := Aside0.mk hy39; clear hy39; replace q39 := eq_true q39) | (go_at_call 22; (with_reducible refine (widths_Fixed.calls k _ _ y413 a1 t417 t418 _ ?side1 ?side2 A7.out).mono ?_); (case side1 => repeat (first | exact (Kd.C_below HR416.out HB.out) | (with_reducible refine Kd.C_alloc ?_ _) | (with_reducible refine Kd.C_drewN ?_ _) | (with_reducible refine Kd.C_drew ?_))); (case side2 => exact HC416.out); rintro e w40 ⟨v419, rfl, ho0, hb⟩; have n0_ := Aside0.mk (Kd.R_lower ho0 (below_size (by repeat (first | (with_reducible first | exact HB.out | apply below_alloc | apply pw_below_drewN | apply below_drew1) | exact HB.out)))); have n1_ := Aside0.mk (below_step (by repeat (first | (with_reducible first | exact HB.out | apply below_alloc | apply pw_below_drewN | apply below_drew1) | exact HB.out)) hb); clear HB; have HO420 := n0_; have HB := n1_; clear n0_ n1_; (try clear hb); (try clear hb2); (try clear hk); (try clear hi); (try clear ho0); obtain ⟨Ao41, co41, eo41⟩ := Kd.R_slice HO420.out; subst eo41)))
          go_ret
          exact ⟨by first | rfl | (simp [errW_none, errW_some] <;> rfl) | (simp only [← hji4]; first | rfl | (simp [errW_none, errW_some] <;> rfl)) | (simp [*, errW_none, errW_some] <;> rfl), by repeat (first | (with_reducible first | exact HB.out | apply below_alloc | apply pw_below_drewN | apply below_drew1) | exact HB.out)⟩
        · replace c37 := Bool.eq_false_iff.mpr c37
          subst c37
          have H1 : (some false) = some r := by rw [if_neg (show ¬ (false = true) by decide)] at H; exact H
          clear H
          have H := H1
          clear H1
          obtain rfl := Option.some.inj H
          go_enter Try.func5, Try.ntmps5
          go_wp2_with (first | (go_at_call 15; (with_reducible refine (purflinglaw15_shown.calls k  false _ A3.out).mono ?_); rintro e w42 ⟨rfl, hb⟩; have n0_ := Aside0.mk (below_step (by repeat (first | (with_reducible first | exact HB.out | apply below_alloc | apply pw_below_drewN | apply below_drew1) | exact HB.out)) hb); clear HB; have HB := n0_; clear n0_; (try clear hb); (try clear hb2); (try clear hk); (try clear hi); have q43 : ((ji4) : Int) ≤ ((l0.length : Int) : Int) := of_decide_eq_true (by first | (with_reducible assumption) | assumption); obtain ⟨i043, hi043, _, hsz43, _⟩ := info_parts info39; have hroom43 : l0.length ≤ c0 := HC0.out; have hC43 : Kd.C k39 _ A0 l0.length l0 := HR0.out; have hcut43 := cut_to (P := Try.prog) 36 39 .i64 Try.underlying36 hi043 A0 l0.length c0 (ji4) (of_decide_eq_true (by first | (with_reducible assumption) | assumption)) q43 hroom43; have hr43 := Kd.C_take (m := ((ji4) : Int).toNat) hC43 (by omega); have hy43 : y413.length = ((ji4) : Int).toNat := (by rw [Ny413.out, List.length_take]; omega); rw [← Ny413.out] at hr43; rw [← hy43] at hcut43; have HR416 := Aside0.mk hr43; have HC416 := Aside0.mk (show y413.length ≤ c0 from by omega); clear hr43 hC43 hroom43 hi043 hsz43; have KY43 := Aside0.mk hy43; clear hy43; replace q43 := eq_true q43) | (go_at_call 22; (with_reducible refine (widths_Fixed.calls k _ _ y413 a1 t417 t418 _ ?side1 ?side2 A7.out).mono ?_); (case side1 => repeat (first | exact (Kd.C_below HR416.out HB.out) | (with_reducible refine Kd.C_alloc ?_ _) | (with_reducible refine Kd.C_drewN ?_ _) | (with_reducible refine Kd.C_drew ?_))); (case side2 => exact HC416.out); rintro e w44 ⟨v419, rfl, ho0, hb⟩; have n0_ := Aside0.mk (Kd.R_lower ho0 (below_size (by repeat (first | (with_reducible first | exact HB.out | apply below_alloc | apply pw_below_drewN | apply below_drew1) | exact HB.out)))); have n1_ := Aside0.mk (below_step (by repeat (first | (with_reducible first | exact HB.out | apply below_alloc | apply pw_below_drewN | apply below_drew1) | exact HB.out)) hb); clear HB; have HO420 := n0_; have HB := n1_; clear n0_ n1_; (try clear hb); (try clear hb2); (try clear hk); (try clear hi); (try clear ho0)))
          repeat (go_quiet (first | (go_at_call 15; (with_reducible refine (purflinglaw15_shown.calls k  false _ A3.out).mono ?_); rintro e w42 ⟨rfl, hb⟩; have n0_ := Aside0.mk (below_step (by repeat (first | (with_reducible first | exact HB.out | apply below_alloc | apply pw_below_drewN | apply below_drew1) | exact HB.out)) hb); clear HB; have HB := n0_; clear n0_; (try clear hb); (try clear hb2); (try clear hk); (try clear hi); have q43 : ((ji4) : Int) ≤ ((l0.length : Int) : Int) := of_decide_eq_true (by first | (with_reducible assumption) | assumption); obtain ⟨i043, hi043, _, hsz43, _⟩ := info_parts info39; have hroom43 : l0.length ≤ c0 := HC0.out; have hC43 : Kd.C k39 _ A0 l0.length l0 := HR0.out; have hcut43 := cut_to (P := Try.prog) 36 39 .i64 Try.underlying36 hi043 A0 l0.length c0 (ji4) (of_decide_eq_true (by first | (with_reducible assumption) | assumption)) q43 hroom43; have hr43 := Kd.C_take (m := ((ji4) : Int).toNat) hC43 (by omega); have hy43 : y413.length = ((ji4) : Int).toNat := (by rw [Ny413.out, List.length_take]; omega); rw [← Ny413.out] at hr43; rw [← hy43] at hcut43; have HR416 := Aside0.mk hr43; have HC416 := Aside0.mk (show y413.length ≤ c0 from by omega); clear hr43 hC43 hroom43 hi043 hsz43; have KY43 := Aside0.mk hy43; clear hy43; replace q43 := eq_true q43) | (go_at_call 22; (with_reducible refine (widths_Fixed.calls k _ _ y413 a1 t417 t418 _ ?side1 ?side2 A7.out).mono ?_); (case side1 => repeat (first | exact (Kd.C_below HR416.out HB.out) | (with_reducible refine Kd.C_alloc ?_ _) | (with_reducible refine Kd.C_drewN ?_ _) | (with_reducible refine Kd.C_drew ?_))); (case side2 => exact HC416.out); rintro e w44 ⟨v419, rfl, ho0, hb⟩; have n0_ := Aside0.mk (Kd.R_lower ho0 (below_size (by repeat (first | (with_reducible first | exact HB.out | apply below_alloc | apply pw_below_drewN | apply below_drew1) | exact HB.out)))); have n1_ := Aside0.mk (below_step (by repeat (first | (with_reducible first | exact HB.out | apply below_alloc | apply pw_below_drewN | apply below_drew1) | exact HB.out)) hb); clear HB; have HO420 := n0_; have HB := n1_; clear n0_ n1_; (try clear hb); (try clear hb2); (try clear hk); (try clear hi); (try clear ho0))); try go_wp2_with (first | (go_at_call 15; (with_reducible refine (purflinglaw15_shown.calls k  false _ A3.out).mono ?_); rintro e w42 ⟨rfl, hb⟩; have n0_ := Aside0.mk (below_step (by repeat (first | (with_reducible first | exact HB.out | apply below_alloc | apply pw_below_drewN | apply below_drew1) | exact HB.out)) hb); clear HB; have HB := n0_; clear n0_; (try clear hb); (try clear hb2); (try clear hk); (try clear hi); have q43 : ((ji4) : Int) ≤ ((l0.length : Int) : Int) := of_decide_eq_true (by first | (with_reducible assumption) | assumption); obtain ⟨i043, hi043, _, hsz43, _⟩ := info_parts info39; have hroom43 : l0.length ≤ c0 := HC0.out; have hC43 : Kd.C k39 _ A0 l0.length l0 := HR0.out; have hcut43 := cut_to (P := Try.prog) 36 39 .i64 Try.underlying36 hi043 A0 l0.length c0 (ji4) (of_decide_eq_true (by first | (with_reducible assumption) | assumption)) q43 hroom43; have hr43 := Kd.C_take (m := ((ji4) : Int).toNat) hC43 (by omega); have hy43 : y413.length = ((ji4) : Int).toNat := (by rw [Ny413.out, List.length_take]; omega); rw [← Ny413.out] at hr43; rw [← hy43] at hcut43; have HR416 := Aside0.mk hr43; have HC416 := Aside0.mk (show y413.length ≤ c0 from by omega); clear hr43 hC43 hroom43 hi043 hsz43; have KY43 := Aside0.mk hy43; clear hy43; replace q43 := eq_true q43) | (go_at_call 22; (with_reducible refine (widths_Fixed.calls k _ _ y413 a1 t417 t418 _ ?side1 ?side2 A7.out).mono ?_); (case side1 => repeat (first | exact (Kd.C_below HR416.out HB.out) | (with_reducible refine Kd.C_alloc ?_ _) | (with_reducible refine Kd.C_drewN ?_ _) | (with_reducible refine Kd.C_drew ?_))); (case side2 => exact HC416.out); rintro e w44 ⟨v419, rfl, ho0, hb⟩; have n0_ := Aside0.mk (Kd.R_lower ho0 (below_size (by repeat (first | (with_reducible first | exact HB.out | apply below_alloc | apply pw_below_drewN | apply below_drew1) | exact HB.out)))); have n1_ := Aside0.mk (below_step (by repeat (first | (with_reducible first | exact HB.out | apply below_alloc | apply pw_below_drewN | apply below_drew1) | exact HB.out)) hb); clear HB; have HO420 := n0_; have HB := n1_; clear n0_ n1_; (try clear hb); (try clear hb2); (try clear hk); (try clear hi); (try clear ho0))))
          go_ret
          exact ⟨by first | rfl | (simp [errW_none, errW_some] <;> rfl) | (simp only [← hji4]; first | rfl | (simp [errW_none, errW_some] <;> rfl)) | (simp [*, errW_none, errW_some] <;> rfl), by repeat (first | (with_reducible first | exact HB.out | apply below_alloc | apply pw_below_drewN | apply below_drew1) | exact HB.out)⟩
    · rw [if_neg c6] at H
      exact absurd H (by simp)
  · rw [if_neg c5] at H
    exact absurd H (by simp)

end Go.Proofs.Ytilfgmclhoidiaa.PA
