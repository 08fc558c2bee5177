-- MADE by wip/tools/xprint.py of this repo: the kit's print.py, turned by this session, and texts by hand
import Derived.Test.YtilfgmclhoidiaaPAx0
import Derived.Test.YtilfgmclhoidiaaPAx15
import Derived.Test.YtilfgmclhoidiaaPAx16
import Derived.Test.YtilfgmclhoidiaaPAx18
namespace Go.Proofs.Ytilfgmclhoidiaa.PA
open Go.RowKit Go.Proofs.YtilfgmclhoidiaaW.PrintWords Go.Proofs.YtilfgmclhoidiaaW.PrintLast Go.Proofs.YtilfgmclhoidiaaW.PrintMore
attribute [local go_sem] max2_int min2_int max_two min_two max_three min_three max_four min_four   -- for this text's walks alone
set_option linter.unusedVariables false
set_option linter.unusedSimpArgs false

/-! ### purflinglaw15_shown: function 15 -/
def purflinglaw15_shown.f (k : Nat)  : Option (Bool) := (widths_Auto.f k (([(⟨10, 20, (-1), (-1)⟩ : S35), (⟨10, 60, (-1), (-1)⟩ : S35)] : List (S35))) 60).bind fun bt204 => ((widths_Fixed.f k (([(⟨1, 30⟩ : S39), (⟨0, 0⟩ : S39), (⟨0, 0⟩ : S39)] : List (S39))) 100).bind fun bt211 => ((widths_Auto.f k ([] : List (S35)) 5).bind fun bt215 => (if bt204.2 = 0 then (if bt211.2 = 0 then (if bt215.2 = 130 then (if (bt204.1.length : Int) = 2 then (if 0 < (bt204.1.length : Int) then (if 1 < (bt204.1.length : Int) then (if (wrap64 ((rd bt204.1 0) + (rd bt204.1 1))) = 60 then ((purflingref01_Same.f k bt211.1 (([30, 35, 35] : List Int))).bind fun t224 => (some t224)) else (some false)) else (none)) else (none)) else (some false)) else (some false)) else (some false)) else (some false))))
theorem purflinglaw15_shown.mono : ∀ k, LeO (purflinglaw15_shown.f k ) (purflinglaw15_shown.f (k + 1) ) := by
 intro  k
 unfold purflinglaw15_shown.f
 repeat' first
   | (with_reducible exact purflingref01_Same.mono _ _ _)
   | (with_reducible exact widths_Auto.mono _ _ _)
   | (with_reducible exact widths_Fixed.mono _ _ _)
   | (with_reducible exact LeO.refl _)
   | (with_reducible exact LeO.none _)
   | (with_reducible refine LeO.ite ?_ ?_)
   | (with_reducible refine LeO.bind ?_ (fun _ => ?_))
   | exact purflingref01_Same.mono _ _ _
   | exact widths_Auto.mono _ _ _
   | exact widths_Fixed.mono _ _ _
   | exact LeO.none _
   | refine LeO.ite ?_ ?_
   | refine LeO.bind ?_ (fun _ => ?_)
def purflinglaw15_shown.T4 : Bool × List (List Nat × List Nat) := (true, [([], []), ([0], [0]), ([1], [1]), ([2], [2]), ([3, 2], [2, 3]), ([2, 4], [2, 4]), ([5, 2], [5]), ([6], [6]), ([7, 6], [6, 7]), ([6, 8], [6, 8]), ([9, 6], [9]), ([10], [10]), ([11, 10], [10, 11]), ([12, 10], [10, 12]), ([10, 13], [10, 13]), ([14, 10], [14]), ([15], [15]), ([16, 15], [15, 16]), ([17, 15], [15, 17]), ([15], [15]), ([19, 15], [15, 19]), ([20, 15], [15, 20]), ([18, 21, 15], [15, 18, 21]), ([22, 15], [15, 22]), ([15, 23], [15, 23]), ([24, 15], [24]), ([25], [25]), ([25], [25]), ([26, 27, 25, 25], [25, 26, 27]), ([25, 28], [25, 28]), ([29, 28, 0, 1, 2, 3, 4, 5, 6, 7, 8, 9, 10, 11, 12, 13, 14, 15, 16, 17, 18, 19, 20, 21, 22, 23, 24, 25, 26, 27, 28, 29], [29])])
def purflinglaw15_shown.B4 : List Nat := [0, 1, 3, 7, 15, 31, 63, 127, 255, 511, 1023, 2047, 4095, 8191, 16383, 32767, 65535, 131071, 262143, 65535, 589823, 1638399, 4194303, 8388607, 16777215, 33554431, 67108863, 67108863, 268435455, 536870911, 1073741823]
theorem purflinglaw15_shown.tab4 : rtab .any (opsOf Try.f15 4) = purflinglaw15_shown.T4 := by kernel_rfl
theorem purflinglaw15_shown.bits4 : waitsOk purflinglaw15_shown.T4.2 purflinglaw15_shown.B4 = true := by kernel_rfl
set_option maxHeartbeats 8000000 in
set_option maxRecDepth 100000 in
theorem purflinglaw15_shown.true_ : purflinglaw15_shown.f 200 = some true := by decide +kernel
set_option maxHeartbeats 8000000 in
set_option maxRecDepth 100000 in
theorem purflinglaw15_shown.calls (k : Nat)  (r : Bool) (w : World) (h : purflinglaw15_shown.f k  = some r) :
  Calls Try.prog 15 #[] w fun e w' => e = .returned (.bool r) ∧ Below w.heap.size w w' := by
 have HR_ : Aside0 (r = true) := Aside0.mk <| by
  obtain ⟨K1, h1⟩ := Ev.of purflinglaw15_shown.mono h
  obtain ⟨K2, h2⟩ := Ev.of purflinglaw15_shown.mono purflinglaw15_shown.true_
  have h3 := (h1 (K1 + K2) (by omega)).symm.trans (h2 (K1 + K2) (by omega))
  simpa using h3
 have hu35 := Try.underlying35
 have hu39 := Try.underlying39
 have HB := Aside0.mk (Below.refl w.heap.size w)
 have H : ((widths_Auto.f k (([(⟨10, 20, (-1), (-1)⟩ : S35), (⟨10, 60, (-1), (-1)⟩ : S35)] : List (S35))) 60).bind fun bt204 => ((widths_Fixed.f k (([(⟨1, 30⟩ : S39), (⟨0, 0⟩ : S39), (⟨0, 0⟩ : S39)] : List (S39))) 100).bind fun bt211 => ((widths_Auto.f k ([] : List (S35)) 5).bind fun bt215 => (if bt204.2 = 0 then (if bt211.2 = 0 then (if bt215.2 = 130 then (if (bt204.1.length : Int) = 2 then (if 0 < (bt204.1.length : Int) then (if 1 < (bt204.1.length : Int) then (if (wrap64 ((rd bt204.1 0) + (rd bt204.1 1))) = 60 then ((purflingref01_Same.f k bt211.1 (([30, 35, 35] : List Int))).bind fun t224 => (some t224)) else (some false)) else (none)) else (none)) else (some false)) else (some false)) else (some false)) else (some false))))) = some r := h
 clear h
 obtain ⟨y201, hy201⟩ : ∃ y_ : List (S35), y_ = (([(⟨10, 20, (-1), (-1)⟩ : S35), (⟨10, 60, (-1), (-1)⟩ : S35)] : List (S35))) := ⟨_, rfl⟩
 replace H : ((widths_Auto.f k y201 60).bind fun bt204 => ((widths_Fixed.f k (([(⟨1, 30⟩ : S39), (⟨0, 0⟩ : S39), (⟨0, 0⟩ : S39)] : List (S39))) 100).bind fun bt211 => ((widths_Auto.f k ([] : List (S35)) 5).bind fun bt215 => (if bt204.2 = 0 then (if bt211.2 = 0 then (if bt215.2 = 130 then (if (bt204.1.length : Int) = 2 then (if 0 < (bt204.1.length : Int) then (if 1 < (bt204.1.length : Int) then (if (wrap64 ((rd bt204.1 0) + (rd bt204.1 1))) = 60 then ((purflingref01_Same.f k bt211.1 (([30, 35, 35] : List Int))).bind fun t224 => (some t224)) else (some false)) else (none)) else (none)) else (some false)) else (some false)) else (some false)) else (some false))))) = some r := by first | (rw [hy201]; with_reducible exact H) | (have H2_ := (Option.bind_some _ _).symm.trans H; rw [hy201]; with_reducible exact H2_) | (have H2_ := (Option.bind_some _ _).symm.trans H; with_reducible exact H2_) | with_reducible exact H | (rw [hy201]; exact H) | exact H
 have Ny201 := Aside0.mk hy201
 clear hy201
 replace H := Option.bind_eq_some_iff.mp H
 obtain ⟨⟨t204, t205⟩, A10, H⟩ := H
 replace H : ((widths_Fixed.f k (([(⟨1, 30⟩ : S39), (⟨0, 0⟩ : S39), (⟨0, 0⟩ : S39)] : List (S39))) 100).bind fun bt211 => ((widths_Auto.f k ([] : List (S35)) 5).bind fun bt215 => (if t205 = 0 then (if bt211.2 = 0 then (if bt215.2 = 130 then (if (t204.length : Int) = 2 then (if 0 < (t204.length : Int) then (if 1 < (t204.length : Int) then (if (wrap64 ((rd t204 0) + (rd t204 1))) = 60 then ((purflingref01_Same.f k bt211.1 (([30, 35, 35] : List Int))).bind fun t224 => (some t224)) else (some false)) else (none)) else (none)) else (some false)) else (some false)) else (some false)) else (some false)))) = some r := H
 have A1 := Aside0.mk A10
 clear A10
 obtain ⟨y208, hy208⟩ : ∃ y_ : List (S39), y_ = (([(⟨1, 30⟩ : S39), (⟨0, 0⟩ : S39), (⟨0, 0⟩ : S39)] : List (S39))) := ⟨_, rfl⟩
 replace H : ((widths_Fixed.f k y208 100).bind fun bt211 => ((widths_Auto.f k ([] : List (S35)) 5).bind fun bt215 => (if t205 = 0 then (if bt211.2 = 0 then (if bt215.2 = 130 then (if (t204.length : Int) = 2 then (if 0 < (t204.length : Int) then (if 1 < (t204.length : Int) then (if (wrap64 ((rd t204 0) + (rd t204 1))) = 60 then ((purflingref01_Same.f k bt211.1 (([30, 35, 35] : List Int))).bind fun t224 => (some t224)) else (some false)) else (none)) else (none)) else (some false)) else (some false)) else (some false)) else (some false)))) = some r := by first | (rw [hy208]; with_reducible exact H) | (have H2_ := (Option.bind_some _ _).symm.trans H; rw [hy208]; with_reducible exact H2_) | (have H2_ := (Option.bind_some _ _).symm.trans H; with_reducible exact H2_) | with_reducible exact H | (rw [hy208]; exact H) | exact H
 have Ny208 := Aside0.mk hy208
 clear hy208
 replace H := Option.bind_eq_some_iff.mp H
 obtain ⟨⟨t211, t212⟩, A20, H⟩ := H
 replace H : ((widths_Auto.f k ([] : List (S35)) 5).bind fun bt215 => (if t205 = 0 then (if t212 = 0 then (if bt215.2 = 130 then (if (t204.length : Int) = 2 then (if 0 < (t204.length : Int) then (if 1 < (t204.length : Int) then (if (wrap64 ((rd t204 0) + (rd t204 1))) = 60 then ((purflingref01_Same.f k t211 (([30, 35, 35] : List Int))).bind fun t224 => (some t224)) else (some false)) else (none)) else (none)) else (some false)) else (some false)) else (some false)) else (some false))) = some r := H
 have A2 := Aside0.mk A20
 clear A20
 replace H := Option.bind_eq_some_iff.mp H
 obtain ⟨⟨t215, t216⟩, A30, H⟩ := H
 replace H : (if t205 = 0 then (if t212 = 0 then (if t216 = 130 then (if (t204.length : Int) = 2 then (if 0 < (t204.length : Int) then (if 1 < (t204.length : Int) then (if (wrap64 ((rd t204 0) + (rd t204 1))) = 60 then ((purflingref01_Same.f k t211 (([30, 35, 35] : List Int))).bind fun t224 => (some t224)) else (some false)) else (none)) else (none)) else (some false)) else (some false)) else (some false)) else (some false)) = some r := H
 have A3 := Aside0.mk A30
 clear A30
 by_cases c4 : t205 = 0
 ·rw [if_pos c4] at H
  have c4b0 : (t205 == 0) = true := beq_iff_eq.mpr c4
  have c4b1 : (t205 != 0) = false := bne_eq_false_iff_eq.mpr c4
  clear c4
  by_cases c5 : t212 = 0
  ·rw [if_pos c5] at H
   have c5b0 : (t212 == 0) = true := beq_iff_eq.mpr c5
   have c5b1 : (t212 != 0) = false := bne_eq_false_iff_eq.mpr c5
   clear c5
   by_cases c6 : t216 = 130
   ·rw [if_pos c6] at H
    have c6b0 : (t216 == 130) = true := beq_iff_eq.mpr c6
    have c6b1 : (t216 != 130) = false := bne_eq_false_iff_eq.mpr c6
    clear c6
    by_cases c7 : (t204.length : Int) = 2
    ·rw [if_pos c7] at H
     have c7b0 : ((t204.length : Int) == 2) = true := beq_iff_eq.mpr c7
     have c7b1 : ((t204.length : Int) != 2) = false := bne_eq_false_iff_eq.mpr c7
     clear c7
     by_cases c8 : 0 < (t204.length : Int)
     ·rw [if_pos c8] at H
      have c8b0 : decide (0 < (t204.length : Int)) = true := decide_eq_true c8
      have c8b1 : decide (0 < t204.length) = true := decide_eq_true (by omega)
      clear c8
      by_cases c9 : 1 < (t204.length : Int)
      ·rw [if_pos c9] at H
       have c9b0 : decide (1 < (t204.length : Int)) = true := decide_eq_true c9
       have c9b1 : decide (1 < t204.length) = true := decide_eq_true (by omega)
       clear c9
       by_cases c10 : (wrap64 ((rd t204 0) + (rd t204 1))) = 60
       ·rw [if_pos c10] at H
        have c10b0 : ((wrap64 ((rd t204 0) + (rd t204 1))) == 60) = true := beq_iff_eq.mpr c10
        have c10b1 : ((wrap64 ((rd t204 0) + (rd t204 1))) != 60) = false := bne_eq_false_iff_eq.mpr c10
        clear c10
        obtain ⟨y221, hy221⟩ : ∃ y_ : List Int, y_ = (([30, 35, 35] : List Int)) := ⟨_, rfl⟩
        replace H : ((purflingref01_Same.f k t211 y221).bind fun t224 => (some t224)) = some r := by first | (rw [hy221]; with_reducible exact H) | (have H2_ := (Option.bind_some _ _).symm.trans H; rw [hy221]; with_reducible exact H2_) | (have H2_ := (Option.bind_some _ _).symm.trans H; with_reducible exact H2_) | with_reducible exact H | (rw [hy221]; exact H) | exact H
        have Ny221 := Aside0.mk hy221
        clear hy221
        replace H := Option.bind_eq_some_iff.mp H
        obtain ⟨t224, A110, H⟩ := H
        replace H : (some t224) = some r := H
        have A11 := Aside0.mk A110
        clear A110
        obtain rfl := Option.some.inj H
        go_enter Try.func15, Try.ntmps15
        try go_wp2_with (first | ((with_reducible refine gate_dst (N := 10) rfl ?_); (try (refine gate_guard (by rfl) ?_; dsimp only)); refine Kd.R_lit k35 _ 35 ?hg (N := 10) ?hd (xs := ([(⟨10, 20, (-1), (-1)⟩ : S35), (⟨10, 60, (-1), (-1)⟩ : S35)] : List (S35))) (inner := [.int .i64 10, .int .i64 20, .int .i64 (-1), .int .i64 (-1), .int .i64 10, .int .i64 60, .int .i64 (-1), .int .i64 (-1)]) (ok := fun _ => True) (okp := fun _ => True) ?hr ?hp (fun _ hk => hk) trivial (Below.refl _ _) (Nat.le_refl _) (by simp) ?_; (case hd => rfl); (case hg => rfl); (case hr => first | (go_simp; done) | (go_simp; rfl)); (case hp => exact (Reps.c4 (show Kd.M k35 _ _ _ (⟨10, 20, (-1), (-1)⟩ : S35) [.int .i64 10, .int .i64 20, .int .i64 (-1), .int .i64 (-1)] from (k35_mkM _ _ _ (⟨10, 20, (-1), (-1)⟩ : S35) )) (Reps.c4 (show Kd.M k35 _ _ _ (⟨10, 60, (-1), (-1)⟩ : S35) [.int .i64 10, .int .i64 60, .int .i64 (-1), .int .i64 (-1)] from (k35_mkM _ _ _ (⟨10, 60, (-1), (-1)⟩ : S35) )) (Reps.none _ _)))); intro v202 w12 ho13 hb hg_ hnew_; clear hg_ hnew_; (first | rw [← Ny201.out] at ho13 | (simp only [Int.reduceToNat] at ho13; rw [← Ny201.out] at ho13)); have n0_ := Aside0.mk (Kd.R_lower ho13 (below_size (by repeat (first | (with_reducible first | exact HB.out | apply below_alloc | apply pw_below_drewN | apply below_drew1) | exact HB.out)))); have n1_ := Aside0.mk (below_step (by repeat (first | (with_reducible first | exact HB.out | apply below_alloc | apply pw_below_drewN | apply below_drew1) | exact HB.out)) hb); clear HB; have HO203 := n0_; have HB := n1_; clear n0_ n1_; clear hb ho13; obtain ⟨Ao14, co14, eo14⟩ := Kd.R_slice HO203.out; subst eo14) | ((with_reducible refine gate_callee (f := 16) rfl ?_); refine goesL_ (some 11) rfl rfl Try.func16 (by kernel_rfl) rfl #[.slice Ao14 y201.length co14, .int .i64 60] rfl (by (try simp only [List.map_toArray, List.map_cons, List.map_nil]); first | done | rfl | (simp only [List.length_drop, List.length_take]; rfl)) ?_; (with_reducible refine (widths_Auto.calls k _ _ y201 60 t204 t205 _ ?side1 ?side2 A1.out).mono ?_); (case side1 => repeat (first | exact (Kd.R_reads' HO203.out).2.2 | (with_reducible refine Kd.C_alloc ?_ _) | (with_reducible refine Kd.C_drewN ?_ _) | (with_reducible refine Kd.C_drew ?_))); (case side2 => exact (Kd.R_reads' HO203.out).2.1); rintro e w15 ⟨v206, rfl, ho0, hb⟩; refine ⟨_, rfl, ?_⟩; have n0_ := Aside0.mk (Kd.R_below (by (with_reducible repeat (first | apply Kd.R_alloc | apply Kd.R_drewN | apply Kd.R_drew)); exact HO203.out) hb); have n1_ := Aside0.mk (Kd.R_lower ho0 (below_size (by repeat (first | (with_reducible first | exact HB.out | apply below_alloc | apply pw_below_drewN | apply below_drew1) | exact HB.out)))); have n2_ := Aside0.mk (below_step (by repeat (first | (with_reducible first | exact HB.out | apply below_alloc | apply pw_below_drewN | apply below_drew1) | exact HB.out)) hb); clear HO203; clear HB; have HO203 := n0_; have HO207 := n1_; have HB := n2_; clear n0_ n1_ n2_; (try clear hb); (try clear hb2); (try clear hk); (try clear hi); (try clear ho0)) | ((with_reducible refine gate_dst (N := 18) rfl ?_); (try (refine gate_guard (by rfl) ?_; dsimp only)); refine Kd.R_lit k39 _ 39 ?hg (N := 18) ?hd (xs := ([(⟨1, 30⟩ : S39), (⟨0, 0⟩ : S39), (⟨0, 0⟩ : S39)] : List (S39))) (inner := [.int .i64 1, .int .i64 30, .int .i64 0, .int .i64 0, .int .i64 0, .int .i64 0]) (ok := fun _ => True) (okp := fun _ => True) ?hr ?hp (fun _ hk => hk) trivial (Below.refl _ _) (Nat.le_refl _) (by simp) ?_; (case hd => rfl); (case hg => rfl); (case hr => first | (go_simp; done) | (go_simp; rfl)); (case hp => exact (Reps.c2 (show Kd.M k39 _ _ _ (⟨1, 30⟩ : S39) [.int .i64 1, .int .i64 30] from (k39_mkM _ _ _ (⟨1, 30⟩ : S39) )) (Reps.c2 (show Kd.M k39 _ _ _ (⟨0, 0⟩ : S39) [.int .i64 0, .int .i64 0] from (k39_mkM _ _ _ (⟨0, 0⟩ : S39) )) (Reps.c2 (show Kd.M k39 _ _ _ (⟨0, 0⟩ : S39) [.int .i64 0, .int .i64 0] from (k39_mkM _ _ _ (⟨0, 0⟩ : S39) )) (Reps.none _ _))))); intro v209 w16 ho17 hb hg_ hnew_; clear hg_ hnew_; (first | rw [← Ny208.out] at ho17 | (simp only [Int.reduceToNat] at ho17; rw [← Ny208.out] at ho17)); have n0_ := Aside0.mk (Kd.R_below (by (with_reducible repeat (first | apply Kd.R_alloc | apply Kd.R_drewN | apply Kd.R_drew)); exact HO203.out) hb); have n1_ := Aside0.mk (Kd.R_below (by (with_reducible repeat (first | apply Kd.R_alloc | apply Kd.R_drewN | apply Kd.R_drew)); exact HO207.out) hb); have n2_ := Aside0.mk (Kd.R_lower ho17 (below_size (by repeat (first | (with_reducible first | exact HB.out | apply below_alloc | apply pw_below_drewN | apply below_drew1) | exact HB.out)))); have n3_ := Aside0.mk (below_step (by repeat (first | (with_reducible first | exact HB.out | apply below_alloc | apply pw_below_drewN | apply below_drew1) | exact HB.out)) hb); clear HO203; clear HO207; clear HB; have HO203 := n0_; have HO207 := n1_; have HO210 := n2_; have HB := n3_; clear n0_ n1_ n2_ n3_; clear hb ho17; obtain ⟨Ao18, co18, eo18⟩ := Kd.R_slice HO210.out; subst eo18) | ((with_reducible refine gate_callee (f := 22) rfl ?_); refine goesL_ (some 19) rfl rfl Try.func22 (by kernel_rfl) rfl #[.slice Ao18 y208.length co18, .int .i64 100] rfl (by (try simp only [List.map_toArray, List.map_cons, List.map_nil]); first | done | rfl | (simp only [List.length_drop, List.length_take]; rfl)) ?_; (with_reducible refine (widths_Fixed.calls k _ _ y208 100 t211 t212 _ ?side1 ?side2 A2.out).mono ?_); (case side1 => repeat (first | exact (Kd.R_reads' HO210.out).2.2 | (with_reducible refine Kd.C_alloc ?_ _) | (with_reducible refine Kd.C_drewN ?_ _) | (with_reducible refine Kd.C_drew ?_))); (case side2 => exact (Kd.R_reads' HO210.out).2.1); rintro e w19 ⟨v213, rfl, ho0, hb⟩; refine ⟨_, rfl, ?_⟩; have n0_ := Aside0.mk (Kd.R_below (by (with_reducible repeat (first | apply Kd.R_alloc | apply Kd.R_drewN | apply Kd.R_drew)); exact HO203.out) hb); have n1_ := Aside0.mk (Kd.R_elder' (by (with_reducible repeat (first | apply Kd.R_alloc | apply Kd.R_drewN | apply Kd.R_drew)); exact HO207.out) (Kd.R_base ho0) hb); have n2_ := Aside0.mk (Kd.R_below (by (with_reducible repeat (first | apply Kd.R_alloc | apply Kd.R_drewN | apply Kd.R_drew)); exact HO210.out) hb); have n3_ := Aside0.mk (Kd.R_lower (Kd.R_new' ho0 (Kd.R_lt (by (with_reducible repeat (first | apply Kd.R_alloc | apply Kd.R_drewN | apply Kd.R_drew)); exact HO207.out))) (below_size (by repeat (first | (with_reducible first | exact HB.out | apply below_alloc | apply pw_below_drewN | apply below_drew1) | exact HB.out)))); have n4_ := Aside0.mk (below_step (by repeat (first | (with_reducible first | exact HB.out | apply below_alloc | apply pw_below_drewN | apply below_drew1) | exact HB.out)) hb); clear HO203; clear HO207; clear HO210; clear HB; have HO203 := n0_; have HO207 := n1_; have HO210 := n2_; have HO214 := n3_; have HB := n4_; clear n0_ n1_ n2_ n3_ n4_; (try clear hb); (try clear hb2); (try clear hk); (try clear hi); (try clear ho0)) | ((with_reducible refine gate_callee (f := 16) rfl ?_); refine goesL_ (some 23) rfl rfl Try.func16 (by kernel_rfl) rfl #[.slice none 0 0, .int .i64 5] rfl (by (try simp only [List.map_toArray, List.map_cons, List.map_nil]); first | done | rfl | (simp only [List.length_drop, List.length_take]; rfl)) ?_; (refine (widths_Auto.calls k _ _ ([] : List (S35)) 5 t215 t216 _ ?side1 ?side2 A3.out).mono ?_); (case side1 => exact Kd.C_nil _ _); (case side2 => exact Nat.le_refl _); rintro e w20 ⟨v217, rfl, ho0, hb⟩; refine ⟨_, rfl, ?_⟩; have n0_ := Aside0.mk (Kd.R_below (by (with_reducible repeat (first | apply Kd.R_alloc | apply Kd.R_drewN | apply Kd.R_drew)); exact HO203.out) hb); have n1_ := Aside0.mk (Kd.R_elder' (by (with_reducible repeat (first | apply Kd.R_alloc | apply Kd.R_drewN | apply Kd.R_drew)); exact HO207.out) (Kd.R_base ho0) hb); have n2_ := Aside0.mk (Kd.R_below (by (with_reducible repeat (first | apply Kd.R_alloc | apply Kd.R_drewN | apply Kd.R_drew)); exact HO210.out) hb); have n3_ := Aside0.mk (Kd.R_elder' (by (with_reducible repeat (first | apply Kd.R_alloc | apply Kd.R_drewN | apply Kd.R_drew)); exact HO214.out) (Kd.R_base ho0) hb); have n4_ := Aside0.mk (Kd.R_lower (Kd.R_new' (Kd.R_new' ho0 (Kd.R_lt (by (with_reducible repeat (first | apply Kd.R_alloc | apply Kd.R_drewN | apply Kd.R_drew)); exact HO207.out))) (Kd.R_lt (by (with_reducible repeat (first | apply Kd.R_alloc | apply Kd.R_drewN | apply Kd.R_drew)); exact HO214.out))) (below_size (by repeat (first | (with_reducible first | exact HB.out | apply below_alloc | apply pw_below_drewN | apply below_drew1) | exact HB.out)))); have n5_ := Aside0.mk (below_step (by repeat (first | (with_reducible first | exact HB.out | apply below_alloc | apply pw_below_drewN | apply below_drew1) | exact HB.out)) hb); clear HO203; clear HO207; clear HO210; clear HO214; clear HB; have HO203 := n0_; have HO207 := n1_; have HO210 := n2_; have HO214 := n3_; have HO218 := n4_; have HB := n5_; clear n0_ n1_ n2_ n3_ n4_ n5_; (try clear hb); (try clear hb2); (try clear hk); (try clear hi); (try clear ho0)))
        have n0_ := Aside0.mk (Kd.R_drew HO203.out)
        have n1_ := Aside0.mk (Kd.R_drew HO207.out)
        have n2_ := Aside0.mk (Kd.R_drew HO210.out)
        have n3_ := Aside0.mk (Kd.R_drew HO214.out)
        have n4_ := Aside0.mk (Kd.R_drew HO218.out)
        have n5_ := Aside0.mk (below_drew1 HB.out)
        clear HO203
        clear HO207
        clear HO210
        clear HO214
        clear HO218
        clear HB
        have HO203 := n0_
        have HO207 := n1_
        have HO210 := n2_
        have HO214 := n3_
        have HO218 := n4_
        have HB := n5_
        clear n0_ n1_ n2_ n3_ n4_ n5_
        obtain ⟨Ao22, co22, eo22⟩ := Kd.R_slice HO207.out
        (first | subst eo22 | (injection eo22 with f1_ f2_ f3_; have f4_ := f1_.symm; have f5_ := f3_.symm; clear f1_ f2_ f3_; subst f4_; subst f5_))
        have p219 : 0 ≤ (0 : Int) := (by omega)
        have q219 : 0 < (t204.length : Int) := of_decide_eq_true (by first | (with_reducible assumption) | assumption)
        obtain ⟨ad219, e219, hx219_0⟩ := Kd.at_int (Kd.R_reads' HO207.out).2.2 0 p219 q219
        cases e219
        have qi219 : (0 < t204.length) = True := eq_true (by omega)
        (try rw [show ((0 : Int)).toNat = 0 from rfl] at hx219_0)
        (try rw [Addr.add_zero'] at hx219_0)
        replace p219 := eq_true p219
        replace q219 := eq_true q219
        have p220 : 0 ≤ (1 : Int) := (by omega)
        have q220 : 1 < (t204.length : Int) := of_decide_eq_true (by first | (with_reducible assumption) | assumption)
        obtain ⟨ad220, e220, hx220_0⟩ := Kd.at_int (Kd.R_reads' HO207.out).2.2 1 p220 q220
        obtain rfl : ad219 = ad220 := (by injection e220)
        (try simp only [show (1 : Int).toNat = 1 from rfl, Nat.reduceMul, Nat.reduceEqDiff, Go.Addr.add, ↓reduceIte] at hx220_0)
        have qi220 : (1 < t204.length) = True := eq_true (by omega)
        (try rw [show ((1 : Int)).toNat = 1 from rfl] at hx220_0)
        replace p220 := eq_true p220
        replace q220 := eq_true q220
        refine start_ (n := 31) (S := fun w' => w'.cell? ad219 = some (.int .i64 (rd t204 0)) ∧ w'.cell? ⟨ad219.block, ad219.off + 1, none⟩ = some (.int .i64 (rd t204 1))) (ds := []) #[false, false, false, false, false, false, false, false, false, false, false, false, false, false, false, false, false, false, false, false, false, false, false, false, false, false, false, false, false, false, false] (by kernel_rfl) rfl rfl ⟨hx219_0, hx220_0⟩ (fun hHeld => ?_); refine with_tabW purflinglaw15_shown.tab4 purflinglaw15_shown.bits4 (fun HT_ HW_ => ?_)
        generalize w20.drew = w21 at HO203 HO207 HO210 HO214 HO218 HB hx219_0 hx220_0 hHeld ⊢
        refine pure_ (i := 0) (N := some 26) (v := ?_) (a' := ?_) #[true, false, false, false, false, false, false, false, false, false, false, false, false, false, false, false, false, false, false, false, false, false, false, false, false, false, false, false, false, false, false] rfl rfl (any_of HT_.out (by kernel_rfl)) (fun _ _ _ h => h) (Or.inl ⟨by rfl, ?_⟩) ?_ ?_
        rotate_left
        ·intro w'
         go_simp
         with_reducible rfl
        rotate_left
        ·simp only [Act.put, List.setIfInBounds_toArray, List.set_cons_zero, List.set_cons_succ, i64_w, i32_w]
         rfl
        refine pure_ (i := 1) (N := some 27) (v := ?_) (a' := ?_) #[true, true, false, false, false, false, false, false, false, false, false, false, false, false, false, false, false, false, false, false, false, false, false, false, false, false, false, false, false, false, false] rfl rfl (any_of HT_.out (by kernel_rfl)) (fun _ _ _ h => h) (Or.inl ⟨by rfl, ?_⟩) ?_ ?_
        rotate_left
        ·intro w'
         go_simp
         with_reducible rfl
        rotate_left
        ·simp only [Act.put, List.setIfInBounds_toArray, List.set_cons_zero, List.set_cons_succ, i64_w, i32_w]
         rfl
        refine pure_ (i := 2) (N := some 28) (v := ?_) (a' := ?_) #[true, true, true, false, false, false, false, false, false, false, false, false, false, false, false, false, false, false, false, false, false, false, false, false, false, false, false, false, false, false, false] rfl rfl (any_of HT_.out (by kernel_rfl)) (fun _ _ _ h => h) (Or.inl ⟨by rfl, ?_⟩) ?_ ?_
        rotate_left
        ·intro w'
         go_simp
         with_reducible rfl
        rotate_left
        ·simp only [Act.put, List.setIfInBounds_toArray, List.set_cons_zero, List.set_cons_succ, i64_w, i32_w]
         rfl
        refine pure_ (i := 3) (N := some 29) (v := ?_) (a' := ?_) #[true, true, true, true, false, false, false, false, false, false, false, false, false, false, false, false, false, false, false, false, false, false, false, false, false, false, false, false, false, false, false] rfl rfl (any_of HT_.out (by kernel_rfl)) (fun _ _ _ h => h) (Or.inl ⟨by rfl, ?_⟩) ?_ ?_
        rotate_left
        ·intro w'
         go_simp
         with_reducible rfl
        rotate_left
        ·simp only [Act.put, List.setIfInBounds_toArray, List.set_cons_zero, List.set_cons_succ, i64_w, i32_w]
         rfl
        refine pure_ (i := 4) (N := some 30) (v := ?_) (a' := ?_) #[true, true, true, true, true, false, false, false, false, false, false, false, false, false, false, false, false, false, false, false, false, false, false, false, false, false, false, false, false, false, false] rfl rfl (any_of HT_.out (by kernel_rfl)) (fun _ _ _ h => h) (Or.inl ⟨by rfl, ?_⟩) ?_ ?_
        rotate_left
        ·intro w'
         go_simp
         with_reducible rfl
        rotate_left
        ·simp only [Act.put, List.setIfInBounds_toArray, List.set_cons_zero, List.set_cons_succ, i64_w, i32_w]
         rfl
        refine pure_ (i := 5) (N := some 31) (v := ?_) (a' := ?_) #[true, true, true, true, true, true, false, false, false, false, false, false, false, false, false, false, false, false, false, false, false, false, false, false, false, false, false, false, false, false, false] rfl rfl (any_of HT_.out (by kernel_rfl)) (fun _ _ _ h => h) (Or.inl ⟨by rfl, ?_⟩) ?_ ?_
        rotate_left
        ·intro w'
         go_simp
         with_reducible rfl
        rotate_left
        ·simp only [Act.put, List.setIfInBounds_toArray, List.set_cons_zero, List.set_cons_succ, i64_w, i32_w]
         rfl
        refine pure_ (i := 6) (N := some 32) (v := ?_) (a' := ?_) #[true, true, true, true, true, true, true, false, false, false, false, false, false, false, false, false, false, false, false, false, false, false, false, false, false, false, false, false, false, false, false] rfl rfl (any_of HT_.out (by kernel_rfl)) (fun _ _ _ h => h) (Or.inl ⟨by rfl, ?_⟩) ?_ ?_
        rotate_left
        ·intro w'
         go_simp
         with_reducible rfl
        rotate_left
        ·simp only [Act.put, List.setIfInBounds_toArray, List.set_cons_zero, List.set_cons_succ, i64_w, i32_w]
         rfl
        refine pure_ (i := 7) (N := some 33) (v := ?_) (a' := ?_) #[true, true, true, true, true, true, true, true, false, false, false, false, false, false, false, false, false, false, false, false, false, false, false, false, false, false, false, false, false, false, false] rfl rfl (any_of HT_.out (by kernel_rfl)) (fun _ _ _ h => h) (Or.inl ⟨by rfl, ?_⟩) ?_ ?_
        rotate_left
        ·intro w'
         go_simp
         with_reducible rfl
        rotate_left
        ·simp only [Act.put, List.setIfInBounds_toArray, List.set_cons_zero, List.set_cons_succ, i64_w, i32_w]
         rfl
        refine pure_ (i := 8) (N := some 34) (v := ?_) (a' := ?_) #[true, true, true, true, true, true, true, true, true, false, false, false, false, false, false, false, false, false, false, false, false, false, false, false, false, false, false, false, false, false, false] rfl rfl (any_of HT_.out (by kernel_rfl)) (fun _ _ _ h => h) (Or.inl ⟨by rfl, ?_⟩) ?_ ?_
        rotate_left
        ·intro w'
         go_simp
         with_reducible rfl
        rotate_left
        ·simp only [Act.put, List.setIfInBounds_toArray, List.set_cons_zero, List.set_cons_succ, i64_w, i32_w]
         rfl
        refine pure_ (i := 9) (N := some 35) (v := ?_) (a' := ?_) #[true, true, true, true, true, true, true, true, true, true, false, false, false, false, false, false, false, false, false, false, false, false, false, false, false, false, false, false, false, false, false] rfl rfl (any_of HT_.out (by kernel_rfl)) (fun _ _ _ h => h) (Or.inl ⟨by rfl, ?_⟩) ?_ ?_
        rotate_left
        ·intro w'
         go_simp
         with_reducible rfl
        rotate_left
        ·simp only [Act.put, List.setIfInBounds_toArray, List.set_cons_zero, List.set_cons_succ, i64_w, i32_w]
         rfl
        refine pure_ (i := 10) (N := some 36) (v := ?_) (a' := ?_) #[true, true, true, true, true, true, true, true, true, true, true, false, false, false, false, false, false, false, false, false, false, false, false, false, false, false, false, false, false, false, false] rfl rfl (any_of HT_.out (by kernel_rfl)) (fun _ _ _ h => h) (Or.inl ⟨by rfl, ?_⟩) ?_ ?_
        rotate_left
        ·intro w'
         go_simp
         with_reducible rfl
        rotate_left
        ·simp only [Act.put, List.setIfInBounds_toArray, List.set_cons_zero, List.set_cons_succ, i64_w, i32_w]
         rfl
        refine pure_ (i := 11) (N := some 37) (v := ?_) (a' := ?_) #[true, true, true, true, true, true, true, true, true, true, true, true, false, false, false, false, false, false, false, false, false, false, false, false, false, false, false, false, false, false, false] rfl rfl (any_of HT_.out (by kernel_rfl)) (fun _ _ _ h => h) (Or.inl ⟨by rfl, ?_⟩) ?_ ?_
        rotate_left
        ·intro w'
         go_simp
         with_reducible rfl
        rotate_left
        ·simp only [Act.put, List.setIfInBounds_toArray, List.set_cons_zero, List.set_cons_succ, i64_w, i32_w]
         rfl
        refine pure_ (i := 12) (N := some 38) (v := ?_) (a' := ?_) #[true, true, true, true, true, true, true, true, true, true, true, true, true, false, false, false, false, false, false, false, false, false, false, false, false, false, false, false, false, false, false] rfl rfl (any_of HT_.out (by kernel_rfl)) (fun _ _ _ h => h) (Or.inl ⟨by rfl, ?_⟩) ?_ ?_
        rotate_left
        ·intro w'
         go_simp
         with_reducible rfl
        rotate_left
        ·simp only [Act.put, List.setIfInBounds_toArray, List.set_cons_zero, List.set_cons_succ, i64_w, i32_w]
         rfl
        refine pure_ (i := 13) (N := some 39) (v := ?_) (a' := ?_) #[true, true, true, true, true, true, true, true, true, true, true, true, true, true, false, false, false, false, false, false, false, false, false, false, false, false, false, false, false, false, false] rfl rfl (any_of HT_.out (by kernel_rfl)) (fun _ _ _ h => h) (Or.inl ⟨by rfl, ?_⟩) ?_ ?_
        rotate_left
        ·intro w'
         go_simp
         with_reducible rfl
        rotate_left
        ·simp only [Act.put, List.setIfInBounds_toArray, List.set_cons_zero, List.set_cons_succ, i64_w, i32_w]
         rfl
        refine pure_ (i := 14) (N := some 40) (v := ?_) (a' := ?_) #[true, true, true, true, true, true, true, true, true, true, true, true, true, true, true, false, false, false, false, false, false, false, false, false, false, false, false, false, false, false, false] rfl rfl (any_of HT_.out (by kernel_rfl)) (fun _ _ _ h => h) (Or.inl ⟨by rfl, ?_⟩) ?_ ?_
        rotate_left
        ·intro w'
         go_simp
         with_reducible rfl
        rotate_left
        ·simp only [Act.put, List.setIfInBounds_toArray, List.set_cons_zero, List.set_cons_succ, i64_w, i32_w]
         rfl
        refine pure_ (i := 15) (N := some 41) (v := ?_) (a' := ?_) #[true, true, true, true, true, true, true, true, true, true, true, true, true, true, true, true, false, false, false, false, false, false, false, false, false, false, false, false, false, false, false] rfl rfl (any_of HT_.out (by kernel_rfl)) (fun _ _ _ h => h) (Or.inl ⟨by rfl, ?_⟩) ?_ ?_
        rotate_left
        ·intro w'
         go_simp
         with_reducible rfl
        rotate_left
        ·simp only [Act.put, List.setIfInBounds_toArray, List.set_cons_zero, List.set_cons_succ, i64_w, i32_w]
         rfl
        refine pure_ (i := 16) (N := some 42) (v := ?_) (a' := ?_) #[true, true, true, true, true, true, true, true, true, true, true, true, true, true, true, true, true, false, false, false, false, false, false, false, false, false, false, false, false, false, false] rfl rfl (any_of HT_.out (by kernel_rfl)) (fun _ _ _ h => h) (Or.inl ⟨by rfl, ?_⟩) ?_ ?_
        rotate_left
        ·intro w'
         go_simp
         with_reducible rfl
        rotate_left
        ·simp only [Act.put, List.setIfInBounds_toArray, List.set_cons_zero, List.set_cons_succ, i64_w, i32_w]
         rfl
        refine pure_ (i := 17) (N := some 43) (v := ?_) (a' := ?_) #[true, true, true, true, true, true, true, true, true, true, true, true, true, true, true, true, true, true, false, false, false, false, false, false, false, false, false, false, false, false, false] rfl rfl (any_of HT_.out (by kernel_rfl)) (fun _ _ _ h => h) (Or.inl ⟨by rfl, ?_⟩) ?_ ?_
        rotate_left
        ·intro w'
         go_simp
         with_reducible rfl
        rotate_left
        ·simp only [Act.put, List.setIfInBounds_toArray, List.set_cons_zero, List.set_cons_succ, i64_w, i32_w]
         rfl
        refine pure_ (i := 19) (N := some 45) (v := ?_) (a' := ?_) #[true, true, true, true, true, true, true, true, true, true, true, true, true, true, true, true, true, true, false, true, false, false, false, false, false, false, false, false, false, false, false] rfl rfl (any_of HT_.out (by kernel_rfl)) (fun _ _ _ h => h) (Or.inl ⟨by rfl, ?_⟩) ?_ ?_
        rotate_left
        ·intro w'
         go_simp
         with_reducible rfl
        rotate_left
        ·simp only [Act.put, List.setIfInBounds_toArray, List.set_cons_zero, List.set_cons_succ, i64_w, i32_w]
         rfl
        refine pure_ (i := 20) (N := some 46) (v := ?_) (a' := ?_) #[true, true, true, true, true, true, true, true, true, true, true, true, true, true, true, true, true, true, false, true, true, false, false, false, false, false, false, false, false, false, false] rfl rfl (any_of HT_.out (by kernel_rfl)) (fun _ _ _ h => h) (Or.inl ⟨by rfl, ?_⟩) ?_ ?_
        rotate_left
        ·intro w'
         go_simp
         with_reducible rfl
        rotate_left
        ·simp only [Act.put, List.setIfInBounds_toArray, List.set_cons_zero, List.set_cons_succ, i64_w, i32_w]
         rfl
        refine take_ (i := 18) (N := some 44) (v := ?_) (a' := ?_) #[true, true, true, true, true, true, true, true, true, true, true, true, true, true, true, true, true, true, true, true, true, false, false, false, false, false, false, false, false, false, false] rfl rfl (take_ofW HT_.out HW_.out (by kernel_rfl)) (fun _ _ _ h => h) (Or.inl ⟨by rfl, ?_⟩) hHeld ?_ ?_
        rotate_left
        ·rintro w' ⟨s0, s1⟩
         go_simp
         with_reducible rfl
        rotate_left
        ·simp only [Act.put, List.setIfInBounds_toArray, List.set_cons_zero, List.set_cons_succ, i64_w, i32_w]
         rfl
        refine take_ (i := 21) (N := some 47) (v := ?_) (a' := ?_) #[true, true, true, true, true, true, true, true, true, true, true, true, true, true, true, true, true, true, true, true, true, true, false, false, false, false, false, false, false, false, false] rfl rfl (take_ofW HT_.out HW_.out (by kernel_rfl)) (fun _ _ _ h => h) (Or.inl ⟨by rfl, ?_⟩) hHeld ?_ ?_
        rotate_left
        ·rintro w' ⟨s0, s1⟩
         go_simp
         with_reducible rfl
        rotate_left
        ·simp only [Act.put, List.setIfInBounds_toArray, List.set_cons_zero, List.set_cons_succ, i64_w, i32_w]
         rfl
        refine pure_ (i := 22) (N := some 48) (v := ?_) (a' := ?_) #[true, true, true, true, true, true, true, true, true, true, true, true, true, true, true, true, true, true, true, true, true, true, true, false, false, false, false, false, false, false, false] rfl rfl (any_of HT_.out (by kernel_rfl)) (fun _ _ _ h => h) (Or.inl ⟨by rfl, ?_⟩) ?_ ?_
        rotate_left
        ·intro w'
         go_simp
         with_reducible rfl
        rotate_left
        ·simp only [Act.put, List.setIfInBounds_toArray, List.set_cons_zero, List.set_cons_succ, i64_w, i32_w]
         rfl
        refine pure_ (i := 23) (N := some 49) (v := ?_) (a' := ?_) #[true, true, true, true, true, true, true, true, true, true, true, true, true, true, true, true, true, true, true, true, true, true, true, true, false, false, false, false, false, false, false] rfl rfl (any_of HT_.out (by kernel_rfl)) (fun _ _ _ h => h) (Or.inl ⟨by rfl, ?_⟩) ?_ ?_
        rotate_left
        ·intro w'
         go_simp
         with_reducible rfl
        rotate_left
        ·simp only [Act.put, List.setIfInBounds_toArray, List.set_cons_zero, List.set_cons_succ, i64_w, i32_w]
         rfl
        refine pure_ (i := 24) (N := some 50) (v := ?_) (a' := ?_) #[true, true, true, true, true, true, true, true, true, true, true, true, true, true, true, true, true, true, true, true, true, true, true, true, true, false, false, false, false, false, false] rfl rfl (any_of HT_.out (by kernel_rfl)) (fun _ _ _ h => h) (Or.inl ⟨by rfl, ?_⟩) ?_ ?_
        rotate_left
        ·intro w'
         go_simp
         with_reducible rfl
        rotate_left
        ·simp only [Act.put, List.setIfInBounds_toArray, List.set_cons_zero, List.set_cons_succ, i64_w, i32_w]
         rfl
        refine pure_ (i := 25) (N := some 51) (v := ?_) (a' := ?_) #[true, true, true, true, true, true, true, true, true, true, true, true, true, true, true, true, true, true, true, true, true, true, true, true, true, true, false, false, false, false, false] rfl rfl (any_of HT_.out (by kernel_rfl)) (fun _ _ _ h => h) (Or.inl ⟨by rfl, ?_⟩) ?_ ?_
        rotate_left
        ·intro w'
         go_simp
         with_reducible rfl
        rotate_left
        ·simp only [Act.put, List.setIfInBounds_toArray, List.set_cons_zero, List.set_cons_succ, i64_w, i32_w]
         rfl
        refine pure_ (i := 26) (N := some 52) (v := ?_) (a' := ?_) #[true, true, true, true, true, true, true, true, true, true, true, true, true, true, true, true, true, true, true, true, true, true, true, true, true, true, true, false, false, false, false] rfl rfl (any_of HT_.out (by kernel_rfl)) (fun _ _ _ h => h) (Or.inl ⟨by rfl, ?_⟩) ?_ ?_
        rotate_left
        ·intro w'
         go_simp
         with_reducible rfl
        rotate_left
        ·simp only [Act.put, List.setIfInBounds_toArray, List.set_cons_zero, List.set_cons_succ, i64_w, i32_w]
         rfl
        refine one_ (i := 27) (N := some 53) #[true, true, true, true, true, true, true, true, true, true, true, true, true, true, true, true, true, true, true, true, true, true, true, true, true, true, true, true, false, false, false] rfl rfl (one_of HT_.out (by kernel_rfl)) (by decide) (fun K hK => ?_)
        refine Kd.R_lit_step (Kd.int .i64) _ 2 ?hg (N := 53) ?hd (xs := ([30, 35, 35] : List Int)) (inner := [.int .i64 30, .int .i64 35, .int .i64 35]) (ok := fun _ => True) (okp := fun _ => True) ?hr ?hp (fun _ hk => hk) trivial (Below.refl _ _) (Nat.le_refl _) (by simp) ?_; (case hd => rfl); (case hg => rfl); (case hr => first | (go_simp; done) | (go_simp; rfl)); (case hp => exact (Reps.one (show Kd.M (Kd.int .i64) _ _ _ 30 [.int .i64 30] from rfl) (Reps.one (show Kd.M (Kd.int .i64) _ _ _ 35 [.int .i64 35] from rfl) (Reps.one (show Kd.M (Kd.int .i64) _ _ _ 35 [.int .i64 35] from rfl) (Reps.none _ _)))))
        intro v222 w23 ho24 hb hg_ hnew_
        have HS0_ := (hb.cell (World.block_lt_of_cell? _ _ (hHeld.1))).trans (hHeld.1)
        have HS1_ := (hb.cell (World.block_lt_of_cell? _ _ (hHeld.2))).trans (hHeld.2)
        clear hg_ hnew_
        (first | rw [← Ny221.out] at ho24 | (simp only [Int.reduceToNat] at ho24; rw [← Ny221.out] at ho24))
        have n0_ := Aside0.mk (Kd.R_below (by (with_reducible repeat (first | apply Kd.R_alloc | apply Kd.R_drewN | apply Kd.R_drew)); exact HO203.out) hb)
        have n1_ := Aside0.mk (Kd.R_elder' (by (with_reducible repeat (first | apply Kd.R_alloc | apply Kd.R_drewN | apply Kd.R_drew)); exact HO207.out) (Kd.R_base ho24) hb)
        have n2_ := Aside0.mk (Kd.R_below (by (with_reducible repeat (first | apply Kd.R_alloc | apply Kd.R_drewN | apply Kd.R_drew)); exact HO210.out) hb)
        have n3_ := Aside0.mk (Kd.R_elder' (by (with_reducible repeat (first | apply Kd.R_alloc | apply Kd.R_drewN | apply Kd.R_drew)); exact HO214.out) (Kd.R_base ho24) hb)
        have n4_ := Aside0.mk (Kd.R_elder' (by (with_reducible repeat (first | apply Kd.R_alloc | apply Kd.R_drewN | apply Kd.R_drew)); exact HO218.out) (Kd.R_base ho24) hb)
        have n5_ := Aside0.mk (Kd.R_lower (Kd.R_new' (Kd.R_new' (Kd.R_new' ho24 (Kd.R_lt (by (with_reducible repeat (first | apply Kd.R_alloc | apply Kd.R_drewN | apply Kd.R_drew)); exact HO207.out))) (Kd.R_lt (by (with_reducible repeat (first | apply Kd.R_alloc | apply Kd.R_drewN | apply Kd.R_drew)); exact HO214.out))) (Kd.R_lt (by (with_reducible repeat (first | apply Kd.R_alloc | apply Kd.R_drewN | apply Kd.R_drew)); exact HO218.out))) (below_size (by repeat (first | (with_reducible first | exact HB.out | apply below_alloc | apply pw_below_drewN | apply below_drew1) | exact HB.out))))
        have n6_ := Aside0.mk (below_step (by repeat (first | (with_reducible first | exact HB.out | apply below_alloc | apply pw_below_drewN | apply below_drew1) | exact HB.out)) hb)
        clear HO203
        clear HO207
        clear HO210
        clear HO214
        clear HO218
        clear HB
        have HO203 := n0_
        have HO207 := n1_
        have HO210 := n2_
        have HO214 := n3_
        have HO218 := n4_
        have HO223 := n5_
        have HB := n6_
        clear n0_ n1_ n2_ n3_ n4_ n5_ n6_
        clear hb ho24
        obtain ⟨Ao25, co25, eo25⟩ := Kd.R_slice HO214.out
        (first | subst eo25 | (injection eo25 with f1_ f2_ f3_; have f4_ := f1_.symm; have f5_ := f3_.symm; clear f1_ f2_ f3_; subst f4_; subst f5_))
        obtain ⟨Ao26, co26, eo26⟩ := Kd.R_slice HO223.out
        (first | subst eo26 | (injection eo26 with f1_ f2_ f3_; have f4_ := f1_.symm; have f5_ := f3_.symm; clear f1_ f2_ f3_; subst f4_; subst f5_))
        refine hK.out _ _ ⟨HS0_, HS1_⟩ (fun hHeld => ?_)
        clear hK K
        refine norm_ (a' := ?_) ?_ ?_
        rotate_left
        ·show Act.put _ (some 53) _ = _
         simp only [Act.put, List.setIfInBounds_toArray, List.set_cons_zero, List.set_cons_succ, i64_w, i32_w]
         rfl
        refine one_ (i := 28) (N := some 54) #[true, true, true, true, true, true, true, true, true, true, true, true, true, true, true, true, true, true, true, true, true, true, true, true, true, true, true, true, true, false, false] rfl rfl (one_of HT_.out (by kernel_rfl)) (by decide) (fun K hK => ?_)
        refine goes_ Try.func19 (by kernel_rfl) rfl #[.slice Ao25 t211.length co25, .slice Ao26 y221.length co26] (by rfl) rfl rfl (by (try simp only [List.map_toArray, List.map_cons, List.map_nil]); first | done | rfl | (simp only [List.length_drop, List.length_take]; rfl)) ?_
        with_reducible refine (purflingref01_Same.calls k _ _ t211 _ _ y221 t224 _ ?side1 ?side2 ?side3 ?side4 A11.out).mono ?_
        (case side1 => repeat (first | exact (Kd.R_reads' HO214.out).2.2 | (with_reducible refine Kd.C_alloc ?_ _) | (with_reducible refine Kd.C_drewN ?_ _) | (with_reducible refine Kd.C_drew ?_)))
        (case side2 => exact (Kd.R_reads' HO214.out).2.1)
        (case side3 => repeat (first | exact (Kd.R_reads' HO223.out).2.2 | (with_reducible refine Kd.C_alloc ?_ _) | (with_reducible refine Kd.C_drewN ?_ _) | (with_reducible refine Kd.C_drew ?_)))
        (case side4 => exact (Kd.R_reads' HO223.out).2.1)
        rintro e w' ⟨rfl, ⟨nd, rfl⟩⟩
        refine ⟨_, rfl, ?_⟩
        refine hK.out _ _ ⟨hHeld.1, hHeld.2⟩ (fun hHeld => ?_)
        clear hK K
        refine norm_ (a' := ?_) ?_ ?_
        rotate_left
        ·show Act.put _ (some 54) _ = _
         simp only [Act.put, List.setIfInBounds_toArray, List.set_cons_zero, List.set_cons_succ, i64_w, i32_w]
         rfl
        refine pure_ (i := 29) (N := some 55) (v := ?_) (a' := ?_) #[true, true, true, true, true, true, true, true, true, true, true, true, true, true, true, true, true, true, true, true, true, true, true, true, true, true, true, true, true, true, false] rfl rfl (any_of HT_.out (by kernel_rfl)) (fun _ _ _ h => h) (Or.inl ⟨by rfl, ?_⟩) ?_ ?_
        rotate_left
        ·intro w'
         go_simp
         with_reducible rfl
        rotate_left
        ·simp only [Act.put, List.setIfInBounds_toArray, List.set_cons_zero, List.set_cons_succ, i64_w, i32_w]
         rfl
        refine pure_ (i := 30) (N := some 0) (v := ?_) (a' := ?_) #[true, true, true, true, true, true, true, true, true, true, true, true, true, true, true, true, true, true, true, true, true, true, true, true, true, true, true, true, true, true, true] rfl rfl (any_of HT_.out (by kernel_rfl)) (fun _ _ _ h => h) (Or.inl ⟨by rfl, ?_⟩) ?_ ?_
        rotate_left
        ·intro w'
         go_simp
         with_reducible rfl
        rotate_left
        ·simp only [Act.put, List.setIfInBounds_toArray, List.set_cons_zero, List.set_cons_succ, i64_w, i32_w]
         rfl
        refine done_ (done_of HT_.out (by kernel_rfl)) ?_
        try go_wp2
        go_ret
        exact ⟨by first | rfl | (simp [errW_none, errW_some] <;> rfl) | (simp [*, errW_none, errW_some] <;> rfl), by repeat (first | (with_reducible first | exact HB.out | apply below_alloc | apply pw_below_drewN | apply below_drew1) | exact HB.out)⟩
       ·rw [if_neg c10] at H
        rw [HR_.out] at H
        exact absurd H (by simp)
      ·rw [if_neg c9] at H
       rw [HR_.out] at H
       exact absurd H (by simp)
     ·rw [if_neg c8] at H
      rw [HR_.out] at H
      exact absurd H (by simp)
    ·rw [if_neg c7] at H
     rw [HR_.out] at H
     exact absurd H (by simp)
   ·rw [if_neg c6] at H
    rw [HR_.out] at H
    exact absurd H (by simp)
  ·rw [if_neg c5] at H
   rw [HR_.out] at H
   exact absurd H (by simp)
 ·rw [if_neg c4] at H
  rw [HR_.out] at H
  exact absurd H (by simp)

/-! ### purflinglaw15_cut: function 17 -/
def purflinglaw15_cut.f (l0 : List (S35)) : Option ((List (S35))) := if 0 ≤ (mn (l0.length : Int) 100) then (if (mn (l0.length : Int) 100) ≤ (l0.length : Int) then (some (l0.take ((mn (l0.length : Int) 100) : Int).toNat)) else (none)) else (none)
set_option maxHeartbeats 8000000 in
set_option maxRecDepth 100000 in
theorem purflinglaw15_cut.calls (P0_ : Nat → Prop) (A0 : Option Addr) (c0 : Nat) (l0 : List (S35)) (r : List (S35)) (w : World) (hs0 : Kd.V k35 35 w w.heap.size (fun k_ => P0_ k_) (.slice A0 l0.length c0) l0) (h : purflinglaw15_cut.f l0 = some r) :
  Calls Try.prog 17 #[.slice A0 l0.length c0] w fun e w' => ∃ v0_ : Value, e = .returned (v0_) ∧ Kd.V k35 35 w' w.heap.size (fun k_ => (P0_ k_ ∨ w.heap.size ≤ k_)) v0_ r ∧ Below w.heap.size w w' := by
 have HO0 := Aside0.mk (show Kd.V k35 35 w w.heap.size (fun k_ => (P0_ k_ ∨ w.heap.size ≤ k_)) (.slice A0 l0.length c0) l0 from Kd.V_mono hs0 (fun k_ hk => .inl hk))
 have HB := Aside0.mk (Below.refl w.heap.size w)
 have H : (if 0 ≤ (mn (l0.length : Int) 100) then (if (mn (l0.length : Int) 100) ≤ (l0.length : Int) then (some (l0.take ((mn (l0.length : Int) 100) : Int).toNat)) else (none)) else (none)) = some r := h
 clear h
 obtain ⟨ji2, hji2⟩ : ∃ j_ : Int, (mn (l0.length : Int) 100) = j_ := ⟨_, rfl⟩
 replace H : (if 0 ≤ (ji2) then (if (ji2) ≤ (l0.length : Int) then (some (l0.take ((ji2) : Int).toNat)) else (none)) else (none)) = some r := by first | (rw [hji2] at H; exact H) | (simp only [hji2] at H ⊢; exact H)
 (try (have hji2h : ji2 ≤ 100 := by (rw [← hji2]; unfold mn; (repeat' split) <;> omega)))
 (try (have hji2g : ji2 ≤ 64 := by omega))
 (try (have hji2l : 0 ≤ ji2 := by (rw [← hji2]; unfold mn; (repeat' split) <;> omega)))
 (try (have hji2m : 0 ≤ ji2 := by omega))
 have hji2_ : (if 100 < (l0.length : Int) then 100 else (l0.length : Int)) = ji2 := hji2
 by_cases c3 : 0 ≤ (ji2)
 ·rw [if_pos c3] at H
  have c3b0 := eq_true c3
  have c3b1 : decide (0 ≤ (ji2)) = true := decide_eq_true c3
  clear c3
  by_cases c4 : (ji2) ≤ (l0.length : Int)
  ·rw [if_pos c4] at H
   have c4b0 := eq_true c4
   have c4b1 : decide ((ji2) ≤ (l0.length : Int)) = true := decide_eq_true c4
   clear c4
   obtain ⟨y225, hy225⟩ : ∃ y_ : List (S35), y_ = (l0.take ((ji2) : Int).toNat) := ⟨_, rfl⟩
   replace H : (some y225) = some r := by first | (rw [hy225]; with_reducible exact H) | (have H2_ := (Option.bind_some _ _).symm.trans H; rw [hy225]; with_reducible exact H2_) | (have H2_ := (Option.bind_some _ _).symm.trans H; with_reducible exact H2_) | with_reducible exact H | (rw [hy225]; exact H) | exact H
   have Ny225 := Aside0.mk hy225
   clear hy225
   obtain rfl := Option.some.inj H
   have q5 : ((ji2) : Int) ≤ ((l0.length : Int) : Int) := of_decide_eq_true (by first | (with_reducible assumption) | assumption)
   obtain ⟨i05, hi05, _, hsz5, _⟩ := info_parts info35
   have hroom5 : l0.length ≤ c0 := (Kd.V_reads' HO0.out).2.1
   have hC5 : Kd.F k35 _ _ A0 l0.length l0 := (Kd.V_at (base := w.heap.size) HO0.out).2.2
   have hcut5 := cut_to (P := Try.prog) 22 35 .i64 Try.underlying22 hi05 A0 l0.length c0 (ji2) (of_decide_eq_true (by first | (with_reducible assumption) | assumption)) q5 hroom5
   have hr5 := Kd.F_take (m := ((ji2) : Int).toNat) hC5 (by omega)
   have hy5 : y225.length = ((ji2) : Int).toNat := (by rw [Ny225.out, List.length_take]; omega)
   rw [← Ny225.out] at hr5
   rw [← hy5] at hcut5
   have HO229 := Aside0.mk (show Kd.V k35 35 _ w.heap.size _ (.slice A0 y225.length c0) y225 from Kd.V_mk (by omega) hr5)
   have HC229 := Aside0.mk (show y225.length ≤ c0 from by omega)
   clear hr5 hC5 hroom5 hi05 hsz5
   have KY5 := Aside0.mk hy5
   clear hy5
   replace q5 := eq_true q5
   go_enter Try.func17, Try.ntmps17
   go_wp2
   go_ret
   exact ⟨_, by first | rfl | (simp [errW_none, errW_some] <;> rfl) | (simp only [← hji2]; first | rfl | (simp [errW_none, errW_some] <;> rfl)) | (simp [*, errW_none, errW_some] <;> rfl), by (with_reducible repeat (first | apply Kd.V_alloc | apply Kd.V_drewN | apply Kd.V_drew)); exact HO229.out, by repeat (first | (with_reducible first | exact HB.out | apply below_alloc | apply pw_below_drewN | apply below_drew1) | exact HB.out)⟩
  ·rw [if_neg c4] at H
   exact absurd H (by simp)
 ·rw [if_neg c3] at H
  exact absurd H (by simp)

/-! ### purflingref13_RightBands: function 40 -/
def purflingref13_RightBands.l0 : Nat → List (S35) → Int → Option (Bool)
 | 0, _, _ => none
 | k + 1, x0, x3 => if x3 < (x0.length : Int) then (if 0 ≤ x3 then (if ((rd_T35 x0 x3).f0) < 0 then (some false) else (if ((rd_T35 x0 x3).f0) > ((rd_T35 x0 x3).f1) then (some false) else (if ((rd_T35 x0 x3).f1) > 1125899906842623 then (some false) else (if ((rd_T35 x0 x3).f2) < (-1) then (some false) else (if ((rd_T35 x0 x3).f2) > 10000000 then (some false) else (if ((rd_T35 x0 x3).f3) < (-1) then (some false) else (if ((rd_T35 x0 x3).f3) > 1073741824 then (some false) else (if ((rd_T35 x0 x3).f2) ≥ 0 then (if ((rd_T35 x0 x3).f3) ≥ 0 then (some false) else (purflingref13_RightBands.l0 k x0 (wrap64 (x3 + 1)))) else (purflingref13_RightBands.l0 k x0 (wrap64 (x3 + 1))))))))))) else (none)) else (some true)
def purflingref13_RightBands.f (k : Nat) (l0 : List (S35)) : Option (Bool) := if (l0.length : Int) > 10000 then (some false) else (purflingref13_RightBands.l0 k l0 0)
theorem purflingref13_RightBands.mono_l : ∀ k, (∀ y0 y1, LeO (purflingref13_RightBands.l0 k y0 y1) (purflingref13_RightBands.l0 (k + 1) y0 y1))
 | 0 => fun _ _ r h => by simp [purflingref13_RightBands.l0] at h
 | k + 1 => by
  have ih0 := purflingref13_RightBands.mono_l k
  ·intro y0 y1
   unfold purflingref13_RightBands.l0
   repeat' first
   | (with_reducible exact ih0 _ _)
   | (with_reducible exact LeO.refl _)
   | (with_reducible exact LeO.none _)
   | (with_reducible refine LeO.ite ?_ ?_)
   | (with_reducible refine LeO.bind ?_ (fun _ => ?_))
   | exact ih0 _ _
   | exact LeO.none _
   | refine LeO.ite ?_ ?_
   | refine LeO.bind ?_ (fun _ => ?_)
theorem purflingref13_RightBands.mono : ∀ a0 k, LeO (purflingref13_RightBands.f k a0) (purflingref13_RightBands.f (k + 1) a0) := by
 intro a0 k
 have ih0 := purflingref13_RightBands.mono_l k
 unfold purflingref13_RightBands.f
 repeat' first
   | (with_reducible exact ih0 _ _)
   | (with_reducible exact LeO.refl _)
   | (with_reducible exact LeO.none _)
   | (with_reducible refine LeO.ite ?_ ?_)
   | (with_reducible refine LeO.bind ?_ (fun _ => ?_))
   | exact ih0 _ _
   | exact LeO.none _
   | refine LeO.ite ?_ ?_
   | refine LeO.bind ?_ (fun _ => ?_)
set_option maxHeartbeats 8000000 in
set_option maxRecDepth 100000 in
theorem purflingref13_RightBands.calls (k : Nat) (A0 : Option Addr) (c0 : Nat) (l0 : List (S35)) (r : Bool) (w : World) (hr0 : Kd.C k35 w A0 l0.length l0) (hc0 : l0.length ≤ c0) (h : purflingref13_RightBands.f k l0 = some r) :
  Calls Try.prog 40 #[.slice A0 l0.length c0] w fun e w' => e = .returned (.bool r) ∧ Below w.heap.size w w' := by
 have hu35 := Try.underlying35
 have HR0 := Aside0.mk hr0
 have HC0 := Aside0.mk hc0
 clear hr0 hc0
 have HB := Aside0.mk (Below.refl w.heap.size w)
 have H : (if (l0.length : Int) > 10000 then (some false) else (purflingref13_RightBands.l0 k l0 0)) = some r := h
 clear h
 by_cases c2 : (l0.length : Int) > 10000
 ·rw [if_pos c2] at H
  have c2b0 : decide (10000 < (l0.length : Int)) = true := decide_eq_true c2
  have c2b1 : decide (10000 < l0.length) = true := decide_eq_true (by omega)
  clear c2
  obtain rfl := Option.some.inj H
  go_enter Try.func40, Try.ntmps40
  go_wp2
  go_ret
  exact ⟨by first | rfl | (simp [errW_none, errW_some] <;> rfl) | (simp [*, errW_none, errW_some] <;> rfl), by repeat (first | (with_reducible first | exact HB.out | apply below_alloc | apply pw_below_drewN | apply below_drew1) | exact HB.out)⟩
 ·rw [if_neg c2] at H
  have c2b0 : decide (10000 < (l0.length : Int)) = false := decide_eq_false c2
  have c2b1 : decide (10000 < l0.length) = false := decide_eq_false (by omega)
  clear c2
  have H' := Aside0.mk H
  clear H
  go_enter Try.func40, Try.ntmps40
  go_wp2
  go_loopg [3] k (fun kq v3 w' => ∃ (x3_1 : Int), v3 = .int .i64 x3_1 ∧ Aside0 (purflingref13_RightBands.l0 kq l0 x3_1 = some r) ∧ Aside0 (kq ≤ k) ∧ Aside0 (Below w.heap.size w w'))
  case atStart => exact ⟨(0), (by first | rfl | (simp; done) | (simp [*]; done)), H', ⟨Nat.le_refl _⟩, ⟨by repeat (first | (with_reducible first | exact HB.out | apply below_alloc | apply pw_below_drewN | apply below_drew1) | exact HB.out)⟩⟩
  case round =>
   clear H'
   try clear c2
   try clear c2b0
   try clear c2b1
   try clear p2
   obtain ⟨x3_1, rfl, HA, HK1, HB⟩ := hrel
   cases gk with
   | zero => exact absurd HA.out (by simp [purflingref13_RightBands.l0])
   | succ k1 =>
    have H := HA.out
    clear HA
    simp only [purflingref13_RightBands.l0] at H
    by_cases c3 : x3_1 < (l0.length : Int)
    ·rw [if_pos c3] at H
     have c3b0 : decide (x3_1 < (l0.length : Int)) = true := decide_eq_true c3
     clear c3
     by_cases c4 : 0 ≤ x3_1
     ·rw [if_pos c4] at H
      have c4b0 : decide (0 ≤ x3_1) = true := decide_eq_true c4
      clear c4
      by_cases c5 : ((rd_T35 l0 x3_1).f0) < 0
      ·rw [if_pos c5] at H
       have c5b0 : decide (((rd_T35 l0 x3_1).f0) < 0) = true := decide_eq_true c5
       clear c5
       obtain rfl := Option.some.inj H
       have p230 : 0 ≤ (x3_1 : Int) := of_decide_eq_true (by first | (with_reducible assumption) | assumption)
       have q230 : x3_1 < (l0.length : Int) := of_decide_eq_true (by first | (with_reducible assumption) | assumption)
       obtain ⟨ad230, e230, hx230_0, hx230_1, hx230_2, hx230_3⟩ := at_T35 HR0.out x3_1 p230 q230
       cases e230
       replace hx230_0 := (HB.out.cell (World.block_lt_of_cell? w _ hx230_0)).trans hx230_0
       replace hx230_1 := (HB.out.cell (World.block_lt_of_cell? w _ hx230_1)).trans hx230_1
       replace hx230_2 := (HB.out.cell (World.block_lt_of_cell? w _ hx230_2)).trans hx230_2
       replace hx230_3 := (HB.out.cell (World.block_lt_of_cell? w _ hx230_3)).trans hx230_3
       replace p230 := eq_true p230
       replace q230 := eq_true q230
       go_wp2_with (first | ((with_reducible refine gate_dst (N := 4) rfl ?_); refine box_event ?hg (N := 4) ?hd (cs := #[.int .i64 0, .int .i64 0, .int .i64 0, .int .i64 0]) (t := 35) ?hr ?_; (case hd => rfl); (case hg => rfl); (case hr => first | (go_simp; done) | (go_simp; rfl)); intro gb231 hg w6 hbox hb; have n0_ := Aside0.mk (below_step (by repeat (first | (with_reducible first | exact HB.out | apply below_alloc | apply pw_below_drewN | apply below_drew1) | exact HB.out)) hb); have n1_ := Aside0.mk (hbox); have n2_ := Aside0.mk ((by rw [hg]; exact (below_size (by repeat (first | (with_reducible first | exact HB.out | apply below_alloc | apply pw_below_drewN | apply below_drew1) | exact HB.out))) : w.heap.size ≤ gb231)); have n3_ := Aside0.mk ((by rw [hg]; exact (below_size (by repeat (first | (with_reducible first | exact HB.out | apply below_alloc | apply pw_below_drewN | apply below_drew1) | exact HB.out))) : w.heap.size ≤ gb231)); clear HB; have HB := n0_; have BK231 := n1_; have GW231 := n2_; have GE231 := n3_; clear n0_ n1_ n2_ n3_; clear hb hbox hg; have hcz7_0 : w6.cell? ⟨gb231, 0, none⟩ = some (.int .i64 0) := (blk_cell BK231.out 0).trans rfl; have hcz7_1 : w6.cell? ⟨gb231, 1, none⟩ = some (.int .i64 0) := (blk_cell BK231.out 1).trans rfl; have hcz7_2 : w6.cell? ⟨gb231, 2, none⟩ = some (.int .i64 0) := (blk_cell BK231.out 2).trans rfl; have hcz7_3 : w6.cell? ⟨gb231, 3, none⟩ = some (.int .i64 0) := (blk_cell BK231.out 3).trans rfl; have hfz7_0 := blk_frozen BK231.out 0; have hfz7_1 := blk_frozen BK231.out 1; have hfz7_2 := blk_frozen BK231.out 2; have hfz7_3 := blk_frozen BK231.out 3))
       go_ret
       exact ⟨by first | rfl | (simp [errW_none, errW_some] <;> rfl) | (simp [*, errW_none, errW_some] <;> rfl), by repeat (first | (with_reducible first | exact HB.out | apply below_alloc | apply pw_below_drewN | apply below_drew1 | refine below_set ?_ GE231.out) | exact HB.out)⟩
      ·rw [if_neg c5] at H
       have c5b0 : decide (((rd_T35 l0 x3_1).f0) < 0) = false := decide_eq_false c5
       clear c5
       by_cases c8 : ((rd_T35 l0 x3_1).f0) > ((rd_T35 l0 x3_1).f1)
       ·rw [if_pos c8] at H
        have c8b0 : decide (((rd_T35 l0 x3_1).f1) < ((rd_T35 l0 x3_1).f0)) = true := decide_eq_true c8
        clear c8
        obtain rfl := Option.some.inj H
        have p230 : 0 ≤ (x3_1 : Int) := of_decide_eq_true (by first | (with_reducible assumption) | assumption)
        have q230 : x3_1 < (l0.length : Int) := of_decide_eq_true (by first | (with_reducible assumption) | assumption)
        obtain ⟨ad230, e230, hx230_0, hx230_1, hx230_2, hx230_3⟩ := at_T35 HR0.out x3_1 p230 q230
        cases e230
        replace hx230_0 := (HB.out.cell (World.block_lt_of_cell? w _ hx230_0)).trans hx230_0
        replace hx230_1 := (HB.out.cell (World.block_lt_of_cell? w _ hx230_1)).trans hx230_1
        replace hx230_2 := (HB.out.cell (World.block_lt_of_cell? w _ hx230_2)).trans hx230_2
        replace hx230_3 := (HB.out.cell (World.block_lt_of_cell? w _ hx230_3)).trans hx230_3
        replace p230 := eq_true p230
        replace q230 := eq_true q230
        go_wp2_with (first | ((with_reducible refine gate_dst (N := 4) rfl ?_); refine box_event ?hg (N := 4) ?hd (cs := #[.int .i64 0, .int .i64 0, .int .i64 0, .int .i64 0]) (t := 35) ?hr ?_; (case hd => rfl); (case hg => rfl); (case hr => first | (go_simp; done) | (go_simp; rfl)); intro gb231 hg w9 hbox hb; have n0_ := Aside0.mk (below_step (by repeat (first | (with_reducible first | exact HB.out | apply below_alloc | apply pw_below_drewN | apply below_drew1) | exact HB.out)) hb); have n1_ := Aside0.mk (hbox); have n2_ := Aside0.mk ((by rw [hg]; exact (below_size (by repeat (first | (with_reducible first | exact HB.out | apply below_alloc | apply pw_below_drewN | apply below_drew1) | exact HB.out))) : w.heap.size ≤ gb231)); have n3_ := Aside0.mk ((by rw [hg]; exact (below_size (by repeat (first | (with_reducible first | exact HB.out | apply below_alloc | apply pw_below_drewN | apply below_drew1) | exact HB.out))) : w.heap.size ≤ gb231)); clear HB; have HB := n0_; have BK231 := n1_; have GW231 := n2_; have GE231 := n3_; clear n0_ n1_ n2_ n3_; clear hb hbox hg; have hcz10_0 : w9.cell? ⟨gb231, 0, none⟩ = some (.int .i64 0) := (blk_cell BK231.out 0).trans rfl; have hcz10_1 : w9.cell? ⟨gb231, 1, none⟩ = some (.int .i64 0) := (blk_cell BK231.out 1).trans rfl; have hcz10_2 : w9.cell? ⟨gb231, 2, none⟩ = some (.int .i64 0) := (blk_cell BK231.out 2).trans rfl; have hcz10_3 : w9.cell? ⟨gb231, 3, none⟩ = some (.int .i64 0) := (blk_cell BK231.out 3).trans rfl; have hfz10_0 := blk_frozen BK231.out 0; have hfz10_1 := blk_frozen BK231.out 1; have hfz10_2 := blk_frozen BK231.out 2; have hfz10_3 := blk_frozen BK231.out 3))
        go_ret
        exact ⟨by first | rfl | (simp [errW_none, errW_some] <;> rfl) | (simp [*, errW_none, errW_some] <;> rfl), by repeat (first | (with_reducible first | exact HB.out | apply below_alloc | apply pw_below_drewN | apply below_drew1 | refine below_set ?_ GE231.out) | exact HB.out)⟩
       ·rw [if_neg c8] at H
        have c8b0 : decide (((rd_T35 l0 x3_1).f1) < ((rd_T35 l0 x3_1).f0)) = false := decide_eq_false c8
        clear c8
        by_cases c11 : ((rd_T35 l0 x3_1).f1) > 1125899906842623
        ·rw [if_pos c11] at H
         have c11b0 : decide (1125899906842623 < ((rd_T35 l0 x3_1).f1)) = true := decide_eq_true c11
         clear c11
         obtain rfl := Option.some.inj H
         have p230 : 0 ≤ (x3_1 : Int) := of_decide_eq_true (by first | (with_reducible assumption) | assumption)
         have q230 : x3_1 < (l0.length : Int) := of_decide_eq_true (by first | (with_reducible assumption) | assumption)
         obtain ⟨ad230, e230, hx230_0, hx230_1, hx230_2, hx230_3⟩ := at_T35 HR0.out x3_1 p230 q230
         cases e230
         replace hx230_0 := (HB.out.cell (World.block_lt_of_cell? w _ hx230_0)).trans hx230_0
         replace hx230_1 := (HB.out.cell (World.block_lt_of_cell? w _ hx230_1)).trans hx230_1
         replace hx230_2 := (HB.out.cell (World.block_lt_of_cell? w _ hx230_2)).trans hx230_2
         replace hx230_3 := (HB.out.cell (World.block_lt_of_cell? w _ hx230_3)).trans hx230_3
         replace p230 := eq_true p230
         replace q230 := eq_true q230
         go_wp2_with (first | ((with_reducible refine gate_dst (N := 4) rfl ?_); refine box_event ?hg (N := 4) ?hd (cs := #[.int .i64 0, .int .i64 0, .int .i64 0, .int .i64 0]) (t := 35) ?hr ?_; (case hd => rfl); (case hg => rfl); (case hr => first | (go_simp; done) | (go_simp; rfl)); intro gb231 hg w12 hbox hb; have n0_ := Aside0.mk (below_step (by repeat (first | (with_reducible first | exact HB.out | apply below_alloc | apply pw_below_drewN | apply below_drew1) | exact HB.out)) hb); have n1_ := Aside0.mk (hbox); have n2_ := Aside0.mk ((by rw [hg]; exact (below_size (by repeat (first | (with_reducible first | exact HB.out | apply below_alloc | apply pw_below_drewN | apply below_drew1) | exact HB.out))) : w.heap.size ≤ gb231)); have n3_ := Aside0.mk ((by rw [hg]; exact (below_size (by repeat (first | (with_reducible first | exact HB.out | apply below_alloc | apply pw_below_drewN | apply below_drew1) | exact HB.out))) : w.heap.size ≤ gb231)); clear HB; have HB := n0_; have BK231 := n1_; have GW231 := n2_; have GE231 := n3_; clear n0_ n1_ n2_ n3_; clear hb hbox hg; have hcz13_0 : w12.cell? ⟨gb231, 0, none⟩ = some (.int .i64 0) := (blk_cell BK231.out 0).trans rfl; have hcz13_1 : w12.cell? ⟨gb231, 1, none⟩ = some (.int .i64 0) := (blk_cell BK231.out 1).trans rfl; have hcz13_2 : w12.cell? ⟨gb231, 2, none⟩ = some (.int .i64 0) := (blk_cell BK231.out 2).trans rfl; have hcz13_3 : w12.cell? ⟨gb231, 3, none⟩ = some (.int .i64 0) := (blk_cell BK231.out 3).trans rfl; have hfz13_0 := blk_frozen BK231.out 0; have hfz13_1 := blk_frozen BK231.out 1; have hfz13_2 := blk_frozen BK231.out 2; have hfz13_3 := blk_frozen BK231.out 3))
         go_ret
         exact ⟨by first | rfl | (simp [errW_none, errW_some] <;> rfl) | (simp [*, errW_none, errW_some] <;> rfl), by repeat (first | (with_reducible first | exact HB.out | apply below_alloc | apply pw_below_drewN | apply below_drew1 | refine below_set ?_ GE231.out) | exact HB.out)⟩
        ·rw [if_neg c11] at H
         have c11b0 : decide (1125899906842623 < ((rd_T35 l0 x3_1).f1)) = false := decide_eq_false c11
         clear c11
         by_cases c14 : ((rd_T35 l0 x3_1).f2) < (-1)
         ·rw [if_pos c14] at H
          have c14b0 : decide (((rd_T35 l0 x3_1).f2) < (-1)) = true := decide_eq_true c14
          clear c14
          obtain rfl := Option.some.inj H
          have p230 : 0 ≤ (x3_1 : Int) := of_decide_eq_true (by first | (with_reducible assumption) | assumption)
          have q230 : x3_1 < (l0.length : Int) := of_decide_eq_true (by first | (with_reducible assumption) | assumption)
          obtain ⟨ad230, e230, hx230_0, hx230_1, hx230_2, hx230_3⟩ := at_T35 HR0.out x3_1 p230 q230
          cases e230
          replace hx230_0 := (HB.out.cell (World.block_lt_of_cell? w _ hx230_0)).trans hx230_0
          replace hx230_1 := (HB.out.cell (World.block_lt_of_cell? w _ hx230_1)).trans hx230_1
          replace hx230_2 := (HB.out.cell (World.block_lt_of_cell? w _ hx230_2)).trans hx230_2
          replace hx230_3 := (HB.out.cell (World.block_lt_of_cell? w _ hx230_3)).trans hx230_3
          replace p230 := eq_true p230
          replace q230 := eq_true q230
          go_wp2_with (first | ((with_reducible refine gate_dst (N := 4) rfl ?_); refine box_event ?hg (N := 4) ?hd (cs := #[.int .i64 0, .int .i64 0, .int .i64 0, .int .i64 0]) (t := 35) ?hr ?_; (case hd => rfl); (case hg => rfl); (case hr => first | (go_simp; done) | (go_simp; rfl)); intro gb231 hg w15 hbox hb; have n0_ := Aside0.mk (below_step (by repeat (first | (with_reducible first | exact HB.out | apply below_alloc | apply pw_below_drewN | apply below_drew1) | exact HB.out)) hb); have n1_ := Aside0.mk (hbox); have n2_ := Aside0.mk ((by rw [hg]; exact (below_size (by repeat (first | (with_reducible first | exact HB.out | apply below_alloc | apply pw_below_drewN | apply below_drew1) | exact HB.out))) : w.heap.size ≤ gb231)); have n3_ := Aside0.mk ((by rw [hg]; exact (below_size (by repeat (first | (with_reducible first | exact HB.out | apply below_alloc | apply pw_below_drewN | apply below_drew1) | exact HB.out))) : w.heap.size ≤ gb231)); clear HB; have HB := n0_; have BK231 := n1_; have GW231 := n2_; have GE231 := n3_; clear n0_ n1_ n2_ n3_; clear hb hbox hg; have hcz16_0 : w15.cell? ⟨gb231, 0, none⟩ = some (.int .i64 0) := (blk_cell BK231.out 0).trans rfl; have hcz16_1 : w15.cell? ⟨gb231, 1, none⟩ = some (.int .i64 0) := (blk_cell BK231.out 1).trans rfl; have hcz16_2 : w15.cell? ⟨gb231, 2, none⟩ = some (.int .i64 0) := (blk_cell BK231.out 2).trans rfl; have hcz16_3 : w15.cell? ⟨gb231, 3, none⟩ = some (.int .i64 0) := (blk_cell BK231.out 3).trans rfl; have hfz16_0 := blk_frozen BK231.out 0; have hfz16_1 := blk_frozen BK231.out 1; have hfz16_2 := blk_frozen BK231.out 2; have hfz16_3 := blk_frozen BK231.out 3))
          go_ret
          exact ⟨by first | rfl | (simp [errW_none, errW_some] <;> rfl) | (simp [*, errW_none, errW_some] <;> rfl), by repeat (first | (with_reducible first | exact HB.out | apply below_alloc | apply pw_below_drewN | apply below_drew1 | refine below_set ?_ GE231.out) | exact HB.out)⟩
         ·rw [if_neg c14] at H
          have c14b0 : decide (((rd_T35 l0 x3_1).f2) < (-1)) = false := decide_eq_false c14
          clear c14
          by_cases c17 : ((rd_T35 l0 x3_1).f2) > 10000000
          ·rw [if_pos c17] at H
           have c17b0 : decide (10000000 < ((rd_T35 l0 x3_1).f2)) = true := decide_eq_true c17
           clear c17
           obtain rfl := Option.some.inj H
           have p230 : 0 ≤ (x3_1 : Int) := of_decide_eq_true (by first | (with_reducible assumption) | assumption)
           have q230 : x3_1 < (l0.length : Int) := of_decide_eq_true (by first | (with_reducible assumption) | assumption)
           obtain ⟨ad230, e230, hx230_0, hx230_1, hx230_2, hx230_3⟩ := at_T35 HR0.out x3_1 p230 q230
           cases e230
           replace hx230_0 := (HB.out.cell (World.block_lt_of_cell? w _ hx230_0)).trans hx230_0
           replace hx230_1 := (HB.out.cell (World.block_lt_of_cell? w _ hx230_1)).trans hx230_1
           replace hx230_2 := (HB.out.cell (World.block_lt_of_cell? w _ hx230_2)).trans hx230_2
           replace hx230_3 := (HB.out.cell (World.block_lt_of_cell? w _ hx230_3)).trans hx230_3
           replace p230 := eq_true p230
           replace q230 := eq_true q230
           go_wp2_with (first | ((with_reducible refine gate_dst (N := 4) rfl ?_); refine box_event ?hg (N := 4) ?hd (cs := #[.int .i64 0, .int .i64 0, .int .i64 0, .int .i64 0]) (t := 35) ?hr ?_; (case hd => rfl); (case hg => rfl); (case hr => first | (go_simp; done) | (go_simp; rfl)); intro gb231 hg w18 hbox hb; have n0_ := Aside0.mk (below_step (by repeat (first | (with_reducible first | exact HB.out | apply below_alloc | apply pw_below_drewN | apply below_drew1) | exact HB.out)) hb); have n1_ := Aside0.mk (hbox); have n2_ := Aside0.mk ((by rw [hg]; exact (below_size (by repeat (first | (with_reducible first | exact HB.out | apply below_alloc | apply pw_below_drewN | apply below_drew1) | exact HB.out))) : w.heap.size ≤ gb231)); have n3_ := Aside0.mk ((by rw [hg]; exact (below_size (by repeat (first | (with_reducible first | exact HB.out | apply below_alloc | apply pw_below_drewN | apply below_drew1) | exact HB.out))) : w.heap.size ≤ gb231)); clear HB; have HB := n0_; have BK231 := n1_; have GW231 := n2_; have GE231 := n3_; clear n0_ n1_ n2_ n3_; clear hb hbox hg; have hcz19_0 : w18.cell? ⟨gb231, 0, none⟩ = some (.int .i64 0) := (blk_cell BK231.out 0).trans rfl; have hcz19_1 : w18.cell? ⟨gb231, 1, none⟩ = some (.int .i64 0) := (blk_cell BK231.out 1).trans rfl; have hcz19_2 : w18.cell? ⟨gb231, 2, none⟩ = some (.int .i64 0) := (blk_cell BK231.out 2).trans rfl; have hcz19_3 : w18.cell? ⟨gb231, 3, none⟩ = some (.int .i64 0) := (blk_cell BK231.out 3).trans rfl; have hfz19_0 := blk_frozen BK231.out 0; have hfz19_1 := blk_frozen BK231.out 1; have hfz19_2 := blk_frozen BK231.out 2; have hfz19_3 := blk_frozen BK231.out 3))
           go_ret
           exact ⟨by first | rfl | (simp [errW_none, errW_some] <;> rfl) | (simp [*, errW_none, errW_some] <;> rfl), by repeat (first | (with_reducible first | exact HB.out | apply below_alloc | apply pw_below_drewN | apply below_drew1 | refine below_set ?_ GE231.out) | exact HB.out)⟩
          ·rw [if_neg c17] at H
           have c17b0 : decide (10000000 < ((rd_T35 l0 x3_1).f2)) = false := decide_eq_false c17
           clear c17
           by_cases c20 : ((rd_T35 l0 x3_1).f3) < (-1)
           ·rw [if_pos c20] at H
            have c20b0 : decide (((rd_T35 l0 x3_1).f3) < (-1)) = true := decide_eq_true c20
            clear c20
            obtain rfl := Option.some.inj H
            have p230 : 0 ≤ (x3_1 : Int) := of_decide_eq_true (by first | (with_reducible assumption) | assumption)
            have q230 : x3_1 < (l0.length : Int) := of_decide_eq_true (by first | (with_reducible assumption) | assumption)
            obtain ⟨ad230, e230, hx230_0, hx230_1, hx230_2, hx230_3⟩ := at_T35 HR0.out x3_1 p230 q230
            cases e230
            replace hx230_0 := (HB.out.cell (World.block_lt_of_cell? w _ hx230_0)).trans hx230_0
            replace hx230_1 := (HB.out.cell (World.block_lt_of_cell? w _ hx230_1)).trans hx230_1
            replace hx230_2 := (HB.out.cell (World.block_lt_of_cell? w _ hx230_2)).trans hx230_2
            replace hx230_3 := (HB.out.cell (World.block_lt_of_cell? w _ hx230_3)).trans hx230_3
            replace p230 := eq_true p230
            replace q230 := eq_true q230
            go_wp2_with (first | ((with_reducible refine gate_dst (N := 4) rfl ?_); refine box_event ?hg (N := 4) ?hd (cs := #[.int .i64 0, .int .i64 0, .int .i64 0, .int .i64 0]) (t := 35) ?hr ?_; (case hd => rfl); (case hg => rfl); (case hr => first | (go_simp; done) | (go_simp; rfl)); intro gb231 hg w21 hbox hb; have n0_ := Aside0.mk (below_step (by repeat (first | (with_reducible first | exact HB.out | apply below_alloc | apply pw_below_drewN | apply below_drew1) | exact HB.out)) hb); have n1_ := Aside0.mk (hbox); have n2_ := Aside0.mk ((by rw [hg]; exact (below_size (by repeat (first | (with_reducible first | exact HB.out | apply below_alloc | apply pw_below_drewN | apply below_drew1) | exact HB.out))) : w.heap.size ≤ gb231)); have n3_ := Aside0.mk ((by rw [hg]; exact (below_size (by repeat (first | (with_reducible first | exact HB.out | apply below_alloc | apply pw_below_drewN | apply below_drew1) | exact HB.out))) : w.heap.size ≤ gb231)); clear HB; have HB := n0_; have BK231 := n1_; have GW231 := n2_; have GE231 := n3_; clear n0_ n1_ n2_ n3_; clear hb hbox hg; have hcz22_0 : w21.cell? ⟨gb231, 0, none⟩ = some (.int .i64 0) := (blk_cell BK231.out 0).trans rfl; have hcz22_1 : w21.cell? ⟨gb231, 1, none⟩ = some (.int .i64 0) := (blk_cell BK231.out 1).trans rfl; have hcz22_2 : w21.cell? ⟨gb231, 2, none⟩ = some (.int .i64 0) := (blk_cell BK231.out 2).trans rfl; have hcz22_3 : w21.cell? ⟨gb231, 3, none⟩ = some (.int .i64 0) := (blk_cell BK231.out 3).trans rfl; have hfz22_0 := blk_frozen BK231.out 0; have hfz22_1 := blk_frozen BK231.out 1; have hfz22_2 := blk_frozen BK231.out 2; have hfz22_3 := blk_frozen BK231.out 3))
            go_ret
            exact ⟨by first | rfl | (simp [errW_none, errW_some] <;> rfl) | (simp [*, errW_none, errW_some] <;> rfl), by repeat (first | (with_reducible first | exact HB.out | apply below_alloc | apply pw_below_drewN | apply below_drew1 | refine below_set ?_ GE231.out) | exact HB.out)⟩
           ·rw [if_neg c20] at H
            have c20b0 : decide (((rd_T35 l0 x3_1).f3) < (-1)) = false := decide_eq_false c20
            clear c20
            by_cases c23 : ((rd_T35 l0 x3_1).f3) > 1073741824
            ·rw [if_pos c23] at H
             have c23b0 : decide (1073741824 < ((rd_T35 l0 x3_1).f3)) = true := decide_eq_true c23
             clear c23
             obtain rfl := Option.some.inj H
             have p230 : 0 ≤ (x3_1 : Int) := of_decide_eq_true (by first | (with_reducible assumption) | assumption)
             have q230 : x3_1 < (l0.length : Int) := of_decide_eq_true (by first | (with_reducible assumption) | assumption)
             obtain ⟨ad230, e230, hx230_0, hx230_1, hx230_2, hx230_3⟩ := at_T35 HR0.out x3_1 p230 q230
             cases e230
             replace hx230_0 := (HB.out.cell (World.block_lt_of_cell? w _ hx230_0)).trans hx230_0
             replace hx230_1 := (HB.out.cell (World.block_lt_of_cell? w _ hx230_1)).trans hx230_1
             replace hx230_2 := (HB.out.cell (World.block_lt_of_cell? w _ hx230_2)).trans hx230_2
             replace hx230_3 := (HB.out.cell (World.block_lt_of_cell? w _ hx230_3)).trans hx230_3
             replace p230 := eq_true p230
             replace q230 := eq_true q230
             go_wp2_with (first | ((with_reducible refine gate_dst (N := 4) rfl ?_); refine box_event ?hg (N := 4) ?hd (cs := #[.int .i64 0, .int .i64 0, .int .i64 0, .int .i64 0]) (t := 35) ?hr ?_; (case hd => rfl); (case hg => rfl); (case hr => first | (go_simp; done) | (go_simp; rfl)); intro gb231 hg w24 hbox hb; have n0_ := Aside0.mk (below_step (by repeat (first | (with_reducible first | exact HB.out | apply below_alloc | apply pw_below_drewN | apply below_drew1) | exact HB.out)) hb); have n1_ := Aside0.mk (hbox); have n2_ := Aside0.mk ((by rw [hg]; exact (below_size (by repeat (first | (with_reducible first | exact HB.out | apply below_alloc | apply pw_below_drewN | apply below_drew1) | exact HB.out))) : w.heap.size ≤ gb231)); have n3_ := Aside0.mk ((by rw [hg]; exact (below_size (by repeat (first | (with_reducible first | exact HB.out | apply below_alloc | apply pw_below_drewN | apply below_drew1) | exact HB.out))) : w.heap.size ≤ gb231)); clear HB; have HB := n0_; have BK231 := n1_; have GW231 := n2_; have GE231 := n3_; clear n0_ n1_ n2_ n3_; clear hb hbox hg; have hcz25_0 : w24.cell? ⟨gb231, 0, none⟩ = some (.int .i64 0) := (blk_cell BK231.out 0).trans rfl; have hcz25_1 : w24.cell? ⟨gb231, 1, none⟩ = some (.int .i64 0) := (blk_cell BK231.out 1).trans rfl; have hcz25_2 : w24.cell? ⟨gb231, 2, none⟩ = some (.int .i64 0) := (blk_cell BK231.out 2).trans rfl; have hcz25_3 : w24.cell? ⟨gb231, 3, none⟩ = some (.int .i64 0) := (blk_cell BK231.out 3).trans rfl; have hfz25_0 := blk_frozen BK231.out 0; have hfz25_1 := blk_frozen BK231.out 1; have hfz25_2 := blk_frozen BK231.out 2; have hfz25_3 := blk_frozen BK231.out 3))
             go_ret
             exact ⟨by first | rfl | (simp [errW_none, errW_some] <;> rfl) | (simp [*, errW_none, errW_some] <;> rfl), by repeat (first | (with_reducible first | exact HB.out | apply below_alloc | apply pw_below_drewN | apply below_drew1 | refine below_set ?_ GE231.out) | exact HB.out)⟩
            ·rw [if_neg c23] at H
             have c23b0 : decide (1073741824 < ((rd_T35 l0 x3_1).f3)) = false := decide_eq_false c23
             clear c23
             by_cases c26 : ((rd_T35 l0 x3_1).f2) ≥ 0
             ·rw [if_pos c26] at H
              have c26b0 : decide (0 ≤ ((rd_T35 l0 x3_1).f2)) = true := decide_eq_true c26
              clear c26
              by_cases c27 : ((rd_T35 l0 x3_1).f3) ≥ 0
              ·rw [if_pos c27] at H
               have c27b0 : decide (0 ≤ ((rd_T35 l0 x3_1).f3)) = true := decide_eq_true c27
               clear c27
               obtain rfl := Option.some.inj H
               have p230 : 0 ≤ (x3_1 : Int) := of_decide_eq_true (by first | (with_reducible assumption) | assumption)
               have q230 : x3_1 < (l0.length : Int) := of_decide_eq_true (by first | (with_reducible assumption) | assumption)
               obtain ⟨ad230, e230, hx230_0, hx230_1, hx230_2, hx230_3⟩ := at_T35 HR0.out x3_1 p230 q230
               cases e230
               replace hx230_0 := (HB.out.cell (World.block_lt_of_cell? w _ hx230_0)).trans hx230_0
               replace hx230_1 := (HB.out.cell (World.block_lt_of_cell? w _ hx230_1)).trans hx230_1
               replace hx230_2 := (HB.out.cell (World.block_lt_of_cell? w _ hx230_2)).trans hx230_2
               replace hx230_3 := (HB.out.cell (World.block_lt_of_cell? w _ hx230_3)).trans hx230_3
               replace p230 := eq_true p230
               replace q230 := eq_true q230
               go_wp2_with (first | ((with_reducible refine gate_dst (N := 4) rfl ?_); refine box_event ?hg (N := 4) ?hd (cs := #[.int .i64 0, .int .i64 0, .int .i64 0, .int .i64 0]) (t := 35) ?hr ?_; (case hd => rfl); (case hg => rfl); (case hr => first | (go_simp; done) | (go_simp; rfl)); intro gb231 hg w28 hbox hb; have n0_ := Aside0.mk (below_step (by repeat (first | (with_reducible first | exact HB.out | apply below_alloc | apply pw_below_drewN | apply below_drew1) | exact HB.out)) hb); have n1_ := Aside0.mk (hbox); have n2_ := Aside0.mk ((by rw [hg]; exact (below_size (by repeat (first | (with_reducible first | exact HB.out | apply below_alloc | apply pw_below_drewN | apply below_drew1) | exact HB.out))) : w.heap.size ≤ gb231)); have n3_ := Aside0.mk ((by rw [hg]; exact (below_size (by repeat (first | (with_reducible first | exact HB.out | apply below_alloc | apply pw_below_drewN | apply below_drew1) | exact HB.out))) : w.heap.size ≤ gb231)); clear HB; have HB := n0_; have BK231 := n1_; have GW231 := n2_; have GE231 := n3_; clear n0_ n1_ n2_ n3_; clear hb hbox hg; have hcz29_0 : w28.cell? ⟨gb231, 0, none⟩ = some (.int .i64 0) := (blk_cell BK231.out 0).trans rfl; have hcz29_1 : w28.cell? ⟨gb231, 1, none⟩ = some (.int .i64 0) := (blk_cell BK231.out 1).trans rfl; have hcz29_2 : w28.cell? ⟨gb231, 2, none⟩ = some (.int .i64 0) := (blk_cell BK231.out 2).trans rfl; have hcz29_3 : w28.cell? ⟨gb231, 3, none⟩ = some (.int .i64 0) := (blk_cell BK231.out 3).trans rfl; have hfz29_0 := blk_frozen BK231.out 0; have hfz29_1 := blk_frozen BK231.out 1; have hfz29_2 := blk_frozen BK231.out 2; have hfz29_3 := blk_frozen BK231.out 3))
               go_ret
               exact ⟨by first | rfl | (simp [errW_none, errW_some] <;> rfl) | (simp [*, errW_none, errW_some] <;> rfl), by repeat (first | (with_reducible first | exact HB.out | apply below_alloc | apply pw_below_drewN | apply below_drew1 | refine below_set ?_ GE231.out) | exact HB.out)⟩
              ·rw [if_neg c27] at H
               have c27b0 : decide (0 ≤ ((rd_T35 l0 x3_1).f3)) = false := decide_eq_false c27
               clear c27
               have H' := Aside0.mk H
               clear H
               have p230 : 0 ≤ (x3_1 : Int) := of_decide_eq_true (by first | (with_reducible assumption) | assumption)
               have q230 : x3_1 < (l0.length : Int) := of_decide_eq_true (by first | (with_reducible assumption) | assumption)
               obtain ⟨ad230, e230, hx230_0, hx230_1, hx230_2, hx230_3⟩ := at_T35 HR0.out x3_1 p230 q230
               cases e230
               replace hx230_0 := (HB.out.cell (World.block_lt_of_cell? w _ hx230_0)).trans hx230_0
               replace hx230_1 := (HB.out.cell (World.block_lt_of_cell? w _ hx230_1)).trans hx230_1
               replace hx230_2 := (HB.out.cell (World.block_lt_of_cell? w _ hx230_2)).trans hx230_2
               replace hx230_3 := (HB.out.cell (World.block_lt_of_cell? w _ hx230_3)).trans hx230_3
               replace p230 := eq_true p230
               replace q230 := eq_true q230
               go_wp2_with (first | ((with_reducible refine gate_dst (N := 4) rfl ?_); refine box_event ?hg (N := 4) ?hd (cs := #[.int .i64 0, .int .i64 0, .int .i64 0, .int .i64 0]) (t := 35) ?hr ?_; (case hd => rfl); (case hg => rfl); (case hr => first | (go_simp; done) | (go_simp; rfl)); intro gb231 hg w30 hbox hb; have n0_ := Aside0.mk (below_step (by repeat (first | (with_reducible first | exact HB.out | apply below_alloc | apply pw_below_drewN | apply below_drew1) | exact HB.out)) hb); have n1_ := Aside0.mk (hbox); have n2_ := Aside0.mk ((by rw [hg]; exact (below_size (by repeat (first | (with_reducible first | exact HB.out | apply below_alloc | apply pw_below_drewN | apply below_drew1) | exact HB.out))) : w.heap.size ≤ gb231)); have n3_ := Aside0.mk ((by rw [hg]; exact (below_size (by repeat (first | (with_reducible first | exact HB.out | apply below_alloc | apply pw_below_drewN | apply below_drew1) | exact HB.out))) : w.heap.size ≤ gb231)); clear HB; have HB := n0_; have BK231 := n1_; have GW231 := n2_; have GE231 := n3_; clear n0_ n1_ n2_ n3_; clear hb hbox hg; have hcz31_0 : w30.cell? ⟨gb231, 0, none⟩ = some (.int .i64 0) := (blk_cell BK231.out 0).trans rfl; have hcz31_1 : w30.cell? ⟨gb231, 1, none⟩ = some (.int .i64 0) := (blk_cell BK231.out 1).trans rfl; have hcz31_2 : w30.cell? ⟨gb231, 2, none⟩ = some (.int .i64 0) := (blk_cell BK231.out 2).trans rfl; have hcz31_3 : w30.cell? ⟨gb231, 3, none⟩ = some (.int .i64 0) := (blk_cell BK231.out 3).trans rfl; have hfz31_0 := blk_frozen BK231.out 0; have hfz31_1 := blk_frozen BK231.out 1; have hfz31_2 := blk_frozen BK231.out 2; have hfz31_3 := blk_frozen BK231.out 3))
               go_roundg k1
               case measure => have := HK1.out; omega
               case rel => exact ⟨(wrap64 (x3_1 + 1)), (by first | rfl | (simp; done) | (simp [*]; done)), H', ⟨by have := HK1.out; omega⟩, ⟨by repeat (first | (with_reducible first | exact HB.out | apply below_alloc | apply pw_below_drewN | apply below_drew1 | refine below_set ?_ GE231.out) | exact HB.out)⟩⟩
             ·rw [if_neg c26] at H
              have c26b0 : decide (0 ≤ ((rd_T35 l0 x3_1).f2)) = false := decide_eq_false c26
              clear c26
              have H' := Aside0.mk H
              clear H
              have p230 : 0 ≤ (x3_1 : Int) := of_decide_eq_true (by first | (with_reducible assumption) | assumption)
              have q230 : x3_1 < (l0.length : Int) := of_decide_eq_true (by first | (with_reducible assumption) | assumption)
              obtain ⟨ad230, e230, hx230_0, hx230_1, hx230_2, hx230_3⟩ := at_T35 HR0.out x3_1 p230 q230
              cases e230
              replace hx230_0 := (HB.out.cell (World.block_lt_of_cell? w _ hx230_0)).trans hx230_0
              replace hx230_1 := (HB.out.cell (World.block_lt_of_cell? w _ hx230_1)).trans hx230_1
              replace hx230_2 := (HB.out.cell (World.block_lt_of_cell? w _ hx230_2)).trans hx230_2
              replace hx230_3 := (HB.out.cell (World.block_lt_of_cell? w _ hx230_3)).trans hx230_3
              replace p230 := eq_true p230
              replace q230 := eq_true q230
              go_wp2_with (first | ((with_reducible refine gate_dst (N := 4) rfl ?_); refine box_event ?hg (N := 4) ?hd (cs := #[.int .i64 0, .int .i64 0, .int .i64 0, .int .i64 0]) (t := 35) ?hr ?_; (case hd => rfl); (case hg => rfl); (case hr => first | (go_simp; done) | (go_simp; rfl)); intro gb231 hg w32 hbox hb; have n0_ := Aside0.mk (below_step (by repeat (first | (with_reducible first | exact HB.out | apply below_alloc | apply pw_below_drewN | apply below_drew1) | exact HB.out)) hb); have n1_ := Aside0.mk (hbox); have n2_ := Aside0.mk ((by rw [hg]; exact (below_size (by repeat (first | (with_reducible first | exact HB.out | apply below_alloc | apply pw_below_drewN | apply below_drew1) | exact HB.out))) : w.heap.size ≤ gb231)); have n3_ := Aside0.mk ((by rw [hg]; exact (below_size (by repeat (first | (with_reducible first | exact HB.out | apply below_alloc | apply pw_below_drewN | apply below_drew1) | exact HB.out))) : w.heap.size ≤ gb231)); clear HB; have HB := n0_; have BK231 := n1_; have GW231 := n2_; have GE231 := n3_; clear n0_ n1_ n2_ n3_; clear hb hbox hg; have hcz33_0 : w32.cell? ⟨gb231, 0, none⟩ = some (.int .i64 0) := (blk_cell BK231.out 0).trans rfl; have hcz33_1 : w32.cell? ⟨gb231, 1, none⟩ = some (.int .i64 0) := (blk_cell BK231.out 1).trans rfl; have hcz33_2 : w32.cell? ⟨gb231, 2, none⟩ = some (.int .i64 0) := (blk_cell BK231.out 2).trans rfl; have hcz33_3 : w32.cell? ⟨gb231, 3, none⟩ = some (.int .i64 0) := (blk_cell BK231.out 3).trans rfl; have hfz33_0 := blk_frozen BK231.out 0; have hfz33_1 := blk_frozen BK231.out 1; have hfz33_2 := blk_frozen BK231.out 2; have hfz33_3 := blk_frozen BK231.out 3))
              go_roundg k1
              case measure => have := HK1.out; omega
              case rel => exact ⟨(wrap64 (x3_1 + 1)), (by first | rfl | (simp; done) | (simp [*]; done)), H', ⟨by have := HK1.out; omega⟩, ⟨by repeat (first | (with_reducible first | exact HB.out | apply below_alloc | apply pw_below_drewN | apply below_drew1 | refine below_set ?_ GE231.out) | exact HB.out)⟩⟩
     ·rw [if_neg c4] at H
      exact absurd H (by simp)
    ·rw [if_neg c3] at H
     have c3b0 : decide (x3_1 < (l0.length : Int)) = false := decide_eq_false c3
     clear c3
     obtain rfl := Option.some.inj H
     go_wp2
     go_ret
     exact ⟨by first | rfl | (simp [errW_none, errW_some] <;> rfl) | (simp [*, errW_none, errW_some] <;> rfl), by repeat (first | (with_reducible first | exact HB.out | apply below_alloc | apply pw_below_drewN | apply below_drew1) | exact HB.out)⟩

end Go.Proofs.Ytilfgmclhoidiaa.PA
