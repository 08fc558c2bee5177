-- MADE by wip/tools/xprint.py of this repo: the kit's print.py, turned by this session, and texts by hand
import Derived.Test.YtacigmhhegaieaaPAx0
import Derived.Test.YtacigmhhegaieaaPAx2
import Derived.Test.YtacigmhhegaieaaPAx41
import Derived.Test.YtacigmhhegaieaaPAx43
namespace Go.Proofs.Ytacigmhhegaieaa.PA
open Go.RowKit Go.Proofs.YtacigmhhegaieaaW.PrintWords Go.Proofs.YtacigmhhegaieaaW.PrintLast Go.Proofs.YtacigmhhegaieaaW.PrintMore
attribute [local go_sem] max2_int min2_int max_two min_two max_three min_three max_four min_four   -- for this text's walks alone
set_option linter.unusedVariables false
set_option linter.unusedSimpArgs false

/-! ### purflinglaw16_shown: function 23 -/
def purflinglaw16_shown.f (k : Nat)  : Option (Bool) := (heights_Least.f (([(-1), (-1)] : List Int)) (([(⟨0, 0, 0, 1, 1⟩ : S33), (⟨0, 0, 0, 2, 1⟩ : S33)] : List (S33))) (([10, 40] : List Int)) 0).bind fun bt395 => ((heights_Stretch.f (([10, 30] : List Int)) (([(-1), (-1)] : List Int)) 60).bind fun bt405 => ((heights_Stretch.f ([] : List Int) ([] : List Int) 5).bind fun bt409 => (if bt395.2 = 0 then (if bt405.2 = 0 then (if bt409.2 = 160 then ((purflingref01_Same.f k bt395.1 (([40, 0] : List Int))).bind fun t416 => (if t416 = true then ((purflingref01_Same.f k bt405.1 (([15, 45] : List Int))).bind fun t420 => (some t420)) else (some false))) else (some false)) else (some false)) else (some false))))
theorem purflinglaw16_shown.mono : ∀ k, LeO (purflinglaw16_shown.f k ) (purflinglaw16_shown.f (k + 1) ) := by
 intro  k
 unfold purflinglaw16_shown.f
 repeat' first
   | (with_reducible exact purflingref01_Same.mono _ _ _)
   | (with_reducible exact LeO.refl _)
   | (with_reducible exact LeO.none _)
   | (with_reducible refine LeO.ite ?_ ?_)
   | (with_reducible refine LeO.bind ?_ (fun _ => ?_))
   | exact purflingref01_Same.mono _ _ _
   | exact LeO.none _
   | refine LeO.ite ?_ ?_
   | refine LeO.bind ?_ (fun _ => ?_)
set_option maxHeartbeats 8000000 in
set_option maxRecDepth 100000 in
theorem purflinglaw16_shown.true_ : purflinglaw16_shown.f 100 = some true := by decide +kernel
set_option maxHeartbeats 8000000 in
set_option maxRecDepth 100000 in
theorem purflinglaw16_shown.calls (k : Nat)  (r : Bool) (w : World) (h : purflinglaw16_shown.f k  = some r) :
  Calls Try.prog 23 #[] w fun e w' => e = .returned (.bool r) ∧ Below w.heap.size w w' := by
 have HR_ : Aside0 (r = true) := Aside0.mk <| by
  obtain ⟨K1, h1⟩ := Ev.of purflinglaw16_shown.mono h
  obtain ⟨K2, h2⟩ := Ev.of purflinglaw16_shown.mono purflinglaw16_shown.true_
  have h3 := (h1 (K1 + K2) (by omega)).symm.trans (h2 (K1 + K2) (by omega))
  simpa using h3
 have hu33 := Try.underlying33
 have HB := Aside0.mk (Below.refl w.heap.size w)
 have H : ((heights_Least.f (([(-1), (-1)] : List Int)) (([(⟨0, 0, 0, 1, 1⟩ : S33), (⟨0, 0, 0, 2, 1⟩ : S33)] : List (S33))) (([10, 40] : List Int)) 0).bind fun bt395 => ((heights_Stretch.f (([10, 30] : List Int)) (([(-1), (-1)] : List Int)) 60).bind fun bt405 => ((heights_Stretch.f ([] : List Int) ([] : List Int) 5).bind fun bt409 => (if bt395.2 = 0 then (if bt405.2 = 0 then (if bt409.2 = 160 then ((purflingref01_Same.f k bt395.1 (([40, 0] : List Int))).bind fun t416 => (if t416 = true then ((purflingref01_Same.f k bt405.1 (([15, 45] : List Int))).bind fun t420 => (some t420)) else (some false))) else (some false)) else (some false)) else (some false))))) = some r := h
 clear h
 obtain ⟨y386, hy386⟩ : ∃ y_ : List Int, y_ = (([(-1), (-1)] : List Int)) := ⟨_, rfl⟩
 replace H : ((heights_Least.f y386 (([(⟨0, 0, 0, 1, 1⟩ : S33), (⟨0, 0, 0, 2, 1⟩ : S33)] : List (S33))) (([10, 40] : List Int)) 0).bind fun bt395 => ((heights_Stretch.f (([10, 30] : List Int)) (([(-1), (-1)] : List Int)) 60).bind fun bt405 => ((heights_Stretch.f ([] : List Int) ([] : List Int) 5).bind fun bt409 => (if bt395.2 = 0 then (if bt405.2 = 0 then (if bt409.2 = 160 then ((purflingref01_Same.f k bt395.1 (([40, 0] : List Int))).bind fun t416 => (if t416 = true then ((purflingref01_Same.f k bt405.1 (([15, 45] : List Int))).bind fun t420 => (some t420)) else (some false))) else (some false)) else (some false)) else (some false))))) = some r := by first | (rw [hy386]; with_reducible exact H) | (have H2_ := (Option.bind_some _ _).symm.trans H; rw [hy386]; with_reducible exact H2_) | (have H2_ := (Option.bind_some _ _).symm.trans H; with_reducible exact H2_) | with_reducible exact H | (rw [hy386]; exact H) | exact H
 have Ny386 := Aside0.mk hy386
 clear hy386
 obtain ⟨y389, hy389⟩ : ∃ y_ : List (S33), y_ = (([(⟨0, 0, 0, 1, 1⟩ : S33), (⟨0, 0, 0, 2, 1⟩ : S33)] : List (S33))) := ⟨_, rfl⟩
 replace H : ((heights_Least.f y386 y389 (([10, 40] : List Int)) 0).bind fun bt395 => ((heights_Stretch.f (([10, 30] : List Int)) (([(-1), (-1)] : List Int)) 60).bind fun bt405 => ((heights_Stretch.f ([] : List Int) ([] : List Int) 5).bind fun bt409 => (if bt395.2 = 0 then (if bt405.2 = 0 then (if bt409.2 = 160 then ((purflingref01_Same.f k bt395.1 (([40, 0] : List Int))).bind fun t416 => (if t416 = true then ((purflingref01_Same.f k bt405.1 (([15, 45] : List Int))).bind fun t420 => (some t420)) else (some false))) else (some false)) else (some false)) else (some false))))) = some r := by first | (rw [hy389]; with_reducible exact H) | (have H2_ := (Option.bind_some _ _).symm.trans H; rw [hy389]; with_reducible exact H2_) | (have H2_ := (Option.bind_some _ _).symm.trans H; with_reducible exact H2_) | with_reducible exact H | (rw [hy389]; exact H) | exact H
 have Ny389 := Aside0.mk hy389
 clear hy389
 obtain ⟨y392, hy392⟩ : ∃ y_ : List Int, y_ = (([10, 40] : List Int)) := ⟨_, rfl⟩
 replace H : ((heights_Least.f y386 y389 y392 0).bind fun bt395 => ((heights_Stretch.f (([10, 30] : List Int)) (([(-1), (-1)] : List Int)) 60).bind fun bt405 => ((heights_Stretch.f ([] : List Int) ([] : List Int) 5).bind fun bt409 => (if bt395.2 = 0 then (if bt405.2 = 0 then (if bt409.2 = 160 then ((purflingref01_Same.f k bt395.1 (([40, 0] : List Int))).bind fun t416 => (if t416 = true then ((purflingref01_Same.f k bt405.1 (([15, 45] : List Int))).bind fun t420 => (some t420)) else (some false))) else (some false)) else (some false)) else (some false))))) = some r := by first | (rw [hy392]; with_reducible exact H) | (have H2_ := (Option.bind_some _ _).symm.trans H; rw [hy392]; with_reducible exact H2_) | (have H2_ := (Option.bind_some _ _).symm.trans H; with_reducible exact H2_) | with_reducible exact H | (rw [hy392]; exact H) | exact H
 have Ny392 := Aside0.mk hy392
 clear hy392
 replace H := Option.bind_eq_some_iff.mp H
 obtain ⟨⟨t395, t396⟩, A10, H⟩ := H
 replace H : ((heights_Stretch.f (([10, 30] : List Int)) (([(-1), (-1)] : List Int)) 60).bind fun bt405 => ((heights_Stretch.f ([] : List Int) ([] : List Int) 5).bind fun bt409 => (if t396 = 0 then (if bt405.2 = 0 then (if bt409.2 = 160 then ((purflingref01_Same.f k t395 (([40, 0] : List Int))).bind fun t416 => (if t416 = true then ((purflingref01_Same.f k bt405.1 (([15, 45] : List Int))).bind fun t420 => (some t420)) else (some false))) else (some false)) else (some false)) else (some false)))) = some r := H
 have A1 := Aside0.mk A10
 clear A10
 obtain ⟨y399, hy399⟩ : ∃ y_ : List Int, y_ = (([10, 30] : List Int)) := ⟨_, rfl⟩
 replace H : ((heights_Stretch.f y399 (([(-1), (-1)] : List Int)) 60).bind fun bt405 => ((heights_Stretch.f ([] : List Int) ([] : List Int) 5).bind fun bt409 => (if t396 = 0 then (if bt405.2 = 0 then (if bt409.2 = 160 then ((purflingref01_Same.f k t395 (([40, 0] : List Int))).bind fun t416 => (if t416 = true then ((purflingref01_Same.f k bt405.1 (([15, 45] : List Int))).bind fun t420 => (some t420)) else (some false))) else (some false)) else (some false)) else (some false)))) = some r := by first | (rw [hy399]; with_reducible exact H) | (have H2_ := (Option.bind_some _ _).symm.trans H; rw [hy399]; with_reducible exact H2_) | (have H2_ := (Option.bind_some _ _).symm.trans H; with_reducible exact H2_) | with_reducible exact H | (rw [hy399]; exact H) | exact H
 have Ny399 := Aside0.mk hy399
 clear hy399
 obtain ⟨y402, hy402⟩ : ∃ y_ : List Int, y_ = (([(-1), (-1)] : List Int)) := ⟨_, rfl⟩
 replace H : ((heights_Stretch.f y399 y402 60).bind fun bt405 => ((heights_Stretch.f ([] : List Int) ([] : List Int) 5).bind fun bt409 => (if t396 = 0 then (if bt405.2 = 0 then (if bt409.2 = 160 then ((purflingref01_Same.f k t395 (([40, 0] : List Int))).bind fun t416 => (if t416 = true then ((purflingref01_Same.f k bt405.1 (([15, 45] : List Int))).bind fun t420 => (some t420)) else (some false))) else (some false)) else (some false)) else (some false)))) = some r := by first | (rw [hy402]; with_reducible exact H) | (have H2_ := (Option.bind_some _ _).symm.trans H; rw [hy402]; with_reducible exact H2_) | (have H2_ := (Option.bind_some _ _).symm.trans H; with_reducible exact H2_) | with_reducible exact H | (rw [hy402]; exact H) | exact H
 have Ny402 := Aside0.mk hy402
 clear hy402
 replace H := Option.bind_eq_some_iff.mp H
 obtain ⟨⟨t405, t406⟩, A20, H⟩ := H
 replace H : ((heights_Stretch.f ([] : List Int) ([] : List Int) 5).bind fun bt409 => (if t396 = 0 then (if t406 = 0 then (if bt409.2 = 160 then ((purflingref01_Same.f k t395 (([40, 0] : List Int))).bind fun t416 => (if t416 = true then ((purflingref01_Same.f k t405 (([15, 45] : List Int))).bind fun t420 => (some t420)) else (some false))) else (some false)) else (some false)) else (some false))) = some r := H
 have A2 := Aside0.mk A20
 clear A20
 replace H := Option.bind_eq_some_iff.mp H
 obtain ⟨⟨t409, t410⟩, A30, H⟩ := H
 replace H : (if t396 = 0 then (if t406 = 0 then (if t410 = 160 then ((purflingref01_Same.f k t395 (([40, 0] : List Int))).bind fun t416 => (if t416 = true then ((purflingref01_Same.f k t405 (([15, 45] : List Int))).bind fun t420 => (some t420)) else (some false))) else (some false)) else (some false)) else (some false)) = some r := H
 have A3 := Aside0.mk A30
 clear A30
 by_cases c4 : t396 = 0
 ·rw [if_pos c4] at H
  have c4b0 : (t396 == 0) = true := beq_iff_eq.mpr c4
  have c4b1 : (t396 != 0) = false := bne_eq_false_iff_eq.mpr c4
  clear c4
  by_cases c5 : t406 = 0
  ·rw [if_pos c5] at H
   have c5b0 : (t406 == 0) = true := beq_iff_eq.mpr c5
   have c5b1 : (t406 != 0) = false := bne_eq_false_iff_eq.mpr c5
   clear c5
   by_cases c6 : t410 = 160
   ·rw [if_pos c6] at H
    have c6b0 : (t410 == 160) = true := beq_iff_eq.mpr c6
    have c6b1 : (t410 != 160) = false := bne_eq_false_iff_eq.mpr c6
    clear c6
    obtain ⟨y413, hy413⟩ : ∃ y_ : List Int, y_ = (([40, 0] : List Int)) := ⟨_, rfl⟩
    replace H : ((purflingref01_Same.f k t395 y413).bind fun t416 => (if t416 = true then ((purflingref01_Same.f k t405 (([15, 45] : List Int))).bind fun t420 => (some t420)) else (some false))) = some r := by first | (rw [hy413]; with_reducible exact H) | (have H2_ := (Option.bind_some _ _).symm.trans H; rw [hy413]; with_reducible exact H2_) | (have H2_ := (Option.bind_some _ _).symm.trans H; with_reducible exact H2_) | with_reducible exact H | (rw [hy413]; exact H) | exact H
    have Ny413 := Aside0.mk hy413
    clear hy413
    replace H := Option.bind_eq_some_iff.mp H
    obtain ⟨t416, A70, H⟩ := H
    replace H : (if t416 = true then ((purflingref01_Same.f k t405 (([15, 45] : List Int))).bind fun t420 => (some t420)) else (some false)) = some r := H
    have A7 := Aside0.mk A70
    clear A70
    by_cases c8 : t416 = true
    ·subst c8
     have H1 : ((purflingref01_Same.f k t405 (([15, 45] : List Int))).bind fun t420 => (some t420)) = some r := by rw [if_pos rfl] at H; exact H
     clear H
     have H := H1
     clear H1
     obtain ⟨y417, hy417⟩ : ∃ y_ : List Int, y_ = (([15, 45] : List Int)) := ⟨_, rfl⟩
     replace H : ((purflingref01_Same.f k t405 y417).bind fun t420 => (some t420)) = some r := by first | (rw [hy417]; with_reducible exact H) | (have H2_ := (Option.bind_some _ _).symm.trans H; rw [hy417]; with_reducible exact H2_) | (have H2_ := (Option.bind_some _ _).symm.trans H; with_reducible exact H2_) | with_reducible exact H | (rw [hy417]; exact H) | exact H
     have Ny417 := Aside0.mk hy417
     clear hy417
     replace H := Option.bind_eq_some_iff.mp H
     obtain ⟨t420, A90, H⟩ := H
     replace H : (some t420) = some r := H
     have A9 := Aside0.mk A90
     clear A90
     obtain rfl := Option.some.inj H
     go_enter Try.func23, Try.ntmps23
     go_wp2_with (first | ((with_reducible refine gate_dst (N := 8) rfl ?_); (try (refine gate_guard (by rfl) ?_; dsimp only)); refine Kd.R_lit (Kd.int .i64) _ 2 ?hg (N := 8) ?hd (xs := ([(-1), (-1)] : List Int)) (inner := [.int .i64 (-1), .int .i64 (-1)]) (ok := fun _ => True) (okp := fun _ => True) ?hr ?hp (fun _ hk => hk) trivial (Below.refl _ _) (Nat.le_refl _) (by simp) ?_; (case hd => rfl); (case hg => rfl); (case hr => first | (go_simp; done) | (go_simp; rfl)); (case hp => exact (Reps.one (show Kd.M (Kd.int .i64) _ _ _ (-1) [.int .i64 (-1)] from rfl) (Reps.one (show Kd.M (Kd.int .i64) _ _ _ (-1) [.int .i64 (-1)] from rfl) (Reps.none _ _)))); intro v387 w10 ho11 hb hg_ hnew_; clear hg_ hnew_; (first | rw [← Ny386.out] at ho11 | (simp only [Int.reduceToNat] at ho11; rw [← Ny386.out] at ho11)); have n0_ := Aside0.mk (Kd.R_lower ho11 (below_size (by repeat (first | (with_reducible first | exact HB.out | apply below_alloc | apply pw_below_drewN | apply below_drew1) | exact HB.out)))); have n1_ := Aside0.mk (below_step (by repeat (first | (with_reducible first | exact HB.out | apply below_alloc | apply pw_below_drewN | apply below_drew1) | exact HB.out)) hb); clear HB; have HO388 := n0_; have HB := n1_; clear n0_ n1_; clear hb ho11) | ((with_reducible refine gate_dst (N := 11) rfl ?_); (try (refine gate_guard (by rfl) ?_; dsimp only)); refine Kd.R_lit k33 _ 33 ?hg (N := 11) ?hd (xs := ([(⟨0, 0, 0, 1, 1⟩ : S33), (⟨0, 0, 0, 2, 1⟩ : S33)] : List (S33))) (inner := [.int .i64 0, .int .i64 0, .int .i64 0, .int .i64 1, .int .i64 1, .int .i64 0, .int .i64 0, .int .i64 0, .int .i64 2, .int .i64 1]) (ok := fun _ => True) (okp := fun _ => True) ?hr ?hp (fun _ hk => hk) trivial (Below.refl _ _) (Nat.le_refl _) (by simp) ?_; (case hd => rfl); (case hg => rfl); (case hr => first | (go_simp; done) | (go_simp; rfl)); (case hp => exact (Reps.c5 (show Kd.M k33 _ _ _ (⟨0, 0, 0, 1, 1⟩ : S33) [.int .i64 0, .int .i64 0, .int .i64 0, .int .i64 1, .int .i64 1] from (k33_mkM _ _ _ (⟨0, 0, 0, 1, 1⟩ : S33) )) (Reps.c5 (show Kd.M k33 _ _ _ (⟨0, 0, 0, 2, 1⟩ : S33) [.int .i64 0, .int .i64 0, .int .i64 0, .int .i64 2, .int .i64 1] from (k33_mkM _ _ _ (⟨0, 0, 0, 2, 1⟩ : S33) )) (Reps.none _ _)))); intro v390 w12 ho13 hb hg_ hnew_; clear hg_ hnew_; (first | rw [← Ny389.out] at ho13 | (simp only [Int.reduceToNat] at ho13; rw [← Ny389.out] at ho13)); have n0_ := Aside0.mk (Kd.R_below (by (with_reducible repeat (first | apply Kd.R_alloc | apply Kd.R_drewN | apply Kd.R_drew)); exact HO388.out) hb); have n1_ := Aside0.mk (Kd.R_lower ho13 (below_size (by repeat (first | (with_reducible first | exact HB.out | apply below_alloc | apply pw_below_drewN | apply below_drew1) | exact HB.out)))); have n2_ := Aside0.mk (below_step (by repeat (first | (with_reducible first | exact HB.out | apply below_alloc | apply pw_below_drewN | apply below_drew1) | exact HB.out)) hb); clear HO388; clear HB; have HO388 := n0_; have HO391 := n1_; have HB := n2_; clear n0_ n1_ n2_; clear hb ho13) | ((with_reducible refine gate_dst (N := 12) rfl ?_); (try (refine gate_guard (by rfl) ?_; dsimp only)); refine Kd.R_lit (Kd.int .i64) _ 2 ?hg (N := 12) ?hd (xs := ([10, 40] : List Int)) (inner := [.int .i64 10, .int .i64 40]) (ok := fun _ => True) (okp := fun _ => True) ?hr ?hp (fun _ hk => hk) trivial (Below.refl _ _) (Nat.le_refl _) (by simp) ?_; (case hd => rfl); (case hg => rfl); (case hr => first | (go_simp; done) | (go_simp; rfl)); (case hp => exact (Reps.one (show Kd.M (Kd.int .i64) _ _ _ 10 [.int .i64 10] from rfl) (Reps.one (show Kd.M (Kd.int .i64) _ _ _ 40 [.int .i64 40] from rfl) (Reps.none _ _)))); intro v393 w14 ho15 hb hg_ hnew_; clear hg_ hnew_; (first | rw [← Ny392.out] at ho15 | (simp only [Int.reduceToNat] at ho15; rw [← Ny392.out] at ho15)); have n0_ := Aside0.mk (Kd.R_elder' (by (with_reducible repeat (first | apply Kd.R_alloc | apply Kd.R_drewN | apply Kd.R_drew)); exact HO388.out) (Kd.R_base ho15) hb); have n1_ := Aside0.mk (Kd.R_below (by (with_reducible repeat (first | apply Kd.R_alloc | apply Kd.R_drewN | apply Kd.R_drew)); exact HO391.out) hb); have n2_ := Aside0.mk (Kd.R_lower (Kd.R_new' ho15 (Kd.R_lt (by (with_reducible repeat (first | apply Kd.R_alloc | apply Kd.R_drewN | apply Kd.R_drew)); exact HO388.out))) (below_size (by repeat (first | (with_reducible first | exact HB.out | apply below_alloc | apply pw_below_drewN | apply below_drew1) | exact HB.out)))); have n3_ := Aside0.mk (below_step (by repeat (first | (with_reducible first | exact HB.out | apply below_alloc | apply pw_below_drewN | apply below_drew1) | exact HB.out)) hb); clear HO388; clear HO391; clear HB; have HO388 := n0_; have HO391 := n1_; have HO394 := n2_; have HB := n3_; clear n0_ n1_ n2_ n3_; clear hb ho15; obtain ⟨Ao16, co16, eo16⟩ := Kd.R_slice HO388.out; subst eo16; obtain ⟨Ao17, co17, eo17⟩ := Kd.R_slice HO391.out; subst eo17; obtain ⟨Ao18, co18, eo18⟩ := Kd.R_slice HO394.out; subst eo18) | ((with_reducible refine gate_callee (f := 25) rfl ?_); refine goesL_ (some 13) rfl rfl Try.func25 (by kernel_rfl) rfl #[.slice Ao16 y386.length co16, .slice Ao17 y389.length co17, .slice Ao18 y392.length co18, .int .i64 0] rfl (by (try simp only [List.map_toArray, List.map_cons, List.map_nil]); first | done | rfl | (simp only [List.length_drop, List.length_take]; rfl)) ?_; (with_reducible refine (heights_Least.calls _ _ y386 _ _ y389 _ _ y392 0 t395 t396 _ ?side1 ?side2 ?side3 ?side4 ?side5 ?side6 A1.out).mono ?_); (case side1 => repeat (first | exact (Kd.R_reads' HO388.out).2.2 | (with_reducible refine Kd.C_alloc ?_ _) | (with_reducible refine Kd.C_drewN ?_ _) | (with_reducible refine Kd.C_drew ?_))); (case side2 => exact (Kd.R_reads' HO388.out).2.1); (case side3 => repeat (first | exact (Kd.R_reads' HO391.out).2.2 | (with_reducible refine Kd.C_alloc ?_ _) | (with_reducible refine Kd.C_drewN ?_ _) | (with_reducible refine Kd.C_drew ?_))); (case side4 => exact (Kd.R_reads' HO391.out).2.1); (case side5 => repeat (first | exact (Kd.R_reads' HO394.out).2.2 | (with_reducible refine Kd.C_alloc ?_ _) | (with_reducible refine Kd.C_drewN ?_ _) | (with_reducible refine Kd.C_drew ?_))); (case side6 => exact (Kd.R_reads' HO394.out).2.1); rintro e w19 ⟨v397, rfl, ho0, hb⟩; refine ⟨_, rfl, ?_⟩; have n0_ := Aside0.mk (Kd.R_elder' (by (with_reducible repeat (first | apply Kd.R_alloc | apply Kd.R_drewN | apply Kd.R_drew)); exact HO388.out) (Kd.R_base ho0) hb); have n1_ := Aside0.mk (Kd.R_below (by (with_reducible repeat (first | apply Kd.R_alloc | apply Kd.R_drewN | apply Kd.R_drew)); exact HO391.out) hb); have n2_ := Aside0.mk (Kd.R_elder' (by (with_reducible repeat (first | apply Kd.R_alloc | apply Kd.R_drewN | apply Kd.R_drew)); exact HO394.out) (Kd.R_base ho0) hb); have n3_ := Aside0.mk (Kd.R_lower (Kd.R_new' (Kd.R_new' ho0 (Kd.R_lt (by (with_reducible repeat (first | apply Kd.R_alloc | apply Kd.R_drewN | apply Kd.R_drew)); exact HO388.out))) (Kd.R_lt (by (with_reducible repeat (first | apply Kd.R_alloc | apply Kd.R_drewN | apply Kd.R_drew)); exact HO394.out))) (below_size (by repeat (first | (with_reducible first | exact HB.out | apply below_alloc | apply pw_below_drewN | apply below_drew1) | exact HB.out)))); have n4_ := Aside0.mk (below_step (by repeat (first | (with_reducible first | exact HB.out | apply below_alloc | apply pw_below_drewN | apply below_drew1) | exact HB.out)) hb); clear HO388; clear HO391; clear HO394; clear HB; have HO388 := n0_; have HO391 := n1_; have HO394 := n2_; have HO398 := n3_; have HB := n4_; clear n0_ n1_ n2_ n3_ n4_; (try clear hb); (try clear hb2); (try clear hk); (try clear hi); (try clear ho0)) | ((with_reducible refine gate_dst (N := 17) rfl ?_); (try (refine gate_guard (by rfl) ?_; dsimp only)); refine Kd.R_lit (Kd.int .i64) _ 2 ?hg (N := 17) ?hd (xs := ([10, 30] : List Int)) (inner := [.int .i64 10, .int .i64 30]) (ok := fun _ => True) (okp := fun _ => True) ?hr ?hp (fun _ hk => hk) trivial (Below.refl _ _) (Nat.le_refl _) (by simp) ?_; (case hd => rfl); (case hg => rfl); (case hr => first | (go_simp; done) | (go_simp; rfl)); (case hp => exact (Reps.one (show Kd.M (Kd.int .i64) _ _ _ 10 [.int .i64 10] from rfl) (Reps.one (show Kd.M (Kd.int .i64) _ _ _ 30 [.int .i64 30] from rfl) (Reps.none _ _)))); intro v400 w20 ho21 hb hg_ hnew_; clear hg_ hnew_; (first | rw [← Ny399.out] at ho21 | (simp only [Int.reduceToNat] at ho21; rw [← Ny399.out] at ho21)); have n0_ := Aside0.mk (Kd.R_elder' (by (with_reducible repeat (first | apply Kd.R_alloc | apply Kd.R_drewN | apply Kd.R_drew)); exact HO388.out) (Kd.R_base ho21) hb); have n1_ := Aside0.mk (Kd.R_below (by (with_reducible repeat (first | apply Kd.R_alloc | apply Kd.R_drewN | apply Kd.R_drew)); exact HO391.out) hb); have n2_ := Aside0.mk (Kd.R_elder' (by (with_reducible repeat (first | apply Kd.R_alloc | apply Kd.R_drewN | apply Kd.R_drew)); exact HO394.out) (Kd.R_base ho21) hb); have n3_ := Aside0.mk (Kd.R_elder' (by (with_reducible repeat (first | apply Kd.R_alloc | apply Kd.R_drewN | apply Kd.R_drew)); exact HO398.out) (Kd.R_base ho21) hb); have n4_ := Aside0.mk (Kd.R_lower (Kd.R_new' (Kd.R_new' (Kd.R_new' ho21 (Kd.R_lt (by (with_reducible repeat (first | apply Kd.R_alloc | apply Kd.R_drewN | apply Kd.R_drew)); exact HO388.out))) (Kd.R_lt (by (with_reducible repeat (first | apply Kd.R_alloc | apply Kd.R_drewN | apply Kd.R_drew)); exact HO394.out))) (Kd.R_lt (by (with_reducible repeat (first | apply Kd.R_alloc | apply Kd.R_drewN | apply Kd.R_drew)); exact HO398.out))) (below_size (by repeat (first | (with_reducible first | exact HB.out | apply below_alloc | apply pw_below_drewN | apply below_drew1) | exact HB.out)))); have n5_ := Aside0.mk (below_step (by repeat (first | (with_reducible first | exact HB.out | apply below_alloc | apply pw_below_drewN | apply below_drew1) | exact HB.out)) hb); clear HO388; clear HO391; clear HO394; clear HO398; clear HB; have HO388 := n0_; have HO391 := n1_; have HO394 := n2_; have HO398 := n3_; have HO401 := n4_; have HB := n5_; clear n0_ n1_ n2_ n3_ n4_ n5_; clear hb ho21) | ((with_reducible refine gate_dst (N := 18) rfl ?_); (try (refine gate_guard (by rfl) ?_; dsimp only)); refine Kd.R_lit (Kd.int .i64) _ 2 ?hg (N := 18) ?hd (xs := ([(-1), (-1)] : List Int)) (inner := [.int .i64 (-1), .int .i64 (-1)]) (ok := fun _ => True) (okp := fun _ => True) ?hr ?hp (fun _ hk => hk) trivial (Below.refl _ _) (Nat.le_refl _) (by simp) ?_; (case hd => rfl); (case hg => rfl); (case hr => first | (go_simp; done) | (go_simp; rfl)); (case hp => exact (Reps.one (show Kd.M (Kd.int .i64) _ _ _ (-1) [.int .i64 (-1)] from rfl) (Reps.one (show Kd.M (Kd.int .i64) _ _ _ (-1) [.int .i64 (-1)] from rfl) (Reps.none _ _)))); intro v403 w22 ho23 hb hg_ hnew_; clear hg_ hnew_; (first | rw [← Ny402.out] at ho23 | (simp only [Int.reduceToNat] at ho23; rw [← Ny402.out] at ho23)); have n0_ := Aside0.mk (Kd.R_elder' (by (with_reducible repeat (first | apply Kd.R_alloc | apply Kd.R_drewN | apply Kd.R_drew)); exact HO388.out) (Kd.R_base ho23) hb); have n1_ := Aside0.mk (Kd.R_below (by (with_reducible repeat (first | apply Kd.R_alloc | apply Kd.R_drewN | apply Kd.R_drew)); exact HO391.out) hb); have n2_ := Aside0.mk (Kd.R_elder' (by (with_reducible repeat (first | apply Kd.R_alloc | apply Kd.R_drewN | apply Kd.R_drew)); exact HO394.out) (Kd.R_base ho23) hb); have n3_ := Aside0.mk (Kd.R_elder' (by (with_reducible repeat (first | apply Kd.R_alloc | apply Kd.R_drewN | apply Kd.R_drew)); exact HO398.out) (Kd.R_base ho23) hb); have n4_ := Aside0.mk (Kd.R_elder' (by (with_reducible repeat (first | apply Kd.R_alloc | apply Kd.R_drewN | apply Kd.R_drew)); exact HO401.out) (Kd.R_base ho23) hb); have n5_ := Aside0.mk (Kd.R_lower (Kd.R_new' (Kd.R_new' (Kd.R_new' (Kd.R_new' ho23 (Kd.R_lt (by (with_reducible repeat (first | apply Kd.R_alloc | apply Kd.R_drewN | apply Kd.R_drew)); exact HO388.out))) (Kd.R_lt (by (with_reducible repeat (first | apply Kd.R_alloc | apply Kd.R_drewN | apply Kd.R_drew)); exact HO394.out))) (Kd.R_lt (by (with_reducible repeat (first | apply Kd.R_alloc | apply Kd.R_drewN | apply Kd.R_drew)); exact HO398.out))) (Kd.R_lt (by (with_reducible repeat (first | apply Kd.R_alloc | apply Kd.R_drewN | apply Kd.R_drew)); exact HO401.out))) (below_size (by repeat (first | (with_reducible first | exact HB.out | apply below_alloc | apply pw_below_drewN | apply below_drew1) | exact HB.out)))); have n6_ := Aside0.mk (below_step (by repeat (first | (with_reducible first | exact HB.out | apply below_alloc | apply pw_below_drewN | apply below_drew1) | exact HB.out)) hb); clear HO388; clear HO391; clear HO394; clear HO398; clear HO401; clear HB; have HO388 := n0_; have HO391 := n1_; have HO394 := n2_; have HO398 := n3_; have HO401 := n4_; have HO404 := n5_; have HB := n6_; clear n0_ n1_ n2_ n3_ n4_ n5_ n6_; clear hb ho23; obtain ⟨Ao24, co24, eo24⟩ := Kd.R_slice HO401.out; subst eo24; obtain ⟨Ao25, co25, eo25⟩ := Kd.R_slice HO404.out; subst eo25) | ((with_reducible refine gate_callee (f := 30) rfl ?_); refine goesL_ (some 19) rfl rfl Try.func30 (by kernel_rfl) rfl #[.slice Ao24 y399.length co24, .slice Ao25 y402.length co25, .int .i64 60] rfl (by (try simp only [List.map_toArray, List.map_cons, List.map_nil]); first | done | rfl | (simp only [List.length_drop, List.length_take]; rfl)) ?_; (with_reducible refine (heights_Stretch.calls _ _ y399 _ _ y402 60 t405 t406 _ ?side1 ?side2 ?side3 ?side4 A2.out).mono ?_); (case side1 => repeat (first | exact (Kd.R_reads' HO401.out).2.2 | (with_reducible refine Kd.C_alloc ?_ _) | (with_reducible refine Kd.C_drewN ?_ _) | (with_reducible refine Kd.C_drew ?_))); (case side2 => exact (Kd.R_reads' HO401.out).2.1); (case side3 => repeat (first | exact (Kd.R_reads' HO404.out).2.2 | (with_reducible refine Kd.C_alloc ?_ _) | (with_reducible refine Kd.C_drewN ?_ _) | (with_reducible refine Kd.C_drew ?_))); (case side4 => exact (Kd.R_reads' HO404.out).2.1); rintro e w26 ⟨v407, rfl, ho0, hb⟩; refine ⟨_, rfl, ?_⟩; have n0_ := Aside0.mk (Kd.R_elder' (by (with_reducible repeat (first | apply Kd.R_alloc | apply Kd.R_drewN | apply Kd.R_drew)); exact HO388.out) (Kd.R_base ho0) hb); have n1_ := Aside0.mk (Kd.R_below (by (with_reducible repeat (first | apply Kd.R_alloc | apply Kd.R_drewN | apply Kd.R_drew)); exact HO391.out) hb); have n2_ := Aside0.mk (Kd.R_elder' (by (with_reducible repeat (first | apply Kd.R_alloc | apply Kd.R_drewN | apply Kd.R_drew)); exact HO394.out) (Kd.R_base ho0) hb); have n3_ := Aside0.mk (Kd.R_elder' (by (with_reducible repeat (first | apply Kd.R_alloc | apply Kd.R_drewN | apply Kd.R_drew)); exact HO398.out) (Kd.R_base ho0) hb); have n4_ := Aside0.mk (Kd.R_elder' (by (with_reducible repeat (first | apply Kd.R_alloc | apply Kd.R_drewN | apply Kd.R_drew)); exact HO401.out) (Kd.R_base ho0) hb); have n5_ := Aside0.mk (Kd.R_elder' (by (with_reducible repeat (first | apply Kd.R_alloc | apply Kd.R_drewN | apply Kd.R_drew)); exact HO404.out) (Kd.R_base ho0) hb); have n6_ := Aside0.mk (Kd.R_lower (Kd.R_new' (Kd.R_new' (Kd.R_new' (Kd.R_new' (Kd.R_new' ho0 (Kd.R_lt (by (with_reducible repeat (first | apply Kd.R_alloc | apply Kd.R_drewN | apply Kd.R_drew)); exact HO388.out))) (Kd.R_lt (by (with_reducible repeat (first | apply Kd.R_alloc | apply Kd.R_drewN | apply Kd.R_drew)); exact HO394.out))) (Kd.R_lt (by (with_reducible repeat (first | apply Kd.R_alloc | apply Kd.R_drewN | apply Kd.R_drew)); exact HO398.out))) (Kd.R_lt (by (with_reducible repeat (first | apply Kd.R_alloc | apply Kd.R_drewN | apply Kd.R_drew)); exact HO401.out))) (Kd.R_lt (by (with_reducible repeat (first | apply Kd.R_alloc | apply Kd.R_drewN | apply Kd.R_drew)); exact HO404.out))) (below_size (by repeat (first | (with_reducible first | exact HB.out | apply below_alloc | apply pw_below_drewN | apply below_drew1) | exact HB.out)))); have n7_ := Aside0.mk (below_step (by repeat (first | (with_reducible first | exact HB.out | apply below_alloc | apply pw_below_drewN | apply below_drew1) | exact HB.out)) hb); clear HO388; clear HO391; clear HO394; clear HO398; clear HO401; clear HO404; clear HB; have HO388 := n0_; have HO391 := n1_; have HO394 := n2_; have HO398 := n3_; have HO401 := n4_; have HO404 := n5_; have HO408 := n6_; have HB := n7_; clear n0_ n1_ n2_ n3_ n4_ n5_ n6_ n7_; (try clear hb); (try clear hb2); (try clear hk); (try clear hi); (try clear ho0)) | ((with_reducible refine gate_callee (f := 30) rfl ?_); refine goesL_ (some 23) rfl rfl Try.func30 (by kernel_rfl) rfl #[.slice none 0 0, .slice none 0 0, .int .i64 5] rfl (by (try simp only [List.map_toArray, List.map_cons, List.map_nil]); first | done | rfl | (simp only [List.length_drop, List.length_take]; rfl)) ?_; (refine (heights_Stretch.calls _ _ ([] : List Int) _ _ ([] : List Int) 5 t409 t410 _ ?side1 ?side2 ?side3 ?side4 A3.out).mono ?_); (case side1 => exact Kd.C_nil _ _); (case side2 => exact Nat.le_refl _); (case side3 => exact Kd.C_nil _ _); (case side4 => exact Nat.le_refl _); rintro e w27 ⟨v411, rfl, ho0, hb⟩; refine ⟨_, rfl, ?_⟩; have n0_ := Aside0.mk (Kd.R_elder' (by (with_reducible repeat (first | apply Kd.R_alloc | apply Kd.R_drewN | apply Kd.R_drew)); exact HO388.out) (Kd.R_base ho0) hb); have n1_ := Aside0.mk (Kd.R_below (by (with_reducible repeat (first | apply Kd.R_alloc | apply Kd.R_drewN | apply Kd.R_drew)); exact HO391.out) hb); have n2_ := Aside0.mk (Kd.R_elder' (by (with_reducible repeat (first | apply Kd.R_alloc | apply Kd.R_drewN | apply Kd.R_drew)); exact HO394.out) (Kd.R_base ho0) hb); have n3_ := Aside0.mk (Kd.R_elder' (by (with_reducible repeat (first | apply Kd.R_alloc | apply Kd.R_drewN | apply Kd.R_drew)); exact HO398.out) (Kd.R_base ho0) hb); have n4_ := Aside0.mk (Kd.R_elder' (by (with_reducible repeat (first | apply Kd.R_alloc | apply Kd.R_drewN | apply Kd.R_drew)); exact HO401.out) (Kd.R_base ho0) hb); have n5_ := Aside0.mk (Kd.R_elder' (by (with_reducible repeat (first | apply Kd.R_alloc | apply Kd.R_drewN | apply Kd.R_drew)); exact HO404.out) (Kd.R_base ho0) hb); have n6_ := Aside0.mk (Kd.R_elder' (by (with_reducible repeat (first | apply Kd.R_alloc | apply Kd.R_drewN | apply Kd.R_drew)); exact HO408.out) (Kd.R_base ho0) hb); have n7_ := Aside0.mk (Kd.R_lower (Kd.R_new' (Kd.R_new' (Kd.R_new' (Kd.R_new' (Kd.R_new' (Kd.R_new' ho0 (Kd.R_lt (by (with_reducible repeat (first | apply Kd.R_alloc | apply Kd.R_drewN | apply Kd.R_drew)); exact HO388.out))) (Kd.R_lt (by (with_reducible repeat (first | apply Kd.R_alloc | apply Kd.R_drewN | apply Kd.R_drew)); exact HO394.out))) (Kd.R_lt (by (with_reducible repeat (first | apply Kd.R_alloc | apply Kd.R_drewN | apply Kd.R_drew)); exact HO398.out))) (Kd.R_lt (by (with_reducible repeat (first | apply Kd.R_alloc | apply Kd.R_drewN | apply Kd.R_drew)); exact HO401.out))) (Kd.R_lt (by (with_reducible repeat (first | apply Kd.R_alloc | apply Kd.R_drewN | apply Kd.R_drew)); exact HO404.out))) (Kd.R_lt (by (with_reducible repeat (first | apply Kd.R_alloc | apply Kd.R_drewN | apply Kd.R_drew)); exact HO408.out))) (below_size (by repeat (first | (with_reducible first | exact HB.out | apply below_alloc | apply pw_below_drewN | apply below_drew1) | exact HB.out)))); have n8_ := Aside0.mk (below_step (by repeat (first | (with_reducible first | exact HB.out | apply below_alloc | apply pw_below_drewN | apply below_drew1) | exact HB.out)) hb); clear HO388; clear HO391; clear HO394; clear HO398; clear HO401; clear HO404; clear HO408; clear HB; have HO388 := n0_; have HO391 := n1_; have HO394 := n2_; have HO398 := n3_; have HO401 := n4_; have HO404 := n5_; have HO408 := n6_; have HO412 := n7_; have HB := n8_; clear n0_ n1_ n2_ n3_ n4_ n5_ n6_ n7_ n8_; (try clear hb); (try clear hb2); (try clear hk); (try clear hi); (try clear ho0)) | ((with_reducible refine gate_dst (N := 38) rfl ?_); (try (refine gate_guard (by rfl) ?_; dsimp only)); refine Kd.R_lit (Kd.int .i64) _ 2 ?hg (N := 38) ?hd (xs := ([40, 0] : List Int)) (inner := [.int .i64 40, .int .i64 0]) (ok := fun _ => True) (okp := fun _ => True) ?hr ?hp (fun _ hk => hk) trivial (Below.refl _ _) (Nat.le_refl _) (by simp) ?_; (case hd => rfl); (case hg => rfl); (case hr => first | (go_simp; done) | (go_simp; rfl)); (case hp => exact (Reps.one (show Kd.M (Kd.int .i64) _ _ _ 40 [.int .i64 40] from rfl) (Reps.one (show Kd.M (Kd.int .i64) _ _ _ 0 [.int .i64 0] from rfl) (Reps.none _ _)))); intro v414 w28 ho29 hb hg_ hnew_; clear hg_ hnew_; (first | rw [← Ny413.out] at ho29 | (simp only [Int.reduceToNat] at ho29; rw [← Ny413.out] at ho29)); have n0_ := Aside0.mk (Kd.R_elder' (by (with_reducible repeat (first | apply Kd.R_alloc | apply Kd.R_drewN | apply Kd.R_drew)); exact HO388.out) (Kd.R_base ho29) hb); have n1_ := Aside0.mk (Kd.R_below (by (with_reducible repeat (first | apply Kd.R_alloc | apply Kd.R_drewN | apply Kd.R_drew)); exact HO391.out) hb); have n2_ := Aside0.mk (Kd.R_elder' (by (with_reducible repeat (first | apply Kd.R_alloc | apply Kd.R_drewN | apply Kd.R_drew)); exact HO394.out) (Kd.R_base ho29) hb); have n3_ := Aside0.mk (Kd.R_elder' (by (with_reducible repeat (first | apply Kd.R_alloc | apply Kd.R_drewN | apply Kd.R_drew)); exact HO398.out) (Kd.R_base ho29) hb); have n4_ := Aside0.mk (Kd.R_elder' (by (with_reducible repeat (first | apply Kd.R_alloc | apply Kd.R_drewN | apply Kd.R_drew)); exact HO401.out) (Kd.R_base ho29) hb); have n5_ := Aside0.mk (Kd.R_elder' (by (with_reducible repeat (first | apply Kd.R_alloc | apply Kd.R_drewN | apply Kd.R_drew)); exact HO404.out) (Kd.R_base ho29) hb); have n6_ := Aside0.mk (Kd.R_elder' (by (with_reducible repeat (first | apply Kd.R_alloc | apply Kd.R_drewN | apply Kd.R_drew)); exact HO408.out) (Kd.R_base ho29) hb); have n7_ := Aside0.mk (Kd.R_elder' (by (with_reducible repeat (first | apply Kd.R_alloc | apply Kd.R_drewN | apply Kd.R_drew)); exact HO412.out) (Kd.R_base ho29) hb); have n8_ := Aside0.mk (Kd.R_lower (Kd.R_new' (Kd.R_new' (Kd.R_new' (Kd.R_new' (Kd.R_new' (Kd.R_new' (Kd.R_new' ho29 (Kd.R_lt (by (with_reducible repeat (first | apply Kd.R_alloc | apply Kd.R_drewN | apply Kd.R_drew)); exact HO388.out))) (Kd.R_lt (by (with_reducible repeat (first | apply Kd.R_alloc | apply Kd.R_drewN | apply Kd.R_drew)); exact HO394.out))) (Kd.R_lt (by (with_reducible repeat (first | apply Kd.R_alloc | apply Kd.R_drewN | apply Kd.R_drew)); exact HO398.out))) (Kd.R_lt (by (with_reducible repeat (first | apply Kd.R_alloc | apply Kd.R_drewN | apply Kd.R_drew)); exact HO401.out))) (Kd.R_lt (by (with_reducible repeat (first | apply Kd.R_alloc | apply Kd.R_drewN | apply Kd.R_drew)); exact HO404.out))) (Kd.R_lt (by (with_reducible repeat (first | apply Kd.R_alloc | apply Kd.R_drewN | apply Kd.R_drew)); exact HO408.out))) (Kd.R_lt (by (with_reducible repeat (first | apply Kd.R_alloc | apply Kd.R_drewN | apply Kd.R_drew)); exact HO412.out))) (below_size (by repeat (first | (with_reducible first | exact HB.out | apply below_alloc | apply pw_below_drewN | apply below_drew1) | exact HB.out)))); have n9_ := Aside0.mk (below_step (by repeat (first | (with_reducible first | exact HB.out | apply below_alloc | apply pw_below_drewN | apply below_drew1) | exact HB.out)) hb); clear HO388; clear HO391; clear HO394; clear HO398; clear HO401; clear HO404; clear HO408; clear HO412; clear HB; have HO388 := n0_; have HO391 := n1_; have HO394 := n2_; have HO398 := n3_; have HO401 := n4_; have HO404 := n5_; have HO408 := n6_; have HO412 := n7_; have HO415 := n8_; have HB := n9_; clear n0_ n1_ n2_ n3_ n4_ n5_ n6_ n7_ n8_ n9_; clear hb ho29; obtain ⟨Ao30, co30, eo30⟩ := Kd.R_slice HO398.out; subst eo30; obtain ⟨Ao31, co31, eo31⟩ := Kd.R_slice HO415.out; subst eo31) | (go_at_call 29; (with_reducible refine (purflingref01_Same.calls k _ _ t395 _ _ y413 true _ ?side1 ?side2 ?side3 ?side4 A7.out).mono ?_); (case side1 => repeat (first | exact (Kd.R_reads' HO398.out).2.2 | (with_reducible refine Kd.C_alloc ?_ _) | (with_reducible refine Kd.C_drewN ?_ _) | (with_reducible refine Kd.C_drew ?_))); (case side2 => exact (Kd.R_reads' HO398.out).2.1); (case side3 => repeat (first | exact (Kd.R_reads' HO415.out).2.2 | (with_reducible refine Kd.C_alloc ?_ _) | (with_reducible refine Kd.C_drewN ?_ _) | (with_reducible refine Kd.C_drew ?_))); (case side4 => exact (Kd.R_reads' HO415.out).2.1); rintro e w' ⟨rfl, ⟨nd, rfl⟩⟩) | ((with_reducible refine gate_dst (N := 43) rfl ?_); (try (refine gate_guard (by rfl) ?_; dsimp only)); refine Kd.R_lit (Kd.int .i64) _ 2 ?hg (N := 43) ?hd (xs := ([15, 45] : List Int)) (inner := [.int .i64 15, .int .i64 45]) (ok := fun _ => True) (okp := fun _ => True) ?hr ?hp (fun _ hk => hk) trivial (Below.refl _ _) (Nat.le_refl _) (by simp) ?_; (case hd => rfl); (case hg => rfl); (case hr => first | (go_simp; done) | (go_simp; rfl)); (case hp => exact (Reps.one (show Kd.M (Kd.int .i64) _ _ _ 15 [.int .i64 15] from rfl) (Reps.one (show Kd.M (Kd.int .i64) _ _ _ 45 [.int .i64 45] from rfl) (Reps.none _ _)))); intro v418 w32 ho33 hb hg_ hnew_; clear hg_ hnew_; (first | rw [← Ny417.out] at ho33 | (simp only [Int.reduceToNat] at ho33; rw [← Ny417.out] at ho33)); have n0_ := Aside0.mk (Kd.R_elder' (by (with_reducible repeat (first | apply Kd.R_alloc | apply Kd.R_drewN | apply Kd.R_drew)); exact HO388.out) (Kd.R_base ho33) hb); have n1_ := Aside0.mk (Kd.R_below (by (with_reducible repeat (first | apply Kd.R_alloc | apply Kd.R_drewN | apply Kd.R_drew)); exact HO391.out) hb); have n2_ := Aside0.mk (Kd.R_elder' (by (with_reducible repeat (first | apply Kd.R_alloc | apply Kd.R_drewN | apply Kd.R_drew)); exact HO394.out) (Kd.R_base ho33) hb); have n3_ := Aside0.mk (Kd.R_elder' (by (with_reducible repeat (first | apply Kd.R_alloc | apply Kd.R_drewN | apply Kd.R_drew)); exact HO398.out) (Kd.R_base ho33) hb); have n4_ := Aside0.mk (Kd.R_elder' (by (with_reducible repeat (first | apply Kd.R_alloc | apply Kd.R_drewN | apply Kd.R_drew)); exact HO401.out) (Kd.R_base ho33) hb); have n5_ := Aside0.mk (Kd.R_elder' (by (with_reducible repeat (first | apply Kd.R_alloc | apply Kd.R_drewN | apply Kd.R_drew)); exact HO404.out) (Kd.R_base ho33) hb); have n6_ := Aside0.mk (Kd.R_elder' (by (with_reducible repeat (first | apply Kd.R_alloc | apply Kd.R_drewN | apply Kd.R_drew)); exact HO408.out) (Kd.R_base ho33) hb); have n7_ := Aside0.mk (Kd.R_elder' (by (with_reducible repeat (first | apply Kd.R_alloc | apply Kd.R_drewN | apply Kd.R_drew)); exact HO412.out) (Kd.R_base ho33) hb); have n8_ := Aside0.mk (Kd.R_elder' (by (with_reducible repeat (first | apply Kd.R_alloc | apply Kd.R_drewN | apply Kd.R_drew)); exact HO415.out) (Kd.R_base ho33) hb); have n9_ := Aside0.mk (Kd.R_lower (Kd.R_new' (Kd.R_new' (Kd.R_new' (Kd.R_new' (Kd.R_new' (Kd.R_new' (Kd.R_new' (Kd.R_new' ho33 (Kd.R_lt (by (with_reducible repeat (first | apply Kd.R_alloc | apply Kd.R_drewN | apply Kd.R_drew)); exact HO388.out))) (Kd.R_lt (by (with_reducible repeat (first | apply Kd.R_alloc | apply Kd.R_drewN | apply Kd.R_drew)); exact HO394.out))) (Kd.R_lt (by (with_reducible repeat (first | apply Kd.R_alloc | apply Kd.R_drewN | apply Kd.R_drew)); exact HO398.out))) (Kd.R_lt (by (with_reducible repeat (first | apply Kd.R_alloc | apply Kd.R_drewN | apply Kd.R_drew)); exact HO401.out))) (Kd.R_lt (by (with_reducible repeat (first | apply Kd.R_alloc | apply Kd.R_drewN | apply Kd.R_drew)); exact HO404.out))) (Kd.R_lt (by (with_reducible repeat (first | apply Kd.R_alloc | apply Kd.R_drewN | apply Kd.R_drew)); exact HO408.out))) (Kd.R_lt (by (with_reducible repeat (first | apply Kd.R_alloc | apply Kd.R_drewN | apply Kd.R_drew)); exact HO412.out))) (Kd.R_lt (by (with_reducible repeat (first | apply Kd.R_alloc | apply Kd.R_drewN | apply Kd.R_drew)); exact HO415.out))) (below_size (by repeat (first | (with_reducible first | exact HB.out | apply below_alloc | apply pw_below_drewN | apply below_drew1) | exact HB.out)))); have n10_ := Aside0.mk (below_step (by repeat (first | (with_reducible first | exact HB.out | apply below_alloc | apply pw_below_drewN | apply below_drew1) | exact HB.out)) hb); clear HO388; clear HO391; clear HO394; clear HO398; clear HO401; clear HO404; clear HO408; clear HO412; clear HO415; clear HB; have HO388 := n0_; have HO391 := n1_; have HO394 := n2_; have HO398 := n3_; have HO401 := n4_; have HO404 := n5_; have HO408 := n6_; have HO412 := n7_; have HO415 := n8_; have HO419 := n9_; have HB := n10_; clear n0_ n1_ n2_ n3_ n4_ n5_ n6_ n7_ n8_ n9_ n10_; clear hb ho33; obtain ⟨Ao34, co34, eo34⟩ := Kd.R_slice HO408.out; subst eo34; obtain ⟨Ao35, co35, eo35⟩ := Kd.R_slice HO419.out; subst eo35) | (go_at_call 29; (with_reducible refine (purflingref01_Same.calls k _ _ t405 _ _ y417 t420 _ ?side1 ?side2 ?side3 ?side4 A9.out).mono ?_); (case side1 => repeat (first | exact (Kd.R_reads' HO408.out).2.2 | (with_reducible refine Kd.C_alloc ?_ _) | (with_reducible refine Kd.C_drewN ?_ _) | (with_reducible refine Kd.C_drew ?_))); (case side2 => exact (Kd.R_reads' HO408.out).2.1); (case side3 => repeat (first | exact (Kd.R_reads' HO419.out).2.2 | (with_reducible refine Kd.C_alloc ?_ _) | (with_reducible refine Kd.C_drewN ?_ _) | (with_reducible refine Kd.C_drew ?_))); (case side4 => exact (Kd.R_reads' HO419.out).2.1); rintro e w' ⟨rfl, ⟨nd, rfl⟩⟩))
     go_ret
     exact ⟨by first | rfl | (simp [errW_none, errW_some] <;> rfl) | (simp [*, errW_none, errW_some] <;> rfl), by repeat (first | (with_reducible first | exact HB.out | apply below_alloc | apply pw_below_drewN | apply below_drew1) | exact HB.out)⟩
    ·replace c8 := Bool.eq_false_iff.mpr c8
     subst c8
     have H1 : (some false) = some r := by rw [if_neg (show ¬ (false = true) by decide)] at H; exact H
     clear H
     have H := H1
     clear H1
     obtain rfl := Option.some.inj H
     go_enter Try.func23, Try.ntmps23
     go_wp2_with (first | ((with_reducible refine gate_dst (N := 8) rfl ?_); (try (refine gate_guard (by rfl) ?_; dsimp only)); refine Kd.R_lit (Kd.int .i64) _ 2 ?hg (N := 8) ?hd (xs := ([(-1), (-1)] : List Int)) (inner := [.int .i64 (-1), .int .i64 (-1)]) (ok := fun _ => True) (okp := fun _ => True) ?hr ?hp (fun _ hk => hk) trivial (Below.refl _ _) (Nat.le_refl _) (by simp) ?_; (case hd => rfl); (case hg => rfl); (case hr => first | (go_simp; done) | (go_simp; rfl)); (case hp => exact (Reps.one (show Kd.M (Kd.int .i64) _ _ _ (-1) [.int .i64 (-1)] from rfl) (Reps.one (show Kd.M (Kd.int .i64) _ _ _ (-1) [.int .i64 (-1)] from rfl) (Reps.none _ _)))); intro v387 w36 ho37 hb hg_ hnew_; clear hg_ hnew_; (first | rw [← Ny386.out] at ho37 | (simp only [Int.reduceToNat] at ho37; rw [← Ny386.out] at ho37)); have n0_ := Aside0.mk (Kd.R_lower ho37 (below_size (by repeat (first | (with_reducible first | exact HB.out | apply below_alloc | apply pw_below_drewN | apply below_drew1) | exact HB.out)))); have n1_ := Aside0.mk (below_step (by repeat (first | (with_reducible first | exact HB.out | apply below_alloc | apply pw_below_drewN | apply below_drew1) | exact HB.out)) hb); clear HB; have HO388 := n0_; have HB := n1_; clear n0_ n1_; clear hb ho37) | ((with_reducible refine gate_dst (N := 11) rfl ?_); (try (refine gate_guard (by rfl) ?_; dsimp only)); refine Kd.R_lit k33 _ 33 ?hg (N := 11) ?hd (xs := ([(⟨0, 0, 0, 1, 1⟩ : S33), (⟨0, 0, 0, 2, 1⟩ : S33)] : List (S33))) (inner := [.int .i64 0, .int .i64 0, .int .i64 0, .int .i64 1, .int .i64 1, .int .i64 0, .int .i64 0, .int .i64 0, .int .i64 2, .int .i64 1]) (ok := fun _ => True) (okp := fun _ => True) ?hr ?hp (fun _ hk => hk) trivial (Below.refl _ _) (Nat.le_refl _) (by simp) ?_; (case hd => rfl); (case hg => rfl); (case hr => first | (go_simp; done) | (go_simp; rfl)); (case hp => exact (Reps.c5 (show Kd.M k33 _ _ _ (⟨0, 0, 0, 1, 1⟩ : S33) [.int .i64 0, .int .i64 0, .int .i64 0, .int .i64 1, .int .i64 1] from (k33_mkM _ _ _ (⟨0, 0, 0, 1, 1⟩ : S33) )) (Reps.c5 (show Kd.M k33 _ _ _ (⟨0, 0, 0, 2, 1⟩ : S33) [.int .i64 0, .int .i64 0, .int .i64 0, .int .i64 2, .int .i64 1] from (k33_mkM _ _ _ (⟨0, 0, 0, 2, 1⟩ : S33) )) (Reps.none _ _)))); intro v390 w38 ho39 hb hg_ hnew_; clear hg_ hnew_; (first | rw [← Ny389.out] at ho39 | (simp only [Int.reduceToNat] at ho39; rw [← Ny389.out] at ho39)); have n0_ := Aside0.mk (Kd.R_below (by (with_reducible repeat (first | apply Kd.R_alloc | apply Kd.R_drewN | apply Kd.R_drew)); exact HO388.out) hb); have n1_ := Aside0.mk (Kd.R_lower ho39 (below_size (by repeat (first | (with_reducible first | exact HB.out | apply below_alloc | apply pw_below_drewN | apply below_drew1) | exact HB.out)))); have n2_ := Aside0.mk (below_step (by repeat (first | (with_reducible first | exact HB.out | apply below_alloc | apply pw_below_drewN | apply below_drew1) | exact HB.out)) hb); clear HO388; clear HB; have HO388 := n0_; have HO391 := n1_; have HB := n2_; clear n0_ n1_ n2_; clear hb ho39) | ((with_reducible refine gate_dst (N := 12) rfl ?_); (try (refine gate_guard (by rfl) ?_; dsimp only)); refine Kd.R_lit (Kd.int .i64) _ 2 ?hg (N := 12) ?hd (xs := ([10, 40] : List Int)) (inner := [.int .i64 10, .int .i64 40]) (ok := fun _ => True) (okp := fun _ => True) ?hr ?hp (fun _ hk => hk) trivial (Below.refl _ _) (Nat.le_refl _) (by simp) ?_; (case hd => rfl); (case hg => rfl); (case hr => first | (go_simp; done) | (go_simp; rfl)); (case hp => exact (Reps.one (show Kd.M (Kd.int .i64) _ _ _ 10 [.int .i64 10] from rfl) (Reps.one (show Kd.M (Kd.int .i64) _ _ _ 40 [.int .i64 40] from rfl) (Reps.none _ _)))); intro v393 w40 ho41 hb hg_ hnew_; clear hg_ hnew_; (first | rw [← Ny392.out] at ho41 | (simp only [Int.reduceToNat] at ho41; rw [← Ny392.out] at ho41)); have n0_ := Aside0.mk (Kd.R_elder' (by (with_reducible repeat (first | apply Kd.R_alloc | apply Kd.R_drewN | apply Kd.R_drew)); exact HO388.out) (Kd.R_base ho41) hb); have n1_ := Aside0.mk (Kd.R_below (by (with_reducible repeat (first | apply Kd.R_alloc | apply Kd.R_drewN | apply Kd.R_drew)); exact HO391.out) hb); have n2_ := Aside0.mk (Kd.R_lower (Kd.R_new' ho41 (Kd.R_lt (by (with_reducible repeat (first | apply Kd.R_alloc | apply Kd.R_drewN | apply Kd.R_drew)); exact HO388.out))) (below_size (by repeat (first | (with_reducible first | exact HB.out | apply below_alloc | apply pw_below_drewN | apply below_drew1) | exact HB.out)))); have n3_ := Aside0.mk (below_step (by repeat (first | (with_reducible first | exact HB.out | apply below_alloc | apply pw_below_drewN | apply below_drew1) | exact HB.out)) hb); clear HO388; clear HO391; clear HB; have HO388 := n0_; have HO391 := n1_; have HO394 := n2_; have HB := n3_; clear n0_ n1_ n2_ n3_; clear hb ho41; obtain ⟨Ao42, co42, eo42⟩ := Kd.R_slice HO388.out; subst eo42; obtain ⟨Ao43, co43, eo43⟩ := Kd.R_slice HO391.out; subst eo43; obtain ⟨Ao44, co44, eo44⟩ := Kd.R_slice HO394.out; subst eo44) | ((with_reducible refine gate_callee (f := 25) rfl ?_); refine goesL_ (some 13) rfl rfl Try.func25 (by kernel_rfl) rfl #[.slice Ao42 y386.length co42, .slice Ao43 y389.length co43, .slice Ao44 y392.length co44, .int .i64 0] rfl (by (try simp only [List.map_toArray, List.map_cons, List.map_nil]); first | done | rfl | (simp only [List.length_drop, List.length_take]; rfl)) ?_; (with_reducible refine (heights_Least.calls _ _ y386 _ _ y389 _ _ y392 0 t395 t396 _ ?side1 ?side2 ?side3 ?side4 ?side5 ?side6 A1.out).mono ?_); (case side1 => repeat (first | exact (Kd.R_reads' HO388.out).2.2 | (with_reducible refine Kd.C_alloc ?_ _) | (with_reducible refine Kd.C_drewN ?_ _) | (with_reducible refine Kd.C_drew ?_))); (case side2 => exact (Kd.R_reads' HO388.out).2.1); (case side3 => repeat (first | exact (Kd.R_reads' HO391.out).2.2 | (with_reducible refine Kd.C_alloc ?_ _) | (with_reducible refine Kd.C_drewN ?_ _) | (with_reducible refine Kd.C_drew ?_))); (case side4 => exact (Kd.R_reads' HO391.out).2.1); (case side5 => repeat (first | exact (Kd.R_reads' HO394.out).2.2 | (with_reducible refine Kd.C_alloc ?_ _) | (with_reducible refine Kd.C_drewN ?_ _) | (with_reducible refine Kd.C_drew ?_))); (case side6 => exact (Kd.R_reads' HO394.out).2.1); rintro e w45 ⟨v397, rfl, ho0, hb⟩; refine ⟨_, rfl, ?_⟩; have n0_ := Aside0.mk (Kd.R_elder' (by (with_reducible repeat (first | apply Kd.R_alloc | apply Kd.R_drewN | apply Kd.R_drew)); exact HO388.out) (Kd.R_base ho0) hb); have n1_ := Aside0.mk (Kd.R_below (by (with_reducible repeat (first | apply Kd.R_alloc | apply Kd.R_drewN | apply Kd.R_drew)); exact HO391.out) hb); have n2_ := Aside0.mk (Kd.R_elder' (by (with_reducible repeat (first | apply Kd.R_alloc | apply Kd.R_drewN | apply Kd.R_drew)); exact HO394.out) (Kd.R_base ho0) hb); have n3_ := Aside0.mk (Kd.R_lower (Kd.R_new' (Kd.R_new' ho0 (Kd.R_lt (by (with_reducible repeat (first | apply Kd.R_alloc | apply Kd.R_drewN | apply Kd.R_drew)); exact HO388.out))) (Kd.R_lt (by (with_reducible repeat (first | apply Kd.R_alloc | apply Kd.R_drewN | apply Kd.R_drew)); exact HO394.out))) (below_size (by repeat (first | (with_reducible first | exact HB.out | apply below_alloc | apply pw_below_drewN | apply below_drew1) | exact HB.out)))); have n4_ := Aside0.mk (below_step (by repeat (first | (with_reducible first | exact HB.out | apply below_alloc | apply pw_below_drewN | apply below_drew1) | exact HB.out)) hb); clear HO388; clear HO391; clear HO394; clear HB; have HO388 := n0_; have HO391 := n1_; have HO394 := n2_; have HO398 := n3_; have HB := n4_; clear n0_ n1_ n2_ n3_ n4_; (try clear hb); (try clear hb2); (try clear hk); (try clear hi); (try clear ho0)) | ((with_reducible refine gate_dst (N := 17) rfl ?_); (try (refine gate_guard (by rfl) ?_; dsimp only)); refine Kd.R_lit (Kd.int .i64) _ 2 ?hg (N := 17) ?hd (xs := ([10, 30] : List Int)) (inner := [.int .i64 10, .int .i64 30]) (ok := fun _ => True) (okp := fun _ => True) ?hr ?hp (fun _ hk => hk) trivial (Below.refl _ _) (Nat.le_refl _) (by simp) ?_; (case hd => rfl); (case hg => rfl); (case hr => first | (go_simp; done) | (go_simp; rfl)); (case hp => exact (Reps.one (show Kd.M (Kd.int .i64) _ _ _ 10 [.int .i64 10] from rfl) (Reps.one (show Kd.M (Kd.int .i64) _ _ _ 30 [.int .i64 30] from rfl) (Reps.none _ _)))); intro v400 w46 ho47 hb hg_ hnew_; clear hg_ hnew_; (first | rw [← Ny399.out] at ho47 | (simp only [Int.reduceToNat] at ho47; rw [← Ny399.out] at ho47)); have n0_ := Aside0.mk (Kd.R_elder' (by (with_reducible repeat (first | apply Kd.R_alloc | apply Kd.R_drewN | apply Kd.R_drew)); exact HO388.out) (Kd.R_base ho47) hb); have n1_ := Aside0.mk (Kd.R_below (by (with_reducible repeat (first | apply Kd.R_alloc | apply Kd.R_drewN | apply Kd.R_drew)); exact HO391.out) hb); have n2_ := Aside0.mk (Kd.R_elder' (by (with_reducible repeat (first | apply Kd.R_alloc | apply Kd.R_drewN | apply Kd.R_drew)); exact HO394.out) (Kd.R_base ho47) hb); have n3_ := Aside0.mk (Kd.R_elder' (by (with_reducible repeat (first | apply Kd.R_alloc | apply Kd.R_drewN | apply Kd.R_drew)); exact HO398.out) (Kd.R_base ho47) hb); have n4_ := Aside0.mk (Kd.R_lower (Kd.R_new' (Kd.R_new' (Kd.R_new' ho47 (Kd.R_lt (by (with_reducible repeat (first | apply Kd.R_alloc | apply Kd.R_drewN | apply Kd.R_drew)); exact HO388.out))) (Kd.R_lt (by (with_reducible repeat (first | apply Kd.R_alloc | apply Kd.R_drewN | apply Kd.R_drew)); exact HO394.out))) (Kd.R_lt (by (with_reducible repeat (first | apply Kd.R_alloc | apply Kd.R_drewN | apply Kd.R_drew)); exact HO398.out))) (below_size (by repeat (first | (with_reducible first | exact HB.out | apply below_alloc | apply pw_below_drewN | apply below_drew1) | exact HB.out)))); have n5_ := Aside0.mk (below_step (by repeat (first | (with_reducible first | exact HB.out | apply below_alloc | apply pw_below_drewN | apply below_drew1) | exact HB.out)) hb); clear HO388; clear HO391; clear HO394; clear HO398; clear HB; have HO388 := n0_; have HO391 := n1_; have HO394 := n2_; have HO398 := n3_; have HO401 := n4_; have HB := n5_; clear n0_ n1_ n2_ n3_ n4_ n5_; clear hb ho47) | ((with_reducible refine gate_dst (N := 18) rfl ?_); (try (refine gate_guard (by rfl) ?_; dsimp only)); refine Kd.R_lit (Kd.int .i64) _ 2 ?hg (N := 18) ?hd (xs := ([(-1), (-1)] : List Int)) (inner := [.int .i64 (-1), .int .i64 (-1)]) (ok := fun _ => True) (okp := fun _ => True) ?hr ?hp (fun _ hk => hk) trivial (Below.refl _ _) (Nat.le_refl _) (by simp) ?_; (case hd => rfl); (case hg => rfl); (case hr => first | (go_simp; done) | (go_simp; rfl)); (case hp => exact (Reps.one (show Kd.M (Kd.int .i64) _ _ _ (-1) [.int .i64 (-1)] from rfl) (Reps.one (show Kd.M (Kd.int .i64) _ _ _ (-1) [.int .i64 (-1)] from rfl) (Reps.none _ _)))); intro v403 w48 ho49 hb hg_ hnew_; clear hg_ hnew_; (first | rw [← Ny402.out] at ho49 | (simp only [Int.reduceToNat] at ho49; rw [← Ny402.out] at ho49)); have n0_ := Aside0.mk (Kd.R_elder' (by (with_reducible repeat (first | apply Kd.R_alloc | apply Kd.R_drewN | apply Kd.R_drew)); exact HO388.out) (Kd.R_base ho49) hb); have n1_ := Aside0.mk (Kd.R_below (by (with_reducible repeat (first | apply Kd.R_alloc | apply Kd.R_drewN | apply Kd.R_drew)); exact HO391.out) hb); have n2_ := Aside0.mk (Kd.R_elder' (by (with_reducible repeat (first | apply Kd.R_alloc | apply Kd.R_drewN | apply Kd.R_drew)); exact HO394.out) (Kd.R_base ho49) hb); have n3_ := Aside0.mk (Kd.R_elder' (by (with_reducible repeat (first | apply Kd.R_alloc | apply Kd.R_drewN | apply Kd.R_drew)); exact HO398.out) (Kd.R_base ho49) hb); have n4_ := Aside0.mk (Kd.R_elder' (by (with_reducible repeat (first | apply Kd.R_alloc | apply Kd.R_drewN | apply Kd.R_drew)); exact HO401.out) (Kd.R_base ho49) hb); have n5_ := Aside0.mk (Kd.R_lower (Kd.R_new' (Kd.R_new' (Kd.R_new' (Kd.R_new' ho49 (Kd.R_lt (by (with_reducible repeat (first | apply Kd.R_alloc | apply Kd.R_drewN | apply Kd.R_drew)); exact HO388.out))) (Kd.R_lt (by (with_reducible repeat (first | apply Kd.R_alloc | apply Kd.R_drewN | apply Kd.R_drew)); exact HO394.out))) (Kd.R_lt (by (with_reducible repeat (first | apply Kd.R_alloc | apply Kd.R_drewN | apply Kd.R_drew)); exact HO398.out))) (Kd.R_lt (by (with_reducible repeat (first | apply Kd.R_alloc | apply Kd.R_drewN | apply Kd.R_drew)); exact HO401.out))) (below_size (by repeat (first | (with_reducible first | exact HB.out | apply below_alloc | apply pw_below_drewN | apply below_drew1) | exact HB.out)))); have n6_ := Aside0.mk (below_step (by repeat (first | (with_reducible first | exact HB.out | apply below_alloc | apply pw_below_drewN | apply below_drew1) | exact HB.out)) hb); clear HO388; clear HO391; clear HO394; clear HO398; clear HO401; clear HB; have HO388 := n0_; have HO391 := n1_; have HO394 := n2_; have HO398 := n3_; have HO401 := n4_; have HO404 := n5_; have HB := n6_; clear n0_ n1_ n2_ n3_ n4_ n5_ n6_; clear hb ho49; obtain ⟨Ao50, co50, eo50⟩ := Kd.R_slice HO401.out; subst eo50; obtain ⟨Ao51, co51, eo51⟩ := Kd.R_slice HO404.out; subst eo51) | ((with_reducible refine gate_callee (f := 30) rfl ?_); refine goesL_ (some 19) rfl rfl Try.func30 (by kernel_rfl) rfl #[.slice Ao50 y399.length co50, .slice Ao51 y402.length co51, .int .i64 60] rfl (by (try simp only [List.map_toArray, List.map_cons, List.map_nil]); first | done | rfl | (simp only [List.length_drop, List.length_take]; rfl)) ?_; (with_reducible refine (heights_Stretch.calls _ _ y399 _ _ y402 60 t405 t406 _ ?side1 ?side2 ?side3 ?side4 A2.out).mono ?_); (case side1 => repeat (first | exact (Kd.R_reads' HO401.out).2.2 | (with_reducible refine Kd.C_alloc ?_ _) | (with_reducible refine Kd.C_drewN ?_ _) | (with_reducible refine Kd.C_drew ?_))); (case side2 => exact (Kd.R_reads' HO401.out).2.1); (case side3 => repeat (first | exact (Kd.R_reads' HO404.out).2.2 | (with_reducible refine Kd.C_alloc ?_ _) | (with_reducible refine Kd.C_drewN ?_ _) | (with_reducible refine Kd.C_drew ?_))); (case side4 => exact (Kd.R_reads' HO404.out).2.1); rintro e w52 ⟨v407, rfl, ho0, hb⟩; refine ⟨_, rfl, ?_⟩; have n0_ := Aside0.mk (Kd.R_elder' (by (with_reducible repeat (first | apply Kd.R_alloc | apply Kd.R_drewN | apply Kd.R_drew)); exact HO388.out) (Kd.R_base ho0) hb); have n1_ := Aside0.mk (Kd.R_below (by (with_reducible repeat (first | apply Kd.R_alloc | apply Kd.R_drewN | apply Kd.R_drew)); exact HO391.out) hb); have n2_ := Aside0.mk (Kd.R_elder' (by (with_reducible repeat (first | apply Kd.R_alloc | apply Kd.R_drewN | apply Kd.R_drew)); exact HO394.out) (Kd.R_base ho0) hb); have n3_ := Aside0.mk (Kd.R_elder' (by (with_reducible repeat (first | apply Kd.R_alloc | apply Kd.R_drewN | apply Kd.R_drew)); exact HO398.out) (Kd.R_base ho0) hb); have n4_ := Aside0.mk (Kd.R_elder' (by (with_reducible repeat (first | apply Kd.R_alloc | apply Kd.R_drewN | apply Kd.R_drew)); exact HO401.out) (Kd.R_base ho0) hb); have n5_ := Aside0.mk (Kd.R_elder' (by (with_reducible repeat (first | apply Kd.R_alloc | apply Kd.R_drewN | apply Kd.R_drew)); exact HO404.out) (Kd.R_base ho0) hb); have n6_ := Aside0.mk (Kd.R_lower (Kd.R_new' (Kd.R_new' (Kd.R_new' (Kd.R_new' (Kd.R_new' ho0 (Kd.R_lt (by (with_reducible repeat (first | apply Kd.R_alloc | apply Kd.R_drewN | apply Kd.R_drew)); exact HO388.out))) (Kd.R_lt (by (with_reducible repeat (first | apply Kd.R_alloc | apply Kd.R_drewN | apply Kd.R_drew)); exact HO394.out))) (Kd.R_lt (by (with_reducible repeat (first | apply Kd.R_alloc | apply Kd.R_drewN | apply Kd.R_drew)); exact HO398.out))) (Kd.R_lt (by (with_reducible repeat (first | apply Kd.R_alloc | apply Kd.R_drewN | apply Kd.R_drew)); exact HO401.out))) (Kd.R_lt (by (with_reducible repeat (first | apply Kd.R_alloc | apply Kd.R_drewN | apply Kd.R_drew)); exact HO404.out))) (below_size (by repeat (first | (with_reducible first | exact HB.out | apply below_alloc | apply pw_below_drewN | apply below_drew1) | exact HB.out)))); have n7_ := Aside0.mk (below_step (by repeat (first | (with_reducible first | exact HB.out | apply below_alloc | apply pw_below_drewN | apply below_drew1) | exact HB.out)) hb); clear HO388; clear HO391; clear HO394; clear HO398; clear HO401; clear HO404; clear HB; have HO388 := n0_; have HO391 := n1_; have HO394 := n2_; have HO398 := n3_; have HO401 := n4_; have HO404 := n5_; have HO408 := n6_; have HB := n7_; clear n0_ n1_ n2_ n3_ n4_ n5_ n6_ n7_; (try clear hb); (try clear hb2); (try clear hk); (try clear hi); (try clear ho0)) | ((with_reducible refine gate_callee (f := 30) rfl ?_); refine goesL_ (some 23) rfl rfl Try.func30 (by kernel_rfl) rfl #[.slice none 0 0, .slice none 0 0, .int .i64 5] rfl (by (try simp only [List.map_toArray, List.map_cons, List.map_nil]); first | done | rfl | (simp only [List.length_drop, List.length_take]; rfl)) ?_; (refine (heights_Stretch.calls _ _ ([] : List Int) _ _ ([] : List Int) 5 t409 t410 _ ?side1 ?side2 ?side3 ?side4 A3.out).mono ?_); (case side1 => exact Kd.C_nil _ _); (case side2 => exact Nat.le_refl _); (case side3 => exact Kd.C_nil _ _); (case side4 => exact Nat.le_refl _); rintro e w53 ⟨v411, rfl, ho0, hb⟩; refine ⟨_, rfl, ?_⟩; have n0_ := Aside0.mk (Kd.R_elder' (by (with_reducible repeat (first | apply Kd.R_alloc | apply Kd.R_drewN | apply Kd.R_drew)); exact HO388.out) (Kd.R_base ho0) hb); have n1_ := Aside0.mk (Kd.R_below (by (with_reducible repeat (first | apply Kd.R_alloc | apply Kd.R_drewN | apply Kd.R_drew)); exact HO391.out) hb); have n2_ := Aside0.mk (Kd.R_elder' (by (with_reducible repeat (first | apply Kd.R_alloc | apply Kd.R_drewN | apply Kd.R_drew)); exact HO394.out) (Kd.R_base ho0) hb); have n3_ := Aside0.mk (Kd.R_elder' (by (with_reducible repeat (first | apply Kd.R_alloc | apply Kd.R_drewN | apply Kd.R_drew)); exact HO398.out) (Kd.R_base ho0) hb); have n4_ := Aside0.mk (Kd.R_elder' (by (with_reducible repeat (first | apply Kd.R_alloc | apply Kd.R_drewN | apply Kd.R_drew)); exact HO401.out) (Kd.R_base ho0) hb); have n5_ := Aside0.mk (Kd.R_elder' (by (with_reducible repeat (first | apply Kd.R_alloc | apply Kd.R_drewN | apply Kd.R_drew)); exact HO404.out) (Kd.R_base ho0) hb); have n6_ := Aside0.mk (Kd.R_elder' (by (with_reducible repeat (first | apply Kd.R_alloc | apply Kd.R_drewN | apply Kd.R_drew)); exact HO408.out) (Kd.R_base ho0) hb); have n7_ := Aside0.mk (Kd.R_lower (Kd.R_new' (Kd.R_new' (Kd.R_new' (Kd.R_new' (Kd.R_new' (Kd.R_new' ho0 (Kd.R_lt (by (with_reducible repeat (first | apply Kd.R_alloc | apply Kd.R_drewN | apply Kd.R_drew)); exact HO388.out))) (Kd.R_lt (by (with_reducible repeat (first | apply Kd.R_alloc | apply Kd.R_drewN | apply Kd.R_drew)); exact HO394.out))) (Kd.R_lt (by (with_reducible repeat (first | apply Kd.R_alloc | apply Kd.R_drewN | apply Kd.R_drew)); exact HO398.out))) (Kd.R_lt (by (with_reducible repeat (first | apply Kd.R_alloc | apply Kd.R_drewN | apply Kd.R_drew)); exact HO401.out))) (Kd.R_lt (by (with_reducible repeat (first | apply Kd.R_alloc | apply Kd.R_drewN | apply Kd.R_drew)); exact HO404.out))) (Kd.R_lt (by (with_reducible repeat (first | apply Kd.R_alloc | apply Kd.R_drewN | apply Kd.R_drew)); exact HO408.out))) (below_size (by repeat (first | (with_reducible first | exact HB.out | apply below_alloc | apply pw_below_drewN | apply below_drew1) | exact HB.out)))); have n8_ := Aside0.mk (below_step (by repeat (first | (with_reducible first | exact HB.out | apply below_alloc | apply pw_below_drewN | apply below_drew1) | exact HB.out)) hb); clear HO388; clear HO391; clear HO394; clear HO398; clear HO401; clear HO404; clear HO408; clear HB; have HO388 := n0_; have HO391 := n1_; have HO394 := n2_; have HO398 := n3_; have HO401 := n4_; have HO404 := n5_; have HO408 := n6_; have HO412 := n7_; have HB := n8_; clear n0_ n1_ n2_ n3_ n4_ n5_ n6_ n7_ n8_; (try clear hb); (try clear hb2); (try clear hk); (try clear hi); (try clear ho0)) | ((with_reducible refine gate_dst (N := 38) rfl ?_); (try (refine gate_guard (by rfl) ?_; dsimp only)); refine Kd.R_lit (Kd.int .i64) _ 2 ?hg (N := 38) ?hd (xs := ([40, 0] : List Int)) (inner := [.int .i64 40, .int .i64 0]) (ok := fun _ => True) (okp := fun _ => True) ?hr ?hp (fun _ hk => hk) trivial (Below.refl _ _) (Nat.le_refl _) (by simp) ?_; (case hd => rfl); (case hg => rfl); (case hr => first | (go_simp; done) | (go_simp; rfl)); (case hp => exact (Reps.one (show Kd.M (Kd.int .i64) _ _ _ 40 [.int .i64 40] from rfl) (Reps.one (show Kd.M (Kd.int .i64) _ _ _ 0 [.int .i64 0] from rfl) (Reps.none _ _)))); intro v414 w54 ho55 hb hg_ hnew_; clear hg_ hnew_; (first | rw [← Ny413.out] at ho55 | (simp only [Int.reduceToNat] at ho55; rw [← Ny413.out] at ho55)); have n0_ := Aside0.mk (Kd.R_elder' (by (with_reducible repeat (first | apply Kd.R_alloc | apply Kd.R_drewN | apply Kd.R_drew)); exact HO388.out) (Kd.R_base ho55) hb); have n1_ := Aside0.mk (Kd.R_below (by (with_reducible repeat (first | apply Kd.R_alloc | apply Kd.R_drewN | apply Kd.R_drew)); exact HO391.out) hb); have n2_ := Aside0.mk (Kd.R_elder' (by (with_reducible repeat (first | apply Kd.R_alloc | apply Kd.R_drewN | apply Kd.R_drew)); exact HO394.out) (Kd.R_base ho55) hb); have n3_ := Aside0.mk (Kd.R_elder' (by (with_reducible repeat (first | apply Kd.R_alloc | apply Kd.R_drewN | apply Kd.R_drew)); exact HO398.out) (Kd.R_base ho55) hb); have n4_ := Aside0.mk (Kd.R_elder' (by (with_reducible repeat (first | apply Kd.R_alloc | apply Kd.R_drewN | apply Kd.R_drew)); exact HO401.out) (Kd.R_base ho55) hb); have n5_ := Aside0.mk (Kd.R_elder' (by (with_reducible repeat (first | apply Kd.R_alloc | apply Kd.R_drewN | apply Kd.R_drew)); exact HO404.out) (Kd.R_base ho55) hb); have n6_ := Aside0.mk (Kd.R_elder' (by (with_reducible repeat (first | apply Kd.R_alloc | apply Kd.R_drewN | apply Kd.R_drew)); exact HO408.out) (Kd.R_base ho55) hb); have n7_ := Aside0.mk (Kd.R_elder' (by (with_reducible repeat (first | apply Kd.R_alloc | apply Kd.R_drewN | apply Kd.R_drew)); exact HO412.out) (Kd.R_base ho55) hb); have n8_ := Aside0.mk (Kd.R_lower (Kd.R_new' (Kd.R_new' (Kd.R_new' (Kd.R_new' (Kd.R_new' (Kd.R_new' (Kd.R_new' ho55 (Kd.R_lt (by (with_reducible repeat (first | apply Kd.R_alloc | apply Kd.R_drewN | apply Kd.R_drew)); exact HO388.out))) (Kd.R_lt (by (with_reducible repeat (first | apply Kd.R_alloc | apply Kd.R_drewN | apply Kd.R_drew)); exact HO394.out))) (Kd.R_lt (by (with_reducible repeat (first | apply Kd.R_alloc | apply Kd.R_drewN | apply Kd.R_drew)); exact HO398.out))) (Kd.R_lt (by (with_reducible repeat (first | apply Kd.R_alloc | apply Kd.R_drewN | apply Kd.R_drew)); exact HO401.out))) (Kd.R_lt (by (with_reducible repeat (first | apply Kd.R_alloc | apply Kd.R_drewN | apply Kd.R_drew)); exact HO404.out))) (Kd.R_lt (by (with_reducible repeat (first | apply Kd.R_alloc | apply Kd.R_drewN | apply Kd.R_drew)); exact HO408.out))) (Kd.R_lt (by (with_reducible repeat (first | apply Kd.R_alloc | apply Kd.R_drewN | apply Kd.R_drew)); exact HO412.out))) (below_size (by repeat (first | (with_reducible first | exact HB.out | apply below_alloc | apply pw_below_drewN | apply below_drew1) | exact HB.out)))); have n9_ := Aside0.mk (below_step (by repeat (first | (with_reducible first | exact HB.out | apply below_alloc | apply pw_below_drewN | apply below_drew1) | exact HB.out)) hb); clear HO388; clear HO391; clear HO394; clear HO398; clear HO401; clear HO404; clear HO408; clear HO412; clear HB; have HO388 := n0_; have HO391 := n1_; have HO394 := n2_; have HO398 := n3_; have HO401 := n4_; have HO404 := n5_; have HO408 := n6_; have HO412 := n7_; have HO415 := n8_; have HB := n9_; clear n0_ n1_ n2_ n3_ n4_ n5_ n6_ n7_ n8_ n9_; clear hb ho55; obtain ⟨Ao56, co56, eo56⟩ := Kd.R_slice HO398.out; subst eo56; obtain ⟨Ao57, co57, eo57⟩ := Kd.R_slice HO415.out; subst eo57) | (go_at_call 29; (with_reducible refine (purflingref01_Same.calls k _ _ t395 _ _ y413 false _ ?side1 ?side2 ?side3 ?side4 A7.out).mono ?_); (case side1 => repeat (first | exact (Kd.R_reads' HO398.out).2.2 | (with_reducible refine Kd.C_alloc ?_ _) | (with_reducible refine Kd.C_drewN ?_ _) | (with_reducible refine Kd.C_drew ?_))); (case side2 => exact (Kd.R_reads' HO398.out).2.1); (case side3 => repeat (first | exact (Kd.R_reads' HO415.out).2.2 | (with_reducible refine Kd.C_alloc ?_ _) | (with_reducible refine Kd.C_drewN ?_ _) | (with_reducible refine Kd.C_drew ?_))); (case side4 => exact (Kd.R_reads' HO415.out).2.1); rintro e w' ⟨rfl, ⟨nd, rfl⟩⟩))
     go_ret
     exact ⟨by first | rfl | (simp [errW_none, errW_some] <;> rfl) | (simp [*, errW_none, errW_some] <;> rfl), by repeat (first | (with_reducible first | exact HB.out | apply below_alloc | apply pw_below_drewN | apply below_drew1) | exact HB.out)⟩
   ·rw [if_neg c6] at H
    rw [HR_.out] at H
    exact absurd H (by simp)
  ·rw [if_neg c5] at H
   rw [HR_.out] at H
   exact absurd H (by simp)
 ·rw [if_neg c4] at H
  rw [HR_.out] at H
  exact absurd H (by simp)

/-! ### purflinglaw16_cut: function 24 -/
def purflinglaw16_cut.f (l0 : List Int) (l1 : List (S33)) (l2 : List Int) : Option (List Int × (List (S33)) × List Int) := if 0 ≤ (mn (l0.length : Int) 60) then (if (mn (l0.length : Int) 60) ≤ (l0.length : Int) then (if 0 ≤ (mn (l1.length : Int) 100) then (if (mn (l1.length : Int) 100) ≤ (l1.length : Int) then (if 0 ≤ (mn (l2.length : Int) 100) then (if (mn (l2.length : Int) 100) ≤ (l2.length : Int) then (some ((l0.take ((mn (l0.length : Int) 60) : Int).toNat), (l1.take ((mn (l1.length : Int) 100) : Int).toNat), (l2.take ((mn (l2.length : Int) 100) : Int).toNat))) else (none)) else (none)) else (none)) else (none)) else (none)) else (none)
set_option maxHeartbeats 8000000 in
set_option maxRecDepth 100000 in
theorem purflinglaw16_cut.calls (P0_ : Nat → Prop) (A0 : Option Addr) (c0 : Nat) (l0 : List Int) (P1_ : Nat → Prop) (A1 : Option Addr) (c1 : Nat) (l1 : List (S33)) (P2_ : Nat → Prop) (A2 : Option Addr) (c2 : Nat) (l2 : List Int) (r1 : List Int) (r2 : List (S33)) (r3 : List Int) (w : World) (hs0 : Kd.V (Kd.int .i64) 2 w w.heap.size (fun k_ => P0_ k_) (.slice A0 l0.length c0) l0) (hs1 : Kd.V k33 33 w w.heap.size (fun k_ => P1_ k_) (.slice A1 l1.length c1) l1) (hs2 : Kd.V (Kd.int .i64) 2 w w.heap.size (fun k_ => P2_ k_) (.slice A2 l2.length c2) l2) (h : purflinglaw16_cut.f l0 l1 l2 = some (r1, r2, r3)) :
  Calls Try.prog 24 #[.slice A0 l0.length c0, .slice A1 l1.length c1, .slice A2 l2.length c2] w fun e w' => ∃ v0_ v1_ v2_ : Value, e = .returned (.tuple #[v0_, v1_, v2_]) ∧ Kd.V (Kd.int .i64) 2 w' w.heap.size (fun k_ => ((P0_ k_ ∨ P1_ k_ ∨ P2_ k_) ∨ w.heap.size ≤ k_)) v0_ r1 ∧ Kd.V k33 33 w' w.heap.size (fun k_ => ((P0_ k_ ∨ P1_ k_ ∨ P2_ k_) ∨ w.heap.size ≤ k_)) v1_ r2 ∧ Kd.V (Kd.int .i64) 2 w' w.heap.size (fun k_ => ((P0_ k_ ∨ P1_ k_ ∨ P2_ k_) ∨ w.heap.size ≤ k_)) v2_ r3 ∧ Below w.heap.size w w' := by
 have HO0 := Aside0.mk (show Kd.V (Kd.int .i64) 2 w w.heap.size (fun k_ => ((P0_ k_ ∨ P1_ k_ ∨ P2_ k_) ∨ w.heap.size ≤ k_)) (.slice A0 l0.length c0) l0 from Kd.V_mono hs0 (fun k_ hk => .inl (.inl hk)))
 have HO1 := Aside0.mk (show Kd.V k33 33 w w.heap.size (fun k_ => ((P0_ k_ ∨ P1_ k_ ∨ P2_ k_) ∨ w.heap.size ≤ k_)) (.slice A1 l1.length c1) l1 from Kd.V_mono hs1 (fun k_ hk => .inl (.inr (.inl hk))))
 have HO2 := Aside0.mk (show Kd.V (Kd.int .i64) 2 w w.heap.size (fun k_ => ((P0_ k_ ∨ P1_ k_ ∨ P2_ k_) ∨ w.heap.size ≤ k_)) (.slice A2 l2.length c2) l2 from Kd.V_mono hs2 (fun k_ hk => .inl (.inr (.inr hk))))
 have HB := Aside0.mk (Below.refl w.heap.size w)
 have H : (if 0 ≤ (mn (l0.length : Int) 60) then (if (mn (l0.length : Int) 60) ≤ (l0.length : Int) then (if 0 ≤ (mn (l1.length : Int) 100) then (if (mn (l1.length : Int) 100) ≤ (l1.length : Int) then (if 0 ≤ (mn (l2.length : Int) 100) then (if (mn (l2.length : Int) 100) ≤ (l2.length : Int) then (some ((l0.take ((mn (l0.length : Int) 60) : Int).toNat), (l1.take ((mn (l1.length : Int) 100) : Int).toNat), (l2.take ((mn (l2.length : Int) 100) : Int).toNat))) else (none)) else (none)) else (none)) else (none)) else (none)) else (none)) = some (r1, r2, r3) := h
 clear h
 obtain ⟨ji4, hji4⟩ : ∃ j_ : Int, (mn (l0.length : Int) 60) = j_ := ⟨_, rfl⟩
 replace H : (if 0 ≤ (ji4) then (if (ji4) ≤ (l0.length : Int) then (if 0 ≤ (mn (l1.length : Int) 100) then (if (mn (l1.length : Int) 100) ≤ (l1.length : Int) then (if 0 ≤ (mn (l2.length : Int) 100) then (if (mn (l2.length : Int) 100) ≤ (l2.length : Int) then (some ((l0.take ((ji4) : Int).toNat), (l1.take ((mn (l1.length : Int) 100) : Int).toNat), (l2.take ((mn (l2.length : Int) 100) : Int).toNat))) else (none)) else (none)) else (none)) else (none)) else (none)) else (none)) = some (r1, r2, r3) := by first | (rw [hji4] at H; exact H) | (simp only [hji4] at H ⊢; exact H)
 (try (have hji4h : ji4 ≤ 60 := by (rw [← hji4]; unfold mn; (repeat' split) <;> omega)))
 (try (have hji4g : ji4 ≤ 64 := by omega))
 (try (have hji4l : 0 ≤ ji4 := by (rw [← hji4]; unfold mn; (repeat' split) <;> omega)))
 (try (have hji4m : 0 ≤ ji4 := by omega))
 have hji4_ : (if 60 < (l0.length : Int) then 60 else (l0.length : Int)) = ji4 := hji4
 by_cases c5 : 0 ≤ (ji4)
 ·rw [if_pos c5] at H
  have c5b0 := eq_true c5
  have c5b1 : decide (0 ≤ (ji4)) = true := decide_eq_true c5
  clear c5
  by_cases c6 : (ji4) ≤ (l0.length : Int)
  ·rw [if_pos c6] at H
   have c6b0 := eq_true c6
   have c6b1 : decide ((ji4) ≤ (l0.length : Int)) = true := decide_eq_true c6
   clear c6
   obtain ⟨y421, hy421⟩ : ∃ y_ : List Int, y_ = (l0.take ((ji4) : Int).toNat) := ⟨_, rfl⟩
   replace H : (if 0 ≤ (mn (l1.length : Int) 100) then (if (mn (l1.length : Int) 100) ≤ (l1.length : Int) then (if 0 ≤ (mn (l2.length : Int) 100) then (if (mn (l2.length : Int) 100) ≤ (l2.length : Int) then (some (y421, (l1.take ((mn (l1.length : Int) 100) : Int).toNat), (l2.take ((mn (l2.length : Int) 100) : Int).toNat))) else (none)) else (none)) else (none)) else (none)) = some (r1, r2, r3) := by first | (rw [hy421]; with_reducible exact H) | (have H2_ := (Option.bind_some _ _).symm.trans H; rw [hy421]; with_reducible exact H2_) | (have H2_ := (Option.bind_some _ _).symm.trans H; with_reducible exact H2_) | with_reducible exact H | (rw [hy421]; exact H) | exact H
   have Ny421 := Aside0.mk hy421
   clear hy421
   obtain ⟨ji7, hji7⟩ : ∃ j_ : Int, (mn (l1.length : Int) 100) = j_ := ⟨_, rfl⟩
   replace H : (if 0 ≤ (ji7) then (if (ji7) ≤ (l1.length : Int) then (if 0 ≤ (mn (l2.length : Int) 100) then (if (mn (l2.length : Int) 100) ≤ (l2.length : Int) then (some (y421, (l1.take ((ji7) : Int).toNat), (l2.take ((mn (l2.length : Int) 100) : Int).toNat))) else (none)) else (none)) else (none)) else (none)) = some (r1, r2, r3) := by first | (rw [hji7] at H; exact H) | (simp only [hji7] at H ⊢; exact H)
   (try (have hji7h : ji7 ≤ 100 := by (rw [← hji7]; unfold mn; (repeat' split) <;> omega)))
   (try (have hji7g : ji7 ≤ 64 := by omega))
   (try (have hji7l : 0 ≤ ji7 := by (rw [← hji7]; unfold mn; (repeat' split) <;> omega)))
   (try (have hji7m : 0 ≤ ji7 := by omega))
   have hji7_ : (if 100 < (l1.length : Int) then 100 else (l1.length : Int)) = ji7 := hji7
   by_cases c8 : 0 ≤ (ji7)
   ·rw [if_pos c8] at H
    have c8b0 := eq_true c8
    have c8b1 : decide (0 ≤ (ji7)) = true := decide_eq_true c8
    clear c8
    by_cases c9 : (ji7) ≤ (l1.length : Int)
    ·rw [if_pos c9] at H
     have c9b0 := eq_true c9
     have c9b1 : decide ((ji7) ≤ (l1.length : Int)) = true := decide_eq_true c9
     clear c9
     obtain ⟨y426, hy426⟩ : ∃ y_ : List (S33), y_ = (l1.take ((ji7) : Int).toNat) := ⟨_, rfl⟩
     replace H : (if 0 ≤ (mn (l2.length : Int) 100) then (if (mn (l2.length : Int) 100) ≤ (l2.length : Int) then (some (y421, y426, (l2.take ((mn (l2.length : Int) 100) : Int).toNat))) else (none)) else (none)) = some (r1, r2, r3) := by first | (rw [hy426]; with_reducible exact H) | (have H2_ := (Option.bind_some _ _).symm.trans H; rw [hy426]; with_reducible exact H2_) | (have H2_ := (Option.bind_some _ _).symm.trans H; with_reducible exact H2_) | with_reducible exact H | (rw [hy426]; exact H) | exact H
     have Ny426 := Aside0.mk hy426
     clear hy426
     obtain ⟨ji10, hji10⟩ : ∃ j_ : Int, (mn (l2.length : Int) 100) = j_ := ⟨_, rfl⟩
     replace H : (if 0 ≤ (ji10) then (if (ji10) ≤ (l2.length : Int) then (some (y421, y426, (l2.take ((ji10) : Int).toNat))) else (none)) else (none)) = some (r1, r2, r3) := by first | (rw [hji10] at H; exact H) | (simp only [hji10] at H ⊢; exact H)
     (try (have hji10h : ji10 ≤ 100 := by (rw [← hji10]; unfold mn; (repeat' split) <;> omega)))
     (try (have hji10g : ji10 ≤ 64 := by omega))
     (try (have hji10l : 0 ≤ ji10 := by (rw [← hji10]; unfold mn; (repeat' split) <;> omega)))
     (try (have hji10m : 0 ≤ ji10 := by omega))
     have hji10_ : (if 100 < (l2.length : Int) then 100 else (l2.length : Int)) = ji10 := hji10
     by_cases c11 : 0 ≤ (ji10)
     ·rw [if_pos c11] at H
      have c11b0 := eq_true c11
      have c11b1 : decide (0 ≤ (ji10)) = true := decide_eq_true c11
      clear c11
      by_cases c12 : (ji10) ≤ (l2.length : Int)
      ·rw [if_pos c12] at H
       have c12b0 := eq_true c12
       have c12b1 : decide ((ji10) ≤ (l2.length : Int)) = true := decide_eq_true c12
       clear c12
       obtain ⟨y431, hy431⟩ : ∃ y_ : List Int, y_ = (l2.take ((ji10) : Int).toNat) := ⟨_, rfl⟩
       replace H : (some (y421, y426, y431)) = some (r1, r2, r3) := by first | (rw [hy431]; with_reducible exact H) | (have H2_ := (Option.bind_some _ _).symm.trans H; rw [hy431]; with_reducible exact H2_) | (have H2_ := (Option.bind_some _ _).symm.trans H; with_reducible exact H2_) | with_reducible exact H | (rw [hy431]; exact H) | exact H
       have Ny431 := Aside0.mk hy431
       clear hy431
       simp only [Option.some.injEq, Prod.mk.injEq] at H
       obtain ⟨rfl, rfl, rfl⟩ := H
       have q13 : ((ji4) : Int) ≤ ((l0.length : Int) : Int) := of_decide_eq_true (by first | (with_reducible assumption) | assumption)
       obtain ⟨i013, hi013, _, hsz13, _⟩ := info_parts info2
       have hroom13 : l0.length ≤ c0 := (Kd.V_reads' HO0.out).2.1
       have hC13 : Kd.F (Kd.int .i64) _ _ A0 l0.length l0 := (Kd.V_at (base := w.heap.size) HO0.out).2.2
       have hcut13 := cut_to (P := Try.prog) 46 2 .i64 Try.underlying46 hi013 A0 l0.length c0 (ji4) (of_decide_eq_true (by first | (with_reducible assumption) | assumption)) q13 hroom13
       have hr13 := Kd.F_take (m := ((ji4) : Int).toNat) hC13 (by omega)
       have hy13 : y421.length = ((ji4) : Int).toNat := (by rw [Ny421.out, List.length_take]; omega)
       rw [← Ny421.out] at hr13
       rw [← hy13] at hcut13
       have HO425 := Aside0.mk (show Kd.V (Kd.int .i64) 2 _ w.heap.size _ (.slice A0 y421.length c0) y421 from Kd.V_mk (by omega) hr13)
       have HC425 := Aside0.mk (show y421.length ≤ c0 from by omega)
       clear hr13 hC13 hroom13 hi013 hsz13
       have KY13 := Aside0.mk hy13
       clear hy13
       replace q13 := eq_true q13
       have q14 : ((ji7) : Int) ≤ ((l1.length : Int) : Int) := of_decide_eq_true (by first | (with_reducible assumption) | assumption)
       obtain ⟨i014, hi014, _, hsz14, _⟩ := info_parts info33
       have hroom14 : l1.length ≤ c1 := (Kd.V_reads' HO1.out).2.1
       have hC14 : Kd.F k33 _ _ A1 l1.length l1 := (Kd.V_at (base := w.heap.size) HO1.out).2.2
       have hcut14 := cut_to (P := Try.prog) 47 33 .i64 Try.underlying47 hi014 A1 l1.length c1 (ji7) (of_decide_eq_true (by first | (with_reducible assumption) | assumption)) q14 hroom14
       have hr14 := Kd.F_take (m := ((ji7) : Int).toNat) hC14 (by omega)
       have hy14 : y426.length = ((ji7) : Int).toNat := (by rw [Ny426.out, List.length_take]; omega)
       rw [← Ny426.out] at hr14
       rw [← hy14] at hcut14
       have HO430 := Aside0.mk (show Kd.V k33 33 _ w.heap.size _ (.slice A1 y426.length c1) y426 from Kd.V_mk (by omega) hr14)
       have HC430 := Aside0.mk (show y426.length ≤ c1 from by omega)
       clear hr14 hC14 hroom14 hi014 hsz14
       have KY14 := Aside0.mk hy14
       clear hy14
       replace q14 := eq_true q14
       have q15 : ((ji10) : Int) ≤ ((l2.length : Int) : Int) := of_decide_eq_true (by first | (with_reducible assumption) | assumption)
       obtain ⟨i015, hi015, _, hsz15, _⟩ := info_parts info2
       have hroom15 : l2.length ≤ c2 := (Kd.V_reads' HO2.out).2.1
       have hC15 : Kd.F (Kd.int .i64) _ _ A2 l2.length l2 := (Kd.V_at (base := w.heap.size) HO2.out).2.2
       have hcut15 := cut_to (P := Try.prog) 46 2 .i64 Try.underlying46 hi015 A2 l2.length c2 (ji10) (of_decide_eq_true (by first | (with_reducible assumption) | assumption)) q15 hroom15
       have hr15 := Kd.F_take (m := ((ji10) : Int).toNat) hC15 (by omega)
       have hy15 : y431.length = ((ji10) : Int).toNat := (by rw [Ny431.out, List.length_take]; omega)
       rw [← Ny431.out] at hr15
       rw [← hy15] at hcut15
       have HO435 := Aside0.mk (show Kd.V (Kd.int .i64) 2 _ w.heap.size _ (.slice A2 y431.length c2) y431 from Kd.V_mk (by omega) hr15)
       have HC435 := Aside0.mk (show y431.length ≤ c2 from by omega)
       clear hr15 hC15 hroom15 hi015 hsz15
       have KY15 := Aside0.mk hy15
       clear hy15
       replace q15 := eq_true q15
       go_enter Try.func24, Try.ntmps24
       go_wp2
       repeat (go_quiet (fail); try go_wp2)
       go_ret3
       exact ⟨_, _, _, by first | rfl | (simp [errW_none, errW_some] <;> rfl) | (simp only [← hji4, ← hji7, ← hji10]; first | rfl | (simp [errW_none, errW_some] <;> rfl)) | (simp [*, errW_none, errW_some] <;> rfl), by (with_reducible repeat (first | apply Kd.V_alloc | apply Kd.V_drewN | apply Kd.V_drew)); exact HO425.out, by (with_reducible repeat (first | apply Kd.V_alloc | apply Kd.V_drewN | apply Kd.V_drew)); exact HO430.out, by (with_reducible repeat (first | apply Kd.V_alloc | apply Kd.V_drewN | apply Kd.V_drew)); exact HO435.out, by repeat (first | (with_reducible first | exact HB.out | apply below_alloc | apply pw_below_drewN | apply below_drew1) | exact HB.out)⟩
      ·rw [if_neg c12] at H
       exact absurd H (by simp)
     ·rw [if_neg c11] at H
      exact absurd H (by simp)
    ·rw [if_neg c9] at H
     exact absurd H (by simp)
   ·rw [if_neg c8] at H
    exact absurd H (by simp)
  ·rw [if_neg c6] at H
   exact absurd H (by simp)
 ·rw [if_neg c5] at H
  exact absurd H (by simp)

/-! ### purflingref16_wanted: function 55 -/
def purflingref16_wanted.l0 : Nat → List Int → Int → Option (Bool)
 | 0, _, _ => none
 | k + 1, x0, x3 => if x3 < (x0.length : Int) then (if 0 ≤ x3 then (if (rd x0 x3) < (-1) then (some false) else (if (rd x0 x3) > 1073741824 then (some false) else (purflingref16_wanted.l0 k x0 (wrap64 (x3 + 1))))) else (none)) else (some (decide ((x0.length : Int) ≤ 10000)))
def purflingref16_wanted.f (k : Nat) (l0 : List Int) : Option (Bool) := purflingref16_wanted.l0 k l0 0
theorem purflingref16_wanted.mono_l : ∀ k, (∀ y0 y1, LeO (purflingref16_wanted.l0 k y0 y1) (purflingref16_wanted.l0 (k + 1) y0 y1))
 | 0 => fun _ _ r h => by simp [purflingref16_wanted.l0] at h
 | k + 1 => by
  have ih0 := purflingref16_wanted.mono_l k
  ·intro y0 y1
   unfold purflingref16_wanted.l0
   repeat' first
   | (with_reducible exact ih0 _ _)
   | (with_reducible exact LeO.refl _)
   | (with_reducible exact LeO.none _)
   | (with_reducible refine LeO.ite ?_ ?_)
   | (with_reducible refine LeO.bind ?_ (fun _ => ?_))
   | exact ih0 _ _
   | exact LeO.none _
   | refine LeO.ite ?_ ?_
   | refine LeO.bind ?_ (fun _ => ?_)
theorem purflingref16_wanted.mono : ∀ a0 k, LeO (purflingref16_wanted.f k a0) (purflingref16_wanted.f (k + 1) a0) := by
 intro a0 k
 have ih0 := purflingref16_wanted.mono_l k
 unfold purflingref16_wanted.f
 repeat' first
   | (with_reducible exact ih0 _ _)
   | (with_reducible exact LeO.refl _)
   | (with_reducible exact LeO.none _)
   | (with_reducible refine LeO.ite ?_ ?_)
   | (with_reducible refine LeO.bind ?_ (fun _ => ?_))
   | exact ih0 _ _
   | exact LeO.none _
   | refine LeO.ite ?_ ?_
   | refine LeO.bind ?_ (fun _ => ?_)
set_option maxHeartbeats 8000000 in
set_option maxRecDepth 100000 in
theorem purflingref16_wanted.calls (k : Nat) (A0 : Option Addr) (c0 : Nat) (l0 : List Int) (r : Bool) (w : World) (hr0 : Kd.C (Kd.int .i64) w A0 l0.length l0) (hc0 : l0.length ≤ c0) (h : purflingref16_wanted.f k l0 = some r) :
  Calls Try.prog 55 #[.slice A0 l0.length c0] w fun e w' => e = .returned (.bool r) ∧ Drawn0 w w' := by
 have HR0 := Aside0.mk hr0
 have HC0 := Aside0.mk hc0
 clear hr0 hc0
 have H : (purflingref16_wanted.l0 k l0 0) = some r := h
 clear h
 have H' := Aside0.mk H
 clear H
 go_enter Try.func55, Try.ntmps55
 go_wp2
 go_loopg [3] k (fun kq v3 w' => ∃ (x3_1 : Int), v3 = .int .i64 x3_1 ∧ Aside0 (purflingref16_wanted.l0 kq l0 x3_1 = some r) ∧ Aside0 (kq ≤ k) ∧ Drawn0 w w')
 case atStart => exact ⟨(0), (by first | rfl | (simp; done) | (simp [*]; done)), H', ⟨Nat.le_refl _⟩, by repeat (first | exact Drawn0.refl _ | apply Drawn0.step)⟩
 case round =>
  clear H'
  obtain ⟨x3_1, rfl, HA, HK1, ⟨m1, rfl⟩⟩ := hrel
  cases gk with
  | zero => exact absurd HA.out (by simp [purflingref16_wanted.l0])
  | succ k1 =>
   have H := HA.out
   clear HA
   simp only [purflingref16_wanted.l0] at H
   by_cases c2 : x3_1 < (l0.length : Int)
   ·rw [if_pos c2] at H
    have c2b0 : decide (x3_1 < (l0.length : Int)) = true := decide_eq_true c2
    clear c2
    by_cases c3 : 0 ≤ x3_1
    ·rw [if_pos c3] at H
     have c3b0 : decide (0 ≤ x3_1) = true := decide_eq_true c3
     clear c3
     by_cases c4 : (rd l0 x3_1) < (-1)
     ·rw [if_pos c4] at H
      have c4b0 : decide ((rd l0 x3_1) < (-1)) = true := decide_eq_true c4
      clear c4
      obtain rfl := Option.some.inj H
      have p436 : 0 ≤ (x3_1 : Int) := of_decide_eq_true (by first | (with_reducible assumption) | assumption)
      have q436 : x3_1 < (l0.length : Int) := of_decide_eq_true (by first | (with_reducible assumption) | assumption)
      obtain ⟨ad436, e436, hx436_0⟩ := Kd.at_int HR0.out x3_1 p436 q436
      cases e436
      replace p436 := eq_true p436
      replace q436 := eq_true q436
      go_wp2
      go_ret
      exact ⟨by first | rfl | (simp; done) | (simp [*]; done), by repeat (first | exact Drawn0.refl _ | apply Drawn0.step)⟩
     ·rw [if_neg c4] at H
      have c4b0 : decide ((rd l0 x3_1) < (-1)) = false := decide_eq_false c4
      clear c4
      by_cases c5 : (rd l0 x3_1) > 1073741824
      ·rw [if_pos c5] at H
       have c5b0 : decide (1073741824 < (rd l0 x3_1)) = true := decide_eq_true c5
       clear c5
       obtain rfl := Option.some.inj H
       have p436 : 0 ≤ (x3_1 : Int) := of_decide_eq_true (by first | (with_reducible assumption) | assumption)
       have q436 : x3_1 < (l0.length : Int) := of_decide_eq_true (by first | (with_reducible assumption) | assumption)
       obtain ⟨ad436, e436, hx436_0⟩ := Kd.at_int HR0.out x3_1 p436 q436
       cases e436
       replace p436 := eq_true p436
       replace q436 := eq_true q436
       have p437 : 0 ≤ (x3_1 : Int) := of_decide_eq_true (by first | (with_reducible assumption) | assumption)
       have q437 : x3_1 < (l0.length : Int) := of_decide_eq_true (by first | (with_reducible assumption) | assumption)
       obtain ⟨ad437, e437, hx437_0⟩ := Kd.at_int HR0.out x3_1 p437 q437
       obtain rfl : ad436 = ad437 := (by injection e437)
       replace p437 := eq_true p437
       replace q437 := eq_true q437
       go_wp2
       go_ret
       exact ⟨by first | rfl | (simp; done) | (simp [*]; done), by repeat (first | exact Drawn0.refl _ | apply Drawn0.step)⟩
      ·rw [if_neg c5] at H
       have c5b0 : decide (1073741824 < (rd l0 x3_1)) = false := decide_eq_false c5
       clear c5
       have H' := Aside0.mk H
       clear H
       have p436 : 0 ≤ (x3_1 : Int) := of_decide_eq_true (by first | (with_reducible assumption) | assumption)
       have q436 : x3_1 < (l0.length : Int) := of_decide_eq_true (by first | (with_reducible assumption) | assumption)
       obtain ⟨ad436, e436, hx436_0⟩ := Kd.at_int HR0.out x3_1 p436 q436
       cases e436
       replace p436 := eq_true p436
       replace q436 := eq_true q436
       have p437 : 0 ≤ (x3_1 : Int) := of_decide_eq_true (by first | (with_reducible assumption) | assumption)
       have q437 : x3_1 < (l0.length : Int) := of_decide_eq_true (by first | (with_reducible assumption) | assumption)
       obtain ⟨ad437, e437, hx437_0⟩ := Kd.at_int HR0.out x3_1 p437 q437
       obtain rfl : ad436 = ad437 := (by injection e437)
       replace p437 := eq_true p437
       replace q437 := eq_true q437
       go_wp2
       go_roundg k1
       case measure => have := HK1.out; omega
       case rel => exact ⟨(wrap64 (x3_1 + 1)), (by first | rfl | (simp; done) | (simp [*]; done)), H', ⟨by have := HK1.out; omega⟩, by repeat (first | exact Drawn0.refl _ | apply Drawn0.step)⟩
    ·rw [if_neg c3] at H
     exact absurd H (by simp)
   ·rw [if_neg c2] at H
    have c2b0 : decide (x3_1 < (l0.length : Int)) = false := decide_eq_false c2
    clear c2
    obtain rfl := Option.some.inj H
    go_wp2
    go_ret
    exact ⟨by first | rfl | (simp; done) | (simp [*]; done), by repeat (first | exact Drawn0.refl _ | apply Drawn0.step)⟩

/-! ### purflingref16_Right: function 28 -/
mutual
def purflingref16_Right.j0 : Nat → List Int → List (S33) → List Int → Bool → Option (Bool)
 | 0, _, _, _, _ => none
 | k + 1, x0, x1, x2, x30 => if x30 = true then (some false) else (purflingref16_Right.l0 k x0 x1 x2 0)
def purflingref16_Right.l0 : Nat → List Int → List (S33) → List Int → Int → Option (Bool)
 | 0, _, _, _, _ => none
 | k + 1, x0, x1, x2, x10 => if x10 < (x1.length : Int) then (if 0 ≤ x10 then (if x10 < (x2.length : Int) then (if (rd x2 x10) < 0 then (some false) else (if (rd x2 x10) > 1125899906842623 then (some false) else (if ((rd_T33 x1 x10).f1) < 0 then (some false) else (if ((rd_T33 x1 x10).f1) > (x0.length : Int) then (some false) else (if ((rd_T33 x1 x10).f3) < 1 then (some false) else (if ((rd_T33 x1 x10).f3) > (wrap64 ((x0.length : Int) - ((rd_T33 x1 x10).f1))) then (some false) else (purflingref16_Right.l0 k x0 x1 x2 (wrap64 (x10 + 1))))))))) else (none)) else (none)) else (some true)
end
def purflingref16_Right.f (k : Nat) (l0 : List Int) (l1 : List (S33)) (l2 : List Int) (a3 : Int) : Option (Bool) := (purflingref16_wanted.f k l0).bind fun t438 => (if t438 = true then (if (l1.length : Int) = (l2.length : Int) then (if a3 < 0 then (purflingref16_Right.j0 k l0 l1 l2 true) else (purflingref16_Right.j0 k l0 l1 l2 (decide (a3 > 1073741824)))) else (purflingref16_Right.j0 k l0 l1 l2 true)) else (purflingref16_Right.j0 k l0 l1 l2 true))
theorem purflingref16_Right.mono_l : ∀ k, (∀ y0 y1 y2 y3, LeO (purflingref16_Right.j0 k y0 y1 y2 y3) (purflingref16_Right.j0 (k + 1) y0 y1 y2 y3)) ∧ (∀ y0 y1 y2 y3, LeO (purflingref16_Right.l0 k y0 y1 y2 y3) (purflingref16_Right.l0 (k + 1) y0 y1 y2 y3))
 | 0 => ⟨fun _ _ _ _ r h => by simp [purflingref16_Right.j0] at h, fun _ _ _ _ r h => by simp [purflingref16_Right.l0] at h⟩
 | k + 1 => by
  obtain ⟨ih0, ih1⟩ := purflingref16_Right.mono_l k
  refine ⟨?_, ?_⟩
  ·intro y0 y1 y2 y3
   unfold purflingref16_Right.j0
   repeat' first
   | (with_reducible exact ih0 _ _ _ _)
   | (with_reducible exact ih1 _ _ _ _)
   | (with_reducible exact purflingref16_wanted.mono _ _)
   | (with_reducible exact LeO.refl _)
   | (with_reducible exact LeO.none _)
   | (with_reducible refine LeO.ite ?_ ?_)
   | (with_reducible refine LeO.bind ?_ (fun _ => ?_))
   | exact ih0 _ _ _ _
   | exact ih1 _ _ _ _
   | exact purflingref16_wanted.mono _ _
   | exact LeO.none _
   | refine LeO.ite ?_ ?_
   | refine LeO.bind ?_ (fun _ => ?_)
  ·intro y0 y1 y2 y3
   unfold purflingref16_Right.l0
   repeat' first
   | (with_reducible exact ih0 _ _ _ _)
   | (with_reducible exact ih1 _ _ _ _)
   | (with_reducible exact purflingref16_wanted.mono _ _)
   | (with_reducible exact LeO.refl _)
   | (with_reducible exact LeO.none _)
   | (with_reducible refine LeO.ite ?_ ?_)
   | (with_reducible refine LeO.bind ?_ (fun _ => ?_))
   | exact ih0 _ _ _ _
   | exact ih1 _ _ _ _
   | exact purflingref16_wanted.mono _ _
   | exact LeO.none _
   | refine LeO.ite ?_ ?_
   | refine LeO.bind ?_ (fun _ => ?_)
theorem purflingref16_Right.mono : ∀ a0 a1 a2 a3 k, LeO (purflingref16_Right.f k a0 a1 a2 a3) (purflingref16_Right.f (k + 1) a0 a1 a2 a3) := by
 intro a0 a1 a2 a3 k
 obtain ⟨ih0, ih1⟩ := purflingref16_Right.mono_l k
 unfold purflingref16_Right.f
 repeat' first
   | (with_reducible exact ih0 _ _ _ _)
   | (with_reducible exact ih1 _ _ _ _)
   | (with_reducible exact purflingref16_wanted.mono _ _)
   | (with_reducible exact LeO.refl _)
   | (with_reducible exact LeO.none _)
   | (with_reducible refine LeO.ite ?_ ?_)
   | (with_reducible refine LeO.bind ?_ (fun _ => ?_))
   | exact ih0 _ _ _ _
   | exact ih1 _ _ _ _
   | exact purflingref16_wanted.mono _ _
   | exact LeO.none _
   | refine LeO.ite ?_ ?_
   | refine LeO.bind ?_ (fun _ => ?_)
set_option maxHeartbeats 8000000 in
set_option maxRecDepth 100000 in
theorem purflingref16_Right.calls (k : Nat) (A0 : Option Addr) (c0 : Nat) (l0 : List Int) (A1 : Option Addr) (c1 : Nat) (l1 : List (S33)) (A2 : Option Addr) (c2 : Nat) (l2 : List Int) (a3 : Int) (r : Bool) (w : World) (hr0 : Kd.C (Kd.int .i64) w A0 l0.length l0) (hc0 : l0.length ≤ c0) (hr1 : Kd.C k33 w A1 l1.length l1) (hc1 : l1.length ≤ c1) (hr2 : Kd.C (Kd.int .i64) w A2 l2.length l2) (hc2 : l2.length ≤ c2) (h : purflingref16_Right.f k l0 l1 l2 a3 = some r) :
  Calls Try.prog 28 #[.slice A0 l0.length c0, .slice A1 l1.length c1, .slice A2 l2.length c2, .int .i64 a3] w fun e w' => e = .returned (.bool r) ∧ Below w.heap.size w w' := by
 have hu33 := Try.underlying33
 have HR0 := Aside0.mk hr0
 have HC0 := Aside0.mk hc0
 clear hr0 hc0
 have HR1 := Aside0.mk hr1
 have HC1 := Aside0.mk hc1
 clear hr1 hc1
 have HR2 := Aside0.mk hr2
 have HC2 := Aside0.mk hc2
 clear hr2 hc2
 have HB := Aside0.mk (Below.refl w.heap.size w)
 have H : ((purflingref16_wanted.f k l0).bind fun t438 => (if t438 = true then (if (l1.length : Int) = (l2.length : Int) then (if a3 < 0 then (purflingref16_Right.j0 k l0 l1 l2 true) else (purflingref16_Right.j0 k l0 l1 l2 (decide (a3 > 1073741824)))) else (purflingref16_Right.j0 k l0 l1 l2 true)) else (purflingref16_Right.j0 k l0 l1 l2 true))) = some r := h
 clear h
 replace H := Option.bind_eq_some_iff.mp H
 obtain ⟨t438, A50, H⟩ := H
 replace H : (if t438 = true then (if (l1.length : Int) = (l2.length : Int) then (if a3 < 0 then (purflingref16_Right.j0 k l0 l1 l2 true) else (purflingref16_Right.j0 k l0 l1 l2 (decide (a3 > 1073741824)))) else (purflingref16_Right.j0 k l0 l1 l2 true)) else (purflingref16_Right.j0 k l0 l1 l2 true)) = some r := H
 have A5 := Aside0.mk A50
 clear A50
 have HC6 := Aside0.mk H
 clear H
 go_enter Try.func28, Try.ntmps28
 go_upto_region 2 with (first | ((with_reducible refine gate_callee (f := 55) rfl ?_); refine goesL_ (some 13) rfl rfl Try.func55 (by kernel_rfl) rfl #[.slice A0 l0.length c0] rfl (by (try simp only [List.map_toArray, List.map_cons, List.map_nil]); first | done | rfl | (simp only [List.length_drop, List.length_take]; rfl)) ?_; (with_reducible refine (purflingref16_wanted.calls k _ _ l0 t438 _ ?side1 ?side2 A5.out).mono ?_); (case side1 => repeat (first | exact HR0.out | (with_reducible refine Kd.C_alloc ?_ _) | (with_reducible refine Kd.C_drewN ?_ _) | (with_reducible refine Kd.C_drew ?_))); (case side2 => exact HC0.out); rintro e w' ⟨rfl, ⟨nd, rfl⟩⟩; refine ⟨_, rfl, ?_⟩))
 (try simp only [Act.put, List.setIfInBounds_toArray, List.set_cons_zero, List.set_cons_succ])
 go_cut [30] (fun v30 wc => ∃ (kq : Nat) (x30_5 : Bool), v30 = .bool x30_5 ∧ Aside0 (purflingref16_Right.j0 kq l0 l1 l2 x30_5 = some r) ∧ Aside0 (kq ≤ k) ∧ Aside0 (Below w.heap.size w wc))
 case first =>
  have H := HC6.out
  clear HC6
  by_cases c7 : t438 = true
  ·subst c7
   have H1 : (if (l1.length : Int) = (l2.length : Int) then (if a3 < 0 then (purflingref16_Right.j0 k l0 l1 l2 true) else (purflingref16_Right.j0 k l0 l1 l2 (decide (a3 > 1073741824)))) else (purflingref16_Right.j0 k l0 l1 l2 true)) = some r := by rw [if_pos rfl] at H; exact H
   clear H
   have H := H1
   clear H1
   by_cases c8 : (l1.length : Int) = (l2.length : Int)
   ·rw [if_pos c8] at H
    have c8b0 : ((l1.length : Int) == (l2.length : Int)) = true := beq_iff_eq.mpr c8
    have c8b1 : ((l1.length : Int) != (l2.length : Int)) = false := bne_eq_false_iff_eq.mpr c8
    have c8b2 : (l1.length == l2.length) = true := by first | simpa using c8 | (simp at c8 ⊢; omega)
    clear c8
    (first | rw [c8b0] | (simp only [i64_w, i32_w]; rw [c8b0]) | skip)
    by_cases c9 : a3 < 0
    ·rw [if_pos c9] at H
     have c9b0 : decide (a3 < 0) = true := decide_eq_true c9
     clear c9
     have H' := Aside0.mk H
     clear H
     go_wp2
     go_meet
     case rel => exact ⟨_, (true), (by first | rfl | (simp; done) | (simp [*]; done)), H', ⟨by first | omega | exact Nat.le_refl _⟩, ⟨by repeat (first | (with_reducible first | exact HB.out | apply below_alloc | apply pw_below_drewN | apply below_drew1) | exact HB.out)⟩⟩
    ·rw [if_neg c9] at H
     have c9b0 : decide (a3 < 0) = false := decide_eq_false c9
     clear c9
     have H' := Aside0.mk H
     clear H
     go_wp2
     go_meet
     case rel => exact ⟨_, (decide (a3 > 1073741824)), (by first | rfl | (simp; done) | (simp [*]; done)), H', ⟨by first | omega | exact Nat.le_refl _⟩, ⟨by repeat (first | (with_reducible first | exact HB.out | apply below_alloc | apply pw_below_drewN | apply below_drew1) | exact HB.out)⟩⟩
   ·rw [if_neg c8] at H
    have c8b0 : ((l1.length : Int) == (l2.length : Int)) = false := beq_eq_false_iff_ne.mpr c8
    have c8b1 : ((l1.length : Int) != (l2.length : Int)) = true := bne_iff_ne.mpr c8
    have c8b2 : (l1.length == l2.length) = false := by first | simpa using c8 | (simp at c8 ⊢; omega)
    (first | rw [c8b0] | (simp only [i64_w, i32_w]; rw [c8b0]) | skip)
    have H' := Aside0.mk H
    clear H
    go_wp2
    go_meet
    case rel => exact ⟨_, (true), (by first | rfl | (simp; done) | (simp [*]; done)), H', ⟨by first | omega | exact Nat.le_refl _⟩, ⟨by repeat (first | (with_reducible first | exact HB.out | apply below_alloc | apply pw_below_drewN | apply below_drew1) | exact HB.out)⟩⟩
  ·replace c7 := Bool.eq_false_iff.mpr c7
   subst c7
   have H1 : (purflingref16_Right.j0 k l0 l1 l2 true) = some r := by rw [if_neg (show ¬ (false = true) by decide)] at H; exact H
   clear H
   have H := H1
   clear H1
   have H' := Aside0.mk H
   clear H
   go_wp2
   go_meet
   case rel => exact ⟨_, (true), (by first | rfl | (simp; done) | (simp [*]; done)), H', ⟨by first | omega | exact Nat.le_refl _⟩, ⟨by repeat (first | (with_reducible first | exact HB.out | apply below_alloc | apply pw_below_drewN | apply below_drew1) | exact HB.out)⟩⟩
 case rest =>
  clear HC6
  try clear c1
  try clear c2
  try clear p2
  try clear c5
  try clear c7
  try clear c8
  try clear c8b0
  try clear c8b1
  try clear c8b2
  try clear c9
  try clear c9b0
  obtain ⟨kq, x30_5, rfl, HA, HJ5, HB⟩ := hcut
  cases kq with
  | zero => exact absurd HA.out (by simp [purflingref16_Right.j0])
  | succ kj5 =>
   have H := HA.out
   clear HA
   simp only [purflingref16_Right.j0] at H
   by_cases c10 : x30_5 = true
   ·subst c10
    have H1 : (some false) = some r := by rw [if_pos rfl] at H; exact H
    clear H
    have H := H1
    clear H1
    obtain rfl := Option.some.inj H
    go_wp2
    go_ret
    exact ⟨by first | rfl | (simp [errW_none, errW_some] <;> rfl) | (simp [*, errW_none, errW_some] <;> rfl), by repeat (first | (with_reducible first | exact HB.out | apply below_alloc | apply pw_below_drewN | apply below_drew1) | exact HB.out)⟩
   ·replace c10 := Bool.eq_false_iff.mpr c10
    subst c10
    have H1 : (purflingref16_Right.l0 kj5 l0 l1 l2 0) = some r := by rw [if_neg (show ¬ (false = true) by decide)] at H; exact H
    clear H
    have H := H1
    clear H1
    have H' := Aside0.mk H
    clear H
    go_wp2
    go_loopg [10] kj5 (fun kq v10 w' => ∃ (x10_2 : Int), v10 = .int .i64 x10_2 ∧ Aside0 (purflingref16_Right.l0 kq l0 l1 l2 x10_2 = some r) ∧ Aside0 (kq ≤ kj5) ∧ Aside0 (Below w.heap.size w w'))
    case atStart => exact ⟨(0), (by first | rfl | (simp; done) | (simp [*]; done)), H', ⟨Nat.le_refl _⟩, ⟨by repeat (first | (with_reducible first | exact HB.out | apply below_alloc | apply pw_below_drewN | apply below_drew1) | exact HB.out)⟩⟩
    case round =>
     clear H'
     try clear c1
     try clear c2
     try clear p2
     try clear c5
     try clear c7
     try clear c8
     try clear c8b0
     try clear c8b1
     try clear c8b2
     try clear c9
     try clear c9b0
     try clear c10
     try clear p2
     obtain ⟨x10_2, rfl, HA, HK2, HB⟩ := hrel
     cases gk with
     | zero => exact absurd HA.out (by simp [purflingref16_Right.l0])
     | succ k2 =>
      have H := HA.out
      clear HA
      simp only [purflingref16_Right.l0] at H
      by_cases c11 : x10_2 < (l1.length : Int)
      ·rw [if_pos c11] at H
       have c11b0 : decide (x10_2 < (l1.length : Int)) = true := decide_eq_true c11
       clear c11
       by_cases c12 : 0 ≤ x10_2
       ·rw [if_pos c12] at H
        have c12b0 : decide (0 ≤ x10_2) = true := decide_eq_true c12
        clear c12
        by_cases c13 : x10_2 < (l2.length : Int)
        ·rw [if_pos c13] at H
         have c13b0 : decide (x10_2 < (l2.length : Int)) = true := decide_eq_true c13
         clear c13
         by_cases c14 : (rd l2 x10_2) < 0
         ·rw [if_pos c14] at H
          have c14b0 : decide ((rd l2 x10_2) < 0) = true := decide_eq_true c14
          clear c14
          obtain rfl := Option.some.inj H
          have p439 : 0 ≤ (x10_2 : Int) := of_decide_eq_true (by first | (with_reducible assumption) | assumption)
          have q439 : x10_2 < (l1.length : Int) := of_decide_eq_true (by first | (with_reducible assumption) | assumption)
          obtain ⟨ad439, e439, hx439_0, hx439_1, hx439_2, hx439_3, hx439_4⟩ := at_T33 HR1.out x10_2 p439 q439
          cases e439
          replace hx439_0 := (HB.out.cell (World.block_lt_of_cell? w _ hx439_0)).trans hx439_0
          replace hx439_1 := (HB.out.cell (World.block_lt_of_cell? w _ hx439_1)).trans hx439_1
          replace hx439_2 := (HB.out.cell (World.block_lt_of_cell? w _ hx439_2)).trans hx439_2
          replace hx439_3 := (HB.out.cell (World.block_lt_of_cell? w _ hx439_3)).trans hx439_3
          replace hx439_4 := (HB.out.cell (World.block_lt_of_cell? w _ hx439_4)).trans hx439_4
          replace p439 := eq_true p439
          replace q439 := eq_true q439
          go_wp2_with (first | ((with_reducible refine gate_dst (N := 11) rfl ?_); (try (refine gate_guard (by rfl) ?_; dsimp only)); refine box_event ?hg (N := 11) ?hd (cs := #[.int .i64 0, .int .i64 0, .int .i64 0, .int .i64 0, .int .i64 0]) (t := 33) ?hr ?_; (case hd => rfl); (case hg => rfl); (case hr => first | (go_simp; done) | (go_simp; rfl)); intro gb440 hg w15 hbox hb; have n0_ := Aside0.mk (below_step (by repeat (first | (with_reducible first | exact HB.out | apply below_alloc | apply pw_below_drewN | apply below_drew1) | exact HB.out)) hb); have n1_ := Aside0.mk (hbox); have n2_ := Aside0.mk ((by rw [hg]; exact (below_size (by repeat (first | (with_reducible first | exact HB.out | apply below_alloc | apply pw_below_drewN | apply below_drew1) | exact HB.out))) : w.heap.size ≤ gb440)); have n3_ := Aside0.mk ((by rw [hg]; exact (below_size (by repeat (first | (with_reducible first | exact HB.out | apply below_alloc | apply pw_below_drewN | apply below_drew1) | exact HB.out))) : w.heap.size ≤ gb440)); clear HB; have HB := n0_; have BK440 := n1_; have GW440 := n2_; have GE440 := n3_; clear n0_ n1_ n2_ n3_; clear hb hbox hg; have hcz16_0 : w15.cell? ⟨gb440, 0, none⟩ = some (.int .i64 0) := (blk_cell BK440.out 0).trans rfl; have hcz16_1 : w15.cell? ⟨gb440, 1, none⟩ = some (.int .i64 0) := (blk_cell BK440.out 1).trans rfl; have hcz16_2 : w15.cell? ⟨gb440, 2, none⟩ = some (.int .i64 0) := (blk_cell BK440.out 2).trans rfl; have hcz16_3 : w15.cell? ⟨gb440, 3, none⟩ = some (.int .i64 0) := (blk_cell BK440.out 3).trans rfl; have hcz16_4 : w15.cell? ⟨gb440, 4, none⟩ = some (.int .i64 0) := (blk_cell BK440.out 4).trans rfl; have hfz16_0 := blk_frozen BK440.out 0; have hfz16_1 := blk_frozen BK440.out 1; have hfz16_2 := blk_frozen BK440.out 2; have hfz16_3 := blk_frozen BK440.out 3; have hfz16_4 := blk_frozen BK440.out 4; have p441 : 0 ≤ (x10_2 : Int) := of_decide_eq_true (by first | (with_reducible assumption) | assumption); have q441 : x10_2 < (l2.length : Int) := of_decide_eq_true (by first | (with_reducible assumption) | assumption); obtain ⟨ad441, e441, hx441_0⟩ := Kd.at_int HR2.out x10_2 p441 q441; cases e441; have hn441_0 : ad441.block ≠ gb440 := Nat.ne_of_lt (Nat.lt_of_lt_of_le (by have := World.block_lt_of_cell? _ _ hx441_0; first | rwa [add_block] at this | exact this) GW440.out); have hn441_1 : ad441.block ≠ gb440 := Nat.ne_of_lt (Nat.lt_of_lt_of_le (by have := World.block_lt_of_cell? _ _ hx441_0; first | rwa [add_block] at this | exact this) GW440.out); have hn441_2 : ad441.block ≠ gb440 := Nat.ne_of_lt (Nat.lt_of_lt_of_le (by have := World.block_lt_of_cell? _ _ hx441_0; first | rwa [add_block] at this | exact this) GW440.out); have hn441_3 : ad441.block ≠ gb440 := Nat.ne_of_lt (Nat.lt_of_lt_of_le (by have := World.block_lt_of_cell? _ _ hx441_0; first | rwa [add_block] at this | exact this) GW440.out); have hn441_4 : ad441.block ≠ gb440 := Nat.ne_of_lt (Nat.lt_of_lt_of_le (by have := World.block_lt_of_cell? _ _ hx441_0; first | rwa [add_block] at this | exact this) GW440.out); replace hx441_0 := (HB.out.cell (World.block_lt_of_cell? w _ hx441_0)).trans hx441_0; replace hx441_0 := (cell_far (p := ⟨gb440, 0, none⟩) (by first | (rw [add_block]; exact hn441_0) | (show (Addr.add _ _).block ≠ _; rw [add_block]; exact hn441_0) | exact hn441_0) (.int .i64 ((rd_T33 l1 x10_2).f0))).trans hx441_0; replace hx441_0 := (cell_far (p := ⟨gb440, 1, none⟩) (by first | (rw [add_block]; exact hn441_1) | (show (Addr.add _ _).block ≠ _; rw [add_block]; exact hn441_1) | exact hn441_1) (.int .i64 ((rd_T33 l1 x10_2).f1))).trans hx441_0; replace hx441_0 := (cell_far (p := ⟨gb440, 2, none⟩) (by first | (rw [add_block]; exact hn441_2) | (show (Addr.add _ _).block ≠ _; rw [add_block]; exact hn441_2) | exact hn441_2) (.int .i64 ((rd_T33 l1 x10_2).f2))).trans hx441_0; replace hx441_0 := (cell_far (p := ⟨gb440, 3, none⟩) (by first | (rw [add_block]; exact hn441_3) | (show (Addr.add _ _).block ≠ _; rw [add_block]; exact hn441_3) | exact hn441_3) (.int .i64 ((rd_T33 l1 x10_2).f3))).trans hx441_0; replace hx441_0 := (cell_far (p := ⟨gb440, 4, none⟩) (by first | (rw [add_block]; exact hn441_4) | (show (Addr.add _ _).block ≠ _; rw [add_block]; exact hn441_4) | exact hn441_4) (.int .i64 ((rd_T33 l1 x10_2).f4))).trans hx441_0; clear hn441_0; clear hn441_1; clear hn441_2; clear hn441_3; clear hn441_4; replace p441 := eq_true p441; replace q441 := eq_true q441))
          go_ret
          exact ⟨by first | rfl | (simp [errW_none, errW_some] <;> rfl) | (simp [*, errW_none, errW_some] <;> rfl), by repeat (first | (with_reducible first | exact HB.out | apply below_alloc | apply pw_below_drewN | apply below_drew1 | refine below_set ?_ GE440.out) | exact HB.out)⟩
         ·rw [if_neg c14] at H
          have c14b0 : decide ((rd l2 x10_2) < 0) = false := decide_eq_false c14
          clear c14
          by_cases c17 : (rd l2 x10_2) > 1125899906842623
          ·rw [if_pos c17] at H
           have c17b0 : decide (1125899906842623 < (rd l2 x10_2)) = true := decide_eq_true c17
           clear c17
           obtain rfl := Option.some.inj H
           have p439 : 0 ≤ (x10_2 : Int) := of_decide_eq_true (by first | (with_reducible assumption) | assumption)
           have q439 : x10_2 < (l1.length : Int) := of_decide_eq_true (by first | (with_reducible assumption) | assumption)
           obtain ⟨ad439, e439, hx439_0, hx439_1, hx439_2, hx439_3, hx439_4⟩ := at_T33 HR1.out x10_2 p439 q439
           cases e439
           replace hx439_0 := (HB.out.cell (World.block_lt_of_cell? w _ hx439_0)).trans hx439_0
           replace hx439_1 := (HB.out.cell (World.block_lt_of_cell? w _ hx439_1)).trans hx439_1
           replace hx439_2 := (HB.out.cell (World.block_lt_of_cell? w _ hx439_2)).trans hx439_2
           replace hx439_3 := (HB.out.cell (World.block_lt_of_cell? w _ hx439_3)).trans hx439_3
           replace hx439_4 := (HB.out.cell (World.block_lt_of_cell? w _ hx439_4)).trans hx439_4
           replace p439 := eq_true p439
           replace q439 := eq_true q439
           go_wp2_with (first | ((with_reducible refine gate_dst (N := 11) rfl ?_); (try (refine gate_guard (by rfl) ?_; dsimp only)); refine box_event ?hg (N := 11) ?hd (cs := #[.int .i64 0, .int .i64 0, .int .i64 0, .int .i64 0, .int .i64 0]) (t := 33) ?hr ?_; (case hd => rfl); (case hg => rfl); (case hr => first | (go_simp; done) | (go_simp; rfl)); intro gb440 hg w18 hbox hb; have n0_ := Aside0.mk (below_step (by repeat (first | (with_reducible first | exact HB.out | apply below_alloc | apply pw_below_drewN | apply below_drew1) | exact HB.out)) hb); have n1_ := Aside0.mk (hbox); have n2_ := Aside0.mk ((by rw [hg]; exact (below_size (by repeat (first | (with_reducible first | exact HB.out | apply below_alloc | apply pw_below_drewN | apply below_drew1) | exact HB.out))) : w.heap.size ≤ gb440)); have n3_ := Aside0.mk ((by rw [hg]; exact (below_size (by repeat (first | (with_reducible first | exact HB.out | apply below_alloc | apply pw_below_drewN | apply below_drew1) | exact HB.out))) : w.heap.size ≤ gb440)); clear HB; have HB := n0_; have BK440 := n1_; have GW440 := n2_; have GE440 := n3_; clear n0_ n1_ n2_ n3_; clear hb hbox hg; have hcz19_0 : w18.cell? ⟨gb440, 0, none⟩ = some (.int .i64 0) := (blk_cell BK440.out 0).trans rfl; have hcz19_1 : w18.cell? ⟨gb440, 1, none⟩ = some (.int .i64 0) := (blk_cell BK440.out 1).trans rfl; have hcz19_2 : w18.cell? ⟨gb440, 2, none⟩ = some (.int .i64 0) := (blk_cell BK440.out 2).trans rfl; have hcz19_3 : w18.cell? ⟨gb440, 3, none⟩ = some (.int .i64 0) := (blk_cell BK440.out 3).trans rfl; have hcz19_4 : w18.cell? ⟨gb440, 4, none⟩ = some (.int .i64 0) := (blk_cell BK440.out 4).trans rfl; have hfz19_0 := blk_frozen BK440.out 0; have hfz19_1 := blk_frozen BK440.out 1; have hfz19_2 := blk_frozen BK440.out 2; have hfz19_3 := blk_frozen BK440.out 3; have hfz19_4 := blk_frozen BK440.out 4; have p441 : 0 ≤ (x10_2 : Int) := of_decide_eq_true (by first | (with_reducible assumption) | assumption); have q441 : x10_2 < (l2.length : Int) := of_decide_eq_true (by first | (with_reducible assumption) | assumption); obtain ⟨ad441, e441, hx441_0⟩ := Kd.at_int HR2.out x10_2 p441 q441; cases e441; have hn441_0 : ad441.block ≠ gb440 := Nat.ne_of_lt (Nat.lt_of_lt_of_le (by have := World.block_lt_of_cell? _ _ hx441_0; first | rwa [add_block] at this | exact this) GW440.out); have hn441_1 : ad441.block ≠ gb440 := Nat.ne_of_lt (Nat.lt_of_lt_of_le (by have := World.block_lt_of_cell? _ _ hx441_0; first | rwa [add_block] at this | exact this) GW440.out); have hn441_2 : ad441.block ≠ gb440 := Nat.ne_of_lt (Nat.lt_of_lt_of_le (by have := World.block_lt_of_cell? _ _ hx441_0; first | rwa [add_block] at this | exact this) GW440.out); have hn441_3 : ad441.block ≠ gb440 := Nat.ne_of_lt (Nat.lt_of_lt_of_le (by have := World.block_lt_of_cell? _ _ hx441_0; first | rwa [add_block] at this | exact this) GW440.out); have hn441_4 : ad441.block ≠ gb440 := Nat.ne_of_lt (Nat.lt_of_lt_of_le (by have := World.block_lt_of_cell? _ _ hx441_0; first | rwa [add_block] at this | exact this) GW440.out); replace hx441_0 := (HB.out.cell (World.block_lt_of_cell? w _ hx441_0)).trans hx441_0; replace hx441_0 := (cell_far (p := ⟨gb440, 0, none⟩) (by first | (rw [add_block]; exact hn441_0) | (show (Addr.add _ _).block ≠ _; rw [add_block]; exact hn441_0) | exact hn441_0) (.int .i64 ((rd_T33 l1 x10_2).f0))).trans hx441_0; replace hx441_0 := (cell_far (p := ⟨gb440, 1, none⟩) (by first | (rw [add_block]; exact hn441_1) | (show (Addr.add _ _).block ≠ _; rw [add_block]; exact hn441_1) | exact hn441_1) (.int .i64 ((rd_T33 l1 x10_2).f1))).trans hx441_0; replace hx441_0 := (cell_far (p := ⟨gb440, 2, none⟩) (by first | (rw [add_block]; exact hn441_2) | (show (Addr.add _ _).block ≠ _; rw [add_block]; exact hn441_2) | exact hn441_2) (.int .i64 ((rd_T33 l1 x10_2).f2))).trans hx441_0; replace hx441_0 := (cell_far (p := ⟨gb440, 3, none⟩) (by first | (rw [add_block]; exact hn441_3) | (show (Addr.add _ _).block ≠ _; rw [add_block]; exact hn441_3) | exact hn441_3) (.int .i64 ((rd_T33 l1 x10_2).f3))).trans hx441_0; replace hx441_0 := (cell_far (p := ⟨gb440, 4, none⟩) (by first | (rw [add_block]; exact hn441_4) | (show (Addr.add _ _).block ≠ _; rw [add_block]; exact hn441_4) | exact hn441_4) (.int .i64 ((rd_T33 l1 x10_2).f4))).trans hx441_0; clear hn441_0; clear hn441_1; clear hn441_2; clear hn441_3; clear hn441_4; replace p441 := eq_true p441; replace q441 := eq_true q441; have p442 : 0 ≤ (x10_2 : Int) := of_decide_eq_true (by first | (with_reducible assumption) | assumption); have q442 : x10_2 < (l2.length : Int) := of_decide_eq_true (by first | (with_reducible assumption) | assumption); obtain ⟨ad442, e442, hx442_0⟩ := Kd.at_int HR2.out x10_2 p442 q442; obtain rfl : ad441 = ad442 := (by injection e442); have hn442_0 : ad441.block ≠ gb440 := Nat.ne_of_lt (Nat.lt_of_lt_of_le (by have := World.block_lt_of_cell? _ _ hx442_0; first | rwa [add_block] at this | exact this) GW440.out); have hn442_1 : ad441.block ≠ gb440 := Nat.ne_of_lt (Nat.lt_of_lt_of_le (by have := World.block_lt_of_cell? _ _ hx442_0; first | rwa [add_block] at this | exact this) GW440.out); have hn442_2 : ad441.block ≠ gb440 := Nat.ne_of_lt (Nat.lt_of_lt_of_le (by have := World.block_lt_of_cell? _ _ hx442_0; first | rwa [add_block] at this | exact this) GW440.out); have hn442_3 : ad441.block ≠ gb440 := Nat.ne_of_lt (Nat.lt_of_lt_of_le (by have := World.block_lt_of_cell? _ _ hx442_0; first | rwa [add_block] at this | exact this) GW440.out); have hn442_4 : ad441.block ≠ gb440 := Nat.ne_of_lt (Nat.lt_of_lt_of_le (by have := World.block_lt_of_cell? _ _ hx442_0; first | rwa [add_block] at this | exact this) GW440.out); replace hx442_0 := (HB.out.cell (World.block_lt_of_cell? w _ hx442_0)).trans hx442_0; replace hx442_0 := (cell_far (p := ⟨gb440, 0, none⟩) (by first | (rw [add_block]; exact hn442_0) | (show (Addr.add _ _).block ≠ _; rw [add_block]; exact hn442_0) | exact hn442_0) (.int .i64 ((rd_T33 l1 x10_2).f0))).trans hx442_0; replace hx442_0 := (cell_far (p := ⟨gb440, 1, none⟩) (by first | (rw [add_block]; exact hn442_1) | (show (Addr.add _ _).block ≠ _; rw [add_block]; exact hn442_1) | exact hn442_1) (.int .i64 ((rd_T33 l1 x10_2).f1))).trans hx442_0; replace hx442_0 := (cell_far (p := ⟨gb440, 2, none⟩) (by first | (rw [add_block]; exact hn442_2) | (show (Addr.add _ _).block ≠ _; rw [add_block]; exact hn442_2) | exact hn442_2) (.int .i64 ((rd_T33 l1 x10_2).f2))).trans hx442_0; replace hx442_0 := (cell_far (p := ⟨gb440, 3, none⟩) (by first | (rw [add_block]; exact hn442_3) | (show (Addr.add _ _).block ≠ _; rw [add_block]; exact hn442_3) | exact hn442_3) (.int .i64 ((rd_T33 l1 x10_2).f3))).trans hx442_0; replace hx442_0 := (cell_far (p := ⟨gb440, 4, none⟩) (by first | (rw [add_block]; exact hn442_4) | (show (Addr.add _ _).block ≠ _; rw [add_block]; exact hn442_4) | exact hn442_4) (.int .i64 ((rd_T33 l1 x10_2).f4))).trans hx442_0; clear hn442_0; clear hn442_1; clear hn442_2; clear hn442_3; clear hn442_4; replace p442 := eq_true p442; replace q442 := eq_true q442))
           go_ret
           exact ⟨by first | rfl | (simp [errW_none, errW_some] <;> rfl) | (simp [*, errW_none, errW_some] <;> rfl), by repeat (first | (with_reducible first | exact HB.out | apply below_alloc | apply pw_below_drewN | apply below_drew1 | refine below_set ?_ GE440.out) | exact HB.out)⟩
          ·rw [if_neg c17] at H
           have c17b0 : decide (1125899906842623 < (rd l2 x10_2)) = false := decide_eq_false c17
           clear c17
           by_cases c20 : ((rd_T33 l1 x10_2).f1) < 0
           ·rw [if_pos c20] at H
            have c20b0 : decide (((rd_T33 l1 x10_2).f1) < 0) = true := decide_eq_true c20
            clear c20
            obtain rfl := Option.some.inj H
            have p439 : 0 ≤ (x10_2 : Int) := of_decide_eq_true (by first | (with_reducible assumption) | assumption)
            have q439 : x10_2 < (l1.length : Int) := of_decide_eq_true (by first | (with_reducible assumption) | assumption)
            obtain ⟨ad439, e439, hx439_0, hx439_1, hx439_2, hx439_3, hx439_4⟩ := at_T33 HR1.out x10_2 p439 q439
            cases e439
            replace hx439_0 := (HB.out.cell (World.block_lt_of_cell? w _ hx439_0)).trans hx439_0
            replace hx439_1 := (HB.out.cell (World.block_lt_of_cell? w _ hx439_1)).trans hx439_1
            replace hx439_2 := (HB.out.cell (World.block_lt_of_cell? w _ hx439_2)).trans hx439_2
            replace hx439_3 := (HB.out.cell (World.block_lt_of_cell? w _ hx439_3)).trans hx439_3
            replace hx439_4 := (HB.out.cell (World.block_lt_of_cell? w _ hx439_4)).trans hx439_4
            replace p439 := eq_true p439
            replace q439 := eq_true q439
            go_wp2_with (first | ((with_reducible refine gate_dst (N := 11) rfl ?_); (try (refine gate_guard (by rfl) ?_; dsimp only)); refine box_event ?hg (N := 11) ?hd (cs := #[.int .i64 0, .int .i64 0, .int .i64 0, .int .i64 0, .int .i64 0]) (t := 33) ?hr ?_; (case hd => rfl); (case hg => rfl); (case hr => first | (go_simp; done) | (go_simp; rfl)); intro gb440 hg w21 hbox hb; have n0_ := Aside0.mk (below_step (by repeat (first | (with_reducible first | exact HB.out | apply below_alloc | apply pw_below_drewN | apply below_drew1) | exact HB.out)) hb); have n1_ := Aside0.mk (hbox); have n2_ := Aside0.mk ((by rw [hg]; exact (below_size (by repeat (first | (with_reducible first | exact HB.out | apply below_alloc | apply pw_below_drewN | apply below_drew1) | exact HB.out))) : w.heap.size ≤ gb440)); have n3_ := Aside0.mk ((by rw [hg]; exact (below_size (by repeat (first | (with_reducible first | exact HB.out | apply below_alloc | apply pw_below_drewN | apply below_drew1) | exact HB.out))) : w.heap.size ≤ gb440)); clear HB; have HB := n0_; have BK440 := n1_; have GW440 := n2_; have GE440 := n3_; clear n0_ n1_ n2_ n3_; clear hb hbox hg; have hcz22_0 : w21.cell? ⟨gb440, 0, none⟩ = some (.int .i64 0) := (blk_cell BK440.out 0).trans rfl; have hcz22_1 : w21.cell? ⟨gb440, 1, none⟩ = some (.int .i64 0) := (blk_cell BK440.out 1).trans rfl; have hcz22_2 : w21.cell? ⟨gb440, 2, none⟩ = some (.int .i64 0) := (blk_cell BK440.out 2).trans rfl; have hcz22_3 : w21.cell? ⟨gb440, 3, none⟩ = some (.int .i64 0) := (blk_cell BK440.out 3).trans rfl; have hcz22_4 : w21.cell? ⟨gb440, 4, none⟩ = some (.int .i64 0) := (blk_cell BK440.out 4).trans rfl; have hfz22_0 := blk_frozen BK440.out 0; have hfz22_1 := blk_frozen BK440.out 1; have hfz22_2 := blk_frozen BK440.out 2; have hfz22_3 := blk_frozen BK440.out 3; have hfz22_4 := blk_frozen BK440.out 4; have p441 : 0 ≤ (x10_2 : Int) := of_decide_eq_true (by first | (with_reducible assumption) | assumption); have q441 : x10_2 < (l2.length : Int) := of_decide_eq_true (by first | (with_reducible assumption) | assumption); obtain ⟨ad441, e441, hx441_0⟩ := Kd.at_int HR2.out x10_2 p441 q441; cases e441; have hn441_0 : ad441.block ≠ gb440 := Nat.ne_of_lt (Nat.lt_of_lt_of_le (by have := World.block_lt_of_cell? _ _ hx441_0; first | rwa [add_block] at this | exact this) GW440.out); have hn441_1 : ad441.block ≠ gb440 := Nat.ne_of_lt (Nat.lt_of_lt_of_le (by have := World.block_lt_of_cell? _ _ hx441_0; first | rwa [add_block] at this | exact this) GW440.out); have hn441_2 : ad441.block ≠ gb440 := Nat.ne_of_lt (Nat.lt_of_lt_of_le (by have := World.block_lt_of_cell? _ _ hx441_0; first | rwa [add_block] at this | exact this) GW440.out); have hn441_3 : ad441.block ≠ gb440 := Nat.ne_of_lt (Nat.lt_of_lt_of_le (by have := World.block_lt_of_cell? _ _ hx441_0; first | rwa [add_block] at this | exact this) GW440.out); have hn441_4 : ad441.block ≠ gb440 := Nat.ne_of_lt (Nat.lt_of_lt_of_le (by have := World.block_lt_of_cell? _ _ hx441_0; first | rwa [add_block] at this | exact this) GW440.out); replace hx441_0 := (HB.out.cell (World.block_lt_of_cell? w _ hx441_0)).trans hx441_0; replace hx441_0 := (cell_far (p := ⟨gb440, 0, none⟩) (by first | (rw [add_block]; exact hn441_0) | (show (Addr.add _ _).block ≠ _; rw [add_block]; exact hn441_0) | exact hn441_0) (.int .i64 ((rd_T33 l1 x10_2).f0))).trans hx441_0; replace hx441_0 := (cell_far (p := ⟨gb440, 1, none⟩) (by first | (rw [add_block]; exact hn441_1) | (show (Addr.add _ _).block ≠ _; rw [add_block]; exact hn441_1) | exact hn441_1) (.int .i64 ((rd_T33 l1 x10_2).f1))).trans hx441_0; replace hx441_0 := (cell_far (p := ⟨gb440, 2, none⟩) (by first | (rw [add_block]; exact hn441_2) | (show (Addr.add _ _).block ≠ _; rw [add_block]; exact hn441_2) | exact hn441_2) (.int .i64 ((rd_T33 l1 x10_2).f2))).trans hx441_0; replace hx441_0 := (cell_far (p := ⟨gb440, 3, none⟩) (by first | (rw [add_block]; exact hn441_3) | (show (Addr.add _ _).block ≠ _; rw [add_block]; exact hn441_3) | exact hn441_3) (.int .i64 ((rd_T33 l1 x10_2).f3))).trans hx441_0; replace hx441_0 := (cell_far (p := ⟨gb440, 4, none⟩) (by first | (rw [add_block]; exact hn441_4) | (show (Addr.add _ _).block ≠ _; rw [add_block]; exact hn441_4) | exact hn441_4) (.int .i64 ((rd_T33 l1 x10_2).f4))).trans hx441_0; clear hn441_0; clear hn441_1; clear hn441_2; clear hn441_3; clear hn441_4; replace p441 := eq_true p441; replace q441 := eq_true q441; have p442 : 0 ≤ (x10_2 : Int) := of_decide_eq_true (by first | (with_reducible assumption) | assumption); have q442 : x10_2 < (l2.length : Int) := of_decide_eq_true (by first | (with_reducible assumption) | assumption); obtain ⟨ad442, e442, hx442_0⟩ := Kd.at_int HR2.out x10_2 p442 q442; obtain rfl : ad441 = ad442 := (by injection e442); have hn442_0 : ad441.block ≠ gb440 := Nat.ne_of_lt (Nat.lt_of_lt_of_le (by have := World.block_lt_of_cell? _ _ hx442_0; first | rwa [add_block] at this | exact this) GW440.out); have hn442_1 : ad441.block ≠ gb440 := Nat.ne_of_lt (Nat.lt_of_lt_of_le (by have := World.block_lt_of_cell? _ _ hx442_0; first | rwa [add_block] at this | exact this) GW440.out); have hn442_2 : ad441.block ≠ gb440 := Nat.ne_of_lt (Nat.lt_of_lt_of_le (by have := World.block_lt_of_cell? _ _ hx442_0; first | rwa [add_block] at this | exact this) GW440.out); have hn442_3 : ad441.block ≠ gb440 := Nat.ne_of_lt (Nat.lt_of_lt_of_le (by have := World.block_lt_of_cell? _ _ hx442_0; first | rwa [add_block] at this | exact this) GW440.out); have hn442_4 : ad441.block ≠ gb440 := Nat.ne_of_lt (Nat.lt_of_lt_of_le (by have := World.block_lt_of_cell? _ _ hx442_0; first | rwa [add_block] at this | exact this) GW440.out); replace hx442_0 := (HB.out.cell (World.block_lt_of_cell? w _ hx442_0)).trans hx442_0; replace hx442_0 := (cell_far (p := ⟨gb440, 0, none⟩) (by first | (rw [add_block]; exact hn442_0) | (show (Addr.add _ _).block ≠ _; rw [add_block]; exact hn442_0) | exact hn442_0) (.int .i64 ((rd_T33 l1 x10_2).f0))).trans hx442_0; replace hx442_0 := (cell_far (p := ⟨gb440, 1, none⟩) (by first | (rw [add_block]; exact hn442_1) | (show (Addr.add _ _).block ≠ _; rw [add_block]; exact hn442_1) | exact hn442_1) (.int .i64 ((rd_T33 l1 x10_2).f1))).trans hx442_0; replace hx442_0 := (cell_far (p := ⟨gb440, 2, none⟩) (by first | (rw [add_block]; exact hn442_2) | (show (Addr.add _ _).block ≠ _; rw [add_block]; exact hn442_2) | exact hn442_2) (.int .i64 ((rd_T33 l1 x10_2).f2))).trans hx442_0; replace hx442_0 := (cell_far (p := ⟨gb440, 3, none⟩) (by first | (rw [add_block]; exact hn442_3) | (show (Addr.add _ _).block ≠ _; rw [add_block]; exact hn442_3) | exact hn442_3) (.int .i64 ((rd_T33 l1 x10_2).f3))).trans hx442_0; replace hx442_0 := (cell_far (p := ⟨gb440, 4, none⟩) (by first | (rw [add_block]; exact hn442_4) | (show (Addr.add _ _).block ≠ _; rw [add_block]; exact hn442_4) | exact hn442_4) (.int .i64 ((rd_T33 l1 x10_2).f4))).trans hx442_0; clear hn442_0; clear hn442_1; clear hn442_2; clear hn442_3; clear hn442_4; replace p442 := eq_true p442; replace q442 := eq_true q442))
            go_ret
            exact ⟨by first | rfl | (simp [errW_none, errW_some] <;> rfl) | (simp [*, errW_none, errW_some] <;> rfl), by repeat (first | (with_reducible first | exact HB.out | apply below_alloc | apply pw_below_drewN | apply below_drew1 | refine below_set ?_ GE440.out) | exact HB.out)⟩
           ·rw [if_neg c20] at H
            have c20b0 : decide (((rd_T33 l1 x10_2).f1) < 0) = false := decide_eq_false c20
            clear c20
            by_cases c23 : ((rd_T33 l1 x10_2).f1) > (l0.length : Int)
            ·rw [if_pos c23] at H
             have c23b0 : decide ((l0.length : Int) < ((rd_T33 l1 x10_2).f1)) = true := decide_eq_true c23
             clear c23
             obtain rfl := Option.some.inj H
             have p439 : 0 ≤ (x10_2 : Int) := of_decide_eq_true (by first | (with_reducible assumption) | assumption)
             have q439 : x10_2 < (l1.length : Int) := of_decide_eq_true (by first | (with_reducible assumption) | assumption)
             obtain ⟨ad439, e439, hx439_0, hx439_1, hx439_2, hx439_3, hx439_4⟩ := at_T33 HR1.out x10_2 p439 q439
             cases e439
             replace hx439_0 := (HB.out.cell (World.block_lt_of_cell? w _ hx439_0)).trans hx439_0
             replace hx439_1 := (HB.out.cell (World.block_lt_of_cell? w _ hx439_1)).trans hx439_1
             replace hx439_2 := (HB.out.cell (World.block_lt_of_cell? w _ hx439_2)).trans hx439_2
             replace hx439_3 := (HB.out.cell (World.block_lt_of_cell? w _ hx439_3)).trans hx439_3
             replace hx439_4 := (HB.out.cell (World.block_lt_of_cell? w _ hx439_4)).trans hx439_4
             replace p439 := eq_true p439
             replace q439 := eq_true q439
             go_wp2_with (first | ((with_reducible refine gate_dst (N := 11) rfl ?_); (try (refine gate_guard (by rfl) ?_; dsimp only)); refine box_event ?hg (N := 11) ?hd (cs := #[.int .i64 0, .int .i64 0, .int .i64 0, .int .i64 0, .int .i64 0]) (t := 33) ?hr ?_; (case hd => rfl); (case hg => rfl); (case hr => first | (go_simp; done) | (go_simp; rfl)); intro gb440 hg w24 hbox hb; have n0_ := Aside0.mk (below_step (by repeat (first | (with_reducible first | exact HB.out | apply below_alloc | apply pw_below_drewN | apply below_drew1) | exact HB.out)) hb); have n1_ := Aside0.mk (hbox); have n2_ := Aside0.mk ((by rw [hg]; exact (below_size (by repeat (first | (with_reducible first | exact HB.out | apply below_alloc | apply pw_below_drewN | apply below_drew1) | exact HB.out))) : w.heap.size ≤ gb440)); have n3_ := Aside0.mk ((by rw [hg]; exact (below_size (by repeat (first | (with_reducible first | exact HB.out | apply below_alloc | apply pw_below_drewN | apply below_drew1) | exact HB.out))) : w.heap.size ≤ gb440)); clear HB; have HB := n0_; have BK440 := n1_; have GW440 := n2_; have GE440 := n3_; clear n0_ n1_ n2_ n3_; clear hb hbox hg; have hcz25_0 : w24.cell? ⟨gb440, 0, none⟩ = some (.int .i64 0) := (blk_cell BK440.out 0).trans rfl; have hcz25_1 : w24.cell? ⟨gb440, 1, none⟩ = some (.int .i64 0) := (blk_cell BK440.out 1).trans rfl; have hcz25_2 : w24.cell? ⟨gb440, 2, none⟩ = some (.int .i64 0) := (blk_cell BK440.out 2).trans rfl; have hcz25_3 : w24.cell? ⟨gb440, 3, none⟩ = some (.int .i64 0) := (blk_cell BK440.out 3).trans rfl; have hcz25_4 : w24.cell? ⟨gb440, 4, none⟩ = some (.int .i64 0) := (blk_cell BK440.out 4).trans rfl; have hfz25_0 := blk_frozen BK440.out 0; have hfz25_1 := blk_frozen BK440.out 1; have hfz25_2 := blk_frozen BK440.out 2; have hfz25_3 := blk_frozen BK440.out 3; have hfz25_4 := blk_frozen BK440.out 4; have p441 : 0 ≤ (x10_2 : Int) := of_decide_eq_true (by first | (with_reducible assumption) | assumption); have q441 : x10_2 < (l2.length : Int) := of_decide_eq_true (by first | (with_reducible assumption) | assumption); obtain ⟨ad441, e441, hx441_0⟩ := Kd.at_int HR2.out x10_2 p441 q441; cases e441; have hn441_0 : ad441.block ≠ gb440 := Nat.ne_of_lt (Nat.lt_of_lt_of_le (by have := World.block_lt_of_cell? _ _ hx441_0; first | rwa [add_block] at this | exact this) GW440.out); have hn441_1 : ad441.block ≠ gb440 := Nat.ne_of_lt (Nat.lt_of_lt_of_le (by have := World.block_lt_of_cell? _ _ hx441_0; first | rwa [add_block] at this | exact this) GW440.out); have hn441_2 : ad441.block ≠ gb440 := Nat.ne_of_lt (Nat.lt_of_lt_of_le (by have := World.block_lt_of_cell? _ _ hx441_0; first | rwa [add_block] at this | exact this) GW440.out); have hn441_3 : ad441.block ≠ gb440 := Nat.ne_of_lt (Nat.lt_of_lt_of_le (by have := World.block_lt_of_cell? _ _ hx441_0; first | rwa [add_block] at this | exact this) GW440.out); have hn441_4 : ad441.block ≠ gb440 := Nat.ne_of_lt (Nat.lt_of_lt_of_le (by have := World.block_lt_of_cell? _ _ hx441_0; first | rwa [add_block] at this | exact this) GW440.out); replace hx441_0 := (HB.out.cell (World.block_lt_of_cell? w _ hx441_0)).trans hx441_0; replace hx441_0 := (cell_far (p := ⟨gb440, 0, none⟩) (by first | (rw [add_block]; exact hn441_0) | (show (Addr.add _ _).block ≠ _; rw [add_block]; exact hn441_0) | exact hn441_0) (.int .i64 ((rd_T33 l1 x10_2).f0))).trans hx441_0; replace hx441_0 := (cell_far (p := ⟨gb440, 1, none⟩) (by first | (rw [add_block]; exact hn441_1) | (show (Addr.add _ _).block ≠ _; rw [add_block]; exact hn441_1) | exact hn441_1) (.int .i64 ((rd_T33 l1 x10_2).f1))).trans hx441_0; replace hx441_0 := (cell_far (p := ⟨gb440, 2, none⟩) (by first | (rw [add_block]; exact hn441_2) | (show (Addr.add _ _).block ≠ _; rw [add_block]; exact hn441_2) | exact hn441_2) (.int .i64 ((rd_T33 l1 x10_2).f2))).trans hx441_0; replace hx441_0 := (cell_far (p := ⟨gb440, 3, none⟩) (by first | (rw [add_block]; exact hn441_3) | (show (Addr.add _ _).block ≠ _; rw [add_block]; exact hn441_3) | exact hn441_3) (.int .i64 ((rd_T33 l1 x10_2).f3))).trans hx441_0; replace hx441_0 := (cell_far (p := ⟨gb440, 4, none⟩) (by first | (rw [add_block]; exact hn441_4) | (show (Addr.add _ _).block ≠ _; rw [add_block]; exact hn441_4) | exact hn441_4) (.int .i64 ((rd_T33 l1 x10_2).f4))).trans hx441_0; clear hn441_0; clear hn441_1; clear hn441_2; clear hn441_3; clear hn441_4; replace p441 := eq_true p441; replace q441 := eq_true q441; have p442 : 0 ≤ (x10_2 : Int) := of_decide_eq_true (by first | (with_reducible assumption) | assumption); have q442 : x10_2 < (l2.length : Int) := of_decide_eq_true (by first | (with_reducible assumption) | assumption); obtain ⟨ad442, e442, hx442_0⟩ := Kd.at_int HR2.out x10_2 p442 q442; obtain rfl : ad441 = ad442 := (by injection e442); have hn442_0 : ad441.block ≠ gb440 := Nat.ne_of_lt (Nat.lt_of_lt_of_le (by have := World.block_lt_of_cell? _ _ hx442_0; first | rwa [add_block] at this | exact this) GW440.out); have hn442_1 : ad441.block ≠ gb440 := Nat.ne_of_lt (Nat.lt_of_lt_of_le (by have := World.block_lt_of_cell? _ _ hx442_0; first | rwa [add_block] at this | exact this) GW440.out); have hn442_2 : ad441.block ≠ gb440 := Nat.ne_of_lt (Nat.lt_of_lt_of_le (by have := World.block_lt_of_cell? _ _ hx442_0; first | rwa [add_block] at this | exact this) GW440.out); have hn442_3 : ad441.block ≠ gb440 := Nat.ne_of_lt (Nat.lt_of_lt_of_le (by have := World.block_lt_of_cell? _ _ hx442_0; first | rwa [add_block] at this | exact this) GW440.out); have hn442_4 : ad441.block ≠ gb440 := Nat.ne_of_lt (Nat.lt_of_lt_of_le (by have := World.block_lt_of_cell? _ _ hx442_0; first | rwa [add_block] at this | exact this) GW440.out); replace hx442_0 := (HB.out.cell (World.block_lt_of_cell? w _ hx442_0)).trans hx442_0; replace hx442_0 := (cell_far (p := ⟨gb440, 0, none⟩) (by first | (rw [add_block]; exact hn442_0) | (show (Addr.add _ _).block ≠ _; rw [add_block]; exact hn442_0) | exact hn442_0) (.int .i64 ((rd_T33 l1 x10_2).f0))).trans hx442_0; replace hx442_0 := (cell_far (p := ⟨gb440, 1, none⟩) (by first | (rw [add_block]; exact hn442_1) | (show (Addr.add _ _).block ≠ _; rw [add_block]; exact hn442_1) | exact hn442_1) (.int .i64 ((rd_T33 l1 x10_2).f1))).trans hx442_0; replace hx442_0 := (cell_far (p := ⟨gb440, 2, none⟩) (by first | (rw [add_block]; exact hn442_2) | (show (Addr.add _ _).block ≠ _; rw [add_block]; exact hn442_2) | exact hn442_2) (.int .i64 ((rd_T33 l1 x10_2).f2))).trans hx442_0; replace hx442_0 := (cell_far (p := ⟨gb440, 3, none⟩) (by first | (rw [add_block]; exact hn442_3) | (show (Addr.add _ _).block ≠ _; rw [add_block]; exact hn442_3) | exact hn442_3) (.int .i64 ((rd_T33 l1 x10_2).f3))).trans hx442_0; replace hx442_0 := (cell_far (p := ⟨gb440, 4, none⟩) (by first | (rw [add_block]; exact hn442_4) | (show (Addr.add _ _).block ≠ _; rw [add_block]; exact hn442_4) | exact hn442_4) (.int .i64 ((rd_T33 l1 x10_2).f4))).trans hx442_0; clear hn442_0; clear hn442_1; clear hn442_2; clear hn442_3; clear hn442_4; replace p442 := eq_true p442; replace q442 := eq_true q442))
             go_ret
             exact ⟨by first | rfl | (simp [errW_none, errW_some] <;> rfl) | (simp [*, errW_none, errW_some] <;> rfl), by repeat (first | (with_reducible first | exact HB.out | apply below_alloc | apply pw_below_drewN | apply below_drew1 | refine below_set ?_ GE440.out) | exact HB.out)⟩
            ·rw [if_neg c23] at H
             have c23b0 : decide ((l0.length : Int) < ((rd_T33 l1 x10_2).f1)) = false := decide_eq_false c23
             clear c23
             by_cases c26 : ((rd_T33 l1 x10_2).f3) < 1
             ·rw [if_pos c26] at H
              have c26b0 : decide (((rd_T33 l1 x10_2).f3) < 1) = true := decide_eq_true c26
              clear c26
              obtain rfl := Option.some.inj H
              have p439 : 0 ≤ (x10_2 : Int) := of_decide_eq_true (by first | (with_reducible assumption) | assumption)
              have q439 : x10_2 < (l1.length : Int) := of_decide_eq_true (by first | (with_reducible assumption) | assumption)
              obtain ⟨ad439, e439, hx439_0, hx439_1, hx439_2, hx439_3, hx439_4⟩ := at_T33 HR1.out x10_2 p439 q439
              cases e439
              replace hx439_0 := (HB.out.cell (World.block_lt_of_cell? w _ hx439_0)).trans hx439_0
              replace hx439_1 := (HB.out.cell (World.block_lt_of_cell? w _ hx439_1)).trans hx439_1
              replace hx439_2 := (HB.out.cell (World.block_lt_of_cell? w _ hx439_2)).trans hx439_2
              replace hx439_3 := (HB.out.cell (World.block_lt_of_cell? w _ hx439_3)).trans hx439_3
              replace hx439_4 := (HB.out.cell (World.block_lt_of_cell? w _ hx439_4)).trans hx439_4
              replace p439 := eq_true p439
              replace q439 := eq_true q439
              go_wp2_with (first | ((with_reducible refine gate_dst (N := 11) rfl ?_); (try (refine gate_guard (by rfl) ?_; dsimp only)); refine box_event ?hg (N := 11) ?hd (cs := #[.int .i64 0, .int .i64 0, .int .i64 0, .int .i64 0, .int .i64 0]) (t := 33) ?hr ?_; (case hd => rfl); (case hg => rfl); (case hr => first | (go_simp; done) | (go_simp; rfl)); intro gb440 hg w27 hbox hb; have n0_ := Aside0.mk (below_step (by repeat (first | (with_reducible first | exact HB.out | apply below_alloc | apply pw_below_drewN | apply below_drew1) | exact HB.out)) hb); have n1_ := Aside0.mk (hbox); have n2_ := Aside0.mk ((by rw [hg]; exact (below_size (by repeat (first | (with_reducible first | exact HB.out | apply below_alloc | apply pw_below_drewN | apply below_drew1) | exact HB.out))) : w.heap.size ≤ gb440)); have n3_ := Aside0.mk ((by rw [hg]; exact (below_size (by repeat (first | (with_reducible first | exact HB.out | apply below_alloc | apply pw_below_drewN | apply below_drew1) | exact HB.out))) : w.heap.size ≤ gb440)); clear HB; have HB := n0_; have BK440 := n1_; have GW440 := n2_; have GE440 := n3_; clear n0_ n1_ n2_ n3_; clear hb hbox hg; have hcz28_0 : w27.cell? ⟨gb440, 0, none⟩ = some (.int .i64 0) := (blk_cell BK440.out 0).trans rfl; have hcz28_1 : w27.cell? ⟨gb440, 1, none⟩ = some (.int .i64 0) := (blk_cell BK440.out 1).trans rfl; have hcz28_2 : w27.cell? ⟨gb440, 2, none⟩ = some (.int .i64 0) := (blk_cell BK440.out 2).trans rfl; have hcz28_3 : w27.cell? ⟨gb440, 3, none⟩ = some (.int .i64 0) := (blk_cell BK440.out 3).trans rfl; have hcz28_4 : w27.cell? ⟨gb440, 4, none⟩ = some (.int .i64 0) := (blk_cell BK440.out 4).trans rfl; have hfz28_0 := blk_frozen BK440.out 0; have hfz28_1 := blk_frozen BK440.out 1; have hfz28_2 := blk_frozen BK440.out 2; have hfz28_3 := blk_frozen BK440.out 3; have hfz28_4 := blk_frozen BK440.out 4; have p441 : 0 ≤ (x10_2 : Int) := of_decide_eq_true (by first | (with_reducible assumption) | assumption); have q441 : x10_2 < (l2.length : Int) := of_decide_eq_true (by first | (with_reducible assumption) | assumption); obtain ⟨ad441, e441, hx441_0⟩ := Kd.at_int HR2.out x10_2 p441 q441; cases e441; have hn441_0 : ad441.block ≠ gb440 := Nat.ne_of_lt (Nat.lt_of_lt_of_le (by have := World.block_lt_of_cell? _ _ hx441_0; first | rwa [add_block] at this | exact this) GW440.out); have hn441_1 : ad441.block ≠ gb440 := Nat.ne_of_lt (Nat.lt_of_lt_of_le (by have := World.block_lt_of_cell? _ _ hx441_0; first | rwa [add_block] at this | exact this) GW440.out); have hn441_2 : ad441.block ≠ gb440 := Nat.ne_of_lt (Nat.lt_of_lt_of_le (by have := World.block_lt_of_cell? _ _ hx441_0; first | rwa [add_block] at this | exact this) GW440.out); have hn441_3 : ad441.block ≠ gb440 := Nat.ne_of_lt (Nat.lt_of_lt_of_le (by have := World.block_lt_of_cell? _ _ hx441_0; first | rwa [add_block] at this | exact this) GW440.out); have hn441_4 : ad441.block ≠ gb440 := Nat.ne_of_lt (Nat.lt_of_lt_of_le (by have := World.block_lt_of_cell? _ _ hx441_0; first | rwa [add_block] at this | exact this) GW440.out); replace hx441_0 := (HB.out.cell (World.block_lt_of_cell? w _ hx441_0)).trans hx441_0; replace hx441_0 := (cell_far (p := ⟨gb440, 0, none⟩) (by first | (rw [add_block]; exact hn441_0) | (show (Addr.add _ _).block ≠ _; rw [add_block]; exact hn441_0) | exact hn441_0) (.int .i64 ((rd_T33 l1 x10_2).f0))).trans hx441_0; replace hx441_0 := (cell_far (p := ⟨gb440, 1, none⟩) (by first | (rw [add_block]; exact hn441_1) | (show (Addr.add _ _).block ≠ _; rw [add_block]; exact hn441_1) | exact hn441_1) (.int .i64 ((rd_T33 l1 x10_2).f1))).trans hx441_0; replace hx441_0 := (cell_far (p := ⟨gb440, 2, none⟩) (by first | (rw [add_block]; exact hn441_2) | (show (Addr.add _ _).block ≠ _; rw [add_block]; exact hn441_2) | exact hn441_2) (.int .i64 ((rd_T33 l1 x10_2).f2))).trans hx441_0; replace hx441_0 := (cell_far (p := ⟨gb440, 3, none⟩) (by first | (rw [add_block]; exact hn441_3) | (show (Addr.add _ _).block ≠ _; rw [add_block]; exact hn441_3) | exact hn441_3) (.int .i64 ((rd_T33 l1 x10_2).f3))).trans hx441_0; replace hx441_0 := (cell_far (p := ⟨gb440, 4, none⟩) (by first | (rw [add_block]; exact hn441_4) | (show (Addr.add _ _).block ≠ _; rw [add_block]; exact hn441_4) | exact hn441_4) (.int .i64 ((rd_T33 l1 x10_2).f4))).trans hx441_0; clear hn441_0; clear hn441_1; clear hn441_2; clear hn441_3; clear hn441_4; replace p441 := eq_true p441; replace q441 := eq_true q441; have p442 : 0 ≤ (x10_2 : Int) := of_decide_eq_true (by first | (with_reducible assumption) | assumption); have q442 : x10_2 < (l2.length : Int) := of_decide_eq_true (by first | (with_reducible assumption) | assumption); obtain ⟨ad442, e442, hx442_0⟩ := Kd.at_int HR2.out x10_2 p442 q442; obtain rfl : ad441 = ad442 := (by injection e442); have hn442_0 : ad441.block ≠ gb440 := Nat.ne_of_lt (Nat.lt_of_lt_of_le (by have := World.block_lt_of_cell? _ _ hx442_0; first | rwa [add_block] at this | exact this) GW440.out); have hn442_1 : ad441.block ≠ gb440 := Nat.ne_of_lt (Nat.lt_of_lt_of_le (by have := World.block_lt_of_cell? _ _ hx442_0; first | rwa [add_block] at this | exact this) GW440.out); have hn442_2 : ad441.block ≠ gb440 := Nat.ne_of_lt (Nat.lt_of_lt_of_le (by have := World.block_lt_of_cell? _ _ hx442_0; first | rwa [add_block] at this | exact this) GW440.out); have hn442_3 : ad441.block ≠ gb440 := Nat.ne_of_lt (Nat.lt_of_lt_of_le (by have := World.block_lt_of_cell? _ _ hx442_0; first | rwa [add_block] at this | exact this) GW440.out); have hn442_4 : ad441.block ≠ gb440 := Nat.ne_of_lt (Nat.lt_of_lt_of_le (by have := World.block_lt_of_cell? _ _ hx442_0; first | rwa [add_block] at this | exact this) GW440.out); replace hx442_0 := (HB.out.cell (World.block_lt_of_cell? w _ hx442_0)).trans hx442_0; replace hx442_0 := (cell_far (p := ⟨gb440, 0, none⟩) (by first | (rw [add_block]; exact hn442_0) | (show (Addr.add _ _).block ≠ _; rw [add_block]; exact hn442_0) | exact hn442_0) (.int .i64 ((rd_T33 l1 x10_2).f0))).trans hx442_0; replace hx442_0 := (cell_far (p := ⟨gb440, 1, none⟩) (by first | (rw [add_block]; exact hn442_1) | (show (Addr.add _ _).block ≠ _; rw [add_block]; exact hn442_1) | exact hn442_1) (.int .i64 ((rd_T33 l1 x10_2).f1))).trans hx442_0; replace hx442_0 := (cell_far (p := ⟨gb440, 2, none⟩) (by first | (rw [add_block]; exact hn442_2) | (show (Addr.add _ _).block ≠ _; rw [add_block]; exact hn442_2) | exact hn442_2) (.int .i64 ((rd_T33 l1 x10_2).f2))).trans hx442_0; replace hx442_0 := (cell_far (p := ⟨gb440, 3, none⟩) (by first | (rw [add_block]; exact hn442_3) | (show (Addr.add _ _).block ≠ _; rw [add_block]; exact hn442_3) | exact hn442_3) (.int .i64 ((rd_T33 l1 x10_2).f3))).trans hx442_0; replace hx442_0 := (cell_far (p := ⟨gb440, 4, none⟩) (by first | (rw [add_block]; exact hn442_4) | (show (Addr.add _ _).block ≠ _; rw [add_block]; exact hn442_4) | exact hn442_4) (.int .i64 ((rd_T33 l1 x10_2).f4))).trans hx442_0; clear hn442_0; clear hn442_1; clear hn442_2; clear hn442_3; clear hn442_4; replace p442 := eq_true p442; replace q442 := eq_true q442))
              go_ret
              exact ⟨by first | rfl | (simp [errW_none, errW_some] <;> rfl) | (simp [*, errW_none, errW_some] <;> rfl), by repeat (first | (with_reducible first | exact HB.out | apply below_alloc | apply pw_below_drewN | apply below_drew1 | refine below_set ?_ GE440.out) | exact HB.out)⟩
             ·rw [if_neg c26] at H
              have c26b0 : decide (((rd_T33 l1 x10_2).f3) < 1) = false := decide_eq_false c26
              clear c26
              by_cases c29 : ((rd_T33 l1 x10_2).f3) > (wrap64 ((l0.length : Int) - ((rd_T33 l1 x10_2).f1)))
              ·rw [if_pos c29] at H
               have c29b0 : decide ((wrap64 ((l0.length : Int) - ((rd_T33 l1 x10_2).f1))) < ((rd_T33 l1 x10_2).f3)) = true := decide_eq_true c29
               clear c29
               obtain rfl := Option.some.inj H
               have p439 : 0 ≤ (x10_2 : Int) := of_decide_eq_true (by first | (with_reducible assumption) | assumption)
               have q439 : x10_2 < (l1.length : Int) := of_decide_eq_true (by first | (with_reducible assumption) | assumption)
               obtain ⟨ad439, e439, hx439_0, hx439_1, hx439_2, hx439_3, hx439_4⟩ := at_T33 HR1.out x10_2 p439 q439
               cases e439
               replace hx439_0 := (HB.out.cell (World.block_lt_of_cell? w _ hx439_0)).trans hx439_0
               replace hx439_1 := (HB.out.cell (World.block_lt_of_cell? w _ hx439_1)).trans hx439_1
               replace hx439_2 := (HB.out.cell (World.block_lt_of_cell? w _ hx439_2)).trans hx439_2
               replace hx439_3 := (HB.out.cell (World.block_lt_of_cell? w _ hx439_3)).trans hx439_3
               replace hx439_4 := (HB.out.cell (World.block_lt_of_cell? w _ hx439_4)).trans hx439_4
               replace p439 := eq_true p439
               replace q439 := eq_true q439
               go_wp2_with (first | ((with_reducible refine gate_dst (N := 11) rfl ?_); (try (refine gate_guard (by rfl) ?_; dsimp only)); refine box_event ?hg (N := 11) ?hd (cs := #[.int .i64 0, .int .i64 0, .int .i64 0, .int .i64 0, .int .i64 0]) (t := 33) ?hr ?_; (case hd => rfl); (case hg => rfl); (case hr => first | (go_simp; done) | (go_simp; rfl)); intro gb440 hg w30 hbox hb; have n0_ := Aside0.mk (below_step (by repeat (first | (with_reducible first | exact HB.out | apply below_alloc | apply pw_below_drewN | apply below_drew1) | exact HB.out)) hb); have n1_ := Aside0.mk (hbox); have n2_ := Aside0.mk ((by rw [hg]; exact (below_size (by repeat (first | (with_reducible first | exact HB.out | apply below_alloc | apply pw_below_drewN | apply below_drew1) | exact HB.out))) : w.heap.size ≤ gb440)); have n3_ := Aside0.mk ((by rw [hg]; exact (below_size (by repeat (first | (with_reducible first | exact HB.out | apply below_alloc | apply pw_below_drewN | apply below_drew1) | exact HB.out))) : w.heap.size ≤ gb440)); clear HB; have HB := n0_; have BK440 := n1_; have GW440 := n2_; have GE440 := n3_; clear n0_ n1_ n2_ n3_; clear hb hbox hg; have hcz31_0 : w30.cell? ⟨gb440, 0, none⟩ = some (.int .i64 0) := (blk_cell BK440.out 0).trans rfl; have hcz31_1 : w30.cell? ⟨gb440, 1, none⟩ = some (.int .i64 0) := (blk_cell BK440.out 1).trans rfl; have hcz31_2 : w30.cell? ⟨gb440, 2, none⟩ = some (.int .i64 0) := (blk_cell BK440.out 2).trans rfl; have hcz31_3 : w30.cell? ⟨gb440, 3, none⟩ = some (.int .i64 0) := (blk_cell BK440.out 3).trans rfl; have hcz31_4 : w30.cell? ⟨gb440, 4, none⟩ = some (.int .i64 0) := (blk_cell BK440.out 4).trans rfl; have hfz31_0 := blk_frozen BK440.out 0; have hfz31_1 := blk_frozen BK440.out 1; have hfz31_2 := blk_frozen BK440.out 2; have hfz31_3 := blk_frozen BK440.out 3; have hfz31_4 := blk_frozen BK440.out 4; have p441 : 0 ≤ (x10_2 : Int) := of_decide_eq_true (by first | (with_reducible assumption) | assumption); have q441 : x10_2 < (l2.length : Int) := of_decide_eq_true (by first | (with_reducible assumption) | assumption); obtain ⟨ad441, e441, hx441_0⟩ := Kd.at_int HR2.out x10_2 p441 q441; cases e441; have hn441_0 : ad441.block ≠ gb440 := Nat.ne_of_lt (Nat.lt_of_lt_of_le (by have := World.block_lt_of_cell? _ _ hx441_0; first | rwa [add_block] at this | exact this) GW440.out); have hn441_1 : ad441.block ≠ gb440 := Nat.ne_of_lt (Nat.lt_of_lt_of_le (by have := World.block_lt_of_cell? _ _ hx441_0; first | rwa [add_block] at this | exact this) GW440.out); have hn441_2 : ad441.block ≠ gb440 := Nat.ne_of_lt (Nat.lt_of_lt_of_le (by have := World.block_lt_of_cell? _ _ hx441_0; first | rwa [add_block] at this | exact this) GW440.out); have hn441_3 : ad441.block ≠ gb440 := Nat.ne_of_lt (Nat.lt_of_lt_of_le (by have := World.block_lt_of_cell? _ _ hx441_0; first | rwa [add_block] at this | exact this) GW440.out); have hn441_4 : ad441.block ≠ gb440 := Nat.ne_of_lt (Nat.lt_of_lt_of_le (by have := World.block_lt_of_cell? _ _ hx441_0; first | rwa [add_block] at this | exact this) GW440.out); replace hx441_0 := (HB.out.cell (World.block_lt_of_cell? w _ hx441_0)).trans hx441_0; replace hx441_0 := (cell_far (p := ⟨gb440, 0, none⟩) (by first | (rw [add_block]; exact hn441_0) | (show (Addr.add _ _).block ≠ _; rw [add_block]; exact hn441_0) | exact hn441_0) (.int .i64 ((rd_T33 l1 x10_2).f0))).trans hx441_0; replace hx441_0 := (cell_far (p := ⟨gb440, 1, none⟩) (by first | (rw [add_block]; exact hn441_1) | (show (Addr.add _ _).block ≠ _; rw [add_block]; exact hn441_1) | exact hn441_1) (.int .i64 ((rd_T33 l1 x10_2).f1))).trans hx441_0; replace hx441_0 := (cell_far (p := ⟨gb440, 2, none⟩) (by first | (rw [add_block]; exact hn441_2) | (show (Addr.add _ _).block ≠ _; rw [add_block]; exact hn441_2) | exact hn441_2) (.int .i64 ((rd_T33 l1 x10_2).f2))).trans hx441_0; replace hx441_0 := (cell_far (p := ⟨gb440, 3, none⟩) (by first | (rw [add_block]; exact hn441_3) | (show (Addr.add _ _).block ≠ _; rw [add_block]; exact hn441_3) | exact hn441_3) (.int .i64 ((rd_T33 l1 x10_2).f3))).trans hx441_0; replace hx441_0 := (cell_far (p := ⟨gb440, 4, none⟩) (by first | (rw [add_block]; exact hn441_4) | (show (Addr.add _ _).block ≠ _; rw [add_block]; exact hn441_4) | exact hn441_4) (.int .i64 ((rd_T33 l1 x10_2).f4))).trans hx441_0; clear hn441_0; clear hn441_1; clear hn441_2; clear hn441_3; clear hn441_4; replace p441 := eq_true p441; replace q441 := eq_true q441; have p442 : 0 ≤ (x10_2 : Int) := of_decide_eq_true (by first | (with_reducible assumption) | assumption); have q442 : x10_2 < (l2.length : Int) := of_decide_eq_true (by first | (with_reducible assumption) | assumption); obtain ⟨ad442, e442, hx442_0⟩ := Kd.at_int HR2.out x10_2 p442 q442; obtain rfl : ad441 = ad442 := (by injection e442); have hn442_0 : ad441.block ≠ gb440 := Nat.ne_of_lt (Nat.lt_of_lt_of_le (by have := World.block_lt_of_cell? _ _ hx442_0; first | rwa [add_block] at this | exact this) GW440.out); have hn442_1 : ad441.block ≠ gb440 := Nat.ne_of_lt (Nat.lt_of_lt_of_le (by have := World.block_lt_of_cell? _ _ hx442_0; first | rwa [add_block] at this | exact this) GW440.out); have hn442_2 : ad441.block ≠ gb440 := Nat.ne_of_lt (Nat.lt_of_lt_of_le (by have := World.block_lt_of_cell? _ _ hx442_0; first | rwa [add_block] at this | exact this) GW440.out); have hn442_3 : ad441.block ≠ gb440 := Nat.ne_of_lt (Nat.lt_of_lt_of_le (by have := World.block_lt_of_cell? _ _ hx442_0; first | rwa [add_block] at this | exact this) GW440.out); have hn442_4 : ad441.block ≠ gb440 := Nat.ne_of_lt (Nat.lt_of_lt_of_le (by have := World.block_lt_of_cell? _ _ hx442_0; first | rwa [add_block] at this | exact this) GW440.out); replace hx442_0 := (HB.out.cell (World.block_lt_of_cell? w _ hx442_0)).trans hx442_0; replace hx442_0 := (cell_far (p := ⟨gb440, 0, none⟩) (by first | (rw [add_block]; exact hn442_0) | (show (Addr.add _ _).block ≠ _; rw [add_block]; exact hn442_0) | exact hn442_0) (.int .i64 ((rd_T33 l1 x10_2).f0))).trans hx442_0; replace hx442_0 := (cell_far (p := ⟨gb440, 1, none⟩) (by first | (rw [add_block]; exact hn442_1) | (show (Addr.add _ _).block ≠ _; rw [add_block]; exact hn442_1) | exact hn442_1) (.int .i64 ((rd_T33 l1 x10_2).f1))).trans hx442_0; replace hx442_0 := (cell_far (p := ⟨gb440, 2, none⟩) (by first | (rw [add_block]; exact hn442_2) | (show (Addr.add _ _).block ≠ _; rw [add_block]; exact hn442_2) | exact hn442_2) (.int .i64 ((rd_T33 l1 x10_2).f2))).trans hx442_0; replace hx442_0 := (cell_far (p := ⟨gb440, 3, none⟩) (by first | (rw [add_block]; exact hn442_3) | (show (Addr.add _ _).block ≠ _; rw [add_block]; exact hn442_3) | exact hn442_3) (.int .i64 ((rd_T33 l1 x10_2).f3))).trans hx442_0; replace hx442_0 := (cell_far (p := ⟨gb440, 4, none⟩) (by first | (rw [add_block]; exact hn442_4) | (show (Addr.add _ _).block ≠ _; rw [add_block]; exact hn442_4) | exact hn442_4) (.int .i64 ((rd_T33 l1 x10_2).f4))).trans hx442_0; clear hn442_0; clear hn442_1; clear hn442_2; clear hn442_3; clear hn442_4; replace p442 := eq_true p442; replace q442 := eq_true q442))
               go_ret
               exact ⟨by first | rfl | (simp [errW_none, errW_some] <;> rfl) | (simp [*, errW_none, errW_some] <;> rfl), by repeat (first | (with_reducible first | exact HB.out | apply below_alloc | apply pw_below_drewN | apply below_drew1 | refine below_set ?_ GE440.out) | exact HB.out)⟩
              ·rw [if_neg c29] at H
               have c29b0 : decide ((wrap64 ((l0.length : Int) - ((rd_T33 l1 x10_2).f1))) < ((rd_T33 l1 x10_2).f3)) = false := decide_eq_false c29
               clear c29
               have H' := Aside0.mk H
               clear H
               have p439 : 0 ≤ (x10_2 : Int) := of_decide_eq_true (by first | (with_reducible assumption) | assumption)
               have q439 : x10_2 < (l1.length : Int) := of_decide_eq_true (by first | (with_reducible assumption) | assumption)
               obtain ⟨ad439, e439, hx439_0, hx439_1, hx439_2, hx439_3, hx439_4⟩ := at_T33 HR1.out x10_2 p439 q439
               cases e439
               replace hx439_0 := (HB.out.cell (World.block_lt_of_cell? w _ hx439_0)).trans hx439_0
               replace hx439_1 := (HB.out.cell (World.block_lt_of_cell? w _ hx439_1)).trans hx439_1
               replace hx439_2 := (HB.out.cell (World.block_lt_of_cell? w _ hx439_2)).trans hx439_2
               replace hx439_3 := (HB.out.cell (World.block_lt_of_cell? w _ hx439_3)).trans hx439_3
               replace hx439_4 := (HB.out.cell (World.block_lt_of_cell? w _ hx439_4)).trans hx439_4
               replace p439 := eq_true p439
               replace q439 := eq_true q439
               go_wp2_with (first | ((with_reducible refine gate_dst (N := 11) rfl ?_); (try (refine gate_guard (by rfl) ?_; dsimp only)); refine box_event ?hg (N := 11) ?hd (cs := #[.int .i64 0, .int .i64 0, .int .i64 0, .int .i64 0, .int .i64 0]) (t := 33) ?hr ?_; (case hd => rfl); (case hg => rfl); (case hr => first | (go_simp; done) | (go_simp; rfl)); intro gb440 hg w32 hbox hb; have n0_ := Aside0.mk (below_step (by repeat (first | (with_reducible first | exact HB.out | apply below_alloc | apply pw_below_drewN | apply below_drew1) | exact HB.out)) hb); have n1_ := Aside0.mk (hbox); have n2_ := Aside0.mk ((by rw [hg]; exact (below_size (by repeat (first | (with_reducible first | exact HB.out | apply below_alloc | apply pw_below_drewN | apply below_drew1) | exact HB.out))) : w.heap.size ≤ gb440)); have n3_ := Aside0.mk ((by rw [hg]; exact (below_size (by repeat (first | (with_reducible first | exact HB.out | apply below_alloc | apply pw_below_drewN | apply below_drew1) | exact HB.out))) : w.heap.size ≤ gb440)); clear HB; have HB := n0_; have BK440 := n1_; have GW440 := n2_; have GE440 := n3_; clear n0_ n1_ n2_ n3_; clear hb hbox hg; have hcz33_0 : w32.cell? ⟨gb440, 0, none⟩ = some (.int .i64 0) := (blk_cell BK440.out 0).trans rfl; have hcz33_1 : w32.cell? ⟨gb440, 1, none⟩ = some (.int .i64 0) := (blk_cell BK440.out 1).trans rfl; have hcz33_2 : w32.cell? ⟨gb440, 2, none⟩ = some (.int .i64 0) := (blk_cell BK440.out 2).trans rfl; have hcz33_3 : w32.cell? ⟨gb440, 3, none⟩ = some (.int .i64 0) := (blk_cell BK440.out 3).trans rfl; have hcz33_4 : w32.cell? ⟨gb440, 4, none⟩ = some (.int .i64 0) := (blk_cell BK440.out 4).trans rfl; have hfz33_0 := blk_frozen BK440.out 0; have hfz33_1 := blk_frozen BK440.out 1; have hfz33_2 := blk_frozen BK440.out 2; have hfz33_3 := blk_frozen BK440.out 3; have hfz33_4 := blk_frozen BK440.out 4; have p441 : 0 ≤ (x10_2 : Int) := of_decide_eq_true (by first | (with_reducible assumption) | assumption); have q441 : x10_2 < (l2.length : Int) := of_decide_eq_true (by first | (with_reducible assumption) | assumption); obtain ⟨ad441, e441, hx441_0⟩ := Kd.at_int HR2.out x10_2 p441 q441; cases e441; have hn441_0 : ad441.block ≠ gb440 := Nat.ne_of_lt (Nat.lt_of_lt_of_le (by have := World.block_lt_of_cell? _ _ hx441_0; first | rwa [add_block] at this | exact this) GW440.out); have hn441_1 : ad441.block ≠ gb440 := Nat.ne_of_lt (Nat.lt_of_lt_of_le (by have := World.block_lt_of_cell? _ _ hx441_0; first | rwa [add_block] at this | exact this) GW440.out); have hn441_2 : ad441.block ≠ gb440 := Nat.ne_of_lt (Nat.lt_of_lt_of_le (by have := World.block_lt_of_cell? _ _ hx441_0; first | rwa [add_block] at this | exact this) GW440.out); have hn441_3 : ad441.block ≠ gb440 := Nat.ne_of_lt (Nat.lt_of_lt_of_le (by have := World.block_lt_of_cell? _ _ hx441_0; first | rwa [add_block] at this | exact this) GW440.out); have hn441_4 : ad441.block ≠ gb440 := Nat.ne_of_lt (Nat.lt_of_lt_of_le (by have := World.block_lt_of_cell? _ _ hx441_0; first | rwa [add_block] at this | exact this) GW440.out); replace hx441_0 := (HB.out.cell (World.block_lt_of_cell? w _ hx441_0)).trans hx441_0; replace hx441_0 := (cell_far (p := ⟨gb440, 0, none⟩) (by first | (rw [add_block]; exact hn441_0) | (show (Addr.add _ _).block ≠ _; rw [add_block]; exact hn441_0) | exact hn441_0) (.int .i64 ((rd_T33 l1 x10_2).f0))).trans hx441_0; replace hx441_0 := (cell_far (p := ⟨gb440, 1, none⟩) (by first | (rw [add_block]; exact hn441_1) | (show (Addr.add _ _).block ≠ _; rw [add_block]; exact hn441_1) | exact hn441_1) (.int .i64 ((rd_T33 l1 x10_2).f1))).trans hx441_0; replace hx441_0 := (cell_far (p := ⟨gb440, 2, none⟩) (by first | (rw [add_block]; exact hn441_2) | (show (Addr.add _ _).block ≠ _; rw [add_block]; exact hn441_2) | exact hn441_2) (.int .i64 ((rd_T33 l1 x10_2).f2))).trans hx441_0; replace hx441_0 := (cell_far (p := ⟨gb440, 3, none⟩) (by first | (rw [add_block]; exact hn441_3) | (show (Addr.add _ _).block ≠ _; rw [add_block]; exact hn441_3) | exact hn441_3) (.int .i64 ((rd_T33 l1 x10_2).f3))).trans hx441_0; replace hx441_0 := (cell_far (p := ⟨gb440, 4, none⟩) (by first | (rw [add_block]; exact hn441_4) | (show (Addr.add _ _).block ≠ _; rw [add_block]; exact hn441_4) | exact hn441_4) (.int .i64 ((rd_T33 l1 x10_2).f4))).trans hx441_0; clear hn441_0; clear hn441_1; clear hn441_2; clear hn441_3; clear hn441_4; replace p441 := eq_true p441; replace q441 := eq_true q441; have p442 : 0 ≤ (x10_2 : Int) := of_decide_eq_true (by first | (with_reducible assumption) | assumption); have q442 : x10_2 < (l2.length : Int) := of_decide_eq_true (by first | (with_reducible assumption) | assumption); obtain ⟨ad442, e442, hx442_0⟩ := Kd.at_int HR2.out x10_2 p442 q442; obtain rfl : ad441 = ad442 := (by injection e442); have hn442_0 : ad441.block ≠ gb440 := Nat.ne_of_lt (Nat.lt_of_lt_of_le (by have := World.block_lt_of_cell? _ _ hx442_0; first | rwa [add_block] at this | exact this) GW440.out); have hn442_1 : ad441.block ≠ gb440 := Nat.ne_of_lt (Nat.lt_of_lt_of_le (by have := World.block_lt_of_cell? _ _ hx442_0; first | rwa [add_block] at this | exact this) GW440.out); have hn442_2 : ad441.block ≠ gb440 := Nat.ne_of_lt (Nat.lt_of_lt_of_le (by have := World.block_lt_of_cell? _ _ hx442_0; first | rwa [add_block] at this | exact this) GW440.out); have hn442_3 : ad441.block ≠ gb440 := Nat.ne_of_lt (Nat.lt_of_lt_of_le (by have := World.block_lt_of_cell? _ _ hx442_0; first | rwa [add_block] at this | exact this) GW440.out); have hn442_4 : ad441.block ≠ gb440 := Nat.ne_of_lt (Nat.lt_of_lt_of_le (by have := World.block_lt_of_cell? _ _ hx442_0; first | rwa [add_block] at this | exact this) GW440.out); replace hx442_0 := (HB.out.cell (World.block_lt_of_cell? w _ hx442_0)).trans hx442_0; replace hx442_0 := (cell_far (p := ⟨gb440, 0, none⟩) (by first | (rw [add_block]; exact hn442_0) | (show (Addr.add _ _).block ≠ _; rw [add_block]; exact hn442_0) | exact hn442_0) (.int .i64 ((rd_T33 l1 x10_2).f0))).trans hx442_0; replace hx442_0 := (cell_far (p := ⟨gb440, 1, none⟩) (by first | (rw [add_block]; exact hn442_1) | (show (Addr.add _ _).block ≠ _; rw [add_block]; exact hn442_1) | exact hn442_1) (.int .i64 ((rd_T33 l1 x10_2).f1))).trans hx442_0; replace hx442_0 := (cell_far (p := ⟨gb440, 2, none⟩) (by first | (rw [add_block]; exact hn442_2) | (show (Addr.add _ _).block ≠ _; rw [add_block]; exact hn442_2) | exact hn442_2) (.int .i64 ((rd_T33 l1 x10_2).f2))).trans hx442_0; replace hx442_0 := (cell_far (p := ⟨gb440, 3, none⟩) (by first | (rw [add_block]; exact hn442_3) | (show (Addr.add _ _).block ≠ _; rw [add_block]; exact hn442_3) | exact hn442_3) (.int .i64 ((rd_T33 l1 x10_2).f3))).trans hx442_0; replace hx442_0 := (cell_far (p := ⟨gb440, 4, none⟩) (by first | (rw [add_block]; exact hn442_4) | (show (Addr.add _ _).block ≠ _; rw [add_block]; exact hn442_4) | exact hn442_4) (.int .i64 ((rd_T33 l1 x10_2).f4))).trans hx442_0; clear hn442_0; clear hn442_1; clear hn442_2; clear hn442_3; clear hn442_4; replace p442 := eq_true p442; replace q442 := eq_true q442))
               go_roundg k2
               case measure => have := HJ5.out; have := HK2.out; omega
               case rel => exact ⟨(wrap64 (x10_2 + 1)), (by first | rfl | (simp; done) | (simp [*]; done)), H', ⟨by have := HJ5.out; have := HK2.out; omega⟩, ⟨by repeat (first | (with_reducible first | exact HB.out | apply below_alloc | apply pw_below_drewN | apply below_drew1 | refine below_set ?_ GE440.out) | exact HB.out)⟩⟩
        ·rw [if_neg c13] at H
         exact absurd H (by simp)
       ·rw [if_neg c12] at H
        exact absurd H (by simp)
      ·rw [if_neg c11] at H
       have c11b0 : decide (x10_2 < (l1.length : Int)) = false := decide_eq_false c11
       clear c11
       obtain rfl := Option.some.inj H
       go_wp2
       go_ret
       exact ⟨by first | rfl | (simp [errW_none, errW_some] <;> rfl) | (simp [*, errW_none, errW_some] <;> rfl), by repeat (first | (with_reducible first | exact HB.out | apply below_alloc | apply pw_below_drewN | apply below_drew1) | exact HB.out)⟩

end Go.Proofs.Ytacigmhhegaieaa.PA
