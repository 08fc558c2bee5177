-- MADE by wip/tools/xprint.py of this repo: the kit's print.py, turned by this session, and texts by hand
import Derived.Test.YtgghbmhmpkeccaaPAx0
import Derived.Test.YtgghbmhmpkeccaaPAx16
import Derived.Test.YtgghbmhmpkeccaaPAx17
import Derived.Test.YtgghbmhmpkeccaaPAx19
namespace Go.Proofs.Ytgghbmhmpkeccaa.PA
open Go.RowKit Go.Proofs.YtgghbmhmpkeccaaW.PrintWords Go.Proofs.YtgghbmhmpkeccaaW.PrintLast Go.Proofs.YtgghbmhmpkeccaaW.PrintMore
attribute [local go_sem] max2_int min2_int max_two min_two max_three min_three max_four min_four   -- for this text's walks alone
set_option linter.unusedVariables false
set_option linter.unusedSimpArgs false

/-! ### purflinglaw16_shown: function 6 -/
def purflinglaw16_shown.f (k : Nat)  : Option (Bool) := (heights_Least.f (([(-1), (-1)] : List Int)) (([(⟨0, 0, 0, 1, 1⟩ : S35), (⟨0, 0, 0, 2, 1⟩ : S35)] : List (S35))) (([10, 40] : List Int)) 0).bind fun bt151 => ((heights_Stretch.f (([10, 30] : List Int)) (([(-1), (-1)] : List Int)) 60).bind fun bt161 => ((heights_Stretch.f ([] : List Int) ([] : List Int) 5).bind fun bt165 => (if bt151.2 = 0 then (if bt161.2 = 0 then (if bt165.2 = 160 then ((purflingref01_Same.f k bt151.1 (([40, 0] : List Int))).bind fun t172 => (if t172 = true then ((purflingref01_Same.f k bt161.1 (([15, 45] : List Int))).bind fun t176 => (some t176)) else (some false))) else (some false)) else (some false)) else (some false))))
theorem purflinglaw16_shown.mono : ∀ k, LeO (purflinglaw16_shown.f k ) (purflinglaw16_shown.f (k + 1) ) := by
 intro  k
 unfold purflinglaw16_shown.f
 repeat' first
   | (with_reducible exact purflingref01_Same.mono _ _ _)
   | (with_reducible exact LeO.refl _)
   | (with_reducible exact LeO.none _)
   | (with_reducible refine LeO.ite ?_ ?_)
   | (with_reducible refine LeO.bind ?_ (fun _ => ?_))
   | exact purflingref01_Same.mono _ _ _
   | exact LeO.none _
   | refine LeO.ite ?_ ?_
   | refine LeO.bind ?_ (fun _ => ?_)
set_option maxHeartbeats 8000000 in
set_option maxRecDepth 100000 in
theorem purflinglaw16_shown.true_ : purflinglaw16_shown.f 100 = some true := by decide +kernel
set_option maxHeartbeats 8000000 in
set_option maxRecDepth 100000 in
theorem purflinglaw16_shown.calls (k : Nat)  (r : Bool) (w : World) (h : purflinglaw16_shown.f k  = some r) :
  Calls Try.prog 6 #[] w fun e w' => e = .returned (.bool r) ∧ Below w.heap.size w w' := by
 have HR_ : Aside0 (r = true) := Aside0.mk <| by
  obtain ⟨K1, h1⟩ := Ev.of purflinglaw16_shown.mono h
  obtain ⟨K2, h2⟩ := Ev.of purflinglaw16_shown.mono purflinglaw16_shown.true_
  have h3 := (h1 (K1 + K2) (by omega)).symm.trans (h2 (K1 + K2) (by omega))
  simpa using h3
 have hu35 := Try.underlying35
 have HB := Aside0.mk (Below.refl w.heap.size w)
 have H : ((heights_Least.f (([(-1), (-1)] : List Int)) (([(⟨0, 0, 0, 1, 1⟩ : S35), (⟨0, 0, 0, 2, 1⟩ : S35)] : List (S35))) (([10, 40] : List Int)) 0).bind fun bt151 => ((heights_Stretch.f (([10, 30] : List Int)) (([(-1), (-1)] : List Int)) 60).bind fun bt161 => ((heights_Stretch.f ([] : List Int) ([] : List Int) 5).bind fun bt165 => (if bt151.2 = 0 then (if bt161.2 = 0 then (if bt165.2 = 160 then ((purflingref01_Same.f k bt151.1 (([40, 0] : List Int))).bind fun t172 => (if t172 = true then ((purflingref01_Same.f k bt161.1 (([15, 45] : List Int))).bind fun t176 => (some t176)) else (some false))) else (some false)) else (some false)) else (some false))))) = some r := h
 clear h
 obtain ⟨y142, hy142⟩ : ∃ y_ : List Int, y_ = (([(-1), (-1)] : List Int)) := ⟨_, rfl⟩
 replace H : ((heights_Least.f y142 (([(⟨0, 0, 0, 1, 1⟩ : S35), (⟨0, 0, 0, 2, 1⟩ : S35)] : List (S35))) (([10, 40] : List Int)) 0).bind fun bt151 => ((heights_Stretch.f (([10, 30] : List Int)) (([(-1), (-1)] : List Int)) 60).bind fun bt161 => ((heights_Stretch.f ([] : List Int) ([] : List Int) 5).bind fun bt165 => (if bt151.2 = 0 then (if bt161.2 = 0 then (if bt165.2 = 160 then ((purflingref01_Same.f k bt151.1 (([40, 0] : List Int))).bind fun t172 => (if t172 = true then ((purflingref01_Same.f k bt161.1 (([15, 45] : List Int))).bind fun t176 => (some t176)) else (some false))) else (some false)) else (some false)) else (some false))))) = some r := by first | (rw [hy142]; with_reducible exact H) | (have H2_ := (Option.bind_some _ _).symm.trans H; rw [hy142]; with_reducible exact H2_) | (have H2_ := (Option.bind_some _ _).symm.trans H; with_reducible exact H2_) | with_reducible exact H | (rw [hy142]; exact H) | exact H
 have Ny142 := Aside0.mk hy142
 clear hy142
 obtain ⟨y145, hy145⟩ : ∃ y_ : List (S35), y_ = (([(⟨0, 0, 0, 1, 1⟩ : S35), (⟨0, 0, 0, 2, 1⟩ : S35)] : List (S35))) := ⟨_, rfl⟩
 replace H : ((heights_Least.f y142 y145 (([10, 40] : List Int)) 0).bind fun bt151 => ((heights_Stretch.f (([10, 30] : List Int)) (([(-1), (-1)] : List Int)) 60).bind fun bt161 => ((heights_Stretch.f ([] : List Int) ([] : List Int) 5).bind fun bt165 => (if bt151.2 = 0 then (if bt161.2 = 0 then (if bt165.2 = 160 then ((purflingref01_Same.f k bt151.1 (([40, 0] : List Int))).bind fun t172 => (if t172 = true then ((purflingref01_Same.f k bt161.1 (([15, 45] : List Int))).bind fun t176 => (some t176)) else (some false))) else (some false)) else (some false)) else (some false))))) = some r := by first | (rw [hy145]; with_reducible exact H) | (have H2_ := (Option.bind_some _ _).symm.trans H; rw [hy145]; with_reducible exact H2_) | (have H2_ := (Option.bind_some _ _).symm.trans H; with_reducible exact H2_) | with_reducible exact H | (rw [hy145]; exact H) | exact H
 have Ny145 := Aside0.mk hy145
 clear hy145
 obtain ⟨y148, hy148⟩ : ∃ y_ : List Int, y_ = (([10, 40] : List Int)) := ⟨_, rfl⟩
 replace H : ((heights_Least.f y142 y145 y148 0).bind fun bt151 => ((heights_Stretch.f (([10, 30] : List Int)) (([(-1), (-1)] : List Int)) 60).bind fun bt161 => ((heights_Stretch.f ([] : List Int) ([] : List Int) 5).bind fun bt165 => (if bt151.2 = 0 then (if bt161.2 = 0 then (if bt165.2 = 160 then ((purflingref01_Same.f k bt151.1 (([40, 0] : List Int))).bind fun t172 => (if t172 = true then ((purflingref01_Same.f k bt161.1 (([15, 45] : List Int))).bind fun t176 => (some t176)) else (some false))) else (some false)) else (some false)) else (some false))))) = some r := by first | (rw [hy148]; with_reducible exact H) | (have H2_ := (Option.bind_some _ _).symm.trans H; rw [hy148]; with_reducible exact H2_) | (have H2_ := (Option.bind_some _ _).symm.trans H; with_reducible exact H2_) | with_reducible exact H | (rw [hy148]; exact H) | exact H
 have Ny148 := Aside0.mk hy148
 clear hy148
 replace H := Option.bind_eq_some_iff.mp H
 obtain ⟨⟨t151, t152⟩, A10, H⟩ := H
 replace H : ((heights_Stretch.f (([10, 30] : List Int)) (([(-1), (-1)] : List Int)) 60).bind fun bt161 => ((heights_Stretch.f ([] : List Int) ([] : List Int) 5).bind fun bt165 => (if t152 = 0 then (if bt161.2 = 0 then (if bt165.2 = 160 then ((purflingref01_Same.f k t151 (([40, 0] : List Int))).bind fun t172 => (if t172 = true then ((purflingref01_Same.f k bt161.1 (([15, 45] : List Int))).bind fun t176 => (some t176)) else (some false))) else (some false)) else (some false)) else (some false)))) = some r := H
 have A1 := Aside0.mk A10
 clear A10
 obtain ⟨y155, hy155⟩ : ∃ y_ : List Int, y_ = (([10, 30] : List Int)) := ⟨_, rfl⟩
 replace H : ((heights_Stretch.f y155 (([(-1), (-1)] : List Int)) 60).bind fun bt161 => ((heights_Stretch.f ([] : List Int) ([] : List Int) 5).bind fun bt165 => (if t152 = 0 then (if bt161.2 = 0 then (if bt165.2 = 160 then ((purflingref01_Same.f k t151 (([40, 0] : List Int))).bind fun t172 => (if t172 = true then ((purflingref01_Same.f k bt161.1 (([15, 45] : List Int))).bind fun t176 => (some t176)) else (some false))) else (some false)) else (some false)) else (some false)))) = some r := by first | (rw [hy155]; with_reducible exact H) | (have H2_ := (Option.bind_some _ _).symm.trans H; rw [hy155]; with_reducible exact H2_) | (have H2_ := (Option.bind_some _ _).symm.trans H; with_reducible exact H2_) | with_reducible exact H | (rw [hy155]; exact H) | exact H
 have Ny155 := Aside0.mk hy155
 clear hy155
 obtain ⟨y158, hy158⟩ : ∃ y_ : List Int, y_ = (([(-1), (-1)] : List Int)) := ⟨_, rfl⟩
 replace H : ((heights_Stretch.f y155 y158 60).bind fun bt161 => ((heights_Stretch.f ([] : List Int) ([] : List Int) 5).bind fun bt165 => (if t152 = 0 then (if bt161.2 = 0 then (if bt165.2 = 160 then ((purflingref01_Same.f k t151 (([40, 0] : List Int))).bind fun t172 => (if t172 = true then ((purflingref01_Same.f k bt161.1 (([15, 45] : List Int))).bind fun t176 => (some t176)) else (some false))) else (some false)) else (some false)) else (some false)))) = some r := by first | (rw [hy158]; with_reducible exact H) | (have H2_ := (Option.bind_some _ _).symm.trans H; rw [hy158]; with_reducible exact H2_) | (have H2_ := (Option.bind_some _ _).symm.trans H; with_reducible exact H2_) | with_reducible exact H | (rw [hy158]; exact H) | exact H
 have Ny158 := Aside0.mk hy158
 clear hy158
 replace H := Option.bind_eq_some_iff.mp H
 obtain ⟨⟨t161, t162⟩, A20, H⟩ := H
 replace H : ((heights_Stretch.f ([] : List Int) ([] : List Int) 5).bind fun bt165 => (if t152 = 0 then (if t162 = 0 then (if bt165.2 = 160 then ((purflingref01_Same.f k t151 (([40, 0] : List Int))).bind fun t172 => (if t172 = true then ((purflingref01_Same.f k t161 (([15, 45] : List Int))).bind fun t176 => (some t176)) else (some false))) else (some false)) else (some false)) else (some false))) = some r := H
 have A2 := Aside0.mk A20
 clear A20
 replace H := Option.bind_eq_some_iff.mp H
 obtain ⟨⟨t165, t166⟩, A30, H⟩ := H
 replace H : (if t152 = 0 then (if t162 = 0 then (if t166 = 160 then ((purflingref01_Same.f k t151 (([40, 0] : List Int))).bind fun t172 => (if t172 = true then ((purflingref01_Same.f k t161 (([15, 45] : List Int))).bind fun t176 => (some t176)) else (some false))) else (some false)) else (some false)) else (some false)) = some r := H
 have A3 := Aside0.mk A30
 clear A30
 by_cases c4 : t152 = 0
 ·rw [if_pos c4] at H
  have c4b0 : (t152 == 0) = true := beq_iff_eq.mpr c4
  have c4b1 : (t152 != 0) = false := bne_eq_false_iff_eq.mpr c4
  clear c4
  by_cases c5 : t162 = 0
  ·rw [if_pos c5] at H
   have c5b0 : (t162 == 0) = true := beq_iff_eq.mpr c5
   have c5b1 : (t162 != 0) = false := bne_eq_false_iff_eq.mpr c5
   clear c5
   by_cases c6 : t166 = 160
   ·rw [if_pos c6] at H
    have c6b0 : (t166 == 160) = true := beq_iff_eq.mpr c6
    have c6b1 : (t166 != 160) = false := bne_eq_false_iff_eq.mpr c6
    clear c6
    obtain ⟨y169, hy169⟩ : ∃ y_ : List Int, y_ = (([40, 0] : List Int)) := ⟨_, rfl⟩
    replace H : ((purflingref01_Same.f k t151 y169).bind fun t172 => (if t172 = true then ((purflingref01_Same.f k t161 (([15, 45] : List Int))).bind fun t176 => (some t176)) else (some false))) = some r := by first | (rw [hy169]; with_reducible exact H) | (have H2_ := (Option.bind_some _ _).symm.trans H; rw [hy169]; with_reducible exact H2_) | (have H2_ := (Option.bind_some _ _).symm.trans H; with_reducible exact H2_) | with_reducible exact H | (rw [hy169]; exact H) | exact H
    have Ny169 := Aside0.mk hy169
    clear hy169
    replace H := Option.bind_eq_some_iff.mp H
    obtain ⟨t172, A70, H⟩ := H
    replace H : (if t172 = true then ((purflingref01_Same.f k t161 (([15, 45] : List Int))).bind fun t176 => (some t176)) else (some false)) = some r := H
    have A7 := Aside0.mk A70
    clear A70
    by_cases c8 : t172 = true
    ·subst c8
     have H1 : ((purflingref01_Same.f k t161 (([15, 45] : List Int))).bind fun t176 => (some t176)) = some r := by rw [if_pos rfl] at H; exact H
     clear H
     have H := H1
     clear H1
     obtain ⟨y173, hy173⟩ : ∃ y_ : List Int, y_ = (([15, 45] : List Int)) := ⟨_, rfl⟩
     replace H : ((purflingref01_Same.f k t161 y173).bind fun t176 => (some t176)) = some r := by first | (rw [hy173]; with_reducible exact H) | (have H2_ := (Option.bind_some _ _).symm.trans H; rw [hy173]; with_reducible exact H2_) | (have H2_ := (Option.bind_some _ _).symm.trans H; with_reducible exact H2_) | with_reducible exact H | (rw [hy173]; exact H) | exact H
     have Ny173 := Aside0.mk hy173
     clear hy173
     replace H := Option.bind_eq_some_iff.mp H
     obtain ⟨t176, A90, H⟩ := H
     replace H : (some t176) = some r := H
     have A9 := Aside0.mk A90
     clear A90
     obtain rfl := Option.some.inj H
     go_enter Try.func6, Try.ntmps6
     go_wp2_with (first | ((with_reducible refine gate_dst (N := 8) rfl ?_); (try (refine gate_guard (by rfl) ?_; dsimp only)); refine Kd.R_lit (Kd.int .i64) _ 2 ?hg (N := 8) ?hd (xs := ([(-1), (-1)] : List Int)) (inner := [.int .i64 (-1), .int .i64 (-1)]) (ok := fun _ => True) (okp := fun _ => True) ?hr ?hp (fun _ hk => hk) trivial (Below.refl _ _) (Nat.le_refl _) (by simp) ?_; (case hd => rfl); (case hg => rfl); (case hr => first | (go_simp; done) | (go_simp; rfl)); (case hp => exact (Reps.one (show Kd.M (Kd.int .i64) _ _ _ (-1) [.int .i64 (-1)] from rfl) (Reps.one (show Kd.M (Kd.int .i64) _ _ _ (-1) [.int .i64 (-1)] from rfl) (Reps.none _ _)))); intro v143 w10 ho11 hb hg_ hnew_; clear hg_ hnew_; (first | rw [← Ny142.out] at ho11 | (simp only [Int.reduceToNat] at ho11; rw [← Ny142.out] at ho11)); have n0_ := Aside0.mk (Kd.R_lower ho11 (below_size (by repeat (first | (with_reducible first | exact HB.out | apply below_alloc | apply pw_below_drewN | apply below_drew1) | exact HB.out)))); have n1_ := Aside0.mk (below_step (by repeat (first | (with_reducible first | exact HB.out | apply below_alloc | apply pw_below_drewN | apply below_drew1) | exact HB.out)) hb); clear HB; have HO144 := n0_; have HB := n1_; clear n0_ n1_; clear hb ho11) | ((with_reducible refine gate_dst (N := 11) rfl ?_); (try (refine gate_guard (by rfl) ?_; dsimp only)); refine Kd.R_lit k35 _ 35 ?hg (N := 11) ?hd (xs := ([(⟨0, 0, 0, 1, 1⟩ : S35), (⟨0, 0, 0, 2, 1⟩ : S35)] : List (S35))) (inner := [.int .i64 0, .int .i64 0, .int .i64 0, .int .i64 1, .int .i64 1, .int .i64 0, .int .i64 0, .int .i64 0, .int .i64 2, .int .i64 1]) (ok := fun _ => True) (okp := fun _ => True) ?hr ?hp (fun _ hk => hk) trivial (Below.refl _ _) (Nat.le_refl _) (by simp) ?_; (case hd => rfl); (case hg => rfl); (case hr => first | (go_simp; done) | (go_simp; rfl)); (case hp => exact (Reps.c5 (show Kd.M k35 _ _ _ (⟨0, 0, 0, 1, 1⟩ : S35) [.int .i64 0, .int .i64 0, .int .i64 0, .int .i64 1, .int .i64 1] from (k35_mkM _ _ _ (⟨0, 0, 0, 1, 1⟩ : S35) )) (Reps.c5 (show Kd.M k35 _ _ _ (⟨0, 0, 0, 2, 1⟩ : S35) [.int .i64 0, .int .i64 0, .int .i64 0, .int .i64 2, .int .i64 1] from (k35_mkM _ _ _ (⟨0, 0, 0, 2, 1⟩ : S35) )) (Reps.none _ _)))); intro v146 w12 ho13 hb hg_ hnew_; clear hg_ hnew_; (first | rw [← Ny145.out] at ho13 | (simp only [Int.reduceToNat] at ho13; rw [← Ny145.out] at ho13)); have n0_ := Aside0.mk (Kd.R_below (by (with_reducible repeat (first | apply Kd.R_alloc | apply Kd.R_drewN | apply Kd.R_drew)); exact HO144.out) hb); have n1_ := Aside0.mk (Kd.R_lower ho13 (below_size (by repeat (first | (with_reducible first | exact HB.out | apply below_alloc | apply pw_below_drewN | apply below_drew1) | exact HB.out)))); have n2_ := Aside0.mk (below_step (by repeat (first | (with_reducible first | exact HB.out | apply below_alloc | apply pw_below_drewN | apply below_drew1) | exact HB.out)) hb); clear HO144; clear HB; have HO144 := n0_; have HO147 := n1_; have HB := n2_; clear n0_ n1_ n2_; clear hb ho13) | ((with_reducible refine gate_dst (N := 12) rfl ?_); (try (refine gate_guard (by rfl) ?_; dsimp only)); refine Kd.R_lit (Kd.int .i64) _ 2 ?hg (N := 12) ?hd (xs := ([10, 40] : List Int)) (inner := [.int .i64 10, .int .i64 40]) (ok := fun _ => True) (okp := fun _ => True) ?hr ?hp (fun _ hk => hk) trivial (Below.refl _ _) (Nat.le_refl _) (by simp) ?_; (case hd => rfl); (case hg => rfl); (case hr => first | (go_simp; done) | (go_simp; rfl)); (case hp => exact (Reps.one (show Kd.M (Kd.int .i64) _ _ _ 10 [.int .i64 10] from rfl) (Reps.one (show Kd.M (Kd.int .i64) _ _ _ 40 [.int .i64 40] from rfl) (Reps.none _ _)))); intro v149 w14 ho15 hb hg_ hnew_; clear hg_ hnew_; (first | rw [← Ny148.out] at ho15 | (simp only [Int.reduceToNat] at ho15; rw [← Ny148.out] at ho15)); have n0_ := Aside0.mk (Kd.R_elder' (by (with_reducible repeat (first | apply Kd.R_alloc | apply Kd.R_drewN | apply Kd.R_drew)); exact HO144.out) (Kd.R_base ho15) hb); have n1_ := Aside0.mk (Kd.R_below (by (with_reducible repeat (first | apply Kd.R_alloc | apply Kd.R_drewN | apply Kd.R_drew)); exact HO147.out) hb); have n2_ := Aside0.mk (Kd.R_lower (Kd.R_new' ho15 (Kd.R_lt (by (with_reducible repeat (first | apply Kd.R_alloc | apply Kd.R_drewN | apply Kd.R_drew)); exact HO144.out))) (below_size (by repeat (first | (with_reducible first | exact HB.out | apply below_alloc | apply pw_below_drewN | apply below_drew1) | exact HB.out)))); have n3_ := Aside0.mk (below_step (by repeat (first | (with_reducible first | exact HB.out | apply below_alloc | apply pw_below_drewN | apply below_drew1) | exact HB.out)) hb); clear HO144; clear HO147; clear HB; have HO144 := n0_; have HO147 := n1_; have HO150 := n2_; have HB := n3_; clear n0_ n1_ n2_ n3_; clear hb ho15; obtain ⟨Ao16, co16, eo16⟩ := Kd.R_slice HO144.out; subst eo16; obtain ⟨Ao17, co17, eo17⟩ := Kd.R_slice HO147.out; subst eo17; obtain ⟨Ao18, co18, eo18⟩ := Kd.R_slice HO150.out; subst eo18) | ((with_reducible refine gate_callee (f := 8) rfl ?_); refine goesL_ (some 13) rfl rfl Try.func8 (by kernel_rfl) rfl #[.slice Ao16 y142.length co16, .slice Ao17 y145.length co17, .slice Ao18 y148.length co18, .int .i64 0] rfl (by (try simp only [List.map_toArray, List.map_cons, List.map_nil]); first | done | rfl | (simp only [List.length_drop, List.length_take]; rfl)) ?_; (with_reducible refine (heights_Least.calls _ _ y142 _ _ y145 _ _ y148 0 t151 t152 _ ?side1 ?side2 ?side3 ?side4 ?side5 ?side6 A1.out).mono ?_); (case side1 => repeat (first | exact (Kd.R_reads' HO144.out).2.2 | (with_reducible refine Kd.C_alloc ?_ _) | (with_reducible refine Kd.C_drewN ?_ _) | (with_reducible refine Kd.C_drew ?_))); (case side2 => exact (Kd.R_reads' HO144.out).2.1); (case side3 => repeat (first | exact (Kd.R_reads' HO147.out).2.2 | (with_reducible refine Kd.C_alloc ?_ _) | (with_reducible refine Kd.C_drewN ?_ _) | (with_reducible refine Kd.C_drew ?_))); (case side4 => exact (Kd.R_reads' HO147.out).2.1); (case side5 => repeat (first | exact (Kd.R_reads' HO150.out).2.2 | (with_reducible refine Kd.C_alloc ?_ _) | (with_reducible refine Kd.C_drewN ?_ _) | (with_reducible refine Kd.C_drew ?_))); (case side6 => exact (Kd.R_reads' HO150.out).2.1); rintro e w19 ⟨v153, rfl, ho0, hb⟩; refine ⟨_, rfl, ?_⟩; have n0_ := Aside0.mk (Kd.R_elder' (by (with_reducible repeat (first | apply Kd.R_alloc | apply Kd.R_drewN | apply Kd.R_drew)); exact HO144.out) (Kd.R_base ho0) hb); have n1_ := Aside0.mk (Kd.R_below (by (with_reducible repeat (first | apply Kd.R_alloc | apply Kd.R_drewN | apply Kd.R_drew)); exact HO147.out) hb); have n2_ := Aside0.mk (Kd.R_elder' (by (with_reducible repeat (first | apply Kd.R_alloc | apply Kd.R_drewN | apply Kd.R_drew)); exact HO150.out) (Kd.R_base ho0) hb); have n3_ := Aside0.mk (Kd.R_lower (Kd.R_new' (Kd.R_new' ho0 (Kd.R_lt (by (with_reducible repeat (first | apply Kd.R_alloc | apply Kd.R_drewN | apply Kd.R_drew)); exact HO144.out))) (Kd.R_lt (by (with_reducible repeat (first | apply Kd.R_alloc | apply Kd.R_drewN | apply Kd.R_drew)); exact HO150.out))) (below_size (by repeat (first | (with_reducible first | exact HB.out | apply below_alloc | apply pw_below_drewN | apply below_drew1) | exact HB.out)))); have n4_ := Aside0.mk (below_step (by repeat (first | (with_reducible first | exact HB.out | apply below_alloc | apply pw_below_drewN | apply below_drew1) | exact HB.out)) hb); clear HO144; clear HO147; clear HO150; clear HB; have HO144 := n0_; have HO147 := n1_; have HO150 := n2_; have HO154 := n3_; have HB := n4_; clear n0_ n1_ n2_ n3_ n4_; (try clear hb); (try clear hb2); (try clear hk); (try clear hi); (try clear ho0)) | ((with_reducible refine gate_dst (N := 17) rfl ?_); (try (refine gate_guard (by rfl) ?_; dsimp only)); refine Kd.R_lit (Kd.int .i64) _ 2 ?hg (N := 17) ?hd (xs := ([10, 30] : List Int)) (inner := [.int .i64 10, .int .i64 30]) (ok := fun _ => True) (okp := fun _ => True) ?hr ?hp (fun _ hk => hk) trivial (Below.refl _ _) (Nat.le_refl _) (by simp) ?_; (case hd => rfl); (case hg => rfl); (case hr => first | (go_simp; done) | (go_simp; rfl)); (case hp => exact (Reps.one (show Kd.M (Kd.int .i64) _ _ _ 10 [.int .i64 10] from rfl) (Reps.one (show Kd.M (Kd.int .i64) _ _ _ 30 [.int .i64 30] from rfl) (Reps.none _ _)))); intro v156 w20 ho21 hb hg_ hnew_; clear hg_ hnew_; (first | rw [← Ny155.out] at ho21 | (simp only [Int.reduceToNat] at ho21; rw [← Ny155.out] at ho21)); have n0_ := Aside0.mk (Kd.R_elder' (by (with_reducible repeat (first | apply Kd.R_alloc | apply Kd.R_drewN | apply Kd.R_drew)); exact HO144.out) (Kd.R_base ho21) hb); have n1_ := Aside0.mk (Kd.R_below (by (with_reducible repeat (first | apply Kd.R_alloc | apply Kd.R_drewN | apply Kd.R_drew)); exact HO147.out) hb); have n2_ := Aside0.mk (Kd.R_elder' (by (with_reducible repeat (first | apply Kd.R_alloc | apply Kd.R_drewN | apply Kd.R_drew)); exact HO150.out) (Kd.R_base ho21) hb); have n3_ := Aside0.mk (Kd.R_elder' (by (with_reducible repeat (first | apply Kd.R_alloc | apply Kd.R_drewN | apply Kd.R_drew)); exact HO154.out) (Kd.R_base ho21) hb); have n4_ := Aside0.mk (Kd.R_lower (Kd.R_new' (Kd.R_new' (Kd.R_new' ho21 (Kd.R_lt (by (with_reducible repeat (first | apply Kd.R_alloc | apply Kd.R_drewN | apply Kd.R_drew)); exact HO144.out))) (Kd.R_lt (by (with_reducible repeat (first | apply Kd.R_alloc | apply Kd.R_drewN | apply Kd.R_drew)); exact HO150.out))) (Kd.R_lt (by (with_reducible repeat (first | apply Kd.R_alloc | apply Kd.R_drewN | apply Kd.R_drew)); exact HO154.out))) (below_size (by repeat (first | (with_reducible first | exact HB.out | apply below_alloc | apply pw_below_drewN | apply below_drew1) | exact HB.out)))); have n5_ := Aside0.mk (below_step (by repeat (first | (with_reducible first | exact HB.out | apply below_alloc | apply pw_below_drewN | apply below_drew1) | exact HB.out)) hb); clear HO144; clear HO147; clear HO150; clear HO154; clear HB; have HO144 := n0_; have HO147 := n1_; have HO150 := n2_; have HO154 := n3_; have HO157 := n4_; have HB := n5_; clear n0_ n1_ n2_ n3_ n4_ n5_; clear hb ho21) | ((with_reducible refine gate_dst (N := 18) rfl ?_); (try (refine gate_guard (by rfl) ?_; dsimp only)); refine Kd.R_lit (Kd.int .i64) _ 2 ?hg (N := 18) ?hd (xs := ([(-1), (-1)] : List Int)) (inner := [.int .i64 (-1), .int .i64 (-1)]) (ok := fun _ => True) (okp := fun _ => True) ?hr ?hp (fun _ hk => hk) trivial (Below.refl _ _) (Nat.le_refl _) (by simp) ?_; (case hd => rfl); (case hg => rfl); (case hr => first | (go_simp; done) | (go_simp; rfl)); (case hp => exact (Reps.one (show Kd.M (Kd.int .i64) _ _ _ (-1) [.int .i64 (-1)] from rfl) (Reps.one (show Kd.M (Kd.int .i64) _ _ _ (-1) [.int .i64 (-1)] from rfl) (Reps.none _ _)))); intro v159 w22 ho23 hb hg_ hnew_; clear hg_ hnew_; (first | rw [← Ny158.out] at ho23 | (simp only [Int.reduceToNat] at ho23; rw [← Ny158.out] at ho23)); have n0_ := Aside0.mk (Kd.R_elder' (by (with_reducible repeat (first | apply Kd.R_alloc | apply Kd.R_drewN | apply Kd.R_drew)); exact HO144.out) (Kd.R_base ho23) hb); have n1_ := Aside0.mk (Kd.R_below (by (with_reducible repeat (first | apply Kd.R_alloc | apply Kd.R_drewN | apply Kd.R_drew)); exact HO147.out) hb); have n2_ := Aside0.mk (Kd.R_elder' (by (with_reducible repeat (first | apply Kd.R_alloc | apply Kd.R_drewN | apply Kd.R_drew)); exact HO150.out) (Kd.R_base ho23) hb); have n3_ := Aside0.mk (Kd.R_elder' (by (with_reducible repeat (first | apply Kd.R_alloc | apply Kd.R_drewN | apply Kd.R_drew)); exact HO154.out) (Kd.R_base ho23) hb); have n4_ := Aside0.mk (Kd.R_elder' (by (with_reducible repeat (first | apply Kd.R_alloc | apply Kd.R_drewN | apply Kd.R_drew)); exact HO157.out) (Kd.R_base ho23) hb); have n5_ := Aside0.mk (Kd.R_lower (Kd.R_new' (Kd.R_new' (Kd.R_new' (Kd.R_new' ho23 (Kd.R_lt (by (with_reducible repeat (first | apply Kd.R_alloc | apply Kd.R_drewN | apply Kd.R_drew)); exact HO144.out))) (Kd.R_lt (by (with_reducible repeat (first | apply Kd.R_alloc | apply Kd.R_drewN | apply Kd.R_drew)); exact HO150.out))) (Kd.R_lt (by (with_reducible repeat (first | apply Kd.R_alloc | apply Kd.R_drewN | apply Kd.R_drew)); exact HO154.out))) (Kd.R_lt (by (with_reducible repeat (first | apply Kd.R_alloc | apply Kd.R_drewN | apply Kd.R_drew)); exact HO157.out))) (below_size (by repeat (first | (with_reducible first | exact HB.out | apply below_alloc | apply pw_below_drewN | apply below_drew1) | exact HB.out)))); have n6_ := Aside0.mk (below_step (by repeat (first | (with_reducible first | exact HB.out | apply below_alloc | apply pw_below_drewN | apply below_drew1) | exact HB.out)) hb); clear HO144; clear HO147; clear HO150; clear HO154; clear HO157; clear HB; have HO144 := n0_; have HO147 := n1_; have HO150 := n2_; have HO154 := n3_; have HO157 := n4_; have HO160 := n5_; have HB := n6_; clear n0_ n1_ n2_ n3_ n4_ n5_ n6_; clear hb ho23; obtain ⟨Ao24, co24, eo24⟩ := Kd.R_slice HO157.out; subst eo24; obtain ⟨Ao25, co25, eo25⟩ := Kd.R_slice HO160.out; subst eo25) | ((with_reducible refine gate_callee (f := 13) rfl ?_); refine goesL_ (some 19) rfl rfl Try.func13 (by kernel_rfl) rfl #[.slice Ao24 y155.length co24, .slice Ao25 y158.length co25, .int .i64 60] rfl (by (try simp only [List.map_toArray, List.map_cons, List.map_nil]); first | done | rfl | (simp only [List.length_drop, List.length_take]; rfl)) ?_; (with_reducible refine (heights_Stretch.calls _ _ y155 _ _ y158 60 t161 t162 _ ?side1 ?side2 ?side3 ?side4 A2.out).mono ?_); (case side1 => repeat (first | exact (Kd.R_reads' HO157.out).2.2 | (with_reducible refine Kd.C_alloc ?_ _) | (with_reducible refine Kd.C_drewN ?_ _) | (with_reducible refine Kd.C_drew ?_))); (case side2 => exact (Kd.R_reads' HO157.out).2.1); (case side3 => repeat (first | exact (Kd.R_reads' HO160.out).2.2 | (with_reducible refine Kd.C_alloc ?_ _) | (with_reducible refine Kd.C_drewN ?_ _) | (with_reducible refine Kd.C_drew ?_))); (case side4 => exact (Kd.R_reads' HO160.out).2.1); rintro e w26 ⟨v163, rfl, ho0, hb⟩; refine ⟨_, rfl, ?_⟩; have n0_ := Aside0.mk (Kd.R_elder' (by (with_reducible repeat (first | apply Kd.R_alloc | apply Kd.R_drewN | apply Kd.R_drew)); exact HO144.out) (Kd.R_base ho0) hb); have n1_ := Aside0.mk (Kd.R_below (by (with_reducible repeat (first | apply Kd.R_alloc | apply Kd.R_drewN | apply Kd.R_drew)); exact HO147.out) hb); have n2_ := Aside0.mk (Kd.R_elder' (by (with_reducible repeat (first | apply Kd.R_alloc | apply Kd.R_drewN | apply Kd.R_drew)); exact HO150.out) (Kd.R_base ho0) hb); have n3_ := Aside0.mk (Kd.R_elder' (by (with_reducible repeat (first | apply Kd.R_alloc | apply Kd.R_drewN | apply Kd.R_drew)); exact HO154.out) (Kd.R_base ho0) hb); have n4_ := Aside0.mk (Kd.R_elder' (by (with_reducible repeat (first | apply Kd.R_alloc | apply Kd.R_drewN | apply Kd.R_drew)); exact HO157.out) (Kd.R_base ho0) hb); have n5_ := Aside0.mk (Kd.R_elder' (by (with_reducible repeat (first | apply Kd.R_alloc | apply Kd.R_drewN | apply Kd.R_drew)); exact HO160.out) (Kd.R_base ho0) hb); have n6_ := Aside0.mk (Kd.R_lower (Kd.R_new' (Kd.R_new' (Kd.R_new' (Kd.R_new' (Kd.R_new' ho0 (Kd.R_lt (by (with_reducible repeat (first | apply Kd.R_alloc | apply Kd.R_drewN | apply Kd.R_drew)); exact HO144.out))) (Kd.R_lt (by (with_reducible repeat (first | apply Kd.R_alloc | apply Kd.R_drewN | apply Kd.R_drew)); exact HO150.out))) (Kd.R_lt (by (with_reducible repeat (first | apply Kd.R_alloc | apply Kd.R_drewN | apply Kd.R_drew)); exact HO154.out))) (Kd.R_lt (by (with_reducible repeat (first | apply Kd.R_alloc | apply Kd.R_drewN | apply Kd.R_drew)); exact HO157.out))) (Kd.R_lt (by (with_reducible repeat (first | apply Kd.R_alloc | apply Kd.R_drewN | apply Kd.R_drew)); exact HO160.out))) (below_size (by repeat (first | (with_reducible first | exact HB.out | apply below_alloc | apply pw_below_drewN | apply below_drew1) | exact HB.out)))); have n7_ := Aside0.mk (below_step (by repeat (first | (with_reducible first | exact HB.out | apply below_alloc | apply pw_below_drewN | apply below_drew1) | exact HB.out)) hb); clear HO144; clear HO147; clear HO150; clear HO154; clear HO157; clear HO160; clear HB; have HO144 := n0_; have HO147 := n1_; have HO150 := n2_; have HO154 := n3_; have HO157 := n4_; have HO160 := n5_; have HO164 := n6_; have HB := n7_; clear n0_ n1_ n2_ n3_ n4_ n5_ n6_ n7_; (try clear hb); (try clear hb2); (try clear hk); (try clear hi); (try clear ho0)) | ((with_reducible refine gate_callee (f := 13) rfl ?_); refine goesL_ (some 23) rfl rfl Try.func13 (by kernel_rfl) rfl #[.slice none 0 0, .slice none 0 0, .int .i64 5] rfl (by (try simp only [List.map_toArray, List.map_cons, List.map_nil]); first | done | rfl | (simp only [List.length_drop, List.length_take]; rfl)) ?_; (refine (heights_Stretch.calls _ _ ([] : List Int) _ _ ([] : List Int) 5 t165 t166 _ ?side1 ?side2 ?side3 ?side4 A3.out).mono ?_); (case side1 => exact Kd.C_nil _ _); (case side2 => exact Nat.le_refl _); (case side3 => exact Kd.C_nil _ _); (case side4 => exact Nat.le_refl _); rintro e w27 ⟨v167, rfl, ho0, hb⟩; refine ⟨_, rfl, ?_⟩; have n0_ := Aside0.mk (Kd.R_elder' (by (with_reducible repeat (first | apply Kd.R_alloc | apply Kd.R_drewN | apply Kd.R_drew)); exact HO144.out) (Kd.R_base ho0) hb); have n1_ := Aside0.mk (Kd.R_below (by (with_reducible repeat (first | apply Kd.R_alloc | apply Kd.R_drewN | apply Kd.R_drew)); exact HO147.out) hb); have n2_ := Aside0.mk (Kd.R_elder' (by (with_reducible repeat (first | apply Kd.R_alloc | apply Kd.R_drewN | apply Kd.R_drew)); exact HO150.out) (Kd.R_base ho0) hb); have n3_ := Aside0.mk (Kd.R_elder' (by (with_reducible repeat (first | apply Kd.R_alloc | apply Kd.R_drewN | apply Kd.R_drew)); exact HO154.out) (Kd.R_base ho0) hb); have n4_ := Aside0.mk (Kd.R_elder' (by (with_reducible repeat (first | apply Kd.R_alloc | apply Kd.R_drewN | apply Kd.R_drew)); exact HO157.out) (Kd.R_base ho0) hb); have n5_ := Aside0.mk (Kd.R_elder' (by (with_reducible repeat (first | apply Kd.R_alloc | apply Kd.R_drewN | apply Kd.R_drew)); exact HO160.out) (Kd.R_base ho0) hb); have n6_ := Aside0.mk (Kd.R_elder' (by (with_reducible repeat (first | apply Kd.R_alloc | apply Kd.R_drewN | apply Kd.R_drew)); exact HO164.out) (Kd.R_base ho0) hb); have n7_ := Aside0.mk (Kd.R_lower (Kd.R_new' (Kd.R_new' (Kd.R_new' (Kd.R_new' (Kd.R_new' (Kd.R_new' ho0 (Kd.R_lt (by (with_reducible repeat (first | apply Kd.R_alloc | apply Kd.R_drewN | apply Kd.R_drew)); exact HO144.out))) (Kd.R_lt (by (with_reducible repeat (first | apply Kd.R_alloc | apply Kd.R_drewN | apply Kd.R_drew)); exact HO150.out))) (Kd.R_lt (by (with_reducible repeat (first | apply Kd.R_alloc | apply Kd.R_drewN | apply Kd.R_drew)); exact HO154.out))) (Kd.R_lt (by (with_reducible repeat (first | apply Kd.R_alloc | apply Kd.R_drewN | apply Kd.R_drew)); exact HO157.out))) (Kd.R_lt (by (with_reducible repeat (first | apply Kd.R_alloc | apply Kd.R_drewN | apply Kd.R_drew)); exact HO160.out))) (Kd.R_lt (by (with_reducible repeat (first | apply Kd.R_alloc | apply Kd.R_drewN | apply Kd.R_drew)); exact HO164.out))) (below_size (by repeat (first | (with_reducible first | exact HB.out | apply below_alloc | apply pw_below_drewN | apply below_drew1) | exact HB.out)))); have n8_ := Aside0.mk (below_step (by repeat (first | (with_reducible first | exact HB.out | apply below_alloc | apply pw_below_drewN | apply below_drew1) | exact HB.out)) hb); clear HO144; clear HO147; clear HO150; clear HO154; clear HO157; clear HO160; clear HO164; clear HB; have HO144 := n0_; have HO147 := n1_; have HO150 := n2_; have HO154 := n3_; have HO157 := n4_; have HO160 := n5_; have HO164 := n6_; have HO168 := n7_; have HB := n8_; clear n0_ n1_ n2_ n3_ n4_ n5_ n6_ n7_ n8_; (try clear hb); (try clear hb2); (try clear hk); (try clear hi); (try clear ho0)) | ((with_reducible refine gate_dst (N := 38) rfl ?_); (try (refine gate_guard (by rfl) ?_; dsimp only)); refine Kd.R_lit (Kd.int .i64) _ 2 ?hg (N := 38) ?hd (xs := ([40, 0] : List Int)) (inner := [.int .i64 40, .int .i64 0]) (ok := fun _ => True) (okp := fun _ => True) ?hr ?hp (fun _ hk => hk) trivial (Below.refl _ _) (Nat.le_refl _) (by simp) ?_; (case hd => rfl); (case hg => rfl); (case hr => first | (go_simp; done) | (go_simp; rfl)); (case hp => exact (Reps.one (show Kd.M (Kd.int .i64) _ _ _ 40 [.int .i64 40] from rfl) (Reps.one (show Kd.M (Kd.int .i64) _ _ _ 0 [.int .i64 0] from rfl) (Reps.none _ _)))); intro v170 w28 ho29 hb hg_ hnew_; clear hg_ hnew_; (first | rw [← Ny169.out] at ho29 | (simp only [Int.reduceToNat] at ho29; rw [← Ny169.out] at ho29)); have n0_ := Aside0.mk (Kd.R_elder' (by (with_reducible repeat (first | apply Kd.R_alloc | apply Kd.R_drewN | apply Kd.R_drew)); exact HO144.out) (Kd.R_base ho29) hb); have n1_ := Aside0.mk (Kd.R_below (by (with_reducible repeat (first | apply Kd.R_alloc | apply Kd.R_drewN | apply Kd.R_drew)); exact HO147.out) hb); have n2_ := Aside0.mk (Kd.R_elder' (by (with_reducible repeat (first | apply Kd.R_alloc | apply Kd.R_drewN | apply Kd.R_drew)); exact HO150.out) (Kd.R_base ho29) hb); have n3_ := Aside0.mk (Kd.R_elder' (by (with_reducible repeat (first | apply Kd.R_alloc | apply Kd.R_drewN | apply Kd.R_drew)); exact HO154.out) (Kd.R_base ho29) hb); have n4_ := Aside0.mk (Kd.R_elder' (by (with_reducible repeat (first | apply Kd.R_alloc | apply Kd.R_drewN | apply Kd.R_drew)); exact HO157.out) (Kd.R_base ho29) hb); have n5_ := Aside0.mk (Kd.R_elder' (by (with_reducible repeat (first | apply Kd.R_alloc | apply Kd.R_drewN | apply Kd.R_drew)); exact HO160.out) (Kd.R_base ho29) hb); have n6_ := Aside0.mk (Kd.R_elder' (by (with_reducible repeat (first | apply Kd.R_alloc | apply Kd.R_drewN | apply Kd.R_drew)); exact HO164.out) (Kd.R_base ho29) hb); have n7_ := Aside0.mk (Kd.R_elder' (by (with_reducible repeat (first | apply Kd.R_alloc | apply Kd.R_drewN | apply Kd.R_drew)); exact HO168.out) (Kd.R_base ho29) hb); have n8_ := Aside0.mk (Kd.R_lower (Kd.R_new' (Kd.R_new' (Kd.R_new' (Kd.R_new' (Kd.R_new' (Kd.R_new' (Kd.R_new' ho29 (Kd.R_lt (by (with_reducible repeat (first | apply Kd.R_alloc | apply Kd.R_drewN | apply Kd.R_drew)); exact HO144.out))) (Kd.R_lt (by (with_reducible repeat (first | apply Kd.R_alloc | apply Kd.R_drewN | apply Kd.R_drew)); exact HO150.out))) (Kd.R_lt (by (with_reducible repeat (first | apply Kd.R_alloc | apply Kd.R_drewN | apply Kd.R_drew)); exact HO154.out))) (Kd.R_lt (by (with_reducible repeat (first | apply Kd.R_alloc | apply Kd.R_drewN | apply Kd.R_drew)); exact HO157.out))) (Kd.R_lt (by (with_reducible repeat (first | apply Kd.R_alloc | apply Kd.R_drewN | apply Kd.R_drew)); exact HO160.out))) (Kd.R_lt (by (with_reducible repeat (first | apply Kd.R_alloc | apply Kd.R_drewN | apply Kd.R_drew)); exact HO164.out))) (Kd.R_lt (by (with_reducible repeat (first | apply Kd.R_alloc | apply Kd.R_drewN | apply Kd.R_drew)); exact HO168.out))) (below_size (by repeat (first | (with_reducible first | exact HB.out | apply below_alloc | apply pw_below_drewN | apply below_drew1) | exact HB.out)))); have n9_ := Aside0.mk (below_step (by repeat (first | (with_reducible first | exact HB.out | apply below_alloc | apply pw_below_drewN | apply below_drew1) | exact HB.out)) hb); clear HO144; clear HO147; clear HO150; clear HO154; clear HO157; clear HO160; clear HO164; clear HO168; clear HB; have HO144 := n0_; have HO147 := n1_; have HO150 := n2_; have HO154 := n3_; have HO157 := n4_; have HO160 := n5_; have HO164 := n6_; have HO168 := n7_; have HO171 := n8_; have HB := n9_; clear n0_ n1_ n2_ n3_ n4_ n5_ n6_ n7_ n8_ n9_; clear hb ho29; obtain ⟨Ao30, co30, eo30⟩ := Kd.R_slice HO154.out; subst eo30; obtain ⟨Ao31, co31, eo31⟩ := Kd.R_slice HO171.out; subst eo31) | (go_at_call 12; (with_reducible refine (purflingref01_Same.calls k _ _ t151 _ _ y169 true _ ?side1 ?side2 ?side3 ?side4 A7.out).mono ?_); (case side1 => repeat (first | exact (Kd.R_reads' HO154.out).2.2 | (with_reducible refine Kd.C_alloc ?_ _) | (with_reducible refine Kd.C_drewN ?_ _) | (with_reducible refine Kd.C_drew ?_))); (case side2 => exact (Kd.R_reads' HO154.out).2.1); (case side3 => repeat (first | exact (Kd.R_reads' HO171.out).2.2 | (with_reducible refine Kd.C_alloc ?_ _) | (with_reducible refine Kd.C_drewN ?_ _) | (with_reducible refine Kd.C_drew ?_))); (case side4 => exact (Kd.R_reads' HO171.out).2.1); rintro e w' ⟨rfl, ⟨nd, rfl⟩⟩) | ((with_reducible refine gate_dst (N := 43) rfl ?_); (try (refine gate_guard (by rfl) ?_; dsimp only)); refine Kd.R_lit (Kd.int .i64) _ 2 ?hg (N := 43) ?hd (xs := ([15, 45] : List Int)) (inner := [.int .i64 15, .int .i64 45]) (ok := fun _ => True) (okp := fun _ => True) ?hr ?hp (fun _ hk => hk) trivial (Below.refl _ _) (Nat.le_refl _) (by simp) ?_; (case hd => rfl); (case hg => rfl); (case hr => first | (go_simp; done) | (go_simp; rfl)); (case hp => exact (Reps.one (show Kd.M (Kd.int .i64) _ _ _ 15 [.int .i64 15] from rfl) (Reps.one (show Kd.M (Kd.int .i64) _ _ _ 45 [.int .i64 45] from rfl) (Reps.none _ _)))); intro v174 w32 ho33 hb hg_ hnew_; clear hg_ hnew_; (first | rw [← Ny173.out] at ho33 | (simp only [Int.reduceToNat] at ho33; rw [← Ny173.out] at ho33)); have n0_ := Aside0.mk (Kd.R_elder' (by (with_reducible repeat (first | apply Kd.R_alloc | apply Kd.R_drewN | apply Kd.R_drew)); exact HO144.out) (Kd.R_base ho33) hb); have n1_ := Aside0.mk (Kd.R_below (by (with_reducible repeat (first | apply Kd.R_alloc | apply Kd.R_drewN | apply Kd.R_drew)); exact HO147.out) hb); have n2_ := Aside0.mk (Kd.R_elder' (by (with_reducible repeat (first | apply Kd.R_alloc | apply Kd.R_drewN | apply Kd.R_drew)); exact HO150.out) (Kd.R_base ho33) hb); have n3_ := Aside0.mk (Kd.R_elder' (by (with_reducible repeat (first | apply Kd.R_alloc | apply Kd.R_drewN | apply Kd.R_drew)); exact HO154.out) (Kd.R_base ho33) hb); have n4_ := Aside0.mk (Kd.R_elder' (by (with_reducible repeat (first | apply Kd.R_alloc | apply Kd.R_drewN | apply Kd.R_drew)); exact HO157.out) (Kd.R_base ho33) hb); have n5_ := Aside0.mk (Kd.R_elder' (by (with_reducible repeat (first | apply Kd.R_alloc | apply Kd.R_drewN | apply Kd.R_drew)); exact HO160.out) (Kd.R_base ho33) hb); have n6_ := Aside0.mk (Kd.R_elder' (by (with_reducible repeat (first | apply Kd.R_alloc | apply Kd.R_drewN | apply Kd.R_drew)); exact HO164.out) (Kd.R_base ho33) hb); have n7_ := Aside0.mk (Kd.R_elder' (by (with_reducible repeat (first | apply Kd.R_alloc | apply Kd.R_drewN | apply Kd.R_drew)); exact HO168.out) (Kd.R_base ho33) hb); have n8_ := Aside0.mk (Kd.R_elder' (by (with_reducible repeat (first | apply Kd.R_alloc | apply Kd.R_drewN | apply Kd.R_drew)); exact HO171.out) (Kd.R_base ho33) hb); have n9_ := Aside0.mk (Kd.R_lower (Kd.R_new' (Kd.R_new' (Kd.R_new' (Kd.R_new' (Kd.R_new' (Kd.R_new' (Kd.R_new' (Kd.R_new' ho33 (Kd.R_lt (by (with_reducible repeat (first | apply Kd.R_alloc | apply Kd.R_drewN | apply Kd.R_drew)); exact HO144.out))) (Kd.R_lt (by (with_reducible repeat (first | apply Kd.R_alloc | apply Kd.R_drewN | apply Kd.R_drew)); exact HO150.out))) (Kd.R_lt (by (with_reducible repeat (first | apply Kd.R_alloc | apply Kd.R_drewN | apply Kd.R_drew)); exact HO154.out))) (Kd.R_lt (by (with_reducible repeat (first | apply Kd.R_alloc | apply Kd.R_drewN | apply Kd.R_drew)); exact HO157.out))) (Kd.R_lt (by (with_reducible repeat (first | apply Kd.R_alloc | apply Kd.R_drewN | apply Kd.R_drew)); exact HO160.out))) (Kd.R_lt (by (with_reducible repeat (first | apply Kd.R_alloc | apply Kd.R_drewN | apply Kd.R_drew)); exact HO164.out))) (Kd.R_lt (by (with_reducible repeat (first | apply Kd.R_alloc | apply Kd.R_drewN | apply Kd.R_drew)); exact HO168.out))) (Kd.R_lt (by (with_reducible repeat (first | apply Kd.R_alloc | apply Kd.R_drewN | apply Kd.R_drew)); exact HO171.out))) (below_size (by repeat (first | (with_reducible first | exact HB.out | apply below_alloc | apply pw_below_drewN | apply below_drew1) | exact HB.out)))); have n10_ := Aside0.mk (below_step (by repeat (first | (with_reducible first | exact HB.out | apply below_alloc | apply pw_below_drewN | apply below_drew1) | exact HB.out)) hb); clear HO144; clear HO147; clear HO150; clear HO154; clear HO157; clear HO160; clear HO164; clear HO168; clear HO171; clear HB; have HO144 := n0_; have HO147 := n1_; have HO150 := n2_; have HO154 := n3_; have HO157 := n4_; have HO160 := n5_; have HO164 := n6_; have HO168 := n7_; have HO171 := n8_; have HO175 := n9_; have HB := n10_; clear n0_ n1_ n2_ n3_ n4_ n5_ n6_ n7_ n8_ n9_ n10_; clear hb ho33; obtain ⟨Ao34, co34, eo34⟩ := Kd.R_slice HO164.out; subst eo34; obtain ⟨Ao35, co35, eo35⟩ := Kd.R_slice HO175.out; subst eo35) | (go_at_call 12; (with_reducible refine (purflingref01_Same.calls k _ _ t161 _ _ y173 t176 _ ?side1 ?side2 ?side3 ?side4 A9.out).mono ?_); (case side1 => repeat (first | exact (Kd.R_reads' HO164.out).2.2 | (with_reducible refine Kd.C_alloc ?_ _) | (with_reducible refine Kd.C_drewN ?_ _) | (with_reducible refine Kd.C_drew ?_))); (case side2 => exact (Kd.R_reads' HO164.out).2.1); (case side3 => repeat (first | exact (Kd.R_reads' HO175.out).2.2 | (with_reducible refine Kd.C_alloc ?_ _) | (with_reducible refine Kd.C_drewN ?_ _) | (with_reducible refine Kd.C_drew ?_))); (case side4 => exact (Kd.R_reads' HO175.out).2.1); rintro e w' ⟨rfl, ⟨nd, rfl⟩⟩))
     go_ret
     exact ⟨by first | rfl | (simp [errW_none, errW_some] <;> rfl) | (simp [*, errW_none, errW_some] <;> rfl), by repeat (first | (with_reducible first | exact HB.out | apply below_alloc | apply pw_below_drewN | apply below_drew1) | exact HB.out)⟩
    ·replace c8 := Bool.eq_false_iff.mpr c8
     subst c8
     have H1 : (some false) = some r := by rw [if_neg (show ¬ (false = true) by decide)] at H; exact H
     clear H
     have H := H1
     clear H1
     obtain rfl := Option.some.inj H
     go_enter Try.func6, Try.ntmps6
     go_wp2_with (first | ((with_reducible refine gate_dst (N := 8) rfl ?_); (try (refine gate_guard (by rfl) ?_; dsimp only)); refine Kd.R_lit (Kd.int .i64) _ 2 ?hg (N := 8) ?hd (xs := ([(-1), (-1)] : List Int)) (inner := [.int .i64 (-1), .int .i64 (-1)]) (ok := fun _ => True) (okp := fun _ => True) ?hr ?hp (fun _ hk => hk) trivial (Below.refl _ _) (Nat.le_refl _) (by simp) ?_; (case hd => rfl); (case hg => rfl); (case hr => first | (go_simp; done) | (go_simp; rfl)); (case hp => exact (Reps.one (show Kd.M (Kd.int .i64) _ _ _ (-1) [.int .i64 (-1)] from rfl) (Reps.one (show Kd.M (Kd.int .i64) _ _ _ (-1) [.int .i64 (-1)] from rfl) (Reps.none _ _)))); intro v143 w36 ho37 hb hg_ hnew_; clear hg_ hnew_; (first | rw [← Ny142.out] at ho37 | (simp only [Int.reduceToNat] at ho37; rw [← Ny142.out] at ho37)); have n0_ := Aside0.mk (Kd.R_lower ho37 (below_size (by repeat (first | (with_reducible first | exact HB.out | apply below_alloc | apply pw_below_drewN | apply below_drew1) | exact HB.out)))); have n1_ := Aside0.mk (below_step (by repeat (first | (with_reducible first | exact HB.out | apply below_alloc | apply pw_below_drewN | apply below_drew1) | exact HB.out)) hb); clear HB; have HO144 := n0_; have HB := n1_; clear n0_ n1_; clear hb ho37) | ((with_reducible refine gate_dst (N := 11) rfl ?_); (try (refine gate_guard (by rfl) ?_; dsimp only)); refine Kd.R_lit k35 _ 35 ?hg (N := 11) ?hd (xs := ([(⟨0, 0, 0, 1, 1⟩ : S35), (⟨0, 0, 0, 2, 1⟩ : S35)] : List (S35))) (inner := [.int .i64 0, .int .i64 0, .int .i64 0, .int .i64 1, .int .i64 1, .int .i64 0, .int .i64 0, .int .i64 0, .int .i64 2, .int .i64 1]) (ok := fun _ => True) (okp := fun _ => True) ?hr ?hp (fun _ hk => hk) trivial (Below.refl _ _) (Nat.le_refl _) (by simp) ?_; (case hd => rfl); (case hg => rfl); (case hr => first | (go_simp; done) | (go_simp; rfl)); (case hp => exact (Reps.c5 (show Kd.M k35 _ _ _ (⟨0, 0, 0, 1, 1⟩ : S35) [.int .i64 0, .int .i64 0, .int .i64 0, .int .i64 1, .int .i64 1] from (k35_mkM _ _ _ (⟨0, 0, 0, 1, 1⟩ : S35) )) (Reps.c5 (show Kd.M k35 _ _ _ (⟨0, 0, 0, 2, 1⟩ : S35) [.int .i64 0, .int .i64 0, .int .i64 0, .int .i64 2, .int .i64 1] from (k35_mkM _ _ _ (⟨0, 0, 0, 2, 1⟩ : S35) )) (Reps.none _ _)))); intro v146 w38 ho39 hb hg_ hnew_; clear hg_ hnew_; (first | rw [← Ny145.out] at ho39 | (simp only [Int.reduceToNat] at ho39; rw [← Ny145.out] at ho39)); have n0_ := Aside0.mk (Kd.R_below (by (with_reducible repeat (first | apply Kd.R_alloc | apply Kd.R_drewN | apply Kd.R_drew)); exact HO144.out) hb); have n1_ := Aside0.mk (Kd.R_lower ho39 (below_size (by repeat (first | (with_reducible first | exact HB.out | apply below_alloc | apply pw_below_drewN | apply below_drew1) | exact HB.out)))); have n2_ := Aside0.mk (below_step (by repeat (first | (with_reducible first | exact HB.out | apply below_alloc | apply pw_below_drewN | apply below_drew1) | exact HB.out)) hb); clear HO144; clear HB; have HO144 := n0_; have HO147 := n1_; have HB := n2_; clear n0_ n1_ n2_; clear hb ho39) | ((with_reducible refine gate_dst (N := 12) rfl ?_); (try (refine gate_guard (by rfl) ?_; dsimp only)); refine Kd.R_lit (Kd.int .i64) _ 2 ?hg (N := 12) ?hd (xs := ([10, 40] : List Int)) (inner := [.int .i64 10, .int .i64 40]) (ok := fun _ => True) (okp := fun _ => True) ?hr ?hp (fun _ hk => hk) trivial (Below.refl _ _) (Nat.le_refl _) (by simp) ?_; (case hd => rfl); (case hg => rfl); (case hr => first | (go_simp; done) | (go_simp; rfl)); (case hp => exact (Reps.one (show Kd.M (Kd.int .i64) _ _ _ 10 [.int .i64 10] from rfl) (Reps.one (show Kd.M (Kd.int .i64) _ _ _ 40 [.int .i64 40] from rfl) (Reps.none _ _)))); intro v149 w40 ho41 hb hg_ hnew_; clear hg_ hnew_; (first | rw [← Ny148.out] at ho41 | (simp only [Int.reduceToNat] at ho41; rw [← Ny148.out] at ho41)); have n0_ := Aside0.mk (Kd.R_elder' (by (with_reducible repeat (first | apply Kd.R_alloc | apply Kd.R_drewN | apply Kd.R_drew)); exact HO144.out) (Kd.R_base ho41) hb); have n1_ := Aside0.mk (Kd.R_below (by (with_reducible repeat (first | apply Kd.R_alloc | apply Kd.R_drewN | apply Kd.R_drew)); exact HO147.out) hb); have n2_ := Aside0.mk (Kd.R_lower (Kd.R_new' ho41 (Kd.R_lt (by (with_reducible repeat (first | apply Kd.R_alloc | apply Kd.R_drewN | apply Kd.R_drew)); exact HO144.out))) (below_size (by repeat (first | (with_reducible first | exact HB.out | apply below_alloc | apply pw_below_drewN | apply below_drew1) | exact HB.out)))); have n3_ := Aside0.mk (below_step (by repeat (first | (with_reducible first | exact HB.out | apply below_alloc | apply pw_below_drewN | apply below_drew1) | exact HB.out)) hb); clear HO144; clear HO147; clear HB; have HO144 := n0_; have HO147 := n1_; have HO150 := n2_; have HB := n3_; clear n0_ n1_ n2_ n3_; clear hb ho41; obtain ⟨Ao42, co42, eo42⟩ := Kd.R_slice HO144.out; subst eo42; obtain ⟨Ao43, co43, eo43⟩ := Kd.R_slice HO147.out; subst eo43; obtain ⟨Ao44, co44, eo44⟩ := Kd.R_slice HO150.out; subst eo44) | ((with_reducible refine gate_callee (f := 8) rfl ?_); refine goesL_ (some 13) rfl rfl Try.func8 (by kernel_rfl) rfl #[.slice Ao42 y142.length co42, .slice Ao43 y145.length co43, .slice Ao44 y148.length co44, .int .i64 0] rfl (by (try simp only [List.map_toArray, List.map_cons, List.map_nil]); first | done | rfl | (simp only [List.length_drop, List.length_take]; rfl)) ?_; (with_reducible refine (heights_Least.calls _ _ y142 _ _ y145 _ _ y148 0 t151 t152 _ ?side1 ?side2 ?side3 ?side4 ?side5 ?side6 A1.out).mono ?_); (case side1 => repeat (first | exact (Kd.R_reads' HO144.out).2.2 | (with_reducible refine Kd.C_alloc ?_ _) | (with_reducible refine Kd.C_drewN ?_ _) | (with_reducible refine Kd.C_drew ?_))); (case side2 => exact (Kd.R_reads' HO144.out).2.1); (case side3 => repeat (first | exact (Kd.R_reads' HO147.out).2.2 | (with_reducible refine Kd.C_alloc ?_ _) | (with_reducible refine Kd.C_drewN ?_ _) | (with_reducible refine Kd.C_drew ?_))); (case side4 => exact (Kd.R_reads' HO147.out).2.1); (case side5 => repeat (first | exact (Kd.R_reads' HO150.out).2.2 | (with_reducible refine Kd.C_alloc ?_ _) | (with_reducible refine Kd.C_drewN ?_ _) | (with_reducible refine Kd.C_drew ?_))); (case side6 => exact (Kd.R_reads' HO150.out).2.1); rintro e w45 ⟨v153, rfl, ho0, hb⟩; refine ⟨_, rfl, ?_⟩; have n0_ := Aside0.mk (Kd.R_elder' (by (with_reducible repeat (first | apply Kd.R_alloc | apply Kd.R_drewN | apply Kd.R_drew)); exact HO144.out) (Kd.R_base ho0) hb); have n1_ := Aside0.mk (Kd.R_below (by (with_reducible repeat (first | apply Kd.R_alloc | apply Kd.R_drewN | apply Kd.R_drew)); exact HO147.out) hb); have n2_ := Aside0.mk (Kd.R_elder' (by (with_reducible repeat (first | apply Kd.R_alloc | apply Kd.R_drewN | apply Kd.R_drew)); exact HO150.out) (Kd.R_base ho0) hb); have n3_ := Aside0.mk (Kd.R_lower (Kd.R_new' (Kd.R_new' ho0 (Kd.R_lt (by (with_reducible repeat (first | apply Kd.R_alloc | apply Kd.R_drewN | apply Kd.R_drew)); exact HO144.out))) (Kd.R_lt (by (with_reducible repeat (first | apply Kd.R_alloc | apply Kd.R_drewN | apply Kd.R_drew)); exact HO150.out))) (below_size (by repeat (first | (with_reducible first | exact HB.out | apply below_alloc | apply pw_below_drewN | apply below_drew1) | exact HB.out)))); have n4_ := Aside0.mk (below_step (by repeat (first | (with_reducible first | exact HB.out | apply below_alloc | apply pw_below_drewN | apply below_drew1) | exact HB.out)) hb); clear HO144; clear HO147; clear HO150; clear HB; have HO144 := n0_; have HO147 := n1_; have HO150 := n2_; have HO154 := n3_; have HB := n4_; clear n0_ n1_ n2_ n3_ n4_; (try clear hb); (try clear hb2); (try clear hk); (try clear hi); (try clear ho0)) | ((with_reducible refine gate_dst (N := 17) rfl ?_); (try (refine gate_guard (by rfl) ?_; dsimp only)); refine Kd.R_lit (Kd.int .i64) _ 2 ?hg (N := 17) ?hd (xs := ([10, 30] : List Int)) (inner := [.int .i64 10, .int .i64 30]) (ok := fun _ => True) (okp := fun _ => True) ?hr ?hp (fun _ hk => hk) trivial (Below.refl _ _) (Nat.le_refl _) (by simp) ?_; (case hd => rfl); (case hg => rfl); (case hr => first | (go_simp; done) | (go_simp; rfl)); (case hp => exact (Reps.one (show Kd.M (Kd.int .i64) _ _ _ 10 [.int .i64 10] from rfl) (Reps.one (show Kd.M (Kd.int .i64) _ _ _ 30 [.int .i64 30] from rfl) (Reps.none _ _)))); intro v156 w46 ho47 hb hg_ hnew_; clear hg_ hnew_; (first | rw [← Ny155.out] at ho47 | (simp only [Int.reduceToNat] at ho47; rw [← Ny155.out] at ho47)); have n0_ := Aside0.mk (Kd.R_elder' (by (with_reducible repeat (first | apply Kd.R_alloc | apply Kd.R_drewN | apply Kd.R_drew)); exact HO144.out) (Kd.R_base ho47) hb); have n1_ := Aside0.mk (Kd.R_below (by (with_reducible repeat (first | apply Kd.R_alloc | apply Kd.R_drewN | apply Kd.R_drew)); exact HO147.out) hb); have n2_ := Aside0.mk (Kd.R_elder' (by (with_reducible repeat (first | apply Kd.R_alloc | apply Kd.R_drewN | apply Kd.R_drew)); exact HO150.out) (Kd.R_base ho47) hb); have n3_ := Aside0.mk (Kd.R_elder' (by (with_reducible repeat (first | apply Kd.R_alloc | apply Kd.R_drewN | apply Kd.R_drew)); exact HO154.out) (Kd.R_base ho47) hb); have n4_ := Aside0.mk (Kd.R_lower (Kd.R_new' (Kd.R_new' (Kd.R_new' ho47 (Kd.R_lt (by (with_reducible repeat (first | apply Kd.R_alloc | apply Kd.R_drewN | apply Kd.R_drew)); exact HO144.out))) (Kd.R_lt (by (with_reducible repeat (first | apply Kd.R_alloc | apply Kd.R_drewN | apply Kd.R_drew)); exact HO150.out))) (Kd.R_lt (by (with_reducible repeat (first | apply Kd.R_alloc | apply Kd.R_drewN | apply Kd.R_drew)); exact HO154.out))) (below_size (by repeat (first | (with_reducible first | exact HB.out | apply below_alloc | apply pw_below_drewN | apply below_drew1) | exact HB.out)))); have n5_ := Aside0.mk (below_step (by repeat (first | (with_reducible first | exact HB.out | apply below_alloc | apply pw_below_drewN | apply below_drew1) | exact HB.out)) hb); clear HO144; clear HO147; clear HO150; clear HO154; clear HB; have HO144 := n0_; have HO147 := n1_; have HO150 := n2_; have HO154 := n3_; have HO157 := n4_; have HB := n5_; clear n0_ n1_ n2_ n3_ n4_ n5_; clear hb ho47) | ((with_reducible refine gate_dst (N := 18) rfl ?_); (try (refine gate_guard (by rfl) ?_; dsimp only)); refine Kd.R_lit (Kd.int .i64) _ 2 ?hg (N := 18) ?hd (xs := ([(-1), (-1)] : List Int)) (inner := [.int .i64 (-1), .int .i64 (-1)]) (ok := fun _ => True) (okp := fun _ => True) ?hr ?hp (fun _ hk => hk) trivial (Below.refl _ _) (Nat.le_refl _) (by simp) ?_; (case hd => rfl); (case hg => rfl); (case hr => first | (go_simp; done) | (go_simp; rfl)); (case hp => exact (Reps.one (show Kd.M (Kd.int .i64) _ _ _ (-1) [.int .i64 (-1)] from rfl) (Reps.one (show Kd.M (Kd.int .i64) _ _ _ (-1) [.int .i64 (-1)] from rfl) (Reps.none _ _)))); intro v159 w48 ho49 hb hg_ hnew_; clear hg_ hnew_; (first | rw [← Ny158.out] at ho49 | (simp only [Int.reduceToNat] at ho49; rw [← Ny158.out] at ho49)); have n0_ := Aside0.mk (Kd.R_elder' (by (with_reducible repeat (first | apply Kd.R_alloc | apply Kd.R_drewN | apply Kd.R_drew)); exact HO144.out) (Kd.R_base ho49) hb); have n1_ := Aside0.mk (Kd.R_below (by (with_reducible repeat (first | apply Kd.R_alloc | apply Kd.R_drewN | apply Kd.R_drew)); exact HO147.out) hb); have n2_ := Aside0.mk (Kd.R_elder' (by (with_reducible repeat (first | apply Kd.R_alloc | apply Kd.R_drewN | apply Kd.R_drew)); exact HO150.out) (Kd.R_base ho49) hb); have n3_ := Aside0.mk (Kd.R_elder' (by (with_reducible repeat (first | apply Kd.R_alloc | apply Kd.R_drewN | apply Kd.R_drew)); exact HO154.out) (Kd.R_base ho49) hb); have n4_ := Aside0.mk (Kd.R_elder' (by (with_reducible repeat (first | apply Kd.R_alloc | apply Kd.R_drewN | apply Kd.R_drew)); exact HO157.out) (Kd.R_base ho49) hb); have n5_ := Aside0.mk (Kd.R_lower (Kd.R_new' (Kd.R_new' (Kd.R_new' (Kd.R_new' ho49 (Kd.R_lt (by (with_reducible repeat (first | apply Kd.R_alloc | apply Kd.R_drewN | apply Kd.R_drew)); exact HO144.out))) (Kd.R_lt (by (with_reducible repeat (first | apply Kd.R_alloc | apply Kd.R_drewN | apply Kd.R_drew)); exact HO150.out))) (Kd.R_lt (by (with_reducible repeat (first | apply Kd.R_alloc | apply Kd.R_drewN | apply Kd.R_drew)); exact HO154.out))) (Kd.R_lt (by (with_reducible repeat (first | apply Kd.R_alloc | apply Kd.R_drewN | apply Kd.R_drew)); exact HO157.out))) (below_size (by repeat (first | (with_reducible first | exact HB.out | apply below_alloc | apply pw_below_drewN | apply below_drew1) | exact HB.out)))); have n6_ := Aside0.mk (below_step (by repeat (first | (with_reducible first | exact HB.out | apply below_alloc | apply pw_below_drewN | apply below_drew1) | exact HB.out)) hb); clear HO144; clear HO147; clear HO150; clear HO154; clear HO157; clear HB; have HO144 := n0_; have HO147 := n1_; have HO150 := n2_; have HO154 := n3_; have HO157 := n4_; have HO160 := n5_; have HB := n6_; clear n0_ n1_ n2_ n3_ n4_ n5_ n6_; clear hb ho49; obtain ⟨Ao50, co50, eo50⟩ := Kd.R_slice HO157.out; subst eo50; obtain ⟨Ao51, co51, eo51⟩ := Kd.R_slice HO160.out; subst eo51) | ((with_reducible refine gate_callee (f := 13) rfl ?_); refine goesL_ (some 19) rfl rfl Try.func13 (by kernel_rfl) rfl #[.slice Ao50 y155.length co50, .slice Ao51 y158.length co51, .int .i64 60] rfl (by (try simp only [List.map_toArray, List.map_cons, List.map_nil]); first | done | rfl | (simp only [List.length_drop, List.length_take]; rfl)) ?_; (with_reducible refine (heights_Stretch.calls _ _ y155 _ _ y158 60 t161 t162 _ ?side1 ?side2 ?side3 ?side4 A2.out).mono ?_); (case side1 => repeat (first | exact (Kd.R_reads' HO157.out).2.2 | (with_reducible refine Kd.C_alloc ?_ _) | (with_reducible refine Kd.C_drewN ?_ _) | (with_reducible refine Kd.C_drew ?_))); (case side2 => exact (Kd.R_reads' HO157.out).2.1); (case side3 => repeat (first | exact (Kd.R_reads' HO160.out).2.2 | (with_reducible refine Kd.C_alloc ?_ _) | (with_reducible refine Kd.C_drewN ?_ _) | (with_reducible refine Kd.C_drew ?_))); (case side4 => exact (Kd.R_reads' HO160.out).2.1); rintro e w52 ⟨v163, rfl, ho0, hb⟩; refine ⟨_, rfl, ?_⟩; have n0_ := Aside0.mk (Kd.R_elder' (by (with_reducible repeat (first | apply Kd.R_alloc | apply Kd.R_drewN | apply Kd.R_drew)); exact HO144.out) (Kd.R_base ho0) hb); have n1_ := Aside0.mk (Kd.R_below (by (with_reducible repeat (first | apply Kd.R_alloc | apply Kd.R_drewN | apply Kd.R_drew)); exact HO147.out) hb); have n2_ := Aside0.mk (Kd.R_elder' (by (with_reducible repeat (first | apply Kd.R_alloc | apply Kd.R_drewN | apply Kd.R_drew)); exact HO150.out) (Kd.R_base ho0) hb); have n3_ := Aside0.mk (Kd.R_elder' (by (with_reducible repeat (first | apply Kd.R_alloc | apply Kd.R_drewN | apply Kd.R_drew)); exact HO154.out) (Kd.R_base ho0) hb); have n4_ := Aside0.mk (Kd.R_elder' (by (with_reducible repeat (first | apply Kd.R_alloc | apply Kd.R_drewN | apply Kd.R_drew)); exact HO157.out) (Kd.R_base ho0) hb); have n5_ := Aside0.mk (Kd.R_elder' (by (with_reducible repeat (first | apply Kd.R_alloc | apply Kd.R_drewN | apply Kd.R_drew)); exact HO160.out) (Kd.R_base ho0) hb); have n6_ := Aside0.mk (Kd.R_lower (Kd.R_new' (Kd.R_new' (Kd.R_new' (Kd.R_new' (Kd.R_new' ho0 (Kd.R_lt (by (with_reducible repeat (first | apply Kd.R_alloc | apply Kd.R_drewN | apply Kd.R_drew)); exact HO144.out))) (Kd.R_lt (by (with_reducible repeat (first | apply Kd.R_alloc | apply Kd.R_drewN | apply Kd.R_drew)); exact HO150.out))) (Kd.R_lt (by (with_reducible repeat (first | apply Kd.R_alloc | apply Kd.R_drewN | apply Kd.R_drew)); exact HO154.out))) (Kd.R_lt (by (with_reducible repeat (first | apply Kd.R_alloc | apply Kd.R_drewN | apply Kd.R_drew)); exact HO157.out))) (Kd.R_lt (by (with_reducible repeat (first | apply Kd.R_alloc | apply Kd.R_drewN | apply Kd.R_drew)); exact HO160.out))) (below_size (by repeat (first | (with_reducible first | exact HB.out | apply below_alloc | apply pw_below_drewN | apply below_drew1) | exact HB.out)))); have n7_ := Aside0.mk (below_step (by repeat (first | (with_reducible first | exact HB.out | apply below_alloc | apply pw_below_drewN | apply below_drew1) | exact HB.out)) hb); clear HO144; clear HO147; clear HO150; clear HO154; clear HO157; clear HO160; clear HB; have HO144 := n0_; have HO147 := n1_; have HO150 := n2_; have HO154 := n3_; have HO157 := n4_; have HO160 := n5_; have HO164 := n6_; have HB := n7_; clear n0_ n1_ n2_ n3_ n4_ n5_ n6_ n7_; (try clear hb); (try clear hb2); (try clear hk); (try clear hi); (try clear ho0)) | ((with_reducible refine gate_callee (f := 13) rfl ?_); refine goesL_ (some 23) rfl rfl Try.func13 (by kernel_rfl) rfl #[.slice none 0 0, .slice none 0 0, .int .i64 5] rfl (by (try simp only [List.map_toArray, List.map_cons, List.map_nil]); first | done | rfl | (simp only [List.length_drop, List.length_take]; rfl)) ?_; (refine (heights_Stretch.calls _ _ ([] : List Int) _ _ ([] : List Int) 5 t165 t166 _ ?side1 ?side2 ?side3 ?side4 A3.out).mono ?_); (case side1 => exact Kd.C_nil _ _); (case side2 => exact Nat.le_refl _); (case side3 => exact Kd.C_nil _ _); (case side4 => exact Nat.le_refl _); rintro e w53 ⟨v167, rfl, ho0, hb⟩; refine ⟨_, rfl, ?_⟩; have n0_ := Aside0.mk (Kd.R_elder' (by (with_reducible repeat (first | apply Kd.R_alloc | apply Kd.R_drewN | apply Kd.R_drew)); exact HO144.out) (Kd.R_base ho0) hb); have n1_ := Aside0.mk (Kd.R_below (by (with_reducible repeat (first | apply Kd.R_alloc | apply Kd.R_drewN | apply Kd.R_drew)); exact HO147.out) hb); have n2_ := Aside0.mk (Kd.R_elder' (by (with_reducible repeat (first | apply Kd.R_alloc | apply Kd.R_drewN | apply Kd.R_drew)); exact HO150.out) (Kd.R_base ho0) hb); have n3_ := Aside0.mk (Kd.R_elder' (by (with_reducible repeat (first | apply Kd.R_alloc | apply Kd.R_drewN | apply Kd.R_drew)); exact HO154.out) (Kd.R_base ho0) hb); have n4_ := Aside0.mk (Kd.R_elder' (by (with_reducible repeat (first | apply Kd.R_alloc | apply Kd.R_drewN | apply Kd.R_drew)); exact HO157.out) (Kd.R_base ho0) hb); have n5_ := Aside0.mk (Kd.R_elder' (by (with_reducible repeat (first | apply Kd.R_alloc | apply Kd.R_drewN | apply Kd.R_drew)); exact HO160.out) (Kd.R_base ho0) hb); have n6_ := Aside0.mk (Kd.R_elder' (by (with_reducible repeat (first | apply Kd.R_alloc | apply Kd.R_drewN | apply Kd.R_drew)); exact HO164.out) (Kd.R_base ho0) hb); have n7_ := Aside0.mk (Kd.R_lower (Kd.R_new' (Kd.R_new' (Kd.R_new' (Kd.R_new' (Kd.R_new' (Kd.R_new' ho0 (Kd.R_lt (by (with_reducible repeat (first | apply Kd.R_alloc | apply Kd.R_drewN | apply Kd.R_drew)); exact HO144.out))) (Kd.R_lt (by (with_reducible repeat (first | apply Kd.R_alloc | apply Kd.R_drewN | apply Kd.R_drew)); exact HO150.out))) (Kd.R_lt (by (with_reducible repeat (first | apply Kd.R_alloc | apply Kd.R_drewN | apply Kd.R_drew)); exact HO154.out))) (Kd.R_lt (by (with_reducible repeat (first | apply Kd.R_alloc | apply Kd.R_drewN | apply Kd.R_drew)); exact HO157.out))) (Kd.R_lt (by (with_reducible repeat (first | apply Kd.R_alloc | apply Kd.R_drewN | apply Kd.R_drew)); exact HO160.out))) (Kd.R_lt (by (with_reducible repeat (first | apply Kd.R_alloc | apply Kd.R_drewN | apply Kd.R_drew)); exact HO164.out))) (below_size (by repeat (first | (with_reducible first | exact HB.out | apply below_alloc | apply pw_below_drewN | apply below_drew1) | exact HB.out)))); have n8_ := Aside0.mk (below_step (by repeat (first | (with_reducible first | exact HB.out | apply below_alloc | apply pw_below_drewN | apply below_drew1) | exact HB.out)) hb); clear HO144; clear HO147; clear HO150; clear HO154; clear HO157; clear HO160; clear HO164; clear HB; have HO144 := n0_; have HO147 := n1_; have HO150 := n2_; have HO154 := n3_; have HO157 := n4_; have HO160 := n5_; have HO164 := n6_; have HO168 := n7_; have HB := n8_; clear n0_ n1_ n2_ n3_ n4_ n5_ n6_ n7_ n8_; (try clear hb); (try clear hb2); (try clear hk); (try clear hi); (try clear ho0)) | ((with_reducible refine gate_dst (N := 38) rfl ?_); (try (refine gate_guard (by rfl) ?_; dsimp only)); refine Kd.R_lit (Kd.int .i64) _ 2 ?hg (N := 38) ?hd (xs := ([40, 0] : List Int)) (inner := [.int .i64 40, .int .i64 0]) (ok := fun _ => True) (okp := fun _ => True) ?hr ?hp (fun _ hk => hk) trivial (Below.refl _ _) (Nat.le_refl _) (by simp) ?_; (case hd => rfl); (case hg => rfl); (case hr => first | (go_simp; done) | (go_simp; rfl)); (case hp => exact (Reps.one (show Kd.M (Kd.int .i64) _ _ _ 40 [.int .i64 40] from rfl) (Reps.one (show Kd.M (Kd.int .i64) _ _ _ 0 [.int .i64 0] from rfl) (Reps.none _ _)))); intro v170 w54 ho55 hb hg_ hnew_; clear hg_ hnew_; (first | rw [← Ny169.out] at ho55 | (simp only [Int.reduceToNat] at ho55; rw [← Ny169.out] at ho55)); have n0_ := Aside0.mk (Kd.R_elder' (by (with_reducible repeat (first | apply Kd.R_alloc | apply Kd.R_drewN | apply Kd.R_drew)); exact HO144.out) (Kd.R_base ho55) hb); have n1_ := Aside0.mk (Kd.R_below (by (with_reducible repeat (first | apply Kd.R_alloc | apply Kd.R_drewN | apply Kd.R_drew)); exact HO147.out) hb); have n2_ := Aside0.mk (Kd.R_elder' (by (with_reducible repeat (first | apply Kd.R_alloc | apply Kd.R_drewN | apply Kd.R_drew)); exact HO150.out) (Kd.R_base ho55) hb); have n3_ := Aside0.mk (Kd.R_elder' (by (with_reducible repeat (first | apply Kd.R_alloc | apply Kd.R_drewN | apply Kd.R_drew)); exact HO154.out) (Kd.R_base ho55) hb); have n4_ := Aside0.mk (Kd.R_elder' (by (with_reducible repeat (first | apply Kd.R_alloc | apply Kd.R_drewN | apply Kd.R_drew)); exact HO157.out) (Kd.R_base ho55) hb); have n5_ := Aside0.mk (Kd.R_elder' (by (with_reducible repeat (first | apply Kd.R_alloc | apply Kd.R_drewN | apply Kd.R_drew)); exact HO160.out) (Kd.R_base ho55) hb); have n6_ := Aside0.mk (Kd.R_elder' (by (with_reducible repeat (first | apply Kd.R_alloc | apply Kd.R_drewN | apply Kd.R_drew)); exact HO164.out) (Kd.R_base ho55) hb); have n7_ := Aside0.mk (Kd.R_elder' (by (with_reducible repeat (first | apply Kd.R_alloc | apply Kd.R_drewN | apply Kd.R_drew)); exact HO168.out) (Kd.R_base ho55) hb); have n8_ := Aside0.mk (Kd.R_lower (Kd.R_new' (Kd.R_new' (Kd.R_new' (Kd.R_new' (Kd.R_new' (Kd.R_new' (Kd.R_new' ho55 (Kd.R_lt (by (with_reducible repeat (first | apply Kd.R_alloc | apply Kd.R_drewN | apply Kd.R_drew)); exact HO144.out))) (Kd.R_lt (by (with_reducible repeat (first | apply Kd.R_alloc | apply Kd.R_drewN | apply Kd.R_drew)); exact HO150.out))) (Kd.R_lt (by (with_reducible repeat (first | apply Kd.R_alloc | apply Kd.R_drewN | apply Kd.R_drew)); exact HO154.out))) (Kd.R_lt (by (with_reducible repeat (first | apply Kd.R_alloc | apply Kd.R_drewN | apply Kd.R_drew)); exact HO157.out))) (Kd.R_lt (by (with_reducible repeat (first | apply Kd.R_alloc | apply Kd.R_drewN | apply Kd.R_drew)); exact HO160.out))) (Kd.R_lt (by (with_reducible repeat (first | apply Kd.R_alloc | apply Kd.R_drewN | apply Kd.R_drew)); exact HO164.out))) (Kd.R_lt (by (with_reducible repeat (first | apply Kd.R_alloc | apply Kd.R_drewN | apply Kd.R_drew)); exact HO168.out))) (below_size (by repeat (first | (with_reducible first | exact HB.out | apply below_alloc | apply pw_below_drewN | apply below_drew1) | exact HB.out)))); have n9_ := Aside0.mk (below_step (by repeat (first | (with_reducible first | exact HB.out | apply below_alloc | apply pw_below_drewN | apply below_drew1) | exact HB.out)) hb); clear HO144; clear HO147; clear HO150; clear HO154; clear HO157; clear HO160; clear HO164; clear HO168; clear HB; have HO144 := n0_; have HO147 := n1_; have HO150 := n2_; have HO154 := n3_; have HO157 := n4_; have HO160 := n5_; have HO164 := n6_; have HO168 := n7_; have HO171 := n8_; have HB := n9_; clear n0_ n1_ n2_ n3_ n4_ n5_ n6_ n7_ n8_ n9_; clear hb ho55; obtain ⟨Ao56, co56, eo56⟩ := Kd.R_slice HO154.out; subst eo56; obtain ⟨Ao57, co57, eo57⟩ := Kd.R_slice HO171.out; subst eo57) | (go_at_call 12; (with_reducible refine (purflingref01_Same.calls k _ _ t151 _ _ y169 false _ ?side1 ?side2 ?side3 ?side4 A7.out).mono ?_); (case side1 => repeat (first | exact (Kd.R_reads' HO154.out).2.2 | (with_reducible refine Kd.C_alloc ?_ _) | (with_reducible refine Kd.C_drewN ?_ _) | (with_reducible refine Kd.C_drew ?_))); (case side2 => exact (Kd.R_reads' HO154.out).2.1); (case side3 => repeat (first | exact (Kd.R_reads' HO171.out).2.2 | (with_reducible refine Kd.C_alloc ?_ _) | (with_reducible refine Kd.C_drewN ?_ _) | (with_reducible refine Kd.C_drew ?_))); (case side4 => exact (Kd.R_reads' HO171.out).2.1); rintro e w' ⟨rfl, ⟨nd, rfl⟩⟩))
     go_ret
     exact ⟨by first | rfl | (simp [errW_none, errW_some] <;> rfl) | (simp [*, errW_none, errW_some] <;> rfl), by repeat (first | (with_reducible first | exact HB.out | apply below_alloc | apply pw_below_drewN | apply below_drew1) | exact HB.out)⟩
   ·rw [if_neg c6] at H
    rw [HR_.out] at H
    exact absurd H (by simp)
  ·rw [if_neg c5] at H
   rw [HR_.out] at H
   exact absurd H (by simp)
 ·rw [if_neg c4] at H
  rw [HR_.out] at H
  exact absurd H (by simp)

/-! ### purflinglaw16_cut: function 7 -/
def purflinglaw16_cut.f (l0 : List Int) (l1 : List (S35)) (l2 : List Int) : Option (List Int × (List (S35)) × List Int) := if 0 ≤ (mn (l0.length : Int) 60) then (if (mn (l0.length : Int) 60) ≤ (l0.length : Int) then (if 0 ≤ (mn (l1.length : Int) 100) then (if (mn (l1.length : Int) 100) ≤ (l1.length : Int) then (if 0 ≤ (mn (l2.length : Int) 100) then (if (mn (l2.length : Int) 100) ≤ (l2.length : Int) then (some ((l0.take ((mn (l0.length : Int) 60) : Int).toNat), (l1.take ((mn (l1.length : Int) 100) : Int).toNat), (l2.take ((mn (l2.length : Int) 100) : Int).toNat))) else (none)) else (none)) else (none)) else (none)) else (none)) else (none)
set_option maxHeartbeats 8000000 in
set_option maxRecDepth 100000 in
theorem purflinglaw16_cut.calls (P0_ : Nat → Prop) (A0 : Option Addr) (c0 : Nat) (l0 : List Int) (P1_ : Nat → Prop) (A1 : Option Addr) (c1 : Nat) (l1 : List (S35)) (P2_ : Nat → Prop) (A2 : Option Addr) (c2 : Nat) (l2 : List Int) (r1 : List Int) (r2 : List (S35)) (r3 : List Int) (w : World) (hs0 : Kd.V (Kd.int .i64) 2 w w.heap.size (fun k_ => P0_ k_) (.slice A0 l0.length c0) l0) (hs1 : Kd.V k35 35 w w.heap.size (fun k_ => P1_ k_) (.slice A1 l1.length c1) l1) (hs2 : Kd.V (Kd.int .i64) 2 w w.heap.size (fun k_ => P2_ k_) (.slice A2 l2.length c2) l2) (h : purflinglaw16_cut.f l0 l1 l2 = some (r1, r2, r3)) :
  Calls Try.prog 7 #[.slice A0 l0.length c0, .slice A1 l1.length c1, .slice A2 l2.length c2] w fun e w' => ∃ v0_ v1_ v2_ : Value, e = .returned (.tuple #[v0_, v1_, v2_]) ∧ Kd.V (Kd.int .i64) 2 w' w.heap.size (fun k_ => ((P0_ k_ ∨ P1_ k_ ∨ P2_ k_) ∨ w.heap.size ≤ k_)) v0_ r1 ∧ Kd.V k35 35 w' w.heap.size (fun k_ => ((P0_ k_ ∨ P1_ k_ ∨ P2_ k_) ∨ w.heap.size ≤ k_)) v1_ r2 ∧ Kd.V (Kd.int .i64) 2 w' w.heap.size (fun k_ => ((P0_ k_ ∨ P1_ k_ ∨ P2_ k_) ∨ w.heap.size ≤ k_)) v2_ r3 ∧ Below w.heap.size w w' := by
 have HO0 := Aside0.mk (show Kd.V (Kd.int .i64) 2 w w.heap.size (fun k_ => ((P0_ k_ ∨ P1_ k_ ∨ P2_ k_) ∨ w.heap.size ≤ k_)) (.slice A0 l0.length c0) l0 from Kd.V_mono hs0 (fun k_ hk => .inl (.inl hk)))
 have HO1 := Aside0.mk (show Kd.V k35 35 w w.heap.size (fun k_ => ((P0_ k_ ∨ P1_ k_ ∨ P2_ k_) ∨ w.heap.size ≤ k_)) (.slice A1 l1.length c1) l1 from Kd.V_mono hs1 (fun k_ hk => .inl (.inr (.inl hk))))
 have HO2 := Aside0.mk (show Kd.V (Kd.int .i64) 2 w w.heap.size (fun k_ => ((P0_ k_ ∨ P1_ k_ ∨ P2_ k_) ∨ w.heap.size ≤ k_)) (.slice A2 l2.length c2) l2 from Kd.V_mono hs2 (fun k_ hk => .inl (.inr (.inr hk))))
 have HB := Aside0.mk (Below.refl w.heap.size w)
 have H : (if 0 ≤ (mn (l0.length : Int) 60) then (if (mn (l0.length : Int) 60) ≤ (l0.length : Int) then (if 0 ≤ (mn (l1.length : Int) 100) then (if (mn (l1.length : Int) 100) ≤ (l1.length : Int) then (if 0 ≤ (mn (l2.length : Int) 100) then (if (mn (l2.length : Int) 100) ≤ (l2.length : Int) then (some ((l0.take ((mn (l0.length : Int) 60) : Int).toNat), (l1.take ((mn (l1.length : Int) 100) : Int).toNat), (l2.take ((mn (l2.length : Int) 100) : Int).toNat))) else (none)) else (none)) else (none)) else (none)) else (none)) else (none)) = some (r1, r2, r3) := h
 clear h
 obtain ⟨ji4, hji4⟩ : ∃ j_ : Int, (mn (l0.length : Int) 60) = j_ := ⟨_, rfl⟩
 replace H : (if 0 ≤ (ji4) then (if (ji4) ≤ (l0.length : Int) then (if 0 ≤ (mn (l1.length : Int) 100) then (if (mn (l1.length : Int) 100) ≤ (l1.length : Int) then (if 0 ≤ (mn (l2.length : Int) 100) then (if (mn (l2.length : Int) 100) ≤ (l2.length : Int) then (some ((l0.take ((ji4) : Int).toNat), (l1.take ((mn (l1.length : Int) 100) : Int).toNat), (l2.take ((mn (l2.length : Int) 100) : Int).toNat))) else (none)) else (none)) else (none)) else (none)) else (none)) else (none)) = some (r1, r2, r3) := by first | (rw [hji4] at H; exact H) | (simp only [hji4] at H ⊢; exact H)
 (try (have hji4h : ji4 ≤ 60 := by (rw [← hji4]; unfold mn; (repeat' split) <;> omega)))
 (try (have hji4g : ji4 ≤ 64 := by omega))
 (try (have hji4l : 0 ≤ ji4 := by (rw [← hji4]; unfold mn; (repeat' split) <;> omega)))
 (try (have hji4m : 0 ≤ ji4 := by omega))
 have hji4_ : (if 60 < (l0.length : Int) then 60 else (l0.length : Int)) = ji4 := hji4
 by_cases c5 : 0 ≤ (ji4)
 ·rw [if_pos c5] at H
  have c5b0 := eq_true c5
  have c5b1 : decide (0 ≤ (ji4)) = true := decide_eq_true c5
  clear c5
  by_cases c6 : (ji4) ≤ (l0.length : Int)
  ·rw [if_pos c6] at H
   have c6b0 := eq_true c6
   have c6b1 : decide ((ji4) ≤ (l0.length : Int)) = true := decide_eq_true c6
   clear c6
   obtain ⟨y177, hy177⟩ : ∃ y_ : List Int, y_ = (l0.take ((ji4) : Int).toNat) := ⟨_, rfl⟩
   replace H : (if 0 ≤ (mn (l1.length : Int) 100) then (if (mn (l1.length : Int) 100) ≤ (l1.length : Int) then (if 0 ≤ (mn (l2.length : Int) 100) then (if (mn (l2.length : Int) 100) ≤ (l2.length : Int) then (some (y177, (l1.take ((mn (l1.length : Int) 100) : Int).toNat), (l2.take ((mn (l2.length : Int) 100) : Int).toNat))) else (none)) else (none)) else (none)) else (none)) = some (r1, r2, r3) := by first | (rw [hy177]; with_reducible exact H) | (have H2_ := (Option.bind_some _ _).symm.trans H; rw [hy177]; with_reducible exact H2_) | (have H2_ := (Option.bind_some _ _).symm.trans H; with_reducible exact H2_) | with_reducible exact H | (rw [hy177]; exact H) | exact H
   have Ny177 := Aside0.mk hy177
   clear hy177
   obtain ⟨ji7, hji7⟩ : ∃ j_ : Int, (mn (l1.length : Int) 100) = j_ := ⟨_, rfl⟩
   replace H : (if 0 ≤ (ji7) then (if (ji7) ≤ (l1.length : Int) then (if 0 ≤ (mn (l2.length : Int) 100) then (if (mn (l2.length : Int) 100) ≤ (l2.length : Int) then (some (y177, (l1.take ((ji7) : Int).toNat), (l2.take ((mn (l2.length : Int) 100) : Int).toNat))) else (none)) else (none)) else (none)) else (none)) = some (r1, r2, r3) := by first | (rw [hji7] at H; exact H) | (simp only [hji7] at H ⊢; exact H)
   (try (have hji7h : ji7 ≤ 100 := by (rw [← hji7]; unfold mn; (repeat' split) <;> omega)))
   (try (have hji7g : ji7 ≤ 64 := by omega))
   (try (have hji7l : 0 ≤ ji7 := by (rw [← hji7]; unfold mn; (repeat' split) <;> omega)))
   (try (have hji7m : 0 ≤ ji7 := by omega))
   have hji7_ : (if 100 < (l1.length : Int) then 100 else (l1.length : Int)) = ji7 := hji7
   by_cases c8 : 0 ≤ (ji7)
   ·rw [if_pos c8] at H
    have c8b0 := eq_true c8
    have c8b1 : decide (0 ≤ (ji7)) = true := decide_eq_true c8
    clear c8
    by_cases c9 : (ji7) ≤ (l1.length : Int)
    ·rw [if_pos c9] at H
     have c9b0 := eq_true c9
     have c9b1 : decide ((ji7) ≤ (l1.length : Int)) = true := decide_eq_true c9
     clear c9
     obtain ⟨y182, hy182⟩ : ∃ y_ : List (S35), y_ = (l1.take ((ji7) : Int).toNat) := ⟨_, rfl⟩
     replace H : (if 0 ≤ (mn (l2.length : Int) 100) then (if (mn (l2.length : Int) 100) ≤ (l2.length : Int) then (some (y177, y182, (l2.take ((mn (l2.length : Int) 100) : Int).toNat))) else (none)) else (none)) = some (r1, r2, r3) := by first | (rw [hy182]; with_reducible exact H) | (have H2_ := (Option.bind_some _ _).symm.trans H; rw [hy182]; with_reducible exact H2_) | (have H2_ := (Option.bind_some _ _).symm.trans H; with_reducible exact H2_) | with_reducible exact H | (rw [hy182]; exact H) | exact H
     have Ny182 := Aside0.mk hy182
     clear hy182
     obtain ⟨ji10, hji10⟩ : ∃ j_ : Int, (mn (l2.length : Int) 100) = j_ := ⟨_, rfl⟩
     replace H : (if 0 ≤ (ji10) then (if (ji10) ≤ (l2.length : Int) then (some (y177, y182, (l2.take ((ji10) : Int).toNat))) else (none)) else (none)) = some (r1, r2, r3) := by first | (rw [hji10] at H; exact H) | (simp only [hji10] at H ⊢; exact H)
     (try (have hji10h : ji10 ≤ 100 := by (rw [← hji10]; unfold mn; (repeat' split) <;> omega)))
     (try (have hji10g : ji10 ≤ 64 := by omega))
     (try (have hji10l : 0 ≤ ji10 := by (rw [← hji10]; unfold mn; (repeat' split) <;> omega)))
     (try (have hji10m : 0 ≤ ji10 := by omega))
     have hji10_ : (if 100 < (l2.length : Int) then 100 else (l2.length : Int)) = ji10 := hji10
     by_cases c11 : 0 ≤ (ji10)
     ·rw [if_pos c11] at H
      have c11b0 := eq_true c11
      have c11b1 : decide (0 ≤ (ji10)) = true := decide_eq_true c11
      clear c11
      by_cases c12 : (ji10) ≤ (l2.length : Int)
      ·rw [if_pos c12] at H
       have c12b0 := eq_true c12
       have c12b1 : decide ((ji10) ≤ (l2.length : Int)) = true := decide_eq_true c12
       clear c12
       obtain ⟨y187, hy187⟩ : ∃ y_ : List Int, y_ = (l2.take ((ji10) : Int).toNat) := ⟨_, rfl⟩
       replace H : (some (y177, y182, y187)) = some (r1, r2, r3) := by first | (rw [hy187]; with_reducible exact H) | (have H2_ := (Option.bind_some _ _).symm.trans H; rw [hy187]; with_reducible exact H2_) | (have H2_ := (Option.bind_some _ _).symm.trans H; with_reducible exact H2_) | with_reducible exact H | (rw [hy187]; exact H) | exact H
       have Ny187 := Aside0.mk hy187
       clear hy187
       simp only [Option.some.injEq, Prod.mk.injEq] at H
       obtain ⟨rfl, rfl, rfl⟩ := H
       have q13 : ((ji4) : Int) ≤ ((l0.length : Int) : Int) := of_decide_eq_true (by first | (with_reducible assumption) | assumption)
       obtain ⟨i013, hi013, _, hsz13, _⟩ := info_parts info2
       have hroom13 : l0.length ≤ c0 := (Kd.V_reads' HO0.out).2.1
       have hC13 : Kd.F (Kd.int .i64) _ _ A0 l0.length l0 := (Kd.V_at (base := w.heap.size) HO0.out).2.2
       have hcut13 := cut_to (P := Try.prog) 22 2 .i64 Try.underlying22 hi013 A0 l0.length c0 (ji4) (of_decide_eq_true (by first | (with_reducible assumption) | assumption)) q13 hroom13
       have hr13 := Kd.F_take (m := ((ji4) : Int).toNat) hC13 (by omega)
       have hy13 : y177.length = ((ji4) : Int).toNat := (by rw [Ny177.out, List.length_take]; omega)
       rw [← Ny177.out] at hr13
       rw [← hy13] at hcut13
       have HO181 := Aside0.mk (show Kd.V (Kd.int .i64) 2 _ w.heap.size _ (.slice A0 y177.length c0) y177 from Kd.V_mk (by omega) hr13)
       have HC181 := Aside0.mk (show y177.length ≤ c0 from by omega)
       clear hr13 hC13 hroom13 hi013 hsz13
       have KY13 := Aside0.mk hy13
       clear hy13
       replace q13 := eq_true q13
       have q14 : ((ji7) : Int) ≤ ((l1.length : Int) : Int) := of_decide_eq_true (by first | (with_reducible assumption) | assumption)
       obtain ⟨i014, hi014, _, hsz14, _⟩ := info_parts info35
       have hroom14 : l1.length ≤ c1 := (Kd.V_reads' HO1.out).2.1
       have hC14 : Kd.F k35 _ _ A1 l1.length l1 := (Kd.V_at (base := w.heap.size) HO1.out).2.2
       have hcut14 := cut_to (P := Try.prog) 23 35 .i64 Try.underlying23 hi014 A1 l1.length c1 (ji7) (of_decide_eq_true (by first | (with_reducible assumption) | assumption)) q14 hroom14
       have hr14 := Kd.F_take (m := ((ji7) : Int).toNat) hC14 (by omega)
       have hy14 : y182.length = ((ji7) : Int).toNat := (by rw [Ny182.out, List.length_take]; omega)
       rw [← Ny182.out] at hr14
       rw [← hy14] at hcut14
       have HO186 := Aside0.mk (show Kd.V k35 35 _ w.heap.size _ (.slice A1 y182.length c1) y182 from Kd.V_mk (by omega) hr14)
       have HC186 := Aside0.mk (show y182.length ≤ c1 from by omega)
       clear hr14 hC14 hroom14 hi014 hsz14
       have KY14 := Aside0.mk hy14
       clear hy14
       replace q14 := eq_true q14
       have q15 : ((ji10) : Int) ≤ ((l2.length : Int) : Int) := of_decide_eq_true (by first | (with_reducible assumption) | assumption)
       obtain ⟨i015, hi015, _, hsz15, _⟩ := info_parts info2
       have hroom15 : l2.length ≤ c2 := (Kd.V_reads' HO2.out).2.1
       have hC15 : Kd.F (Kd.int .i64) _ _ A2 l2.length l2 := (Kd.V_at (base := w.heap.size) HO2.out).2.2
       have hcut15 := cut_to (P := Try.prog) 22 2 .i64 Try.underlying22 hi015 A2 l2.length c2 (ji10) (of_decide_eq_true (by first | (with_reducible assumption) | assumption)) q15 hroom15
       have hr15 := Kd.F_take (m := ((ji10) : Int).toNat) hC15 (by omega)
       have hy15 : y187.length = ((ji10) : Int).toNat := (by rw [Ny187.out, List.length_take]; omega)
       rw [← Ny187.out] at hr15
       rw [← hy15] at hcut15
       have HO191 := Aside0.mk (show Kd.V (Kd.int .i64) 2 _ w.heap.size _ (.slice A2 y187.length c2) y187 from Kd.V_mk (by omega) hr15)
       have HC191 := Aside0.mk (show y187.length ≤ c2 from by omega)
       clear hr15 hC15 hroom15 hi015 hsz15
       have KY15 := Aside0.mk hy15
       clear hy15
       replace q15 := eq_true q15
       go_enter Try.func7, Try.ntmps7
       go_wp2
       repeat (go_quiet (fail); try go_wp2)
       go_ret3
       exact ⟨_, _, _, by first | rfl | (simp [errW_none, errW_some] <;> rfl) | (simp only [← hji4, ← hji7, ← hji10]; first | rfl | (simp [errW_none, errW_some] <;> rfl)) | (simp [*, errW_none, errW_some] <;> rfl), by (with_reducible repeat (first | apply Kd.V_alloc | apply Kd.V_drewN | apply Kd.V_drew)); exact HO181.out, by (with_reducible repeat (first | apply Kd.V_alloc | apply Kd.V_drewN | apply Kd.V_drew)); exact HO186.out, by (with_reducible repeat (first | apply Kd.V_alloc | apply Kd.V_drewN | apply Kd.V_drew)); exact HO191.out, by repeat (first | (with_reducible first | exact HB.out | apply below_alloc | apply pw_below_drewN | apply below_drew1) | exact HB.out)⟩
      ·rw [if_neg c12] at H
       exact absurd H (by simp)
     ·rw [if_neg c11] at H
      exact absurd H (by simp)
    ·rw [if_neg c9] at H
     exact absurd H (by simp)
   ·rw [if_neg c8] at H
    exact absurd H (by simp)
  ·rw [if_neg c6] at H
   exact absurd H (by simp)
 ·rw [if_neg c5] at H
  exact absurd H (by simp)

/-! ### purflingref16_wanted: function 25 -/
def purflingref16_wanted.l0 : Nat → List Int → Int → Option (Bool)
 | 0, _, _ => none
 | k + 1, x0, x3 => if x3 < (x0.length : Int) then (if 0 ≤ x3 then (if (rd x0 x3) < (-1) then (some false) else (if (rd x0 x3) > 1073741824 then (some false) else (purflingref16_wanted.l0 k x0 (wrap64 (x3 + 1))))) else (none)) else (some (decide ((x0.length : Int) ≤ 10000)))
def purflingref16_wanted.f (k : Nat) (l0 : List Int) : Option (Bool) := purflingref16_wanted.l0 k l0 0
theorem purflingref16_wanted.mono_l : ∀ k, (∀ y0 y1, LeO (purflingref16_wanted.l0 k y0 y1) (purflingref16_wanted.l0 (k + 1) y0 y1))
 | 0 => fun _ _ r h => by simp [purflingref16_wanted.l0] at h
 | k + 1 => by
  have ih0 := purflingref16_wanted.mono_l k
  ·intro y0 y1
   unfold purflingref16_wanted.l0
   repeat' first
   | (with_reducible exact ih0 _ _)
   | (with_reducible exact LeO.refl _)
   | (with_reducible exact LeO.none _)
   | (with_reducible refine LeO.ite ?_ ?_)
   | (with_reducible refine LeO.bind ?_ (fun _ => ?_))
   | exact ih0 _ _
   | exact LeO.none _
   | refine LeO.ite ?_ ?_
   | refine LeO.bind ?_ (fun _ => ?_)
theorem purflingref16_wanted.mono : ∀ a0 k, LeO (purflingref16_wanted.f k a0) (purflingref16_wanted.f (k + 1) a0) := by
 intro a0 k
 have ih0 := purflingref16_wanted.mono_l k
 unfold purflingref16_wanted.f
 repeat' first
   | (with_reducible exact ih0 _ _)
   | (with_reducible exact LeO.refl _)
   | (with_reducible exact LeO.none _)
   | (with_reducible refine LeO.ite ?_ ?_)
   | (with_reducible refine LeO.bind ?_ (fun _ => ?_))
   | exact ih0 _ _
   | exact LeO.none _
   | refine LeO.ite ?_ ?_
   | refine LeO.bind ?_ (fun _ => ?_)
set_option maxHeartbeats 8000000 in
set_option maxRecDepth 100000 in
theorem purflingref16_wanted.calls (k : Nat) (A0 : Option Addr) (c0 : Nat) (l0 : List Int) (r : Bool) (w : World) (hr0 : Kd.C (Kd.int .i64) w A0 l0.length l0) (hc0 : l0.length ≤ c0) (h : purflingref16_wanted.f k l0 = some r) :
  Calls Try.prog 25 #[.slice A0 l0.length c0] w fun e w' => e = .returned (.bool r) ∧ Drawn0 w w' := by
 have HR0 := Aside0.mk hr0
 have HC0 := Aside0.mk hc0
 clear hr0 hc0
 have H : (purflingref16_wanted.l0 k l0 0) = some r := h
 clear h
 have H' := Aside0.mk H
 clear H
 go_enter Try.func25, Try.ntmps25
 go_wp2
 go_loopg [3] k (fun kq v3 w' => ∃ (x3_1 : Int), v3 = .int .i64 x3_1 ∧ Aside0 (purflingref16_wanted.l0 kq l0 x3_1 = some r) ∧ Aside0 (kq ≤ k) ∧ Drawn0 w w')
 case atStart => exact ⟨(0), (by first | rfl | (simp; done) | (simp [*]; done)), H', ⟨Nat.le_refl _⟩, by repeat (first | exact Drawn0.refl _ | apply Drawn0.step)⟩
 case round =>
  clear H'
  obtain ⟨x3_1, rfl, HA, HK1, ⟨m1, rfl⟩⟩ := hrel
  cases gk with
  | zero => exact absurd HA.out (by simp [purflingref16_wanted.l0])
  | succ k1 =>
   have H := HA.out
   clear HA
   simp only [purflingref16_wanted.l0] at H
   by_cases c2 : x3_1 < (l0.length : Int)
   ·rw [if_pos c2] at H
    have c2b0 : decide (x3_1 < (l0.length : Int)) = true := decide_eq_true c2
    clear c2
    by_cases c3 : 0 ≤ x3_1
    ·rw [if_pos c3] at H
     have c3b0 : decide (0 ≤ x3_1) = true := decide_eq_true c3
     clear c3
     by_cases c4 : (rd l0 x3_1) < (-1)
     ·rw [if_pos c4] at H
      have c4b0 : decide ((rd l0 x3_1) < (-1)) = true := decide_eq_true c4
      clear c4
      obtain rfl := Option.some.inj H
      have p192 : 0 ≤ (x3_1 : Int) := of_decide_eq_true (by first | (with_reducible assumption) | assumption)
      have q192 : x3_1 < (l0.length : Int) := of_decide_eq_true (by first | (with_reducible assumption) | assumption)
      obtain ⟨ad192, e192, hx192_0⟩ := Kd.at_int HR0.out x3_1 p192 q192
      cases e192
      replace p192 := eq_true p192
      replace q192 := eq_true q192
      go_wp2
      go_ret
      exact ⟨by first | rfl | (simp; done) | (simp [*]; done), by repeat (first | exact Drawn0.refl _ | apply Drawn0.step)⟩
     ·rw [if_neg c4] at H
      have c4b0 : decide ((rd l0 x3_1) < (-1)) = false := decide_eq_false c4
      clear c4
      by_cases c5 : (rd l0 x3_1) > 1073741824
      ·rw [if_pos c5] at H
       have c5b0 : decide (1073741824 < (rd l0 x3_1)) = true := decide_eq_true c5
       clear c5
       obtain rfl := Option.some.inj H
       have p192 : 0 ≤ (x3_1 : Int) := of_decide_eq_true (by first | (with_reducible assumption) | assumption)
       have q192 : x3_1 < (l0.length : Int) := of_decide_eq_true (by first | (with_reducible assumption) | assumption)
       obtain ⟨ad192, e192, hx192_0⟩ := Kd.at_int HR0.out x3_1 p192 q192
       cases e192
       replace p192 := eq_true p192
       replace q192 := eq_true q192
       have p193 : 0 ≤ (x3_1 : Int) := of_decide_eq_true (by first | (with_reducible assumption) | assumption)
       have q193 : x3_1 < (l0.length : Int) := of_decide_eq_true (by first | (with_reducible assumption) | assumption)
       obtain ⟨ad193, e193, hx193_0⟩ := Kd.at_int HR0.out x3_1 p193 q193
       obtain rfl : ad192 = ad193 := (by injection e193)
       replace p193 := eq_true p193
       replace q193 := eq_true q193
       go_wp2
       go_ret
       exact ⟨by first | rfl | (simp; done) | (simp [*]; done), by repeat (first | exact Drawn0.refl _ | apply Drawn0.step)⟩
      ·rw [if_neg c5] at H
       have c5b0 : decide (1073741824 < (rd l0 x3_1)) = false := decide_eq_false c5
       clear c5
       have H' := Aside0.mk H
       clear H
       have p192 : 0 ≤ (x3_1 : Int) := of_decide_eq_true (by first | (with_reducible assumption) | assumption)
       have q192 : x3_1 < (l0.length : Int) := of_decide_eq_true (by first | (with_reducible assumption) | assumption)
       obtain ⟨ad192, e192, hx192_0⟩ := Kd.at_int HR0.out x3_1 p192 q192
       cases e192
       replace p192 := eq_true p192
       replace q192 := eq_true q192
       have p193 : 0 ≤ (x3_1 : Int) := of_decide_eq_true (by first | (with_reducible assumption) | assumption)
       have q193 : x3_1 < (l0.length : Int) := of_decide_eq_true (by first | (with_reducible assumption) | assumption)
       obtain ⟨ad193, e193, hx193_0⟩ := Kd.at_int HR0.out x3_1 p193 q193
       obtain rfl : ad192 = ad193 := (by injection e193)
       replace p193 := eq_true p193
       replace q193 := eq_true q193
       go_wp2
       go_roundg k1
       case measure => have := HK1.out; omega
       case rel => exact ⟨(wrap64 (x3_1 + 1)), (by first | rfl | (simp; done) | (simp [*]; done)), H', ⟨by have := HK1.out; omega⟩, by repeat (first | exact Drawn0.refl _ | apply Drawn0.step)⟩
    ·rw [if_neg c3] at H
     exact absurd H (by simp)
   ·rw [if_neg c2] at H
    have c2b0 : decide (x3_1 < (l0.length : Int)) = false := decide_eq_false c2
    clear c2
    obtain rfl := Option.some.inj H
    go_wp2
    go_ret
    exact ⟨by first | rfl | (simp; done) | (simp [*]; done), by repeat (first | exact Drawn0.refl _ | apply Drawn0.step)⟩

/-! ### purflingref16_Right: function 11 -/
mutual
def purflingref16_Right.j0 : Nat → List Int → List (S35) → List Int → Bool → Option (Bool)
 | 0, _, _, _, _ => none
 | k + 1, x0, x1, x2, x30 => if x30 = true then (some false) else (purflingref16_Right.l0 k x0 x1 x2 0)
def purflingref16_Right.l0 : Nat → List Int → List (S35) → List Int → Int → Option (Bool)
 | 0, _, _, _, _ => none
 | k + 1, x0, x1, x2, x10 => if x10 < (x1.length : Int) then (if 0 ≤ x10 then (if x10 < (x2.length : Int) then (if (rd x2 x10) < 0 then (some false) else (if (rd x2 x10) > 1125899906842623 then (some false) else (if ((rd_T35 x1 x10).f1) < 0 then (some false) else (if ((rd_T35 x1 x10).f1) > (x0.length : Int) then (some false) else (if ((rd_T35 x1 x10).f3) < 1 then (some false) else (if ((rd_T35 x1 x10).f3) > (wrap64 ((x0.length : Int) - ((rd_T35 x1 x10).f1))) then (some false) else (purflingref16_Right.l0 k x0 x1 x2 (wrap64 (x10 + 1))))))))) else (none)) else (none)) else (some true)
end
def purflingref16_Right.f (k : Nat) (l0 : List Int) (l1 : List (S35)) (l2 : List Int) (a3 : Int) : Option (Bool) := (purflingref16_wanted.f k l0).bind fun t194 => (if t194 = true then (if (l1.length : Int) = (l2.length : Int) then (if a3 < 0 then (purflingref16_Right.j0 k l0 l1 l2 true) else (purflingref16_Right.j0 k l0 l1 l2 (decide (a3 > 1073741824)))) else (purflingref16_Right.j0 k l0 l1 l2 true)) else (purflingref16_Right.j0 k l0 l1 l2 true))
theorem purflingref16_Right.mono_l : ∀ k, (∀ y0 y1 y2 y3, LeO (purflingref16_Right.j0 k y0 y1 y2 y3) (purflingref16_Right.j0 (k + 1) y0 y1 y2 y3)) ∧ (∀ y0 y1 y2 y3, LeO (purflingref16_Right.l0 k y0 y1 y2 y3) (purflingref16_Right.l0 (k + 1) y0 y1 y2 y3))
 | 0 => ⟨fun _ _ _ _ r h => by simp [purflingref16_Right.j0] at h, fun _ _ _ _ r h => by simp [purflingref16_Right.l0] at h⟩
 | k + 1 => by
  obtain ⟨ih0, ih1⟩ := purflingref16_Right.mono_l k
  refine ⟨?_, ?_⟩
  ·intro y0 y1 y2 y3
   unfold purflingref16_Right.j0
   repeat' first
   | (with_reducible exact ih0 _ _ _ _)
   | (with_reducible exact ih1 _ _ _ _)
   | (with_reducible exact purflingref16_wanted.mono _ _)
   | (with_reducible exact LeO.refl _)
   | (with_reducible exact LeO.none _)
   | (with_reducible refine LeO.ite ?_ ?_)
   | (with_reducible refine LeO.bind ?_ (fun _ => ?_))
   | exact ih0 _ _ _ _
   | exact ih1 _ _ _ _
   | exact purflingref16_wanted.mono _ _
   | exact LeO.none _
   | refine LeO.ite ?_ ?_
   | refine LeO.bind ?_ (fun _ => ?_)
  ·intro y0 y1 y2 y3
   unfold purflingref16_Right.l0
   repeat' first
   | (with_reducible exact ih0 _ _ _ _)
   | (with_reducible exact ih1 _ _ _ _)
   | (with_reducible exact purflingref16_wanted.mono _ _)
   | (with_reducible exact LeO.refl _)
   | (with_reducible exact LeO.none _)
   | (with_reducible refine LeO.ite ?_ ?_)
   | (with_reducible refine LeO.bind ?_ (fun _ => ?_))
   | exact ih0 _ _ _ _
   | exact ih1 _ _ _ _
   | exact purflingref16_wanted.mono _ _
   | exact LeO.none _
   | refine LeO.ite ?_ ?_
   | refine LeO.bind ?_ (fun _ => ?_)
theorem purflingref16_Right.mono : ∀ a0 a1 a2 a3 k, LeO (purflingref16_Right.f k a0 a1 a2 a3) (purflingref16_Right.f (k + 1) a0 a1 a2 a3) := by
 intro a0 a1 a2 a3 k
 obtain ⟨ih0, ih1⟩ := purflingref16_Right.mono_l k
 unfold purflingref16_Right.f
 repeat' first
   | (with_reducible exact ih0 _ _ _ _)
   | (with_reducible exact ih1 _ _ _ _)
   | (with_reducible exact purflingref16_wanted.mono _ _)
   | (with_reducible exact LeO.refl _)
   | (with_reducible exact LeO.none _)
   | (with_reducible refine LeO.ite ?_ ?_)
   | (with_reducible refine LeO.bind ?_ (fun _ => ?_))
   | exact ih0 _ _ _ _
   | exact ih1 _ _ _ _
   | exact purflingref16_wanted.mono _ _
   | exact LeO.none _
   | refine LeO.ite ?_ ?_
   | refine LeO.bind ?_ (fun _ => ?_)
set_option maxHeartbeats 8000000 in
set_option maxRecDepth 100000 in
theorem purflingref16_Right.calls (k : Nat) (A0 : Option Addr) (c0 : Nat) (l0 : List Int) (A1 : Option Addr) (c1 : Nat) (l1 : List (S35)) (A2 : Option Addr) (c2 : Nat) (l2 : List Int) (a3 : Int) (r : Bool) (w : World) (hr0 : Kd.C (Kd.int .i64) w A0 l0.length l0) (hc0 : l0.length ≤ c0) (hr1 : Kd.C k35 w A1 l1.length l1) (hc1 : l1.length ≤ c1) (hr2 : Kd.C (Kd.int .i64) w A2 l2.length l2) (hc2 : l2.length ≤ c2) (h : purflingref16_Right.f k l0 l1 l2 a3 = some r) :
  Calls Try.prog 11 #[.slice A0 l0.length c0, .slice A1 l1.length c1, .slice A2 l2.length c2, .int .i64 a3] w fun e w' => e = .returned (.bool r) ∧ Below w.heap.size w w' := by
 have hu35 := Try.underlying35
 have HR0 := Aside0.mk hr0
 have HC0 := Aside0.mk hc0
 clear hr0 hc0
 have HR1 := Aside0.mk hr1
 have HC1 := Aside0.mk hc1
 clear hr1 hc1
 have HR2 := Aside0.mk hr2
 have HC2 := Aside0.mk hc2
 clear hr2 hc2
 have HB := Aside0.mk (Below.refl w.heap.size w)
 have H : ((purflingref16_wanted.f k l0).bind fun t194 => (if t194 = true then (if (l1.length : Int) = (l2.length : Int) then (if a3 < 0 then (purflingref16_Right.j0 k l0 l1 l2 true) else (purflingref16_Right.j0 k l0 l1 l2 (decide (a3 > 1073741824)))) else (purflingref16_Right.j0 k l0 l1 l2 true)) else (purflingref16_Right.j0 k l0 l1 l2 true))) = some r := h
 clear h
 replace H := Option.bind_eq_some_iff.mp H
 obtain ⟨t194, A50, H⟩ := H
 replace H : (if t194 = true then (if (l1.length : Int) = (l2.length : Int) then (if a3 < 0 then (purflingref16_Right.j0 k l0 l1 l2 true) else (purflingref16_Right.j0 k l0 l1 l2 (decide (a3 > 1073741824)))) else (purflingref16_Right.j0 k l0 l1 l2 true)) else (purflingref16_Right.j0 k l0 l1 l2 true)) = some r := H
 have A5 := Aside0.mk A50
 clear A50
 have HC6 := Aside0.mk H
 clear H
 go_enter Try.func11, Try.ntmps11
 go_upto_region 2 with (first | ((with_reducible refine gate_callee (f := 25) rfl ?_); refine goesL_ (some 13) rfl rfl Try.func25 (by kernel_rfl) rfl #[.slice A0 l0.length c0] rfl (by (try simp only [List.map_toArray, List.map_cons, List.map_nil]); first | done | rfl | (simp only [List.length_drop, List.length_take]; rfl)) ?_; (with_reducible refine (purflingref16_wanted.calls k _ _ l0 t194 _ ?side1 ?side2 A5.out).mono ?_); (case side1 => repeat (first | exact HR0.out | (with_reducible refine Kd.C_alloc ?_ _) | (with_reducible refine Kd.C_drewN ?_ _) | (with_reducible refine Kd.C_drew ?_))); (case side2 => exact HC0.out); rintro e w' ⟨rfl, ⟨nd, rfl⟩⟩; refine ⟨_, rfl, ?_⟩))
 (try simp only [Act.put, List.setIfInBounds_toArray, List.set_cons_zero, List.set_cons_succ])
 go_cut [30] (fun v30 wc => ∃ (kq : Nat) (x30_5 : Bool), v30 = .bool x30_5 ∧ Aside0 (purflingref16_Right.j0 kq l0 l1 l2 x30_5 = some r) ∧ Aside0 (kq ≤ k) ∧ Aside0 (Below w.heap.size w wc))
 case first =>
  have H := HC6.out
  clear HC6
  by_cases c7 : t194 = true
  ·subst c7
   have H1 : (if (l1.length : Int) = (l2.length : Int) then (if a3 < 0 then (purflingref16_Right.j0 k l0 l1 l2 true) else (purflingref16_Right.j0 k l0 l1 l2 (decide (a3 > 1073741824)))) else (purflingref16_Right.j0 k l0 l1 l2 true)) = some r := by rw [if_pos rfl] at H; exact H
   clear H
   have H := H1
   clear H1
   by_cases c8 : (l1.length : Int) = (l2.length : Int)
   ·rw [if_pos c8] at H
    have c8b0 : ((l1.length : Int) == (l2.length : Int)) = true := beq_iff_eq.mpr c8
    have c8b1 : ((l1.length : Int) != (l2.length : Int)) = false := bne_eq_false_iff_eq.mpr c8
    have c8b2 : (l1.length == l2.length) = true := by first | simpa using c8 | (simp at c8 ⊢; omega)
    clear c8
    (first | rw [c8b0] | (simp only [i64_w, i32_w]; rw [c8b0]) | skip)
    by_cases c9 : a3 < 0
    ·rw [if_pos c9] at H
     have c9b0 : decide (a3 < 0) = true := decide_eq_true c9
     clear c9
     have H' := Aside0.mk H
     clear H
     go_wp2
     go_meet
     case rel => exact ⟨_, (true), (by first | rfl | (simp; done) | (simp [*]; done)), H', ⟨by first | omega | exact Nat.le_refl _⟩, ⟨by repeat (first | (with_reducible first | exact HB.out | apply below_alloc | apply pw_below_drewN | apply below_drew1) | exact HB.out)⟩⟩
    ·rw [if_neg c9] at H
     have c9b0 : decide (a3 < 0) = false := decide_eq_false c9
     clear c9
     have H' := Aside0.mk H
     clear H
     go_wp2
     go_meet
     case rel => exact ⟨_, (decide (a3 > 1073741824)), (by first | rfl | (simp; done) | (simp [*]; done)), H', ⟨by first | omega | exact Nat.le_refl _⟩, ⟨by repeat (first | (with_reducible first | exact HB.out | apply below_alloc | apply pw_below_drewN | apply below_drew1) | exact HB.out)⟩⟩
   ·rw [if_neg c8] at H
    have c8b0 : ((l1.length : Int) == (l2.length : Int)) = false := beq_eq_false_iff_ne.mpr c8
    have c8b1 : ((l1.length : Int) != (l2.length : Int)) = true := bne_iff_ne.mpr c8
    have c8b2 : (l1.length == l2.length) = false := by first | simpa using c8 | (simp at c8 ⊢; omega)
    (first | rw [c8b0] | (simp only [i64_w, i32_w]; rw [c8b0]) | skip)
    have H' := Aside0.mk H
    clear H
    go_wp2
    go_meet
    case rel => exact ⟨_, (true), (by first | rfl | (simp; done) | (simp [*]; done)), H', ⟨by first | omega | exact Nat.le_refl _⟩, ⟨by repeat (first | (with_reducible first | exact HB.out | apply below_alloc | apply pw_below_drewN | apply below_drew1) | exact HB.out)⟩⟩
  ·replace c7 := Bool.eq_false_iff.mpr c7
   subst c7
   have H1 : (purflingref16_Right.j0 k l0 l1 l2 true) = some r := by rw [if_neg (show ¬ (false = true) by decide)] at H; exact H
   clear H
   have H := H1
   clear H1
   have H' := Aside0.mk H
   clear H
   go_wp2
   go_meet
   case rel => exact ⟨_, (true), (by first | rfl | (simp; done) | (simp [*]; done)), H', ⟨by first | omega | exact Nat.le_refl _⟩, ⟨by repeat (first | (with_reducible first | exact HB.out | apply below_alloc | apply pw_below_drewN | apply below_drew1) | exact HB.out)⟩⟩
 case rest =>
  clear HC6
  try clear c1
  try clear c2
  try clear p2
  try clear c7
  try clear c8
  try clear c8b0
  try clear c8b1
  try clear c8b2
  try clear c9
  try clear c9b0
  obtain ⟨kq, x30_5, rfl, HA, HJ5, HB⟩ := hcut
  cases kq with
  | zero => exact absurd HA.out (by simp [purflingref16_Right.j0])
  | succ kj5 =>
   have H := HA.out
   clear HA
   simp only [purflingref16_Right.j0] at H
   by_cases c10 : x30_5 = true
   ·subst c10
    have H1 : (some false) = some r := by rw [if_pos rfl] at H; exact H
    clear H
    have H := H1
    clear H1
    obtain rfl := Option.some.inj H
    go_wp2
    go_ret
    exact ⟨by first | rfl | (simp [errW_none, errW_some] <;> rfl) | (simp [*, errW_none, errW_some] <;> rfl), by repeat (first | (with_reducible first | exact HB.out | apply below_alloc | apply pw_below_drewN | apply below_drew1) | exact HB.out)⟩
   ·replace c10 := Bool.eq_false_iff.mpr c10
    subst c10
    have H1 : (purflingref16_Right.l0 kj5 l0 l1 l2 0) = some r := by rw [if_neg (show ¬ (false = true) by decide)] at H; exact H
    clear H
    have H := H1
    clear H1
    have H' := Aside0.mk H
    clear H
    go_wp2
    go_loopg [10] kj5 (fun kq v10 w' => ∃ (x10_2 : Int), v10 = .int .i64 x10_2 ∧ Aside0 (purflingref16_Right.l0 kq l0 l1 l2 x10_2 = some r) ∧ Aside0 (kq ≤ kj5) ∧ Aside0 (Below w.heap.size w w'))
    case atStart => exact ⟨(0), (by first | rfl | (simp; done) | (simp [*]; done)), H', ⟨Nat.le_refl _⟩, ⟨by repeat (first | (with_reducible first | exact HB.out | apply below_alloc | apply pw_below_drewN | apply below_drew1) | exact HB.out)⟩⟩
    case round =>
     clear H'
     try clear c1
     try clear c2
     try clear p2
     try clear c7
     try clear c8
     try clear c8b0
     try clear c8b1
     try clear c8b2
     try clear c9
     try clear c9b0
     try clear c10
     try clear p2
     obtain ⟨x10_2, rfl, HA, HK2, HB⟩ := hrel
     cases gk with
     | zero => exact absurd HA.out (by simp [purflingref16_Right.l0])
     | succ k2 =>
      have H := HA.out
      clear HA
      simp only [purflingref16_Right.l0] at H
      by_cases c11 : x10_2 < (l1.length : Int)
      ·rw [if_pos c11] at H
       have c11b0 : decide (x10_2 < (l1.length : Int)) = true := decide_eq_true c11
       clear c11
       by_cases c12 : 0 ≤ x10_2
       ·rw [if_pos c12] at H
        have c12b0 : decide (0 ≤ x10_2) = true := decide_eq_true c12
        clear c12
        by_cases c13 : x10_2 < (l2.length : Int)
        ·rw [if_pos c13] at H
         have c13b0 : decide (x10_2 < (l2.length : Int)) = true := decide_eq_true c13
         clear c13
         by_cases c14 : (rd l2 x10_2) < 0
         ·rw [if_pos c14] at H
          have c14b0 : decide ((rd l2 x10_2) < 0) = true := decide_eq_true c14
          clear c14
          obtain rfl := Option.some.inj H
          have p195 : 0 ≤ (x10_2 : Int) := of_decide_eq_true (by first | (with_reducible assumption) | assumption)
          have q195 : x10_2 < (l1.length : Int) := of_decide_eq_true (by first | (with_reducible assumption) | assumption)
          obtain ⟨ad195, e195, hx195_0, hx195_1, hx195_2, hx195_3, hx195_4⟩ := at_T35 HR1.out x10_2 p195 q195
          cases e195
          replace hx195_0 := (HB.out.cell (World.block_lt_of_cell? w _ hx195_0)).trans hx195_0
          replace hx195_1 := (HB.out.cell (World.block_lt_of_cell? w _ hx195_1)).trans hx195_1
          replace hx195_2 := (HB.out.cell (World.block_lt_of_cell? w _ hx195_2)).trans hx195_2
          replace hx195_3 := (HB.out.cell (World.block_lt_of_cell? w _ hx195_3)).trans hx195_3
          replace hx195_4 := (HB.out.cell (World.block_lt_of_cell? w _ hx195_4)).trans hx195_4
          replace p195 := eq_true p195
          replace q195 := eq_true q195
          go_wp2_with (first | ((with_reducible refine gate_dst (N := 11) rfl ?_); (try (refine gate_guard (by rfl) ?_; dsimp only)); refine box_event ?hg (N := 11) ?hd (cs := #[.int .i64 0, .int .i64 0, .int .i64 0, .int .i64 0, .int .i64 0]) (t := 35) ?hr ?_; (case hd => rfl); (case hg => rfl); (case hr => first | (go_simp; done) | (go_simp; rfl)); intro gb196 hg w15 hbox hb; have n0_ := Aside0.mk (below_step (by repeat (first | (with_reducible first | exact HB.out | apply below_alloc | apply pw_below_drewN | apply below_drew1) | exact HB.out)) hb); have n1_ := Aside0.mk (hbox); have n2_ := Aside0.mk ((by rw [hg]; exact (below_size (by repeat (first | (with_reducible first | exact HB.out | apply below_alloc | apply pw_below_drewN | apply below_drew1) | exact HB.out))) : w.heap.size ≤ gb196)); have n3_ := Aside0.mk ((by rw [hg]; exact (below_size (by repeat (first | (with_reducible first | exact HB.out | apply below_alloc | apply pw_below_drewN | apply below_drew1) | exact HB.out))) : w.heap.size ≤ gb196)); clear HB; have HB := n0_; have BK196 := n1_; have GW196 := n2_; have GE196 := n3_; clear n0_ n1_ n2_ n3_; clear hb hbox hg; have hcz16_0 : w15.cell? ⟨gb196, 0, none⟩ = some (.int .i64 0) := (blk_cell BK196.out 0).trans rfl; have hcz16_1 : w15.cell? ⟨gb196, 1, none⟩ = some (.int .i64 0) := (blk_cell BK196.out 1).trans rfl; have hcz16_2 : w15.cell? ⟨gb196, 2, none⟩ = some (.int .i64 0) := (blk_cell BK196.out 2).trans rfl; have hcz16_3 : w15.cell? ⟨gb196, 3, none⟩ = some (.int .i64 0) := (blk_cell BK196.out 3).trans rfl; have hcz16_4 : w15.cell? ⟨gb196, 4, none⟩ = some (.int .i64 0) := (blk_cell BK196.out 4).trans rfl; have hfz16_0 := blk_frozen BK196.out 0; have hfz16_1 := blk_frozen BK196.out 1; have hfz16_2 := blk_frozen BK196.out 2; have hfz16_3 := blk_frozen BK196.out 3; have hfz16_4 := blk_frozen BK196.out 4; have p197 : 0 ≤ (x10_2 : Int) := of_decide_eq_true (by first | (with_reducible assumption) | assumption); have q197 : x10_2 < (l2.length : Int) := of_decide_eq_true (by first | (with_reducible assumption) | assumption); obtain ⟨ad197, e197, hx197_0⟩ := Kd.at_int HR2.out x10_2 p197 q197; cases e197; have hn197_0 : ad197.block ≠ gb196 := Nat.ne_of_lt (Nat.lt_of_lt_of_le (by have := World.block_lt_of_cell? _ _ hx197_0; first | rwa [add_block] at this | exact this) GW196.out); have hn197_1 : ad197.block ≠ gb196 := Nat.ne_of_lt (Nat.lt_of_lt_of_le (by have := World.block_lt_of_cell? _ _ hx197_0; first | rwa [add_block] at this | exact this) GW196.out); have hn197_2 : ad197.block ≠ gb196 := Nat.ne_of_lt (Nat.lt_of_lt_of_le (by have := World.block_lt_of_cell? _ _ hx197_0; first | rwa [add_block] at this | exact this) GW196.out); have hn197_3 : ad197.block ≠ gb196 := Nat.ne_of_lt (Nat.lt_of_lt_of_le (by have := World.block_lt_of_cell? _ _ hx197_0; first | rwa [add_block] at this | exact this) GW196.out); have hn197_4 : ad197.block ≠ gb196 := Nat.ne_of_lt (Nat.lt_of_lt_of_le (by have := World.block_lt_of_cell? _ _ hx197_0; first | rwa [add_block] at this | exact this) GW196.out); replace hx197_0 := (HB.out.cell (World.block_lt_of_cell? w _ hx197_0)).trans hx197_0; replace hx197_0 := (cell_far (p := ⟨gb196, 0, none⟩) (by first | (rw [add_block]; exact hn197_0) | (show (Addr.add _ _).block ≠ _; rw [add_block]; exact hn197_0) | exact hn197_0) (.int .i64 ((rd_T35 l1 x10_2).f0))).trans hx197_0; replace hx197_0 := (cell_far (p := ⟨gb196, 1, none⟩) (by first | (rw [add_block]; exact hn197_1) | (show (Addr.add _ _).block ≠ _; rw [add_block]; exact hn197_1) | exact hn197_1) (.int .i64 ((rd_T35 l1 x10_2).f1))).trans hx197_0; replace hx197_0 := (cell_far (p := ⟨gb196, 2, none⟩) (by first | (rw [add_block]; exact hn197_2) | (show (Addr.add _ _).block ≠ _; rw [add_block]; exact hn197_2) | exact hn197_2) (.int .i64 ((rd_T35 l1 x10_2).f2))).trans hx197_0; replace hx197_0 := (cell_far (p := ⟨gb196, 3, none⟩) (by first | (rw [add_block]; exact hn197_3) | (show (Addr.add _ _).block ≠ _; rw [add_block]; exact hn197_3) | exact hn197_3) (.int .i64 ((rd_T35 l1 x10_2).f3))).trans hx197_0; replace hx197_0 := (cell_far (p := ⟨gb196, 4, none⟩) (by first | (rw [add_block]; exact hn197_4) | (show (Addr.add _ _).block ≠ _; rw [add_block]; exact hn197_4) | exact hn197_4) (.int .i64 ((rd_T35 l1 x10_2).f4))).trans hx197_0; clear hn197_0; clear hn197_1; clear hn197_2; clear hn197_3; clear hn197_4; replace p197 := eq_true p197; replace q197 := eq_true q197))
          go_ret
          exact ⟨by first | rfl | (simp [errW_none, errW_some] <;> rfl) | (simp [*, errW_none, errW_some] <;> rfl), by repeat (first | (with_reducible first | exact HB.out | apply below_alloc | apply pw_below_drewN | apply below_drew1 | refine below_set ?_ GE196.out) | exact HB.out)⟩
         ·rw [if_neg c14] at H
          have c14b0 : decide ((rd l2 x10_2) < 0) = false := decide_eq_false c14
          clear c14
          by_cases c17 : (rd l2 x10_2) > 1125899906842623
          ·rw [if_pos c17] at H
           have c17b0 : decide (1125899906842623 < (rd l2 x10_2)) = true := decide_eq_true c17
           clear c17
           obtain rfl := Option.some.inj H
           have p195 : 0 ≤ (x10_2 : Int) := of_decide_eq_true (by first | (with_reducible assumption) | assumption)
           have q195 : x10_2 < (l1.length : Int) := of_decide_eq_true (by first | (with_reducible assumption) | assumption)
           obtain ⟨ad195, e195, hx195_0, hx195_1, hx195_2, hx195_3, hx195_4⟩ := at_T35 HR1.out x10_2 p195 q195
           cases e195
           replace hx195_0 := (HB.out.cell (World.block_lt_of_cell? w _ hx195_0)).trans hx195_0
           replace hx195_1 := (HB.out.cell (World.block_lt_of_cell? w _ hx195_1)).trans hx195_1
           replace hx195_2 := (HB.out.cell (World.block_lt_of_cell? w _ hx195_2)).trans hx195_2
           replace hx195_3 := (HB.out.cell (World.block_lt_of_cell? w _ hx195_3)).trans hx195_3
           replace hx195_4 := (HB.out.cell (World.block_lt_of_cell? w _ hx195_4)).trans hx195_4
           replace p195 := eq_true p195
           replace q195 := eq_true q195
           go_wp2_with (first | ((with_reducible refine gate_dst (N := 11) rfl ?_); (try (refine gate_guard (by rfl) ?_; dsimp only)); refine box_event ?hg (N := 11) ?hd (cs := #[.int .i64 0, .int .i64 0, .int .i64 0, .int .i64 0, .int .i64 0]) (t := 35) ?hr ?_; (case hd => rfl); (case hg => rfl); (case hr => first | (go_simp; done) | (go_simp; rfl)); intro gb196 hg w18 hbox hb; have n0_ := Aside0.mk (below_step (by repeat (first | (with_reducible first | exact HB.out | apply below_alloc | apply pw_below_drewN | apply below_drew1) | exact HB.out)) hb); have n1_ := Aside0.mk (hbox); have n2_ := Aside0.mk ((by rw [hg]; exact (below_size (by repeat (first | (with_reducible first | exact HB.out | apply below_alloc | apply pw_below_drewN | apply below_drew1) | exact HB.out))) : w.heap.size ≤ gb196)); have n3_ := Aside0.mk ((by rw [hg]; exact (below_size (by repeat (first | (with_reducible first | exact HB.out | apply below_alloc | apply pw_below_drewN | apply below_drew1) | exact HB.out))) : w.heap.size ≤ gb196)); clear HB; have HB := n0_; have BK196 := n1_; have GW196 := n2_; have GE196 := n3_; clear n0_ n1_ n2_ n3_; clear hb hbox hg; have hcz19_0 : w18.cell? ⟨gb196, 0, none⟩ = some (.int .i64 0) := (blk_cell BK196.out 0).trans rfl; have hcz19_1 : w18.cell? ⟨gb196, 1, none⟩ = some (.int .i64 0) := (blk_cell BK196.out 1).trans rfl; have hcz19_2 : w18.cell? ⟨gb196, 2, none⟩ = some (.int .i64 0) := (blk_cell BK196.out 2).trans rfl; have hcz19_3 : w18.cell? ⟨gb196, 3, none⟩ = some (.int .i64 0) := (blk_cell BK196.out 3).trans rfl; have hcz19_4 : w18.cell? ⟨gb196, 4, none⟩ = some (.int .i64 0) := (blk_cell BK196.out 4).trans rfl; have hfz19_0 := blk_frozen BK196.out 0; have hfz19_1 := blk_frozen BK196.out 1; have hfz19_2 := blk_frozen BK196.out 2; have hfz19_3 := blk_frozen BK196.out 3; have hfz19_4 := blk_frozen BK196.out 4; have p197 : 0 ≤ (x10_2 : Int) := of_decide_eq_true (by first | (with_reducible assumption) | assumption); have q197 : x10_2 < (l2.length : Int) := of_decide_eq_true (by first | (with_reducible assumption) | assumption); obtain ⟨ad197, e197, hx197_0⟩ := Kd.at_int HR2.out x10_2 p197 q197; cases e197; have hn197_0 : ad197.block ≠ gb196 := Nat.ne_of_lt (Nat.lt_of_lt_of_le (by have := World.block_lt_of_cell? _ _ hx197_0; first | rwa [add_block] at this | exact this) GW196.out); have hn197_1 : ad197.block ≠ gb196 := Nat.ne_of_lt (Nat.lt_of_lt_of_le (by have := World.block_lt_of_cell? _ _ hx197_0; first | rwa [add_block] at this | exact this) GW196.out); have hn197_2 : ad197.block ≠ gb196 := Nat.ne_of_lt (Nat.lt_of_lt_of_le (by have := World.block_lt_of_cell? _ _ hx197_0; first | rwa [add_block] at this | exact this) GW196.out); have hn197_3 : ad197.block ≠ gb196 := Nat.ne_of_lt (Nat.lt_of_lt_of_le (by have := World.block_lt_of_cell? _ _ hx197_0; first | rwa [add_block] at this | exact this) GW196.out); have hn197_4 : ad197.block ≠ gb196 := Nat.ne_of_lt (Nat.lt_of_lt_of_le (by have := World.block_lt_of_cell? _ _ hx197_0; first | rwa [add_block] at this | exact this) GW196.out); replace hx197_0 := (HB.out.cell (World.block_lt_of_cell? w _ hx197_0)).trans hx197_0; replace hx197_0 := (cell_far (p := ⟨gb196, 0, none⟩) (by first | (rw [add_block]; exact hn197_0) | (show (Addr.add _ _).block ≠ _; rw [add_block]; exact hn197_0) | exact hn197_0) (.int .i64 ((rd_T35 l1 x10_2).f0))).trans hx197_0; replace hx197_0 := (cell_far (p := ⟨gb196, 1, none⟩) (by first | (rw [add_block]; exact hn197_1) | (show (Addr.add _ _).block ≠ _; rw [add_block]; exact hn197_1) | exact hn197_1) (.int .i64 ((rd_T35 l1 x10_2).f1))).trans hx197_0; replace hx197_0 := (cell_far (p := ⟨gb196, 2, none⟩) (by first | (rw [add_block]; exact hn197_2) | (show (Addr.add _ _).block ≠ _; rw [add_block]; exact hn197_2) | exact hn197_2) (.int .i64 ((rd_T35 l1 x10_2).f2))).trans hx197_0; replace hx197_0 := (cell_far (p := ⟨gb196, 3, none⟩) (by first | (rw [add_block]; exact hn197_3) | (show (Addr.add _ _).block ≠ _; rw [add_block]; exact hn197_3) | exact hn197_3) (.int .i64 ((rd_T35 l1 x10_2).f3))).trans hx197_0; replace hx197_0 := (cell_far (p := ⟨gb196, 4, none⟩) (by first | (rw [add_block]; exact hn197_4) | (show (Addr.add _ _).block ≠ _; rw [add_block]; exact hn197_4) | exact hn197_4) (.int .i64 ((rd_T35 l1 x10_2).f4))).trans hx197_0; clear hn197_0; clear hn197_1; clear hn197_2; clear hn197_3; clear hn197_4; replace p197 := eq_true p197; replace q197 := eq_true q197; have p198 : 0 ≤ (x10_2 : Int) := of_decide_eq_true (by first | (with_reducible assumption) | assumption); have q198 : x10_2 < (l2.length : Int) := of_decide_eq_true (by first | (with_reducible assumption) | assumption); obtain ⟨ad198, e198, hx198_0⟩ := Kd.at_int HR2.out x10_2 p198 q198; obtain rfl : ad197 = ad198 := (by injection e198); have hn198_0 : ad197.block ≠ gb196 := Nat.ne_of_lt (Nat.lt_of_lt_of_le (by have := World.block_lt_of_cell? _ _ hx198_0; first | rwa [add_block] at this | exact this) GW196.out); have hn198_1 : ad197.block ≠ gb196 := Nat.ne_of_lt (Nat.lt_of_lt_of_le (by have := World.block_lt_of_cell? _ _ hx198_0; first | rwa [add_block] at this | exact this) GW196.out); have hn198_2 : ad197.block ≠ gb196 := Nat.ne_of_lt (Nat.lt_of_lt_of_le (by have := World.block_lt_of_cell? _ _ hx198_0; first | rwa [add_block] at this | exact this) GW196.out); have hn198_3 : ad197.block ≠ gb196 := Nat.ne_of_lt (Nat.lt_of_lt_of_le (by have := World.block_lt_of_cell? _ _ hx198_0; first | rwa [add_block] at this | exact this) GW196.out); have hn198_4 : ad197.block ≠ gb196 := Nat.ne_of_lt (Nat.lt_of_lt_of_le (by have := World.block_lt_of_cell? _ _ hx198_0; first | rwa [add_block] at this | exact this) GW196.out); replace hx198_0 := (HB.out.cell (World.block_lt_of_cell? w _ hx198_0)).trans hx198_0; replace hx198_0 := (cell_far (p := ⟨gb196, 0, none⟩) (by first | (rw [add_block]; exact hn198_0) | (show (Addr.add _ _).block ≠ _; rw [add_block]; exact hn198_0) | exact hn198_0) (.int .i64 ((rd_T35 l1 x10_2).f0))).trans hx198_0; replace hx198_0 := (cell_far (p := ⟨gb196, 1, none⟩) (by first | (rw [add_block]; exact hn198_1) | (show (Addr.add _ _).block ≠ _; rw [add_block]; exact hn198_1) | exact hn198_1) (.int .i64 ((rd_T35 l1 x10_2).f1))).trans hx198_0; replace hx198_0 := (cell_far (p := ⟨gb196, 2, none⟩) (by first | (rw [add_block]; exact hn198_2) | (show (Addr.add _ _).block ≠ _; rw [add_block]; exact hn198_2) | exact hn198_2) (.int .i64 ((rd_T35 l1 x10_2).f2))).trans hx198_0; replace hx198_0 := (cell_far (p := ⟨gb196, 3, none⟩) (by first | (rw [add_block]; exact hn198_3) | (show (Addr.add _ _).block ≠ _; rw [add_block]; exact hn198_3) | exact hn198_3) (.int .i64 ((rd_T35 l1 x10_2).f3))).trans hx198_0; replace hx198_0 := (cell_far (p := ⟨gb196, 4, none⟩) (by first | (rw [add_block]; exact hn198_4) | (show (Addr.add _ _).block ≠ _; rw [add_block]; exact hn198_4) | exact hn198_4) (.int .i64 ((rd_T35 l1 x10_2).f4))).trans hx198_0; clear hn198_0; clear hn198_1; clear hn198_2; clear hn198_3; clear hn198_4; replace p198 := eq_true p198; replace q198 := eq_true q198))
           go_ret
           exact ⟨by first | rfl | (simp [errW_none, errW_some] <;> rfl) | (simp [*, errW_none, errW_some] <;> rfl), by repeat (first | (with_reducible first | exact HB.out | apply below_alloc | apply pw_below_drewN | apply below_drew1 | refine below_set ?_ GE196.out) | exact HB.out)⟩
          ·rw [if_neg c17] at H
           have c17b0 : decide (1125899906842623 < (rd l2 x10_2)) = false := decide_eq_false c17
           clear c17
           by_cases c20 : ((rd_T35 l1 x10_2).f1) < 0
           ·rw [if_pos c20] at H
            have c20b0 : decide (((rd_T35 l1 x10_2).f1) < 0) = true := decide_eq_true c20
            clear c20
            obtain rfl := Option.some.inj H
            have p195 : 0 ≤ (x10_2 : Int) := of_decide_eq_true (by first | (with_reducible assumption) | assumption)
            have q195 : x10_2 < (l1.length : Int) := of_decide_eq_true (by first | (with_reducible assumption) | assumption)
            obtain ⟨ad195, e195, hx195_0, hx195_1, hx195_2, hx195_3, hx195_4⟩ := at_T35 HR1.out x10_2 p195 q195
            cases e195
            replace hx195_0 := (HB.out.cell (World.block_lt_of_cell? w _ hx195_0)).trans hx195_0
            replace hx195_1 := (HB.out.cell (World.block_lt_of_cell? w _ hx195_1)).trans hx195_1
            replace hx195_2 := (HB.out.cell (World.block_lt_of_cell? w _ hx195_2)).trans hx195_2
            replace hx195_3 := (HB.out.cell (World.block_lt_of_cell? w _ hx195_3)).trans hx195_3
            replace hx195_4 := (HB.out.cell (World.block_lt_of_cell? w _ hx195_4)).trans hx195_4
            replace p195 := eq_true p195
            replace q195 := eq_true q195
            go_wp2_with (first | ((with_reducible refine gate_dst (N := 11) rfl ?_); (try (refine gate_guard (by rfl) ?_; dsimp only)); refine box_event ?hg (N := 11) ?hd (cs := #[.int .i64 0, .int .i64 0, .int .i64 0, .int .i64 0, .int .i64 0]) (t := 35) ?hr ?_; (case hd => rfl); (case hg => rfl); (case hr => first | (go_simp; done) | (go_simp; rfl)); intro gb196 hg w21 hbox hb; have n0_ := Aside0.mk (below_step (by repeat (first | (with_reducible first | exact HB.out | apply below_alloc | apply pw_below_drewN | apply below_drew1) | exact HB.out)) hb); have n1_ := Aside0.mk (hbox); have n2_ := Aside0.mk ((by rw [hg]; exact (below_size (by repeat (first | (with_reducible first | exact HB.out | apply below_alloc | apply pw_below_drewN | apply below_drew1) | exact HB.out))) : w.heap.size ≤ gb196)); have n3_ := Aside0.mk ((by rw [hg]; exact (below_size (by repeat (first | (with_reducible first | exact HB.out | apply below_alloc | apply pw_below_drewN | apply below_drew1) | exact HB.out))) : w.heap.size ≤ gb196)); clear HB; have HB := n0_; have BK196 := n1_; have GW196 := n2_; have GE196 := n3_; clear n0_ n1_ n2_ n3_; clear hb hbox hg; have hcz22_0 : w21.cell? ⟨gb196, 0, none⟩ = some (.int .i64 0) := (blk_cell BK196.out 0).trans rfl; have hcz22_1 : w21.cell? ⟨gb196, 1, none⟩ = some (.int .i64 0) := (blk_cell BK196.out 1).trans rfl; have hcz22_2 : w21.cell? ⟨gb196, 2, none⟩ = some (.int .i64 0) := (blk_cell BK196.out 2).trans rfl; have hcz22_3 : w21.cell? ⟨gb196, 3, none⟩ = some (.int .i64 0) := (blk_cell BK196.out 3).trans rfl; have hcz22_4 : w21.cell? ⟨gb196, 4, none⟩ = some (.int .i64 0) := (blk_cell BK196.out 4).trans rfl; have hfz22_0 := blk_frozen BK196.out 0; have hfz22_1 := blk_frozen BK196.out 1; have hfz22_2 := blk_frozen BK196.out 2; have hfz22_3 := blk_frozen BK196.out 3; have hfz22_4 := blk_frozen BK196.out 4; have p197 : 0 ≤ (x10_2 : Int) := of_decide_eq_true (by first | (with_reducible assumption) | assumption); have q197 : x10_2 < (l2.length : Int) := of_decide_eq_true (by first | (with_reducible assumption) | assumption); obtain ⟨ad197, e197, hx197_0⟩ := Kd.at_int HR2.out x10_2 p197 q197; cases e197; have hn197_0 : ad197.block ≠ gb196 := Nat.ne_of_lt (Nat.lt_of_lt_of_le (by have := World.block_lt_of_cell? _ _ hx197_0; first | rwa [add_block] at this | exact this) GW196.out); have hn197_1 : ad197.block ≠ gb196 := Nat.ne_of_lt (Nat.lt_of_lt_of_le (by have := World.block_lt_of_cell? _ _ hx197_0; first | rwa [add_block] at this | exact this) GW196.out); have hn197_2 : ad197.block ≠ gb196 := Nat.ne_of_lt (Nat.lt_of_lt_of_le (by have := World.block_lt_of_cell? _ _ hx197_0; first | rwa [add_block] at this | exact this) GW196.out); have hn197_3 : ad197.block ≠ gb196 := Nat.ne_of_lt (Nat.lt_of_lt_of_le (by have := World.block_lt_of_cell? _ _ hx197_0; first | rwa [add_block] at this | exact this) GW196.out); have hn197_4 : ad197.block ≠ gb196 := Nat.ne_of_lt (Nat.lt_of_lt_of_le (by have := World.block_lt_of_cell? _ _ hx197_0; first | rwa [add_block] at this | exact this) GW196.out); replace hx197_0 := (HB.out.cell (World.block_lt_of_cell? w _ hx197_0)).trans hx197_0; replace hx197_0 := (cell_far (p := ⟨gb196, 0, none⟩) (by first | (rw [add_block]; exact hn197_0) | (show (Addr.add _ _).block ≠ _; rw [add_block]; exact hn197_0) | exact hn197_0) (.int .i64 ((rd_T35 l1 x10_2).f0))).trans hx197_0; replace hx197_0 := (cell_far (p := ⟨gb196, 1, none⟩) (by first | (rw [add_block]; exact hn197_1) | (show (Addr.add _ _).block ≠ _; rw [add_block]; exact hn197_1) | exact hn197_1) (.int .i64 ((rd_T35 l1 x10_2).f1))).trans hx197_0; replace hx197_0 := (cell_far (p := ⟨gb196, 2, none⟩) (by first | (rw [add_block]; exact hn197_2) | (show (Addr.add _ _).block ≠ _; rw [add_block]; exact hn197_2) | exact hn197_2) (.int .i64 ((rd_T35 l1 x10_2).f2))).trans hx197_0; replace hx197_0 := (cell_far (p := ⟨gb196, 3, none⟩) (by first | (rw [add_block]; exact hn197_3) | (show (Addr.add _ _).block ≠ _; rw [add_block]; exact hn197_3) | exact hn197_3) (.int .i64 ((rd_T35 l1 x10_2).f3))).trans hx197_0; replace hx197_0 := (cell_far (p := ⟨gb196, 4, none⟩) (by first | (rw [add_block]; exact hn197_4) | (show (Addr.add _ _).block ≠ _; rw [add_block]; exact hn197_4) | exact hn197_4) (.int .i64 ((rd_T35 l1 x10_2).f4))).trans hx197_0; clear hn197_0; clear hn197_1; clear hn197_2; clear hn197_3; clear hn197_4; replace p197 := eq_true p197; replace q197 := eq_true q197; have p198 : 0 ≤ (x10_2 : Int) := of_decide_eq_true (by first | (with_reducible assumption) | assumption); have q198 : x10_2 < (l2.length : Int) := of_decide_eq_true (by first | (with_reducible assumption) | assumption); obtain ⟨ad198, e198, hx198_0⟩ := Kd.at_int HR2.out x10_2 p198 q198; obtain rfl : ad197 = ad198 := (by injection e198); have hn198_0 : ad197.block ≠ gb196 := Nat.ne_of_lt (Nat.lt_of_lt_of_le (by have := World.block_lt_of_cell? _ _ hx198_0; first | rwa [add_block] at this | exact this) GW196.out); have hn198_1 : ad197.block ≠ gb196 := Nat.ne_of_lt (Nat.lt_of_lt_of_le (by have := World.block_lt_of_cell? _ _ hx198_0; first | rwa [add_block] at this | exact this) GW196.out); have hn198_2 : ad197.block ≠ gb196 := Nat.ne_of_lt (Nat.lt_of_lt_of_le (by have := World.block_lt_of_cell? _ _ hx198_0; first | rwa [add_block] at this | exact this) GW196.out); have hn198_3 : ad197.block ≠ gb196 := Nat.ne_of_lt (Nat.lt_of_lt_of_le (by have := World.block_lt_of_cell? _ _ hx198_0; first | rwa [add_block] at this | exact this) GW196.out); have hn198_4 : ad197.block ≠ gb196 := Nat.ne_of_lt (Nat.lt_of_lt_of_le (by have := World.block_lt_of_cell? _ _ hx198_0; first | rwa [add_block] at this | exact this) GW196.out); replace hx198_0 := (HB.out.cell (World.block_lt_of_cell? w _ hx198_0)).trans hx198_0; replace hx198_0 := (cell_far (p := ⟨gb196, 0, none⟩) (by first | (rw [add_block]; exact hn198_0) | (show (Addr.add _ _).block ≠ _; rw [add_block]; exact hn198_0) | exact hn198_0) (.int .i64 ((rd_T35 l1 x10_2).f0))).trans hx198_0; replace hx198_0 := (cell_far (p := ⟨gb196, 1, none⟩) (by first | (rw [add_block]; exact hn198_1) | (show (Addr.add _ _).block ≠ _; rw [add_block]; exact hn198_1) | exact hn198_1) (.int .i64 ((rd_T35 l1 x10_2).f1))).trans hx198_0; replace hx198_0 := (cell_far (p := ⟨gb196, 2, none⟩) (by first | (rw [add_block]; exact hn198_2) | (show (Addr.add _ _).block ≠ _; rw [add_block]; exact hn198_2) | exact hn198_2) (.int .i64 ((rd_T35 l1 x10_2).f2))).trans hx198_0; replace hx198_0 := (cell_far (p := ⟨gb196, 3, none⟩) (by first | (rw [add_block]; exact hn198_3) | (show (Addr.add _ _).block ≠ _; rw [add_block]; exact hn198_3) | exact hn198_3) (.int .i64 ((rd_T35 l1 x10_2).f3))).trans hx198_0; replace hx198_0 := (cell_far (p := ⟨gb196, 4, none⟩) (by first | (rw [add_block]; exact hn198_4) | (show (Addr.add _ _).block ≠ _; rw [add_block]; exact hn198_4) | exact hn198_4) (.int .i64 ((rd_T35 l1 x10_2).f4))).trans hx198_0; clear hn198_0; clear hn198_1; clear hn198_2; clear hn198_3; clear hn198_4; replace p198 := eq_true p198; replace q198 := eq_true q198))
            go_ret
            exact ⟨by first | rfl | (simp [errW_none, errW_some] <;> rfl) | (simp [*, errW_none, errW_some] <;> rfl), by repeat (first | (with_reducible first | exact HB.out | apply below_alloc | apply pw_below_drewN | apply below_drew1 | refine below_set ?_ GE196.out) | exact HB.out)⟩
           ·rw [if_neg c20] at H
            have c20b0 : decide (((rd_T35 l1 x10_2).f1) < 0) = false := decide_eq_false c20
            clear c20
            by_cases c23 : ((rd_T35 l1 x10_2).f1) > (l0.length : Int)
            ·rw [if_pos c23] at H
             have c23b0 : decide ((l0.length : Int) < ((rd_T35 l1 x10_2).f1)) = true := decide_eq_true c23
             clear c23
             obtain rfl := Option.some.inj H
             have p195 : 0 ≤ (x10_2 : Int) := of_decide_eq_true (by first | (with_reducible assumption) | assumption)
             have q195 : x10_2 < (l1.length : Int) := of_decide_eq_true (by first | (with_reducible assumption) | assumption)
             obtain ⟨ad195, e195, hx195_0, hx195_1, hx195_2, hx195_3, hx195_4⟩ := at_T35 HR1.out x10_2 p195 q195
             cases e195
             replace hx195_0 := (HB.out.cell (World.block_lt_of_cell? w _ hx195_0)).trans hx195_0
             replace hx195_1 := (HB.out.cell (World.block_lt_of_cell? w _ hx195_1)).trans hx195_1
             replace hx195_2 := (HB.out.cell (World.block_lt_of_cell? w _ hx195_2)).trans hx195_2
             replace hx195_3 := (HB.out.cell (World.block_lt_of_cell? w _ hx195_3)).trans hx195_3
             replace hx195_4 := (HB.out.cell (World.block_lt_of_cell? w _ hx195_4)).trans hx195_4
             replace p195 := eq_true p195
             replace q195 := eq_true q195
             go_wp2_with (first | ((with_reducible refine gate_dst (N := 11) rfl ?_); (try (refine gate_guard (by rfl) ?_; dsimp only)); refine box_event ?hg (N := 11) ?hd (cs := #[.int .i64 0, .int .i64 0, .int .i64 0, .int .i64 0, .int .i64 0]) (t := 35) ?hr ?_; (case hd => rfl); (case hg => rfl); (case hr => first | (go_simp; done) | (go_simp; rfl)); intro gb196 hg w24 hbox hb; have n0_ := Aside0.mk (below_step (by repeat (first | (with_reducible first | exact HB.out | apply below_alloc | apply pw_below_drewN | apply below_drew1) | exact HB.out)) hb); have n1_ := Aside0.mk (hbox); have n2_ := Aside0.mk ((by rw [hg]; exact (below_size (by repeat (first | (with_reducible first | exact HB.out | apply below_alloc | apply pw_below_drewN | apply below_drew1) | exact HB.out))) : w.heap.size ≤ gb196)); have n3_ := Aside0.mk ((by rw [hg]; exact (below_size (by repeat (first | (with_reducible first | exact HB.out | apply below_alloc | apply pw_below_drewN | apply below_drew1) | exact HB.out))) : w.heap.size ≤ gb196)); clear HB; have HB := n0_; have BK196 := n1_; have GW196 := n2_; have GE196 := n3_; clear n0_ n1_ n2_ n3_; clear hb hbox hg; have hcz25_0 : w24.cell? ⟨gb196, 0, none⟩ = some (.int .i64 0) := (blk_cell BK196.out 0).trans rfl; have hcz25_1 : w24.cell? ⟨gb196, 1, none⟩ = some (.int .i64 0) := (blk_cell BK196.out 1).trans rfl; have hcz25_2 : w24.cell? ⟨gb196, 2, none⟩ = some (.int .i64 0) := (blk_cell BK196.out 2).trans rfl; have hcz25_3 : w24.cell? ⟨gb196, 3, none⟩ = some (.int .i64 0) := (blk_cell BK196.out 3).trans rfl; have hcz25_4 : w24.cell? ⟨gb196, 4, none⟩ = some (.int .i64 0) := (blk_cell BK196.out 4).trans rfl; have hfz25_0 := blk_frozen BK196.out 0; have hfz25_1 := blk_frozen BK196.out 1; have hfz25_2 := blk_frozen BK196.out 2; have hfz25_3 := blk_frozen BK196.out 3; have hfz25_4 := blk_frozen BK196.out 4; have p197 : 0 ≤ (x10_2 : Int) := of_decide_eq_true (by first | (with_reducible assumption) | assumption); have q197 : x10_2 < (l2.length : Int) := of_decide_eq_true (by first | (with_reducible assumption) | assumption); obtain ⟨ad197, e197, hx197_0⟩ := Kd.at_int HR2.out x10_2 p197 q197; cases e197; have hn197_0 : ad197.block ≠ gb196 := Nat.ne_of_lt (Nat.lt_of_lt_of_le (by have := World.block_lt_of_cell? _ _ hx197_0; first | rwa [add_block] at this | exact this) GW196.out); have hn197_1 : ad197.block ≠ gb196 := Nat.ne_of_lt (Nat.lt_of_lt_of_le (by have := World.block_lt_of_cell? _ _ hx197_0; first | rwa [add_block] at this | exact this) GW196.out); have hn197_2 : ad197.block ≠ gb196 := Nat.ne_of_lt (Nat.lt_of_lt_of_le (by have := World.block_lt_of_cell? _ _ hx197_0; first | rwa [add_block] at this | exact this) GW196.out); have hn197_3 : ad197.block ≠ gb196 := Nat.ne_of_lt (Nat.lt_of_lt_of_le (by have := World.block_lt_of_cell? _ _ hx197_0; first | rwa [add_block] at this | exact this) GW196.out); have hn197_4 : ad197.block ≠ gb196 := Nat.ne_of_lt (Nat.lt_of_lt_of_le (by have := World.block_lt_of_cell? _ _ hx197_0; first | rwa [add_block] at this | exact this) GW196.out); replace hx197_0 := (HB.out.cell (World.block_lt_of_cell? w _ hx197_0)).trans hx197_0; replace hx197_0 := (cell_far (p := ⟨gb196, 0, none⟩) (by first | (rw [add_block]; exact hn197_0) | (show (Addr.add _ _).block ≠ _; rw [add_block]; exact hn197_0) | exact hn197_0) (.int .i64 ((rd_T35 l1 x10_2).f0))).trans hx197_0; replace hx197_0 := (cell_far (p := ⟨gb196, 1, none⟩) (by first | (rw [add_block]; exact hn197_1) | (show (Addr.add _ _).block ≠ _; rw [add_block]; exact hn197_1) | exact hn197_1) (.int .i64 ((rd_T35 l1 x10_2).f1))).trans hx197_0; replace hx197_0 := (cell_far (p := ⟨gb196, 2, none⟩) (by first | (rw [add_block]; exact hn197_2) | (show (Addr.add _ _).block ≠ _; rw [add_block]; exact hn197_2) | exact hn197_2) (.int .i64 ((rd_T35 l1 x10_2).f2))).trans hx197_0; replace hx197_0 := (cell_far (p := ⟨gb196, 3, none⟩) (by first | (rw [add_block]; exact hn197_3) | (show (Addr.add _ _).block ≠ _; rw [add_block]; exact hn197_3) | exact hn197_3) (.int .i64 ((rd_T35 l1 x10_2).f3))).trans hx197_0; replace hx197_0 := (cell_far (p := ⟨gb196, 4, none⟩) (by first | (rw [add_block]; exact hn197_4) | (show (Addr.add _ _).block ≠ _; rw [add_block]; exact hn197_4) | exact hn197_4) (.int .i64 ((rd_T35 l1 x10_2).f4))).trans hx197_0; clear hn197_0; clear hn197_1; clear hn197_2; clear hn197_3; clear hn197_4; replace p197 := eq_true p197; replace q197 := eq_true q197; have p198 : 0 ≤ (x10_2 : Int) := of_decide_eq_true (by first | (with_reducible assumption) | assumption); have q198 : x10_2 < (l2.length : Int) := of_decide_eq_true (by first | (with_reducible assumption) | assumption); obtain ⟨ad198, e198, hx198_0⟩ := Kd.at_int HR2.out x10_2 p198 q198; obtain rfl : ad197 = ad198 := (by injection e198); have hn198_0 : ad197.block ≠ gb196 := Nat.ne_of_lt (Nat.lt_of_lt_of_le (by have := World.block_lt_of_cell? _ _ hx198_0; first | rwa [add_block] at this | exact this) GW196.out); have hn198_1 : ad197.block ≠ gb196 := Nat.ne_of_lt (Nat.lt_of_lt_of_le (by have := World.block_lt_of_cell? _ _ hx198_0; first | rwa [add_block] at this | exact this) GW196.out); have hn198_2 : ad197.block ≠ gb196 := Nat.ne_of_lt (Nat.lt_of_lt_of_le (by have := World.block_lt_of_cell? _ _ hx198_0; first | rwa [add_block] at this | exact this) GW196.out); have hn198_3 : ad197.block ≠ gb196 := Nat.ne_of_lt (Nat.lt_of_lt_of_le (by have := World.block_lt_of_cell? _ _ hx198_0; first | rwa [add_block] at this | exact this) GW196.out); have hn198_4 : ad197.block ≠ gb196 := Nat.ne_of_lt (Nat.lt_of_lt_of_le (by have := World.block_lt_of_cell? _ _ hx198_0; first | rwa [add_block] at this | exact this) GW196.out); replace hx198_0 := (HB.out.cell (World.block_lt_of_cell? w _ hx198_0)).trans hx198_0; replace hx198_0 := (cell_far (p := ⟨gb196, 0, none⟩) (by first | (rw [add_block]; exact hn198_0) | (show (Addr.add _ _).block ≠ _; rw [add_block]; exact hn198_0) | exact hn198_0) (.int .i64 ((rd_T35 l1 x10_2).f0))).trans hx198_0; replace hx198_0 := (cell_far (p := ⟨gb196, 1, none⟩) (by first | (rw [add_block]; exact hn198_1) | (show (Addr.add _ _).block ≠ _; rw [add_block]; exact hn198_1) | exact hn198_1) (.int .i64 ((rd_T35 l1 x10_2).f1))).trans hx198_0; replace hx198_0 := (cell_far (p := ⟨gb196, 2, none⟩) (by first | (rw [add_block]; exact hn198_2) | (show (Addr.add _ _).block ≠ _; rw [add_block]; exact hn198_2) | exact hn198_2) (.int .i64 ((rd_T35 l1 x10_2).f2))).trans hx198_0; replace hx198_0 := (cell_far (p := ⟨gb196, 3, none⟩) (by first | (rw [add_block]; exact hn198_3) | (show (Addr.add _ _).block ≠ _; rw [add_block]; exact hn198_3) | exact hn198_3) (.int .i64 ((rd_T35 l1 x10_2).f3))).trans hx198_0; replace hx198_0 := (cell_far (p := ⟨gb196, 4, none⟩) (by first | (rw [add_block]; exact hn198_4) | (show (Addr.add _ _).block ≠ _; rw [add_block]; exact hn198_4) | exact hn198_4) (.int .i64 ((rd_T35 l1 x10_2).f4))).trans hx198_0; clear hn198_0; clear hn198_1; clear hn198_2; clear hn198_3; clear hn198_4; replace p198 := eq_true p198; replace q198 := eq_true q198))
             go_ret
             exact ⟨by first | rfl | (simp [errW_none, errW_some] <;> rfl) | (simp [*, errW_none, errW_some] <;> rfl), by repeat (first | (with_reducible first | exact HB.out | apply below_alloc | apply pw_below_drewN | apply below_drew1 | refine below_set ?_ GE196.out) | exact HB.out)⟩
            ·rw [if_neg c23] at H
             have c23b0 : decide ((l0.length : Int) < ((rd_T35 l1 x10_2).f1)) = false := decide_eq_false c23
             clear c23
             by_cases c26 : ((rd_T35 l1 x10_2).f3) < 1
             ·rw [if_pos c26] at H
              have c26b0 : decide (((rd_T35 l1 x10_2).f3) < 1) = true := decide_eq_true c26
              clear c26
              obtain rfl := Option.some.inj H
              have p195 : 0 ≤ (x10_2 : Int) := of_decide_eq_true (by first | (with_reducible assumption) | assumption)
              have q195 : x10_2 < (l1.length : Int) := of_decide_eq_true (by first | (with_reducible assumption) | assumption)
              obtain ⟨ad195, e195, hx195_0, hx195_1, hx195_2, hx195_3, hx195_4⟩ := at_T35 HR1.out x10_2 p195 q195
              cases e195
              replace hx195_0 := (HB.out.cell (World.block_lt_of_cell? w _ hx195_0)).trans hx195_0
              replace hx195_1 := (HB.out.cell (World.block_lt_of_cell? w _ hx195_1)).trans hx195_1
              replace hx195_2 := (HB.out.cell (World.block_lt_of_cell? w _ hx195_2)).trans hx195_2
              replace hx195_3 := (HB.out.cell (World.block_lt_of_cell? w _ hx195_3)).trans hx195_3
              replace hx195_4 := (HB.out.cell (World.block_lt_of_cell? w _ hx195_4)).trans hx195_4
              replace p195 := eq_true p195
              replace q195 := eq_true q195
              go_wp2_with (first | ((with_reducible refine gate_dst (N := 11) rfl ?_); (try (refine gate_guard (by rfl) ?_; dsimp only)); refine box_event ?hg (N := 11) ?hd (cs := #[.int .i64 0, .int .i64 0, .int .i64 0, .int .i64 0, .int .i64 0]) (t := 35) ?hr ?_; (case hd => rfl); (case hg => rfl); (case hr => first | (go_simp; done) | (go_simp; rfl)); intro gb196 hg w27 hbox hb; have n0_ := Aside0.mk (below_step (by repeat (first | (with_reducible first | exact HB.out | apply below_alloc | apply pw_below_drewN | apply below_drew1) | exact HB.out)) hb); have n1_ := Aside0.mk (hbox); have n2_ := Aside0.mk ((by rw [hg]; exact (below_size (by repeat (first | (with_reducible first | exact HB.out | apply below_alloc | apply pw_below_drewN | apply below_drew1) | exact HB.out))) : w.heap.size ≤ gb196)); have n3_ := Aside0.mk ((by rw [hg]; exact (below_size (by repeat (first | (with_reducible first | exact HB.out | apply below_alloc | apply pw_below_drewN | apply below_drew1) | exact HB.out))) : w.heap.size ≤ gb196)); clear HB; have HB := n0_; have BK196 := n1_; have GW196 := n2_; have GE196 := n3_; clear n0_ n1_ n2_ n3_; clear hb hbox hg; have hcz28_0 : w27.cell? ⟨gb196, 0, none⟩ = some (.int .i64 0) := (blk_cell BK196.out 0).trans rfl; have hcz28_1 : w27.cell? ⟨gb196, 1, none⟩ = some (.int .i64 0) := (blk_cell BK196.out 1).trans rfl; have hcz28_2 : w27.cell? ⟨gb196, 2, none⟩ = some (.int .i64 0) := (blk_cell BK196.out 2).trans rfl; have hcz28_3 : w27.cell? ⟨gb196, 3, none⟩ = some (.int .i64 0) := (blk_cell BK196.out 3).trans rfl; have hcz28_4 : w27.cell? ⟨gb196, 4, none⟩ = some (.int .i64 0) := (blk_cell BK196.out 4).trans rfl; have hfz28_0 := blk_frozen BK196.out 0; have hfz28_1 := blk_frozen BK196.out 1; have hfz28_2 := blk_frozen BK196.out 2; have hfz28_3 := blk_frozen BK196.out 3; have hfz28_4 := blk_frozen BK196.out 4; have p197 : 0 ≤ (x10_2 : Int) := of_decide_eq_true (by first | (with_reducible assumption) | assumption); have q197 : x10_2 < (l2.length : Int) := of_decide_eq_true (by first | (with_reducible assumption) | assumption); obtain ⟨ad197, e197, hx197_0⟩ := Kd.at_int HR2.out x10_2 p197 q197; cases e197; have hn197_0 : ad197.block ≠ gb196 := Nat.ne_of_lt (Nat.lt_of_lt_of_le (by have := World.block_lt_of_cell? _ _ hx197_0; first | rwa [add_block] at this | exact this) GW196.out); have hn197_1 : ad197.block ≠ gb196 := Nat.ne_of_lt (Nat.lt_of_lt_of_le (by have := World.block_lt_of_cell? _ _ hx197_0; first | rwa [add_block] at this | exact this) GW196.out); have hn197_2 : ad197.block ≠ gb196 := Nat.ne_of_lt (Nat.lt_of_lt_of_le (by have := World.block_lt_of_cell? _ _ hx197_0; first | rwa [add_block] at this | exact this) GW196.out); have hn197_3 : ad197.block ≠ gb196 := Nat.ne_of_lt (Nat.lt_of_lt_of_le (by have := World.block_lt_of_cell? _ _ hx197_0; first | rwa [add_block] at this | exact this) GW196.out); have hn197_4 : ad197.block ≠ gb196 := Nat.ne_of_lt (Nat.lt_of_lt_of_le (by have := World.block_lt_of_cell? _ _ hx197_0; first | rwa [add_block] at this | exact this) GW196.out); replace hx197_0 := (HB.out.cell (World.block_lt_of_cell? w _ hx197_0)).trans hx197_0; replace hx197_0 := (cell_far (p := ⟨gb196, 0, none⟩) (by first | (rw [add_block]; exact hn197_0) | (show (Addr.add _ _).block ≠ _; rw [add_block]; exact hn197_0) | exact hn197_0) (.int .i64 ((rd_T35 l1 x10_2).f0))).trans hx197_0; replace hx197_0 := (cell_far (p := ⟨gb196, 1, none⟩) (by first | (rw [add_block]; exact hn197_1) | (show (Addr.add _ _).block ≠ _; rw [add_block]; exact hn197_1) | exact hn197_1) (.int .i64 ((rd_T35 l1 x10_2).f1))).trans hx197_0; replace hx197_0 := (cell_far (p := ⟨gb196, 2, none⟩) (by first | (rw [add_block]; exact hn197_2) | (show (Addr.add _ _).block ≠ _; rw [add_block]; exact hn197_2) | exact hn197_2) (.int .i64 ((rd_T35 l1 x10_2).f2))).trans hx197_0; replace hx197_0 := (cell_far (p := ⟨gb196, 3, none⟩) (by first | (rw [add_block]; exact hn197_3) | (show (Addr.add _ _).block ≠ _; rw [add_block]; exact hn197_3) | exact hn197_3) (.int .i64 ((rd_T35 l1 x10_2).f3))).trans hx197_0; replace hx197_0 := (cell_far (p := ⟨gb196, 4, none⟩) (by first | (rw [add_block]; exact hn197_4) | (show (Addr.add _ _).block ≠ _; rw [add_block]; exact hn197_4) | exact hn197_4) (.int .i64 ((rd_T35 l1 x10_2).f4))).trans hx197_0; clear hn197_0; clear hn197_1; clear hn197_2; clear hn197_3; clear hn197_4; replace p197 := eq_true p197; replace q197 := eq_true q197; have p198 : 0 ≤ (x10_2 : Int) := of_decide_eq_true (by first | (with_reducible assumption) | assumption); have q198 : x10_2 < (l2.length : Int) := of_decide_eq_true (by first | (with_reducible assumption) | assumption); obtain ⟨ad198, e198, hx198_0⟩ := Kd.at_int HR2.out x10_2 p198 q198; obtain rfl : ad197 = ad198 := (by injection e198); have hn198_0 : ad197.block ≠ gb196 := Nat.ne_of_lt (Nat.lt_of_lt_of_le (by have := World.block_lt_of_cell? _ _ hx198_0; first | rwa [add_block] at this | exact this) GW196.out); have hn198_1 : ad197.block ≠ gb196 := Nat.ne_of_lt (Nat.lt_of_lt_of_le (by have := World.block_lt_of_cell? _ _ hx198_0; first | rwa [add_block] at this | exact this) GW196.out); have hn198_2 : ad197.block ≠ gb196 := Nat.ne_of_lt (Nat.lt_of_lt_of_le (by have := World.block_lt_of_cell? _ _ hx198_0; first | rwa [add_block] at this | exact this) GW196.out); have hn198_3 : ad197.block ≠ gb196 := Nat.ne_of_lt (Nat.lt_of_lt_of_le (by have := World.block_lt_of_cell? _ _ hx198_0; first | rwa [add_block] at this | exact this) GW196.out); have hn198_4 : ad197.block ≠ gb196 := Nat.ne_of_lt (Nat.lt_of_lt_of_le (by have := World.block_lt_of_cell? _ _ hx198_0; first | rwa [add_block] at this | exact this) GW196.out); replace hx198_0 := (HB.out.cell (World.block_lt_of_cell? w _ hx198_0)).trans hx198_0; replace hx198_0 := (cell_far (p := ⟨gb196, 0, none⟩) (by first | (rw [add_block]; exact hn198_0) | (show (Addr.add _ _).block ≠ _; rw [add_block]; exact hn198_0) | exact hn198_0) (.int .i64 ((rd_T35 l1 x10_2).f0))).trans hx198_0; replace hx198_0 := (cell_far (p := ⟨gb196, 1, none⟩) (by first | (rw [add_block]; exact hn198_1) | (show (Addr.add _ _).block ≠ _; rw [add_block]; exact hn198_1) | exact hn198_1) (.int .i64 ((rd_T35 l1 x10_2).f1))).trans hx198_0; replace hx198_0 := (cell_far (p := ⟨gb196, 2, none⟩) (by first | (rw [add_block]; exact hn198_2) | (show (Addr.add _ _).block ≠ _; rw [add_block]; exact hn198_2) | exact hn198_2) (.int .i64 ((rd_T35 l1 x10_2).f2))).trans hx198_0; replace hx198_0 := (cell_far (p := ⟨gb196, 3, none⟩) (by first | (rw [add_block]; exact hn198_3) | (show (Addr.add _ _).block ≠ _; rw [add_block]; exact hn198_3) | exact hn198_3) (.int .i64 ((rd_T35 l1 x10_2).f3))).trans hx198_0; replace hx198_0 := (cell_far (p := ⟨gb196, 4, none⟩) (by first | (rw [add_block]; exact hn198_4) | (show (Addr.add _ _).block ≠ _; rw [add_block]; exact hn198_4) | exact hn198_4) (.int .i64 ((rd_T35 l1 x10_2).f4))).trans hx198_0; clear hn198_0; clear hn198_1; clear hn198_2; clear hn198_3; clear hn198_4; replace p198 := eq_true p198; replace q198 := eq_true q198))
              go_ret
              exact ⟨by first | rfl | (simp [errW_none, errW_some] <;> rfl) | (simp [*, errW_none, errW_some] <;> rfl), by repeat (first | (with_reducible first | exact HB.out | apply below_alloc | apply pw_below_drewN | apply below_drew1 | refine below_set ?_ GE196.out) | exact HB.out)⟩
             ·rw [if_neg c26] at H
              have c26b0 : decide (((rd_T35 l1 x10_2).f3) < 1) = false := decide_eq_false c26
              clear c26
              by_cases c29 : ((rd_T35 l1 x10_2).f3) > (wrap64 ((l0.length : Int) - ((rd_T35 l1 x10_2).f1)))
              ·rw [if_pos c29] at H
               have c29b0 : decide ((wrap64 ((l0.length : Int) - ((rd_T35 l1 x10_2).f1))) < ((rd_T35 l1 x10_2).f3)) = true := decide_eq_true c29
               clear c29
               obtain rfl := Option.some.inj H
               have p195 : 0 ≤ (x10_2 : Int) := of_decide_eq_true (by first | (with_reducible assumption) | assumption)
               have q195 : x10_2 < (l1.length : Int) := of_decide_eq_true (by first | (with_reducible assumption) | assumption)
               obtain ⟨ad195, e195, hx195_0, hx195_1, hx195_2, hx195_3, hx195_4⟩ := at_T35 HR1.out x10_2 p195 q195
               cases e195
               replace hx195_0 := (HB.out.cell (World.block_lt_of_cell? w _ hx195_0)).trans hx195_0
               replace hx195_1 := (HB.out.cell (World.block_lt_of_cell? w _ hx195_1)).trans hx195_1
               replace hx195_2 := (HB.out.cell (World.block_lt_of_cell? w _ hx195_2)).trans hx195_2
               replace hx195_3 := (HB.out.cell (World.block_lt_of_cell? w _ hx195_3)).trans hx195_3
               replace hx195_4 := (HB.out.cell (World.block_lt_of_cell? w _ hx195_4)).trans hx195_4
               replace p195 := eq_true p195
               replace q195 := eq_true q195
               go_wp2_with (first | ((with_reducible refine gate_dst (N := 11) rfl ?_); (try (refine gate_guard (by rfl) ?_; dsimp only)); refine box_event ?hg (N := 11) ?hd (cs := #[.int .i64 0, .int .i64 0, .int .i64 0, .int .i64 0, .int .i64 0]) (t := 35) ?hr ?_; (case hd => rfl); (case hg => rfl); (case hr => first | (go_simp; done) | (go_simp; rfl)); intro gb196 hg w30 hbox hb; have n0_ := Aside0.mk (below_step (by repeat (first | (with_reducible first | exact HB.out | apply below_alloc | apply pw_below_drewN | apply below_drew1) | exact HB.out)) hb); have n1_ := Aside0.mk (hbox); have n2_ := Aside0.mk ((by rw [hg]; exact (below_size (by repeat (first | (with_reducible first | exact HB.out | apply below_alloc | apply pw_below_drewN | apply below_drew1) | exact HB.out))) : w.heap.size ≤ gb196)); have n3_ := Aside0.mk ((by rw [hg]; exact (below_size (by repeat (first | (with_reducible first | exact HB.out | apply below_alloc | apply pw_below_drewN | apply below_drew1) | exact HB.out))) : w.heap.size ≤ gb196)); clear HB; have HB := n0_; have BK196 := n1_; have GW196 := n2_; have GE196 := n3_; clear n0_ n1_ n2_ n3_; clear hb hbox hg; have hcz31_0 : w30.cell? ⟨gb196, 0, none⟩ = some (.int .i64 0) := (blk_cell BK196.out 0).trans rfl; have hcz31_1 : w30.cell? ⟨gb196, 1, none⟩ = some (.int .i64 0) := (blk_cell BK196.out 1).trans rfl; have hcz31_2 : w30.cell? ⟨gb196, 2, none⟩ = some (.int .i64 0) := (blk_cell BK196.out 2).trans rfl; have hcz31_3 : w30.cell? ⟨gb196, 3, none⟩ = some (.int .i64 0) := (blk_cell BK196.out 3).trans rfl; have hcz31_4 : w30.cell? ⟨gb196, 4, none⟩ = some (.int .i64 0) := (blk_cell BK196.out 4).trans rfl; have hfz31_0 := blk_frozen BK196.out 0; have hfz31_1 := blk_frozen BK196.out 1; have hfz31_2 := blk_frozen BK196.out 2; have hfz31_3 := blk_frozen BK196.out 3; have hfz31_4 := blk_frozen BK196.out 4; have p197 : 0 ≤ (x10_2 : Int) := of_decide_eq_true (by first | (with_reducible assumption) | assumption); have q197 : x10_2 < (l2.length : Int) := of_decide_eq_true (by first | (with_reducible assumption) | assumption); obtain ⟨ad197, e197, hx197_0⟩ := Kd.at_int HR2.out x10_2 p197 q197; cases e197; have hn197_0 : ad197.block ≠ gb196 := Nat.ne_of_lt (Nat.lt_of_lt_of_le (by have := World.block_lt_of_cell? _ _ hx197_0; first | rwa [add_block] at this | exact this) GW196.out); have hn197_1 : ad197.block ≠ gb196 := Nat.ne_of_lt (Nat.lt_of_lt_of_le (by have := World.block_lt_of_cell? _ _ hx197_0; first | rwa [add_block] at this | exact this) GW196.out); have hn197_2 : ad197.block ≠ gb196 := Nat.ne_of_lt (Nat.lt_of_lt_of_le (by have := World.block_lt_of_cell? _ _ hx197_0; first | rwa [add_block] at this | exact this) GW196.out); have hn197_3 : ad197.block ≠ gb196 := Nat.ne_of_lt (Nat.lt_of_lt_of_le (by have := World.block_lt_of_cell? _ _ hx197_0; first | rwa [add_block] at this | exact this) GW196.out); have hn197_4 : ad197.block ≠ gb196 := Nat.ne_of_lt (Nat.lt_of_lt_of_le (by have := World.block_lt_of_cell? _ _ hx197_0; first | rwa [add_block] at this | exact this) GW196.out); replace hx197_0 := (HB.out.cell (World.block_lt_of_cell? w _ hx197_0)).trans hx197_0; replace hx197_0 := (cell_far (p := ⟨gb196, 0, none⟩) (by first | (rw [add_block]; exact hn197_0) | (show (Addr.add _ _).block ≠ _; rw [add_block]; exact hn197_0) | exact hn197_0) (.int .i64 ((rd_T35 l1 x10_2).f0))).trans hx197_0; replace hx197_0 := (cell_far (p := ⟨gb196, 1, none⟩) (by first | (rw [add_block]; exact hn197_1) | (show (Addr.add _ _).block ≠ _; rw [add_block]; exact hn197_1) | exact hn197_1) (.int .i64 ((rd_T35 l1 x10_2).f1))).trans hx197_0; replace hx197_0 := (cell_far (p := ⟨gb196, 2, none⟩) (by first | (rw [add_block]; exact hn197_2) | (show (Addr.add _ _).block ≠ _; rw [add_block]; exact hn197_2) | exact hn197_2) (.int .i64 ((rd_T35 l1 x10_2).f2))).trans hx197_0; replace hx197_0 := (cell_far (p := ⟨gb196, 3, none⟩) (by first | (rw [add_block]; exact hn197_3) | (show (Addr.add _ _).block ≠ _; rw [add_block]; exact hn197_3) | exact hn197_3) (.int .i64 ((rd_T35 l1 x10_2).f3))).trans hx197_0; replace hx197_0 := (cell_far (p := ⟨gb196, 4, none⟩) (by first | (rw [add_block]; exact hn197_4) | (show (Addr.add _ _).block ≠ _; rw [add_block]; exact hn197_4) | exact hn197_4) (.int .i64 ((rd_T35 l1 x10_2).f4))).trans hx197_0; clear hn197_0; clear hn197_1; clear hn197_2; clear hn197_3; clear hn197_4; replace p197 := eq_true p197; replace q197 := eq_true q197; have p198 : 0 ≤ (x10_2 : Int) := of_decide_eq_true (by first | (with_reducible assumption) | assumption); have q198 : x10_2 < (l2.length : Int) := of_decide_eq_true (by first | (with_reducible assumption) | assumption); obtain ⟨ad198, e198, hx198_0⟩ := Kd.at_int HR2.out x10_2 p198 q198; obtain rfl : ad197 = ad198 := (by injection e198); have hn198_0 : ad197.block ≠ gb196 := Nat.ne_of_lt (Nat.lt_of_lt_of_le (by have := World.block_lt_of_cell? _ _ hx198_0; first | rwa [add_block] at this | exact this) GW196.out); have hn198_1 : ad197.block ≠ gb196 := Nat.ne_of_lt (Nat.lt_of_lt_of_le (by have := World.block_lt_of_cell? _ _ hx198_0; first | rwa [add_block] at this | exact this) GW196.out); have hn198_2 : ad197.block ≠ gb196 := Nat.ne_of_lt (Nat.lt_of_lt_of_le (by have := World.block_lt_of_cell? _ _ hx198_0; first | rwa [add_block] at this | exact this) GW196.out); have hn198_3 : ad197.block ≠ gb196 := Nat.ne_of_lt (Nat.lt_of_lt_of_le (by have := World.block_lt_of_cell? _ _ hx198_0; first | rwa [add_block] at this | exact this) GW196.out); have hn198_4 : ad197.block ≠ gb196 := Nat.ne_of_lt (Nat.lt_of_lt_of_le (by have := World.block_lt_of_cell? _ _ hx198_0; first | rwa [add_block] at this | exact this) GW196.out); replace hx198_0 := (HB.out.cell (World.block_lt_of_cell? w _ hx198_0)).trans hx198_0; replace hx198_0 := (cell_far (p := ⟨gb196, 0, none⟩) (by first | (rw [add_block]; exact hn198_0) | (show (Addr.add _ _).block ≠ _; rw [add_block]; exact hn198_0) | exact hn198_0) (.int .i64 ((rd_T35 l1 x10_2).f0))).trans hx198_0; replace hx198_0 := (cell_far (p := ⟨gb196, 1, none⟩) (by first | (rw [add_block]; exact hn198_1) | (show (Addr.add _ _).block ≠ _; rw [add_block]; exact hn198_1) | exact hn198_1) (.int .i64 ((rd_T35 l1 x10_2).f1))).trans hx198_0; replace hx198_0 := (cell_far (p := ⟨gb196, 2, none⟩) (by first | (rw [add_block]; exact hn198_2) | (show (Addr.add _ _).block ≠ _; rw [add_block]; exact hn198_2) | exact hn198_2) (.int .i64 ((rd_T35 l1 x10_2).f2))).trans hx198_0; replace hx198_0 := (cell_far (p := ⟨gb196, 3, none⟩) (by first | (rw [add_block]; exact hn198_3) | (show (Addr.add _ _).block ≠ _; rw [add_block]; exact hn198_3) | exact hn198_3) (.int .i64 ((rd_T35 l1 x10_2).f3))).trans hx198_0; replace hx198_0 := (cell_far (p := ⟨gb196, 4, none⟩) (by first | (rw [add_block]; exact hn198_4) | (show (Addr.add _ _).block ≠ _; rw [add_block]; exact hn198_4) | exact hn198_4) (.int .i64 ((rd_T35 l1 x10_2).f4))).trans hx198_0; clear hn198_0; clear hn198_1; clear hn198_2; clear hn198_3; clear hn198_4; replace p198 := eq_true p198; replace q198 := eq_true q198))
               go_ret
               exact ⟨by first | rfl | (simp [errW_none, errW_some] <;> rfl) | (simp [*, errW_none, errW_some] <;> rfl), by repeat (first | (with_reducible first | exact HB.out | apply below_alloc | apply pw_below_drewN | apply below_drew1 | refine below_set ?_ GE196.out) | exact HB.out)⟩
              ·rw [if_neg c29] at H
               have c29b0 : decide ((wrap64 ((l0.length : Int) - ((rd_T35 l1 x10_2).f1))) < ((rd_T35 l1 x10_2).f3)) = false := decide_eq_false c29
               clear c29
               have H' := Aside0.mk H
               clear H
               have p195 : 0 ≤ (x10_2 : Int) := of_decide_eq_true (by first | (with_reducible assumption) | assumption)
               have q195 : x10_2 < (l1.length : Int) := of_decide_eq_true (by first | (with_reducible assumption) | assumption)
               obtain ⟨ad195, e195, hx195_0, hx195_1, hx195_2, hx195_3, hx195_4⟩ := at_T35 HR1.out x10_2 p195 q195
               cases e195
               replace hx195_0 := (HB.out.cell (World.block_lt_of_cell? w _ hx195_0)).trans hx195_0
               replace hx195_1 := (HB.out.cell (World.block_lt_of_cell? w _ hx195_1)).trans hx195_1
               replace hx195_2 := (HB.out.cell (World.block_lt_of_cell? w _ hx195_2)).trans hx195_2
               replace hx195_3 := (HB.out.cell (World.block_lt_of_cell? w _ hx195_3)).trans hx195_3
               replace hx195_4 := (HB.out.cell (World.block_lt_of_cell? w _ hx195_4)).trans hx195_4
               replace p195 := eq_true p195
               replace q195 := eq_true q195
               go_wp2_with (first | ((with_reducible refine gate_dst (N := 11) rfl ?_); (try (refine gate_guard (by rfl) ?_; dsimp only)); refine box_event ?hg (N := 11) ?hd (cs := #[.int .i64 0, .int .i64 0, .int .i64 0, .int .i64 0, .int .i64 0]) (t := 35) ?hr ?_; (case hd => rfl); (case hg => rfl); (case hr => first | (go_simp; done) | (go_simp; rfl)); intro gb196 hg w32 hbox hb; have n0_ := Aside0.mk (below_step (by repeat (first | (with_reducible first | exact HB.out | apply below_alloc | apply pw_below_drewN | apply below_drew1) | exact HB.out)) hb); have n1_ := Aside0.mk (hbox); have n2_ := Aside0.mk ((by rw [hg]; exact (below_size (by repeat (first | (with_reducible first | exact HB.out | apply below_alloc | apply pw_below_drewN | apply below_drew1) | exact HB.out))) : w.heap.size ≤ gb196)); have n3_ := Aside0.mk ((by rw [hg]; exact (below_size (by repeat (first | (with_reducible first | exact HB.out | apply below_alloc | apply pw_below_drewN | apply below_drew1) | exact HB.out))) : w.heap.size ≤ gb196)); clear HB; have HB := n0_; have BK196 := n1_; have GW196 := n2_; have GE196 := n3_; clear n0_ n1_ n2_ n3_; clear hb hbox hg; have hcz33_0 : w32.cell? ⟨gb196, 0, none⟩ = some (.int .i64 0) := (blk_cell BK196.out 0).trans rfl; have hcz33_1 : w32.cell? ⟨gb196, 1, none⟩ = some (.int .i64 0) := (blk_cell BK196.out 1).trans rfl; have hcz33_2 : w32.cell? ⟨gb196, 2, none⟩ = some (.int .i64 0) := (blk_cell BK196.out 2).trans rfl; have hcz33_3 : w32.cell? ⟨gb196, 3, none⟩ = some (.int .i64 0) := (blk_cell BK196.out 3).trans rfl; have hcz33_4 : w32.cell? ⟨gb196, 4, none⟩ = some (.int .i64 0) := (blk_cell BK196.out 4).trans rfl; have hfz33_0 := blk_frozen BK196.out 0; have hfz33_1 := blk_frozen BK196.out 1; have hfz33_2 := blk_frozen BK196.out 2; have hfz33_3 := blk_frozen BK196.out 3; have hfz33_4 := blk_frozen BK196.out 4; have p197 : 0 ≤ (x10_2 : Int) := of_decide_eq_true (by first | (with_reducible assumption) | assumption); have q197 : x10_2 < (l2.length : Int) := of_decide_eq_true (by first | (with_reducible assumption) | assumption); obtain ⟨ad197, e197, hx197_0⟩ := Kd.at_int HR2.out x10_2 p197 q197; cases e197; have hn197_0 : ad197.block ≠ gb196 := Nat.ne_of_lt (Nat.lt_of_lt_of_le (by have := World.block_lt_of_cell? _ _ hx197_0; first | rwa [add_block] at this | exact this) GW196.out); have hn197_1 : ad197.block ≠ gb196 := Nat.ne_of_lt (Nat.lt_of_lt_of_le (by have := World.block_lt_of_cell? _ _ hx197_0; first | rwa [add_block] at this | exact this) GW196.out); have hn197_2 : ad197.block ≠ gb196 := Nat.ne_of_lt (Nat.lt_of_lt_of_le (by have := World.block_lt_of_cell? _ _ hx197_0; first | rwa [add_block] at this | exact this) GW196.out); have hn197_3 : ad197.block ≠ gb196 := Nat.ne_of_lt (Nat.lt_of_lt_of_le (by have := World.block_lt_of_cell? _ _ hx197_0; first | rwa [add_block] at this | exact this) GW196.out); have hn197_4 : ad197.block ≠ gb196 := Nat.ne_of_lt (Nat.lt_of_lt_of_le (by have := World.block_lt_of_cell? _ _ hx197_0; first | rwa [add_block] at this | exact this) GW196.out); replace hx197_0 := (HB.out.cell (World.block_lt_of_cell? w _ hx197_0)).trans hx197_0; replace hx197_0 := (cell_far (p := ⟨gb196, 0, none⟩) (by first | (rw [add_block]; exact hn197_0) | (show (Addr.add _ _).block ≠ _; rw [add_block]; exact hn197_0) | exact hn197_0) (.int .i64 ((rd_T35 l1 x10_2).f0))).trans hx197_0; replace hx197_0 := (cell_far (p := ⟨gb196, 1, none⟩) (by first | (rw [add_block]; exact hn197_1) | (show (Addr.add _ _).block ≠ _; rw [add_block]; exact hn197_1) | exact hn197_1) (.int .i64 ((rd_T35 l1 x10_2).f1))).trans hx197_0; replace hx197_0 := (cell_far (p := ⟨gb196, 2, none⟩) (by first | (rw [add_block]; exact hn197_2) | (show (Addr.add _ _).block ≠ _; rw [add_block]; exact hn197_2) | exact hn197_2) (.int .i64 ((rd_T35 l1 x10_2).f2))).trans hx197_0; replace hx197_0 := (cell_far (p := ⟨gb196, 3, none⟩) (by first | (rw [add_block]; exact hn197_3) | (show (Addr.add _ _).block ≠ _; rw [add_block]; exact hn197_3) | exact hn197_3) (.int .i64 ((rd_T35 l1 x10_2).f3))).trans hx197_0; replace hx197_0 := (cell_far (p := ⟨gb196, 4, none⟩) (by first | (rw [add_block]; exact hn197_4) | (show (Addr.add _ _).block ≠ _; rw [add_block]; exact hn197_4) | exact hn197_4) (.int .i64 ((rd_T35 l1 x10_2).f4))).trans hx197_0; clear hn197_0; clear hn197_1; clear hn197_2; clear hn197_3; clear hn197_4; replace p197 := eq_true p197; replace q197 := eq_true q197; have p198 : 0 ≤ (x10_2 : Int) := of_decide_eq_true (by first | (with_reducible assumption) | assumption); have q198 : x10_2 < (l2.length : Int) := of_decide_eq_true (by first | (with_reducible assumption) | assumption); obtain ⟨ad198, e198, hx198_0⟩ := Kd.at_int HR2.out x10_2 p198 q198; obtain rfl : ad197 = ad198 := (by injection e198); have hn198_0 : ad197.block ≠ gb196 := Nat.ne_of_lt (Nat.lt_of_lt_of_le (by have := World.block_lt_of_cell? _ _ hx198_0; first | rwa [add_block] at this | exact this) GW196.out); have hn198_1 : ad197.block ≠ gb196 := Nat.ne_of_lt (Nat.lt_of_lt_of_le (by have := World.block_lt_of_cell? _ _ hx198_0; first | rwa [add_block] at this | exact this) GW196.out); have hn198_2 : ad197.block ≠ gb196 := Nat.ne_of_lt (Nat.lt_of_lt_of_le (by have := World.block_lt_of_cell? _ _ hx198_0; first | rwa [add_block] at this | exact this) GW196.out); have hn198_3 : ad197.block ≠ gb196 := Nat.ne_of_lt (Nat.lt_of_lt_of_le (by have := World.block_lt_of_cell? _ _ hx198_0; first | rwa [add_block] at this | exact this) GW196.out); have hn198_4 : ad197.block ≠ gb196 := Nat.ne_of_lt (Nat.lt_of_lt_of_le (by have := World.block_lt_of_cell? _ _ hx198_0; first | rwa [add_block] at this | exact this) GW196.out); replace hx198_0 := (HB.out.cell (World.block_lt_of_cell? w _ hx198_0)).trans hx198_0; replace hx198_0 := (cell_far (p := ⟨gb196, 0, none⟩) (by first | (rw [add_block]; exact hn198_0) | (show (Addr.add _ _).block ≠ _; rw [add_block]; exact hn198_0) | exact hn198_0) (.int .i64 ((rd_T35 l1 x10_2).f0))).trans hx198_0; replace hx198_0 := (cell_far (p := ⟨gb196, 1, none⟩) (by first | (rw [add_block]; exact hn198_1) | (show (Addr.add _ _).block ≠ _; rw [add_block]; exact hn198_1) | exact hn198_1) (.int .i64 ((rd_T35 l1 x10_2).f1))).trans hx198_0; replace hx198_0 := (cell_far (p := ⟨gb196, 2, none⟩) (by first | (rw [add_block]; exact hn198_2) | (show (Addr.add _ _).block ≠ _; rw [add_block]; exact hn198_2) | exact hn198_2) (.int .i64 ((rd_T35 l1 x10_2).f2))).trans hx198_0; replace hx198_0 := (cell_far (p := ⟨gb196, 3, none⟩) (by first | (rw [add_block]; exact hn198_3) | (show (Addr.add _ _).block ≠ _; rw [add_block]; exact hn198_3) | exact hn198_3) (.int .i64 ((rd_T35 l1 x10_2).f3))).trans hx198_0; replace hx198_0 := (cell_far (p := ⟨gb196, 4, none⟩) (by first | (rw [add_block]; exact hn198_4) | (show (Addr.add _ _).block ≠ _; rw [add_block]; exact hn198_4) | exact hn198_4) (.int .i64 ((rd_T35 l1 x10_2).f4))).trans hx198_0; clear hn198_0; clear hn198_1; clear hn198_2; clear hn198_3; clear hn198_4; replace p198 := eq_true p198; replace q198 := eq_true q198))
               go_roundg k2
               case measure => have := HJ5.out; have := HK2.out; omega
               case rel => exact ⟨(wrap64 (x10_2 + 1)), (by first | rfl | (simp; done) | (simp [*]; done)), H', ⟨by have := HJ5.out; have := HK2.out; omega⟩, ⟨by repeat (first | (with_reducible first | exact HB.out | apply below_alloc | apply pw_below_drewN | apply below_drew1 | refine below_set ?_ GE196.out) | exact HB.out)⟩⟩
        ·rw [if_neg c13] at H
         exact absurd H (by simp)
       ·rw [if_neg c12] at H
        exact absurd H (by simp)
      ·rw [if_neg c11] at H
       have c11b0 : decide (x10_2 < (l1.length : Int)) = false := decide_eq_false c11
       clear c11
       obtain rfl := Option.some.inj H
       go_wp2
       go_ret
       exact ⟨by first | rfl | (simp [errW_none, errW_some] <;> rfl) | (simp [*, errW_none, errW_some] <;> rfl), by repeat (first | (with_reducible first | exact HB.out | apply below_alloc | apply pw_below_drewN | apply below_drew1) | exact HB.out)⟩

end Go.Proofs.Ytgghbmhmpkeccaa.PA
