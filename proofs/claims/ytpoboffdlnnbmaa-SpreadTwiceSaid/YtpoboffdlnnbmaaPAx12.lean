-- MADE by wip/tools/xprint.py of this repo: the kit's print.py, turned by this session, and texts by hand
import Derived.Test.YtpoboffdlnnbmaaPAx0
import Derived.Test.YtpoboffdlnnbmaaPAx1
import Derived.Test.YtpoboffdlnnbmaaPAx11
namespace Go.Proofs.Ytpoboffdlnnbmaa.PA
open Go.RowKit Go.Proofs.YtpoboffdlnnbmaaW.PrintWords Go.Proofs.YtpoboffdlnnbmaaW.PrintLast Go.Proofs.YtpoboffdlnnbmaaW.PrintMore
attribute [local go_sem] max2_int min2_int max_two min_two max_three min_three max_four min_four   -- for this text's walks alone
set_option linter.unusedVariables false
set_option linter.unusedSimpArgs false

-- BY HAND: bands.tpl
-- MAKING columns_RightBands
section
open Go.RowKit Go.Shelf Go.Maps Go.Proofs.YtpoboffdlnnbmaaW.PrintWords Go.Proofs.YtpoboffdlnnbmaaW.PrintLast Go.Proofs.YtpoboffdlnnbmaaW.PrintMore
theorem C_lit1 (X : World) (u : Int) : Kd.C (Kd.int .i64) (X.alloc (.cells #[.int .i64 u] 2)) (some ⟨X.heap.size, 0, none⟩) 1 [u] :=
 (Kd.R_reads' (Kd.R_of_own (h1 := fun _ => rfl) (enc := Value.int .i64) (ok := fun _ => True) (own_lit X X.heap.size 2 .i64 [u] (Nat.le_refl _) (by simp)) (fun _ _ => trivial))).2.2
theorem C_pair (X : World) (u v : Int) : Kd.C (Kd.int .i64) (X.alloc (.cells #[.int .i64 u, .int .i64 v] 2)) (some ⟨X.heap.size, 0, none⟩) 2 [u, v] :=
 (Kd.R_reads' (Kd.R_of_own (h1 := fun _ => rfl) (enc := Value.int .i64) (ok := fun _ => True) (own_lit X X.heap.size 2 .i64 [u, v] (Nat.le_refl _) (by simp)) (fun _ _ => trivial))).2.2
theorem after_alloc {w w1 : World} (o : Obj) (h : Below (w.alloc o).heap.size (w.alloc o) w1) : Below w.heap.size w w1 := below_step ((Below.refl _ w).alloc (Nat.le_refl _) o) h
attribute [local go_sem high] eqA42
/-- A band that is not right. -/
def bad4 (f0 f1 f2 f3 : Int) : Bool := if f2 = -1 ∨ f3 = -1 then (outside 0 1125899906842623 f0 || outside 0 1125899906842623 f1) || decide (f0 > f1) || outside (-1) 10000000 f2 || outside (-1) 1073741824 f3 else true
def badBand (b : S42) : Bool := bad4 b.f0 b.f1 b.f2 b.f3
set_option maxRecDepth 100000 in
set_option maxHeartbeats 4000000 in
theorem band1_calls (f0 f1 f2 f3 : Int) (W : World) : Calls Try.prog 35 #[.agg #[.int .i64 f0, .int .i64 f1, .int .i64 f2, .int .i64 f3]] W fun e w' => e = .returned (.bool (bad4 f0 f1 f2 f3)) ∧ Below W.heap.size W w' := by
 have hu := Try.underlying42
 have hw1 : ∀ (X : World) (N : Nat), X.heap.size = N → Calls Try.prog 31 #[.int .i64 0, .int .i64 1125899906842623, .slice (some ⟨N, 0, none⟩) 2 2] (X.alloc (.cells #[.int .i64 f0, .int .i64 f1] 2)) fun e w' => e = .returned (.bool (!(outside 0 1125899906842623 f0 || outside 0 1125899906842623 f1))) ∧ Below (X.alloc (.cells #[.int .i64 f0, .int .i64 f1] 2)).heap.size (X.alloc (.cells #[.int .i64 f0, .int .i64 f1] 2)) w' := by
  rintro X N rfl
  exact columns_within.calls 0 1125899906842623 _ 2 [f0, f1] _ _ (C_pair X f0 f1) (Nat.le_refl _) (by simp [columns_within.f])
 have hw2 : ∀ (X : World) (N : Nat), X.heap.size = N → Calls Try.prog 31 #[.int .i64 (-1), .int .i64 10000000, .slice (some ⟨N, 0, none⟩) 1 1] (X.alloc (.cells #[.int .i64 f2] 2)) fun e w' => e = .returned (.bool (!(outside (-1) 10000000 f2))) ∧ Below (X.alloc (.cells #[.int .i64 f2] 2)).heap.size (X.alloc (.cells #[.int .i64 f2] 2)) w' := by
  rintro X N rfl
  exact columns_within.calls (-1) 10000000 _ 1 [f2] _ _ (C_lit1 X f2) (Nat.le_refl _) (by simp [columns_within.f])
 have hw3 : ∀ (X : World) (N : Nat), X.heap.size = N → Calls Try.prog 31 #[.int .i64 (-1), .int .i64 1073741824, .slice (some ⟨N, 0, none⟩) 1 1] (X.alloc (.cells #[.int .i64 f3] 2)) fun e w' => e = .returned (.bool (!(outside (-1) 1073741824 f3))) ∧ Below (X.alloc (.cells #[.int .i64 f3] 2)).heap.size (X.alloc (.cells #[.int .i64 f3] 2)) w' := by
  rintro X N rfl
  exact columns_within.calls (-1) 1073741824 _ 1 [f3] _ _ (C_lit1 X f3) (Nat.le_refl _) (by simp [columns_within.f])
 obtain ⟨W2, hW2⟩ : ∃ W2, (W.alloc (.cells #[.int .i64 f0, .int .i64 f1, .int .i64 f2, .int .i64 f3] 42)).alloc (.cells #[.int .i64 f0, .int .i64 f1, .int .i64 (-1), .int .i64 (-1)] 42) = W2 := ⟨_, rfl⟩
 have hB2 : Below W.heap.size W W2 := by rw [← hW2]; exact ((Below.refl _ W).alloc (Nat.le_refl _) _).alloc (by simp) _
 have k0 : W2.heap[W.heap.size]? = some (.cells #[.int .i64 f0, .int .i64 f1, .int .i64 f2, .int .i64 f3] 42 (0, 0)) := by rw [← hW2]; exact blk_alloc (heap_alloc_new _ _) _
 have hsz : W.heap.size < W2.heap.size := by rw [← hW2]; simp; omega
 have hk : ∀ w', Below W2.heap.size W2 w' → Below W.heap.size W w' ∧ w'.cell? ⟨W.heap.size, 0, none⟩ = some (.int .i64 f0) ∧ w'.cell? ⟨W.heap.size, 1, none⟩ = some (.int .i64 f1) ∧ w'.cell? ⟨W.heap.size, 2, none⟩ = some (.int .i64 f2) ∧ w'.cell? ⟨W.heap.size, 3, none⟩ = some (.int .i64 f3) := by
  intro w' hb
  have hx := (hb.block W.heap.size hsz).trans k0
  exact ⟨below_step hB2 hb, (blk_cell hx 0).trans rfl, (blk_cell hx 1).trans rfl, (blk_cell hx 2).trans rfl, (blk_cell hx 3).trans rfl⟩
 have HK := Lib.hid hk
 have HB2 := Aside0.mk hB2
 subst hW2
 clear hk hB2 k0 hsz
 by_cases c2 : f2 = -1
 ·subst c2
  by_cases c3 : f3 = -1
  ·subst c3
   cases h1 : (outside 0 1125899906842623 f0 || outside 0 1125899906842623 f1) with
   | true =>
    have e : bad4 f0 f1 (-1) (-1) = true := by simp [bad4, h1]
    rw [e]
    rw [h1] at hw1
    go_enter Try.func35, Try.ntmps35
    go_wp2_with (first | (go_at_call 31; (with_reducible refine (hw1 _ _ ?side).mono ?_); (case side => first | rfl | simp); rintro e w1 ⟨rfl, hq1⟩; have hb1 := after_alloc _ hq1; have HB3 := Aside0.mk hb1; obtain ⟨hx1, hc10, hc11, hc12, hc13⟩ := HK.out _ hb1; have HX1 := Aside0.mk hx1; clear hq1 hb1 hx1))
    (first | (refine bodyPost_ret (results_tmp (fn := Try.f35) rfl _ _ _) rfl ?_))
    exact ⟨rfl, HX1.out⟩
   | false =>
    rw [h1] at hw1
    by_cases hgt : f0 > f1
    ·have d1 : decide (f0 > f1) = true := decide_eq_true hgt
     have e : bad4 f0 f1 (-1) (-1) = true := by simp [bad4, hgt]
     rw [e]
     go_enter Try.func35, Try.ntmps35
     go_wp2_with (first | (go_at_call 31; (with_reducible refine (hw1 _ _ ?side).mono ?_); (case side => first | rfl | simp); rintro e w1 ⟨rfl, hq1⟩; have hb1 := after_alloc _ hq1; have HB3 := Aside0.mk hb1; obtain ⟨hx1, hc10, hc11, hc12, hc13⟩ := HK.out _ hb1; have HX1 := Aside0.mk hx1; clear hq1 hb1 hx1))
     (first | (refine bodyPost_ret (results_tmp (fn := Try.f35) rfl _ _ _) rfl ?_))
     exact ⟨rfl, HX1.out⟩
    have d1 : decide (f0 > f1) = false := decide_eq_false hgt
    cases h2 : outside (-1) 10000000 (-1) with
    | true =>
     have e : bad4 f0 f1 (-1) (-1) = true := by simp [bad4, h2]
     rw [e]
     rw [h2] at hw2
     go_enter Try.func35, Try.ntmps35
     go_wp2_with (first | (go_at_call 31; (with_reducible refine (hw1 _ _ ?side).mono ?_); (case side => first | rfl | simp); rintro e w1 ⟨rfl, hq1⟩; have hb1 := after_alloc _ hq1; have HB3 := Aside0.mk hb1; obtain ⟨hx1, hc10, hc11, hc12, hc13⟩ := HK.out _ hb1; have HX1 := Aside0.mk hx1; clear hq1 hb1 hx1) | (go_at_call 31; (with_reducible refine (hw2 _ _ ?side).mono ?_); (case side => first | rfl | simp); rintro e w2 ⟨rfl, hq2⟩; have hb2 := below_step HB3.out <| after_alloc _ hq2; have HB4 := Aside0.mk hb2; obtain ⟨hx2, hc20, hc21, hc22, hc23⟩ := HK.out _ hb2; have HX2 := Aside0.mk hx2; clear hq2 hb2 hx2))
     (first | (refine bodyPost_ret (results_tmp (fn := Try.f35) rfl _ _ _) rfl ?_))
     exact ⟨rfl, HX2.out⟩
    | false =>
     rw [h2] at hw2
     have e : bad4 f0 f1 (-1) (-1) = outside (-1) 1073741824 (-1) := by unfold bad4; rw [h1, d1, h2]; simp
     rw [e]
     cases h3 : outside (-1) 1073741824 (-1) with
     | true =>
      rw [h3] at hw3
      go_enter Try.func35, Try.ntmps35
      go_wp2_with (first | (go_at_call 31; (with_reducible refine (hw1 _ _ ?side).mono ?_); (case side => first | rfl | simp); rintro e w1 ⟨rfl, hq1⟩; have hb1 := after_alloc _ hq1; have HB3 := Aside0.mk hb1; obtain ⟨hx1, hc10, hc11, hc12, hc13⟩ := HK.out _ hb1; have HX1 := Aside0.mk hx1; clear hq1 hb1 hx1) | (go_at_call 31; (with_reducible refine (hw2 _ _ ?side).mono ?_); (case side => first | rfl | simp); rintro e w2 ⟨rfl, hq2⟩; have hb2 := below_step HB3.out <| after_alloc _ hq2; have HB4 := Aside0.mk hb2; obtain ⟨hx2, hc20, hc21, hc22, hc23⟩ := HK.out _ hb2; have HX2 := Aside0.mk hx2; clear hq2 hb2 hx2) | (go_at_call 31; (with_reducible refine (hw3 _ _ ?side).mono ?_); (case side => first | rfl | simp); rintro e w3 ⟨rfl, hq3⟩; have hb3 := below_step HB4.out <| after_alloc _ hq3; have HB5 := Aside0.mk hb3; obtain ⟨hx3, hc30, hc31, hc32, hc33⟩ := HK.out _ hb3; have HX3 := Aside0.mk hx3; clear hq3 hb3 hx3))
      (first | (refine bodyPost_ret (results_tmp (fn := Try.f35) rfl _ _ _) rfl ?_))
      exact ⟨rfl, HX3.out⟩
     | false =>
      rw [h3] at hw3
      go_enter Try.func35, Try.ntmps35
      go_wp2_with (first | (go_at_call 31; (with_reducible refine (hw1 _ _ ?side).mono ?_); (case side => first | rfl | simp); rintro e w1 ⟨rfl, hq1⟩; have hb1 := after_alloc _ hq1; have HB3 := Aside0.mk hb1; obtain ⟨hx1, hc10, hc11, hc12, hc13⟩ := HK.out _ hb1; have HX1 := Aside0.mk hx1; clear hq1 hb1 hx1) | (go_at_call 31; (with_reducible refine (hw2 _ _ ?side).mono ?_); (case side => first | rfl | simp); rintro e w2 ⟨rfl, hq2⟩; have hb2 := below_step HB3.out <| after_alloc _ hq2; have HB4 := Aside0.mk hb2; obtain ⟨hx2, hc20, hc21, hc22, hc23⟩ := HK.out _ hb2; have HX2 := Aside0.mk hx2; clear hq2 hb2 hx2) | (go_at_call 31; (with_reducible refine (hw3 _ _ ?side).mono ?_); (case side => first | rfl | simp); rintro e w3 ⟨rfl, hq3⟩; have hb3 := below_step HB4.out <| after_alloc _ hq3; have HB5 := Aside0.mk hb3; obtain ⟨hx3, hc30, hc31, hc32, hc33⟩ := HK.out _ hb3; have HX3 := Aside0.mk hx3; clear hq3 hb3 hx3))
      (first | (refine bodyPost_ret (results_tmp (fn := Try.f35) rfl _ _ _) rfl ?_))
      exact ⟨rfl, HX3.out⟩
  ·have t3 : (f3 == (-1)) = false := beq_eq_false_iff_ne.mpr c3
   cases h1 : (outside 0 1125899906842623 f0 || outside 0 1125899906842623 f1) with
   | true =>
    have e : bad4 f0 f1 (-1) f3 = true := by simp [bad4, h1]
    rw [e]
    rw [h1] at hw1
    go_enter Try.func35, Try.ntmps35
    go_wp2_with (first | (go_at_call 31; (with_reducible refine (hw1 _ _ ?side).mono ?_); (case side => first | rfl | simp); rintro e w1 ⟨rfl, hq1⟩; have hb1 := after_alloc _ hq1; have HB3 := Aside0.mk hb1; obtain ⟨hx1, hc10, hc11, hc12, hc13⟩ := HK.out _ hb1; have HX1 := Aside0.mk hx1; clear hq1 hb1 hx1))
    (first | (refine bodyPost_ret (results_tmp (fn := Try.f35) rfl _ _ _) rfl ?_))
    exact ⟨rfl, HX1.out⟩
   | false =>
    rw [h1] at hw1
    by_cases hgt : f0 > f1
    ·have d1 : decide (f0 > f1) = true := decide_eq_true hgt
     have e : bad4 f0 f1 (-1) f3 = true := by simp [bad4, hgt]
     rw [e]
     go_enter Try.func35, Try.ntmps35
     go_wp2_with (first | (go_at_call 31; (with_reducible refine (hw1 _ _ ?side).mono ?_); (case side => first | rfl | simp); rintro e w1 ⟨rfl, hq1⟩; have hb1 := after_alloc _ hq1; have HB3 := Aside0.mk hb1; obtain ⟨hx1, hc10, hc11, hc12, hc13⟩ := HK.out _ hb1; have HX1 := Aside0.mk hx1; clear hq1 hb1 hx1))
     (first | (refine bodyPost_ret (results_tmp (fn := Try.f35) rfl _ _ _) rfl ?_))
     exact ⟨rfl, HX1.out⟩
    have d1 : decide (f0 > f1) = false := decide_eq_false hgt
    cases h2 : outside (-1) 10000000 (-1) with
    | true =>
     have e : bad4 f0 f1 (-1) f3 = true := by simp [bad4, h2]
     rw [e]
     rw [h2] at hw2
     go_enter Try.func35, Try.ntmps35
     go_wp2_with (first | (go_at_call 31; (with_reducible refine (hw1 _ _ ?side).mono ?_); (case side => first | rfl | simp); rintro e w1 ⟨rfl, hq1⟩; have hb1 := after_alloc _ hq1; have HB3 := Aside0.mk hb1; obtain ⟨hx1, hc10, hc11, hc12, hc13⟩ := HK.out _ hb1; have HX1 := Aside0.mk hx1; clear hq1 hb1 hx1) | (go_at_call 31; (with_reducible refine (hw2 _ _ ?side).mono ?_); (case side => first | rfl | simp); rintro e w2 ⟨rfl, hq2⟩; have hb2 := below_step HB3.out <| after_alloc _ hq2; have HB4 := Aside0.mk hb2; obtain ⟨hx2, hc20, hc21, hc22, hc23⟩ := HK.out _ hb2; have HX2 := Aside0.mk hx2; clear hq2 hb2 hx2))
     (first | (refine bodyPost_ret (results_tmp (fn := Try.f35) rfl _ _ _) rfl ?_))
     exact ⟨rfl, HX2.out⟩
    | false =>
     rw [h2] at hw2
     have e : bad4 f0 f1 (-1) f3 = outside (-1) 1073741824 f3 := by unfold bad4; rw [h1, d1, h2]; simp
     rw [e]
     cases h3 : outside (-1) 1073741824 f3 with
     | true =>
      rw [h3] at hw3
      go_enter Try.func35, Try.ntmps35
      go_wp2_with (first | (go_at_call 31; (with_reducible refine (hw1 _ _ ?side).mono ?_); (case side => first | rfl | simp); rintro e w1 ⟨rfl, hq1⟩; have hb1 := after_alloc _ hq1; have HB3 := Aside0.mk hb1; obtain ⟨hx1, hc10, hc11, hc12, hc13⟩ := HK.out _ hb1; have HX1 := Aside0.mk hx1; clear hq1 hb1 hx1) | (go_at_call 31; (with_reducible refine (hw2 _ _ ?side).mono ?_); (case side => first | rfl | simp); rintro e w2 ⟨rfl, hq2⟩; have hb2 := below_step HB3.out <| after_alloc _ hq2; have HB4 := Aside0.mk hb2; obtain ⟨hx2, hc20, hc21, hc22, hc23⟩ := HK.out _ hb2; have HX2 := Aside0.mk hx2; clear hq2 hb2 hx2) | (go_at_call 31; (with_reducible refine (hw3 _ _ ?side).mono ?_); (case side => first | rfl | simp); rintro e w3 ⟨rfl, hq3⟩; have hb3 := below_step HB4.out <| after_alloc _ hq3; have HB5 := Aside0.mk hb3; obtain ⟨hx3, hc30, hc31, hc32, hc33⟩ := HK.out _ hb3; have HX3 := Aside0.mk hx3; clear hq3 hb3 hx3))
      (first | (refine bodyPost_ret (results_tmp (fn := Try.f35) rfl _ _ _) rfl ?_))
      exact ⟨rfl, HX3.out⟩
     | false =>
      rw [h3] at hw3
      go_enter Try.func35, Try.ntmps35
      go_wp2_with (first | (go_at_call 31; (with_reducible refine (hw1 _ _ ?side).mono ?_); (case side => first | rfl | simp); rintro e w1 ⟨rfl, hq1⟩; have hb1 := after_alloc _ hq1; have HB3 := Aside0.mk hb1; obtain ⟨hx1, hc10, hc11, hc12, hc13⟩ := HK.out _ hb1; have HX1 := Aside0.mk hx1; clear hq1 hb1 hx1) | (go_at_call 31; (with_reducible refine (hw2 _ _ ?side).mono ?_); (case side => first | rfl | simp); rintro e w2 ⟨rfl, hq2⟩; have hb2 := below_step HB3.out <| after_alloc _ hq2; have HB4 := Aside0.mk hb2; obtain ⟨hx2, hc20, hc21, hc22, hc23⟩ := HK.out _ hb2; have HX2 := Aside0.mk hx2; clear hq2 hb2 hx2) | (go_at_call 31; (with_reducible refine (hw3 _ _ ?side).mono ?_); (case side => first | rfl | simp); rintro e w3 ⟨rfl, hq3⟩; have hb3 := below_step HB4.out <| after_alloc _ hq3; have HB5 := Aside0.mk hb3; obtain ⟨hx3, hc30, hc31, hc32, hc33⟩ := HK.out _ hb3; have HX3 := Aside0.mk hx3; clear hq3 hb3 hx3))
      (first | (refine bodyPost_ret (results_tmp (fn := Try.f35) rfl _ _ _) rfl ?_))
      exact ⟨rfl, HX3.out⟩
 ·have t2 : (f2 == (-1)) = false := beq_eq_false_iff_ne.mpr c2
  by_cases c3 : f3 = -1
  ·subst c3
   cases h1 : (outside 0 1125899906842623 f0 || outside 0 1125899906842623 f1) with
   | true =>
    have e : bad4 f0 f1 f2 (-1) = true := by simp [bad4, h1]
    rw [e]
    rw [h1] at hw1
    go_enter Try.func35, Try.ntmps35
    go_wp2_with (first | (go_at_call 31; (with_reducible refine (hw1 _ _ ?side).mono ?_); (case side => first | rfl | simp); rintro e w1 ⟨rfl, hq1⟩; have hb1 := after_alloc _ hq1; have HB3 := Aside0.mk hb1; obtain ⟨hx1, hc10, hc11, hc12, hc13⟩ := HK.out _ hb1; have HX1 := Aside0.mk hx1; clear hq1 hb1 hx1))
    (first | (refine bodyPost_ret (results_tmp (fn := Try.f35) rfl _ _ _) rfl ?_))
    exact ⟨rfl, HX1.out⟩
   | false =>
    rw [h1] at hw1
    by_cases hgt : f0 > f1
    ·have d1 : decide (f0 > f1) = true := decide_eq_true hgt
     have e : bad4 f0 f1 f2 (-1) = true := by simp [bad4, hgt]
     rw [e]
     go_enter Try.func35, Try.ntmps35
     go_wp2_with (first | (go_at_call 31; (with_reducible refine (hw1 _ _ ?side).mono ?_); (case side => first | rfl | simp); rintro e w1 ⟨rfl, hq1⟩; have hb1 := after_alloc _ hq1; have HB3 := Aside0.mk hb1; obtain ⟨hx1, hc10, hc11, hc12, hc13⟩ := HK.out _ hb1; have HX1 := Aside0.mk hx1; clear hq1 hb1 hx1))
     (first | (refine bodyPost_ret (results_tmp (fn := Try.f35) rfl _ _ _) rfl ?_))
     exact ⟨rfl, HX1.out⟩
    have d1 : decide (f0 > f1) = false := decide_eq_false hgt
    cases h2 : outside (-1) 10000000 f2 with
    | true =>
     have e : bad4 f0 f1 f2 (-1) = true := by simp [bad4, h2]
     rw [e]
     rw [h2] at hw2
     go_enter Try.func35, Try.ntmps35
     go_wp2_with (first | (go_at_call 31; (with_reducible refine (hw1 _ _ ?side).mono ?_); (case side => first | rfl | simp); rintro e w1 ⟨rfl, hq1⟩; have hb1 := after_alloc _ hq1; have HB3 := Aside0.mk hb1; obtain ⟨hx1, hc10, hc11, hc12, hc13⟩ := HK.out _ hb1; have HX1 := Aside0.mk hx1; clear hq1 hb1 hx1) | (go_at_call 31; (with_reducible refine (hw2 _ _ ?side).mono ?_); (case side => first | rfl | simp); rintro e w2 ⟨rfl, hq2⟩; have hb2 := below_step HB3.out <| after_alloc _ hq2; have HB4 := Aside0.mk hb2; obtain ⟨hx2, hc20, hc21, hc22, hc23⟩ := HK.out _ hb2; have HX2 := Aside0.mk hx2; clear hq2 hb2 hx2))
     (first | (refine bodyPost_ret (results_tmp (fn := Try.f35) rfl _ _ _) rfl ?_))
     exact ⟨rfl, HX2.out⟩
    | false =>
     rw [h2] at hw2
     have e : bad4 f0 f1 f2 (-1) = outside (-1) 1073741824 (-1) := by unfold bad4; rw [h1, d1, h2]; simp
     rw [e]
     cases h3 : outside (-1) 1073741824 (-1) with
     | true =>
      rw [h3] at hw3
      go_enter Try.func35, Try.ntmps35
      go_wp2_with (first | (go_at_call 31; (with_reducible refine (hw1 _ _ ?side).mono ?_); (case side => first | rfl | simp); rintro e w1 ⟨rfl, hq1⟩; have hb1 := after_alloc _ hq1; have HB3 := Aside0.mk hb1; obtain ⟨hx1, hc10, hc11, hc12, hc13⟩ := HK.out _ hb1; have HX1 := Aside0.mk hx1; clear hq1 hb1 hx1) | (go_at_call 31; (with_reducible refine (hw2 _ _ ?side).mono ?_); (case side => first | rfl | simp); rintro e w2 ⟨rfl, hq2⟩; have hb2 := below_step HB3.out <| after_alloc _ hq2; have HB4 := Aside0.mk hb2; obtain ⟨hx2, hc20, hc21, hc22, hc23⟩ := HK.out _ hb2; have HX2 := Aside0.mk hx2; clear hq2 hb2 hx2) | (go_at_call 31; (with_reducible refine (hw3 _ _ ?side).mono ?_); (case side => first | rfl | simp); rintro e w3 ⟨rfl, hq3⟩; have hb3 := below_step HB4.out <| after_alloc _ hq3; have HB5 := Aside0.mk hb3; obtain ⟨hx3, hc30, hc31, hc32, hc33⟩ := HK.out _ hb3; have HX3 := Aside0.mk hx3; clear hq3 hb3 hx3))
      (first | (refine bodyPost_ret (results_tmp (fn := Try.f35) rfl _ _ _) rfl ?_))
      exact ⟨rfl, HX3.out⟩
     | false =>
      rw [h3] at hw3
      go_enter Try.func35, Try.ntmps35
      go_wp2_with (first | (go_at_call 31; (with_reducible refine (hw1 _ _ ?side).mono ?_); (case side => first | rfl | simp); rintro e w1 ⟨rfl, hq1⟩; have hb1 := after_alloc _ hq1; have HB3 := Aside0.mk hb1; obtain ⟨hx1, hc10, hc11, hc12, hc13⟩ := HK.out _ hb1; have HX1 := Aside0.mk hx1; clear hq1 hb1 hx1) | (go_at_call 31; (with_reducible refine (hw2 _ _ ?side).mono ?_); (case side => first | rfl | simp); rintro e w2 ⟨rfl, hq2⟩; have hb2 := below_step HB3.out <| after_alloc _ hq2; have HB4 := Aside0.mk hb2; obtain ⟨hx2, hc20, hc21, hc22, hc23⟩ := HK.out _ hb2; have HX2 := Aside0.mk hx2; clear hq2 hb2 hx2) | (go_at_call 31; (with_reducible refine (hw3 _ _ ?side).mono ?_); (case side => first | rfl | simp); rintro e w3 ⟨rfl, hq3⟩; have hb3 := below_step HB4.out <| after_alloc _ hq3; have HB5 := Aside0.mk hb3; obtain ⟨hx3, hc30, hc31, hc32, hc33⟩ := HK.out _ hb3; have HX3 := Aside0.mk hx3; clear hq3 hb3 hx3))
      (first | (refine bodyPost_ret (results_tmp (fn := Try.f35) rfl _ _ _) rfl ?_))
      exact ⟨rfl, HX3.out⟩
  ·have t3 : (f3 == (-1)) = false := beq_eq_false_iff_ne.mpr c3
   have e : bad4 f0 f1 f2 f3 = true := by simp [bad4, c2, c3]
   rw [e]
   go_enter Try.func35, Try.ntmps35
   go_wp2
   (first | (refine bodyPost_ret (results_tmp (fn := Try.f35) rfl _ _ _) rfl ?_))
   exact ⟨rfl, HB2.out⟩
theorem rd_band_nat (l : List S42) (k : Nat) (h : k < l.length) : rd_T42 l (k : Int) = l[k] := by
 unfold rd_T42
 rw [Int.toNat_natCast, List.getD_eq_getElem?_getD, List.getElem?_eq_getElem h]
 rfl
set_option maxRecDepth 100000 in
set_option maxHeartbeats 4000000 in
theorem index_band (A : Option Addr) (c : Nat) (l : List S42) (w : World) (hr : Kd.C k42 w A l.length l) :
  Calls Try.prog 61 #[.slice A l.length c, .func (.func 35) #[] #[]] w fun e w' => (∃ k : Int, e = .returned (.int .i64 k) ∧ decide (0 ≤ k) = l.any badBand) ∧ Below w.heap.size w w' := by
 have hu := Try.underlying42
 have eg : ∀ args w, (callFunc 35 args).run Try.prog w = .ok (.enter 35 args) w := enters_of Try.func35 (by kernel_rfl) rfl
 have hmax : l.length ≤ 9223372036854775807 := Kd.C_max hr
 have Hr := Lib.hid hr
 clear hr
 go_enter Try.func61, Try.ntmps61
 go_wp2
 go_loopg [5, 8] l.length (fun gg _ s8 wr => ∃ kk : Nat, kk ≤ l.length ∧ l.length - kk ≤ gg ∧ s8 = .int .i64 kk ∧ Aside0 (Below w.heap.size w wr) ∧ Aside (∀ j (h : j < l.length), j < kk → badBand l[j] = false))
 case atStart => exact ⟨0, Nat.zero_le _, by omega, rfl, ⟨Below.refl _ w⟩, fun j _ hj => absurd hj (Nat.not_lt_zero _)⟩
 case round =>
  obtain ⟨kk, hkk, hg, rfl, HB, A1⟩ := hrel
  by_cases hlt : kk < l.length
  ·have hltz : (kk : Int) < (l.length : Int) := by omega
   obtain ⟨ad, rfl, hx0, hx1, hx2, hx3⟩ := at_T42 Hr.out (kk : Int) (by omega) hltz
   rw [rd_band_nat l kk hlt, Int.toNat_natCast] at hx0 hx1 hx2 hx3
   replace hx0 := (HB.out.cell (World.block_lt_of_cell? w _ hx0)).trans hx0
   replace hx1 := (HB.out.cell (World.block_lt_of_cell? w _ hx1)).trans hx1
   replace hx2 := (HB.out.cell (World.block_lt_of_cell? w _ hx2)).trans hx2
   replace hx3 := (HB.out.cell (World.block_lt_of_cell? w _ hx3)).trans hx3
   have hcall := fun W (HW : Below w.heap.size w W) => band1_calls l[kk].f0 l[kk].f1 l[kk].f2 l[kk].f3 W
   change ∀ W, Below w.heap.size w W → Calls Try.prog _ _ W (fun e w' => e = .returned (.bool (badBand l[kk])) ∧ Below W.heap.size W w') at hcall
   have B := Lib.hid (rfl : badBand l[kk] = badBand l[kk])
   cases hq : badBand l[kk] with
   | true =>
    rw [hq] at hcall
    go_wp2_with (go_at_fn 35; refine (hcall _ HB.out).mono ?_; rintro e w' ⟨rfl, hb⟩; have HB2 := Aside0.mk (below_step HB.out hb))
    go_ret
    refine ⟨⟨_, rfl, ?_⟩, HB2.out⟩
    have : l.any badBand = true := List.any_eq_true.2 ⟨_, List.getElem_mem hlt, hq⟩
    rw [this]
    simp
   | false =>
    rw [hq] at hcall
    go_wp2_with (go_at_fn 35; refine (hcall _ HB.out).mono ?_; rintro e w' ⟨rfl, hb⟩; have HB2 := Aside0.mk (below_step HB.out hb))
    go_roundg (l.length - (kk + 1))
    case measure => omega
    case rel =>
     refine ⟨kk + 1, by omega, by omega, by go_num, HB2, (show Aside _ from fun j hjl hj => ?_)⟩
     by_cases e : j = kk
     ·subst e
      exact hq
     ·exact A1.out j hjl (by omega)
  ·have hltz : ¬ (kk : Int) < (l.length : Int) := by omega
   go_wp2
   go_ret
   refine ⟨⟨_, rfl, ?_⟩, HB.out⟩
   have : l.any badBand = false := by
    rw [List.any_eq_false]
    intro x hx
    obtain ⟨j, hj, e⟩ := List.mem_iff_getElem.1 hx
    rw [← e, A1.out j hj (by omega)]
    simp
   rw [this]
   rfl
theorem contains_band (A : Option Addr) (c : Nat) (l : List S42) (w : World) (hr : Kd.C k42 w A l.length l) :
  Calls Try.prog 34 #[.slice A l.length c, .func (.func 35) #[] #[]] w fun e w' => e = .returned (.bool (l.any badBand)) ∧ Below w.heap.size w w' := by
 have hi := index_band A c l w hr
 go_enter Try.func34, Try.ntmps34
 go_wp2_with (go_at_call 61; refine hi.mono ?_; rintro e w' ⟨⟨k, rfl, hk⟩, hb⟩; have HB := Aside0.mk hb; clear hb)
 go_ret
 exact ⟨by rw [← hk]; rfl, HB.out⟩
def columns_RightBands.f (l0 : List S42) : Option Bool := some (decide (l0.length ≤ 10000) && !(l0.any badBand))
theorem columns_RightBands.calls (A0 : Option Addr) (c0 : Nat) (l0 : List S42) (r : Bool) (w : World) (hr0 : Kd.C k42 w A0 l0.length l0) (hc0 : l0.length ≤ c0) (h : columns_RightBands.f l0 = some r) :
  Calls Try.prog 17 #[.slice A0 l0.length c0] w fun e w' => e = .returned (.bool r) ∧ Below w.heap.size w w' := by
 unfold columns_RightBands.f at h
 obtain rfl := Option.some.inj h
 clear h
 have hcon := contains_band A0 c0 l0 w hr0
 by_cases hl : l0.length ≤ 10000
 ·rw [show decide (l0.length ≤ 10000) = true from decide_eq_true hl, Bool.true_and]
  have hlz : (l0.length : Int) ≤ 10000 := by omega
  clear hl
  go_enter Try.func17, Try.ntmps17
  go_wp2_with (go_at_call 34; refine hcon.mono ?_; rintro e w' ⟨rfl, hb⟩; have HB := Aside0.mk hb; clear hb)
  go_ret
  exact ⟨rfl, HB.out⟩
 ·rw [show decide (l0.length ≤ 10000) = false from decide_eq_false hl, Bool.false_and]
  have hlz : ¬ (l0.length : Int) ≤ 10000 := by omega
  clear hl
  go_enter Try.func17, Try.ntmps17
  go_wp2
  go_ret
  exact ⟨rfl, Below.refl _ _⟩
end

end Go.Proofs.Ytpoboffdlnnbmaa.PA
