-- MADE by wip/tools/xprint.py of this repo: the kit's print.py, turned by this session, and texts by hand
import Derived.Test.YtilfgmclhoidiaaPAx0
import Derived.Test.YtilfgmclhoidiaaPAx15
import Derived.Test.YtilfgmclhoidiaaPAx19
namespace Go.Proofs.Ytilfgmclhoidiaa.PA
open Go.RowKit Go.Proofs.YtilfgmclhoidiaaW.PrintWords Go.Proofs.YtilfgmclhoidiaaW.PrintLast Go.Proofs.YtilfgmclhoidiaaW.PrintMore
attribute [local go_sem] max2_int min2_int max_two min_two max_three min_three max_four min_four   -- for this text's walks alone
set_option linter.unusedVariables false
set_option linter.unusedSimpArgs false

/-! ### purflinglaw15_WidthsSame: function 6 -/
mutual
def purflinglaw15_WidthsSame.j0 : Nat → Int → Int → Bool → Bool → Int → Int → Int → Int → Option (Bool)
  | 0, _, _, _, _, _, _, _, _ => none
  | k + 1, x1, x2, x7, x19, x430000, x430001, x430002, x430003 => if x19 = true then (some x7) else (if 0 ≤ x1 then (if (x1 : Int).toNat ≤ 8796093022208 then (purflinglaw15_WidthsSame.l0 k x1 x2 x7 (List.replicate (x1 : Int).toNat z35) 0 x430000 x430001 x430002 x430003) else (none)) else (none))
def purflinglaw15_WidthsSame.l0 : Nat → Int → Int → Bool → List (S35) → Int → Int → Int → Int → Int → Option (Bool)
  | 0, _, _, _, _, _, _, _, _, _ => none
  | k + 1, x1, x2, x7, x8, x9, x430000, x430001, x430002, x430003 => if x9 < x1 then (if 0 ≤ x9 then (if x9 < (x8.length : Int) then (purflinglaw15_WidthsSame.l0 k x1 x2 x7 (x8.set (x9 : Int).toNat (⟨x430000, x430001, x430002, x430003⟩ : S35)) (wrap64 (x9 + 1)) x430000 x430001 x430002 x430003) else (none)) else (none)) else ((widths_Auto.f k x8 x2).bind fun bt435 => (if bt435.2 = 0 then (purflinglaw15_WidthsSame.j2 k x1 x7 bt435.1 ((bt435.1.length : Int) != x1)) else (purflinglaw15_WidthsSame.j2 k x1 x7 bt435.1 true)))
def purflinglaw15_WidthsSame.j2 : Nat → Int → Bool → List Int → Bool → Option (Bool)
  | 0, _, _, _, _ => none
  | k + 1, x1, x7, x10, x45 => if x45 = true then (if x7 = true then (some ((x10.length : Int) == 0)) else (some false)) else (purflinglaw15_WidthsSame.l1 k x1 x7 x10 1)
def purflinglaw15_WidthsSame.l1 : Nat → Int → Bool → List Int → Int → Option (Bool)
  | 0, _, _, _, _ => none
  | k + 1, x1, x7, x10, x12 => if x12 < x1 then (if 0 ≤ x12 then (if x12 < (x10.length : Int) then (if 0 ≤ (wrap64 (x12 - 1)) then (if (wrap64 (x12 - 1)) < (x10.length : Int) then (if (rd x10 x12) > (rd x10 (wrap64 (x12 - 1))) then (some false) else (if 0 < (x10.length : Int) then (if (rd x10 x12) < (wrap64 ((rd x10 0) - 1)) then (some false) else (purflinglaw15_WidthsSame.l1 k x1 x7 x10 (wrap64 (x12 + 1)))) else (none))) else (none)) else (none)) else (none)) else (none)) else (some x7)
end
def purflinglaw15_WidthsSame.f (k : Nat) (a0_0 : Int) (a0_1 : Int) (a0_2 : Int) (a0_3 : Int) (a1 : Int) (a2 : Int) : Option (Bool) := (purflinglaw15_shown.f k).bind fun t430 => (if a1 < 1 then (purflinglaw15_WidthsSame.j0 k a1 a2 t430 true a0_0 a0_1 a0_2 a0_3) else (purflinglaw15_WidthsSame.j0 k a1 a2 t430 (decide (a1 > 60)) a0_0 a0_1 a0_2 a0_3))
theorem purflinglaw15_WidthsSame.mono_l : ∀ k, (∀ y0 y1 y2 y3 y4 y5 y6 y7, LeO (purflinglaw15_WidthsSame.j0 k y0 y1 y2 y3 y4 y5 y6 y7) (purflinglaw15_WidthsSame.j0 (k + 1) y0 y1 y2 y3 y4 y5 y6 y7)) ∧ (∀ y0 y1 y2 y3 y4 y5 y6 y7 y8, LeO (purflinglaw15_WidthsSame.l0 k y0 y1 y2 y3 y4 y5 y6 y7 y8) (purflinglaw15_WidthsSame.l0 (k + 1) y0 y1 y2 y3 y4 y5 y6 y7 y8)) ∧ (∀ y0 y1 y2 y3, LeO (purflinglaw15_WidthsSame.j2 k y0 y1 y2 y3) (purflinglaw15_WidthsSame.j2 (k + 1) y0 y1 y2 y3)) ∧ (∀ y0 y1 y2 y3, LeO (purflinglaw15_WidthsSame.l1 k y0 y1 y2 y3) (purflinglaw15_WidthsSame.l1 (k + 1) y0 y1 y2 y3))
  | 0 => ⟨fun _ _ _ _ _ _ _ _ r h => by simp [purflinglaw15_WidthsSame.j0] at h, fun _ _ _ _ _ _ _ _ _ r h => by simp [purflinglaw15_WidthsSame.l0] at h, fun _ _ _ _ r h => by simp [purflinglaw15_WidthsSame.j2] at h, fun _ _ _ _ r h => by simp [purflinglaw15_WidthsSame.l1] at h⟩
  | k + 1 => by
    obtain ⟨ih0, ih1, ih2, ih3⟩ := purflinglaw15_WidthsSame.mono_l k
    refine ⟨?_, ?_, ?_, ?_⟩
    · intro y0 y1 y2 y3 y4 y5 y6 y7
      unfold purflinglaw15_WidthsSame.j0
      repeat' first
      | (with_reducible exact ih0 _ _ _ _ _ _ _ _)
      | (with_reducible exact ih1 _ _ _ _ _ _ _ _ _)
      | (with_reducible exact ih2 _ _ _ _)
      | (with_reducible exact ih3 _ _ _ _)
      | (with_reducible exact purflinglaw15_shown.mono _)
      | (with_reducible exact widths_Auto.mono _ _ _)
      | (with_reducible exact LeO.refl _)
      | (with_reducible exact LeO.none _)
      | (with_reducible refine LeO.ite ?_ ?_)
      | (with_reducible refine LeO.bind ?_ (fun _ => ?_))
      | exact ih0 _ _ _ _ _ _ _ _
      | exact ih1 _ _ _ _ _ _ _ _ _
      | exact ih2 _ _ _ _
      | exact ih3 _ _ _ _
      | exact purflinglaw15_shown.mono _
      | exact widths_Auto.mono _ _ _
      | exact LeO.none _
      | refine LeO.ite ?_ ?_
      | refine LeO.bind ?_ (fun _ => ?_)
    · intro y0 y1 y2 y3 y4 y5 y6 y7 y8
      unfold purflinglaw15_WidthsSame.l0
      repeat' first
      | (with_reducible exact ih0 _ _ _ _ _ _ _ _)
      | (with_reducible exact ih1 _ _ _ _ _ _ _ _ _)
      | (with_reducible exact ih2 _ _ _ _)
      | (with_reducible exact ih3 _ _ _ _)
      | (with_reducible exact purflinglaw15_shown.mono _)
      | (with_reducible exact widths_Auto.mono _ _ _)
      | (with_reducible exact LeO.refl _)
      | (with_reducible exact LeO.none _)
      | (with_reducible refine LeO.ite ?_ ?_)
      | (with_reducible refine LeO.bind ?_ (fun _ => ?_))
      | exact ih0 _ _ _ _ _ _ _ _
      | exact ih1 _ _ _ _ _ _ _ _ _
      | exact ih2 _ _ _ _
      | exact ih3 _ _ _ _
      | exact purflinglaw15_shown.mono _
      | exact widths_Auto.mono _ _ _
      | exact LeO.none _
      | refine LeO.ite ?_ ?_
      | refine LeO.bind ?_ (fun _ => ?_)
    · intro y0 y1 y2 y3
      unfold purflinglaw15_WidthsSame.j2
      repeat' first
      | (with_reducible exact ih0 _ _ _ _ _ _ _ _)
      | (with_reducible exact ih1 _ _ _ _ _ _ _ _ _)
      | (with_reducible exact ih2 _ _ _ _)
      | (with_reducible exact ih3 _ _ _ _)
      | (with_reducible exact purflinglaw15_shown.mono _)
      | (with_reducible exact widths_Auto.mono _ _ _)
      | (with_reducible exact LeO.refl _)
      | (with_reducible exact LeO.none _)
      | (with_reducible refine LeO.ite ?_ ?_)
      | (with_reducible refine LeO.bind ?_ (fun _ => ?_))
      | exact ih0 _ _ _ _ _ _ _ _
      | exact ih1 _ _ _ _ _ _ _ _ _
      | exact ih2 _ _ _ _
      | exact ih3 _ _ _ _
      | exact purflinglaw15_shown.mono _
      | exact widths_Auto.mono _ _ _
      | exact LeO.none _
      | refine LeO.ite ?_ ?_
      | refine LeO.bind ?_ (fun _ => ?_)
    · intro y0 y1 y2 y3
      unfold purflinglaw15_WidthsSame.l1
      repeat' first
      | (with_reducible exact ih0 _ _ _ _ _ _ _ _)
      | (with_reducible exact ih1 _ _ _ _ _ _ _ _ _)
      | (with_reducible exact ih2 _ _ _ _)
      | (with_reducible exact ih3 _ _ _ _)
      | (with_reducible exact purflinglaw15_shown.mono _)
      | (with_reducible exact widths_Auto.mono _ _ _)
      | (with_reducible exact LeO.refl _)
      | (with_reducible exact LeO.none _)
      | (with_reducible refine LeO.ite ?_ ?_)
      | (with_reducible refine LeO.bind ?_ (fun _ => ?_))
      | exact ih0 _ _ _ _ _ _ _ _
      | exact ih1 _ _ _ _ _ _ _ _ _
      | exact ih2 _ _ _ _
      | exact ih3 _ _ _ _
      | exact purflinglaw15_shown.mono _
      | exact widths_Auto.mono _ _ _
      | exact LeO.none _
      | refine LeO.ite ?_ ?_
      | refine LeO.bind ?_ (fun _ => ?_)
theorem purflinglaw15_WidthsSame.mono : ∀ a0 a1 a2 a3 a4 a5 k, LeO (purflinglaw15_WidthsSame.f k a0 a1 a2 a3 a4 a5) (purflinglaw15_WidthsSame.f (k + 1) a0 a1 a2 a3 a4 a5) := by
  intro a0 a1 a2 a3 a4 a5 k
  obtain ⟨ih0, ih1, ih2, ih3⟩ := purflinglaw15_WidthsSame.mono_l k
  unfold purflinglaw15_WidthsSame.f
  repeat' first
      | (with_reducible exact ih0 _ _ _ _ _ _ _ _)
      | (with_reducible exact ih1 _ _ _ _ _ _ _ _ _)
      | (with_reducible exact ih2 _ _ _ _)
      | (with_reducible exact ih3 _ _ _ _)
      | (with_reducible exact purflinglaw15_shown.mono _)
      | (with_reducible exact widths_Auto.mono _ _ _)
      | (with_reducible exact LeO.refl _)
      | (with_reducible exact LeO.none _)
      | (with_reducible refine LeO.ite ?_ ?_)
      | (with_reducible refine LeO.bind ?_ (fun _ => ?_))
      | exact ih0 _ _ _ _ _ _ _ _
      | exact ih1 _ _ _ _ _ _ _ _ _
      | exact ih2 _ _ _ _
      | exact ih3 _ _ _ _
      | exact purflinglaw15_shown.mono _
      | exact widths_Auto.mono _ _ _
      | exact LeO.none _
      | refine LeO.ite ?_ ?_
      | refine LeO.bind ?_ (fun _ => ?_)
set_option maxHeartbeats 8000000 in
set_option maxRecDepth 100000 in
theorem purflinglaw15_WidthsSame.calls (k : Nat) (a0_0 : Int) (a0_1 : Int) (a0_2 : Int) (a0_3 : Int) (a1 : Int) (a2 : Int) (r : Bool) (w : World) (h : purflinglaw15_WidthsSame.f k a0_0 a0_1 a0_2 a0_3 a1 a2 = some r) :
    Calls Try.prog 6 #[.agg #[.int .i64 a0_0, .int .i64 a0_1, .int .i64 a0_2, .int .i64 a0_3], .int .i64 a1, .int .i64 a2] w fun e w' => e = .returned (.bool r) ∧ Below w.heap.size w w' := by
  have hu35 := Try.underlying35
  have HB := Aside0.mk (Below.refl w.heap.size w)
  have H : ((purflinglaw15_shown.f k).bind fun t430 => (if a1 < 1 then (purflinglaw15_WidthsSame.j0 k a1 a2 t430 true a0_0 a0_1 a0_2 a0_3) else (purflinglaw15_WidthsSame.j0 k a1 a2 t430 (decide (a1 > 60)) a0_0 a0_1 a0_2 a0_3))) = some r := h
  clear h
  replace H := Option.bind_eq_some_iff.mp H
  obtain ⟨t430, A40, H⟩ := H
  replace H : (if a1 < 1 then (purflinglaw15_WidthsSame.j0 k a1 a2 t430 true a0_0 a0_1 a0_2 a0_3) else (purflinglaw15_WidthsSame.j0 k a1 a2 t430 (decide (a1 > 60)) a0_0 a0_1 a0_2 a0_3)) = some r := H
  have A4 := Aside0.mk A40
  clear A40
  have HC5 := Aside0.mk H
  clear H
  go_enter Try.func6, Try.ntmps6
  go_upto_region 2 with (first | ((with_reducible refine gate_dst (N := 3) rfl ?_); (try (refine gate_guard (by rfl) ?_; dsimp only)); refine box_event ?hg (N := 3) ?hd (cs := #[.int .i64 a0_0, .int .i64 a0_1, .int .i64 a0_2, .int .i64 a0_3]) (t := 35) ?hr ?_; (case hd => rfl); (case hg => rfl); (case hr => first | (go_simp; done) | (go_simp; rfl)); intro gb429 hg w6 hbox hb; have n0_ := Aside0.mk (below_step (by repeat (first | (with_reducible first | exact HB.out | apply below_alloc | apply pw_below_drewN | apply below_drew1) | exact HB.out)) hb); have n1_ := Aside0.mk (hbox); have n2_ := Aside0.mk ((by rw [hg]; exact (below_size (by repeat (first | (with_reducible first | exact HB.out | apply below_alloc | apply pw_below_drewN | apply below_drew1) | exact HB.out))) : w.heap.size ≤ gb429)); have n3_ := Aside0.mk ((by rw [hg]; exact (below_size (by repeat (first | (with_reducible first | exact HB.out | apply below_alloc | apply pw_below_drewN | apply below_drew1) | exact HB.out))) : w.heap.size ≤ gb429)); clear HB; have HB := n0_; have BK429 := n1_; have GW429 := n2_; have GE429 := n3_; clear n0_ n1_ n2_ n3_; clear hb hbox hg) | (go_at_call 15; (with_reducible refine (purflinglaw15_shown.calls k  t430 _ A4.out).mono ?_); rintro e w7 ⟨rfl, hb⟩; have n0_ := Aside0.mk (blk_below (g := gb429) (o := .cells #[.int .i64 a0_0, .int .i64 a0_1, .int .i64 a0_2, .int .i64 a0_3] 35 (0, 0)) (by (with_reducible repeat (first | refine blk_drewN ?_ _ | refine blk_drew ?_ | refine blk_alloc ?_ _)); exact BK429.out) hb); have n1_ := Aside0.mk (below_step (by repeat (first | (with_reducible first | exact HB.out | apply below_alloc | apply pw_below_drewN | apply below_drew1 | refine below_set ?_ GE429.out) | exact HB.out)) hb); clear BK429; clear HB; have BK429 := n0_; have HB := n1_; clear n0_ n1_; (try clear hb); (try clear hb2); (try clear hk); (try clear hi)))
  repeat (go_quiet (first | ((with_reducible refine gate_dst (N := 3) rfl ?_); (try (refine gate_guard (by rfl) ?_; dsimp only)); refine box_event ?hg (N := 3) ?hd (cs := #[.int .i64 a0_0, .int .i64 a0_1, .int .i64 a0_2, .int .i64 a0_3]) (t := 35) ?hr ?_; (case hd => rfl); (case hg => rfl); (case hr => first | (go_simp; done) | (go_simp; rfl)); intro gb429 hg w6 hbox hb; have n0_ := Aside0.mk (below_step (by repeat (first | (with_reducible first | exact HB.out | apply below_alloc | apply pw_below_drewN | apply below_drew1) | exact HB.out)) hb); have n1_ := Aside0.mk (hbox); have n2_ := Aside0.mk ((by rw [hg]; exact (below_size (by repeat (first | (with_reducible first | exact HB.out | apply below_alloc | apply pw_below_drewN | apply below_drew1) | exact HB.out))) : w.heap.size ≤ gb429)); have n3_ := Aside0.mk ((by rw [hg]; exact (below_size (by repeat (first | (with_reducible first | exact HB.out | apply below_alloc | apply pw_below_drewN | apply below_drew1) | exact HB.out))) : w.heap.size ≤ gb429)); clear HB; have HB := n0_; have BK429 := n1_; have GW429 := n2_; have GE429 := n3_; clear n0_ n1_ n2_ n3_; clear hb hbox hg) | (go_at_call 15; (with_reducible refine (purflinglaw15_shown.calls k  t430 _ A4.out).mono ?_); rintro e w7 ⟨rfl, hb⟩; have n0_ := Aside0.mk (blk_below (g := gb429) (o := .cells #[.int .i64 a0_0, .int .i64 a0_1, .int .i64 a0_2, .int .i64 a0_3] 35 (0, 0)) (by (with_reducible repeat (first | refine blk_drewN ?_ _ | refine blk_drew ?_ | refine blk_alloc ?_ _)); exact BK429.out) hb); have n1_ := Aside0.mk (below_step (by repeat (first | (with_reducible first | exact HB.out | apply below_alloc | apply pw_below_drewN | apply below_drew1 | refine below_set ?_ GE429.out) | exact HB.out)) hb); clear BK429; clear HB; have BK429 := n0_; have HB := n1_; clear n0_ n1_; (try clear hb); (try clear hb2); (try clear hk); (try clear hi))); go_upto_region 2 with (first | ((with_reducible refine gate_dst (N := 3) rfl ?_); (try (refine gate_guard (by rfl) ?_; dsimp only)); refine box_event ?hg (N := 3) ?hd (cs := #[.int .i64 a0_0, .int .i64 a0_1, .int .i64 a0_2, .int .i64 a0_3]) (t := 35) ?hr ?_; (case hd => rfl); (case hg => rfl); (case hr => first | (go_simp; done) | (go_simp; rfl)); intro gb429 hg w6 hbox hb; have n0_ := Aside0.mk (below_step (by repeat (first | (with_reducible first | exact HB.out | apply below_alloc | apply pw_below_drewN | apply below_drew1) | exact HB.out)) hb); have n1_ := Aside0.mk (hbox); have n2_ := Aside0.mk ((by rw [hg]; exact (below_size (by repeat (first | (with_reducible first | exact HB.out | apply below_alloc | apply pw_below_drewN | apply below_drew1) | exact HB.out))) : w.heap.size ≤ gb429)); have n3_ := Aside0.mk ((by rw [hg]; exact (below_size (by repeat (first | (with_reducible first | exact HB.out | apply below_alloc | apply pw_below_drewN | apply below_drew1) | exact HB.out))) : w.heap.size ≤ gb429)); clear HB; have HB := n0_; have BK429 := n1_; have GW429 := n2_; have GE429 := n3_; clear n0_ n1_ n2_ n3_; clear hb hbox hg) | (go_at_call 15; (with_reducible refine (purflinglaw15_shown.calls k  t430 _ A4.out).mono ?_); rintro e w7 ⟨rfl, hb⟩; have n0_ := Aside0.mk (blk_below (g := gb429) (o := .cells #[.int .i64 a0_0, .int .i64 a0_1, .int .i64 a0_2, .int .i64 a0_3] 35 (0, 0)) (by (with_reducible repeat (first | refine blk_drewN ?_ _ | refine blk_drew ?_ | refine blk_alloc ?_ _)); exact BK429.out) hb); have n1_ := Aside0.mk (below_step (by repeat (first | (with_reducible first | exact HB.out | apply below_alloc | apply pw_below_drewN | apply below_drew1 | refine below_set ?_ GE429.out) | exact HB.out)) hb); clear BK429; clear HB; have BK429 := n0_; have HB := n1_; clear n0_ n1_; (try clear hb); (try clear hb2); (try clear hk); (try clear hi))))
  (try simp only [Act.put, List.setIfInBounds_toArray, List.set_cons_zero, List.set_cons_succ])
  go_cut [19] (fun v19 wc => ∃ (kq : Nat) (x19_4 : Bool), v19 = .bool x19_4 ∧ Aside0 (purflinglaw15_WidthsSame.j0 kq a1 a2 t430 x19_4 a0_0 a0_1 a0_2 a0_3 = some r) ∧ Aside0 (kq ≤ k) ∧ Aside0 (wc.heap[gb429]? = some (.cells #[.int .i64 a0_0, .int .i64 a0_1, .int .i64 a0_2, .int .i64 a0_3] 35 (0, 0))) ∧ Aside0 (Below w.heap.size w wc))
  case first =>
    have H := HC5.out
    clear HC5
    by_cases c8 : a1 < 1
    · rw [if_pos c8] at H
      have c8b0 : decide (a1 < 1) = true := decide_eq_true c8
      clear c8
      (first | rw [c8b0] | (simp only [i64_w, i32_w]; rw [c8b0]) | skip)
      have H' := Aside0.mk H
      clear H
      go_wp2
      repeat (go_quiet (fail); try go_wp2)
      go_meet
      case rel => exact ⟨_, (true), (by first | rfl | (simp; done) | (simp [*]; done)), H', ⟨by first | omega | exact Nat.le_refl _⟩, ⟨by (with_reducible repeat (first | refine blk_drewN ?_ _ | refine blk_drew ?_ | refine blk_alloc ?_ _)); exact BK429.out⟩, ⟨by repeat (first | (with_reducible first | exact HB.out | apply below_alloc | apply pw_below_drewN | apply below_drew1 | refine below_set ?_ GE429.out) | exact HB.out)⟩⟩
    · rw [if_neg c8] at H
      have c8b0 : decide (a1 < 1) = false := decide_eq_false c8
      clear c8
      (first | rw [c8b0] | (simp only [i64_w, i32_w]; rw [c8b0]) | skip)
      have H' := Aside0.mk H
      clear H
      go_wp2
      repeat (go_quiet (fail); try go_wp2)
      go_meet
      case rel => exact ⟨_, (decide (a1 > 60)), (by first | rfl | (simp; done) | (simp [*]; done)), H', ⟨by first | omega | exact Nat.le_refl _⟩, ⟨by (with_reducible repeat (first | refine blk_drewN ?_ _ | refine blk_drew ?_ | refine blk_alloc ?_ _)); exact BK429.out⟩, ⟨by repeat (first | (with_reducible first | exact HB.out | apply below_alloc | apply pw_below_drewN | apply below_drew1 | refine below_set ?_ GE429.out) | exact HB.out)⟩⟩
  case rest =>
    clear HC5
    try clear p2
    try clear c6
    try clear c8
    try clear c8b0
    obtain ⟨kq, x19_4, rfl, HA, HJ4, BK429, HB⟩ := hcut
    cases kq with
    | zero => exact absurd HA.out (by simp [purflinglaw15_WidthsSame.j0])
    | succ kj4 =>
      have H := HA.out
      clear HA
      simp only [purflinglaw15_WidthsSame.j0] at H
      by_cases c9 : x19_4 = true
      · subst c9
        have H1 : (some t430) = some r := by rw [if_pos rfl] at H; exact H
        clear H
        have H := H1
        clear H1
        obtain rfl := Option.some.inj H
        go_wp2
        repeat (go_quiet (fail); try go_wp2)
        go_ret
        exact ⟨by first | rfl | (simp [errW_none, errW_some] <;> rfl) | (simp [*, errW_none, errW_some] <;> rfl), by repeat (first | (with_reducible first | exact HB.out | apply below_alloc | apply pw_below_drewN | apply below_drew1 | refine below_set ?_ GE429.out) | exact HB.out)⟩
      · replace c9 := Bool.eq_false_iff.mpr c9
        subst c9
        have H1 : (if 0 ≤ a1 then (if (a1 : Int).toNat ≤ 8796093022208 then (purflinglaw15_WidthsSame.l0 kj4 a1 a2 t430 (List.replicate (a1 : Int).toNat z35) 0 a0_0 a0_1 a0_2 a0_3) else (none)) else (none)) = some r := by rw [if_neg (show ¬ (false = true) by decide)] at H; exact H
        clear H
        have H := H1
        clear H1
        by_cases c10 : 0 ≤ a1
        · rw [if_pos c10] at H
          have c10b0 := eq_true c10
          have c10b1 : decide (0 ≤ a1) = true := decide_eq_true c10
          clear c10
          by_cases c11 : (a1 : Int).toNat ≤ 8796093022208
          · rw [if_pos c11] at H
            have c11b0 := eq_true c11
            have c11b1 : decide ((a1 : Int).toNat ≤ 8796093022208) = true := decide_eq_true c11
            clear c11
            obtain ⟨y431, hy431⟩ : ∃ y_ : List (S35), y_ = (List.replicate (a1 : Int).toNat z35) := ⟨_, rfl⟩
            replace H : (purflinglaw15_WidthsSame.l0 kj4 a1 a2 t430 y431 0 a0_0 a0_1 a0_2 a0_3) = some r := by first | (rw [hy431]; with_reducible exact H) | (have H2_ := (Option.bind_some _ _).symm.trans H; rw [hy431]; with_reducible exact H2_) | (have H2_ := (Option.bind_some _ _).symm.trans H; with_reducible exact H2_) | with_reducible exact H | (rw [hy431]; exact H) | exact H
            have Ny431 := Aside0.mk hy431
            clear hy431
            have H' := Aside0.mk H
            clear H
            go_wp2_with (first | ((with_reducible refine gate_dst (N := 22) rfl ?_); (try (refine gate_guard (by rfl) ?_; dsimp only)); refine Kd.R_make k35 _ 35 rfl (N := 22) rfl 22 _ _ rfl a1 rfl rfl Try.underlying22 (.agg #[(.int .i64 0), (.int .i64 0), (.int .i64 0), (.int .i64 0)]) 32 info35 rfl (by decide) (by omega) z35 (ok := fun _ => True) (okp := fun _ => True) (k35_mkM _ _ _ z35 ) (fun _ hk => hk) trivial (of_decide_eq_true (by first | (with_reducible assumption) | assumption)) (Nat.le_trans (Nat.mul_le_mul_right _ (of_decide_eq_true (by first | (with_reducible assumption) | assumption) : a1.toNat ≤ 8796093022208)) (by omega)) (Below.refl _ _) (Nat.le_refl _) ?_; intro v432 w12 ho13 hb hg_ hnew_; clear hg_ hnew_; (first | rw [← Ny431.out] at ho13 | (simp only [Int.reduceToNat] at ho13; rw [← Ny431.out] at ho13)); have n0_ := Aside0.mk (Kd.R_lower (Kd.R_newB ho13 (g := gb429) (o := .cells #[.int .i64 a0_0, .int .i64 a0_1, .int .i64 a0_2, .int .i64 a0_3] 35 (0, 0)) (by (with_reducible repeat (first | refine blk_drewN ?_ _ | refine blk_drew ?_ | refine blk_alloc ?_ _)); exact BK429.out)) (below_size (by repeat (first | (with_reducible first | exact HB.out | apply below_alloc | apply pw_below_drewN | apply below_drew1 | refine below_set ?_ GE429.out) | exact HB.out)))); have n1_ := Aside0.mk (blk_below (g := gb429) (o := .cells #[.int .i64 a0_0, .int .i64 a0_1, .int .i64 a0_2, .int .i64 a0_3] 35 (0, 0)) (by (with_reducible repeat (first | refine blk_drewN ?_ _ | refine blk_drew ?_ | refine blk_alloc ?_ _)); exact BK429.out) hb); have n2_ := Aside0.mk (below_step (by repeat (first | (with_reducible first | exact HB.out | apply below_alloc | apply pw_below_drewN | apply below_drew1 | refine below_set ?_ GE429.out) | exact HB.out)) hb); clear BK429; clear HB; have HO433 := n0_; have BK429 := n1_; have HB := n2_; clear n0_ n1_ n2_; clear hb ho13))
            repeat (go_quiet (first | ((with_reducible refine gate_dst (N := 22) rfl ?_); (try (refine gate_guard (by rfl) ?_; dsimp only)); refine Kd.R_make k35 _ 35 rfl (N := 22) rfl 22 _ _ rfl a1 rfl rfl Try.underlying22 (.agg #[(.int .i64 0), (.int .i64 0), (.int .i64 0), (.int .i64 0)]) 32 info35 rfl (by decide) (by omega) z35 (ok := fun _ => True) (okp := fun _ => True) (k35_mkM _ _ _ z35 ) (fun _ hk => hk) trivial (of_decide_eq_true (by first | (with_reducible assumption) | assumption)) (Nat.le_trans (Nat.mul_le_mul_right _ (of_decide_eq_true (by first | (with_reducible assumption) | assumption) : a1.toNat ≤ 8796093022208)) (by omega)) (Below.refl _ _) (Nat.le_refl _) ?_; intro v432 w12 ho13 hb hg_ hnew_; clear hg_ hnew_; (first | rw [← Ny431.out] at ho13 | (simp only [Int.reduceToNat] at ho13; rw [← Ny431.out] at ho13)); have n0_ := Aside0.mk (Kd.R_lower (Kd.R_newB ho13 (g := gb429) (o := .cells #[.int .i64 a0_0, .int .i64 a0_1, .int .i64 a0_2, .int .i64 a0_3] 35 (0, 0)) (by (with_reducible repeat (first | refine blk_drewN ?_ _ | refine blk_drew ?_ | refine blk_alloc ?_ _)); exact BK429.out)) (below_size (by repeat (first | (with_reducible first | exact HB.out | apply below_alloc | apply pw_below_drewN | apply below_drew1 | refine below_set ?_ GE429.out) | exact HB.out)))); have n1_ := Aside0.mk (blk_below (g := gb429) (o := .cells #[.int .i64 a0_0, .int .i64 a0_1, .int .i64 a0_2, .int .i64 a0_3] 35 (0, 0)) (by (with_reducible repeat (first | refine blk_drewN ?_ _ | refine blk_drew ?_ | refine blk_alloc ?_ _)); exact BK429.out) hb); have n2_ := Aside0.mk (below_step (by repeat (first | (with_reducible first | exact HB.out | apply below_alloc | apply pw_below_drewN | apply below_drew1 | refine below_set ?_ GE429.out) | exact HB.out)) hb); clear BK429; clear HB; have HO433 := n0_; have BK429 := n1_; have HB := n2_; clear n0_ n1_ n2_; clear hb ho13)); try go_wp2_with (first | ((with_reducible refine gate_dst (N := 22) rfl ?_); (try (refine gate_guard (by rfl) ?_; dsimp only)); refine Kd.R_make k35 _ 35 rfl (N := 22) rfl 22 _ _ rfl a1 rfl rfl Try.underlying22 (.agg #[(.int .i64 0), (.int .i64 0), (.int .i64 0), (.int .i64 0)]) 32 info35 rfl (by decide) (by omega) z35 (ok := fun _ => True) (okp := fun _ => True) (k35_mkM _ _ _ z35 ) (fun _ hk => hk) trivial (of_decide_eq_true (by first | (with_reducible assumption) | assumption)) (Nat.le_trans (Nat.mul_le_mul_right _ (of_decide_eq_true (by first | (with_reducible assumption) | assumption) : a1.toNat ≤ 8796093022208)) (by omega)) (Below.refl _ _) (Nat.le_refl _) ?_; intro v432 w12 ho13 hb hg_ hnew_; clear hg_ hnew_; (first | rw [← Ny431.out] at ho13 | (simp only [Int.reduceToNat] at ho13; rw [← Ny431.out] at ho13)); have n0_ := Aside0.mk (Kd.R_lower (Kd.R_newB ho13 (g := gb429) (o := .cells #[.int .i64 a0_0, .int .i64 a0_1, .int .i64 a0_2, .int .i64 a0_3] 35 (0, 0)) (by (with_reducible repeat (first | refine blk_drewN ?_ _ | refine blk_drew ?_ | refine blk_alloc ?_ _)); exact BK429.out)) (below_size (by repeat (first | (with_reducible first | exact HB.out | apply below_alloc | apply pw_below_drewN | apply below_drew1 | refine below_set ?_ GE429.out) | exact HB.out)))); have n1_ := Aside0.mk (blk_below (g := gb429) (o := .cells #[.int .i64 a0_0, .int .i64 a0_1, .int .i64 a0_2, .int .i64 a0_3] 35 (0, 0)) (by (with_reducible repeat (first | refine blk_drewN ?_ _ | refine blk_drew ?_ | refine blk_alloc ?_ _)); exact BK429.out) hb); have n2_ := Aside0.mk (below_step (by repeat (first | (with_reducible first | exact HB.out | apply below_alloc | apply pw_below_drewN | apply below_drew1 | refine below_set ?_ GE429.out) | exact HB.out)) hb); clear BK429; clear HB; have HO433 := n0_; have BK429 := n1_; have HB := n2_; clear n0_ n1_ n2_; clear hb ho13)))
            go_loopg [9] kj4 (fun kq v9 w' => ∃ (x8_2 : List (S35)) (x9_2 : Int) (x430000_2 : Int) (x430001_2 : Int) (x430002_2 : Int) (x430003_2 : Int), v9 = .int .i64 x9_2 ∧ Aside0 (purflinglaw15_WidthsSame.l0 kq a1 a2 t430 x8_2 x9_2 x430000_2 x430001_2 x430002_2 x430003_2 = some r) ∧ Aside0 (kq ≤ kj4) ∧ Aside0 (Kd.R k35 35 w' w.heap.size (fun k_ => k_ ≠ gb429) v432 x8_2) ∧ Aside0 (w'.heap[gb429]? = some (.cells #[.int .i64 x430000_2, .int .i64 x430001_2, .int .i64 x430002_2, .int .i64 x430003_2] 35 (0, 0))) ∧ Aside0 (Below w.heap.size w w'))
            case atStart => exact ⟨(y431), (0), (a0_0), (a0_1), (a0_2), (a0_3), (by first | rfl | (simp; done) | (simp [*]; done)), H', ⟨Nat.le_refl _⟩, ⟨by (with_reducible repeat (first | apply Kd.R_alloc | apply Kd.R_drewN | apply Kd.R_drew)); exact Kd.R_mono HO433.out (fun _ hk => hk.2)⟩, ⟨by (with_reducible repeat (first | refine blk_drewN ?_ _ | refine blk_drew ?_ | refine blk_alloc ?_ _)); exact BK429.out⟩, ⟨by repeat (first | (with_reducible first | exact HB.out | apply below_alloc | apply pw_below_drewN | apply below_drew1 | refine below_set ?_ GE429.out) | exact HB.out)⟩⟩
            case round =>
              clear H'
              try clear c1
              try clear p2
              try clear c6
              try clear c8
              try clear c8b0
              try clear c9
              try clear c10
              try clear c10b0
              try clear c10b1
              try clear c11
              try clear c11b0
              try clear c11b1
              try clear p2
              obtain ⟨x8_2, x9_2, x430000_2, x430001_2, x430002_2, x430003_2, rfl, HA, HK2, HO_8, BK429, HB⟩ := hrel
              cases gk with
              | zero => exact absurd HA.out (by simp [purflinglaw15_WidthsSame.l0])
              | succ k2 =>
                have H := HA.out
                clear HA
                simp only [purflinglaw15_WidthsSame.l0] at H
                by_cases c14 : x9_2 < a1
                · rw [if_pos c14] at H
                  have c14b0 : decide (x9_2 < a1) = true := decide_eq_true c14
                  clear c14
                  by_cases c15 : 0 ≤ x9_2
                  · rw [if_pos c15] at H
                    have c15b0 : decide (0 ≤ x9_2) = true := decide_eq_true c15
                    clear c15
                    by_cases c16 : x9_2 < (x8_2.length : Int)
                    · rw [if_pos c16] at H
                      have c16b0 : decide (x9_2 < (x8_2.length : Int)) = true := decide_eq_true c16
                      clear c16
                      obtain ⟨y434, hy434⟩ : ∃ y_ : List (S35), y_ = (x8_2.set (x9_2 : Int).toNat (⟨x430000_2, x430001_2, x430002_2, x430003_2⟩ : S35)) := ⟨_, rfl⟩
                      replace H : (purflinglaw15_WidthsSame.l0 k2 a1 a2 t430 y434 (wrap64 (x9_2 + 1)) x430000_2 x430001_2 x430002_2 x430003_2) = some r := by first | (rw [hy434]; with_reducible exact H) | (have H2_ := (Option.bind_some _ _).symm.trans H; rw [hy434]; with_reducible exact H2_) | (have H2_ := (Option.bind_some _ _).symm.trans H; with_reducible exact H2_) | with_reducible exact H | (rw [hy434]; exact H) | exact H
                      have Ny434 := Aside0.mk hy434
                      clear hy434
                      have H' := Aside0.mk H
                      clear H
                      have hcz18_0 : wr.cell? ⟨gb429, 0, none⟩ = some (.int .i64 x430000_2) := (blk_cell BK429.out 0).trans rfl
                      have hcz18_1 : wr.cell? ⟨gb429, 1, none⟩ = some (.int .i64 x430001_2) := (blk_cell BK429.out 1).trans rfl
                      have hcz18_2 : wr.cell? ⟨gb429, 2, none⟩ = some (.int .i64 x430002_2) := (blk_cell BK429.out 2).trans rfl
                      have hcz18_3 : wr.cell? ⟨gb429, 3, none⟩ = some (.int .i64 x430003_2) := (blk_cell BK429.out 3).trans rfl
                      have hfz18_0 := blk_frozen BK429.out 0
                      have hfz18_1 := blk_frozen BK429.out 1
                      have hfz18_2 := blk_frozen BK429.out 2
                      have hfz18_3 := blk_frozen BK429.out 3
                      have p17 : 0 ≤ (x9_2 : Int) := of_decide_eq_true (by first | (with_reducible assumption) | assumption)
                      have q17 : (x9_2 : Int) < ((x8_2.length : Int) : Int) := of_decide_eq_true (by first | (with_reducible assumption) | assumption)
                      obtain ⟨go17, co17, eo17, gb17, gl17, cl17, HG17⟩ := Kd.R_form HO_8.out (by omega)
                      (first | cases eo17 | (injection eo17 with ea_ en_ ec_; (first | subst ea_ | (injection ea_ with ea_; subst ea_)); subst ec_; clear en_))
                      have GB17 := Aside0.mk gb17
                      have GG17 := Aside0.mk HG17
                      clear gb17 gl17 HG17
                      obtain ⟨ce17, hcl17, hM17, hcc17, hfr17⟩ := Kd.R_elem HO_8.out z35 (x9_2 : Int) p17 q17
                      obtain rfl := k35_openM hM17
                      have hx17_0 : wr.cell? ⟨go17, (x9_2 : Int).toNat * 4, none⟩ = some (.int .i64 ((rd_T35 x8_2 x9_2).f0)) := hcc17 0 _ rfl
                      have hx17_1 : wr.cell? ⟨go17, (x9_2 : Int).toNat * 4 + 1, none⟩ = some (.int .i64 ((rd_T35 x8_2 x9_2).f1)) := hcc17 1 _ rfl
                      have hx17_2 : wr.cell? ⟨go17, (x9_2 : Int).toNat * 4 + 2, none⟩ = some (.int .i64 ((rd_T35 x8_2 x9_2).f2)) := hcc17 2 _ rfl
                      have hx17_3 : wr.cell? ⟨go17, (x9_2 : Int).toNat * 4 + 3, none⟩ = some (.int .i64 ((rd_T35 x8_2 x9_2).f3)) := hcc17 3 _ rfl
                      have hf17_0 : wr.frozen? ⟨go17, (x9_2 : Int).toNat * 4, none⟩ = false := hfr17 0
                      have hf17_1 : wr.frozen? ⟨go17, (x9_2 : Int).toNat * 4 + 1, none⟩ = false := hfr17 1
                      have hf17_2 : wr.frozen? ⟨go17, (x9_2 : Int).toNat * 4 + 2, none⟩ = false := hfr17 2
                      have hf17_3 : wr.frozen? ⟨go17, (x9_2 : Int).toNat * 4 + 3, none⟩ = false := hfr17 3
                      clear hcl17 hcc17 hfr17 hM17
                      replace p17 := eq_true p17
                      replace q17 := eq_true q17
                      have HX19 := Aside0.mk (show Kd.R k35 35 wr w.heap.size (fun k_ => k_ ≠ gb429) (.slice (some ⟨go17, 0, none⟩) x8_2.length co17) x8_2 from (by (with_reducible repeat (first | apply Kd.R_alloc | apply Kd.R_drewN | apply Kd.R_drew)); exact HO_8.out))
                      obtain ⟨ce19, hcl19, hM19, hcc19, hfr19⟩ := Kd.R_elem HX19.out z35 (x9_2 : Int) (of_decide_eq_true (by first | (with_reducible assumption) | assumption)) (by have h_ : (x9_2 : Int) < ((x8_2.length : Int) : Int) := of_decide_eq_true (by first | (with_reducible assumption) | assumption); first | exact h_ | (have e_ := (Kd.R_reads' HO_8.out).1; omega) | simpa using h_)
                      obtain rfl := k35_openM hM19
                      have HP19 := Kd.R_seg HX19.out (x9_2 : Int) (of_decide_eq_true (by first | (with_reducible assumption) | assumption)) (by have h_ : (x9_2 : Int) < ((x8_2.length : Int) : Int) := of_decide_eq_true (by first | (with_reducible assumption) | assumption); first | exact h_ | (have e_ := (Kd.R_reads' HO_8.out).1; omega) | simpa using h_) (seg := [.int .i64 x430000_2, .int .i64 x430001_2, .int .i64 x430002_2, .int .i64 x430003_2]) (j := 0) hcl19 hcc19 (show 4 ≤ 4 from by decide) (x' := (⟨x430000_2, x430001_2, x430002_2, x430003_2⟩ : S35)) (k35_mkM _ _ _ (⟨x430000_2, x430001_2, x430002_2, x430003_2⟩ : S35) ) (fun _ hk => hk)
                      have hx19_0 := hcc19 0 _ rfl
                      (try simp only [show (k35).sz = 4 from rfl, Nat.mul_one, Nat.add_zero] at hx19_0)
                      have hf19_0 := hfr19 0
                      (try simp only [show (k35).sz = 4 from rfl, Nat.mul_one, Nat.add_zero] at hf19_0)
                      have hx19_1 := hcc19 1 _ rfl
                      (try simp only [show (k35).sz = 4 from rfl, Nat.mul_one, Nat.add_zero] at hx19_1)
                      have hf19_1 := hfr19 1
                      (try simp only [show (k35).sz = 4 from rfl, Nat.mul_one, Nat.add_zero] at hf19_1)
                      have hx19_2 := hcc19 2 _ rfl
                      (try simp only [show (k35).sz = 4 from rfl, Nat.mul_one, Nat.add_zero] at hx19_2)
                      have hf19_2 := hfr19 2
                      (try simp only [show (k35).sz = 4 from rfl, Nat.mul_one, Nat.add_zero] at hf19_2)
                      have hx19_3 := hcc19 3 _ rfl
                      (try simp only [show (k35).sz = 4 from rfl, Nat.mul_one, Nat.add_zero] at hx19_3)
                      have hf19_3 := hfr19 3
                      (try simp only [show (k35).sz = 4 from rfl, Nat.mul_one, Nat.add_zero] at hf19_3)
                      clear hcl19 hcc19 hfr19 hM19
                      go_wp2_with (first | ((with_reducible refine gate_store (t := 35) (p := 31) rfl ?_); (try (rw [drewN_self wr]; generalize hq_ : World.drewN wr _ = wr; have n0_ := Aside0.mk (Kd.R_at hq_ HO_8.out); have n1_ := Aside0.mk (blk_at hq_ BK429.out); have n2_ := Aside0.mk (below_at hq_ HB.out); clear hq_ HO_8 BK429 HB; have HO_8 := n0_; have BK429 := n1_; have HB := n2_; clear n0_ n1_ n2_; (try (have HX19 := Aside0.mk (show Kd.R k35 35 wr w.heap.size (fun k_ => k_ ≠ gb429) (.slice (some ⟨go17, 0, none⟩) x8_2.length co17) x8_2 from (by (with_reducible repeat (first | apply Kd.R_alloc | apply Kd.R_drewN | apply Kd.R_drew)); exact HO_8.out)))); (try (obtain ⟨ce19, hcl19, hM19, hcc19, hfr19⟩ := Kd.R_elem HX19.out z35 (x9_2 : Int) (of_decide_eq_true (by first | (with_reducible assumption) | assumption)) (by have h_ : (x9_2 : Int) < ((x8_2.length : Int) : Int) := of_decide_eq_true (by first | (with_reducible assumption) | assumption); first | exact h_ | (have e_ := (Kd.R_reads' HO_8.out).1; omega) | simpa using h_))); (try (obtain rfl := k35_openM hM19)); (try (have HP19 := Kd.R_seg HX19.out (x9_2 : Int) (of_decide_eq_true (by first | (with_reducible assumption) | assumption)) (by have h_ : (x9_2 : Int) < ((x8_2.length : Int) : Int) := of_decide_eq_true (by first | (with_reducible assumption) | assumption); first | exact h_ | (have e_ := (Kd.R_reads' HO_8.out).1; omega) | simpa using h_) (seg := [.int .i64 x430000_2, .int .i64 x430001_2, .int .i64 x430002_2, .int .i64 x430003_2]) (j := 0) hcl19 hcc19 (show 4 ≤ 4 from by decide) (x' := (⟨x430000_2, x430001_2, x430002_2, x430003_2⟩ : S35)) (k35_mkM _ _ _ (⟨x430000_2, x430001_2, x430002_2, x430003_2⟩ : S35) ) (fun _ hk => hk))); (try (have hx19_0 := hcc19 0 _ rfl)); (try (try simp only [show (k35).sz = 4 from rfl, Nat.mul_one, Nat.add_zero] at hx19_0)); (try (have hf19_0 := hfr19 0)); (try (try simp only [show (k35).sz = 4 from rfl, Nat.mul_one, Nat.add_zero] at hf19_0)); (try (have hx19_1 := hcc19 1 _ rfl)); (try (try simp only [show (k35).sz = 4 from rfl, Nat.mul_one, Nat.add_zero] at hx19_1)); (try (have hf19_1 := hfr19 1)); (try (try simp only [show (k35).sz = 4 from rfl, Nat.mul_one, Nat.add_zero] at hf19_1)); (try (have hx19_2 := hcc19 2 _ rfl)); (try (try simp only [show (k35).sz = 4 from rfl, Nat.mul_one, Nat.add_zero] at hx19_2)); (try (have hf19_2 := hfr19 2)); (try (try simp only [show (k35).sz = 4 from rfl, Nat.mul_one, Nat.add_zero] at hf19_2)); (try (have hx19_3 := hcc19 3 _ rfl)); (try (try simp only [show (k35).sz = 4 from rfl, Nat.mul_one, Nat.add_zero] at hx19_3)); (try (have hf19_3 := hfr19 3)); (try (try simp only [show (k35).sz = 4 from rfl, Nat.mul_one, Nat.add_zero] at hf19_3)); (try (clear hcl19 hcc19 hfr19 hM19)))); refine store_event (t := 35) (p := 31) (v := ?vo_w20) (w1 := ((((wr.setCell ⟨go17, (x9_2 : Int).toNat * 4, none⟩ (.int .i64 x430000_2)).setCell ⟨go17, (x9_2 : Int).toNat * 4 + 1, none⟩ (.int .i64 x430001_2)).setCell ⟨go17, (x9_2 : Int).toNat * 4 + 2, none⟩ (.int .i64 x430002_2)).setCell ⟨go17, (x9_2 : Int).toNat * 4 + 3, none⟩ (.int .i64 x430003_2))) ?hg ?ho ?hn ?hr ?_; (case ho => rfl); (case hg => rfl); (case hn => rfl); (case hr => first | (go_simp; done) | (go_simp; rfl)); intro w20 hw; have hg : wr.grownBy w20 (some go17) := (by rw [hw]; exact HP19.2); have hp_ : Kd.R k35 35 w20 w.heap.size (fun k_ => k_ ≠ gb429) (.slice (some ⟨go17, 0, none⟩) x8_2.length co17) y434 := (by rw [hw, Ny434.out]; exact HP19.1); clear HP19; have n0_ := Aside0.mk (hp_); have n1_ := Aside0.mk (blk_grown (g := gb429) (o := .cells #[.int .i64 x430000_2, .int .i64 x430001_2, .int .i64 x430002_2, .int .i64 x430003_2] 35 (0, 0)) (by (with_reducible repeat (first | refine blk_drewN ?_ _ | refine blk_drew ?_ | refine blk_alloc ?_ _)); exact BK429.out) hg (Kd.R_away HO_8.out (fun _ hk => hk))); have n2_ := Aside0.mk ((by rw [hw]; exact below_set (below_set (below_set (below_set (HB.out) GB17.out) GB17.out) GB17.out) GB17.out : Below w.heap.size w w20)); clear HO_8; clear BK429; clear HB; have HO_8 := n0_; have BK429 := n1_; have HB := n2_; clear n0_ n1_ n2_; clear hg hw hp_))
                      repeat (go_quiet (first | ((with_reducible refine gate_store (t := 35) (p := 31) rfl ?_); (try (rw [drewN_self wr]; generalize hq_ : World.drewN wr _ = wr; have n0_ := Aside0.mk (Kd.R_at hq_ HO_8.out); have n1_ := Aside0.mk (blk_at hq_ BK429.out); have n2_ := Aside0.mk (below_at hq_ HB.out); clear hq_ HO_8 BK429 HB; have HO_8 := n0_; have BK429 := n1_; have HB := n2_; clear n0_ n1_ n2_; (try (have HX19 := Aside0.mk (show Kd.R k35 35 wr w.heap.size (fun k_ => k_ ≠ gb429) (.slice (some ⟨go17, 0, none⟩) x8_2.length co17) x8_2 from (by (with_reducible repeat (first | apply Kd.R_alloc | apply Kd.R_drewN | apply Kd.R_drew)); exact HO_8.out)))); (try (obtain ⟨ce19, hcl19, hM19, hcc19, hfr19⟩ := Kd.R_elem HX19.out z35 (x9_2 : Int) (of_decide_eq_true (by first | (with_reducible assumption) | assumption)) (by have h_ : (x9_2 : Int) < ((x8_2.length : Int) : Int) := of_decide_eq_true (by first | (with_reducible assumption) | assumption); first | exact h_ | (have e_ := (Kd.R_reads' HO_8.out).1; omega) | simpa using h_))); (try (obtain rfl := k35_openM hM19)); (try (have HP19 := Kd.R_seg HX19.out (x9_2 : Int) (of_decide_eq_true (by first | (with_reducible assumption) | assumption)) (by have h_ : (x9_2 : Int) < ((x8_2.length : Int) : Int) := of_decide_eq_true (by first | (with_reducible assumption) | assumption); first | exact h_ | (have e_ := (Kd.R_reads' HO_8.out).1; omega) | simpa using h_) (seg := [.int .i64 x430000_2, .int .i64 x430001_2, .int .i64 x430002_2, .int .i64 x430003_2]) (j := 0) hcl19 hcc19 (show 4 ≤ 4 from by decide) (x' := (⟨x430000_2, x430001_2, x430002_2, x430003_2⟩ : S35)) (k35_mkM _ _ _ (⟨x430000_2, x430001_2, x430002_2, x430003_2⟩ : S35) ) (fun _ hk => hk))); (try (have hx19_0 := hcc19 0 _ rfl)); (try (try simp only [show (k35).sz = 4 from rfl, Nat.mul_one, Nat.add_zero] at hx19_0)); (try (have hf19_0 := hfr19 0)); (try (try simp only [show (k35).sz = 4 from rfl, Nat.mul_one, Nat.add_zero] at hf19_0)); (try (have hx19_1 := hcc19 1 _ rfl)); (try (try simp only [show (k35).sz = 4 from rfl, Nat.mul_one, Nat.add_zero] at hx19_1)); (try (have hf19_1 := hfr19 1)); (try (try simp only [show (k35).sz = 4 from rfl, Nat.mul_one, Nat.add_zero] at hf19_1)); (try (have hx19_2 := hcc19 2 _ rfl)); (try (try simp only [show (k35).sz = 4 from rfl, Nat.mul_one, Nat.add_zero] at hx19_2)); (try (have hf19_2 := hfr19 2)); (try (try simp only [show (k35).sz = 4 from rfl, Nat.mul_one, Nat.add_zero] at hf19_2)); (try (have hx19_3 := hcc19 3 _ rfl)); (try (try simp only [show (k35).sz = 4 from rfl, Nat.mul_one, Nat.add_zero] at hx19_3)); (try (have hf19_3 := hfr19 3)); (try (try simp only [show (k35).sz = 4 from rfl, Nat.mul_one, Nat.add_zero] at hf19_3)); (try (clear hcl19 hcc19 hfr19 hM19)))); refine store_event (t := 35) (p := 31) (v := ?vo_w20) (w1 := ((((wr.setCell ⟨go17, (x9_2 : Int).toNat * 4, none⟩ (.int .i64 x430000_2)).setCell ⟨go17, (x9_2 : Int).toNat * 4 + 1, none⟩ (.int .i64 x430001_2)).setCell ⟨go17, (x9_2 : Int).toNat * 4 + 2, none⟩ (.int .i64 x430002_2)).setCell ⟨go17, (x9_2 : Int).toNat * 4 + 3, none⟩ (.int .i64 x430003_2))) ?hg ?ho ?hn ?hr ?_; (case ho => rfl); (case hg => rfl); (case hn => rfl); (case hr => first | (go_simp; done) | (go_simp; rfl)); intro w20 hw; have hg : wr.grownBy w20 (some go17) := (by rw [hw]; exact HP19.2); have hp_ : Kd.R k35 35 w20 w.heap.size (fun k_ => k_ ≠ gb429) (.slice (some ⟨go17, 0, none⟩) x8_2.length co17) y434 := (by rw [hw, Ny434.out]; exact HP19.1); clear HP19; have n0_ := Aside0.mk (hp_); have n1_ := Aside0.mk (blk_grown (g := gb429) (o := .cells #[.int .i64 x430000_2, .int .i64 x430001_2, .int .i64 x430002_2, .int .i64 x430003_2] 35 (0, 0)) (by (with_reducible repeat (first | refine blk_drewN ?_ _ | refine blk_drew ?_ | refine blk_alloc ?_ _)); exact BK429.out) hg (Kd.R_away HO_8.out (fun _ hk => hk))); have n2_ := Aside0.mk ((by rw [hw]; exact below_set (below_set (below_set (below_set (HB.out) GB17.out) GB17.out) GB17.out) GB17.out : Below w.heap.size w w20)); clear HO_8; clear BK429; clear HB; have HO_8 := n0_; have BK429 := n1_; have HB := n2_; clear n0_ n1_ n2_; clear hg hw hp_)); try go_wp2_with (first | ((with_reducible refine gate_store (t := 35) (p := 31) rfl ?_); (try (rw [drewN_self wr]; generalize hq_ : World.drewN wr _ = wr; have n0_ := Aside0.mk (Kd.R_at hq_ HO_8.out); have n1_ := Aside0.mk (blk_at hq_ BK429.out); have n2_ := Aside0.mk (below_at hq_ HB.out); clear hq_ HO_8 BK429 HB; have HO_8 := n0_; have BK429 := n1_; have HB := n2_; clear n0_ n1_ n2_; (try (have HX19 := Aside0.mk (show Kd.R k35 35 wr w.heap.size (fun k_ => k_ ≠ gb429) (.slice (some ⟨go17, 0, none⟩) x8_2.length co17) x8_2 from (by (with_reducible repeat (first | apply Kd.R_alloc | apply Kd.R_drewN | apply Kd.R_drew)); exact HO_8.out)))); (try (obtain ⟨ce19, hcl19, hM19, hcc19, hfr19⟩ := Kd.R_elem HX19.out z35 (x9_2 : Int) (of_decide_eq_true (by first | (with_reducible assumption) | assumption)) (by have h_ : (x9_2 : Int) < ((x8_2.length : Int) : Int) := of_decide_eq_true (by first | (with_reducible assumption) | assumption); first | exact h_ | (have e_ := (Kd.R_reads' HO_8.out).1; omega) | simpa using h_))); (try (obtain rfl := k35_openM hM19)); (try (have HP19 := Kd.R_seg HX19.out (x9_2 : Int) (of_decide_eq_true (by first | (with_reducible assumption) | assumption)) (by have h_ : (x9_2 : Int) < ((x8_2.length : Int) : Int) := of_decide_eq_true (by first | (with_reducible assumption) | assumption); first | exact h_ | (have e_ := (Kd.R_reads' HO_8.out).1; omega) | simpa using h_) (seg := [.int .i64 x430000_2, .int .i64 x430001_2, .int .i64 x430002_2, .int .i64 x430003_2]) (j := 0) hcl19 hcc19 (show 4 ≤ 4 from by decide) (x' := (⟨x430000_2, x430001_2, x430002_2, x430003_2⟩ : S35)) (k35_mkM _ _ _ (⟨x430000_2, x430001_2, x430002_2, x430003_2⟩ : S35) ) (fun _ hk => hk))); (try (have hx19_0 := hcc19 0 _ rfl)); (try (try simp only [show (k35).sz = 4 from rfl, Nat.mul_one, Nat.add_zero] at hx19_0)); (try (have hf19_0 := hfr19 0)); (try (try simp only [show (k35).sz = 4 from rfl, Nat.mul_one, Nat.add_zero] at hf19_0)); (try (have hx19_1 := hcc19 1 _ rfl)); (try (try simp only [show (k35).sz = 4 from rfl, Nat.mul_one, Nat.add_zero] at hx19_1)); (try (have hf19_1 := hfr19 1)); (try (try simp only [show (k35).sz = 4 from rfl, Nat.mul_one, Nat.add_zero] at hf19_1)); (try (have hx19_2 := hcc19 2 _ rfl)); (try (try simp only [show (k35).sz = 4 from rfl, Nat.mul_one, Nat.add_zero] at hx19_2)); (try (have hf19_2 := hfr19 2)); (try (try simp only [show (k35).sz = 4 from rfl, Nat.mul_one, Nat.add_zero] at hf19_2)); (try (have hx19_3 := hcc19 3 _ rfl)); (try (try simp only [show (k35).sz = 4 from rfl, Nat.mul_one, Nat.add_zero] at hx19_3)); (try (have hf19_3 := hfr19 3)); (try (try simp only [show (k35).sz = 4 from rfl, Nat.mul_one, Nat.add_zero] at hf19_3)); (try (clear hcl19 hcc19 hfr19 hM19)))); refine store_event (t := 35) (p := 31) (v := ?vo_w20) (w1 := ((((wr.setCell ⟨go17, (x9_2 : Int).toNat * 4, none⟩ (.int .i64 x430000_2)).setCell ⟨go17, (x9_2 : Int).toNat * 4 + 1, none⟩ (.int .i64 x430001_2)).setCell ⟨go17, (x9_2 : Int).toNat * 4 + 2, none⟩ (.int .i64 x430002_2)).setCell ⟨go17, (x9_2 : Int).toNat * 4 + 3, none⟩ (.int .i64 x430003_2))) ?hg ?ho ?hn ?hr ?_; (case ho => rfl); (case hg => rfl); (case hn => rfl); (case hr => first | (go_simp; done) | (go_simp; rfl)); intro w20 hw; have hg : wr.grownBy w20 (some go17) := (by rw [hw]; exact HP19.2); have hp_ : Kd.R k35 35 w20 w.heap.size (fun k_ => k_ ≠ gb429) (.slice (some ⟨go17, 0, none⟩) x8_2.length co17) y434 := (by rw [hw, Ny434.out]; exact HP19.1); clear HP19; have n0_ := Aside0.mk (hp_); have n1_ := Aside0.mk (blk_grown (g := gb429) (o := .cells #[.int .i64 x430000_2, .int .i64 x430001_2, .int .i64 x430002_2, .int .i64 x430003_2] 35 (0, 0)) (by (with_reducible repeat (first | refine blk_drewN ?_ _ | refine blk_drew ?_ | refine blk_alloc ?_ _)); exact BK429.out) hg (Kd.R_away HO_8.out (fun _ hk => hk))); have n2_ := Aside0.mk ((by rw [hw]; exact below_set (below_set (below_set (below_set (HB.out) GB17.out) GB17.out) GB17.out) GB17.out : Below w.heap.size w w20)); clear HO_8; clear BK429; clear HB; have HO_8 := n0_; have BK429 := n1_; have HB := n2_; clear n0_ n1_ n2_; clear hg hw hp_)))
                      go_roundg k2
                      case measure => have := HJ4.out; have := HK2.out; omega
                      case rel => exact ⟨(y434), (wrap64 (x9_2 + 1)), (x430000_2), (x430001_2), (x430002_2), (x430003_2), (by first | rfl | (simp; done) | (simp [*]; done)), H', ⟨by have := HJ4.out; have := HK2.out; omega⟩, ⟨by (with_reducible repeat (first | apply Kd.R_alloc | apply Kd.R_drewN | apply Kd.R_drew)); exact HO_8.out⟩, ⟨by (with_reducible repeat (first | refine blk_drewN ?_ _ | refine blk_drew ?_ | refine blk_alloc ?_ _)); exact BK429.out⟩, ⟨by repeat (first | (with_reducible first | exact HB.out | apply below_alloc | apply pw_below_drewN | apply below_drew1 | refine below_set ?_ GE429.out) | exact HB.out)⟩⟩
                    · rw [if_neg c16] at H
                      exact absurd H (by simp)
                  · rw [if_neg c15] at H
                    exact absurd H (by simp)
                · rw [if_neg c14] at H
                  have c14b0 : decide (x9_2 < a1) = false := decide_eq_false c14
                  clear c14
                  replace H := Option.bind_eq_some_iff.mp H
                  obtain ⟨⟨t435, t436⟩, A210, H⟩ := H
                  replace H : (if t436 = 0 then (purflinglaw15_WidthsSame.j2 k2 a1 t430 t435 ((t435.length : Int) != a1)) else (purflinglaw15_WidthsSame.j2 k2 a1 t430 t435 true)) = some r := H
                  have A21 := Aside0.mk A210
                  clear A210
                  have HC22 := Aside0.mk H
                  clear H
                  obtain ⟨Ao23, co23, eo23⟩ := Kd.R_slice HO_8.out
                  subst eo23
                  go_upto_region 10 with (first | (go_at_call 16; (with_reducible refine (widths_Auto.calls k2 _ _ x8_2 a2 t435 t436 _ ?side1 ?side2 A21.out).mono ?_); (case side1 => repeat (first | exact (Kd.R_reads' HO_8.out).2.2 | (with_reducible refine Kd.C_alloc ?_ _) | (with_reducible refine Kd.C_drewN ?_ _) | (with_reducible refine Kd.C_drew ?_))); (case side2 => exact (Kd.R_reads' HO_8.out).2.1); rintro e w24 ⟨v437, rfl, ho0, hb⟩; have n0_ := Aside0.mk (Kd.R_below (by (with_reducible repeat (first | apply Kd.R_alloc | apply Kd.R_drewN | apply Kd.R_drew)); exact HO_8.out) hb); have n1_ := Aside0.mk (Kd.R_lower ho0 (below_size (by repeat (first | (with_reducible first | exact HB.out | apply below_alloc | apply pw_below_drewN | apply below_drew1 | refine below_set ?_ GE429.out) | exact HB.out)))); have n2_ := Aside0.mk (blk_below (g := gb429) (o := .cells #[.int .i64 x430000_2, .int .i64 x430001_2, .int .i64 x430002_2, .int .i64 x430003_2] 35 (0, 0)) (by (with_reducible repeat (first | refine blk_drewN ?_ _ | refine blk_drew ?_ | refine blk_alloc ?_ _)); exact BK429.out) hb); have n3_ := Aside0.mk (below_step (by repeat (first | (with_reducible first | exact HB.out | apply below_alloc | apply pw_below_drewN | apply below_drew1 | refine below_set ?_ GE429.out) | exact HB.out)) hb); clear HO_8; clear BK429; clear HB; have HO_8 := n0_; have HO438 := n1_; have BK429 := n2_; have HB := n3_; clear n0_ n1_ n2_ n3_; (try clear hb); (try clear hb2); (try clear hk); (try clear hi); (try clear ho0)))
                  repeat (go_quiet (first | (go_at_call 16; (with_reducible refine (widths_Auto.calls k2 _ _ x8_2 a2 t435 t436 _ ?side1 ?side2 A21.out).mono ?_); (case side1 => repeat (first | exact (Kd.R_reads' HO_8.out).2.2 | (with_reducible refine Kd.C_alloc ?_ _) | (with_reducible refine Kd.C_drewN ?_ _) | (with_reducible refine Kd.C_drew ?_))); (case side2 => exact (Kd.R_reads' HO_8.out).2.1); rintro e w24 ⟨v437, rfl, ho0, hb⟩; have n0_ := Aside0.mk (Kd.R_below (by (with_reducible repeat (first | apply Kd.R_alloc | apply Kd.R_drewN | apply Kd.R_drew)); exact HO_8.out) hb); have n1_ := Aside0.mk (Kd.R_lower ho0 (below_size (by repeat (first | (with_reducible first | exact HB.out | apply below_alloc | apply pw_below_drewN | apply below_drew1 | refine below_set ?_ GE429.out) | exact HB.out)))); have n2_ := Aside0.mk (blk_below (g := gb429) (o := .cells #[.int .i64 x430000_2, .int .i64 x430001_2, .int .i64 x430002_2, .int .i64 x430003_2] 35 (0, 0)) (by (with_reducible repeat (first | refine blk_drewN ?_ _ | refine blk_drew ?_ | refine blk_alloc ?_ _)); exact BK429.out) hb); have n3_ := Aside0.mk (below_step (by repeat (first | (with_reducible first | exact HB.out | apply below_alloc | apply pw_below_drewN | apply below_drew1 | refine below_set ?_ GE429.out) | exact HB.out)) hb); clear HO_8; clear BK429; clear HB; have HO_8 := n0_; have HO438 := n1_; have BK429 := n2_; have HB := n3_; clear n0_ n1_ n2_ n3_; (try clear hb); (try clear hb2); (try clear hk); (try clear hi); (try clear ho0))); go_upto_region 10 with (first | (go_at_call 16; (with_reducible refine (widths_Auto.calls k2 _ _ x8_2 a2 t435 t436 _ ?side1 ?side2 A21.out).mono ?_); (case side1 => repeat (first | exact (Kd.R_reads' HO_8.out).2.2 | (with_reducible refine Kd.C_alloc ?_ _) | (with_reducible refine Kd.C_drewN ?_ _) | (with_reducible refine Kd.C_drew ?_))); (case side2 => exact (Kd.R_reads' HO_8.out).2.1); rintro e w24 ⟨v437, rfl, ho0, hb⟩; have n0_ := Aside0.mk (Kd.R_below (by (with_reducible repeat (first | apply Kd.R_alloc | apply Kd.R_drewN | apply Kd.R_drew)); exact HO_8.out) hb); have n1_ := Aside0.mk (Kd.R_lower ho0 (below_size (by repeat (first | (with_reducible first | exact HB.out | apply below_alloc | apply pw_below_drewN | apply below_drew1 | refine below_set ?_ GE429.out) | exact HB.out)))); have n2_ := Aside0.mk (blk_below (g := gb429) (o := .cells #[.int .i64 x430000_2, .int .i64 x430001_2, .int .i64 x430002_2, .int .i64 x430003_2] 35 (0, 0)) (by (with_reducible repeat (first | refine blk_drewN ?_ _ | refine blk_drew ?_ | refine blk_alloc ?_ _)); exact BK429.out) hb); have n3_ := Aside0.mk (below_step (by repeat (first | (with_reducible first | exact HB.out | apply below_alloc | apply pw_below_drewN | apply below_drew1 | refine below_set ?_ GE429.out) | exact HB.out)) hb); clear HO_8; clear BK429; clear HB; have HO_8 := n0_; have HO438 := n1_; have BK429 := n2_; have HB := n3_; clear n0_ n1_ n2_ n3_; (try clear hb); (try clear hb2); (try clear hk); (try clear hi); (try clear ho0))))
                  (try simp only [Act.put, List.setIfInBounds_toArray, List.set_cons_zero, List.set_cons_succ])
                  go_cut [45] (fun v45 wc => ∃ (kq : Nat) (x45_21 : Bool), v45 = .bool x45_21 ∧ Aside0 (purflinglaw15_WidthsSame.j2 kq a1 t430 t435 x45_21 = some r) ∧ Aside0 (kq ≤ k2) ∧ Aside0 (Kd.R (Kd.int .i64) 2 wc w.heap.size (fun _ => True) v437 t435) ∧ Aside0 (wc.heap[gb429]? = some (.cells #[.int .i64 x430000_2, .int .i64 x430001_2, .int .i64 x430002_2, .int .i64 x430003_2] 35 (0, 0))) ∧ Aside0 (Below w.heap.size w wc))
                  case first =>
                    have H := HC22.out
                    clear HC22
                    by_cases c25 : t436 = 0
                    · rw [if_pos c25] at H
                      have c25b0 : (t436 == 0) = true := beq_iff_eq.mpr c25
                      have c25b1 : (t436 != 0) = false := bne_eq_false_iff_eq.mpr c25
                      clear c25
                      (first | rw [c25b0] | (simp only [i64_w, i32_w]; rw [c25b0]) | skip)
                      have H' := Aside0.mk H
                      clear H
                      obtain ⟨Ao26, co26, eo26⟩ := Kd.R_slice HO438.out
                      subst eo26
                      go_wp2
                      repeat (go_quiet (fail); try go_wp2)
                      go_meet
                      case rel => exact ⟨_, (((t435.length : Int) != a1)), (by first | rfl | (simp; done) | (simp [*]; done)), H', ⟨by have := HJ4.out; have := HK2.out; first | omega | exact Nat.le_refl _⟩, ⟨by (with_reducible repeat (first | apply Kd.R_alloc | apply Kd.R_drewN | apply Kd.R_drew)); exact HO438.out⟩, ⟨by (with_reducible repeat (first | refine blk_drewN ?_ _ | refine blk_drew ?_ | refine blk_alloc ?_ _)); exact BK429.out⟩, ⟨by repeat (first | (with_reducible first | exact HB.out | apply below_alloc | apply pw_below_drewN | apply below_drew1 | refine below_set ?_ GE429.out) | exact HB.out)⟩⟩
                    · rw [if_neg c25] at H
                      have c25b0 : (t436 == 0) = false := beq_eq_false_iff_ne.mpr c25
                      have c25b1 : (t436 != 0) = true := bne_iff_ne.mpr c25
                      (first | rw [c25b0] | (simp only [i64_w, i32_w]; rw [c25b0]) | skip)
                      have H' := Aside0.mk H
                      clear H
                      go_wp2
                      repeat (go_quiet (fail); try go_wp2)
                      go_meet
                      case rel => exact ⟨_, (true), (by first | rfl | (simp; done) | (simp [*]; done)), H', ⟨by have := HJ4.out; have := HK2.out; first | omega | exact Nat.le_refl _⟩, ⟨by (with_reducible repeat (first | apply Kd.R_alloc | apply Kd.R_drewN | apply Kd.R_drew)); exact HO438.out⟩, ⟨by (with_reducible repeat (first | refine blk_drewN ?_ _ | refine blk_drew ?_ | refine blk_alloc ?_ _)); exact BK429.out⟩, ⟨by repeat (first | (with_reducible first | exact HB.out | apply below_alloc | apply pw_below_drewN | apply below_drew1 | refine below_set ?_ GE429.out) | exact HB.out)⟩⟩
                  case rest =>
                    clear HC22
                    try clear c1
                    try clear p1
                    try clear q1
                    try clear hx1
                    try clear c2
                    try clear p2
                    try clear c6
                    try clear p6
                    try clear c8
                    try clear c8b0
                    try clear c9
                    try clear c10
                    try clear c10b0
                    try clear c10b1
                    try clear c11
                    try clear c11b0
                    try clear c11b1
                    try clear c14
                    try clear c14b0
                    try clear c15
                    try clear c15b0
                    try clear c16
                    try clear c16b0
                    try clear c17
                    try clear p17
                    try clear q17
                    try clear hx17
                    try clear hf17
                    try clear c19
                    try clear hx19
                    try clear hf19
                    try clear c25
                    try clear c25b0
                    try clear c25b1
                    try clear hcz18_0
                    try clear hcz18_1
                    try clear hcz18_2
                    try clear hcz18_3
                    try clear hfz18_0
                    try clear hfz18_1
                    try clear hfz18_2
                    try clear hfz18_3
                    try clear hx17_0
                    try clear hx17_1
                    try clear hx17_2
                    try clear hx17_3
                    try clear hx19_0
                    try clear hx19_1
                    try clear hx19_2
                    try clear hx19_3
                    try clear p17
                    try clear p2
                    try clear q17
                    obtain ⟨kq, x45_21, rfl, HA, HJ21, HO_10, BK429, HB⟩ := hcut
                    cases kq with
                    | zero => exact absurd HA.out (by simp [purflinglaw15_WidthsSame.j2])
                    | succ kj21 =>
                      have H := HA.out
                      clear HA
                      simp only [purflinglaw15_WidthsSame.j2] at H
                      by_cases c27 : x45_21 = true
                      · subst c27
                        have H1 : (if t430 = true then (some ((t435.length : Int) == 0)) else (some false)) = some r := by rw [if_pos rfl] at H; exact H
                        clear H
                        have H := H1
                        clear H1
                        by_cases c28 : t430 = true
                        · subst c28
                          have H1 : (some ((t435.length : Int) == 0)) = some r := by rw [if_pos rfl] at H; exact H
                          clear H
                          have H := H1
                          clear H1
                          obtain rfl := Option.some.inj H
                          obtain ⟨Ao29, co29, eo29⟩ := Kd.R_slice HO_10.out
                          subst eo29
                          go_wp2
                          repeat (go_quiet (fail); try go_wp2)
                          go_ret
                          exact ⟨by first | rfl | (simp [errW_none, errW_some] <;> rfl) | (simp [*, errW_none, errW_some] <;> rfl), by repeat (first | (with_reducible first | exact HB.out | apply below_alloc | apply pw_below_drewN | apply below_drew1 | refine below_set ?_ GE429.out) | exact HB.out)⟩
                        · replace c28 := Bool.eq_false_iff.mpr c28
                          subst c28
                          have H1 : (some false) = some r := by rw [if_neg (show ¬ (false = true) by decide)] at H; exact H
                          clear H
                          have H := H1
                          clear H1
                          obtain rfl := Option.some.inj H
                          go_wp2
                          repeat (go_quiet (fail); try go_wp2)
                          go_ret
                          exact ⟨by first | rfl | (simp [errW_none, errW_some] <;> rfl) | (simp [*, errW_none, errW_some] <;> rfl), by repeat (first | (with_reducible first | exact HB.out | apply below_alloc | apply pw_below_drewN | apply below_drew1 | refine below_set ?_ GE429.out) | exact HB.out)⟩
                      · replace c27 := Bool.eq_false_iff.mpr c27
                        subst c27
                        have H1 : (purflinglaw15_WidthsSame.l1 kj21 a1 t430 t435 1) = some r := by rw [if_neg (show ¬ (false = true) by decide)] at H; exact H
                        clear H
                        have H := H1
                        clear H1
                        have H' := Aside0.mk H
                        clear H
                        go_wp2
                        repeat (go_quiet (fail); try go_wp2)
                        go_loopg [12] kj21 (fun kq v12 w' => ∃ (x12_4 : Int), v12 = .int .i64 x12_4 ∧ Aside0 (purflinglaw15_WidthsSame.l1 kq a1 t430 t435 x12_4 = some r) ∧ Aside0 (kq ≤ kj21) ∧ Aside0 (Kd.R (Kd.int .i64) 2 w' w.heap.size (fun _ => True) v437 t435) ∧ Aside0 (w'.heap[gb429]? = some (.cells #[.int .i64 x430000_2, .int .i64 x430001_2, .int .i64 x430002_2, .int .i64 x430003_2] 35 (0, 0))) ∧ Aside0 (Below w.heap.size w w'))
                        case atStart => exact ⟨(1), (by first | rfl | (simp; done) | (simp [*]; done)), H', ⟨Nat.le_refl _⟩, ⟨by (with_reducible repeat (first | apply Kd.R_alloc | apply Kd.R_drewN | apply Kd.R_drew)); exact HO_10.out⟩, ⟨by (with_reducible repeat (first | refine blk_drewN ?_ _ | refine blk_drew ?_ | refine blk_alloc ?_ _)); exact BK429.out⟩, ⟨by repeat (first | (with_reducible first | exact HB.out | apply below_alloc | apply pw_below_drewN | apply below_drew1 | refine below_set ?_ GE429.out) | exact HB.out)⟩⟩
                        case round =>
                          clear H'
                          try clear c1
                          try clear p1
                          try clear q1
                          try clear hx1
                          try clear c2
                          try clear p2
                          try clear c6
                          try clear p6
                          try clear c8
                          try clear c8b0
                          try clear c9
                          try clear c10
                          try clear c10b0
                          try clear c10b1
                          try clear c11
                          try clear c11b0
                          try clear c11b1
                          try clear c14
                          try clear c14b0
                          try clear c15
                          try clear c15b0
                          try clear c16
                          try clear c16b0
                          try clear c17
                          try clear p17
                          try clear q17
                          try clear hx17
                          try clear hf17
                          try clear c19
                          try clear hx19
                          try clear hf19
                          try clear c25
                          try clear c25b0
                          try clear c25b1
                          try clear c27
                          try clear c28
                          try clear hcz18_0
                          try clear hcz18_1
                          try clear hcz18_2
                          try clear hcz18_3
                          try clear hfz18_0
                          try clear hfz18_1
                          try clear hfz18_2
                          try clear hfz18_3
                          try clear hx17_0
                          try clear hx17_1
                          try clear hx17_2
                          try clear hx17_3
                          try clear hx19_0
                          try clear hx19_1
                          try clear hx19_2
                          try clear hx19_3
                          try clear p1
                          try clear p17
                          try clear p2
                          try clear p6
                          try clear q1
                          try clear q17
                          obtain ⟨x12_4, rfl, HA, HK4, HO_10, BK429, HB⟩ := hrel
                          cases gk with
                          | zero => exact absurd HA.out (by simp [purflinglaw15_WidthsSame.l1])
                          | succ k4 =>
                            have H := HA.out
                            clear HA
                            simp only [purflinglaw15_WidthsSame.l1] at H
                            by_cases c30 : x12_4 < a1
                            · rw [if_pos c30] at H
                              have c30b0 : decide (x12_4 < a1) = true := decide_eq_true c30
                              clear c30
                              by_cases c31 : 0 ≤ x12_4
                              · rw [if_pos c31] at H
                                have c31b0 : decide (0 ≤ x12_4) = true := decide_eq_true c31
                                clear c31
                                by_cases c32 : x12_4 < (t435.length : Int)
                                · rw [if_pos c32] at H
                                  have c32b0 : decide (x12_4 < (t435.length : Int)) = true := decide_eq_true c32
                                  clear c32
                                  obtain ⟨ji33, hji33⟩ : ∃ j_ : Int, (wrap64 (x12_4 - 1)) = j_ := ⟨_, rfl⟩
                                  replace H : (if 0 ≤ (ji33) then (if (ji33) < (t435.length : Int) then (if (rd t435 x12_4) > (rd t435 (ji33)) then (some false) else (if 0 < (t435.length : Int) then (if (rd t435 x12_4) < (wrap64 ((rd t435 0) - 1)) then (some false) else (purflinglaw15_WidthsSame.l1 k4 a1 t430 t435 (wrap64 (x12_4 + 1)))) else (none))) else (none)) else (none)) = some r := by first | (rw [hji33] at H; exact H) | (simp only [hji33] at H ⊢; exact H)
                                  have hji33w : (IntKind.i64.wrap (x12_4 - 1)) = ji33 := (i64_w _).trans hji33
                                  by_cases c34 : 0 ≤ (ji33)
                                  · rw [if_pos c34] at H
                                    have c34b0 : decide (0 ≤ (ji33)) = true := decide_eq_true c34
                                    clear c34
                                    by_cases c35 : (ji33) < (t435.length : Int)
                                    · rw [if_pos c35] at H
                                      have c35b0 : decide ((ji33) < (t435.length : Int)) = true := decide_eq_true c35
                                      clear c35
                                      by_cases c36 : (rd t435 x12_4) > (rd t435 (ji33))
                                      · rw [if_pos c36] at H
                                        have c36b0 : decide ((rd t435 (ji33)) < (rd t435 x12_4)) = true := decide_eq_true c36
                                        clear c36
                                        obtain rfl := Option.some.inj H
                                        obtain ⟨Ao37, co37, eo37⟩ := Kd.R_slice HO_10.out
                                        subst eo37
                                        have p439 : 0 ≤ (x12_4 : Int) := of_decide_eq_true (by first | (with_reducible assumption) | assumption)
                                        have q439 : x12_4 < (t435.length : Int) := of_decide_eq_true (by first | (with_reducible assumption) | assumption)
                                        obtain ⟨ad439, e439, hx439_0⟩ := Kd.at_int (Kd.R_reads' HO_10.out).2.2 x12_4 p439 q439
                                        cases e439
                                        replace p439 := eq_true p439
                                        replace q439 := eq_true q439
                                        have p440 : 0 ≤ ((ji33) : Int) := of_decide_eq_true (by first | (with_reducible assumption) | assumption)
                                        have q440 : (ji33) < (t435.length : Int) := of_decide_eq_true (by first | (with_reducible assumption) | assumption)
                                        obtain ⟨ad440, e440, hx440_0⟩ := Kd.at_int (Kd.R_reads' HO_10.out).2.2 (ji33) p440 q440
                                        obtain rfl : ad439 = ad440 := (by injection e440)
                                        replace p440 := eq_true p440
                                        replace q440 := eq_true q440
                                        go_wp2
                                        repeat (go_quiet (fail); try go_wp2)
                                        go_ret
                                        exact ⟨by first | rfl | (simp [errW_none, errW_some] <;> rfl) | (simp only [← hji33]; first | rfl | (simp [errW_none, errW_some] <;> rfl)) | (simp [*, errW_none, errW_some] <;> rfl), by repeat (first | (with_reducible first | exact HB.out | apply below_alloc | apply pw_below_drewN | apply below_drew1 | refine below_set ?_ GE429.out) | exact HB.out)⟩
                                      · rw [if_neg c36] at H
                                        have c36b0 : decide ((rd t435 (ji33)) < (rd t435 x12_4)) = false := decide_eq_false c36
                                        clear c36
                                        by_cases c38 : 0 < (t435.length : Int)
                                        · rw [if_pos c38] at H
                                          have c38b0 : decide (0 < (t435.length : Int)) = true := decide_eq_true c38
                                          have c38b1 : decide (0 < t435.length) = true := decide_eq_true (by omega)
                                          clear c38
                                          by_cases c39 : (rd t435 x12_4) < (wrap64 ((rd t435 0) - 1))
                                          · rw [if_pos c39] at H
                                            have c39b0 : decide ((rd t435 x12_4) < (wrap64 ((rd t435 0) - 1))) = true := decide_eq_true c39
                                            clear c39
                                            obtain rfl := Option.some.inj H
                                            obtain ⟨Ao40, co40, eo40⟩ := Kd.R_slice HO_10.out
                                            subst eo40
                                            have p439 : 0 ≤ (x12_4 : Int) := of_decide_eq_true (by first | (with_reducible assumption) | assumption)
                                            have q439 : x12_4 < (t435.length : Int) := of_decide_eq_true (by first | (with_reducible assumption) | assumption)
                                            obtain ⟨ad439, e439, hx439_0⟩ := Kd.at_int (Kd.R_reads' HO_10.out).2.2 x12_4 p439 q439
                                            cases e439
                                            replace p439 := eq_true p439
                                            replace q439 := eq_true q439
                                            have p440 : 0 ≤ ((ji33) : Int) := of_decide_eq_true (by first | (with_reducible assumption) | assumption)
                                            have q440 : (ji33) < (t435.length : Int) := of_decide_eq_true (by first | (with_reducible assumption) | assumption)
                                            obtain ⟨ad440, e440, hx440_0⟩ := Kd.at_int (Kd.R_reads' HO_10.out).2.2 (ji33) p440 q440
                                            obtain rfl : ad439 = ad440 := (by injection e440)
                                            replace p440 := eq_true p440
                                            replace q440 := eq_true q440
                                            have p441 : 0 ≤ (x12_4 : Int) := of_decide_eq_true (by first | (with_reducible assumption) | assumption)
                                            have q441 : x12_4 < (t435.length : Int) := of_decide_eq_true (by first | (with_reducible assumption) | assumption)
                                            obtain ⟨ad441, e441, hx441_0⟩ := Kd.at_int (Kd.R_reads' HO_10.out).2.2 x12_4 p441 q441
                                            obtain rfl : ad439 = ad441 := (by injection e441)
                                            replace p441 := eq_true p441
                                            replace q441 := eq_true q441
                                            have p442 : 0 ≤ (0 : Int) := (by omega)
                                            have q442 : 0 < (t435.length : Int) := of_decide_eq_true (by first | (with_reducible assumption) | assumption)
                                            obtain ⟨ad442, e442, hx442_0⟩ := Kd.at_int (Kd.R_reads' HO_10.out).2.2 0 p442 q442
                                            obtain rfl : ad439 = ad442 := (by injection e442)
                                            have qi442 : (0 < t435.length) = True := eq_true (by omega)
                                            (try rw [show ((0 : Int)).toNat = 0 from rfl] at hx442_0)
                                            (try rw [Addr.add_zero'] at hx442_0)
                                            replace p442 := eq_true p442
                                            replace q442 := eq_true q442
                                            go_wp2
                                            repeat (go_quiet (fail); try go_wp2)
                                            go_ret
                                            exact ⟨by first | rfl | (simp [errW_none, errW_some] <;> rfl) | (simp only [← hji33]; first | rfl | (simp [errW_none, errW_some] <;> rfl)) | (simp [*, errW_none, errW_some] <;> rfl), by repeat (first | (with_reducible first | exact HB.out | apply below_alloc | apply pw_below_drewN | apply below_drew1 | refine below_set ?_ GE429.out) | exact HB.out)⟩
                                          · rw [if_neg c39] at H
                                            have c39b0 : decide ((rd t435 x12_4) < (wrap64 ((rd t435 0) - 1))) = false := decide_eq_false c39
                                            clear c39
                                            have H' := Aside0.mk H
                                            clear H
                                            obtain ⟨Ao41, co41, eo41⟩ := Kd.R_slice HO_10.out
                                            subst eo41
                                            have p439 : 0 ≤ (x12_4 : Int) := of_decide_eq_true (by first | (with_reducible assumption) | assumption)
                                            have q439 : x12_4 < (t435.length : Int) := of_decide_eq_true (by first | (with_reducible assumption) | assumption)
                                            obtain ⟨ad439, e439, hx439_0⟩ := Kd.at_int (Kd.R_reads' HO_10.out).2.2 x12_4 p439 q439
                                            cases e439
                                            replace p439 := eq_true p439
                                            replace q439 := eq_true q439
                                            have p440 : 0 ≤ ((ji33) : Int) := of_decide_eq_true (by first | (with_reducible assumption) | assumption)
                                            have q440 : (ji33) < (t435.length : Int) := of_decide_eq_true (by first | (with_reducible assumption) | assumption)
                                            obtain ⟨ad440, e440, hx440_0⟩ := Kd.at_int (Kd.R_reads' HO_10.out).2.2 (ji33) p440 q440
                                            obtain rfl : ad439 = ad440 := (by injection e440)
                                            replace p440 := eq_true p440
                                            replace q440 := eq_true q440
                                            have p441 : 0 ≤ (x12_4 : Int) := of_decide_eq_true (by first | (with_reducible assumption) | assumption)
                                            have q441 : x12_4 < (t435.length : Int) := of_decide_eq_true (by first | (with_reducible assumption) | assumption)
                                            obtain ⟨ad441, e441, hx441_0⟩ := Kd.at_int (Kd.R_reads' HO_10.out).2.2 x12_4 p441 q441
                                            obtain rfl : ad439 = ad441 := (by injection e441)
                                            replace p441 := eq_true p441
                                            replace q441 := eq_true q441
                                            have p442 : 0 ≤ (0 : Int) := (by omega)
                                            have q442 : 0 < (t435.length : Int) := of_decide_eq_true (by first | (with_reducible assumption) | assumption)
                                            obtain ⟨ad442, e442, hx442_0⟩ := Kd.at_int (Kd.R_reads' HO_10.out).2.2 0 p442 q442
                                            obtain rfl : ad439 = ad442 := (by injection e442)
                                            have qi442 : (0 < t435.length) = True := eq_true (by omega)
                                            (try rw [show ((0 : Int)).toNat = 0 from rfl] at hx442_0)
                                            (try rw [Addr.add_zero'] at hx442_0)
                                            replace p442 := eq_true p442
                                            replace q442 := eq_true q442
                                            go_wp2
                                            repeat (go_quiet (fail); try go_wp2)
                                            go_roundg k4
                                            case measure => have := HJ4.out; have := HK2.out; have := HJ21.out; have := HK4.out; omega
                                            case rel => exact ⟨(wrap64 (x12_4 + 1)), (by first | rfl | (simp; done) | (simp [*]; done)), H', ⟨by have := HJ4.out; have := HK2.out; have := HJ21.out; have := HK4.out; omega⟩, ⟨by (with_reducible repeat (first | apply Kd.R_alloc | apply Kd.R_drewN | apply Kd.R_drew)); exact HO_10.out⟩, ⟨by (with_reducible repeat (first | refine blk_drewN ?_ _ | refine blk_drew ?_ | refine blk_alloc ?_ _)); exact BK429.out⟩, ⟨by repeat (first | (with_reducible first | exact HB.out | apply below_alloc | apply pw_below_drewN | apply below_drew1 | refine below_set ?_ GE429.out) | exact HB.out)⟩⟩
                                        · rw [if_neg c38] at H
                                          exact absurd H (by simp)
                                    · rw [if_neg c35] at H
                                      exact absurd H (by simp)
                                  · rw [if_neg c34] at H
                                    exact absurd H (by simp)
                                · rw [if_neg c32] at H
                                  exact absurd H (by simp)
                              · rw [if_neg c31] at H
                                exact absurd H (by simp)
                            · rw [if_neg c30] at H
                              have c30b0 : decide (x12_4 < a1) = false := decide_eq_false c30
                              clear c30
                              obtain rfl := Option.some.inj H
                              go_wp2
                              repeat (go_quiet (fail); try go_wp2)
                              go_ret
                              exact ⟨by first | rfl | (simp [errW_none, errW_some] <;> rfl) | (simp [*, errW_none, errW_some] <;> rfl), by repeat (first | (with_reducible first | exact HB.out | apply below_alloc | apply pw_below_drewN | apply below_drew1 | refine below_set ?_ GE429.out) | exact HB.out)⟩
          · rw [if_neg c11] at H
            exact absurd H (by simp)
        · rw [if_neg c10] at H
          exact absurd H (by simp)

end Go.Proofs.Ytilfgmclhoidiaa.PA
