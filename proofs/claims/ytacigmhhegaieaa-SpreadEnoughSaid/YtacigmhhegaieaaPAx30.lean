-- MADE by wip/tools/xprint.py of this repo: the kit's print.py, turned by this session, and texts by hand
import Derived.Test.YtacigmhhegaieaaPAx0
import Derived.Test.YtacigmhhegaieaaPAx9
import Derived.Test.YtacigmhhegaieaaPAx10
import Derived.Test.YtacigmhhegaieaaPAx12
import Derived.Test.YtacigmhhegaieaaPAx20
namespace Go.Proofs.Ytacigmhhegaieaa.PA
open Go.RowKit Go.Proofs.YtacigmhhegaieaaW.PrintWords Go.Proofs.YtacigmhhegaieaaW.PrintLast Go.Proofs.YtacigmhhegaieaaW.PrintMore
attribute [local go_sem] max2_int min2_int max_two min_two max_three min_three max_four min_four   -- for this text's walks alone
set_option linter.unusedVariables false
set_option linter.unusedSimpArgs false

/-! ### purflinglaw14_SpreadEnough: function 4 -/
mutual
def purflinglaw14_SpreadEnough.l0 : Nat → List (S37) → Int → Bool → List (S39) → Int → Option (Bool)
 | 0, _, _, _, _, _ => none
 | k + 1, x1, x2, x7, x8, x10 => if x10 < (x1.length : Int) then (if 0 ≤ x10 then (if ((rd_T37 x1 x10).f0.f4) < 2 then (purflinglaw14_SpreadEnough.l0 k x1 x2 x7 x8 (wrap64 (x10 + 1))) else (purflinglaw14_SpreadEnough.l1 k x1 x2 x7 x8 x10 (wrap64 (x2 * (wrap64 (((rd_T37 x1 x10).f0.f4) - 1)))) (wrap64 (x2 * (wrap64 (((rd_T37 x1 x10).f0.f4) - 1)))) ((rd_T37 x1 x10).f0.f2) ((rd_T37 x1 x10).f0.f0) ((rd_T37 x1 x10).f0.f1) ((rd_T37 x1 x10).f0.f2) ((rd_T37 x1 x10).f0.f3) ((rd_T37 x1 x10).f0.f4))) else (none)) else (if x7 = true then ((columns_RightBands.f x8).bind fun t310 => (some t310)) else (some false))
def purflinglaw14_SpreadEnough.l1 : Nat → List (S37) → Int → Bool → List (S39) → Int → Int → Int → Int → Int → Int → Int → Int → Int → Option (Bool)
 | 0, _, _, _, _, _, _, _, _, _, _, _, _, _ => none
 | k + 1, x1, x2, x7, x8, x10, x12, x13, x14, x313000, x313001, x313002, x313003, x313004 => if x14 < (wrap64 (x313002 + x313004)) then (if 0 ≤ x14 then (if x14 < (x8.length : Int) then (purflinglaw14_SpreadEnough.l1 k x1 x2 x7 x8 x10 (wrap64 (x12 + ((rd_T39 x8 x14).f0))) (wrap64 (x13 + ((rd_T39 x8 x14).f1))) (wrap64 (x14 + 1)) x313000 x313001 x313002 x313003 x313004) else (none)) else (none)) else (if 0 ≤ x10 then (if x10 < (x1.length : Int) then (if x12 < ((rd_T37 x1 x10).f1) then (some false) else (if x13 < ((rd_T37 x1 x10).f2) then (some false) else (purflinglaw14_SpreadEnough.l0 k x1 x2 x7 x8 (wrap64 (x10 + 1))))) else (none)) else (none))
end
def purflinglaw14_SpreadEnough.f (k : Nat) (l0 : List (S39)) (l1 : List (S37)) (a2 : Int) : Option (Bool) := (purflinglaw14_shown.f k).bind fun t299 => ((purflinglaw14_cut.f l0 l1).bind fun bt300 => ((spread_Needs.f bt300.1 bt300.2 a2).bind fun bt306 => (if bt306.2 = 0 then (if (bt306.1.length : Int) = (bt300.1.length : Int) then (purflinglaw14_SpreadEnough.l0 k bt300.2 a2 t299 bt306.1 0) else (some false)) else (some t299))))
theorem purflinglaw14_SpreadEnough.mono_l : ∀ k, (∀ y0 y1 y2 y3 y4, LeO (purflinglaw14_SpreadEnough.l0 k y0 y1 y2 y3 y4) (purflinglaw14_SpreadEnough.l0 (k + 1) y0 y1 y2 y3 y4)) ∧ (∀ y0 y1 y2 y3 y4 y5 y6 y7 y8 y9 y10 y11 y12, LeO (purflinglaw14_SpreadEnough.l1 k y0 y1 y2 y3 y4 y5 y6 y7 y8 y9 y10 y11 y12) (purflinglaw14_SpreadEnough.l1 (k + 1) y0 y1 y2 y3 y4 y5 y6 y7 y8 y9 y10 y11 y12))
 | 0 => ⟨fun _ _ _ _ _ r h => by simp [purflinglaw14_SpreadEnough.l0] at h, fun _ _ _ _ _ _ _ _ _ _ _ _ _ r h => by simp [purflinglaw14_SpreadEnough.l1] at h⟩
 | k + 1 => by
  obtain ⟨ih0, ih1⟩ := purflinglaw14_SpreadEnough.mono_l k
  refine ⟨?_, ?_⟩
  ·intro y0 y1 y2 y3 y4
   unfold purflinglaw14_SpreadEnough.l0
   repeat' first
   | (with_reducible exact ih0 _ _ _ _ _)
   | (with_reducible exact ih1 _ _ _ _ _ _ _ _ _ _ _ _ _)
   | (with_reducible exact purflinglaw14_shown.mono _)
   | (with_reducible exact LeO.refl _)
   | (with_reducible exact LeO.none _)
   | (with_reducible refine LeO.ite ?_ ?_)
   | (with_reducible refine LeO.bind ?_ (fun _ => ?_))
   | exact ih0 _ _ _ _ _
   | exact ih1 _ _ _ _ _ _ _ _ _ _ _ _ _
   | exact purflinglaw14_shown.mono _
   | exact LeO.none _
   | refine LeO.ite ?_ ?_
   | refine LeO.bind ?_ (fun _ => ?_)
  ·intro y0 y1 y2 y3 y4 y5 y6 y7 y8 y9 y10 y11 y12
   unfold purflinglaw14_SpreadEnough.l1
   repeat' first
   | (with_reducible exact ih0 _ _ _ _ _)
   | (with_reducible exact ih1 _ _ _ _ _ _ _ _ _ _ _ _ _)
   | (with_reducible exact purflinglaw14_shown.mono _)
   | (with_reducible exact LeO.refl _)
   | (with_reducible exact LeO.none _)
   | (with_reducible refine LeO.ite ?_ ?_)
   | (with_reducible refine LeO.bind ?_ (fun _ => ?_))
   | exact ih0 _ _ _ _ _
   | exact ih1 _ _ _ _ _ _ _ _ _ _ _ _ _
   | exact purflinglaw14_shown.mono _
   | exact LeO.none _
   | refine LeO.ite ?_ ?_
   | refine LeO.bind ?_ (fun _ => ?_)
theorem purflinglaw14_SpreadEnough.mono : ∀ a0 a1 a2 k, LeO (purflinglaw14_SpreadEnough.f k a0 a1 a2) (purflinglaw14_SpreadEnough.f (k + 1) a0 a1 a2) := by
 intro a0 a1 a2 k
 obtain ⟨ih0, ih1⟩ := purflinglaw14_SpreadEnough.mono_l k
 unfold purflinglaw14_SpreadEnough.f
 repeat' first
   | (with_reducible exact ih0 _ _ _ _ _)
   | (with_reducible exact ih1 _ _ _ _ _ _ _ _ _ _ _ _ _)
   | (with_reducible exact purflinglaw14_shown.mono _)
   | (with_reducible exact LeO.refl _)
   | (with_reducible exact LeO.none _)
   | (with_reducible refine LeO.ite ?_ ?_)
   | (with_reducible refine LeO.bind ?_ (fun _ => ?_))
   | exact ih0 _ _ _ _ _
   | exact ih1 _ _ _ _ _ _ _ _ _ _ _ _ _
   | exact purflinglaw14_shown.mono _
   | exact LeO.none _
   | refine LeO.ite ?_ ?_
   | refine LeO.bind ?_ (fun _ => ?_)
set_option maxHeartbeats 8000000 in
set_option maxRecDepth 100000 in
theorem purflinglaw14_SpreadEnough.calls (k : Nat) (A0 : Option Addr) (c0 : Nat) (l0 : List (S39)) (A1 : Option Addr) (c1 : Nat) (l1 : List (S37)) (a2 : Int) (r : Bool) (w : World) (hr0 : Kd.C k39 w A0 l0.length l0) (hc0 : l0.length ≤ c0) (hr1 : Kd.C k37 w A1 l1.length l1) (hc1 : l1.length ≤ c1) (h : purflinglaw14_SpreadEnough.f k l0 l1 a2 = some r) :
  Calls Try.prog 4 #[.slice A0 l0.length c0, .slice A1 l1.length c1, .int .i64 a2] w fun e w' => e = .returned (.bool r) ∧ Below w.heap.size w w' := by
 have hu33 := Try.underlying33
 have HR0 := Aside0.mk hr0
 have HC0 := Aside0.mk hc0
 clear hr0 hc0
 have HR1 := Aside0.mk hr1
 have HC1 := Aside0.mk hc1
 clear hr1 hc1
 have HB := Aside0.mk (Below.refl w.heap.size w)
 have H : ((purflinglaw14_shown.f k).bind fun t299 => ((purflinglaw14_cut.f l0 l1).bind fun bt300 => ((spread_Needs.f bt300.1 bt300.2 a2).bind fun bt306 => (if bt306.2 = 0 then (if (bt306.1.length : Int) = (bt300.1.length : Int) then (purflinglaw14_SpreadEnough.l0 k bt300.2 a2 t299 bt306.1 0) else (some false)) else (some t299))))) = some r := h
 clear h
 replace H := Option.bind_eq_some_iff.mp H
 obtain ⟨t299, A40, H⟩ := H
 replace H : ((purflinglaw14_cut.f l0 l1).bind fun bt300 => ((spread_Needs.f bt300.1 bt300.2 a2).bind fun bt306 => (if bt306.2 = 0 then (if (bt306.1.length : Int) = (bt300.1.length : Int) then (purflinglaw14_SpreadEnough.l0 k bt300.2 a2 t299 bt306.1 0) else (some false)) else (some t299)))) = some r := H
 have A4 := Aside0.mk A40
 clear A40
 replace H := Option.bind_eq_some_iff.mp H
 obtain ⟨⟨t300, t303⟩, A50, H⟩ := H
 replace H : ((spread_Needs.f t300 t303 a2).bind fun bt306 => (if bt306.2 = 0 then (if (bt306.1.length : Int) = (t300.length : Int) then (purflinglaw14_SpreadEnough.l0 k t303 a2 t299 bt306.1 0) else (some false)) else (some t299))) = some r := H
 have A5 := Aside0.mk A50
 clear A50
 replace H := Option.bind_eq_some_iff.mp H
 obtain ⟨⟨t306, t307⟩, A60, H⟩ := H
 replace H : (if t307 = 0 then (if (t306.length : Int) = (t300.length : Int) then (purflinglaw14_SpreadEnough.l0 k t303 a2 t299 t306 0) else (some false)) else (some t299)) = some r := H
 have A6 := Aside0.mk A60
 clear A60
 by_cases c7 : t307 = 0
 ·rw [if_pos c7] at H
  have c7b0 : (t307 == 0) = true := beq_iff_eq.mpr c7
  have c7b1 : (t307 != 0) = false := bne_eq_false_iff_eq.mpr c7
  clear c7
  by_cases c8 : (t306.length : Int) = (t300.length : Int)
  ·rw [if_pos c8] at H
   have c8b0 : ((t306.length : Int) == (t300.length : Int)) = true := beq_iff_eq.mpr c8
   have c8b1 : ((t306.length : Int) != (t300.length : Int)) = false := bne_eq_false_iff_eq.mpr c8
   have c8b2 : (t306.length == t300.length) = true := by first | simpa using c8 | (simp at c8 ⊢; omega)
   clear c8
   have H' := Aside0.mk H
   clear H
   go_enter Try.func4, Try.ntmps4
   go_wp2_with (first | ((with_reducible refine gate_callee (f := 15) rfl ?_); refine goesL_ (some 15) rfl rfl Try.func15 (by kernel_rfl) rfl #[] rfl (by (try simp only [List.map_toArray, List.map_cons, List.map_nil]); first | done | rfl | (simp only [List.length_drop, List.length_take]; rfl)) ?_; (with_reducible refine (purflinglaw14_shown.calls k  t299 _ A4.out).mono ?_); rintro e w9 ⟨rfl, hb⟩; refine ⟨_, rfl, ?_⟩; have n0_ := Aside0.mk (below_step (by repeat (first | (with_reducible first | exact HB.out | apply below_alloc | apply pw_below_drewN | apply below_drew1) | exact HB.out)) hb); clear HB; have HB := n0_; clear n0_; (try clear hb); (try clear hb2); (try clear hk); (try clear hi)) | ((with_reducible refine gate_callee (f := 16) rfl ?_); refine goesL_ (some 19) rfl rfl Try.func16 (by kernel_rfl) rfl #[.slice A0 l0.length c0, .slice A1 l1.length c1] rfl (by (try simp only [List.map_toArray, List.map_cons, List.map_nil]); first | done | rfl | (simp only [List.length_drop, List.length_take]; rfl)) ?_; (with_reducible refine (purflinglaw14_cut.calls (fun k_ => k_ < w.heap.size) _ _ l0 (fun k_ => k_ < w.heap.size) _ _ l1 t300 t303 _ ?side1 ?side2 A5.out).mono ?_); (case side1 => exact Kd.V_mk HC0.out (Kd.F_below (Kd.C_F k39_heap HR0.out) (by repeat (first | (with_reducible first | exact HB.out | apply below_alloc | apply pw_below_drewN | apply below_drew1) | exact HB.out)))); (case side2 => exact Kd.V_mk HC1.out (Kd.F_below (Kd.C_F k37_heap HR1.out) (by repeat (first | (with_reducible first | exact HB.out | apply below_alloc | apply pw_below_drewN | apply below_drew1) | exact HB.out)))); rintro e w10 ⟨v301, v304, rfl, ho0, ho1, hb⟩; refine ⟨_, rfl, ?_⟩; have n0_ := Aside0.mk (Kd.V_lower (Kd.V_mono (ok' := fun k_ => True) ho0 (fun k_ hk_ => trivial)) (below_size (by repeat (first | (with_reducible first | exact HB.out | apply below_alloc | apply pw_below_drewN | apply below_drew1) | exact HB.out)))); have n1_ := Aside0.mk (Kd.V_lower (Kd.V_mono (ok' := fun k_ => True) ho1 (fun k_ hk_ => trivial)) (below_size (by repeat (first | (with_reducible first | exact HB.out | apply below_alloc | apply pw_below_drewN | apply below_drew1) | exact HB.out)))); have n2_ := Aside0.mk (below_step (by repeat (first | (with_reducible first | exact HB.out | apply below_alloc | apply pw_below_drewN | apply below_drew1) | exact HB.out)) hb); clear HB; have HO302 := n0_; have HO305 := n1_; have HB := n2_; clear n0_ n1_ n2_; (try clear hb); (try clear hb2); (try clear hk); (try clear hi); (try clear ho0); (try clear ho1); obtain ⟨Ao11, co11, eo11⟩ := Kd.V_slice HO302.out; subst eo11; obtain ⟨Ao12, co12, eo12⟩ := Kd.V_slice HO305.out; subst eo12) | ((with_reducible refine gate_callee (f := 17) rfl ?_); refine goesL_ (some 26) rfl rfl Try.func17 (by kernel_rfl) rfl #[.slice Ao11 t300.length co11, .slice Ao12 t303.length co12, .int .i64 a2] rfl (by (try simp only [List.map_toArray, List.map_cons, List.map_nil]); first | done | rfl | (simp only [List.length_drop, List.length_take]; rfl)) ?_; (with_reducible refine (spread_Needs.calls _ _ t300 _ _ t303 a2 t306 t307 _ ?side1 ?side2 ?side3 ?side4 A6.out).mono ?_); (case side1 => repeat (first | exact (Kd.V_reads' HO302.out).2.2 | (with_reducible refine Kd.C_alloc ?_ _) | (with_reducible refine Kd.C_drewN ?_ _) | (with_reducible refine Kd.C_drew ?_))); (case side2 => exact (Kd.V_reads' HO302.out).2.1); (case side3 => repeat (first | exact (Kd.V_reads' HO305.out).2.2 | (with_reducible refine Kd.C_alloc ?_ _) | (with_reducible refine Kd.C_drewN ?_ _) | (with_reducible refine Kd.C_drew ?_))); (case side4 => exact (Kd.V_reads' HO305.out).2.1); rintro e w13 ⟨v308, rfl, ho0, hb⟩; refine ⟨_, rfl, ?_⟩; have n0_ := Aside0.mk (Kd.V_elder' (by (with_reducible repeat (first | apply Kd.V_alloc | apply Kd.V_drewN | apply Kd.V_drew)); exact HO302.out) (Kd.R_base ho0) hb); have n1_ := Aside0.mk (Kd.V_elder' (by (with_reducible repeat (first | apply Kd.V_alloc | apply Kd.V_drewN | apply Kd.V_drew)); exact HO305.out) (Kd.R_base ho0) hb); have n2_ := Aside0.mk (Kd.R_lower ho0 (below_size (by repeat (first | (with_reducible first | exact HB.out | apply below_alloc | apply pw_below_drewN | apply below_drew1) | exact HB.out)))); have n3_ := Aside0.mk (below_step (by repeat (first | (with_reducible first | exact HB.out | apply below_alloc | apply pw_below_drewN | apply below_drew1) | exact HB.out)) hb); clear HO302; clear HO305; clear HB; have HO302 := n0_; have HO305 := n1_; have HO309 := n2_; have HB := n3_; clear n0_ n1_ n2_ n3_; (try clear hb); (try clear hb2); (try clear hk); (try clear hi); (try clear ho0); obtain ⟨Ao14, co14, eo14⟩ := Kd.R_slice HO309.out; subst eo14))
   go_loopg [10] k (fun kq v10 w' => ∃ (x10_1 : Int), v10 = .int .i64 x10_1 ∧ Aside0 (purflinglaw14_SpreadEnough.l0 kq t303 a2 t299 t306 x10_1 = some r) ∧ Aside0 (kq ≤ k) ∧ Aside0 (Kd.V k37 37 w' w.heap.size (fun k_ => some k_ ≠ ((.slice Ao14 t306.length co14) : Value).ownBlock) (.slice Ao12 t303.length co12) t303) ∧ Aside0 (Kd.R k39 39 w' w.heap.size (fun _ => True) (.slice Ao14 t306.length co14) t306) ∧ Aside0 (Below w.heap.size w w'))
   case atStart => exact ⟨(0), (by first | rfl | (simp; done) | (simp [*]; done)), H', ⟨Nat.le_refl _⟩, ⟨by (with_reducible repeat (first | apply Kd.V_alloc | apply Kd.V_drewN | apply Kd.V_drew)); exact Kd.V_mono HO305.out (fun _ hk => hk.2)⟩, ⟨by (with_reducible repeat (first | apply Kd.R_alloc | apply Kd.R_drewN | apply Kd.R_drew)); exact HO309.out⟩, ⟨by repeat (first | (with_reducible first | exact HB.out | apply below_alloc | apply pw_below_drewN | apply below_drew1) | exact HB.out)⟩⟩
   case round =>
    clear H'
    try clear c1
    try clear p2
    try clear c4
    try clear c7
    try clear c7b0
    try clear c7b1
    try clear c8
    try clear c8b0
    try clear c8b1
    try clear c8b2
    obtain ⟨x10_1, rfl, HA, HK1, HO_1, HO_8, HB⟩ := hrel
    cases gk with
    | zero => exact absurd HA.out (by simp [purflinglaw14_SpreadEnough.l0])
    | succ k1 =>
     have H := HA.out
     clear HA
     simp only [purflinglaw14_SpreadEnough.l0] at H
     by_cases c15 : x10_1 < (t303.length : Int)
     ·rw [if_pos c15] at H
      have c15b0 : decide (x10_1 < (t303.length : Int)) = true := decide_eq_true c15
      clear c15
      by_cases c16 : 0 ≤ x10_1
      ·rw [if_pos c16] at H
       have c16b0 : decide (0 ≤ x10_1) = true := decide_eq_true c16
       clear c16
       by_cases c17 : ((rd_T37 t303 x10_1).f0.f4) < 2
       ·rw [if_pos c17] at H
        have c17b0 : decide (((rd_T37 t303 x10_1).f0.f4) < 2) = true := decide_eq_true c17
        clear c17
        have H' := Aside0.mk H
        clear H
        have p311 : 0 ≤ (x10_1 : Int) := of_decide_eq_true (by first | (with_reducible assumption) | assumption)
        have q311 : x10_1 < (t303.length : Int) := of_decide_eq_true (by first | (with_reducible assumption) | assumption)
        obtain ⟨ad311, e311, hx311_0, hx311_1, hx311_2, hx311_3, hx311_4, hx311_5, hx311_6, hx311_7, hx311_8⟩ := at_T37 (Kd.V_reads' HO_1.out).2.2 x10_1 p311 q311
        cases e311
        replace p311 := eq_true p311
        replace q311 := eq_true q311
        go_wp2_with (first | ((with_reducible refine gate_dst (N := 11) rfl ?_); refine box_event ?hg (N := 11) ?hd (cs := #[.int .i64 0, .int .i64 0, .int .i64 0, .int .i64 0, .int .i64 0]) (t := 33) ?hr ?_; (case hd => rfl); (case hg => rfl); (case hr => first | (go_simp; done) | (go_simp; rfl)); intro gb312 hg w18 hbox hb; have n0_ := Aside0.mk (Kd.V_below (Kd.V_elderB (by (with_reducible repeat (first | apply Kd.V_alloc | apply Kd.V_drewN | apply Kd.V_drew)); exact HO_1.out) gb312 (Nat.le_of_eq hg.symm)) hb); have n1_ := Aside0.mk (Kd.R_below (by (with_reducible repeat (first | apply Kd.R_alloc | apply Kd.R_drewN | apply Kd.R_drew)); exact HO_8.out) hb); have n2_ := Aside0.mk (below_step (by repeat (first | (with_reducible first | exact HB.out | apply below_alloc | apply pw_below_drewN | apply below_drew1) | exact HB.out)) hb); have n3_ := Aside0.mk (hbox); have n4_ := Aside0.mk ((by rw [hg]; exact (below_size (by repeat (first | (with_reducible first | exact HB.out | apply below_alloc | apply pw_below_drewN | apply below_drew1) | exact HB.out))) : w.heap.size ≤ gb312)); have n5_ := Aside0.mk ((by rw [hg]; exact (below_size (by repeat (first | (with_reducible first | exact HB.out | apply below_alloc | apply pw_below_drewN | apply below_drew1) | exact HB.out))) : w.heap.size ≤ gb312)); clear HO_1; clear HO_8; clear HB; have HO_1 := n0_; have HO_8 := n1_; have HB := n2_; have BK312 := n3_; have GW312 := n4_; have GE312 := n5_; clear n0_ n1_ n2_ n3_ n4_ n5_; clear hb hbox hg; have hcz19_0 : w18.cell? ⟨gb312, 0, none⟩ = some (.int .i64 0) := (blk_cell BK312.out 0).trans rfl; have hcz19_1 : w18.cell? ⟨gb312, 1, none⟩ = some (.int .i64 0) := (blk_cell BK312.out 1).trans rfl; have hcz19_2 : w18.cell? ⟨gb312, 2, none⟩ = some (.int .i64 0) := (blk_cell BK312.out 2).trans rfl; have hcz19_3 : w18.cell? ⟨gb312, 3, none⟩ = some (.int .i64 0) := (blk_cell BK312.out 3).trans rfl; have hcz19_4 : w18.cell? ⟨gb312, 4, none⟩ = some (.int .i64 0) := (blk_cell BK312.out 4).trans rfl; have hfz19_0 := blk_frozen BK312.out 0; have hfz19_1 := blk_frozen BK312.out 1; have hfz19_2 := blk_frozen BK312.out 2; have hfz19_3 := blk_frozen BK312.out 3; have hfz19_4 := blk_frozen BK312.out 4))
        go_roundg k1
        case measure => have := HK1.out; omega
        case rel => exact ⟨(wrap64 (x10_1 + 1)), (by first | rfl | (simp; done) | (simp [*]; done)), H', ⟨by have := HK1.out; omega⟩, ⟨by (with_reducible repeat (first | apply Kd.V_alloc | apply Kd.V_drewN | apply Kd.V_drew)); exact Kd.V_mono (Kd.V_far (p := ⟨gb312, 4, none⟩) (Kd.V_far (p := ⟨gb312, 3, none⟩) (Kd.V_far (p := ⟨gb312, 2, none⟩) (Kd.V_far (p := ⟨gb312, 1, none⟩) (Kd.V_far (p := ⟨gb312, 0, none⟩) (Kd.V_mono HO_1.out (fun k_ hk => (⟨hk, hk.2⟩ : _ ∧ k_ ≠ gb312))) (fun _ hk => hk.2) (.int .i64 ((rd_T37 t303 x10_1).f0.f0))) (fun _ hk => hk.2) (.int .i64 ((rd_T37 t303 x10_1).f0.f1))) (fun _ hk => hk.2) (.int .i64 ((rd_T37 t303 x10_1).f0.f2))) (fun _ hk => hk.2) (.int .i64 ((rd_T37 t303 x10_1).f0.f3))) (fun _ hk => hk.2) (.int .i64 ((rd_T37 t303 x10_1).f0.f4))) (fun _ hk => hk.1.1)⟩, ⟨by (with_reducible repeat (first | apply Kd.R_alloc | apply Kd.R_drewN | apply Kd.R_drew)); exact Kd.R_mono (Kd.R_far (p := ⟨gb312, 4, none⟩) (Kd.R_far (p := ⟨gb312, 3, none⟩) (Kd.R_far (p := ⟨gb312, 2, none⟩) (Kd.R_far (p := ⟨gb312, 1, none⟩) (Kd.R_far (p := ⟨gb312, 0, none⟩) (Kd.R_types HO_8.out BK312.out (by decide)) (fun _ hk => hk.2) (.int .i64 ((rd_T37 t303 x10_1).f0.f0))) (fun _ hk => hk.2) (.int .i64 ((rd_T37 t303 x10_1).f0.f1))) (fun _ hk => hk.2) (.int .i64 ((rd_T37 t303 x10_1).f0.f2))) (fun _ hk => hk.2) (.int .i64 ((rd_T37 t303 x10_1).f0.f3))) (fun _ hk => hk.2) (.int .i64 ((rd_T37 t303 x10_1).f0.f4))) (fun _ hk => trivial)⟩, ⟨by repeat (first | (with_reducible first | exact HB.out | apply below_alloc | apply pw_below_drewN | apply below_drew1 | refine below_set ?_ GE312.out) | exact HB.out)⟩⟩
       ·rw [if_neg c17] at H
        have c17b0 : decide (((rd_T37 t303 x10_1).f0.f4) < 2) = false := decide_eq_false c17
        clear c17
        have H' := Aside0.mk H
        clear H
        have p311 : 0 ≤ (x10_1 : Int) := of_decide_eq_true (by first | (with_reducible assumption) | assumption)
        have q311 : x10_1 < (t303.length : Int) := of_decide_eq_true (by first | (with_reducible assumption) | assumption)
        obtain ⟨ad311, e311, hx311_0, hx311_1, hx311_2, hx311_3, hx311_4, hx311_5, hx311_6, hx311_7, hx311_8⟩ := at_T37 (Kd.V_reads' HO_1.out).2.2 x10_1 p311 q311
        cases e311
        replace p311 := eq_true p311
        replace q311 := eq_true q311
        go_wp2_with (first | ((with_reducible refine gate_dst (N := 11) rfl ?_); refine box_event ?hg (N := 11) ?hd (cs := #[.int .i64 0, .int .i64 0, .int .i64 0, .int .i64 0, .int .i64 0]) (t := 33) ?hr ?_; (case hd => rfl); (case hg => rfl); (case hr => first | (go_simp; done) | (go_simp; rfl)); intro gb312 hg w20 hbox hb; have n0_ := Aside0.mk (Kd.V_below (Kd.V_elderB (by (with_reducible repeat (first | apply Kd.V_alloc | apply Kd.V_drewN | apply Kd.V_drew)); exact HO_1.out) gb312 (Nat.le_of_eq hg.symm)) hb); have n1_ := Aside0.mk (Kd.R_below (by (with_reducible repeat (first | apply Kd.R_alloc | apply Kd.R_drewN | apply Kd.R_drew)); exact HO_8.out) hb); have n2_ := Aside0.mk (below_step (by repeat (first | (with_reducible first | exact HB.out | apply below_alloc | apply pw_below_drewN | apply below_drew1) | exact HB.out)) hb); have n3_ := Aside0.mk (hbox); have n4_ := Aside0.mk ((by rw [hg]; exact (below_size (by repeat (first | (with_reducible first | exact HB.out | apply below_alloc | apply pw_below_drewN | apply below_drew1) | exact HB.out))) : w.heap.size ≤ gb312)); have n5_ := Aside0.mk ((by rw [hg]; exact (below_size (by repeat (first | (with_reducible first | exact HB.out | apply below_alloc | apply pw_below_drewN | apply below_drew1) | exact HB.out))) : w.heap.size ≤ gb312)); clear HO_1; clear HO_8; clear HB; have HO_1 := n0_; have HO_8 := n1_; have HB := n2_; have BK312 := n3_; have GW312 := n4_; have GE312 := n5_; clear n0_ n1_ n2_ n3_ n4_ n5_; clear hb hbox hg; have hcz21_0 : w20.cell? ⟨gb312, 0, none⟩ = some (.int .i64 0) := (blk_cell BK312.out 0).trans rfl; have hcz21_1 : w20.cell? ⟨gb312, 1, none⟩ = some (.int .i64 0) := (blk_cell BK312.out 1).trans rfl; have hcz21_2 : w20.cell? ⟨gb312, 2, none⟩ = some (.int .i64 0) := (blk_cell BK312.out 2).trans rfl; have hcz21_3 : w20.cell? ⟨gb312, 3, none⟩ = some (.int .i64 0) := (blk_cell BK312.out 3).trans rfl; have hcz21_4 : w20.cell? ⟨gb312, 4, none⟩ = some (.int .i64 0) := (blk_cell BK312.out 4).trans rfl; have hfz21_0 := blk_frozen BK312.out 0; have hfz21_1 := blk_frozen BK312.out 1; have hfz21_2 := blk_frozen BK312.out 2; have hfz21_3 := blk_frozen BK312.out 3; have hfz21_4 := blk_frozen BK312.out 4))
        go_loopg [12, 13, 14] k1 (fun kq v12 v13 v14 w' => ∃ (x12_2 : Int) (x13_2 : Int) (x14_2 : Int), v12 = .int .i64 x12_2 ∧ v13 = .int .i64 x13_2 ∧ v14 = .int .i64 x14_2 ∧ Aside0 (purflinglaw14_SpreadEnough.l1 kq t303 a2 t299 t306 x10_1 x12_2 x13_2 x14_2 ((rd_T37 t303 x10_1).f0.f0) ((rd_T37 t303 x10_1).f0.f1) ((rd_T37 t303 x10_1).f0.f2) ((rd_T37 t303 x10_1).f0.f3) ((rd_T37 t303 x10_1).f0.f4) = some r) ∧ Aside0 (kq ≤ k1) ∧ Aside0 (Kd.V k37 37 w' w.heap.size (fun k_ => some k_ ≠ ((.slice Ao14 t306.length co14) : Value).ownBlock ∧ k_ ≠ gb312) (.slice (some ad311) t303.length co12) t303) ∧ Aside0 (Kd.R k39 39 w' w.heap.size (fun _ => True) (.slice Ao14 t306.length co14) t306) ∧ Aside0 (w'.heap[gb312]? = some (.cells #[.int .i64 ((rd_T37 t303 x10_1).f0.f0), .int .i64 ((rd_T37 t303 x10_1).f0.f1), .int .i64 ((rd_T37 t303 x10_1).f0.f2), .int .i64 ((rd_T37 t303 x10_1).f0.f3), .int .i64 ((rd_T37 t303 x10_1).f0.f4)] 33 (0, 0))) ∧ Aside0 (Below w.heap.size w w'))
        case atStart => exact ⟨(wrap64 (a2 * (wrap64 (((rd_T37 t303 x10_1).f0.f4) - 1)))), (wrap64 (a2 * (wrap64 (((rd_T37 t303 x10_1).f0.f4) - 1)))), ((rd_T37 t303 x10_1).f0.f2), (by first | rfl | (simp; done) | (simp [*]; done)), (by first | rfl | (simp; done) | (simp [*]; done)), (by first | rfl | (simp; done) | (simp [*]; done)), H', ⟨Nat.le_refl _⟩, ⟨by (with_reducible repeat (first | apply Kd.V_alloc | apply Kd.V_drewN | apply Kd.V_drew)); exact Kd.V_mono (Kd.V_far (p := ⟨gb312, 4, none⟩) (Kd.V_far (p := ⟨gb312, 3, none⟩) (Kd.V_far (p := ⟨gb312, 2, none⟩) (Kd.V_far (p := ⟨gb312, 1, none⟩) (Kd.V_far (p := ⟨gb312, 0, none⟩) (Kd.V_mono HO_1.out (fun k_ hk => (⟨hk, hk.2⟩ : _ ∧ k_ ≠ gb312))) (fun _ hk => hk.2) (.int .i64 ((rd_T37 t303 x10_1).f0.f0))) (fun _ hk => hk.2) (.int .i64 ((rd_T37 t303 x10_1).f0.f1))) (fun _ hk => hk.2) (.int .i64 ((rd_T37 t303 x10_1).f0.f2))) (fun _ hk => hk.2) (.int .i64 ((rd_T37 t303 x10_1).f0.f3))) (fun _ hk => hk.2) (.int .i64 ((rd_T37 t303 x10_1).f0.f4))) (fun _ hk => ⟨hk.1.1, hk.1.2⟩)⟩, ⟨by (with_reducible repeat (first | apply Kd.R_alloc | apply Kd.R_drewN | apply Kd.R_drew)); exact Kd.R_mono (Kd.R_far (p := ⟨gb312, 4, none⟩) (Kd.R_far (p := ⟨gb312, 3, none⟩) (Kd.R_far (p := ⟨gb312, 2, none⟩) (Kd.R_far (p := ⟨gb312, 1, none⟩) (Kd.R_far (p := ⟨gb312, 0, none⟩) (Kd.R_types HO_8.out BK312.out (by decide)) (fun _ hk => hk.2) (.int .i64 ((rd_T37 t303 x10_1).f0.f0))) (fun _ hk => hk.2) (.int .i64 ((rd_T37 t303 x10_1).f0.f1))) (fun _ hk => hk.2) (.int .i64 ((rd_T37 t303 x10_1).f0.f2))) (fun _ hk => hk.2) (.int .i64 ((rd_T37 t303 x10_1).f0.f3))) (fun _ hk => hk.2) (.int .i64 ((rd_T37 t303 x10_1).f0.f4))) (fun _ hk => trivial)⟩, ⟨by (with_reducible repeat (first | refine blk_drewN ?_ _ | refine blk_drew ?_ | refine blk_alloc ?_ _)); refine blk_put (cs := #[.int .i64 ((rd_T37 t303 x10_1).f0.f0), .int .i64 ((rd_T37 t303 x10_1).f0.f1), .int .i64 ((rd_T37 t303 x10_1).f0.f2), .int .i64 ((rd_T37 t303 x10_1).f0.f3), .int .i64 0]) ?_ 4 _ rfl; (with_reducible repeat (first | refine blk_drewN ?_ _ | refine blk_drew ?_ | refine blk_alloc ?_ _)); refine blk_put (cs := #[.int .i64 ((rd_T37 t303 x10_1).f0.f0), .int .i64 ((rd_T37 t303 x10_1).f0.f1), .int .i64 ((rd_T37 t303 x10_1).f0.f2), .int .i64 0, .int .i64 0]) ?_ 3 _ rfl; (with_reducible repeat (first | refine blk_drewN ?_ _ | refine blk_drew ?_ | refine blk_alloc ?_ _)); refine blk_put (cs := #[.int .i64 ((rd_T37 t303 x10_1).f0.f0), .int .i64 ((rd_T37 t303 x10_1).f0.f1), .int .i64 0, .int .i64 0, .int .i64 0]) ?_ 2 _ rfl; (with_reducible repeat (first | refine blk_drewN ?_ _ | refine blk_drew ?_ | refine blk_alloc ?_ _)); refine blk_put (cs := #[.int .i64 ((rd_T37 t303 x10_1).f0.f0), .int .i64 0, .int .i64 0, .int .i64 0, .int .i64 0]) ?_ 1 _ rfl; (with_reducible repeat (first | refine blk_drewN ?_ _ | refine blk_drew ?_ | refine blk_alloc ?_ _)); refine blk_put (cs := #[.int .i64 0, .int .i64 0, .int .i64 0, .int .i64 0, .int .i64 0]) ?_ 0 _ rfl; (with_reducible repeat (first | refine blk_drewN ?_ _ | refine blk_drew ?_ | refine blk_alloc ?_ _)); exact BK312.out⟩, ⟨by repeat (first | (with_reducible first | exact HB.out | apply below_alloc | apply pw_below_drewN | apply below_drew1 | refine below_set ?_ GE312.out) | exact HB.out)⟩⟩
        case round =>
         clear H'
         try clear c1
         try clear p2
         try clear p3
         try clear q3
         try clear hx3
         try clear c4
         try clear p6
         try clear c7
         try clear c7b0
         try clear c7b1
         try clear c8
         try clear c8b0
         try clear c8b1
         try clear c8b2
         try clear c15
         try clear c15b0
         try clear c16
         try clear c16b0
         try clear c17
         try clear c17b0
         try clear hcz19_0
         try clear hcz19_1
         try clear hcz19_2
         try clear hcz19_3
         try clear hcz19_4
         try clear hcz21_0
         try clear hcz21_1
         try clear hcz21_2
         try clear hcz21_3
         try clear hcz21_4
         try clear hfz19_0
         try clear hfz19_1
         try clear hfz19_2
         try clear hfz19_3
         try clear hfz19_4
         try clear hfz21_0
         try clear hfz21_1
         try clear hfz21_2
         try clear hfz21_3
         try clear hfz21_4
         try clear hx311_0
         try clear hx311_1
         try clear hx311_2
         try clear hx311_3
         try clear hx311_4
         try clear hx311_5
         try clear hx311_6
         try clear hx311_7
         try clear hx311_8
         try clear p2
         try clear p311
         try clear q311
         obtain ⟨x12_2, x13_2, x14_2, rfl, rfl, rfl, HA, HK2, HO_1, HO_8, BK312, HB⟩ := hrel
         cases gk with
         | zero => exact absurd HA.out (by simp [purflinglaw14_SpreadEnough.l1])
         | succ k2 =>
          have H := HA.out
          clear HA
          simp only [purflinglaw14_SpreadEnough.l1] at H
          by_cases c22 : x14_2 < (wrap64 (((rd_T37 t303 x10_1).f0.f2) + ((rd_T37 t303 x10_1).f0.f4)))
          ·rw [if_pos c22] at H
           have c22b0 : decide (x14_2 < (wrap64 (((rd_T37 t303 x10_1).f0.f2) + ((rd_T37 t303 x10_1).f0.f4)))) = true := decide_eq_true c22
           clear c22
           by_cases c23 : 0 ≤ x14_2
           ·rw [if_pos c23] at H
            have c23b0 : decide (0 ≤ x14_2) = true := decide_eq_true c23
            clear c23
            by_cases c24 : x14_2 < (t306.length : Int)
            ·rw [if_pos c24] at H
             have c24b0 : decide (x14_2 < (t306.length : Int)) = true := decide_eq_true c24
             clear c24
             have H' := Aside0.mk H
             clear H
             have hcz25_0 : wr.cell? ⟨gb312, 0, none⟩ = some (.int .i64 ((rd_T37 t303 x10_1).f0.f0)) := (blk_cell BK312.out 0).trans rfl
             have hcz25_1 : wr.cell? ⟨gb312, 1, none⟩ = some (.int .i64 ((rd_T37 t303 x10_1).f0.f1)) := (blk_cell BK312.out 1).trans rfl
             have hcz25_2 : wr.cell? ⟨gb312, 2, none⟩ = some (.int .i64 ((rd_T37 t303 x10_1).f0.f2)) := (blk_cell BK312.out 2).trans rfl
             have hcz25_3 : wr.cell? ⟨gb312, 3, none⟩ = some (.int .i64 ((rd_T37 t303 x10_1).f0.f3)) := (blk_cell BK312.out 3).trans rfl
             have hcz25_4 : wr.cell? ⟨gb312, 4, none⟩ = some (.int .i64 ((rd_T37 t303 x10_1).f0.f4)) := (blk_cell BK312.out 4).trans rfl
             have hfz25_0 := blk_frozen BK312.out 0
             have hfz25_1 := blk_frozen BK312.out 1
             have hfz25_2 := blk_frozen BK312.out 2
             have hfz25_3 := blk_frozen BK312.out 3
             have hfz25_4 := blk_frozen BK312.out 4
             have p313 : 0 ≤ (x14_2 : Int) := of_decide_eq_true (by first | (with_reducible assumption) | assumption)
             have q313 : x14_2 < (t306.length : Int) := of_decide_eq_true (by first | (with_reducible assumption) | assumption)
             obtain ⟨ad313, e313, hx313_0, hx313_1, hx313_2, hx313_3⟩ := at_T39 (Kd.R_reads' HO_8.out).2.2 x14_2 p313 q313
             cases e313
             replace p313 := eq_true p313
             replace q313 := eq_true q313
             have p314 : 0 ≤ (x14_2 : Int) := of_decide_eq_true (by first | (with_reducible assumption) | assumption)
             have q314 : x14_2 < (t306.length : Int) := of_decide_eq_true (by first | (with_reducible assumption) | assumption)
             obtain ⟨ad314, e314, hx314_0, hx314_1, hx314_2, hx314_3⟩ := at_T39 (Kd.R_reads' HO_8.out).2.2 x14_2 p314 q314
             obtain rfl : ad313 = ad314 := (by injection e314)
             replace p314 := eq_true p314
             replace q314 := eq_true q314
             go_wp2
             go_roundg k2
             case measure => have := HK1.out; have := HK2.out; omega
             case rel => exact ⟨(wrap64 (x12_2 + ((rd_T39 t306 x14_2).f0))), (wrap64 (x13_2 + ((rd_T39 t306 x14_2).f1))), (wrap64 (x14_2 + 1)), (by first | rfl | (simp; done) | (simp [*]; done)), (by first | rfl | (simp; done) | (simp [*]; done)), (by first | rfl | (simp; done) | (simp [*]; done)), H', ⟨by have := HK1.out; have := HK2.out; omega⟩, ⟨by (with_reducible repeat (first | apply Kd.V_alloc | apply Kd.V_drewN | apply Kd.V_drew)); exact HO_1.out⟩, ⟨by (with_reducible repeat (first | apply Kd.R_alloc | apply Kd.R_drewN | apply Kd.R_drew)); exact HO_8.out⟩, ⟨by (with_reducible repeat (first | refine blk_drewN ?_ _ | refine blk_drew ?_ | refine blk_alloc ?_ _)); exact BK312.out⟩, ⟨by repeat (first | (with_reducible first | exact HB.out | apply below_alloc | apply pw_below_drewN | apply below_drew1 | refine below_set ?_ GE312.out) | exact HB.out)⟩⟩
            ·rw [if_neg c24] at H
             exact absurd H (by simp)
           ·rw [if_neg c23] at H
            exact absurd H (by simp)
          ·rw [if_neg c22] at H
           have c22b0 : decide (x14_2 < (wrap64 (((rd_T37 t303 x10_1).f0.f2) + ((rd_T37 t303 x10_1).f0.f4)))) = false := decide_eq_false c22
           clear c22
           by_cases c26 : 0 ≤ x10_1
           ·rw [if_pos c26] at H
            have c26b0 : decide (0 ≤ x10_1) = true := decide_eq_true c26
            clear c26
            by_cases c27 : x10_1 < (t303.length : Int)
            ·rw [if_pos c27] at H
             have c27b0 : decide (x10_1 < (t303.length : Int)) = true := decide_eq_true c27
             clear c27
             by_cases c28 : x12_2 < ((rd_T37 t303 x10_1).f1)
             ·rw [if_pos c28] at H
              have c28b0 : decide (x12_2 < ((rd_T37 t303 x10_1).f1)) = true := decide_eq_true c28
              clear c28
              obtain rfl := Option.some.inj H
              have hcz29_0 : wr.cell? ⟨gb312, 0, none⟩ = some (.int .i64 ((rd_T37 t303 x10_1).f0.f0)) := (blk_cell BK312.out 0).trans rfl
              have hcz29_1 : wr.cell? ⟨gb312, 1, none⟩ = some (.int .i64 ((rd_T37 t303 x10_1).f0.f1)) := (blk_cell BK312.out 1).trans rfl
              have hcz29_2 : wr.cell? ⟨gb312, 2, none⟩ = some (.int .i64 ((rd_T37 t303 x10_1).f0.f2)) := (blk_cell BK312.out 2).trans rfl
              have hcz29_3 : wr.cell? ⟨gb312, 3, none⟩ = some (.int .i64 ((rd_T37 t303 x10_1).f0.f3)) := (blk_cell BK312.out 3).trans rfl
              have hcz29_4 : wr.cell? ⟨gb312, 4, none⟩ = some (.int .i64 ((rd_T37 t303 x10_1).f0.f4)) := (blk_cell BK312.out 4).trans rfl
              have hfz29_0 := blk_frozen BK312.out 0
              have hfz29_1 := blk_frozen BK312.out 1
              have hfz29_2 := blk_frozen BK312.out 2
              have hfz29_3 := blk_frozen BK312.out 3
              have hfz29_4 := blk_frozen BK312.out 4
              have p315 : 0 ≤ (x10_1 : Int) := of_decide_eq_true (by first | (with_reducible assumption) | assumption)
              have q315 : x10_1 < (t303.length : Int) := of_decide_eq_true (by first | (with_reducible assumption) | assumption)
              obtain ⟨ad315, e315, hx315_0, hx315_1, hx315_2, hx315_3, hx315_4, hx315_5, hx315_6, hx315_7, hx315_8⟩ := at_T37 (Kd.V_reads' HO_1.out).2.2 x10_1 p315 q315
              obtain rfl : ad311 = ad315 := (by injection e315)
              replace p315 := eq_true p315
              replace q315 := eq_true q315
              go_wp2
              go_ret
              exact ⟨by first | rfl | (simp [errW_none, errW_some] <;> rfl) | (simp [*, errW_none, errW_some] <;> rfl), by repeat (first | (with_reducible first | exact HB.out | apply below_alloc | apply pw_below_drewN | apply below_drew1 | refine below_set ?_ GE312.out) | exact HB.out)⟩
             ·rw [if_neg c28] at H
              have c28b0 : decide (x12_2 < ((rd_T37 t303 x10_1).f1)) = false := decide_eq_false c28
              clear c28
              by_cases c30 : x13_2 < ((rd_T37 t303 x10_1).f2)
              ·rw [if_pos c30] at H
               have c30b0 : decide (x13_2 < ((rd_T37 t303 x10_1).f2)) = true := decide_eq_true c30
               clear c30
               obtain rfl := Option.some.inj H
               have hcz31_0 : wr.cell? ⟨gb312, 0, none⟩ = some (.int .i64 ((rd_T37 t303 x10_1).f0.f0)) := (blk_cell BK312.out 0).trans rfl
               have hcz31_1 : wr.cell? ⟨gb312, 1, none⟩ = some (.int .i64 ((rd_T37 t303 x10_1).f0.f1)) := (blk_cell BK312.out 1).trans rfl
               have hcz31_2 : wr.cell? ⟨gb312, 2, none⟩ = some (.int .i64 ((rd_T37 t303 x10_1).f0.f2)) := (blk_cell BK312.out 2).trans rfl
               have hcz31_3 : wr.cell? ⟨gb312, 3, none⟩ = some (.int .i64 ((rd_T37 t303 x10_1).f0.f3)) := (blk_cell BK312.out 3).trans rfl
               have hcz31_4 : wr.cell? ⟨gb312, 4, none⟩ = some (.int .i64 ((rd_T37 t303 x10_1).f0.f4)) := (blk_cell BK312.out 4).trans rfl
               have hfz31_0 := blk_frozen BK312.out 0
               have hfz31_1 := blk_frozen BK312.out 1
               have hfz31_2 := blk_frozen BK312.out 2
               have hfz31_3 := blk_frozen BK312.out 3
               have hfz31_4 := blk_frozen BK312.out 4
               have p315 : 0 ≤ (x10_1 : Int) := of_decide_eq_true (by first | (with_reducible assumption) | assumption)
               have q315 : x10_1 < (t303.length : Int) := of_decide_eq_true (by first | (with_reducible assumption) | assumption)
               obtain ⟨ad315, e315, hx315_0, hx315_1, hx315_2, hx315_3, hx315_4, hx315_5, hx315_6, hx315_7, hx315_8⟩ := at_T37 (Kd.V_reads' HO_1.out).2.2 x10_1 p315 q315
               obtain rfl : ad311 = ad315 := (by injection e315)
               replace p315 := eq_true p315
               replace q315 := eq_true q315
               have p316 : 0 ≤ (x10_1 : Int) := of_decide_eq_true (by first | (with_reducible assumption) | assumption)
               have q316 : x10_1 < (t303.length : Int) := of_decide_eq_true (by first | (with_reducible assumption) | assumption)
               obtain ⟨ad316, e316, hx316_0, hx316_1, hx316_2, hx316_3, hx316_4, hx316_5, hx316_6, hx316_7, hx316_8⟩ := at_T37 (Kd.V_reads' HO_1.out).2.2 x10_1 p316 q316
               obtain rfl : ad311 = ad316 := (by injection e316)
               replace p316 := eq_true p316
               replace q316 := eq_true q316
               go_wp2
               go_ret
               exact ⟨by first | rfl | (simp [errW_none, errW_some] <;> rfl) | (simp [*, errW_none, errW_some] <;> rfl), by repeat (first | (with_reducible first | exact HB.out | apply below_alloc | apply pw_below_drewN | apply below_drew1 | refine below_set ?_ GE312.out) | exact HB.out)⟩
              ·rw [if_neg c30] at H
               have c30b0 : decide (x13_2 < ((rd_T37 t303 x10_1).f2)) = false := decide_eq_false c30
               clear c30
               have H' := Aside0.mk H
               clear H
               have hcz32_0 : wr.cell? ⟨gb312, 0, none⟩ = some (.int .i64 ((rd_T37 t303 x10_1).f0.f0)) := (blk_cell BK312.out 0).trans rfl
               have hcz32_1 : wr.cell? ⟨gb312, 1, none⟩ = some (.int .i64 ((rd_T37 t303 x10_1).f0.f1)) := (blk_cell BK312.out 1).trans rfl
               have hcz32_2 : wr.cell? ⟨gb312, 2, none⟩ = some (.int .i64 ((rd_T37 t303 x10_1).f0.f2)) := (blk_cell BK312.out 2).trans rfl
               have hcz32_3 : wr.cell? ⟨gb312, 3, none⟩ = some (.int .i64 ((rd_T37 t303 x10_1).f0.f3)) := (blk_cell BK312.out 3).trans rfl
               have hcz32_4 : wr.cell? ⟨gb312, 4, none⟩ = some (.int .i64 ((rd_T37 t303 x10_1).f0.f4)) := (blk_cell BK312.out 4).trans rfl
               have hfz32_0 := blk_frozen BK312.out 0
               have hfz32_1 := blk_frozen BK312.out 1
               have hfz32_2 := blk_frozen BK312.out 2
               have hfz32_3 := blk_frozen BK312.out 3
               have hfz32_4 := blk_frozen BK312.out 4
               have p315 : 0 ≤ (x10_1 : Int) := of_decide_eq_true (by first | (with_reducible assumption) | assumption)
               have q315 : x10_1 < (t303.length : Int) := of_decide_eq_true (by first | (with_reducible assumption) | assumption)
               obtain ⟨ad315, e315, hx315_0, hx315_1, hx315_2, hx315_3, hx315_4, hx315_5, hx315_6, hx315_7, hx315_8⟩ := at_T37 (Kd.V_reads' HO_1.out).2.2 x10_1 p315 q315
               obtain rfl : ad311 = ad315 := (by injection e315)
               replace p315 := eq_true p315
               replace q315 := eq_true q315
               have p316 : 0 ≤ (x10_1 : Int) := of_decide_eq_true (by first | (with_reducible assumption) | assumption)
               have q316 : x10_1 < (t303.length : Int) := of_decide_eq_true (by first | (with_reducible assumption) | assumption)
               obtain ⟨ad316, e316, hx316_0, hx316_1, hx316_2, hx316_3, hx316_4, hx316_5, hx316_6, hx316_7, hx316_8⟩ := at_T37 (Kd.V_reads' HO_1.out).2.2 x10_1 p316 q316
               obtain rfl : ad311 = ad316 := (by injection e316)
               replace p316 := eq_true p316
               replace q316 := eq_true q316
               go_wp2
               go_roundg k2
               case measure => have := HK1.out; have := HK2.out; omega
               case rel => exact ⟨(wrap64 (x10_1 + 1)), (by first | rfl | (simp; done) | (simp [*]; done)), H', ⟨by have := HK1.out; have := HK2.out; omega⟩, ⟨by (with_reducible repeat (first | apply Kd.V_alloc | apply Kd.V_drewN | apply Kd.V_drew)); exact Kd.V_mono HO_1.out (fun _ hk => hk.1)⟩, ⟨by (with_reducible repeat (first | apply Kd.R_alloc | apply Kd.R_drewN | apply Kd.R_drew)); exact HO_8.out⟩, ⟨by repeat (first | (with_reducible first | exact HB.out | apply below_alloc | apply pw_below_drewN | apply below_drew1 | refine below_set ?_ GE312.out) | exact HB.out)⟩⟩
            ·rw [if_neg c27] at H
             exact absurd H (by simp)
           ·rw [if_neg c26] at H
            exact absurd H (by simp)
      ·rw [if_neg c16] at H
       exact absurd H (by simp)
     ·rw [if_neg c15] at H
      have c15b0 : decide (x10_1 < (t303.length : Int)) = false := decide_eq_false c15
      clear c15
      by_cases c33 : t299 = true
      ·subst c33
       have H1 : ((columns_RightBands.f t306).bind fun t310 => (some t310)) = some r := by rw [if_pos rfl] at H; exact H
       clear H
       have H := H1
       clear H1
       replace H := Option.bind_eq_some_iff.mp H
       obtain ⟨t310, A340, H⟩ := H
       replace H : (some t310) = some r := H
       have A34 := Aside0.mk A340
       clear A340
       obtain rfl := Option.some.inj H
       go_wp2_with (first | (go_at_call 20; (with_reducible refine (columns_RightBands.calls _ _ t306 t310 _ ?side1 ?side2 A34.out).mono ?_); (case side1 => repeat (first | exact (Kd.R_reads' HO_8.out).2.2 | (with_reducible refine Kd.C_alloc ?_ _) | (with_reducible refine Kd.C_drewN ?_ _) | (with_reducible refine Kd.C_drew ?_))); (case side2 => exact (Kd.R_reads' HO_8.out).2.1); rintro e w35 ⟨rfl, hb⟩; have n0_ := Aside0.mk (Kd.V_below (by (with_reducible repeat (first | apply Kd.V_alloc | apply Kd.V_drewN | apply Kd.V_drew)); exact HO_1.out) hb); have n1_ := Aside0.mk (Kd.R_below (by (with_reducible repeat (first | apply Kd.R_alloc | apply Kd.R_drewN | apply Kd.R_drew)); exact HO_8.out) hb); have n2_ := Aside0.mk (below_step (by repeat (first | (with_reducible first | exact HB.out | apply below_alloc | apply pw_below_drewN | apply below_drew1) | exact HB.out)) hb); clear HO_1; clear HO_8; clear HB; have HO_1 := n0_; have HO_8 := n1_; have HB := n2_; clear n0_ n1_ n2_; (try clear hb); (try clear hb2); (try clear hk); (try clear hi)))
       go_ret
       exact ⟨by first | rfl | (simp [errW_none, errW_some] <;> rfl) | (simp [*, errW_none, errW_some] <;> rfl), by repeat (first | (with_reducible first | exact HB.out | apply below_alloc | apply pw_below_drewN | apply below_drew1) | exact HB.out)⟩
      ·replace c33 := Bool.eq_false_iff.mpr c33
       subst c33
       have H1 : (some false) = some r := by rw [if_neg (show ¬ (false = true) by decide)] at H; exact H
       clear H
       have H := H1
       clear H1
       obtain rfl := Option.some.inj H
       go_wp2
       go_ret
       exact ⟨by first | rfl | (simp [errW_none, errW_some] <;> rfl) | (simp [*, errW_none, errW_some] <;> rfl), by repeat (first | (with_reducible first | exact HB.out | apply below_alloc | apply pw_below_drewN | apply below_drew1) | exact HB.out)⟩
  ·rw [if_neg c8] at H
   have c8b0 : ((t306.length : Int) == (t300.length : Int)) = false := beq_eq_false_iff_ne.mpr c8
   have c8b1 : ((t306.length : Int) != (t300.length : Int)) = true := bne_iff_ne.mpr c8
   have c8b2 : (t306.length == t300.length) = false := by first | simpa using c8 | (simp at c8 ⊢; omega)
   obtain rfl := Option.some.inj H
   go_enter Try.func4, Try.ntmps4
   go_wp2_with (first | ((with_reducible refine gate_callee (f := 15) rfl ?_); refine goesL_ (some 15) rfl rfl Try.func15 (by kernel_rfl) rfl #[] rfl (by (try simp only [List.map_toArray, List.map_cons, List.map_nil]); first | done | rfl | (simp only [List.length_drop, List.length_take]; rfl)) ?_; (with_reducible refine (purflinglaw14_shown.calls k  t299 _ A4.out).mono ?_); rintro e w36 ⟨rfl, hb⟩; refine ⟨_, rfl, ?_⟩; have n0_ := Aside0.mk (below_step (by repeat (first | (with_reducible first | exact HB.out | apply below_alloc | apply pw_below_drewN | apply below_drew1) | exact HB.out)) hb); clear HB; have HB := n0_; clear n0_; (try clear hb); (try clear hb2); (try clear hk); (try clear hi)) | ((with_reducible refine gate_callee (f := 16) rfl ?_); refine goesL_ (some 19) rfl rfl Try.func16 (by kernel_rfl) rfl #[.slice A0 l0.length c0, .slice A1 l1.length c1] rfl (by (try simp only [List.map_toArray, List.map_cons, List.map_nil]); first | done | rfl | (simp only [List.length_drop, List.length_take]; rfl)) ?_; (with_reducible refine (purflinglaw14_cut.calls (fun k_ => k_ < w.heap.size) _ _ l0 (fun k_ => k_ < w.heap.size) _ _ l1 t300 t303 _ ?side1 ?side2 A5.out).mono ?_); (case side1 => exact Kd.V_mk HC0.out (Kd.F_below (Kd.C_F k39_heap HR0.out) (by repeat (first | (with_reducible first | exact HB.out | apply below_alloc | apply pw_below_drewN | apply below_drew1) | exact HB.out)))); (case side2 => exact Kd.V_mk HC1.out (Kd.F_below (Kd.C_F k37_heap HR1.out) (by repeat (first | (with_reducible first | exact HB.out | apply below_alloc | apply pw_below_drewN | apply below_drew1) | exact HB.out)))); rintro e w37 ⟨v301, v304, rfl, ho0, ho1, hb⟩; refine ⟨_, rfl, ?_⟩; have n0_ := Aside0.mk (Kd.V_lower (Kd.V_mono (ok' := fun k_ => True) ho0 (fun k_ hk_ => trivial)) (below_size (by repeat (first | (with_reducible first | exact HB.out | apply below_alloc | apply pw_below_drewN | apply below_drew1) | exact HB.out)))); have n1_ := Aside0.mk (Kd.V_lower (Kd.V_mono (ok' := fun k_ => True) ho1 (fun k_ hk_ => trivial)) (below_size (by repeat (first | (with_reducible first | exact HB.out | apply below_alloc | apply pw_below_drewN | apply below_drew1) | exact HB.out)))); have n2_ := Aside0.mk (below_step (by repeat (first | (with_reducible first | exact HB.out | apply below_alloc | apply pw_below_drewN | apply below_drew1) | exact HB.out)) hb); clear HB; have HO302 := n0_; have HO305 := n1_; have HB := n2_; clear n0_ n1_ n2_; (try clear hb); (try clear hb2); (try clear hk); (try clear hi); (try clear ho0); (try clear ho1); obtain ⟨Ao38, co38, eo38⟩ := Kd.V_slice HO302.out; subst eo38; obtain ⟨Ao39, co39, eo39⟩ := Kd.V_slice HO305.out; subst eo39) | ((with_reducible refine gate_callee (f := 17) rfl ?_); refine goesL_ (some 26) rfl rfl Try.func17 (by kernel_rfl) rfl #[.slice Ao38 t300.length co38, .slice Ao39 t303.length co39, .int .i64 a2] rfl (by (try simp only [List.map_toArray, List.map_cons, List.map_nil]); first | done | rfl | (simp only [List.length_drop, List.length_take]; rfl)) ?_; (with_reducible refine (spread_Needs.calls _ _ t300 _ _ t303 a2 t306 t307 _ ?side1 ?side2 ?side3 ?side4 A6.out).mono ?_); (case side1 => repeat (first | exact (Kd.V_reads' HO302.out).2.2 | (with_reducible refine Kd.C_alloc ?_ _) | (with_reducible refine Kd.C_drewN ?_ _) | (with_reducible refine Kd.C_drew ?_))); (case side2 => exact (Kd.V_reads' HO302.out).2.1); (case side3 => repeat (first | exact (Kd.V_reads' HO305.out).2.2 | (with_reducible refine Kd.C_alloc ?_ _) | (with_reducible refine Kd.C_drewN ?_ _) | (with_reducible refine Kd.C_drew ?_))); (case side4 => exact (Kd.V_reads' HO305.out).2.1); rintro e w40 ⟨v308, rfl, ho0, hb⟩; refine ⟨_, rfl, ?_⟩; have n0_ := Aside0.mk (Kd.V_elder' (by (with_reducible repeat (first | apply Kd.V_alloc | apply Kd.V_drewN | apply Kd.V_drew)); exact HO302.out) (Kd.R_base ho0) hb); have n1_ := Aside0.mk (Kd.V_elder' (by (with_reducible repeat (first | apply Kd.V_alloc | apply Kd.V_drewN | apply Kd.V_drew)); exact HO305.out) (Kd.R_base ho0) hb); have n2_ := Aside0.mk (Kd.R_lower ho0 (below_size (by repeat (first | (with_reducible first | exact HB.out | apply below_alloc | apply pw_below_drewN | apply below_drew1) | exact HB.out)))); have n3_ := Aside0.mk (below_step (by repeat (first | (with_reducible first | exact HB.out | apply below_alloc | apply pw_below_drewN | apply below_drew1) | exact HB.out)) hb); clear HO302; clear HO305; clear HB; have HO302 := n0_; have HO305 := n1_; have HO309 := n2_; have HB := n3_; clear n0_ n1_ n2_ n3_; (try clear hb); (try clear hb2); (try clear hk); (try clear hi); (try clear ho0); obtain ⟨Ao41, co41, eo41⟩ := Kd.R_slice HO309.out; subst eo41))
   go_ret
   exact ⟨by first | rfl | (simp [errW_none, errW_some] <;> rfl) | (simp [*, errW_none, errW_some] <;> rfl), by repeat (first | (with_reducible first | exact HB.out | apply below_alloc | apply pw_below_drewN | apply below_drew1) | exact HB.out)⟩
 ·rw [if_neg c7] at H
  have c7b0 : (t307 == 0) = false := beq_eq_false_iff_ne.mpr c7
  have c7b1 : (t307 != 0) = true := bne_iff_ne.mpr c7
  obtain rfl := Option.some.inj H
  go_enter Try.func4, Try.ntmps4
  go_wp2_with (first | ((with_reducible refine gate_callee (f := 15) rfl ?_); refine goesL_ (some 15) rfl rfl Try.func15 (by kernel_rfl) rfl #[] rfl (by (try simp only [List.map_toArray, List.map_cons, List.map_nil]); first | done | rfl | (simp only [List.length_drop, List.length_take]; rfl)) ?_; (with_reducible refine (purflinglaw14_shown.calls k  t299 _ A4.out).mono ?_); rintro e w42 ⟨rfl, hb⟩; refine ⟨_, rfl, ?_⟩; have n0_ := Aside0.mk (below_step (by repeat (first | (with_reducible first | exact HB.out | apply below_alloc | apply pw_below_drewN | apply below_drew1) | exact HB.out)) hb); clear HB; have HB := n0_; clear n0_; (try clear hb); (try clear hb2); (try clear hk); (try clear hi)) | ((with_reducible refine gate_callee (f := 16) rfl ?_); refine goesL_ (some 19) rfl rfl Try.func16 (by kernel_rfl) rfl #[.slice A0 l0.length c0, .slice A1 l1.length c1] rfl (by (try simp only [List.map_toArray, List.map_cons, List.map_nil]); first | done | rfl | (simp only [List.length_drop, List.length_take]; rfl)) ?_; (with_reducible refine (purflinglaw14_cut.calls (fun k_ => k_ < w.heap.size) _ _ l0 (fun k_ => k_ < w.heap.size) _ _ l1 t300 t303 _ ?side1 ?side2 A5.out).mono ?_); (case side1 => exact Kd.V_mk HC0.out (Kd.F_below (Kd.C_F k39_heap HR0.out) (by repeat (first | (with_reducible first | exact HB.out | apply below_alloc | apply pw_below_drewN | apply below_drew1) | exact HB.out)))); (case side2 => exact Kd.V_mk HC1.out (Kd.F_below (Kd.C_F k37_heap HR1.out) (by repeat (first | (with_reducible first | exact HB.out | apply below_alloc | apply pw_below_drewN | apply below_drew1) | exact HB.out)))); rintro e w43 ⟨v301, v304, rfl, ho0, ho1, hb⟩; refine ⟨_, rfl, ?_⟩; have n0_ := Aside0.mk (Kd.V_lower (Kd.V_mono (ok' := fun k_ => True) ho0 (fun k_ hk_ => trivial)) (below_size (by repeat (first | (with_reducible first | exact HB.out | apply below_alloc | apply pw_below_drewN | apply below_drew1) | exact HB.out)))); have n1_ := Aside0.mk (Kd.V_lower (Kd.V_mono (ok' := fun k_ => True) ho1 (fun k_ hk_ => trivial)) (below_size (by repeat (first | (with_reducible first | exact HB.out | apply below_alloc | apply pw_below_drewN | apply below_drew1) | exact HB.out)))); have n2_ := Aside0.mk (below_step (by repeat (first | (with_reducible first | exact HB.out | apply below_alloc | apply pw_below_drewN | apply below_drew1) | exact HB.out)) hb); clear HB; have HO302 := n0_; have HO305 := n1_; have HB := n2_; clear n0_ n1_ n2_; (try clear hb); (try clear hb2); (try clear hk); (try clear hi); (try clear ho0); (try clear ho1); obtain ⟨Ao44, co44, eo44⟩ := Kd.V_slice HO302.out; subst eo44; obtain ⟨Ao45, co45, eo45⟩ := Kd.V_slice HO305.out; subst eo45) | ((with_reducible refine gate_callee (f := 17) rfl ?_); refine goesL_ (some 26) rfl rfl Try.func17 (by kernel_rfl) rfl #[.slice Ao44 t300.length co44, .slice Ao45 t303.length co45, .int .i64 a2] rfl (by (try simp only [List.map_toArray, List.map_cons, List.map_nil]); first | done | rfl | (simp only [List.length_drop, List.length_take]; rfl)) ?_; (with_reducible refine (spread_Needs.calls _ _ t300 _ _ t303 a2 t306 t307 _ ?side1 ?side2 ?side3 ?side4 A6.out).mono ?_); (case side1 => repeat (first | exact (Kd.V_reads' HO302.out).2.2 | (with_reducible refine Kd.C_alloc ?_ _) | (with_reducible refine Kd.C_drewN ?_ _) | (with_reducible refine Kd.C_drew ?_))); (case side2 => exact (Kd.V_reads' HO302.out).2.1); (case side3 => repeat (first | exact (Kd.V_reads' HO305.out).2.2 | (with_reducible refine Kd.C_alloc ?_ _) | (with_reducible refine Kd.C_drewN ?_ _) | (with_reducible refine Kd.C_drew ?_))); (case side4 => exact (Kd.V_reads' HO305.out).2.1); rintro e w46 ⟨v308, rfl, ho0, hb⟩; refine ⟨_, rfl, ?_⟩; have n0_ := Aside0.mk (Kd.V_elder' (by (with_reducible repeat (first | apply Kd.V_alloc | apply Kd.V_drewN | apply Kd.V_drew)); exact HO302.out) (Kd.R_base ho0) hb); have n1_ := Aside0.mk (Kd.V_elder' (by (with_reducible repeat (first | apply Kd.V_alloc | apply Kd.V_drewN | apply Kd.V_drew)); exact HO305.out) (Kd.R_base ho0) hb); have n2_ := Aside0.mk (Kd.R_lower ho0 (below_size (by repeat (first | (with_reducible first | exact HB.out | apply below_alloc | apply pw_below_drewN | apply below_drew1) | exact HB.out)))); have n3_ := Aside0.mk (below_step (by repeat (first | (with_reducible first | exact HB.out | apply below_alloc | apply pw_below_drewN | apply below_drew1) | exact HB.out)) hb); clear HO302; clear HO305; clear HB; have HO302 := n0_; have HO305 := n1_; have HO309 := n2_; have HB := n3_; clear n0_ n1_ n2_ n3_; (try clear hb); (try clear hb2); (try clear hk); (try clear hi); (try clear ho0)))
  go_ret
  exact ⟨by first | rfl | (simp [errW_none, errW_some] <;> rfl) | (simp [*, errW_none, errW_some] <;> rfl), by repeat (first | (with_reducible first | exact HB.out | apply below_alloc | apply pw_below_drewN | apply below_drew1) | exact HB.out)⟩

end Go.Proofs.Ytacigmhhegaieaa.PA
