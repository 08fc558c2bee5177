-- MADE by wip/tools/xprint.py of this repo: the kit's print.py, turned by this session, and texts by hand
import Derived.Test.YtacigmhhegaieaaPAx0
import Derived.Test.YtacigmhhegaieaaPAx9
import Derived.Test.YtacigmhhegaieaaPAx10
import Derived.Test.YtacigmhhegaieaaPAx20
import Derived.Test.YtacigmhhegaieaaPAx28
namespace Go.Proofs.Ytacigmhhegaieaa.PA
open Go.RowKit Go.Proofs.YtacigmhhegaieaaW.PrintWords Go.Proofs.YtacigmhhegaieaaW.PrintLast Go.Proofs.YtacigmhhegaieaaW.PrintMore
attribute [local go_sem] max2_int min2_int max_two min_two max_three min_three max_four min_four   -- for this text's walks alone
set_option linter.unusedVariables false
set_option linter.unusedSimpArgs false

/-! ### purflinglaw14_SpreadNone: function 6 -/
def purflinglaw14_SpreadNone.l0 : Nat → List (S39) → List (S37) → Int → Bool → List (S37) → Int → Option (Bool)
 | 0, _, _, _, _, _, _ => none
 | k + 1, x0, x1, x2, x7, x8, x9 => if x9 < (x1.length : Int) then (if 0 ≤ x9 then (if x8.length < 1954687338268 then (purflinglaw14_SpreadNone.l0 k x0 x1 x2 x7 (x8 ++ [(⟨(⟨(rd_T37 x1 x9).f0.f0, (rd_T37 x1 x9).f0.f1, (rd_T37 x1 x9).f0.f2, (rd_T37 x1 x9).f0.f3, (rd_T37 x1 x9).f0.f4⟩ : S33), 0, 0, (⟨(rd_T37 x1 x9).f3.f0, (rd_T37 x1 x9).f3.f1⟩ : S35)⟩ : S37)]) (wrap64 (x9 + 1))) else (none)) else (none)) else ((spread_Needs.f x0 x8 x2).bind fun bt348 => (if bt348.2 = 0 then (if x7 = true then ((purflingref13_Same.f k bt348.1 x0).bind fun t352 => (some t352)) else (some false)) else (if x7 = true then (some ((bt348.1.length : Int) == 0)) else (some false))))
def purflinglaw14_SpreadNone.f (k : Nat) (l0 : List (S39)) (l1 : List (S37)) (a2 : Int) : Option (Bool) := (purflinglaw14_shown.f k).bind fun t336 => ((purflinglaw14_cut.f l0 l1).bind fun bt337 => (purflinglaw14_SpreadNone.l0 k bt337.1 bt337.2 a2 t336 ([] : List (S37)) 0))
theorem purflinglaw14_SpreadNone.mono_l : ∀ k, (∀ y0 y1 y2 y3 y4 y5, LeO (purflinglaw14_SpreadNone.l0 k y0 y1 y2 y3 y4 y5) (purflinglaw14_SpreadNone.l0 (k + 1) y0 y1 y2 y3 y4 y5))
 | 0 => fun _ _ _ _ _ _ r h => by simp [purflinglaw14_SpreadNone.l0] at h
 | k + 1 => by
  have ih0 := purflinglaw14_SpreadNone.mono_l k
  ·intro y0 y1 y2 y3 y4 y5
   unfold purflinglaw14_SpreadNone.l0
   repeat' first
   | (with_reducible exact ih0 _ _ _ _ _ _)
   | (with_reducible exact purflinglaw14_shown.mono _)
   | (with_reducible exact purflingref13_Same.mono _ _ _)
   | (with_reducible exact LeO.refl _)
   | (with_reducible exact LeO.none _)
   | (with_reducible refine LeO.ite ?_ ?_)
   | (with_reducible refine LeO.bind ?_ (fun _ => ?_))
   | exact ih0 _ _ _ _ _ _
   | exact purflinglaw14_shown.mono _
   | exact purflingref13_Same.mono _ _ _
   | exact LeO.none _
   | refine LeO.ite ?_ ?_
   | refine LeO.bind ?_ (fun _ => ?_)
theorem purflinglaw14_SpreadNone.mono : ∀ a0 a1 a2 k, LeO (purflinglaw14_SpreadNone.f k a0 a1 a2) (purflinglaw14_SpreadNone.f (k + 1) a0 a1 a2) := by
 intro a0 a1 a2 k
 have ih0 := purflinglaw14_SpreadNone.mono_l k
 unfold purflinglaw14_SpreadNone.f
 repeat' first
   | (with_reducible exact ih0 _ _ _ _ _ _)
   | (with_reducible exact purflinglaw14_shown.mono _)
   | (with_reducible exact purflingref13_Same.mono _ _ _)
   | (with_reducible exact LeO.refl _)
   | (with_reducible exact LeO.none _)
   | (with_reducible refine LeO.ite ?_ ?_)
   | (with_reducible refine LeO.bind ?_ (fun _ => ?_))
   | exact ih0 _ _ _ _ _ _
   | exact purflinglaw14_shown.mono _
   | exact purflingref13_Same.mono _ _ _
   | exact LeO.none _
   | refine LeO.ite ?_ ?_
   | refine LeO.bind ?_ (fun _ => ?_)
set_option maxHeartbeats 8000000 in
set_option maxRecDepth 100000 in
theorem purflinglaw14_SpreadNone.calls (k : Nat) (A0 : Option Addr) (c0 : Nat) (l0 : List (S39)) (A1 : Option Addr) (c1 : Nat) (l1 : List (S37)) (a2 : Int) (r : Bool) (w : World) (hr0 : Kd.C k39 w A0 l0.length l0) (hc0 : l0.length ≤ c0) (hr1 : Kd.C k37 w A1 l1.length l1) (hc1 : l1.length ≤ c1) (h : purflinglaw14_SpreadNone.f k l0 l1 a2 = some r) :
  Calls Try.prog 6 #[.slice A0 l0.length c0, .slice A1 l1.length c1, .int .i64 a2] w fun e w' => e = .returned (.bool r) ∧ Below w.heap.size w w' := by
 have hu37 := Try.underlying37
 have HR0 := Aside0.mk hr0
 have HC0 := Aside0.mk hc0
 clear hr0 hc0
 have HR1 := Aside0.mk hr1
 have HC1 := Aside0.mk hc1
 clear hr1 hc1
 have HB := Aside0.mk (Below.refl w.heap.size w)
 have H : ((purflinglaw14_shown.f k).bind fun t336 => ((purflinglaw14_cut.f l0 l1).bind fun bt337 => (purflinglaw14_SpreadNone.l0 k bt337.1 bt337.2 a2 t336 ([] : List (S37)) 0))) = some r := h
 clear h
 replace H := Option.bind_eq_some_iff.mp H
 obtain ⟨t336, A40, H⟩ := H
 replace H : ((purflinglaw14_cut.f l0 l1).bind fun bt337 => (purflinglaw14_SpreadNone.l0 k bt337.1 bt337.2 a2 t336 ([] : List (S37)) 0)) = some r := H
 have A4 := Aside0.mk A40
 clear A40
 replace H := Option.bind_eq_some_iff.mp H
 obtain ⟨⟨t337, t340⟩, A50, H⟩ := H
 replace H : (purflinglaw14_SpreadNone.l0 k t337 t340 a2 t336 ([] : List (S37)) 0) = some r := H
 have A5 := Aside0.mk A50
 clear A50
 have H' := Aside0.mk H
 clear H
 go_enter Try.func6, Try.ntmps6
 go_wp2_with (first | ((with_reducible refine gate_callee (f := 15) rfl ?_); refine goesL_ (some 13) rfl rfl Try.func15 (by kernel_rfl) rfl #[] rfl (by (try simp only [List.map_toArray, List.map_cons, List.map_nil]); first | done | rfl | (simp only [List.length_drop, List.length_take]; rfl)) ?_; (with_reducible refine (purflinglaw14_shown.calls k  t336 _ A4.out).mono ?_); rintro e w6 ⟨rfl, hb⟩; refine ⟨_, rfl, ?_⟩; have n0_ := Aside0.mk (below_step (by repeat (first | (with_reducible first | exact HB.out | apply below_alloc | apply pw_below_drewN | apply below_drew1) | exact HB.out)) hb); clear HB; have HB := n0_; clear n0_; (try clear hb); (try clear hb2); (try clear hk); (try clear hi)) | ((with_reducible refine gate_callee (f := 16) rfl ?_); refine goesL_ (some 17) rfl rfl Try.func16 (by kernel_rfl) rfl #[.slice A0 l0.length c0, .slice A1 l1.length c1] rfl (by (try simp only [List.map_toArray, List.map_cons, List.map_nil]); first | done | rfl | (simp only [List.length_drop, List.length_take]; rfl)) ?_; (with_reducible refine (purflinglaw14_cut.calls (fun k_ => k_ < w.heap.size) _ _ l0 (fun k_ => k_ < w.heap.size) _ _ l1 t337 t340 _ ?side1 ?side2 A5.out).mono ?_); (case side1 => exact Kd.V_mk HC0.out (Kd.F_below (Kd.C_F k39_heap HR0.out) (by repeat (first | (with_reducible first | exact HB.out | apply below_alloc | apply pw_below_drewN | apply below_drew1) | exact HB.out)))); (case side2 => exact Kd.V_mk HC1.out (Kd.F_below (Kd.C_F k37_heap HR1.out) (by repeat (first | (with_reducible first | exact HB.out | apply below_alloc | apply pw_below_drewN | apply below_drew1) | exact HB.out)))); rintro e w7 ⟨v338, v341, rfl, ho0, ho1, hb⟩; refine ⟨_, rfl, ?_⟩; have n0_ := Aside0.mk (Kd.V_lower (Kd.V_mono (ok' := fun k_ => True) ho0 (fun k_ hk_ => trivial)) (below_size (by repeat (first | (with_reducible first | exact HB.out | apply below_alloc | apply pw_below_drewN | apply below_drew1) | exact HB.out)))); have n1_ := Aside0.mk (Kd.V_lower (Kd.V_mono (ok' := fun k_ => True) ho1 (fun k_ hk_ => trivial)) (below_size (by repeat (first | (with_reducible first | exact HB.out | apply below_alloc | apply pw_below_drewN | apply below_drew1) | exact HB.out)))); have n2_ := Aside0.mk (below_step (by repeat (first | (with_reducible first | exact HB.out | apply below_alloc | apply pw_below_drewN | apply below_drew1) | exact HB.out)) hb); clear HB; have HO339 := n0_; have HO342 := n1_; have HB := n2_; clear n0_ n1_ n2_; (try clear hb); (try clear hb2); (try clear hk); (try clear hi); (try clear ho0); (try clear ho1)))
 go_loopg [8, 9] k (fun kq v8 v9 w' => ∃ (x8_1 : List (S37)) (x9_1 : Int), v9 = .int .i64 x9_1 ∧ Aside0 (purflinglaw14_SpreadNone.l0 kq t337 t340 a2 t336 x8_1 x9_1 = some r) ∧ Aside0 (kq ≤ k) ∧ Aside0 (Kd.V k39 39 w' w.heap.size (fun k_ => some k_ ≠ (v8 : Value).ownBlock) v338 t337) ∧ Aside0 (Kd.V k37 37 w' w.heap.size (fun k_ => some k_ ≠ (v8 : Value).ownBlock) v341 t340) ∧ Aside0 (Kd.R k37 37 w' w.heap.size (fun _ => True) v8 x8_1) ∧ Aside0 (Below w.heap.size w w'))
 case atStart => exact ⟨(([] : List (S37))), (0), (by first | rfl | (simp; done) | (simp [*]; done)), H', ⟨Nat.le_refl _⟩, ⟨by (with_reducible repeat (first | apply Kd.V_alloc | apply Kd.V_drewN | apply Kd.V_drew)); exact Kd.V_mono HO339.out (fun _ hk => (by simp [Value.ownBlock]))⟩, ⟨by (with_reducible repeat (first | apply Kd.V_alloc | apply Kd.V_drewN | apply Kd.V_drew)); exact Kd.V_mono HO342.out (fun _ hk => (by simp [Value.ownBlock]))⟩, ⟨by first | exact Kd.R_nil _ _ _ _ _ | exact Kd.N_nil _ _ _ _ _ | exact Kd.V_nil _ _ _ _ _ | exact Kd.Q_nil _ _ _ _ _ | exact Kd.S_nil _ _ _ _ _⟩, ⟨by repeat (first | (with_reducible first | exact HB.out | apply below_alloc | apply pw_below_drewN | apply below_drew1) | exact HB.out)⟩⟩
 case round =>
  clear H'
  try clear c1
  try clear p2
  try clear c6
  obtain ⟨x8_1, x9_1, rfl, HA, HK1, HO_0, HO_1, HO_8, HB⟩ := hrel
  cases gk with
  | zero => exact absurd HA.out (by simp [purflinglaw14_SpreadNone.l0])
  | succ k1 =>
   have H := HA.out
   clear HA
   simp only [purflinglaw14_SpreadNone.l0] at H
   by_cases c8 : x9_1 < (t340.length : Int)
   ·rw [if_pos c8] at H
    have c8b0 : decide (x9_1 < (t340.length : Int)) = true := decide_eq_true c8
    clear c8
    by_cases c9 : 0 ≤ x9_1
    ·rw [if_pos c9] at H
     have c9b0 : decide (0 ≤ x9_1) = true := decide_eq_true c9
     clear c9
     by_cases c10 : x8_1.length < 1954687338268
     ·rw [if_pos c10] at H
      have LMc10 := Aside0.mk c10
      clear c10
      obtain ⟨y345, hy345⟩ : ∃ y_ : List (S37), y_ = (x8_1 ++ [(⟨(⟨(rd_T37 t340 x9_1).f0.f0, (rd_T37 t340 x9_1).f0.f1, (rd_T37 t340 x9_1).f0.f2, (rd_T37 t340 x9_1).f0.f3, (rd_T37 t340 x9_1).f0.f4⟩ : S33), 0, 0, (⟨(rd_T37 t340 x9_1).f3.f0, (rd_T37 t340 x9_1).f3.f1⟩ : S35)⟩ : S37)]) := ⟨_, rfl⟩
      replace H : (purflinglaw14_SpreadNone.l0 k1 t337 t340 a2 t336 y345 (wrap64 (x9_1 + 1))) = some r := by first | (rw [hy345]; with_reducible exact H) | (have H2_ := (Option.bind_some _ _).symm.trans H; rw [hy345]; with_reducible exact H2_) | (have H2_ := (Option.bind_some _ _).symm.trans H; with_reducible exact H2_) | with_reducible exact H | (rw [hy345]; exact H) | exact H
      have Ny345 := Aside0.mk hy345
      clear hy345
      have H' := Aside0.mk H
      clear H
      obtain ⟨Ao11, co11, eo11⟩ := Kd.V_slice HO_1.out
      subst eo11
      have p343 : 0 ≤ (x9_1 : Int) := of_decide_eq_true (by first | (with_reducible assumption) | assumption)
      have q343 : x9_1 < (t340.length : Int) := of_decide_eq_true (by first | (with_reducible assumption) | assumption)
      obtain ⟨ad343, e343, hx343_0, hx343_1, hx343_2, hx343_3, hx343_4, hx343_5, hx343_6, hx343_7, hx343_8⟩ := at_T37 (Kd.V_reads' HO_1.out).2.2 x9_1 p343 q343
      cases e343
      replace p343 := eq_true p343
      replace q343 := eq_true q343
      have HE_ := Aside0.mk (Kd.R_alloc (Kd.R_mono (Kd.R_bound HO_8.out) (fun k_ hk => (show k_ ≠ wr.heap.size by have := hk.2.2.1; omega))) (.cells #[.int .i64 ((rd_T37 t340 x9_1).f0.f0), .int .i64 ((rd_T37 t340 x9_1).f0.f1), .int .i64 ((rd_T37 t340 x9_1).f0.f2), .int .i64 ((rd_T37 t340 x9_1).f0.f3), .int .i64 ((rd_T37 t340 x9_1).f0.f4), .int .i64 0, .int .i64 0, .int .i64 ((rd_T37 t340 x9_1).f3.f0), .int .i64 ((rd_T37 t340 x9_1).f3.f1)] 37))
      have HV0_ := Aside0.mk (Kd.V_alloc (Kd.V_elderB HO_0.out wr.heap.size (Nat.le_refl _)) (.cells #[.int .i64 ((rd_T37 t340 x9_1).f0.f0), .int .i64 ((rd_T37 t340 x9_1).f0.f1), .int .i64 ((rd_T37 t340 x9_1).f0.f2), .int .i64 ((rd_T37 t340 x9_1).f0.f3), .int .i64 ((rd_T37 t340 x9_1).f0.f4), .int .i64 0, .int .i64 0, .int .i64 ((rd_T37 t340 x9_1).f3.f0), .int .i64 ((rd_T37 t340 x9_1).f3.f1)] 37))
      have HV1_ := Aside0.mk (Kd.V_alloc (Kd.V_elderB HO_1.out wr.heap.size (Nat.le_refl _)) (.cells #[.int .i64 ((rd_T37 t340 x9_1).f0.f0), .int .i64 ((rd_T37 t340 x9_1).f0.f1), .int .i64 ((rd_T37 t340 x9_1).f0.f2), .int .i64 ((rd_T37 t340 x9_1).f0.f3), .int .i64 ((rd_T37 t340 x9_1).f0.f4), .int .i64 0, .int .i64 0, .int .i64 ((rd_T37 t340 x9_1).f3.f0), .int .i64 ((rd_T37 t340 x9_1).f3.f1)] 37))
      have HBE_ := Aside0.mk (HB.out.alloc HB.out.size (.cells #[.int .i64 ((rd_T37 t340 x9_1).f0.f0), .int .i64 ((rd_T37 t340 x9_1).f0.f1), .int .i64 ((rd_T37 t340 x9_1).f0.f2), .int .i64 ((rd_T37 t340 x9_1).f0.f3), .int .i64 ((rd_T37 t340 x9_1).f0.f4), .int .i64 0, .int .i64 0, .int .i64 ((rd_T37 t340 x9_1).f3.f0), .int .i64 ((rd_T37 t340 x9_1).f3.f1)] 37))
      have HS_ := Aside0.mk (show (wr.alloc (.cells #[.int .i64 ((rd_T37 t340 x9_1).f0.f0), .int .i64 ((rd_T37 t340 x9_1).f0.f1), .int .i64 ((rd_T37 t340 x9_1).f0.f2), .int .i64 ((rd_T37 t340 x9_1).f0.f3), .int .i64 ((rd_T37 t340 x9_1).f0.f4), .int .i64 0, .int .i64 0, .int .i64 ((rd_T37 t340 x9_1).f3.f0), .int .i64 ((rd_T37 t340 x9_1).f3.f1)] 37)).heap.size = wr.heap.size + 1 by simp)
      have HW_ := Aside0.mk HB.out.size
      go_wp2_with (first | ((with_reducible refine gate_builtin (b := .append) (xs := #[.tmp 32, .tmp 34]) rfl ?_); (try (refine gate_guard (by rfl) ?_; dsimp only)); at_builtin; refine Kd.R_append k37 (w0 := w) w.heap.size rfl (.tmp 32) (.tmp 34) 23 37 (.agg #[(.int .i64 0), (.int .i64 0), (.int .i64 0), (.int .i64 0), (.int .i64 0), (.int .i64 0), (.int .i64 0), (.int .i64 0), (.int .i64 0)]) 72 rfl Try.underlying23 info37 rfl (by decide) (by omega) u8 x8_1 (⟨(⟨(rd_T37 t340 x9_1).f0.f0, (rd_T37 t340 x9_1).f0.f1, (rd_T37 t340 x9_1).f0.f2, (rd_T37 t340 x9_1).f0.f3, (rd_T37 t340 x9_1).f0.f4⟩ : S33), 0, 0, (⟨(rd_T37 t340 x9_1).f3.f0, (rd_T37 t340 x9_1).f3.f1⟩ : S35)⟩ : S37) [.int .i64 ((rd_T37 t340 x9_1).f0.f0), .int .i64 ((rd_T37 t340 x9_1).f0.f1), .int .i64 ((rd_T37 t340 x9_1).f0.f2), .int .i64 ((rd_T37 t340 x9_1).f0.f3), .int .i64 ((rd_T37 t340 x9_1).f0.f4), .int .i64 0, .int .i64 0, .int .i64 ((rd_T37 t340 x9_1).f3.f0), .int .i64 ((rd_T37 t340 x9_1).f3.f1)] (fun k_ => k_ ≠ wr.heap.size) (fun _ => False) rfl ?aE (k37_mkM _ _ _ (⟨(⟨(rd_T37 t340 x9_1).f0.f0, (rd_T37 t340 x9_1).f0.f1, (rd_T37 t340 x9_1).f0.f2, (rd_T37 t340 x9_1).f0.f3, (rd_T37 t340 x9_1).f0.f4⟩ : S33), 0, 0, (⟨(rd_T37 t340 x9_1).f3.f0, (rd_T37 t340 x9_1).f3.f1⟩ : S35)⟩ : S37)) (fun _ hk => hk.elim) (fun k_ hk => by rw [HS_.out] at hk; omega) HE_.out HBE_.out (by rw [HS_.out]; have := HW_.out; omega) (by have := LMc10.out; omega) ?_; (case aE => first | (go_simp; done) | (go_simp; rfl)); intro v346 w14 ho hb hg hat; rw [← Ny345.out] at ho; have n0_ := Aside0.mk (Kd.V_afterv (ok := (fun k_ => k_ ≠ wr.heap.size)) (Kd.V_mono HV0_.out (fun _ hk => ⟨hk.2, hk.1⟩)) hg hat); have n1_ := Aside0.mk (Kd.V_afterv (ok := (fun k_ => k_ ≠ wr.heap.size)) (Kd.V_mono HV1_.out (fun _ hk => ⟨hk.2, hk.1⟩)) hg hat); clear HB HO_8 HO_0 HO_1; have HO_0 := n0_; have HO_1 := n1_; have HB := Aside0.mk hb; have HO347 := Aside0.mk ho; clear n0_ n1_ ho hb hg hat))
      go_roundg k1
      case measure => have := HK1.out; omega
      case rel => exact ⟨(y345), (wrap64 (x9_1 + 1)), (by first | rfl | (simp; done) | (simp [*]; done)), H', ⟨by have := HK1.out; omega⟩, ⟨by (with_reducible repeat (first | apply Kd.V_alloc | apply Kd.V_drewN | apply Kd.V_drew)); exact Kd.V_mono HO_0.out (fun _ hk => hk.2)⟩, ⟨by (with_reducible repeat (first | apply Kd.V_alloc | apply Kd.V_drewN | apply Kd.V_drew)); exact Kd.V_mono HO_1.out (fun _ hk => hk.2)⟩, ⟨by (with_reducible repeat (first | apply Kd.R_alloc | apply Kd.R_drewN | apply Kd.R_drew)); exact Kd.R_mono HO347.out (fun _ hk => trivial)⟩, ⟨by repeat (first | (with_reducible first | exact HB.out | apply below_alloc | apply pw_below_drewN | apply below_drew1) | exact HB.out)⟩⟩
     ·rw [if_neg c10] at H
      exact absurd H (by simp)
    ·rw [if_neg c9] at H
     exact absurd H (by simp)
   ·rw [if_neg c8] at H
    have c8b0 : decide (x9_1 < (t340.length : Int)) = false := decide_eq_false c8
    clear c8
    replace H := Option.bind_eq_some_iff.mp H
    obtain ⟨⟨t348, t349⟩, A150, H⟩ := H
    replace H : (if t349 = 0 then (if t336 = true then ((purflingref13_Same.f k1 t348 t337).bind fun t352 => (some t352)) else (some false)) else (if t336 = true then (some ((t348.length : Int) == 0)) else (some false))) = some r := H
    have A15 := Aside0.mk A150
    clear A150
    by_cases c16 : t349 = 0
    ·rw [if_pos c16] at H
     have c16b0 : (t349 == 0) = true := beq_iff_eq.mpr c16
     have c16b1 : (t349 != 0) = false := bne_eq_false_iff_eq.mpr c16
     clear c16
     by_cases c17 : t336 = true
     ·subst c17
      have H1 : ((purflingref13_Same.f k1 t348 t337).bind fun t352 => (some t352)) = some r := by rw [if_pos rfl] at H; exact H
      clear H
      have H := H1
      clear H1
      replace H := Option.bind_eq_some_iff.mp H
      obtain ⟨t352, A180, H⟩ := H
      replace H : (some t352) = some r := H
      have A18 := Aside0.mk A180
      clear A180
      obtain rfl := Option.some.inj H
      obtain ⟨Ao19, co19, eo19⟩ := Kd.V_slice HO_1.out
      subst eo19
      obtain ⟨Ao20, co20, eo20⟩ := Kd.V_slice HO_0.out
      subst eo20
      obtain ⟨Ao21, co21, eo21⟩ := Kd.R_slice HO_8.out
      subst eo21
      go_wp2_with (first | ((with_reducible refine gate_callee (f := 17) rfl ?_); refine goesL_ (some 40) rfl rfl Try.func17 (by kernel_rfl) rfl #[.slice Ao20 t337.length co20, .slice Ao21 x8_1.length co21, .int .i64 a2] rfl (by (try simp only [List.map_toArray, List.map_cons, List.map_nil]); first | done | rfl | (simp only [List.length_drop, List.length_take]; rfl)) ?_; (with_reducible refine (spread_Needs.calls _ _ t337 _ _ x8_1 a2 t348 t349 _ ?side1 ?side2 ?side3 ?side4 A15.out).mono ?_); (case side1 => repeat (first | exact (Kd.V_reads' HO_0.out).2.2 | (with_reducible refine Kd.C_alloc ?_ _) | (with_reducible refine Kd.C_drewN ?_ _) | (with_reducible refine Kd.C_drew ?_))); (case side2 => exact (Kd.V_reads' HO_0.out).2.1); (case side3 => repeat (first | exact (Kd.R_reads' HO_8.out).2.2 | (with_reducible refine Kd.C_alloc ?_ _) | (with_reducible refine Kd.C_drewN ?_ _) | (with_reducible refine Kd.C_drew ?_))); (case side4 => exact (Kd.R_reads' HO_8.out).2.1); rintro e w22 ⟨v350, rfl, ho0, hb⟩; refine ⟨_, rfl, ?_⟩; have n0_ := Aside0.mk (Kd.V_elder' (by (with_reducible repeat (first | apply Kd.V_alloc | apply Kd.V_drewN | apply Kd.V_drew)); exact HO_0.out) (Kd.R_base ho0) hb); have n1_ := Aside0.mk (Kd.V_elder' (by (with_reducible repeat (first | apply Kd.V_alloc | apply Kd.V_drewN | apply Kd.V_drew)); exact HO_1.out) (Kd.R_base ho0) hb); have n2_ := Aside0.mk (Kd.R_below (by (with_reducible repeat (first | apply Kd.R_alloc | apply Kd.R_drewN | apply Kd.R_drew)); exact HO_8.out) hb); have n3_ := Aside0.mk (Kd.R_lower ho0 (below_size (by repeat (first | (with_reducible first | exact HB.out | apply below_alloc | apply pw_below_drewN | apply below_drew1) | exact HB.out)))); have n4_ := Aside0.mk (below_step (by repeat (first | (with_reducible first | exact HB.out | apply below_alloc | apply pw_below_drewN | apply below_drew1) | exact HB.out)) hb); clear HO_0; clear HO_1; clear HO_8; clear HB; have HO_0 := n0_; have HO_1 := n1_; have HO_8 := n2_; have HO351 := n3_; have HB := n4_; clear n0_ n1_ n2_ n3_ n4_; (try clear hb); (try clear hb2); (try clear hk); (try clear hi); (try clear ho0); obtain ⟨Ao23, co23, eo23⟩ := Kd.R_slice HO351.out; subst eo23) | (go_at_call 19; (with_reducible refine (purflingref13_Same.calls k1 _ _ t348 _ _ t337 t352 _ ?side1 ?side2 ?side3 ?side4 A18.out).mono ?_); (case side1 => repeat (first | exact (Kd.R_reads' HO351.out).2.2 | (with_reducible refine Kd.C_alloc ?_ _) | (with_reducible refine Kd.C_drewN ?_ _) | (with_reducible refine Kd.C_drew ?_))); (case side2 => exact (Kd.R_reads' HO351.out).2.1); (case side3 => repeat (first | exact (Kd.V_reads' HO_0.out).2.2 | (with_reducible refine Kd.C_alloc ?_ _) | (with_reducible refine Kd.C_drewN ?_ _) | (with_reducible refine Kd.C_drew ?_))); (case side4 => exact (Kd.V_reads' HO_0.out).2.1); rintro e w' ⟨rfl, ⟨nd, rfl⟩⟩))
      go_ret
      exact ⟨by first | rfl | (simp [errW_none, errW_some] <;> rfl) | (simp [*, errW_none, errW_some] <;> rfl), by repeat (first | (with_reducible first | exact HB.out | apply below_alloc | apply pw_below_drewN | apply below_drew1) | exact HB.out)⟩
     ·replace c17 := Bool.eq_false_iff.mpr c17
      subst c17
      have H1 : (some false) = some r := by rw [if_neg (show ¬ (false = true) by decide)] at H; exact H
      clear H
      have H := H1
      clear H1
      obtain rfl := Option.some.inj H
      obtain ⟨Ao24, co24, eo24⟩ := Kd.V_slice HO_1.out
      subst eo24
      obtain ⟨Ao25, co25, eo25⟩ := Kd.V_slice HO_0.out
      subst eo25
      obtain ⟨Ao26, co26, eo26⟩ := Kd.R_slice HO_8.out
      subst eo26
      go_wp2_with (first | ((with_reducible refine gate_callee (f := 17) rfl ?_); refine goesL_ (some 40) rfl rfl Try.func17 (by kernel_rfl) rfl #[.slice Ao25 t337.length co25, .slice Ao26 x8_1.length co26, .int .i64 a2] rfl (by (try simp only [List.map_toArray, List.map_cons, List.map_nil]); first | done | rfl | (simp only [List.length_drop, List.length_take]; rfl)) ?_; (with_reducible refine (spread_Needs.calls _ _ t337 _ _ x8_1 a2 t348 t349 _ ?side1 ?side2 ?side3 ?side4 A15.out).mono ?_); (case side1 => repeat (first | exact (Kd.V_reads' HO_0.out).2.2 | (with_reducible refine Kd.C_alloc ?_ _) | (with_reducible refine Kd.C_drewN ?_ _) | (with_reducible refine Kd.C_drew ?_))); (case side2 => exact (Kd.V_reads' HO_0.out).2.1); (case side3 => repeat (first | exact (Kd.R_reads' HO_8.out).2.2 | (with_reducible refine Kd.C_alloc ?_ _) | (with_reducible refine Kd.C_drewN ?_ _) | (with_reducible refine Kd.C_drew ?_))); (case side4 => exact (Kd.R_reads' HO_8.out).2.1); rintro e w27 ⟨v350, rfl, ho0, hb⟩; refine ⟨_, rfl, ?_⟩; have n0_ := Aside0.mk (Kd.V_elder' (by (with_reducible repeat (first | apply Kd.V_alloc | apply Kd.V_drewN | apply Kd.V_drew)); exact HO_0.out) (Kd.R_base ho0) hb); have n1_ := Aside0.mk (Kd.V_elder' (by (with_reducible repeat (first | apply Kd.V_alloc | apply Kd.V_drewN | apply Kd.V_drew)); exact HO_1.out) (Kd.R_base ho0) hb); have n2_ := Aside0.mk (Kd.R_below (by (with_reducible repeat (first | apply Kd.R_alloc | apply Kd.R_drewN | apply Kd.R_drew)); exact HO_8.out) hb); have n3_ := Aside0.mk (Kd.R_lower ho0 (below_size (by repeat (first | (with_reducible first | exact HB.out | apply below_alloc | apply pw_below_drewN | apply below_drew1) | exact HB.out)))); have n4_ := Aside0.mk (below_step (by repeat (first | (with_reducible first | exact HB.out | apply below_alloc | apply pw_below_drewN | apply below_drew1) | exact HB.out)) hb); clear HO_0; clear HO_1; clear HO_8; clear HB; have HO_0 := n0_; have HO_1 := n1_; have HO_8 := n2_; have HO351 := n3_; have HB := n4_; clear n0_ n1_ n2_ n3_ n4_; (try clear hb); (try clear hb2); (try clear hk); (try clear hi); (try clear ho0)))
      go_ret
      exact ⟨by first | rfl | (simp [errW_none, errW_some] <;> rfl) | (simp [*, errW_none, errW_some] <;> rfl), by repeat (first | (with_reducible first | exact HB.out | apply below_alloc | apply pw_below_drewN | apply below_drew1) | exact HB.out)⟩
    ·rw [if_neg c16] at H
     have c16b0 : (t349 == 0) = false := beq_eq_false_iff_ne.mpr c16
     have c16b1 : (t349 != 0) = true := bne_iff_ne.mpr c16
     by_cases c28 : t336 = true
     ·subst c28
      have H1 : (some ((t348.length : Int) == 0)) = some r := by rw [if_pos rfl] at H; exact H
      clear H
      have H := H1
      clear H1
      obtain rfl := Option.some.inj H
      obtain ⟨Ao29, co29, eo29⟩ := Kd.V_slice HO_1.out
      subst eo29
      obtain ⟨Ao30, co30, eo30⟩ := Kd.V_slice HO_0.out
      subst eo30
      obtain ⟨Ao31, co31, eo31⟩ := Kd.R_slice HO_8.out
      subst eo31
      go_wp2_with (first | ((with_reducible refine gate_callee (f := 17) rfl ?_); refine goesL_ (some 40) rfl rfl Try.func17 (by kernel_rfl) rfl #[.slice Ao30 t337.length co30, .slice Ao31 x8_1.length co31, .int .i64 a2] rfl (by (try simp only [List.map_toArray, List.map_cons, List.map_nil]); first | done | rfl | (simp only [List.length_drop, List.length_take]; rfl)) ?_; (with_reducible refine (spread_Needs.calls _ _ t337 _ _ x8_1 a2 t348 t349 _ ?side1 ?side2 ?side3 ?side4 A15.out).mono ?_); (case side1 => repeat (first | exact (Kd.V_reads' HO_0.out).2.2 | (with_reducible refine Kd.C_alloc ?_ _) | (with_reducible refine Kd.C_drewN ?_ _) | (with_reducible refine Kd.C_drew ?_))); (case side2 => exact (Kd.V_reads' HO_0.out).2.1); (case side3 => repeat (first | exact (Kd.R_reads' HO_8.out).2.2 | (with_reducible refine Kd.C_alloc ?_ _) | (with_reducible refine Kd.C_drewN ?_ _) | (with_reducible refine Kd.C_drew ?_))); (case side4 => exact (Kd.R_reads' HO_8.out).2.1); rintro e w32 ⟨v350, rfl, ho0, hb⟩; refine ⟨_, rfl, ?_⟩; have n0_ := Aside0.mk (Kd.V_elder' (by (with_reducible repeat (first | apply Kd.V_alloc | apply Kd.V_drewN | apply Kd.V_drew)); exact HO_0.out) (Kd.R_base ho0) hb); have n1_ := Aside0.mk (Kd.V_elder' (by (with_reducible repeat (first | apply Kd.V_alloc | apply Kd.V_drewN | apply Kd.V_drew)); exact HO_1.out) (Kd.R_base ho0) hb); have n2_ := Aside0.mk (Kd.R_below (by (with_reducible repeat (first | apply Kd.R_alloc | apply Kd.R_drewN | apply Kd.R_drew)); exact HO_8.out) hb); have n3_ := Aside0.mk (Kd.R_lower ho0 (below_size (by repeat (first | (with_reducible first | exact HB.out | apply below_alloc | apply pw_below_drewN | apply below_drew1) | exact HB.out)))); have n4_ := Aside0.mk (below_step (by repeat (first | (with_reducible first | exact HB.out | apply below_alloc | apply pw_below_drewN | apply below_drew1) | exact HB.out)) hb); clear HO_0; clear HO_1; clear HO_8; clear HB; have HO_0 := n0_; have HO_1 := n1_; have HO_8 := n2_; have HO351 := n3_; have HB := n4_; clear n0_ n1_ n2_ n3_ n4_; (try clear hb); (try clear hb2); (try clear hk); (try clear hi); (try clear ho0); obtain ⟨Ao33, co33, eo33⟩ := Kd.R_slice HO351.out; subst eo33))
      go_ret
      exact ⟨by first | rfl | (simp [errW_none, errW_some] <;> rfl) | (simp [*, errW_none, errW_some] <;> rfl), by repeat (first | (with_reducible first | exact HB.out | apply below_alloc | apply pw_below_drewN | apply below_drew1) | exact HB.out)⟩
     ·replace c28 := Bool.eq_false_iff.mpr c28
      subst c28
      have H1 : (some false) = some r := by rw [if_neg (show ¬ (false = true) by decide)] at H; exact H
      clear H
      have H := H1
      clear H1
      obtain rfl := Option.some.inj H
      obtain ⟨Ao34, co34, eo34⟩ := Kd.V_slice HO_1.out
      subst eo34
      obtain ⟨Ao35, co35, eo35⟩ := Kd.V_slice HO_0.out
      subst eo35
      obtain ⟨Ao36, co36, eo36⟩ := Kd.R_slice HO_8.out
      subst eo36
      go_wp2_with (first | ((with_reducible refine gate_callee (f := 17) rfl ?_); refine goesL_ (some 40) rfl rfl Try.func17 (by kernel_rfl) rfl #[.slice Ao35 t337.length co35, .slice Ao36 x8_1.length co36, .int .i64 a2] rfl (by (try simp only [List.map_toArray, List.map_cons, List.map_nil]); first | done | rfl | (simp only [List.length_drop, List.length_take]; rfl)) ?_; (with_reducible refine (spread_Needs.calls _ _ t337 _ _ x8_1 a2 t348 t349 _ ?side1 ?side2 ?side3 ?side4 A15.out).mono ?_); (case side1 => repeat (first | exact (Kd.V_reads' HO_0.out).2.2 | (with_reducible refine Kd.C_alloc ?_ _) | (with_reducible refine Kd.C_drewN ?_ _) | (with_reducible refine Kd.C_drew ?_))); (case side2 => exact (Kd.V_reads' HO_0.out).2.1); (case side3 => repeat (first | exact (Kd.R_reads' HO_8.out).2.2 | (with_reducible refine Kd.C_alloc ?_ _) | (with_reducible refine Kd.C_drewN ?_ _) | (with_reducible refine Kd.C_drew ?_))); (case side4 => exact (Kd.R_reads' HO_8.out).2.1); rintro e w37 ⟨v350, rfl, ho0, hb⟩; refine ⟨_, rfl, ?_⟩; have n0_ := Aside0.mk (Kd.V_elder' (by (with_reducible repeat (first | apply Kd.V_alloc | apply Kd.V_drewN | apply Kd.V_drew)); exact HO_0.out) (Kd.R_base ho0) hb); have n1_ := Aside0.mk (Kd.V_elder' (by (with_reducible repeat (first | apply Kd.V_alloc | apply Kd.V_drewN | apply Kd.V_drew)); exact HO_1.out) (Kd.R_base ho0) hb); have n2_ := Aside0.mk (Kd.R_below (by (with_reducible repeat (first | apply Kd.R_alloc | apply Kd.R_drewN | apply Kd.R_drew)); exact HO_8.out) hb); have n3_ := Aside0.mk (Kd.R_lower ho0 (below_size (by repeat (first | (with_reducible first | exact HB.out | apply below_alloc | apply pw_below_drewN | apply below_drew1) | exact HB.out)))); have n4_ := Aside0.mk (below_step (by repeat (first | (with_reducible first | exact HB.out | apply below_alloc | apply pw_below_drewN | apply below_drew1) | exact HB.out)) hb); clear HO_0; clear HO_1; clear HO_8; clear HB; have HO_0 := n0_; have HO_1 := n1_; have HO_8 := n2_; have HO351 := n3_; have HB := n4_; clear n0_ n1_ n2_ n3_ n4_; (try clear hb); (try clear hb2); (try clear hk); (try clear hi); (try clear ho0)))
      go_ret
      exact ⟨by first | rfl | (simp [errW_none, errW_some] <;> rfl) | (simp [*, errW_none, errW_some] <;> rfl), by repeat (first | (with_reducible first | exact HB.out | apply below_alloc | apply pw_below_drewN | apply below_drew1) | exact HB.out)⟩

end Go.Proofs.Ytacigmhhegaieaa.PA
