-- MADE by wip/tools/xprint.py of this repo: the kit's print.py, turned by this session, and texts by hand
import Derived.Test.YtoblfbpigajjcaaPAx0
import Derived.Test.YtoblfbpigajjcaaPAx4
import Derived.Test.YtoblfbpigajjcaaPAx7
namespace Go.Proofs.Ytoblfbpigajjcaa.PA
open Go.RowKit Go.Proofs.YtoblfbpigajjcaaW.PrintWords Go.Proofs.YtoblfbpigajjcaaW.PrintLast Go.Proofs.YtoblfbpigajjcaaW.PrintMore
attribute [local go_sem] max2_int min2_int max_two min_two max_three min_three max_four min_four   -- for this text's walks alone
set_option linter.unusedVariables false
set_option linter.unusedSimpArgs false

/-! ### purflinglaw01_FixedAdds: function 5 -/
mutual
def purflinglaw01_FixedAdds.l0 : Nat → Int → List Int → Bool → List Int → Bool → Int → Option (Bool)
  | 0, _, _, _, _, _, _ => none
  | k + 1, x0, x1, x5, x6, x8, x9 => if x9 < (x1.length : Int) then (if x8 = true then (purflinglaw01_FixedAdds.l0 k x0 x1 x5 x6 true (wrap64 (x9 + 1))) else (if 0 ≤ x9 then (purflinglaw01_FixedAdds.l0 k x0 x1 x5 x6 (decide ((rd x1 x9) > 0)) (wrap64 (x9 + 1))) else (none))) else (purflinglaw01_FixedAdds.l1 k x1 x5 x6 x8 x0 0)
def purflinglaw01_FixedAdds.l1 : Nat → List Int → Bool → List Int → Bool → Int → Int → Option (Bool)
  | 0, _, _, _, _, _, _ => none
  | k + 1, x1, x5, x6, x8, x10, x11 => if x11 < (x1.length : Int) then (if 0 ≤ x11 then (if x11 < (x6.length : Int) then (if (rd x6 x11) < 0 then (some false) else (if x8 = true then (if (rd x1 x11) = 0 then (if (rd x6 x11) > 0 then (some false) else (if x11 > 0 then (if 0 ≤ (wrap64 (x11 - 1)) then (if (wrap64 (x11 - 1)) < (x1.length : Int) then (if (rd x1 x11) > (rd x1 (wrap64 (x11 - 1))) then (if (wrap64 (x11 - 1)) < (x6.length : Int) then (if (rd x6 x11) < (rd x6 (wrap64 (x11 - 1))) then (some false) else (if (rd x1 x11) < (rd x1 (wrap64 (x11 - 1))) then (if (rd x6 x11) > (rd x6 (wrap64 (x11 - 1))) then (some false) else (purflinglaw01_FixedAdds.l1 k x1 x5 x6 x8 (wrap64 (x10 - (rd x6 x11))) (wrap64 (x11 + 1)))) else (purflinglaw01_FixedAdds.l1 k x1 x5 x6 x8 (wrap64 (x10 - (rd x6 x11))) (wrap64 (x11 + 1))))) else (none)) else (if (rd x1 x11) < (rd x1 (wrap64 (x11 - 1))) then (if (wrap64 (x11 - 1)) < (x6.length : Int) then (if (rd x6 x11) > (rd x6 (wrap64 (x11 - 1))) then (some false) else (purflinglaw01_FixedAdds.l1 k x1 x5 x6 x8 (wrap64 (x10 - (rd x6 x11))) (wrap64 (x11 + 1)))) else (none)) else (purflinglaw01_FixedAdds.l1 k x1 x5 x6 x8 (wrap64 (x10 - (rd x6 x11))) (wrap64 (x11 + 1))))) else (none)) else (none)) else (purflinglaw01_FixedAdds.l1 k x1 x5 x6 x8 (wrap64 (x10 - (rd x6 x11))) (wrap64 (x11 + 1))))) else (if x11 > 0 then (if 0 ≤ (wrap64 (x11 - 1)) then (if (wrap64 (x11 - 1)) < (x1.length : Int) then (if (rd x1 x11) > (rd x1 (wrap64 (x11 - 1))) then (if (wrap64 (x11 - 1)) < (x6.length : Int) then (if (rd x6 x11) < (rd x6 (wrap64 (x11 - 1))) then (some false) else (if (rd x1 x11) < (rd x1 (wrap64 (x11 - 1))) then (if (rd x6 x11) > (rd x6 (wrap64 (x11 - 1))) then (some false) else (purflinglaw01_FixedAdds.l1 k x1 x5 x6 x8 (wrap64 (x10 - (rd x6 x11))) (wrap64 (x11 + 1)))) else (purflinglaw01_FixedAdds.l1 k x1 x5 x6 x8 (wrap64 (x10 - (rd x6 x11))) (wrap64 (x11 + 1))))) else (none)) else (if (rd x1 x11) < (rd x1 (wrap64 (x11 - 1))) then (if (wrap64 (x11 - 1)) < (x6.length : Int) then (if (rd x6 x11) > (rd x6 (wrap64 (x11 - 1))) then (some false) else (purflinglaw01_FixedAdds.l1 k x1 x5 x6 x8 (wrap64 (x10 - (rd x6 x11))) (wrap64 (x11 + 1)))) else (none)) else (purflinglaw01_FixedAdds.l1 k x1 x5 x6 x8 (wrap64 (x10 - (rd x6 x11))) (wrap64 (x11 + 1))))) else (none)) else (none)) else (purflinglaw01_FixedAdds.l1 k x1 x5 x6 x8 (wrap64 (x10 - (rd x6 x11))) (wrap64 (x11 + 1))))) else (if x11 > 0 then (if 0 ≤ (wrap64 (x11 - 1)) then (if (wrap64 (x11 - 1)) < (x1.length : Int) then (if (rd x1 x11) > (rd x1 (wrap64 (x11 - 1))) then (if (wrap64 (x11 - 1)) < (x6.length : Int) then (if (rd x6 x11) < (rd x6 (wrap64 (x11 - 1))) then (some false) else (if (rd x1 x11) < (rd x1 (wrap64 (x11 - 1))) then (if (rd x6 x11) > (rd x6 (wrap64 (x11 - 1))) then (some false) else (purflinglaw01_FixedAdds.l1 k x1 x5 x6 x8 (wrap64 (x10 - (rd x6 x11))) (wrap64 (x11 + 1)))) else (purflinglaw01_FixedAdds.l1 k x1 x5 x6 x8 (wrap64 (x10 - (rd x6 x11))) (wrap64 (x11 + 1))))) else (none)) else (if (rd x1 x11) < (rd x1 (wrap64 (x11 - 1))) then (if (wrap64 (x11 - 1)) < (x6.length : Int) then (if (rd x6 x11) > (rd x6 (wrap64 (x11 - 1))) then (some false) else (purflinglaw01_FixedAdds.l1 k x1 x5 x6 x8 (wrap64 (x10 - (rd x6 x11))) (wrap64 (x11 + 1)))) else (none)) else (purflinglaw01_FixedAdds.l1 k x1 x5 x6 x8 (wrap64 (x10 - (rd x6 x11))) (wrap64 (x11 + 1))))) else (none)) else (none)) else (purflinglaw01_FixedAdds.l1 k x1 x5 x6 x8 (wrap64 (x10 - (rd x6 x11))) (wrap64 (x11 + 1)))))) else (none)) else (none)) else (if x5 = true then (some (x10 == 0)) else (some false))
end
def purflinglaw01_FixedAdds.f (k : Nat) (a0 : Int) (l1 : List Int) : Option (Bool) := (purflinglaw01_shown.f k).bind fun t207 => ((purflinglaw01_cut.f l1).bind fun t208 => ((fixed_Share.f a0 t208).bind fun bt211 => (if bt211.2 = 0 then (if (bt211.1.length : Int) = (t208.length : Int) then (purflinglaw01_FixedAdds.l0 k a0 t208 t207 bt211.1 false 0) else (some false)) else (if t207 = true then (if (bt211.1.length : Int) = 0 then (some (bt211.2 == 10)) else (some false)) else (some false)))))
theorem purflinglaw01_FixedAdds.mono_l : ∀ k, (∀ y0 y1 y2 y3 y4 y5, LeO (purflinglaw01_FixedAdds.l0 k y0 y1 y2 y3 y4 y5) (purflinglaw01_FixedAdds.l0 (k + 1) y0 y1 y2 y3 y4 y5)) ∧ (∀ y0 y1 y2 y3 y4 y5, LeO (purflinglaw01_FixedAdds.l1 k y0 y1 y2 y3 y4 y5) (purflinglaw01_FixedAdds.l1 (k + 1) y0 y1 y2 y3 y4 y5))
  | 0 => ⟨fun _ _ _ _ _ _ r h => by simp [purflinglaw01_FixedAdds.l0] at h, fun _ _ _ _ _ _ r h => by simp [purflinglaw01_FixedAdds.l1] at h⟩
  | k + 1 => by
    obtain ⟨ih0, ih1⟩ := purflinglaw01_FixedAdds.mono_l k
    refine ⟨?_, ?_⟩
    · intro y0 y1 y2 y3 y4 y5
      unfold purflinglaw01_FixedAdds.l0
      repeat' first
      | (with_reducible exact ih0 _ _ _ _ _ _)
      | (with_reducible exact ih1 _ _ _ _ _ _)
      | (with_reducible exact purflinglaw01_shown.mono _)
      | (with_reducible exact LeO.refl _)
      | (with_reducible exact LeO.none _)
      | (with_reducible refine LeO.ite ?_ ?_)
      | (with_reducible refine LeO.bind ?_ (fun _ => ?_))
      | exact ih0 _ _ _ _ _ _
      | exact ih1 _ _ _ _ _ _
      | exact purflinglaw01_shown.mono _
      | exact LeO.none _
      | refine LeO.ite ?_ ?_
      | refine LeO.bind ?_ (fun _ => ?_)
    · intro y0 y1 y2 y3 y4 y5
      unfold purflinglaw01_FixedAdds.l1
      repeat' first
      | (with_reducible exact ih0 _ _ _ _ _ _)
      | (with_reducible exact ih1 _ _ _ _ _ _)
      | (with_reducible exact purflinglaw01_shown.mono _)
      | (with_reducible exact LeO.refl _)
      | (with_reducible exact LeO.none _)
      | (with_reducible refine LeO.ite ?_ ?_)
      | (with_reducible refine LeO.bind ?_ (fun _ => ?_))
      | exact ih0 _ _ _ _ _ _
      | exact ih1 _ _ _ _ _ _
      | exact purflinglaw01_shown.mono _
      | exact LeO.none _
      | refine LeO.ite ?_ ?_
      | refine LeO.bind ?_ (fun _ => ?_)
theorem purflinglaw01_FixedAdds.mono : ∀ a0 a1 k, LeO (purflinglaw01_FixedAdds.f k a0 a1) (purflinglaw01_FixedAdds.f (k + 1) a0 a1) := by
  intro a0 a1 k
  obtain ⟨ih0, ih1⟩ := purflinglaw01_FixedAdds.mono_l k
  unfold purflinglaw01_FixedAdds.f
  repeat' first
      | (with_reducible exact ih0 _ _ _ _ _ _)
      | (with_reducible exact ih1 _ _ _ _ _ _)
      | (with_reducible exact purflinglaw01_shown.mono _)
      | (with_reducible exact LeO.refl _)
      | (with_reducible exact LeO.none _)
      | (with_reducible refine LeO.ite ?_ ?_)
      | (with_reducible refine LeO.bind ?_ (fun _ => ?_))
      | exact ih0 _ _ _ _ _ _
      | exact ih1 _ _ _ _ _ _
      | exact purflinglaw01_shown.mono _
      | exact LeO.none _
      | refine LeO.ite ?_ ?_
      | refine LeO.bind ?_ (fun _ => ?_)
set_option maxHeartbeats 8000000 in
set_option maxRecDepth 100000 in
theorem purflinglaw01_FixedAdds.calls (k : Nat) (a0 : Int) (A1 : Option Addr) (c1 : Nat) (l1 : List Int) (r : Bool) (w : World) (hr1 : Kd.C (Kd.int .i64) w A1 l1.length l1) (hc1 : l1.length ≤ c1) (h : purflinglaw01_FixedAdds.f k a0 l1 = some r) :
    Calls Try.prog 5 #[.int .i64 a0, .slice A1 l1.length c1] w fun e w' => e = .returned (.bool r) ∧ Below w.heap.size w w' := by
  have HR1 := Aside0.mk hr1
  have HC1 := Aside0.mk hc1
  clear hr1 hc1
  have HB := Aside0.mk (Below.refl w.heap.size w)
  have H : ((purflinglaw01_shown.f k).bind fun t207 => ((purflinglaw01_cut.f l1).bind fun t208 => ((fixed_Share.f a0 t208).bind fun bt211 => (if bt211.2 = 0 then (if (bt211.1.length : Int) = (t208.length : Int) then (purflinglaw01_FixedAdds.l0 k a0 t208 t207 bt211.1 false 0) else (some false)) else (if t207 = true then (if (bt211.1.length : Int) = 0 then (some (bt211.2 == 10)) else (some false)) else (some false)))))) = some r := h
  clear h
  replace H := Option.bind_eq_some_iff.mp H
  obtain ⟨t207, A30, H⟩ := H
  replace H : ((purflinglaw01_cut.f l1).bind fun t208 => ((fixed_Share.f a0 t208).bind fun bt211 => (if bt211.2 = 0 then (if (bt211.1.length : Int) = (t208.length : Int) then (purflinglaw01_FixedAdds.l0 k a0 t208 t207 bt211.1 false 0) else (some false)) else (if t207 = true then (if (bt211.1.length : Int) = 0 then (some (bt211.2 == 10)) else (some false)) else (some false))))) = some r := H
  have A3 := Aside0.mk A30
  clear A30
  replace H := Option.bind_eq_some_iff.mp H
  obtain ⟨t208, A40, H⟩ := H
  replace H : ((fixed_Share.f a0 t208).bind fun bt211 => (if bt211.2 = 0 then (if (bt211.1.length : Int) = (t208.length : Int) then (purflinglaw01_FixedAdds.l0 k a0 t208 t207 bt211.1 false 0) else (some false)) else (if t207 = true then (if (bt211.1.length : Int) = 0 then (some (bt211.2 == 10)) else (some false)) else (some false)))) = some r := H
  have A4 := Aside0.mk A40
  clear A40
  replace H := Option.bind_eq_some_iff.mp H
  obtain ⟨⟨t211, t212⟩, A50, H⟩ := H
  replace H : (if t212 = 0 then (if (t211.length : Int) = (t208.length : Int) then (purflinglaw01_FixedAdds.l0 k a0 t208 t207 t211 false 0) else (some false)) else (if t207 = true then (if (t211.length : Int) = 0 then (some (t212 == 10)) else (some false)) else (some false))) = some r := H
  have A5 := Aside0.mk A50
  clear A50
  by_cases c6 : t212 = 0
  · rw [if_pos c6] at H
    have c6b0 : (t212 == 0) = true := beq_iff_eq.mpr c6
    have c6b1 : (t212 != 0) = false := bne_eq_false_iff_eq.mpr c6
    clear c6
    by_cases c7 : (t211.length : Int) = (t208.length : Int)
    · rw [if_pos c7] at H
      have c7b0 : ((t211.length : Int) == (t208.length : Int)) = true := beq_iff_eq.mpr c7
      have c7b1 : ((t211.length : Int) != (t208.length : Int)) = false := bne_eq_false_iff_eq.mpr c7
      have c7b2 : (t211.length == t208.length) = true := by first | simpa using c7 | (simp at c7 ⊢; omega)
      clear c7
      have H' := Aside0.mk H
      clear H
      go_enter Try.func5, Try.ntmps5
      go_wp2_with (first | (go_at_call 11; (with_reducible refine (purflinglaw01_shown.calls k  t207 _ A3.out).mono ?_); rintro e w8 ⟨rfl, hb⟩; have n0_ := Aside0.mk (below_step (by repeat (first | (with_reducible first | exact HB.out | apply below_alloc | apply pw_below_drewN | apply below_drew1) | exact HB.out)) hb); clear HB; have HB := n0_; clear n0_; (try clear hb); (try clear hb2); (try clear hk); (try clear hi)) | (go_at_call 13; (with_reducible refine (purflinglaw01_cut.calls (fun k_ => k_ < w.heap.size) _ _ l1 t208 _ ?side1 A4.out).mono ?_); (case side1 => exact Kd.V_mk HC1.out (Kd.F_below (Kd.C_F (Kd.heap_int .i64) HR1.out) (by repeat (first | (with_reducible first | exact HB.out | apply below_alloc | apply pw_below_drewN | apply below_drew1) | exact HB.out)))); rintro e w9 ⟨v209, rfl, ho0, hb⟩; have n0_ := Aside0.mk (Kd.V_lower (Kd.V_mono (ok' := fun k_ => True) ho0 (fun k_ hk_ => trivial)) (below_size (by repeat (first | (with_reducible first | exact HB.out | apply below_alloc | apply pw_below_drewN | apply below_drew1) | exact HB.out)))); have n1_ := Aside0.mk (below_step (by repeat (first | (with_reducible first | exact HB.out | apply below_alloc | apply pw_below_drewN | apply below_drew1) | exact HB.out)) hb); clear HB; have HO210 := n0_; have HB := n1_; clear n0_ n1_; (try clear hb); (try clear hb2); (try clear hk); (try clear hi); (try clear ho0); obtain ⟨Ao10, co10, eo10⟩ := Kd.V_slice HO210.out; subst eo10) | (go_at_call 12; (with_reducible refine (fixed_Share.calls a0 _ _ t208 t211 t212 _ ?side1 ?side2 A5.out).mono ?_); (case side1 => repeat (first | exact (Kd.V_reads' HO210.out).2.2 | (with_reducible refine Kd.C_alloc ?_ _) | (with_reducible refine Kd.C_drewN ?_ _) | (with_reducible refine Kd.C_drew ?_))); (case side2 => exact (Kd.V_reads' HO210.out).2.1); rintro e w11 ⟨v213, rfl, ho0, hb⟩; have n0_ := Aside0.mk (Kd.V_elder' (by (with_reducible repeat (first | apply Kd.V_alloc | apply Kd.V_drewN | apply Kd.V_drew)); exact HO210.out) (Kd.R_base ho0) hb); have n1_ := Aside0.mk (Kd.R_lower ho0 (below_size (by repeat (first | (with_reducible first | exact HB.out | apply below_alloc | apply pw_below_drewN | apply below_drew1) | exact HB.out)))); have n2_ := Aside0.mk (below_step (by repeat (first | (with_reducible first | exact HB.out | apply below_alloc | apply pw_below_drewN | apply below_drew1) | exact HB.out)) hb); clear HO210; clear HB; have HO210 := n0_; have HO214 := n1_; have HB := n2_; clear n0_ n1_ n2_; (try clear hb); (try clear hb2); (try clear hk); (try clear hi); (try clear ho0); obtain ⟨Ao12, co12, eo12⟩ := Kd.R_slice HO214.out; subst eo12))
      repeat (go_quiet (first | (go_at_call 11; (with_reducible refine (purflinglaw01_shown.calls k  t207 _ A3.out).mono ?_); rintro e w8 ⟨rfl, hb⟩; have n0_ := Aside0.mk (below_step (by repeat (first | (with_reducible first | exact HB.out | apply below_alloc | apply pw_below_drewN | apply below_drew1) | exact HB.out)) hb); clear HB; have HB := n0_; clear n0_; (try clear hb); (try clear hb2); (try clear hk); (try clear hi)) | (go_at_call 13; (with_reducible refine (purflinglaw01_cut.calls (fun k_ => k_ < w.heap.size) _ _ l1 t208 _ ?side1 A4.out).mono ?_); (case side1 => exact Kd.V_mk HC1.out (Kd.F_below (Kd.C_F (Kd.heap_int .i64) HR1.out) (by repeat (first | (with_reducible first | exact HB.out | apply below_alloc | apply pw_below_drewN | apply below_drew1) | exact HB.out)))); rintro e w9 ⟨v209, rfl, ho0, hb⟩; have n0_ := Aside0.mk (Kd.V_lower (Kd.V_mono (ok' := fun k_ => True) ho0 (fun k_ hk_ => trivial)) (below_size (by repeat (first | (with_reducible first | exact HB.out | apply below_alloc | apply pw_below_drewN | apply below_drew1) | exact HB.out)))); have n1_ := Aside0.mk (below_step (by repeat (first | (with_reducible first | exact HB.out | apply below_alloc | apply pw_below_drewN | apply below_drew1) | exact HB.out)) hb); clear HB; have HO210 := n0_; have HB := n1_; clear n0_ n1_; (try clear hb); (try clear hb2); (try clear hk); (try clear hi); (try clear ho0); obtain ⟨Ao10, co10, eo10⟩ := Kd.V_slice HO210.out; subst eo10) | (go_at_call 12; (with_reducible refine (fixed_Share.calls a0 _ _ t208 t211 t212 _ ?side1 ?side2 A5.out).mono ?_); (case side1 => repeat (first | exact (Kd.V_reads' HO210.out).2.2 | (with_reducible refine Kd.C_alloc ?_ _) | (with_reducible refine Kd.C_drewN ?_ _) | (with_reducible refine Kd.C_drew ?_))); (case side2 => exact (Kd.V_reads' HO210.out).2.1); rintro e w11 ⟨v213, rfl, ho0, hb⟩; have n0_ := Aside0.mk (Kd.V_elder' (by (with_reducible repeat (first | apply Kd.V_alloc | apply Kd.V_drewN | apply Kd.V_drew)); exact HO210.out) (Kd.R_base ho0) hb); have n1_ := Aside0.mk (Kd.R_lower ho0 (below_size (by repeat (first | (with_reducible first | exact HB.out | apply below_alloc | apply pw_below_drewN | apply below_drew1) | exact HB.out)))); have n2_ := Aside0.mk (below_step (by repeat (first | (with_reducible first | exact HB.out | apply below_alloc | apply pw_below_drewN | apply below_drew1) | exact HB.out)) hb); clear HO210; clear HB; have HO210 := n0_; have HO214 := n1_; have HB := n2_; clear n0_ n1_ n2_; (try clear hb); (try clear hb2); (try clear hk); (try clear hi); (try clear ho0); obtain ⟨Ao12, co12, eo12⟩ := Kd.R_slice HO214.out; subst eo12)); try go_wp2_with (first | (go_at_call 11; (with_reducible refine (purflinglaw01_shown.calls k  t207 _ A3.out).mono ?_); rintro e w8 ⟨rfl, hb⟩; have n0_ := Aside0.mk (below_step (by repeat (first | (with_reducible first | exact HB.out | apply below_alloc | apply pw_below_drewN | apply below_drew1) | exact HB.out)) hb); clear HB; have HB := n0_; clear n0_; (try clear hb); (try clear hb2); (try clear hk); (try clear hi)) | (go_at_call 13; (with_reducible refine (purflinglaw01_cut.calls (fun k_ => k_ < w.heap.size) _ _ l1 t208 _ ?side1 A4.out).mono ?_); (case side1 => exact Kd.V_mk HC1.out (Kd.F_below (Kd.C_F (Kd.heap_int .i64) HR1.out) (by repeat (first | (with_reducible first | exact HB.out | apply below_alloc | apply pw_below_drewN | apply below_drew1) | exact HB.out)))); rintro e w9 ⟨v209, rfl, ho0, hb⟩; have n0_ := Aside0.mk (Kd.V_lower (Kd.V_mono (ok' := fun k_ => True) ho0 (fun k_ hk_ => trivial)) (below_size (by repeat (first | (with_reducible first | exact HB.out | apply below_alloc | apply pw_below_drewN | apply below_drew1) | exact HB.out)))); have n1_ := Aside0.mk (below_step (by repeat (first | (with_reducible first | exact HB.out | apply below_alloc | apply pw_below_drewN | apply below_drew1) | exact HB.out)) hb); clear HB; have HO210 := n0_; have HB := n1_; clear n0_ n1_; (try clear hb); (try clear hb2); (try clear hk); (try clear hi); (try clear ho0); obtain ⟨Ao10, co10, eo10⟩ := Kd.V_slice HO210.out; subst eo10) | (go_at_call 12; (with_reducible refine (fixed_Share.calls a0 _ _ t208 t211 t212 _ ?side1 ?side2 A5.out).mono ?_); (case side1 => repeat (first | exact (Kd.V_reads' HO210.out).2.2 | (with_reducible refine Kd.C_alloc ?_ _) | (with_reducible refine Kd.C_drewN ?_ _) | (with_reducible refine Kd.C_drew ?_))); (case side2 => exact (Kd.V_reads' HO210.out).2.1); rintro e w11 ⟨v213, rfl, ho0, hb⟩; have n0_ := Aside0.mk (Kd.V_elder' (by (with_reducible repeat (first | apply Kd.V_alloc | apply Kd.V_drewN | apply Kd.V_drew)); exact HO210.out) (Kd.R_base ho0) hb); have n1_ := Aside0.mk (Kd.R_lower ho0 (below_size (by repeat (first | (with_reducible first | exact HB.out | apply below_alloc | apply pw_below_drewN | apply below_drew1) | exact HB.out)))); have n2_ := Aside0.mk (below_step (by repeat (first | (with_reducible first | exact HB.out | apply below_alloc | apply pw_below_drewN | apply below_drew1) | exact HB.out)) hb); clear HO210; clear HB; have HO210 := n0_; have HO214 := n1_; have HB := n2_; clear n0_ n1_ n2_; (try clear hb); (try clear hb2); (try clear hk); (try clear hi); (try clear ho0); obtain ⟨Ao12, co12, eo12⟩ := Kd.R_slice HO214.out; subst eo12)))
      go_loopg [8, 9] k (fun kq v8 v9 w' => ∃ (x8_1 : Bool) (x9_1 : Int), v8 = .bool x8_1 ∧ v9 = .int .i64 x9_1 ∧ Aside0 (purflinglaw01_FixedAdds.l0 kq a0 t208 t207 t211 x8_1 x9_1 = some r) ∧ Aside0 (kq ≤ k) ∧ Aside0 (Kd.V (Kd.int .i64) 2 w' w.heap.size (fun k_ => some k_ ≠ ((.slice Ao12 t211.length co12) : Value).ownBlock) (.slice Ao10 t208.length co10) t208) ∧ Aside0 (Kd.R (Kd.int .i64) 2 w' w.heap.size (fun _ => True) (.slice Ao12 t211.length co12) t211) ∧ Aside0 (Below w.heap.size w w'))
      case atStart => exact ⟨(false), (0), (by first | rfl | (simp; done) | (simp [*]; done)), (by first | rfl | (simp; done) | (simp [*]; done)), H', ⟨Nat.le_refl _⟩, ⟨by (with_reducible repeat (first | apply Kd.V_alloc | apply Kd.V_drewN | apply Kd.V_drew)); exact Kd.V_mono HO210.out (fun _ hk => hk.2)⟩, ⟨by (with_reducible repeat (first | apply Kd.R_alloc | apply Kd.R_drewN | apply Kd.R_drew)); exact HO214.out⟩, ⟨by repeat (first | (with_reducible first | exact HB.out | apply below_alloc | apply pw_below_drewN | apply below_drew1) | exact HB.out)⟩⟩
      case round =>
        clear H'
        try clear c1
        try clear p2
        try clear c5
        try clear c6
        try clear c6b0
        try clear c6b1
        try clear c7
        try clear c7b0
        try clear c7b1
        try clear c7b2
        obtain ⟨x8_1, x9_1, rfl, rfl, HA, HK1, HO_1, HO_6, HB⟩ := hrel
        cases gk with
        | zero => exact absurd HA.out (by simp [purflinglaw01_FixedAdds.l0])
        | succ k1 =>
          have H := HA.out
          clear HA
          simp only [purflinglaw01_FixedAdds.l0] at H
          by_cases c13 : x9_1 < (t208.length : Int)
          · rw [if_pos c13] at H
            have c13b0 : decide (x9_1 < (t208.length : Int)) = true := decide_eq_true c13
            clear c13
            by_cases c14 : x8_1 = true
            · subst c14
              have H1 : (purflinglaw01_FixedAdds.l0 k1 a0 t208 t207 t211 true (wrap64 (x9_1 + 1))) = some r := by rw [if_pos rfl] at H; exact H
              clear H
              have H := H1
              clear H1
              have H' := Aside0.mk H
              clear H
              go_wp2
              repeat (go_quiet (fail); try go_wp2)
              go_roundg k1
              case measure => have := HK1.out; omega
              case rel => exact ⟨(true), (wrap64 (x9_1 + 1)), (by first | rfl | (simp; done) | (simp [*]; done)), (by first | rfl | (simp; done) | (simp [*]; done)), H', ⟨by have := HK1.out; omega⟩, ⟨by (with_reducible repeat (first | apply Kd.V_alloc | apply Kd.V_drewN | apply Kd.V_drew)); exact HO_1.out⟩, ⟨by (with_reducible repeat (first | apply Kd.R_alloc | apply Kd.R_drewN | apply Kd.R_drew)); exact HO_6.out⟩, ⟨by repeat (first | (with_reducible first | exact HB.out | apply below_alloc | apply pw_below_drewN | apply below_drew1) | exact HB.out)⟩⟩
            · replace c14 := Bool.eq_false_iff.mpr c14
              subst c14
              have H1 : (if 0 ≤ x9_1 then (purflinglaw01_FixedAdds.l0 k1 a0 t208 t207 t211 (decide ((rd t208 x9_1) > 0)) (wrap64 (x9_1 + 1))) else (none)) = some r := by rw [if_neg (show ¬ (false = true) by decide)] at H; exact H
              clear H
              have H := H1
              clear H1
              by_cases c15 : 0 ≤ x9_1
              · rw [if_pos c15] at H
                have c15b0 : decide (0 ≤ x9_1) = true := decide_eq_true c15
                clear c15
                have H' := Aside0.mk H
                clear H
                have p215 : 0 ≤ (x9_1 : Int) := of_decide_eq_true (by first | (with_reducible assumption) | assumption)
                have q215 : x9_1 < (t208.length : Int) := of_decide_eq_true (by first | (with_reducible assumption) | assumption)
                obtain ⟨ad215, e215, hx215_0⟩ := Kd.at_int (Kd.V_reads' HO_1.out).2.2 x9_1 p215 q215
                cases e215
                replace p215 := eq_true p215
                replace q215 := eq_true q215
                go_wp2
                repeat (go_quiet (fail); try go_wp2)
                go_roundg k1
                case measure => have := HK1.out; omega
                case rel => exact ⟨(decide ((rd t208 x9_1) > 0)), (wrap64 (x9_1 + 1)), (by first | rfl | (simp; done) | (simp [*]; done)), (by first | rfl | (simp; done) | (simp [*]; done)), H', ⟨by have := HK1.out; omega⟩, ⟨by (with_reducible repeat (first | apply Kd.V_alloc | apply Kd.V_drewN | apply Kd.V_drew)); exact HO_1.out⟩, ⟨by (with_reducible repeat (first | apply Kd.R_alloc | apply Kd.R_drewN | apply Kd.R_drew)); exact HO_6.out⟩, ⟨by repeat (first | (with_reducible first | exact HB.out | apply below_alloc | apply pw_below_drewN | apply below_drew1) | exact HB.out)⟩⟩
              · rw [if_neg c15] at H
                exact absurd H (by simp)
          · rw [if_neg c13] at H
            have c13b0 : decide (x9_1 < (t208.length : Int)) = false := decide_eq_false c13
            clear c13
            have H' := Aside0.mk H
            clear H
            go_wp2
            repeat (go_quiet (fail); try go_wp2)
            go_loopg [10, 11] k1 (fun kq v10 v11 w' => ∃ (x10_2 : Int) (x11_2 : Int), v10 = .int .i64 x10_2 ∧ v11 = .int .i64 x11_2 ∧ Aside0 (purflinglaw01_FixedAdds.l1 kq t208 t207 t211 x8_1 x10_2 x11_2 = some r) ∧ Aside0 (kq ≤ k1) ∧ Aside0 (Kd.V (Kd.int .i64) 2 w' w.heap.size (fun k_ => some k_ ≠ ((.slice Ao12 t211.length co12) : Value).ownBlock) (.slice Ao10 t208.length co10) t208) ∧ Aside0 (Kd.R (Kd.int .i64) 2 w' w.heap.size (fun _ => True) (.slice Ao12 t211.length co12) t211) ∧ Aside0 (Below w.heap.size w w'))
            case atStart => exact ⟨(a0), (0), (by first | rfl | (simp; done) | (simp [*]; done)), (by first | rfl | (simp; done) | (simp [*]; done)), H', ⟨Nat.le_refl _⟩, ⟨by (with_reducible repeat (first | apply Kd.V_alloc | apply Kd.V_drewN | apply Kd.V_drew)); exact HO_1.out⟩, ⟨by (with_reducible repeat (first | apply Kd.R_alloc | apply Kd.R_drewN | apply Kd.R_drew)); exact HO_6.out⟩, ⟨by repeat (first | (with_reducible first | exact HB.out | apply below_alloc | apply pw_below_drewN | apply below_drew1) | exact HB.out)⟩⟩
            case round =>
              clear H'
              try clear c1
              try clear p2
              try clear q2
              try clear hx2
              try clear c5
              try clear c6
              try clear c6b0
              try clear c6b1
              try clear p6
              try clear c7
              try clear c7b0
              try clear c7b1
              try clear c7b2
              try clear c13
              try clear c13b0
              try clear c14
              try clear c15
              try clear c15b0
              try clear hx215_0
              try clear p2
              try clear p215
              try clear q215
              obtain ⟨x10_2, x11_2, rfl, rfl, HA, HK2, HO_1, HO_6, HB⟩ := hrel
              cases gk with
              | zero => exact absurd HA.out (by simp [purflinglaw01_FixedAdds.l1])
              | succ k2 =>
                have H := HA.out
                clear HA
                simp only [purflinglaw01_FixedAdds.l1] at H
                by_cases c16 : x11_2 < (t208.length : Int)
                · rw [if_pos c16] at H
                  have c16b0 : decide (x11_2 < (t208.length : Int)) = true := decide_eq_true c16
                  clear c16
                  by_cases c17 : 0 ≤ x11_2
                  · rw [if_pos c17] at H
                    have c17b0 : decide (0 ≤ x11_2) = true := decide_eq_true c17
                    clear c17
                    by_cases c18 : x11_2 < (t211.length : Int)
                    · rw [if_pos c18] at H
                      have c18b0 : decide (x11_2 < (t211.length : Int)) = true := decide_eq_true c18
                      clear c18
                      by_cases c19 : (rd t211 x11_2) < 0
                      · rw [if_pos c19] at H
                        have c19b0 : decide ((rd t211 x11_2) < 0) = true := decide_eq_true c19
                        clear c19
                        obtain rfl := Option.some.inj H
                        have p216 : 0 ≤ (x11_2 : Int) := of_decide_eq_true (by first | (with_reducible assumption) | assumption)
                        have q216 : x11_2 < (t211.length : Int) := of_decide_eq_true (by first | (with_reducible assumption) | assumption)
                        obtain ⟨ad216, e216, hx216_0⟩ := Kd.at_int (Kd.R_reads' HO_6.out).2.2 x11_2 p216 q216
                        cases e216
                        replace p216 := eq_true p216
                        replace q216 := eq_true q216
                        have p217 : 0 ≤ (x11_2 : Int) := of_decide_eq_true (by first | (with_reducible assumption) | assumption)
                        have q217 : x11_2 < (t211.length : Int) := of_decide_eq_true (by first | (with_reducible assumption) | assumption)
                        obtain ⟨ad217, e217, hx217_0⟩ := Kd.at_int (Kd.R_reads' HO_6.out).2.2 x11_2 p217 q217
                        obtain rfl : ad216 = ad217 := (by injection e217)
                        replace p217 := eq_true p217
                        replace q217 := eq_true q217
                        go_wp2
                        repeat (go_quiet (fail); try go_wp2)
                        go_ret
                        exact ⟨by first | rfl | (simp [errW_none, errW_some] <;> rfl) | (simp [*, errW_none, errW_some] <;> rfl), by repeat (first | (with_reducible first | exact HB.out | apply below_alloc | apply pw_below_drewN | apply below_drew1) | exact HB.out)⟩
                      · rw [if_neg c19] at H
                        have c19b0 : decide ((rd t211 x11_2) < 0) = false := decide_eq_false c19
                        clear c19
                        by_cases c20 : x8_1 = true
                        · subst c20
                          have H1 : (if (rd t208 x11_2) = 0 then (if (rd t211 x11_2) > 0 then (some false) else (if x11_2 > 0 then (if 0 ≤ (wrap64 (x11_2 - 1)) then (if (wrap64 (x11_2 - 1)) < (t208.length : Int) then (if (rd t208 x11_2) > (rd t208 (wrap64 (x11_2 - 1))) then (if (wrap64 (x11_2 - 1)) < (t211.length : Int) then (if (rd t211 x11_2) < (rd t211 (wrap64 (x11_2 - 1))) then (some false) else (if (rd t208 x11_2) < (rd t208 (wrap64 (x11_2 - 1))) then (if (rd t211 x11_2) > (rd t211 (wrap64 (x11_2 - 1))) then (some false) else (purflinglaw01_FixedAdds.l1 k2 t208 t207 t211 true (wrap64 (x10_2 - (rd t211 x11_2))) (wrap64 (x11_2 + 1)))) else (purflinglaw01_FixedAdds.l1 k2 t208 t207 t211 true (wrap64 (x10_2 - (rd t211 x11_2))) (wrap64 (x11_2 + 1))))) else (none)) else (if (rd t208 x11_2) < (rd t208 (wrap64 (x11_2 - 1))) then (if (wrap64 (x11_2 - 1)) < (t211.length : Int) then (if (rd t211 x11_2) > (rd t211 (wrap64 (x11_2 - 1))) then (some false) else (purflinglaw01_FixedAdds.l1 k2 t208 t207 t211 true (wrap64 (x10_2 - (rd t211 x11_2))) (wrap64 (x11_2 + 1)))) else (none)) else (purflinglaw01_FixedAdds.l1 k2 t208 t207 t211 true (wrap64 (x10_2 - (rd t211 x11_2))) (wrap64 (x11_2 + 1))))) else (none)) else (none)) else (purflinglaw01_FixedAdds.l1 k2 t208 t207 t211 true (wrap64 (x10_2 - (rd t211 x11_2))) (wrap64 (x11_2 + 1))))) else (if x11_2 > 0 then (if 0 ≤ (wrap64 (x11_2 - 1)) then (if (wrap64 (x11_2 - 1)) < (t208.length : Int) then (if (rd t208 x11_2) > (rd t208 (wrap64 (x11_2 - 1))) then (if (wrap64 (x11_2 - 1)) < (t211.length : Int) then (if (rd t211 x11_2) < (rd t211 (wrap64 (x11_2 - 1))) then (some false) else (if (rd t208 x11_2) < (rd t208 (wrap64 (x11_2 - 1))) then (if (rd t211 x11_2) > (rd t211 (wrap64 (x11_2 - 1))) then (some false) else (purflinglaw01_FixedAdds.l1 k2 t208 t207 t211 true (wrap64 (x10_2 - (rd t211 x11_2))) (wrap64 (x11_2 + 1)))) else (purflinglaw01_FixedAdds.l1 k2 t208 t207 t211 true (wrap64 (x10_2 - (rd t211 x11_2))) (wrap64 (x11_2 + 1))))) else (none)) else (if (rd t208 x11_2) < (rd t208 (wrap64 (x11_2 - 1))) then (if (wrap64 (x11_2 - 1)) < (t211.length : Int) then (if (rd t211 x11_2) > (rd t211 (wrap64 (x11_2 - 1))) then (some false) else (purflinglaw01_FixedAdds.l1 k2 t208 t207 t211 true (wrap64 (x10_2 - (rd t211 x11_2))) (wrap64 (x11_2 + 1)))) else (none)) else (purflinglaw01_FixedAdds.l1 k2 t208 t207 t211 true (wrap64 (x10_2 - (rd t211 x11_2))) (wrap64 (x11_2 + 1))))) else (none)) else (none)) else (purflinglaw01_FixedAdds.l1 k2 t208 t207 t211 true (wrap64 (x10_2 - (rd t211 x11_2))) (wrap64 (x11_2 + 1))))) = some r := by rw [if_pos rfl] at H; exact H
                          clear H
                          have H := H1
                          clear H1
                          by_cases c21 : (rd t208 x11_2) = 0
                          · rw [if_pos c21] at H
                            have c21b0 : ((rd t208 x11_2) == 0) = true := beq_iff_eq.mpr c21
                            have c21b1 : ((rd t208 x11_2) != 0) = false := bne_eq_false_iff_eq.mpr c21
                            clear c21
                            by_cases c22 : (rd t211 x11_2) > 0
                            · rw [if_pos c22] at H
                              have c22b0 : decide (0 < (rd t211 x11_2)) = true := decide_eq_true c22
                              clear c22
                              obtain rfl := Option.some.inj H
                              have p216 : 0 ≤ (x11_2 : Int) := of_decide_eq_true (by first | (with_reducible assumption) | assumption)
                              have q216 : x11_2 < (t211.length : Int) := of_decide_eq_true (by first | (with_reducible assumption) | assumption)
                              obtain ⟨ad216, e216, hx216_0⟩ := Kd.at_int (Kd.R_reads' HO_6.out).2.2 x11_2 p216 q216
                              cases e216
                              replace p216 := eq_true p216
                              replace q216 := eq_true q216
                              have p217 : 0 ≤ (x11_2 : Int) := of_decide_eq_true (by first | (with_reducible assumption) | assumption)
                              have q217 : x11_2 < (t211.length : Int) := of_decide_eq_true (by first | (with_reducible assumption) | assumption)
                              obtain ⟨ad217, e217, hx217_0⟩ := Kd.at_int (Kd.R_reads' HO_6.out).2.2 x11_2 p217 q217
                              obtain rfl : ad216 = ad217 := (by injection e217)
                              replace p217 := eq_true p217
                              replace q217 := eq_true q217
                              have p218 : 0 ≤ (x11_2 : Int) := of_decide_eq_true (by first | (with_reducible assumption) | assumption)
                              have q218 : x11_2 < (t208.length : Int) := of_decide_eq_true (by first | (with_reducible assumption) | assumption)
                              obtain ⟨ad218, e218, hx218_0⟩ := Kd.at_int (Kd.V_reads' HO_1.out).2.2 x11_2 p218 q218
                              cases e218
                              replace p218 := eq_true p218
                              replace q218 := eq_true q218
                              have p219 : 0 ≤ (x11_2 : Int) := of_decide_eq_true (by first | (with_reducible assumption) | assumption)
                              have q219 : x11_2 < (t211.length : Int) := of_decide_eq_true (by first | (with_reducible assumption) | assumption)
                              obtain ⟨ad219, e219, hx219_0⟩ := Kd.at_int (Kd.R_reads' HO_6.out).2.2 x11_2 p219 q219
                              obtain rfl : ad216 = ad219 := (by injection e219)
                              replace p219 := eq_true p219
                              replace q219 := eq_true q219
                              go_wp2
                              repeat (go_quiet (fail); try go_wp2)
                              go_ret
                              exact ⟨by first | rfl | (simp [errW_none, errW_some] <;> rfl) | (simp [*, errW_none, errW_some] <;> rfl), by repeat (first | (with_reducible first | exact HB.out | apply below_alloc | apply pw_below_drewN | apply below_drew1) | exact HB.out)⟩
                            · rw [if_neg c22] at H
                              have c22b0 : decide (0 < (rd t211 x11_2)) = false := decide_eq_false c22
                              clear c22
                              by_cases c23 : x11_2 > 0
                              · rw [if_pos c23] at H
                                have c23b0 : decide (0 < x11_2) = true := decide_eq_true c23
                                clear c23
                                obtain ⟨ji24, hji24⟩ : ∃ j_ : Int, (wrap64 (x11_2 - 1)) = j_ := ⟨_, rfl⟩
                                replace H : (if 0 ≤ (ji24) then (if (ji24) < (t208.length : Int) then (if (rd t208 x11_2) > (rd t208 (ji24)) then (if (ji24) < (t211.length : Int) then (if (rd t211 x11_2) < (rd t211 (ji24)) then (some false) else (if (rd t208 x11_2) < (rd t208 (ji24)) then (if (rd t211 x11_2) > (rd t211 (ji24)) then (some false) else (purflinglaw01_FixedAdds.l1 k2 t208 t207 t211 true (wrap64 (x10_2 - (rd t211 x11_2))) (wrap64 (x11_2 + 1)))) else (purflinglaw01_FixedAdds.l1 k2 t208 t207 t211 true (wrap64 (x10_2 - (rd t211 x11_2))) (wrap64 (x11_2 + 1))))) else (none)) else (if (rd t208 x11_2) < (rd t208 (ji24)) then (if (ji24) < (t211.length : Int) then (if (rd t211 x11_2) > (rd t211 (ji24)) then (some false) else (purflinglaw01_FixedAdds.l1 k2 t208 t207 t211 true (wrap64 (x10_2 - (rd t211 x11_2))) (wrap64 (x11_2 + 1)))) else (none)) else (purflinglaw01_FixedAdds.l1 k2 t208 t207 t211 true (wrap64 (x10_2 - (rd t211 x11_2))) (wrap64 (x11_2 + 1))))) else (none)) else (none)) = some r := by first | (rw [hji24] at H; exact H) | (simp only [hji24] at H ⊢; exact H)
                                have hji24w : (IntKind.i64.wrap (x11_2 - 1)) = ji24 := (i64_w _).trans hji24
                                by_cases c25 : 0 ≤ (ji24)
                                · rw [if_pos c25] at H
                                  have c25b0 : decide (0 ≤ (ji24)) = true := decide_eq_true c25
                                  clear c25
                                  by_cases c26 : (ji24) < (t208.length : Int)
                                  · rw [if_pos c26] at H
                                    have c26b0 : decide ((ji24) < (t208.length : Int)) = true := decide_eq_true c26
                                    clear c26
                                    by_cases c27 : (rd t208 x11_2) > (rd t208 (ji24))
                                    · as_aux_lemma =>
                                      rw [if_pos c27] at H
                                      have c27b0 : decide ((rd t208 (ji24)) < (rd t208 x11_2)) = true := decide_eq_true c27
                                      clear c27
                                      by_cases c28 : (ji24) < (t211.length : Int)
                                      · rw [if_pos c28] at H
                                        have c28b0 : decide ((ji24) < (t211.length : Int)) = true := decide_eq_true c28
                                        clear c28
                                        by_cases c29 : (rd t211 x11_2) < (rd t211 (ji24))
                                        · rw [if_pos c29] at H
                                          have c29b0 : decide ((rd t211 x11_2) < (rd t211 (ji24))) = true := decide_eq_true c29
                                          clear c29
                                          obtain rfl := Option.some.inj H
                                          have p216 : 0 ≤ (x11_2 : Int) := of_decide_eq_true (by first | (with_reducible assumption) | assumption)
                                          have q216 : x11_2 < (t211.length : Int) := of_decide_eq_true (by first | (with_reducible assumption) | assumption)
                                          obtain ⟨ad216, e216, hx216_0⟩ := Kd.at_int (Kd.R_reads' HO_6.out).2.2 x11_2 p216 q216
                                          cases e216
                                          replace p216 := eq_true p216
                                          replace q216 := eq_true q216
                                          have p217 : 0 ≤ (x11_2 : Int) := of_decide_eq_true (by first | (with_reducible assumption) | assumption)
                                          have q217 : x11_2 < (t211.length : Int) := of_decide_eq_true (by first | (with_reducible assumption) | assumption)
                                          obtain ⟨ad217, e217, hx217_0⟩ := Kd.at_int (Kd.R_reads' HO_6.out).2.2 x11_2 p217 q217
                                          obtain rfl : ad216 = ad217 := (by injection e217)
                                          replace p217 := eq_true p217
                                          replace q217 := eq_true q217
                                          have p218 : 0 ≤ (x11_2 : Int) := of_decide_eq_true (by first | (with_reducible assumption) | assumption)
                                          have q218 : x11_2 < (t208.length : Int) := of_decide_eq_true (by first | (with_reducible assumption) | assumption)
                                          obtain ⟨ad218, e218, hx218_0⟩ := Kd.at_int (Kd.V_reads' HO_1.out).2.2 x11_2 p218 q218
                                          cases e218
                                          replace p218 := eq_true p218
                                          replace q218 := eq_true q218
                                          have p219 : 0 ≤ (x11_2 : Int) := of_decide_eq_true (by first | (with_reducible assumption) | assumption)
                                          have q219 : x11_2 < (t211.length : Int) := of_decide_eq_true (by first | (with_reducible assumption) | assumption)
                                          obtain ⟨ad219, e219, hx219_0⟩ := Kd.at_int (Kd.R_reads' HO_6.out).2.2 x11_2 p219 q219
                                          obtain rfl : ad216 = ad219 := (by injection e219)
                                          replace p219 := eq_true p219
                                          replace q219 := eq_true q219
                                          have p220 : 0 ≤ (x11_2 : Int) := of_decide_eq_true (by first | (with_reducible assumption) | assumption)
                                          have q220 : x11_2 < (t208.length : Int) := of_decide_eq_true (by first | (with_reducible assumption) | assumption)
                                          obtain ⟨ad220, e220, hx220_0⟩ := Kd.at_int (Kd.V_reads' HO_1.out).2.2 x11_2 p220 q220
                                          obtain rfl : ad218 = ad220 := (by injection e220)
                                          replace p220 := eq_true p220
                                          replace q220 := eq_true q220
                                          have p221 : 0 ≤ ((ji24) : Int) := of_decide_eq_true (by first | (with_reducible assumption) | assumption)
                                          have q221 : (ji24) < (t208.length : Int) := of_decide_eq_true (by first | (with_reducible assumption) | assumption)
                                          obtain ⟨ad221, e221, hx221_0⟩ := Kd.at_int (Kd.V_reads' HO_1.out).2.2 (ji24) p221 q221
                                          obtain rfl : ad218 = ad221 := (by injection e221)
                                          replace p221 := eq_true p221
                                          replace q221 := eq_true q221
                                          have p222 : 0 ≤ (x11_2 : Int) := of_decide_eq_true (by first | (with_reducible assumption) | assumption)
                                          have q222 : x11_2 < (t211.length : Int) := of_decide_eq_true (by first | (with_reducible assumption) | assumption)
                                          obtain ⟨ad222, e222, hx222_0⟩ := Kd.at_int (Kd.R_reads' HO_6.out).2.2 x11_2 p222 q222
                                          obtain rfl : ad216 = ad222 := (by injection e222)
                                          replace p222 := eq_true p222
                                          replace q222 := eq_true q222
                                          have p223 : 0 ≤ ((ji24) : Int) := of_decide_eq_true (by first | (with_reducible assumption) | assumption)
                                          have q223 : (ji24) < (t211.length : Int) := of_decide_eq_true (by first | (with_reducible assumption) | assumption)
                                          obtain ⟨ad223, e223, hx223_0⟩ := Kd.at_int (Kd.R_reads' HO_6.out).2.2 (ji24) p223 q223
                                          obtain rfl : ad216 = ad223 := (by injection e223)
                                          replace p223 := eq_true p223
                                          replace q223 := eq_true q223
                                          go_wp2
                                          repeat (go_quiet (fail); try go_wp2)
                                          go_ret
                                          exact ⟨by first | rfl | (simp [errW_none, errW_some] <;> rfl) | (simp only [← hji24]; first | rfl | (simp [errW_none, errW_some] <;> rfl)) | (simp [*, errW_none, errW_some] <;> rfl), by repeat (first | (with_reducible first | exact HB.out | apply below_alloc | apply pw_below_drewN | apply below_drew1) | exact HB.out)⟩
                                        · rw [if_neg c29] at H
                                          have c29b0 : decide ((rd t211 x11_2) < (rd t211 (ji24))) = false := decide_eq_false c29
                                          clear c29
                                          by_cases c30 : (rd t208 x11_2) < (rd t208 (ji24))
                                          · rw [if_pos c30] at H
                                            have c30b0 : decide ((rd t208 x11_2) < (rd t208 (ji24))) = true := decide_eq_true c30
                                            clear c30
                                            by_cases c31 : (rd t211 x11_2) > (rd t211 (ji24))
                                            · rw [if_pos c31] at H
                                              have c31b0 : decide ((rd t211 (ji24)) < (rd t211 x11_2)) = true := decide_eq_true c31
                                              clear c31
                                              obtain rfl := Option.some.inj H
                                              have p216 : 0 ≤ (x11_2 : Int) := of_decide_eq_true (by first | (with_reducible assumption) | assumption)
                                              have q216 : x11_2 < (t211.length : Int) := of_decide_eq_true (by first | (with_reducible assumption) | assumption)
                                              obtain ⟨ad216, e216, hx216_0⟩ := Kd.at_int (Kd.R_reads' HO_6.out).2.2 x11_2 p216 q216
                                              cases e216
                                              replace p216 := eq_true p216
                                              replace q216 := eq_true q216
                                              have p217 : 0 ≤ (x11_2 : Int) := of_decide_eq_true (by first | (with_reducible assumption) | assumption)
                                              have q217 : x11_2 < (t211.length : Int) := of_decide_eq_true (by first | (with_reducible assumption) | assumption)
                                              obtain ⟨ad217, e217, hx217_0⟩ := Kd.at_int (Kd.R_reads' HO_6.out).2.2 x11_2 p217 q217
                                              obtain rfl : ad216 = ad217 := (by injection e217)
                                              replace p217 := eq_true p217
                                              replace q217 := eq_true q217
                                              have p218 : 0 ≤ (x11_2 : Int) := of_decide_eq_true (by first | (with_reducible assumption) | assumption)
                                              have q218 : x11_2 < (t208.length : Int) := of_decide_eq_true (by first | (with_reducible assumption) | assumption)
                                              obtain ⟨ad218, e218, hx218_0⟩ := Kd.at_int (Kd.V_reads' HO_1.out).2.2 x11_2 p218 q218
                                              cases e218
                                              replace p218 := eq_true p218
                                              replace q218 := eq_true q218
                                              have p219 : 0 ≤ (x11_2 : Int) := of_decide_eq_true (by first | (with_reducible assumption) | assumption)
                                              have q219 : x11_2 < (t211.length : Int) := of_decide_eq_true (by first | (with_reducible assumption) | assumption)
                                              obtain ⟨ad219, e219, hx219_0⟩ := Kd.at_int (Kd.R_reads' HO_6.out).2.2 x11_2 p219 q219
                                              obtain rfl : ad216 = ad219 := (by injection e219)
                                              replace p219 := eq_true p219
                                              replace q219 := eq_true q219
                                              have p220 : 0 ≤ (x11_2 : Int) := of_decide_eq_true (by first | (with_reducible assumption) | assumption)
                                              have q220 : x11_2 < (t208.length : Int) := of_decide_eq_true (by first | (with_reducible assumption) | assumption)
                                              obtain ⟨ad220, e220, hx220_0⟩ := Kd.at_int (Kd.V_reads' HO_1.out).2.2 x11_2 p220 q220
                                              obtain rfl : ad218 = ad220 := (by injection e220)
                                              replace p220 := eq_true p220
                                              replace q220 := eq_true q220
                                              have p221 : 0 ≤ ((ji24) : Int) := of_decide_eq_true (by first | (with_reducible assumption) | assumption)
                                              have q221 : (ji24) < (t208.length : Int) := of_decide_eq_true (by first | (with_reducible assumption) | assumption)
                                              obtain ⟨ad221, e221, hx221_0⟩ := Kd.at_int (Kd.V_reads' HO_1.out).2.2 (ji24) p221 q221
                                              obtain rfl : ad218 = ad221 := (by injection e221)
                                              replace p221 := eq_true p221
                                              replace q221 := eq_true q221
                                              have p222 : 0 ≤ (x11_2 : Int) := of_decide_eq_true (by first | (with_reducible assumption) | assumption)
                                              have q222 : x11_2 < (t211.length : Int) := of_decide_eq_true (by first | (with_reducible assumption) | assumption)
                                              obtain ⟨ad222, e222, hx222_0⟩ := Kd.at_int (Kd.R_reads' HO_6.out).2.2 x11_2 p222 q222
                                              obtain rfl : ad216 = ad222 := (by injection e222)
                                              replace p222 := eq_true p222
                                              replace q222 := eq_true q222
                                              have p223 : 0 ≤ ((ji24) : Int) := of_decide_eq_true (by first | (with_reducible assumption) | assumption)
                                              have q223 : (ji24) < (t211.length : Int) := of_decide_eq_true (by first | (with_reducible assumption) | assumption)
                                              obtain ⟨ad223, e223, hx223_0⟩ := Kd.at_int (Kd.R_reads' HO_6.out).2.2 (ji24) p223 q223
                                              obtain rfl : ad216 = ad223 := (by injection e223)
                                              replace p223 := eq_true p223
                                              replace q223 := eq_true q223
                                              have p224 : 0 ≤ (x11_2 : Int) := of_decide_eq_true (by first | (with_reducible assumption) | assumption)
                                              have q224 : x11_2 < (t208.length : Int) := of_decide_eq_true (by first | (with_reducible assumption) | assumption)
                                              obtain ⟨ad224, e224, hx224_0⟩ := Kd.at_int (Kd.V_reads' HO_1.out).2.2 x11_2 p224 q224
                                              obtain rfl : ad218 = ad224 := (by injection e224)
                                              replace p224 := eq_true p224
                                              replace q224 := eq_true q224
                                              have p225 : 0 ≤ ((ji24) : Int) := of_decide_eq_true (by first | (with_reducible assumption) | assumption)
                                              have q225 : (ji24) < (t208.length : Int) := of_decide_eq_true (by first | (with_reducible assumption) | assumption)
                                              obtain ⟨ad225, e225, hx225_0⟩ := Kd.at_int (Kd.V_reads' HO_1.out).2.2 (ji24) p225 q225
                                              obtain rfl : ad218 = ad225 := (by injection e225)
                                              replace p225 := eq_true p225
                                              replace q225 := eq_true q225
                                              have p226 : 0 ≤ (x11_2 : Int) := of_decide_eq_true (by first | (with_reducible assumption) | assumption)
                                              have q226 : x11_2 < (t211.length : Int) := of_decide_eq_true (by first | (with_reducible assumption) | assumption)
                                              obtain ⟨ad226, e226, hx226_0⟩ := Kd.at_int (Kd.R_reads' HO_6.out).2.2 x11_2 p226 q226
                                              obtain rfl : ad216 = ad226 := (by injection e226)
                                              replace p226 := eq_true p226
                                              replace q226 := eq_true q226
                                              have p227 : 0 ≤ ((ji24) : Int) := of_decide_eq_true (by first | (with_reducible assumption) | assumption)
                                              have q227 : (ji24) < (t211.length : Int) := of_decide_eq_true (by first | (with_reducible assumption) | assumption)
                                              obtain ⟨ad227, e227, hx227_0⟩ := Kd.at_int (Kd.R_reads' HO_6.out).2.2 (ji24) p227 q227
                                              obtain rfl : ad216 = ad227 := (by injection e227)
                                              replace p227 := eq_true p227
                                              replace q227 := eq_true q227
                                              go_wp2
                                              repeat (go_quiet (fail); try go_wp2)
                                              go_ret
                                              exact ⟨by first | rfl | (simp [errW_none, errW_some] <;> rfl) | (simp only [← hji24]; first | rfl | (simp [errW_none, errW_some] <;> rfl)) | (simp [*, errW_none, errW_some] <;> rfl), by repeat (first | (with_reducible first | exact HB.out | apply below_alloc | apply pw_below_drewN | apply below_drew1) | exact HB.out)⟩
                                            · rw [if_neg c31] at H
                                              have c31b0 : decide ((rd t211 (ji24)) < (rd t211 x11_2)) = false := decide_eq_false c31
                                              clear c31
                                              have H' := Aside0.mk H
                                              clear H
                                              have p216 : 0 ≤ (x11_2 : Int) := of_decide_eq_true (by first | (with_reducible assumption) | assumption)
                                              have q216 : x11_2 < (t211.length : Int) := of_decide_eq_true (by first | (with_reducible assumption) | assumption)
                                              obtain ⟨ad216, e216, hx216_0⟩ := Kd.at_int (Kd.R_reads' HO_6.out).2.2 x11_2 p216 q216
                                              cases e216
                                              replace p216 := eq_true p216
                                              replace q216 := eq_true q216
                                              have p217 : 0 ≤ (x11_2 : Int) := of_decide_eq_true (by first | (with_reducible assumption) | assumption)
                                              have q217 : x11_2 < (t211.length : Int) := of_decide_eq_true (by first | (with_reducible assumption) | assumption)
                                              obtain ⟨ad217, e217, hx217_0⟩ := Kd.at_int (Kd.R_reads' HO_6.out).2.2 x11_2 p217 q217
                                              obtain rfl : ad216 = ad217 := (by injection e217)
                                              replace p217 := eq_true p217
                                              replace q217 := eq_true q217
                                              have p218 : 0 ≤ (x11_2 : Int) := of_decide_eq_true (by first | (with_reducible assumption) | assumption)
                                              have q218 : x11_2 < (t208.length : Int) := of_decide_eq_true (by first | (with_reducible assumption) | assumption)
                                              obtain ⟨ad218, e218, hx218_0⟩ := Kd.at_int (Kd.V_reads' HO_1.out).2.2 x11_2 p218 q218
                                              cases e218
                                              replace p218 := eq_true p218
                                              replace q218 := eq_true q218
                                              have p219 : 0 ≤ (x11_2 : Int) := of_decide_eq_true (by first | (with_reducible assumption) | assumption)
                                              have q219 : x11_2 < (t211.length : Int) := of_decide_eq_true (by first | (with_reducible assumption) | assumption)
                                              obtain ⟨ad219, e219, hx219_0⟩ := Kd.at_int (Kd.R_reads' HO_6.out).2.2 x11_2 p219 q219
                                              obtain rfl : ad216 = ad219 := (by injection e219)
                                              replace p219 := eq_true p219
                                              replace q219 := eq_true q219
                                              have p220 : 0 ≤ (x11_2 : Int) := of_decide_eq_true (by first | (with_reducible assumption) | assumption)
                                              have q220 : x11_2 < (t208.length : Int) := of_decide_eq_true (by first | (with_reducible assumption) | assumption)
                                              obtain ⟨ad220, e220, hx220_0⟩ := Kd.at_int (Kd.V_reads' HO_1.out).2.2 x11_2 p220 q220
                                              obtain rfl : ad218 = ad220 := (by injection e220)
                                              replace p220 := eq_true p220
                                              replace q220 := eq_true q220
                                              have p221 : 0 ≤ ((ji24) : Int) := of_decide_eq_true (by first | (with_reducible assumption) | assumption)
                                              have q221 : (ji24) < (t208.length : Int) := of_decide_eq_true (by first | (with_reducible assumption) | assumption)
                                              obtain ⟨ad221, e221, hx221_0⟩ := Kd.at_int (Kd.V_reads' HO_1.out).2.2 (ji24) p221 q221
                                              obtain rfl : ad218 = ad221 := (by injection e221)
                                              replace p221 := eq_true p221
                                              replace q221 := eq_true q221
                                              have p222 : 0 ≤ (x11_2 : Int) := of_decide_eq_true (by first | (with_reducible assumption) | assumption)
                                              have q222 : x11_2 < (t211.length : Int) := of_decide_eq_true (by first | (with_reducible assumption) | assumption)
                                              obtain ⟨ad222, e222, hx222_0⟩ := Kd.at_int (Kd.R_reads' HO_6.out).2.2 x11_2 p222 q222
                                              obtain rfl : ad216 = ad222 := (by injection e222)
                                              replace p222 := eq_true p222
                                              replace q222 := eq_true q222
                                              have p223 : 0 ≤ ((ji24) : Int) := of_decide_eq_true (by first | (with_reducible assumption) | assumption)
                                              have q223 : (ji24) < (t211.length : Int) := of_decide_eq_true (by first | (with_reducible assumption) | assumption)
                                              obtain ⟨ad223, e223, hx223_0⟩ := Kd.at_int (Kd.R_reads' HO_6.out).2.2 (ji24) p223 q223
                                              obtain rfl : ad216 = ad223 := (by injection e223)
                                              replace p223 := eq_true p223
                                              replace q223 := eq_true q223
                                              have p224 : 0 ≤ (x11_2 : Int) := of_decide_eq_true (by first | (with_reducible assumption) | assumption)
                                              have q224 : x11_2 < (t208.length : Int) := of_decide_eq_true (by first | (with_reducible assumption) | assumption)
                                              obtain ⟨ad224, e224, hx224_0⟩ := Kd.at_int (Kd.V_reads' HO_1.out).2.2 x11_2 p224 q224
                                              obtain rfl : ad218 = ad224 := (by injection e224)
                                              replace p224 := eq_true p224
                                              replace q224 := eq_true q224
                                              have p225 : 0 ≤ ((ji24) : Int) := of_decide_eq_true (by first | (with_reducible assumption) | assumption)
                                              have q225 : (ji24) < (t208.length : Int) := of_decide_eq_true (by first | (with_reducible assumption) | assumption)
                                              obtain ⟨ad225, e225, hx225_0⟩ := Kd.at_int (Kd.V_reads' HO_1.out).2.2 (ji24) p225 q225
                                              obtain rfl : ad218 = ad225 := (by injection e225)
                                              replace p225 := eq_true p225
                                              replace q225 := eq_true q225
                                              have p226 : 0 ≤ (x11_2 : Int) := of_decide_eq_true (by first | (with_reducible assumption) | assumption)
                                              have q226 : x11_2 < (t211.length : Int) := of_decide_eq_true (by first | (with_reducible assumption) | assumption)
                                              obtain ⟨ad226, e226, hx226_0⟩ := Kd.at_int (Kd.R_reads' HO_6.out).2.2 x11_2 p226 q226
                                              obtain rfl : ad216 = ad226 := (by injection e226)
                                              replace p226 := eq_true p226
                                              replace q226 := eq_true q226
                                              have p227 : 0 ≤ ((ji24) : Int) := of_decide_eq_true (by first | (with_reducible assumption) | assumption)
                                              have q227 : (ji24) < (t211.length : Int) := of_decide_eq_true (by first | (with_reducible assumption) | assumption)
                                              obtain ⟨ad227, e227, hx227_0⟩ := Kd.at_int (Kd.R_reads' HO_6.out).2.2 (ji24) p227 q227
                                              obtain rfl : ad216 = ad227 := (by injection e227)
                                              replace p227 := eq_true p227
                                              replace q227 := eq_true q227
                                              go_wp2
                                              repeat (go_quiet (fail); try go_wp2)
                                              go_roundg k2
                                              case measure => have := HK1.out; have := HK2.out; omega
                                              case rel => exact ⟨(wrap64 (x10_2 - (rd t211 x11_2))), (wrap64 (x11_2 + 1)), (by first | rfl | (simp; done) | (simp [*]; done)), (by first | rfl | (simp; done) | (simp [*]; done)), H', ⟨by have := HK1.out; have := HK2.out; omega⟩, ⟨by (with_reducible repeat (first | apply Kd.V_alloc | apply Kd.V_drewN | apply Kd.V_drew)); exact HO_1.out⟩, ⟨by (with_reducible repeat (first | apply Kd.R_alloc | apply Kd.R_drewN | apply Kd.R_drew)); exact HO_6.out⟩, ⟨by repeat (first | (with_reducible first | exact HB.out | apply below_alloc | apply pw_below_drewN | apply below_drew1) | exact HB.out)⟩⟩
                                          · rw [if_neg c30] at H
                                            have c30b0 : decide ((rd t208 x11_2) < (rd t208 (ji24))) = false := decide_eq_false c30
                                            clear c30
                                            have H' := Aside0.mk H
                                            clear H
                                            have p216 : 0 ≤ (x11_2 : Int) := of_decide_eq_true (by first | (with_reducible assumption) | assumption)
                                            have q216 : x11_2 < (t211.length : Int) := of_decide_eq_true (by first | (with_reducible assumption) | assumption)
                                            obtain ⟨ad216, e216, hx216_0⟩ := Kd.at_int (Kd.R_reads' HO_6.out).2.2 x11_2 p216 q216
                                            cases e216
                                            replace p216 := eq_true p216
                                            replace q216 := eq_true q216
                                            have p217 : 0 ≤ (x11_2 : Int) := of_decide_eq_true (by first | (with_reducible assumption) | assumption)
                                            have q217 : x11_2 < (t211.length : Int) := of_decide_eq_true (by first | (with_reducible assumption) | assumption)
                                            obtain ⟨ad217, e217, hx217_0⟩ := Kd.at_int (Kd.R_reads' HO_6.out).2.2 x11_2 p217 q217
                                            obtain rfl : ad216 = ad217 := (by injection e217)
                                            replace p217 := eq_true p217
                                            replace q217 := eq_true q217
                                            have p218 : 0 ≤ (x11_2 : Int) := of_decide_eq_true (by first | (with_reducible assumption) | assumption)
                                            have q218 : x11_2 < (t208.length : Int) := of_decide_eq_true (by first | (with_reducible assumption) | assumption)
                                            obtain ⟨ad218, e218, hx218_0⟩ := Kd.at_int (Kd.V_reads' HO_1.out).2.2 x11_2 p218 q218
                                            cases e218
                                            replace p218 := eq_true p218
                                            replace q218 := eq_true q218
                                            have p219 : 0 ≤ (x11_2 : Int) := of_decide_eq_true (by first | (with_reducible assumption) | assumption)
                                            have q219 : x11_2 < (t211.length : Int) := of_decide_eq_true (by first | (with_reducible assumption) | assumption)
                                            obtain ⟨ad219, e219, hx219_0⟩ := Kd.at_int (Kd.R_reads' HO_6.out).2.2 x11_2 p219 q219
                                            obtain rfl : ad216 = ad219 := (by injection e219)
                                            replace p219 := eq_true p219
                                            replace q219 := eq_true q219
                                            have p220 : 0 ≤ (x11_2 : Int) := of_decide_eq_true (by first | (with_reducible assumption) | assumption)
                                            have q220 : x11_2 < (t208.length : Int) := of_decide_eq_true (by first | (with_reducible assumption) | assumption)
                                            obtain ⟨ad220, e220, hx220_0⟩ := Kd.at_int (Kd.V_reads' HO_1.out).2.2 x11_2 p220 q220
                                            obtain rfl : ad218 = ad220 := (by injection e220)
                                            replace p220 := eq_true p220
                                            replace q220 := eq_true q220
                                            have p221 : 0 ≤ ((ji24) : Int) := of_decide_eq_true (by first | (with_reducible assumption) | assumption)
                                            have q221 : (ji24) < (t208.length : Int) := of_decide_eq_true (by first | (with_reducible assumption) | assumption)
                                            obtain ⟨ad221, e221, hx221_0⟩ := Kd.at_int (Kd.V_reads' HO_1.out).2.2 (ji24) p221 q221
                                            obtain rfl : ad218 = ad221 := (by injection e221)
                                            replace p221 := eq_true p221
                                            replace q221 := eq_true q221
                                            have p222 : 0 ≤ (x11_2 : Int) := of_decide_eq_true (by first | (with_reducible assumption) | assumption)
                                            have q222 : x11_2 < (t211.length : Int) := of_decide_eq_true (by first | (with_reducible assumption) | assumption)
                                            obtain ⟨ad222, e222, hx222_0⟩ := Kd.at_int (Kd.R_reads' HO_6.out).2.2 x11_2 p222 q222
                                            obtain rfl : ad216 = ad222 := (by injection e222)
                                            replace p222 := eq_true p222
                                            replace q222 := eq_true q222
                                            have p223 : 0 ≤ ((ji24) : Int) := of_decide_eq_true (by first | (with_reducible assumption) | assumption)
                                            have q223 : (ji24) < (t211.length : Int) := of_decide_eq_true (by first | (with_reducible assumption) | assumption)
                                            obtain ⟨ad223, e223, hx223_0⟩ := Kd.at_int (Kd.R_reads' HO_6.out).2.2 (ji24) p223 q223
                                            obtain rfl : ad216 = ad223 := (by injection e223)
                                            replace p223 := eq_true p223
                                            replace q223 := eq_true q223
                                            have p224 : 0 ≤ (x11_2 : Int) := of_decide_eq_true (by first | (with_reducible assumption) | assumption)
                                            have q224 : x11_2 < (t208.length : Int) := of_decide_eq_true (by first | (with_reducible assumption) | assumption)
                                            obtain ⟨ad224, e224, hx224_0⟩ := Kd.at_int (Kd.V_reads' HO_1.out).2.2 x11_2 p224 q224
                                            obtain rfl : ad218 = ad224 := (by injection e224)
                                            replace p224 := eq_true p224
                                            replace q224 := eq_true q224
                                            have p225 : 0 ≤ ((ji24) : Int) := of_decide_eq_true (by first | (with_reducible assumption) | assumption)
                                            have q225 : (ji24) < (t208.length : Int) := of_decide_eq_true (by first | (with_reducible assumption) | assumption)
                                            obtain ⟨ad225, e225, hx225_0⟩ := Kd.at_int (Kd.V_reads' HO_1.out).2.2 (ji24) p225 q225
                                            obtain rfl : ad218 = ad225 := (by injection e225)
                                            replace p225 := eq_true p225
                                            replace q225 := eq_true q225
                                            go_wp2
                                            repeat (go_quiet (fail); try go_wp2)
                                            go_roundg k2
                                            case measure => have := HK1.out; have := HK2.out; omega
                                            case rel => exact ⟨(wrap64 (x10_2 - (rd t211 x11_2))), (wrap64 (x11_2 + 1)), (by first | rfl | (simp; done) | (simp [*]; done)), (by first | rfl | (simp; done) | (simp [*]; done)), H', ⟨by have := HK1.out; have := HK2.out; omega⟩, ⟨by (with_reducible repeat (first | apply Kd.V_alloc | apply Kd.V_drewN | apply Kd.V_drew)); exact HO_1.out⟩, ⟨by (with_reducible repeat (first | apply Kd.R_alloc | apply Kd.R_drewN | apply Kd.R_drew)); exact HO_6.out⟩, ⟨by repeat (first | (with_reducible first | exact HB.out | apply below_alloc | apply pw_below_drewN | apply below_drew1) | exact HB.out)⟩⟩
                                      · rw [if_neg c28] at H
                                        exact absurd H (by simp)
                                    · as_aux_lemma =>
                                      rw [if_neg c27] at H
                                      have c27b0 : decide ((rd t208 (ji24)) < (rd t208 x11_2)) = false := decide_eq_false c27
                                      clear c27
                                      by_cases c32 : (rd t208 x11_2) < (rd t208 (ji24))
                                      · rw [if_pos c32] at H
                                        have c32b0 : decide ((rd t208 x11_2) < (rd t208 (ji24))) = true := decide_eq_true c32
                                        clear c32
                                        by_cases c33 : (ji24) < (t211.length : Int)
                                        · rw [if_pos c33] at H
                                          have c33b0 : decide ((ji24) < (t211.length : Int)) = true := decide_eq_true c33
                                          clear c33
                                          by_cases c34 : (rd t211 x11_2) > (rd t211 (ji24))
                                          · rw [if_pos c34] at H
                                            have c34b0 : decide ((rd t211 (ji24)) < (rd t211 x11_2)) = true := decide_eq_true c34
                                            clear c34
                                            obtain rfl := Option.some.inj H
                                            have p216 : 0 ≤ (x11_2 : Int) := of_decide_eq_true (by first | (with_reducible assumption) | assumption)
                                            have q216 : x11_2 < (t211.length : Int) := of_decide_eq_true (by first | (with_reducible assumption) | assumption)
                                            obtain ⟨ad216, e216, hx216_0⟩ := Kd.at_int (Kd.R_reads' HO_6.out).2.2 x11_2 p216 q216
                                            cases e216
                                            replace p216 := eq_true p216
                                            replace q216 := eq_true q216
                                            have p217 : 0 ≤ (x11_2 : Int) := of_decide_eq_true (by first | (with_reducible assumption) | assumption)
                                            have q217 : x11_2 < (t211.length : Int) := of_decide_eq_true (by first | (with_reducible assumption) | assumption)
                                            obtain ⟨ad217, e217, hx217_0⟩ := Kd.at_int (Kd.R_reads' HO_6.out).2.2 x11_2 p217 q217
                                            obtain rfl : ad216 = ad217 := (by injection e217)
                                            replace p217 := eq_true p217
                                            replace q217 := eq_true q217
                                            have p218 : 0 ≤ (x11_2 : Int) := of_decide_eq_true (by first | (with_reducible assumption) | assumption)
                                            have q218 : x11_2 < (t208.length : Int) := of_decide_eq_true (by first | (with_reducible assumption) | assumption)
                                            obtain ⟨ad218, e218, hx218_0⟩ := Kd.at_int (Kd.V_reads' HO_1.out).2.2 x11_2 p218 q218
                                            cases e218
                                            replace p218 := eq_true p218
                                            replace q218 := eq_true q218
                                            have p219 : 0 ≤ (x11_2 : Int) := of_decide_eq_true (by first | (with_reducible assumption) | assumption)
                                            have q219 : x11_2 < (t211.length : Int) := of_decide_eq_true (by first | (with_reducible assumption) | assumption)
                                            obtain ⟨ad219, e219, hx219_0⟩ := Kd.at_int (Kd.R_reads' HO_6.out).2.2 x11_2 p219 q219
                                            obtain rfl : ad216 = ad219 := (by injection e219)
                                            replace p219 := eq_true p219
                                            replace q219 := eq_true q219
                                            have p220 : 0 ≤ (x11_2 : Int) := of_decide_eq_true (by first | (with_reducible assumption) | assumption)
                                            have q220 : x11_2 < (t208.length : Int) := of_decide_eq_true (by first | (with_reducible assumption) | assumption)
                                            obtain ⟨ad220, e220, hx220_0⟩ := Kd.at_int (Kd.V_reads' HO_1.out).2.2 x11_2 p220 q220
                                            obtain rfl : ad218 = ad220 := (by injection e220)
                                            replace p220 := eq_true p220
                                            replace q220 := eq_true q220
                                            have p221 : 0 ≤ ((ji24) : Int) := of_decide_eq_true (by first | (with_reducible assumption) | assumption)
                                            have q221 : (ji24) < (t208.length : Int) := of_decide_eq_true (by first | (with_reducible assumption) | assumption)
                                            obtain ⟨ad221, e221, hx221_0⟩ := Kd.at_int (Kd.V_reads' HO_1.out).2.2 (ji24) p221 q221
                                            obtain rfl : ad218 = ad221 := (by injection e221)
                                            replace p221 := eq_true p221
                                            replace q221 := eq_true q221
                                            have p228 : 0 ≤ (x11_2 : Int) := of_decide_eq_true (by first | (with_reducible assumption) | assumption)
                                            have q228 : x11_2 < (t208.length : Int) := of_decide_eq_true (by first | (with_reducible assumption) | assumption)
                                            obtain ⟨ad228, e228, hx228_0⟩ := Kd.at_int (Kd.V_reads' HO_1.out).2.2 x11_2 p228 q228
                                            obtain rfl : ad218 = ad228 := (by injection e228)
                                            replace p228 := eq_true p228
                                            replace q228 := eq_true q228
                                            have p229 : 0 ≤ ((ji24) : Int) := of_decide_eq_true (by first | (with_reducible assumption) | assumption)
                                            have q229 : (ji24) < (t208.length : Int) := of_decide_eq_true (by first | (with_reducible assumption) | assumption)
                                            obtain ⟨ad229, e229, hx229_0⟩ := Kd.at_int (Kd.V_reads' HO_1.out).2.2 (ji24) p229 q229
                                            obtain rfl : ad218 = ad229 := (by injection e229)
                                            replace p229 := eq_true p229
                                            replace q229 := eq_true q229
                                            have p230 : 0 ≤ (x11_2 : Int) := of_decide_eq_true (by first | (with_reducible assumption) | assumption)
                                            have q230 : x11_2 < (t211.length : Int) := of_decide_eq_true (by first | (with_reducible assumption) | assumption)
                                            obtain ⟨ad230, e230, hx230_0⟩ := Kd.at_int (Kd.R_reads' HO_6.out).2.2 x11_2 p230 q230
                                            obtain rfl : ad216 = ad230 := (by injection e230)
                                            replace p230 := eq_true p230
                                            replace q230 := eq_true q230
                                            have p231 : 0 ≤ ((ji24) : Int) := of_decide_eq_true (by first | (with_reducible assumption) | assumption)
                                            have q231 : (ji24) < (t211.length : Int) := of_decide_eq_true (by first | (with_reducible assumption) | assumption)
                                            obtain ⟨ad231, e231, hx231_0⟩ := Kd.at_int (Kd.R_reads' HO_6.out).2.2 (ji24) p231 q231
                                            obtain rfl : ad216 = ad231 := (by injection e231)
                                            replace p231 := eq_true p231
                                            replace q231 := eq_true q231
                                            go_wp2
                                            repeat (go_quiet (fail); try go_wp2)
                                            go_ret
                                            exact ⟨by first | rfl | (simp [errW_none, errW_some] <;> rfl) | (simp only [← hji24]; first | rfl | (simp [errW_none, errW_some] <;> rfl)) | (simp [*, errW_none, errW_some] <;> rfl), by repeat (first | (with_reducible first | exact HB.out | apply below_alloc | apply pw_below_drewN | apply below_drew1) | exact HB.out)⟩
                                          · rw [if_neg c34] at H
                                            have c34b0 : decide ((rd t211 (ji24)) < (rd t211 x11_2)) = false := decide_eq_false c34
                                            clear c34
                                            have H' := Aside0.mk H
                                            clear H
                                            have p216 : 0 ≤ (x11_2 : Int) := of_decide_eq_true (by first | (with_reducible assumption) | assumption)
                                            have q216 : x11_2 < (t211.length : Int) := of_decide_eq_true (by first | (with_reducible assumption) | assumption)
                                            obtain ⟨ad216, e216, hx216_0⟩ := Kd.at_int (Kd.R_reads' HO_6.out).2.2 x11_2 p216 q216
                                            cases e216
                                            replace p216 := eq_true p216
                                            replace q216 := eq_true q216
                                            have p217 : 0 ≤ (x11_2 : Int) := of_decide_eq_true (by first | (with_reducible assumption) | assumption)
                                            have q217 : x11_2 < (t211.length : Int) := of_decide_eq_true (by first | (with_reducible assumption) | assumption)
                                            obtain ⟨ad217, e217, hx217_0⟩ := Kd.at_int (Kd.R_reads' HO_6.out).2.2 x11_2 p217 q217
                                            obtain rfl : ad216 = ad217 := (by injection e217)
                                            replace p217 := eq_true p217
                                            replace q217 := eq_true q217
                                            have p218 : 0 ≤ (x11_2 : Int) := of_decide_eq_true (by first | (with_reducible assumption) | assumption)
                                            have q218 : x11_2 < (t208.length : Int) := of_decide_eq_true (by first | (with_reducible assumption) | assumption)
                                            obtain ⟨ad218, e218, hx218_0⟩ := Kd.at_int (Kd.V_reads' HO_1.out).2.2 x11_2 p218 q218
                                            cases e218
                                            replace p218 := eq_true p218
                                            replace q218 := eq_true q218
                                            have p219 : 0 ≤ (x11_2 : Int) := of_decide_eq_true (by first | (with_reducible assumption) | assumption)
                                            have q219 : x11_2 < (t211.length : Int) := of_decide_eq_true (by first | (with_reducible assumption) | assumption)
                                            obtain ⟨ad219, e219, hx219_0⟩ := Kd.at_int (Kd.R_reads' HO_6.out).2.2 x11_2 p219 q219
                                            obtain rfl : ad216 = ad219 := (by injection e219)
                                            replace p219 := eq_true p219
                                            replace q219 := eq_true q219
                                            have p220 : 0 ≤ (x11_2 : Int) := of_decide_eq_true (by first | (with_reducible assumption) | assumption)
                                            have q220 : x11_2 < (t208.length : Int) := of_decide_eq_true (by first | (with_reducible assumption) | assumption)
                                            obtain ⟨ad220, e220, hx220_0⟩ := Kd.at_int (Kd.V_reads' HO_1.out).2.2 x11_2 p220 q220
                                            obtain rfl : ad218 = ad220 := (by injection e220)
                                            replace p220 := eq_true p220
                                            replace q220 := eq_true q220
                                            have p221 : 0 ≤ ((ji24) : Int) := of_decide_eq_true (by first | (with_reducible assumption) | assumption)
                                            have q221 : (ji24) < (t208.length : Int) := of_decide_eq_true (by first | (with_reducible assumption) | assumption)
                                            obtain ⟨ad221, e221, hx221_0⟩ := Kd.at_int (Kd.V_reads' HO_1.out).2.2 (ji24) p221 q221
                                            obtain rfl : ad218 = ad221 := (by injection e221)
                                            replace p221 := eq_true p221
                                            replace q221 := eq_true q221
                                            have p228 : 0 ≤ (x11_2 : Int) := of_decide_eq_true (by first | (with_reducible assumption) | assumption)
                                            have q228 : x11_2 < (t208.length : Int) := of_decide_eq_true (by first | (with_reducible assumption) | assumption)
                                            obtain ⟨ad228, e228, hx228_0⟩ := Kd.at_int (Kd.V_reads' HO_1.out).2.2 x11_2 p228 q228
                                            obtain rfl : ad218 = ad228 := (by injection e228)
                                            replace p228 := eq_true p228
                                            replace q228 := eq_true q228
                                            have p229 : 0 ≤ ((ji24) : Int) := of_decide_eq_true (by first | (with_reducible assumption) | assumption)
                                            have q229 : (ji24) < (t208.length : Int) := of_decide_eq_true (by first | (with_reducible assumption) | assumption)
                                            obtain ⟨ad229, e229, hx229_0⟩ := Kd.at_int (Kd.V_reads' HO_1.out).2.2 (ji24) p229 q229
                                            obtain rfl : ad218 = ad229 := (by injection e229)
                                            replace p229 := eq_true p229
                                            replace q229 := eq_true q229
                                            have p230 : 0 ≤ (x11_2 : Int) := of_decide_eq_true (by first | (with_reducible assumption) | assumption)
                                            have q230 : x11_2 < (t211.length : Int) := of_decide_eq_true (by first | (with_reducible assumption) | assumption)
                                            obtain ⟨ad230, e230, hx230_0⟩ := Kd.at_int (Kd.R_reads' HO_6.out).2.2 x11_2 p230 q230
                                            obtain rfl : ad216 = ad230 := (by injection e230)
                                            replace p230 := eq_true p230
                                            replace q230 := eq_true q230
                                            have p231 : 0 ≤ ((ji24) : Int) := of_decide_eq_true (by first | (with_reducible assumption) | assumption)
                                            have q231 : (ji24) < (t211.length : Int) := of_decide_eq_true (by first | (with_reducible assumption) | assumption)
                                            obtain ⟨ad231, e231, hx231_0⟩ := Kd.at_int (Kd.R_reads' HO_6.out).2.2 (ji24) p231 q231
                                            obtain rfl : ad216 = ad231 := (by injection e231)
                                            replace p231 := eq_true p231
                                            replace q231 := eq_true q231
                                            go_wp2
                                            repeat (go_quiet (fail); try go_wp2)
                                            go_roundg k2
                                            case measure => have := HK1.out; have := HK2.out; omega
                                            case rel => exact ⟨(wrap64 (x10_2 - (rd t211 x11_2))), (wrap64 (x11_2 + 1)), (by first | rfl | (simp; done) | (simp [*]; done)), (by first | rfl | (simp; done) | (simp [*]; done)), H', ⟨by have := HK1.out; have := HK2.out; omega⟩, ⟨by (with_reducible repeat (first | apply Kd.V_alloc | apply Kd.V_drewN | apply Kd.V_drew)); exact HO_1.out⟩, ⟨by (with_reducible repeat (first | apply Kd.R_alloc | apply Kd.R_drewN | apply Kd.R_drew)); exact HO_6.out⟩, ⟨by repeat (first | (with_reducible first | exact HB.out | apply below_alloc | apply pw_below_drewN | apply below_drew1) | exact HB.out)⟩⟩
                                        · rw [if_neg c33] at H
                                          exact absurd H (by simp)
                                      · rw [if_neg c32] at H
                                        have c32b0 : decide ((rd t208 x11_2) < (rd t208 (ji24))) = false := decide_eq_false c32
                                        clear c32
                                        have H' := Aside0.mk H
                                        clear H
                                        have p216 : 0 ≤ (x11_2 : Int) := of_decide_eq_true (by first | (with_reducible assumption) | assumption)
                                        have q216 : x11_2 < (t211.length : Int) := of_decide_eq_true (by first | (with_reducible assumption) | assumption)
                                        obtain ⟨ad216, e216, hx216_0⟩ := Kd.at_int (Kd.R_reads' HO_6.out).2.2 x11_2 p216 q216
                                        cases e216
                                        replace p216 := eq_true p216
                                        replace q216 := eq_true q216
                                        have p217 : 0 ≤ (x11_2 : Int) := of_decide_eq_true (by first | (with_reducible assumption) | assumption)
                                        have q217 : x11_2 < (t211.length : Int) := of_decide_eq_true (by first | (with_reducible assumption) | assumption)
                                        obtain ⟨ad217, e217, hx217_0⟩ := Kd.at_int (Kd.R_reads' HO_6.out).2.2 x11_2 p217 q217
                                        obtain rfl : ad216 = ad217 := (by injection e217)
                                        replace p217 := eq_true p217
                                        replace q217 := eq_true q217
                                        have p218 : 0 ≤ (x11_2 : Int) := of_decide_eq_true (by first | (with_reducible assumption) | assumption)
                                        have q218 : x11_2 < (t208.length : Int) := of_decide_eq_true (by first | (with_reducible assumption) | assumption)
                                        obtain ⟨ad218, e218, hx218_0⟩ := Kd.at_int (Kd.V_reads' HO_1.out).2.2 x11_2 p218 q218
                                        cases e218
                                        replace p218 := eq_true p218
                                        replace q218 := eq_true q218
                                        have p219 : 0 ≤ (x11_2 : Int) := of_decide_eq_true (by first | (with_reducible assumption) | assumption)
                                        have q219 : x11_2 < (t211.length : Int) := of_decide_eq_true (by first | (with_reducible assumption) | assumption)
                                        obtain ⟨ad219, e219, hx219_0⟩ := Kd.at_int (Kd.R_reads' HO_6.out).2.2 x11_2 p219 q219
                                        obtain rfl : ad216 = ad219 := (by injection e219)
                                        replace p219 := eq_true p219
                                        replace q219 := eq_true q219
                                        have p220 : 0 ≤ (x11_2 : Int) := of_decide_eq_true (by first | (with_reducible assumption) | assumption)
                                        have q220 : x11_2 < (t208.length : Int) := of_decide_eq_true (by first | (with_reducible assumption) | assumption)
                                        obtain ⟨ad220, e220, hx220_0⟩ := Kd.at_int (Kd.V_reads' HO_1.out).2.2 x11_2 p220 q220
                                        obtain rfl : ad218 = ad220 := (by injection e220)
                                        replace p220 := eq_true p220
                                        replace q220 := eq_true q220
                                        have p221 : 0 ≤ ((ji24) : Int) := of_decide_eq_true (by first | (with_reducible assumption) | assumption)
                                        have q221 : (ji24) < (t208.length : Int) := of_decide_eq_true (by first | (with_reducible assumption) | assumption)
                                        obtain ⟨ad221, e221, hx221_0⟩ := Kd.at_int (Kd.V_reads' HO_1.out).2.2 (ji24) p221 q221
                                        obtain rfl : ad218 = ad221 := (by injection e221)
                                        replace p221 := eq_true p221
                                        replace q221 := eq_true q221
                                        have p228 : 0 ≤ (x11_2 : Int) := of_decide_eq_true (by first | (with_reducible assumption) | assumption)
                                        have q228 : x11_2 < (t208.length : Int) := of_decide_eq_true (by first | (with_reducible assumption) | assumption)
                                        obtain ⟨ad228, e228, hx228_0⟩ := Kd.at_int (Kd.V_reads' HO_1.out).2.2 x11_2 p228 q228
                                        obtain rfl : ad218 = ad228 := (by injection e228)
                                        replace p228 := eq_true p228
                                        replace q228 := eq_true q228
                                        have p229 : 0 ≤ ((ji24) : Int) := of_decide_eq_true (by first | (with_reducible assumption) | assumption)
                                        have q229 : (ji24) < (t208.length : Int) := of_decide_eq_true (by first | (with_reducible assumption) | assumption)
                                        obtain ⟨ad229, e229, hx229_0⟩ := Kd.at_int (Kd.V_reads' HO_1.out).2.2 (ji24) p229 q229
                                        obtain rfl : ad218 = ad229 := (by injection e229)
                                        replace p229 := eq_true p229
                                        replace q229 := eq_true q229
                                        go_wp2
                                        repeat (go_quiet (fail); try go_wp2)
                                        go_roundg k2
                                        case measure => have := HK1.out; have := HK2.out; omega
                                        case rel => exact ⟨(wrap64 (x10_2 - (rd t211 x11_2))), (wrap64 (x11_2 + 1)), (by first | rfl | (simp; done) | (simp [*]; done)), (by first | rfl | (simp; done) | (simp [*]; done)), H', ⟨by have := HK1.out; have := HK2.out; omega⟩, ⟨by (with_reducible repeat (first | apply Kd.V_alloc | apply Kd.V_drewN | apply Kd.V_drew)); exact HO_1.out⟩, ⟨by (with_reducible repeat (first | apply Kd.R_alloc | apply Kd.R_drewN | apply Kd.R_drew)); exact HO_6.out⟩, ⟨by repeat (first | (with_reducible first | exact HB.out | apply below_alloc | apply pw_below_drewN | apply below_drew1) | exact HB.out)⟩⟩
                                  · rw [if_neg c26] at H
                                    exact absurd H (by simp)
                                · rw [if_neg c25] at H
                                  exact absurd H (by simp)
                              · rw [if_neg c23] at H
                                have c23b0 : decide (0 < x11_2) = false := decide_eq_false c23
                                clear c23
                                have H' := Aside0.mk H
                                clear H
                                have p216 : 0 ≤ (x11_2 : Int) := of_decide_eq_true (by first | (with_reducible assumption) | assumption)
                                have q216 : x11_2 < (t211.length : Int) := of_decide_eq_true (by first | (with_reducible assumption) | assumption)
                                obtain ⟨ad216, e216, hx216_0⟩ := Kd.at_int (Kd.R_reads' HO_6.out).2.2 x11_2 p216 q216
                                cases e216
                                replace p216 := eq_true p216
                                replace q216 := eq_true q216
                                have p217 : 0 ≤ (x11_2 : Int) := of_decide_eq_true (by first | (with_reducible assumption) | assumption)
                                have q217 : x11_2 < (t211.length : Int) := of_decide_eq_true (by first | (with_reducible assumption) | assumption)
                                obtain ⟨ad217, e217, hx217_0⟩ := Kd.at_int (Kd.R_reads' HO_6.out).2.2 x11_2 p217 q217
                                obtain rfl : ad216 = ad217 := (by injection e217)
                                replace p217 := eq_true p217
                                replace q217 := eq_true q217
                                have p218 : 0 ≤ (x11_2 : Int) := of_decide_eq_true (by first | (with_reducible assumption) | assumption)
                                have q218 : x11_2 < (t208.length : Int) := of_decide_eq_true (by first | (with_reducible assumption) | assumption)
                                obtain ⟨ad218, e218, hx218_0⟩ := Kd.at_int (Kd.V_reads' HO_1.out).2.2 x11_2 p218 q218
                                cases e218
                                replace p218 := eq_true p218
                                replace q218 := eq_true q218
                                have p219 : 0 ≤ (x11_2 : Int) := of_decide_eq_true (by first | (with_reducible assumption) | assumption)
                                have q219 : x11_2 < (t211.length : Int) := of_decide_eq_true (by first | (with_reducible assumption) | assumption)
                                obtain ⟨ad219, e219, hx219_0⟩ := Kd.at_int (Kd.R_reads' HO_6.out).2.2 x11_2 p219 q219
                                obtain rfl : ad216 = ad219 := (by injection e219)
                                replace p219 := eq_true p219
                                replace q219 := eq_true q219
                                go_wp2
                                repeat (go_quiet (fail); try go_wp2)
                                go_roundg k2
                                case measure => have := HK1.out; have := HK2.out; omega
                                case rel => exact ⟨(wrap64 (x10_2 - (rd t211 x11_2))), (wrap64 (x11_2 + 1)), (by first | rfl | (simp; done) | (simp [*]; done)), (by first | rfl | (simp; done) | (simp [*]; done)), H', ⟨by have := HK1.out; have := HK2.out; omega⟩, ⟨by (with_reducible repeat (first | apply Kd.V_alloc | apply Kd.V_drewN | apply Kd.V_drew)); exact HO_1.out⟩, ⟨by (with_reducible repeat (first | apply Kd.R_alloc | apply Kd.R_drewN | apply Kd.R_drew)); exact HO_6.out⟩, ⟨by repeat (first | (with_reducible first | exact HB.out | apply below_alloc | apply pw_below_drewN | apply below_drew1) | exact HB.out)⟩⟩
                          · rw [if_neg c21] at H
                            have c21b0 : ((rd t208 x11_2) == 0) = false := beq_eq_false_iff_ne.mpr c21
                            have c21b1 : ((rd t208 x11_2) != 0) = true := bne_iff_ne.mpr c21
                            by_cases c35 : x11_2 > 0
                            · rw [if_pos c35] at H
                              have c35b0 : decide (0 < x11_2) = true := decide_eq_true c35
                              clear c35
                              obtain ⟨ji36, hji36⟩ : ∃ j_ : Int, (wrap64 (x11_2 - 1)) = j_ := ⟨_, rfl⟩
                              replace H : (if 0 ≤ (ji36) then (if (ji36) < (t208.length : Int) then (if (rd t208 x11_2) > (rd t208 (ji36)) then (if (ji36) < (t211.length : Int) then (if (rd t211 x11_2) < (rd t211 (ji36)) then (some false) else (if (rd t208 x11_2) < (rd t208 (ji36)) then (if (rd t211 x11_2) > (rd t211 (ji36)) then (some false) else (purflinglaw01_FixedAdds.l1 k2 t208 t207 t211 true (wrap64 (x10_2 - (rd t211 x11_2))) (wrap64 (x11_2 + 1)))) else (purflinglaw01_FixedAdds.l1 k2 t208 t207 t211 true (wrap64 (x10_2 - (rd t211 x11_2))) (wrap64 (x11_2 + 1))))) else (none)) else (if (rd t208 x11_2) < (rd t208 (ji36)) then (if (ji36) < (t211.length : Int) then (if (rd t211 x11_2) > (rd t211 (ji36)) then (some false) else (purflinglaw01_FixedAdds.l1 k2 t208 t207 t211 true (wrap64 (x10_2 - (rd t211 x11_2))) (wrap64 (x11_2 + 1)))) else (none)) else (purflinglaw01_FixedAdds.l1 k2 t208 t207 t211 true (wrap64 (x10_2 - (rd t211 x11_2))) (wrap64 (x11_2 + 1))))) else (none)) else (none)) = some r := by first | (rw [hji36] at H; exact H) | (simp only [hji36] at H ⊢; exact H)
                              have hji36w : (IntKind.i64.wrap (x11_2 - 1)) = ji36 := (i64_w _).trans hji36
                              by_cases c37 : 0 ≤ (ji36)
                              · rw [if_pos c37] at H
                                have c37b0 : decide (0 ≤ (ji36)) = true := decide_eq_true c37
                                clear c37
                                by_cases c38 : (ji36) < (t208.length : Int)
                                · as_aux_lemma =>
                                  rw [if_pos c38] at H
                                  have c38b0 : decide ((ji36) < (t208.length : Int)) = true := decide_eq_true c38
                                  clear c38
                                  by_cases c39 : (rd t208 x11_2) > (rd t208 (ji36))
                                  · rw [if_pos c39] at H
                                    have c39b0 : decide ((rd t208 (ji36)) < (rd t208 x11_2)) = true := decide_eq_true c39
                                    clear c39
                                    by_cases c40 : (ji36) < (t211.length : Int)
                                    · rw [if_pos c40] at H
                                      have c40b0 : decide ((ji36) < (t211.length : Int)) = true := decide_eq_true c40
                                      clear c40
                                      by_cases c41 : (rd t211 x11_2) < (rd t211 (ji36))
                                      · rw [if_pos c41] at H
                                        have c41b0 : decide ((rd t211 x11_2) < (rd t211 (ji36))) = true := decide_eq_true c41
                                        clear c41
                                        obtain rfl := Option.some.inj H
                                        have p216 : 0 ≤ (x11_2 : Int) := of_decide_eq_true (by first | (with_reducible assumption) | assumption)
                                        have q216 : x11_2 < (t211.length : Int) := of_decide_eq_true (by first | (with_reducible assumption) | assumption)
                                        obtain ⟨ad216, e216, hx216_0⟩ := Kd.at_int (Kd.R_reads' HO_6.out).2.2 x11_2 p216 q216
                                        cases e216
                                        replace p216 := eq_true p216
                                        replace q216 := eq_true q216
                                        have p217 : 0 ≤ (x11_2 : Int) := of_decide_eq_true (by first | (with_reducible assumption) | assumption)
                                        have q217 : x11_2 < (t211.length : Int) := of_decide_eq_true (by first | (with_reducible assumption) | assumption)
                                        obtain ⟨ad217, e217, hx217_0⟩ := Kd.at_int (Kd.R_reads' HO_6.out).2.2 x11_2 p217 q217
                                        obtain rfl : ad216 = ad217 := (by injection e217)
                                        replace p217 := eq_true p217
                                        replace q217 := eq_true q217
                                        have p218 : 0 ≤ (x11_2 : Int) := of_decide_eq_true (by first | (with_reducible assumption) | assumption)
                                        have q218 : x11_2 < (t208.length : Int) := of_decide_eq_true (by first | (with_reducible assumption) | assumption)
                                        obtain ⟨ad218, e218, hx218_0⟩ := Kd.at_int (Kd.V_reads' HO_1.out).2.2 x11_2 p218 q218
                                        cases e218
                                        replace p218 := eq_true p218
                                        replace q218 := eq_true q218
                                        have p232 : 0 ≤ (x11_2 : Int) := of_decide_eq_true (by first | (with_reducible assumption) | assumption)
                                        have q232 : x11_2 < (t208.length : Int) := of_decide_eq_true (by first | (with_reducible assumption) | assumption)
                                        obtain ⟨ad232, e232, hx232_0⟩ := Kd.at_int (Kd.V_reads' HO_1.out).2.2 x11_2 p232 q232
                                        obtain rfl : ad218 = ad232 := (by injection e232)
                                        replace p232 := eq_true p232
                                        replace q232 := eq_true q232
                                        have p233 : 0 ≤ ((ji36) : Int) := of_decide_eq_true (by first | (with_reducible assumption) | assumption)
                                        have q233 : (ji36) < (t208.length : Int) := of_decide_eq_true (by first | (with_reducible assumption) | assumption)
                                        obtain ⟨ad233, e233, hx233_0⟩ := Kd.at_int (Kd.V_reads' HO_1.out).2.2 (ji36) p233 q233
                                        obtain rfl : ad218 = ad233 := (by injection e233)
                                        replace p233 := eq_true p233
                                        replace q233 := eq_true q233
                                        have p234 : 0 ≤ (x11_2 : Int) := of_decide_eq_true (by first | (with_reducible assumption) | assumption)
                                        have q234 : x11_2 < (t211.length : Int) := of_decide_eq_true (by first | (with_reducible assumption) | assumption)
                                        obtain ⟨ad234, e234, hx234_0⟩ := Kd.at_int (Kd.R_reads' HO_6.out).2.2 x11_2 p234 q234
                                        obtain rfl : ad216 = ad234 := (by injection e234)
                                        replace p234 := eq_true p234
                                        replace q234 := eq_true q234
                                        have p235 : 0 ≤ ((ji36) : Int) := of_decide_eq_true (by first | (with_reducible assumption) | assumption)
                                        have q235 : (ji36) < (t211.length : Int) := of_decide_eq_true (by first | (with_reducible assumption) | assumption)
                                        obtain ⟨ad235, e235, hx235_0⟩ := Kd.at_int (Kd.R_reads' HO_6.out).2.2 (ji36) p235 q235
                                        obtain rfl : ad216 = ad235 := (by injection e235)
                                        replace p235 := eq_true p235
                                        replace q235 := eq_true q235
                                        go_wp2
                                        repeat (go_quiet (fail); try go_wp2)
                                        go_ret
                                        exact ⟨by first | rfl | (simp [errW_none, errW_some] <;> rfl) | (simp only [← hji36]; first | rfl | (simp [errW_none, errW_some] <;> rfl)) | (simp [*, errW_none, errW_some] <;> rfl), by repeat (first | (with_reducible first | exact HB.out | apply below_alloc | apply pw_below_drewN | apply below_drew1) | exact HB.out)⟩
                                      · rw [if_neg c41] at H
                                        have c41b0 : decide ((rd t211 x11_2) < (rd t211 (ji36))) = false := decide_eq_false c41
                                        clear c41
                                        by_cases c42 : (rd t208 x11_2) < (rd t208 (ji36))
                                        · rw [if_pos c42] at H
                                          have c42b0 : decide ((rd t208 x11_2) < (rd t208 (ji36))) = true := decide_eq_true c42
                                          clear c42
                                          by_cases c43 : (rd t211 x11_2) > (rd t211 (ji36))
                                          · rw [if_pos c43] at H
                                            have c43b0 : decide ((rd t211 (ji36)) < (rd t211 x11_2)) = true := decide_eq_true c43
                                            clear c43
                                            obtain rfl := Option.some.inj H
                                            have p216 : 0 ≤ (x11_2 : Int) := of_decide_eq_true (by first | (with_reducible assumption) | assumption)
                                            have q216 : x11_2 < (t211.length : Int) := of_decide_eq_true (by first | (with_reducible assumption) | assumption)
                                            obtain ⟨ad216, e216, hx216_0⟩ := Kd.at_int (Kd.R_reads' HO_6.out).2.2 x11_2 p216 q216
                                            cases e216
                                            replace p216 := eq_true p216
                                            replace q216 := eq_true q216
                                            have p217 : 0 ≤ (x11_2 : Int) := of_decide_eq_true (by first | (with_reducible assumption) | assumption)
                                            have q217 : x11_2 < (t211.length : Int) := of_decide_eq_true (by first | (with_reducible assumption) | assumption)
                                            obtain ⟨ad217, e217, hx217_0⟩ := Kd.at_int (Kd.R_reads' HO_6.out).2.2 x11_2 p217 q217
                                            obtain rfl : ad216 = ad217 := (by injection e217)
                                            replace p217 := eq_true p217
                                            replace q217 := eq_true q217
                                            have p218 : 0 ≤ (x11_2 : Int) := of_decide_eq_true (by first | (with_reducible assumption) | assumption)
                                            have q218 : x11_2 < (t208.length : Int) := of_decide_eq_true (by first | (with_reducible assumption) | assumption)
                                            obtain ⟨ad218, e218, hx218_0⟩ := Kd.at_int (Kd.V_reads' HO_1.out).2.2 x11_2 p218 q218
                                            cases e218
                                            replace p218 := eq_true p218
                                            replace q218 := eq_true q218
                                            have p232 : 0 ≤ (x11_2 : Int) := of_decide_eq_true (by first | (with_reducible assumption) | assumption)
                                            have q232 : x11_2 < (t208.length : Int) := of_decide_eq_true (by first | (with_reducible assumption) | assumption)
                                            obtain ⟨ad232, e232, hx232_0⟩ := Kd.at_int (Kd.V_reads' HO_1.out).2.2 x11_2 p232 q232
                                            obtain rfl : ad218 = ad232 := (by injection e232)
                                            replace p232 := eq_true p232
                                            replace q232 := eq_true q232
                                            have p233 : 0 ≤ ((ji36) : Int) := of_decide_eq_true (by first | (with_reducible assumption) | assumption)
                                            have q233 : (ji36) < (t208.length : Int) := of_decide_eq_true (by first | (with_reducible assumption) | assumption)
                                            obtain ⟨ad233, e233, hx233_0⟩ := Kd.at_int (Kd.V_reads' HO_1.out).2.2 (ji36) p233 q233
                                            obtain rfl : ad218 = ad233 := (by injection e233)
                                            replace p233 := eq_true p233
                                            replace q233 := eq_true q233
                                            have p234 : 0 ≤ (x11_2 : Int) := of_decide_eq_true (by first | (with_reducible assumption) | assumption)
                                            have q234 : x11_2 < (t211.length : Int) := of_decide_eq_true (by first | (with_reducible assumption) | assumption)
                                            obtain ⟨ad234, e234, hx234_0⟩ := Kd.at_int (Kd.R_reads' HO_6.out).2.2 x11_2 p234 q234
                                            obtain rfl : ad216 = ad234 := (by injection e234)
                                            replace p234 := eq_true p234
                                            replace q234 := eq_true q234
                                            have p235 : 0 ≤ ((ji36) : Int) := of_decide_eq_true (by first | (with_reducible assumption) | assumption)
                                            have q235 : (ji36) < (t211.length : Int) := of_decide_eq_true (by first | (with_reducible assumption) | assumption)
                                            obtain ⟨ad235, e235, hx235_0⟩ := Kd.at_int (Kd.R_reads' HO_6.out).2.2 (ji36) p235 q235
                                            obtain rfl : ad216 = ad235 := (by injection e235)
                                            replace p235 := eq_true p235
                                            replace q235 := eq_true q235
                                            have p236 : 0 ≤ (x11_2 : Int) := of_decide_eq_true (by first | (with_reducible assumption) | assumption)
                                            have q236 : x11_2 < (t208.length : Int) := of_decide_eq_true (by first | (with_reducible assumption) | assumption)
                                            obtain ⟨ad236, e236, hx236_0⟩ := Kd.at_int (Kd.V_reads' HO_1.out).2.2 x11_2 p236 q236
                                            obtain rfl : ad218 = ad236 := (by injection e236)
                                            replace p236 := eq_true p236
                                            replace q236 := eq_true q236
                                            have p237 : 0 ≤ ((ji36) : Int) := of_decide_eq_true (by first | (with_reducible assumption) | assumption)
                                            have q237 : (ji36) < (t208.length : Int) := of_decide_eq_true (by first | (with_reducible assumption) | assumption)
                                            obtain ⟨ad237, e237, hx237_0⟩ := Kd.at_int (Kd.V_reads' HO_1.out).2.2 (ji36) p237 q237
                                            obtain rfl : ad218 = ad237 := (by injection e237)
                                            replace p237 := eq_true p237
                                            replace q237 := eq_true q237
                                            have p238 : 0 ≤ (x11_2 : Int) := of_decide_eq_true (by first | (with_reducible assumption) | assumption)
                                            have q238 : x11_2 < (t211.length : Int) := of_decide_eq_true (by first | (with_reducible assumption) | assumption)
                                            obtain ⟨ad238, e238, hx238_0⟩ := Kd.at_int (Kd.R_reads' HO_6.out).2.2 x11_2 p238 q238
                                            obtain rfl : ad216 = ad238 := (by injection e238)
                                            replace p238 := eq_true p238
                                            replace q238 := eq_true q238
                                            have p239 : 0 ≤ ((ji36) : Int) := of_decide_eq_true (by first | (with_reducible assumption) | assumption)
                                            have q239 : (ji36) < (t211.length : Int) := of_decide_eq_true (by first | (with_reducible assumption) | assumption)
                                            obtain ⟨ad239, e239, hx239_0⟩ := Kd.at_int (Kd.R_reads' HO_6.out).2.2 (ji36) p239 q239
                                            obtain rfl : ad216 = ad239 := (by injection e239)
                                            replace p239 := eq_true p239
                                            replace q239 := eq_true q239
                                            go_wp2
                                            repeat (go_quiet (fail); try go_wp2)
                                            go_ret
                                            exact ⟨by first | rfl | (simp [errW_none, errW_some] <;> rfl) | (simp only [← hji36]; first | rfl | (simp [errW_none, errW_some] <;> rfl)) | (simp [*, errW_none, errW_some] <;> rfl), by repeat (first | (with_reducible first | exact HB.out | apply below_alloc | apply pw_below_drewN | apply below_drew1) | exact HB.out)⟩
                                          · rw [if_neg c43] at H
                                            have c43b0 : decide ((rd t211 (ji36)) < (rd t211 x11_2)) = false := decide_eq_false c43
                                            clear c43
                                            have H' := Aside0.mk H
                                            clear H
                                            have p216 : 0 ≤ (x11_2 : Int) := of_decide_eq_true (by first | (with_reducible assumption) | assumption)
                                            have q216 : x11_2 < (t211.length : Int) := of_decide_eq_true (by first | (with_reducible assumption) | assumption)
                                            obtain ⟨ad216, e216, hx216_0⟩ := Kd.at_int (Kd.R_reads' HO_6.out).2.2 x11_2 p216 q216
                                            cases e216
                                            replace p216 := eq_true p216
                                            replace q216 := eq_true q216
                                            have p217 : 0 ≤ (x11_2 : Int) := of_decide_eq_true (by first | (with_reducible assumption) | assumption)
                                            have q217 : x11_2 < (t211.length : Int) := of_decide_eq_true (by first | (with_reducible assumption) | assumption)
                                            obtain ⟨ad217, e217, hx217_0⟩ := Kd.at_int (Kd.R_reads' HO_6.out).2.2 x11_2 p217 q217
                                            obtain rfl : ad216 = ad217 := (by injection e217)
                                            replace p217 := eq_true p217
                                            replace q217 := eq_true q217
                                            have p218 : 0 ≤ (x11_2 : Int) := of_decide_eq_true (by first | (with_reducible assumption) | assumption)
                                            have q218 : x11_2 < (t208.length : Int) := of_decide_eq_true (by first | (with_reducible assumption) | assumption)
                                            obtain ⟨ad218, e218, hx218_0⟩ := Kd.at_int (Kd.V_reads' HO_1.out).2.2 x11_2 p218 q218
                                            cases e218
                                            replace p218 := eq_true p218
                                            replace q218 := eq_true q218
                                            have p232 : 0 ≤ (x11_2 : Int) := of_decide_eq_true (by first | (with_reducible assumption) | assumption)
                                            have q232 : x11_2 < (t208.length : Int) := of_decide_eq_true (by first | (with_reducible assumption) | assumption)
                                            obtain ⟨ad232, e232, hx232_0⟩ := Kd.at_int (Kd.V_reads' HO_1.out).2.2 x11_2 p232 q232
                                            obtain rfl : ad218 = ad232 := (by injection e232)
                                            replace p232 := eq_true p232
                                            replace q232 := eq_true q232
                                            have p233 : 0 ≤ ((ji36) : Int) := of_decide_eq_true (by first | (with_reducible assumption) | assumption)
                                            have q233 : (ji36) < (t208.length : Int) := of_decide_eq_true (by first | (with_reducible assumption) | assumption)
                                            obtain ⟨ad233, e233, hx233_0⟩ := Kd.at_int (Kd.V_reads' HO_1.out).2.2 (ji36) p233 q233
                                            obtain rfl : ad218 = ad233 := (by injection e233)
                                            replace p233 := eq_true p233
                                            replace q233 := eq_true q233
                                            have p234 : 0 ≤ (x11_2 : Int) := of_decide_eq_true (by first | (with_reducible assumption) | assumption)
                                            have q234 : x11_2 < (t211.length : Int) := of_decide_eq_true (by first | (with_reducible assumption) | assumption)
                                            obtain ⟨ad234, e234, hx234_0⟩ := Kd.at_int (Kd.R_reads' HO_6.out).2.2 x11_2 p234 q234
                                            obtain rfl : ad216 = ad234 := (by injection e234)
                                            replace p234 := eq_true p234
                                            replace q234 := eq_true q234
                                            have p235 : 0 ≤ ((ji36) : Int) := of_decide_eq_true (by first | (with_reducible assumption) | assumption)
                                            have q235 : (ji36) < (t211.length : Int) := of_decide_eq_true (by first | (with_reducible assumption) | assumption)
                                            obtain ⟨ad235, e235, hx235_0⟩ := Kd.at_int (Kd.R_reads' HO_6.out).2.2 (ji36) p235 q235
                                            obtain rfl : ad216 = ad235 := (by injection e235)
                                            replace p235 := eq_true p235
                                            replace q235 := eq_true q235
                                            have p236 : 0 ≤ (x11_2 : Int) := of_decide_eq_true (by first | (with_reducible assumption) | assumption)
                                            have q236 : x11_2 < (t208.length : Int) := of_decide_eq_true (by first | (with_reducible assumption) | assumption)
                                            obtain ⟨ad236, e236, hx236_0⟩ := Kd.at_int (Kd.V_reads' HO_1.out).2.2 x11_2 p236 q236
                                            obtain rfl : ad218 = ad236 := (by injection e236)
                                            replace p236 := eq_true p236
                                            replace q236 := eq_true q236
                                            have p237 : 0 ≤ ((ji36) : Int) := of_decide_eq_true (by first | (with_reducible assumption) | assumption)
                                            have q237 : (ji36) < (t208.length : Int) := of_decide_eq_true (by first | (with_reducible assumption) | assumption)
                                            obtain ⟨ad237, e237, hx237_0⟩ := Kd.at_int (Kd.V_reads' HO_1.out).2.2 (ji36) p237 q237
                                            obtain rfl : ad218 = ad237 := (by injection e237)
                                            replace p237 := eq_true p237
                                            replace q237 := eq_true q237
                                            have p238 : 0 ≤ (x11_2 : Int) := of_decide_eq_true (by first | (with_reducible assumption) | assumption)
                                            have q238 : x11_2 < (t211.length : Int) := of_decide_eq_true (by first | (with_reducible assumption) | assumption)
                                            obtain ⟨ad238, e238, hx238_0⟩ := Kd.at_int (Kd.R_reads' HO_6.out).2.2 x11_2 p238 q238
                                            obtain rfl : ad216 = ad238 := (by injection e238)
                                            replace p238 := eq_true p238
                                            replace q238 := eq_true q238
                                            have p239 : 0 ≤ ((ji36) : Int) := of_decide_eq_true (by first | (with_reducible assumption) | assumption)
                                            have q239 : (ji36) < (t211.length : Int) := of_decide_eq_true (by first | (with_reducible assumption) | assumption)
                                            obtain ⟨ad239, e239, hx239_0⟩ := Kd.at_int (Kd.R_reads' HO_6.out).2.2 (ji36) p239 q239
                                            obtain rfl : ad216 = ad239 := (by injection e239)
                                            replace p239 := eq_true p239
                                            replace q239 := eq_true q239
                                            go_wp2
                                            repeat (go_quiet (fail); try go_wp2)
                                            go_roundg k2
                                            case measure => have := HK1.out; have := HK2.out; omega
                                            case rel => exact ⟨(wrap64 (x10_2 - (rd t211 x11_2))), (wrap64 (x11_2 + 1)), (by first | rfl | (simp; done) | (simp [*]; done)), (by first | rfl | (simp; done) | (simp [*]; done)), H', ⟨by have := HK1.out; have := HK2.out; omega⟩, ⟨by (with_reducible repeat (first | apply Kd.V_alloc | apply Kd.V_drewN | apply Kd.V_drew)); exact HO_1.out⟩, ⟨by (with_reducible repeat (first | apply Kd.R_alloc | apply Kd.R_drewN | apply Kd.R_drew)); exact HO_6.out⟩, ⟨by repeat (first | (with_reducible first | exact HB.out | apply below_alloc | apply pw_below_drewN | apply below_drew1) | exact HB.out)⟩⟩
                                        · rw [if_neg c42] at H
                                          have c42b0 : decide ((rd t208 x11_2) < (rd t208 (ji36))) = false := decide_eq_false c42
                                          clear c42
                                          have H' := Aside0.mk H
                                          clear H
                                          have p216 : 0 ≤ (x11_2 : Int) := of_decide_eq_true (by first | (with_reducible assumption) | assumption)
                                          have q216 : x11_2 < (t211.length : Int) := of_decide_eq_true (by first | (with_reducible assumption) | assumption)
                                          obtain ⟨ad216, e216, hx216_0⟩ := Kd.at_int (Kd.R_reads' HO_6.out).2.2 x11_2 p216 q216
                                          cases e216
                                          replace p216 := eq_true p216
                                          replace q216 := eq_true q216
                                          have p217 : 0 ≤ (x11_2 : Int) := of_decide_eq_true (by first | (with_reducible assumption) | assumption)
                                          have q217 : x11_2 < (t211.length : Int) := of_decide_eq_true (by first | (with_reducible assumption) | assumption)
                                          obtain ⟨ad217, e217, hx217_0⟩ := Kd.at_int (Kd.R_reads' HO_6.out).2.2 x11_2 p217 q217
                                          obtain rfl : ad216 = ad217 := (by injection e217)
                                          replace p217 := eq_true p217
                                          replace q217 := eq_true q217
                                          have p218 : 0 ≤ (x11_2 : Int) := of_decide_eq_true (by first | (with_reducible assumption) | assumption)
                                          have q218 : x11_2 < (t208.length : Int) := of_decide_eq_true (by first | (with_reducible assumption) | assumption)
                                          obtain ⟨ad218, e218, hx218_0⟩ := Kd.at_int (Kd.V_reads' HO_1.out).2.2 x11_2 p218 q218
                                          cases e218
                                          replace p218 := eq_true p218
                                          replace q218 := eq_true q218
                                          have p232 : 0 ≤ (x11_2 : Int) := of_decide_eq_true (by first | (with_reducible assumption) | assumption)
                                          have q232 : x11_2 < (t208.length : Int) := of_decide_eq_true (by first | (with_reducible assumption) | assumption)
                                          obtain ⟨ad232, e232, hx232_0⟩ := Kd.at_int (Kd.V_reads' HO_1.out).2.2 x11_2 p232 q232
                                          obtain rfl : ad218 = ad232 := (by injection e232)
                                          replace p232 := eq_true p232
                                          replace q232 := eq_true q232
                                          have p233 : 0 ≤ ((ji36) : Int) := of_decide_eq_true (by first | (with_reducible assumption) | assumption)
                                          have q233 : (ji36) < (t208.length : Int) := of_decide_eq_true (by first | (with_reducible assumption) | assumption)
                                          obtain ⟨ad233, e233, hx233_0⟩ := Kd.at_int (Kd.V_reads' HO_1.out).2.2 (ji36) p233 q233
                                          obtain rfl : ad218 = ad233 := (by injection e233)
                                          replace p233 := eq_true p233
                                          replace q233 := eq_true q233
                                          have p234 : 0 ≤ (x11_2 : Int) := of_decide_eq_true (by first | (with_reducible assumption) | assumption)
                                          have q234 : x11_2 < (t211.length : Int) := of_decide_eq_true (by first | (with_reducible assumption) | assumption)
                                          obtain ⟨ad234, e234, hx234_0⟩ := Kd.at_int (Kd.R_reads' HO_6.out).2.2 x11_2 p234 q234
                                          obtain rfl : ad216 = ad234 := (by injection e234)
                                          replace p234 := eq_true p234
                                          replace q234 := eq_true q234
                                          have p235 : 0 ≤ ((ji36) : Int) := of_decide_eq_true (by first | (with_reducible assumption) | assumption)
                                          have q235 : (ji36) < (t211.length : Int) := of_decide_eq_true (by first | (with_reducible assumption) | assumption)
                                          obtain ⟨ad235, e235, hx235_0⟩ := Kd.at_int (Kd.R_reads' HO_6.out).2.2 (ji36) p235 q235
                                          obtain rfl : ad216 = ad235 := (by injection e235)
                                          replace p235 := eq_true p235
                                          replace q235 := eq_true q235
                                          have p236 : 0 ≤ (x11_2 : Int) := of_decide_eq_true (by first | (with_reducible assumption) | assumption)
                                          have q236 : x11_2 < (t208.length : Int) := of_decide_eq_true (by first | (with_reducible assumption) | assumption)
                                          obtain ⟨ad236, e236, hx236_0⟩ := Kd.at_int (Kd.V_reads' HO_1.out).2.2 x11_2 p236 q236
                                          obtain rfl : ad218 = ad236 := (by injection e236)
                                          replace p236 := eq_true p236
                                          replace q236 := eq_true q236
                                          have p237 : 0 ≤ ((ji36) : Int) := of_decide_eq_true (by first | (with_reducible assumption) | assumption)
                                          have q237 : (ji36) < (t208.length : Int) := of_decide_eq_true (by first | (with_reducible assumption) | assumption)
                                          obtain ⟨ad237, e237, hx237_0⟩ := Kd.at_int (Kd.V_reads' HO_1.out).2.2 (ji36) p237 q237
                                          obtain rfl : ad218 = ad237 := (by injection e237)
                                          replace p237 := eq_true p237
                                          replace q237 := eq_true q237
                                          go_wp2
                                          repeat (go_quiet (fail); try go_wp2)
                                          go_roundg k2
                                          case measure => have := HK1.out; have := HK2.out; omega
                                          case rel => exact ⟨(wrap64 (x10_2 - (rd t211 x11_2))), (wrap64 (x11_2 + 1)), (by first | rfl | (simp; done) | (simp [*]; done)), (by first | rfl | (simp; done) | (simp [*]; done)), H', ⟨by have := HK1.out; have := HK2.out; omega⟩, ⟨by (with_reducible repeat (first | apply Kd.V_alloc | apply Kd.V_drewN | apply Kd.V_drew)); exact HO_1.out⟩, ⟨by (with_reducible repeat (first | apply Kd.R_alloc | apply Kd.R_drewN | apply Kd.R_drew)); exact HO_6.out⟩, ⟨by repeat (first | (with_reducible first | exact HB.out | apply below_alloc | apply pw_below_drewN | apply below_drew1) | exact HB.out)⟩⟩
                                    · rw [if_neg c40] at H
                                      exact absurd H (by simp)
                                  · rw [if_neg c39] at H
                                    have c39b0 : decide ((rd t208 (ji36)) < (rd t208 x11_2)) = false := decide_eq_false c39
                                    clear c39
                                    by_cases c44 : (rd t208 x11_2) < (rd t208 (ji36))
                                    · rw [if_pos c44] at H
                                      have c44b0 : decide ((rd t208 x11_2) < (rd t208 (ji36))) = true := decide_eq_true c44
                                      clear c44
                                      by_cases c45 : (ji36) < (t211.length : Int)
                                      · rw [if_pos c45] at H
                                        have c45b0 : decide ((ji36) < (t211.length : Int)) = true := decide_eq_true c45
                                        clear c45
                                        by_cases c46 : (rd t211 x11_2) > (rd t211 (ji36))
                                        · rw [if_pos c46] at H
                                          have c46b0 : decide ((rd t211 (ji36)) < (rd t211 x11_2)) = true := decide_eq_true c46
                                          clear c46
                                          obtain rfl := Option.some.inj H
                                          have p216 : 0 ≤ (x11_2 : Int) := of_decide_eq_true (by first | (with_reducible assumption) | assumption)
                                          have q216 : x11_2 < (t211.length : Int) := of_decide_eq_true (by first | (with_reducible assumption) | assumption)
                                          obtain ⟨ad216, e216, hx216_0⟩ := Kd.at_int (Kd.R_reads' HO_6.out).2.2 x11_2 p216 q216
                                          cases e216
                                          replace p216 := eq_true p216
                                          replace q216 := eq_true q216
                                          have p217 : 0 ≤ (x11_2 : Int) := of_decide_eq_true (by first | (with_reducible assumption) | assumption)
                                          have q217 : x11_2 < (t211.length : Int) := of_decide_eq_true (by first | (with_reducible assumption) | assumption)
                                          obtain ⟨ad217, e217, hx217_0⟩ := Kd.at_int (Kd.R_reads' HO_6.out).2.2 x11_2 p217 q217
                                          obtain rfl : ad216 = ad217 := (by injection e217)
                                          replace p217 := eq_true p217
                                          replace q217 := eq_true q217
                                          have p218 : 0 ≤ (x11_2 : Int) := of_decide_eq_true (by first | (with_reducible assumption) | assumption)
                                          have q218 : x11_2 < (t208.length : Int) := of_decide_eq_true (by first | (with_reducible assumption) | assumption)
                                          obtain ⟨ad218, e218, hx218_0⟩ := Kd.at_int (Kd.V_reads' HO_1.out).2.2 x11_2 p218 q218
                                          cases e218
                                          replace p218 := eq_true p218
                                          replace q218 := eq_true q218
                                          have p232 : 0 ≤ (x11_2 : Int) := of_decide_eq_true (by first | (with_reducible assumption) | assumption)
                                          have q232 : x11_2 < (t208.length : Int) := of_decide_eq_true (by first | (with_reducible assumption) | assumption)
                                          obtain ⟨ad232, e232, hx232_0⟩ := Kd.at_int (Kd.V_reads' HO_1.out).2.2 x11_2 p232 q232
                                          obtain rfl : ad218 = ad232 := (by injection e232)
                                          replace p232 := eq_true p232
                                          replace q232 := eq_true q232
                                          have p233 : 0 ≤ ((ji36) : Int) := of_decide_eq_true (by first | (with_reducible assumption) | assumption)
                                          have q233 : (ji36) < (t208.length : Int) := of_decide_eq_true (by first | (with_reducible assumption) | assumption)
                                          obtain ⟨ad233, e233, hx233_0⟩ := Kd.at_int (Kd.V_reads' HO_1.out).2.2 (ji36) p233 q233
                                          obtain rfl : ad218 = ad233 := (by injection e233)
                                          replace p233 := eq_true p233
                                          replace q233 := eq_true q233
                                          have p240 : 0 ≤ (x11_2 : Int) := of_decide_eq_true (by first | (with_reducible assumption) | assumption)
                                          have q240 : x11_2 < (t208.length : Int) := of_decide_eq_true (by first | (with_reducible assumption) | assumption)
                                          obtain ⟨ad240, e240, hx240_0⟩ := Kd.at_int (Kd.V_reads' HO_1.out).2.2 x11_2 p240 q240
                                          obtain rfl : ad218 = ad240 := (by injection e240)
                                          replace p240 := eq_true p240
                                          replace q240 := eq_true q240
                                          have p241 : 0 ≤ ((ji36) : Int) := of_decide_eq_true (by first | (with_reducible assumption) | assumption)
                                          have q241 : (ji36) < (t208.length : Int) := of_decide_eq_true (by first | (with_reducible assumption) | assumption)
                                          obtain ⟨ad241, e241, hx241_0⟩ := Kd.at_int (Kd.V_reads' HO_1.out).2.2 (ji36) p241 q241
                                          obtain rfl : ad218 = ad241 := (by injection e241)
                                          replace p241 := eq_true p241
                                          replace q241 := eq_true q241
                                          have p242 : 0 ≤ (x11_2 : Int) := of_decide_eq_true (by first | (with_reducible assumption) | assumption)
                                          have q242 : x11_2 < (t211.length : Int) := of_decide_eq_true (by first | (with_reducible assumption) | assumption)
                                          obtain ⟨ad242, e242, hx242_0⟩ := Kd.at_int (Kd.R_reads' HO_6.out).2.2 x11_2 p242 q242
                                          obtain rfl : ad216 = ad242 := (by injection e242)
                                          replace p242 := eq_true p242
                                          replace q242 := eq_true q242
                                          have p243 : 0 ≤ ((ji36) : Int) := of_decide_eq_true (by first | (with_reducible assumption) | assumption)
                                          have q243 : (ji36) < (t211.length : Int) := of_decide_eq_true (by first | (with_reducible assumption) | assumption)
                                          obtain ⟨ad243, e243, hx243_0⟩ := Kd.at_int (Kd.R_reads' HO_6.out).2.2 (ji36) p243 q243
                                          obtain rfl : ad216 = ad243 := (by injection e243)
                                          replace p243 := eq_true p243
                                          replace q243 := eq_true q243
                                          go_wp2
                                          repeat (go_quiet (fail); try go_wp2)
                                          go_ret
                                          exact ⟨by first | rfl | (simp [errW_none, errW_some] <;> rfl) | (simp only [← hji36]; first | rfl | (simp [errW_none, errW_some] <;> rfl)) | (simp [*, errW_none, errW_some] <;> rfl), by repeat (first | (with_reducible first | exact HB.out | apply below_alloc | apply pw_below_drewN | apply below_drew1) | exact HB.out)⟩
                                        · rw [if_neg c46] at H
                                          have c46b0 : decide ((rd t211 (ji36)) < (rd t211 x11_2)) = false := decide_eq_false c46
                                          clear c46
                                          have H' := Aside0.mk H
                                          clear H
                                          have p216 : 0 ≤ (x11_2 : Int) := of_decide_eq_true (by first | (with_reducible assumption) | assumption)
                                          have q216 : x11_2 < (t211.length : Int) := of_decide_eq_true (by first | (with_reducible assumption) | assumption)
                                          obtain ⟨ad216, e216, hx216_0⟩ := Kd.at_int (Kd.R_reads' HO_6.out).2.2 x11_2 p216 q216
                                          cases e216
                                          replace p216 := eq_true p216
                                          replace q216 := eq_true q216
                                          have p217 : 0 ≤ (x11_2 : Int) := of_decide_eq_true (by first | (with_reducible assumption) | assumption)
                                          have q217 : x11_2 < (t211.length : Int) := of_decide_eq_true (by first | (with_reducible assumption) | assumption)
                                          obtain ⟨ad217, e217, hx217_0⟩ := Kd.at_int (Kd.R_reads' HO_6.out).2.2 x11_2 p217 q217
                                          obtain rfl : ad216 = ad217 := (by injection e217)
                                          replace p217 := eq_true p217
                                          replace q217 := eq_true q217
                                          have p218 : 0 ≤ (x11_2 : Int) := of_decide_eq_true (by first | (with_reducible assumption) | assumption)
                                          have q218 : x11_2 < (t208.length : Int) := of_decide_eq_true (by first | (with_reducible assumption) | assumption)
                                          obtain ⟨ad218, e218, hx218_0⟩ := Kd.at_int (Kd.V_reads' HO_1.out).2.2 x11_2 p218 q218
                                          cases e218
                                          replace p218 := eq_true p218
                                          replace q218 := eq_true q218
                                          have p232 : 0 ≤ (x11_2 : Int) := of_decide_eq_true (by first | (with_reducible assumption) | assumption)
                                          have q232 : x11_2 < (t208.length : Int) := of_decide_eq_true (by first | (with_reducible assumption) | assumption)
                                          obtain ⟨ad232, e232, hx232_0⟩ := Kd.at_int (Kd.V_reads' HO_1.out).2.2 x11_2 p232 q232
                                          obtain rfl : ad218 = ad232 := (by injection e232)
                                          replace p232 := eq_true p232
                                          replace q232 := eq_true q232
                                          have p233 : 0 ≤ ((ji36) : Int) := of_decide_eq_true (by first | (with_reducible assumption) | assumption)
                                          have q233 : (ji36) < (t208.length : Int) := of_decide_eq_true (by first | (with_reducible assumption) | assumption)
                                          obtain ⟨ad233, e233, hx233_0⟩ := Kd.at_int (Kd.V_reads' HO_1.out).2.2 (ji36) p233 q233
                                          obtain rfl : ad218 = ad233 := (by injection e233)
                                          replace p233 := eq_true p233
                                          replace q233 := eq_true q233
                                          have p240 : 0 ≤ (x11_2 : Int) := of_decide_eq_true (by first | (with_reducible assumption) | assumption)
                                          have q240 : x11_2 < (t208.length : Int) := of_decide_eq_true (by first | (with_reducible assumption) | assumption)
                                          obtain ⟨ad240, e240, hx240_0⟩ := Kd.at_int (Kd.V_reads' HO_1.out).2.2 x11_2 p240 q240
                                          obtain rfl : ad218 = ad240 := (by injection e240)
                                          replace p240 := eq_true p240
                                          replace q240 := eq_true q240
                                          have p241 : 0 ≤ ((ji36) : Int) := of_decide_eq_true (by first | (with_reducible assumption) | assumption)
                                          have q241 : (ji36) < (t208.length : Int) := of_decide_eq_true (by first | (with_reducible assumption) | assumption)
                                          obtain ⟨ad241, e241, hx241_0⟩ := Kd.at_int (Kd.V_reads' HO_1.out).2.2 (ji36) p241 q241
                                          obtain rfl : ad218 = ad241 := (by injection e241)
                                          replace p241 := eq_true p241
                                          replace q241 := eq_true q241
                                          have p242 : 0 ≤ (x11_2 : Int) := of_decide_eq_true (by first | (with_reducible assumption) | assumption)
                                          have q242 : x11_2 < (t211.length : Int) := of_decide_eq_true (by first | (with_reducible assumption) | assumption)
                                          obtain ⟨ad242, e242, hx242_0⟩ := Kd.at_int (Kd.R_reads' HO_6.out).2.2 x11_2 p242 q242
                                          obtain rfl : ad216 = ad242 := (by injection e242)
                                          replace p242 := eq_true p242
                                          replace q242 := eq_true q242
                                          have p243 : 0 ≤ ((ji36) : Int) := of_decide_eq_true (by first | (with_reducible assumption) | assumption)
                                          have q243 : (ji36) < (t211.length : Int) := of_decide_eq_true (by first | (with_reducible assumption) | assumption)
                                          obtain ⟨ad243, e243, hx243_0⟩ := Kd.at_int (Kd.R_reads' HO_6.out).2.2 (ji36) p243 q243
                                          obtain rfl : ad216 = ad243 := (by injection e243)
                                          replace p243 := eq_true p243
                                          replace q243 := eq_true q243
                                          go_wp2
                                          repeat (go_quiet (fail); try go_wp2)
                                          go_roundg k2
                                          case measure => have := HK1.out; have := HK2.out; omega
                                          case rel => exact ⟨(wrap64 (x10_2 - (rd t211 x11_2))), (wrap64 (x11_2 + 1)), (by first | rfl | (simp; done) | (simp [*]; done)), (by first | rfl | (simp; done) | (simp [*]; done)), H', ⟨by have := HK1.out; have := HK2.out; omega⟩, ⟨by (with_reducible repeat (first | apply Kd.V_alloc | apply Kd.V_drewN | apply Kd.V_drew)); exact HO_1.out⟩, ⟨by (with_reducible repeat (first | apply Kd.R_alloc | apply Kd.R_drewN | apply Kd.R_drew)); exact HO_6.out⟩, ⟨by repeat (first | (with_reducible first | exact HB.out | apply below_alloc | apply pw_below_drewN | apply below_drew1) | exact HB.out)⟩⟩
                                      · rw [if_neg c45] at H
                                        exact absurd H (by simp)
                                    · rw [if_neg c44] at H
                                      have c44b0 : decide ((rd t208 x11_2) < (rd t208 (ji36))) = false := decide_eq_false c44
                                      clear c44
                                      have H' := Aside0.mk H
                                      clear H
                                      have p216 : 0 ≤ (x11_2 : Int) := of_decide_eq_true (by first | (with_reducible assumption) | assumption)
                                      have q216 : x11_2 < (t211.length : Int) := of_decide_eq_true (by first | (with_reducible assumption) | assumption)
                                      obtain ⟨ad216, e216, hx216_0⟩ := Kd.at_int (Kd.R_reads' HO_6.out).2.2 x11_2 p216 q216
                                      cases e216
                                      replace p216 := eq_true p216
                                      replace q216 := eq_true q216
                                      have p217 : 0 ≤ (x11_2 : Int) := of_decide_eq_true (by first | (with_reducible assumption) | assumption)
                                      have q217 : x11_2 < (t211.length : Int) := of_decide_eq_true (by first | (with_reducible assumption) | assumption)
                                      obtain ⟨ad217, e217, hx217_0⟩ := Kd.at_int (Kd.R_reads' HO_6.out).2.2 x11_2 p217 q217
                                      obtain rfl : ad216 = ad217 := (by injection e217)
                                      replace p217 := eq_true p217
                                      replace q217 := eq_true q217
                                      have p218 : 0 ≤ (x11_2 : Int) := of_decide_eq_true (by first | (with_reducible assumption) | assumption)
                                      have q218 : x11_2 < (t208.length : Int) := of_decide_eq_true (by first | (with_reducible assumption) | assumption)
                                      obtain ⟨ad218, e218, hx218_0⟩ := Kd.at_int (Kd.V_reads' HO_1.out).2.2 x11_2 p218 q218
                                      cases e218
                                      replace p218 := eq_true p218
                                      replace q218 := eq_true q218
                                      have p232 : 0 ≤ (x11_2 : Int) := of_decide_eq_true (by first | (with_reducible assumption) | assumption)
                                      have q232 : x11_2 < (t208.length : Int) := of_decide_eq_true (by first | (with_reducible assumption) | assumption)
                                      obtain ⟨ad232, e232, hx232_0⟩ := Kd.at_int (Kd.V_reads' HO_1.out).2.2 x11_2 p232 q232
                                      obtain rfl : ad218 = ad232 := (by injection e232)
                                      replace p232 := eq_true p232
                                      replace q232 := eq_true q232
                                      have p233 : 0 ≤ ((ji36) : Int) := of_decide_eq_true (by first | (with_reducible assumption) | assumption)
                                      have q233 : (ji36) < (t208.length : Int) := of_decide_eq_true (by first | (with_reducible assumption) | assumption)
                                      obtain ⟨ad233, e233, hx233_0⟩ := Kd.at_int (Kd.V_reads' HO_1.out).2.2 (ji36) p233 q233
                                      obtain rfl : ad218 = ad233 := (by injection e233)
                                      replace p233 := eq_true p233
                                      replace q233 := eq_true q233
                                      have p240 : 0 ≤ (x11_2 : Int) := of_decide_eq_true (by first | (with_reducible assumption) | assumption)
                                      have q240 : x11_2 < (t208.length : Int) := of_decide_eq_true (by first | (with_reducible assumption) | assumption)
                                      obtain ⟨ad240, e240, hx240_0⟩ := Kd.at_int (Kd.V_reads' HO_1.out).2.2 x11_2 p240 q240
                                      obtain rfl : ad218 = ad240 := (by injection e240)
                                      replace p240 := eq_true p240
                                      replace q240 := eq_true q240
                                      have p241 : 0 ≤ ((ji36) : Int) := of_decide_eq_true (by first | (with_reducible assumption) | assumption)
                                      have q241 : (ji36) < (t208.length : Int) := of_decide_eq_true (by first | (with_reducible assumption) | assumption)
                                      obtain ⟨ad241, e241, hx241_0⟩ := Kd.at_int (Kd.V_reads' HO_1.out).2.2 (ji36) p241 q241
                                      obtain rfl : ad218 = ad241 := (by injection e241)
                                      replace p241 := eq_true p241
                                      replace q241 := eq_true q241
                                      go_wp2
                                      repeat (go_quiet (fail); try go_wp2)
                                      go_roundg k2
                                      case measure => have := HK1.out; have := HK2.out; omega
                                      case rel => exact ⟨(wrap64 (x10_2 - (rd t211 x11_2))), (wrap64 (x11_2 + 1)), (by first | rfl | (simp; done) | (simp [*]; done)), (by first | rfl | (simp; done) | (simp [*]; done)), H', ⟨by have := HK1.out; have := HK2.out; omega⟩, ⟨by (with_reducible repeat (first | apply Kd.V_alloc | apply Kd.V_drewN | apply Kd.V_drew)); exact HO_1.out⟩, ⟨by (with_reducible repeat (first | apply Kd.R_alloc | apply Kd.R_drewN | apply Kd.R_drew)); exact HO_6.out⟩, ⟨by repeat (first | (with_reducible first | exact HB.out | apply below_alloc | apply pw_below_drewN | apply below_drew1) | exact HB.out)⟩⟩
                                · rw [if_neg c38] at H
                                  exact absurd H (by simp)
                              · rw [if_neg c37] at H
                                exact absurd H (by simp)
                            · rw [if_neg c35] at H
                              have c35b0 : decide (0 < x11_2) = false := decide_eq_false c35
                              clear c35
                              have H' := Aside0.mk H
                              clear H
                              have p216 : 0 ≤ (x11_2 : Int) := of_decide_eq_true (by first | (with_reducible assumption) | assumption)
                              have q216 : x11_2 < (t211.length : Int) := of_decide_eq_true (by first | (with_reducible assumption) | assumption)
                              obtain ⟨ad216, e216, hx216_0⟩ := Kd.at_int (Kd.R_reads' HO_6.out).2.2 x11_2 p216 q216
                              cases e216
                              replace p216 := eq_true p216
                              replace q216 := eq_true q216
                              have p217 : 0 ≤ (x11_2 : Int) := of_decide_eq_true (by first | (with_reducible assumption) | assumption)
                              have q217 : x11_2 < (t211.length : Int) := of_decide_eq_true (by first | (with_reducible assumption) | assumption)
                              obtain ⟨ad217, e217, hx217_0⟩ := Kd.at_int (Kd.R_reads' HO_6.out).2.2 x11_2 p217 q217
                              obtain rfl : ad216 = ad217 := (by injection e217)
                              replace p217 := eq_true p217
                              replace q217 := eq_true q217
                              have p218 : 0 ≤ (x11_2 : Int) := of_decide_eq_true (by first | (with_reducible assumption) | assumption)
                              have q218 : x11_2 < (t208.length : Int) := of_decide_eq_true (by first | (with_reducible assumption) | assumption)
                              obtain ⟨ad218, e218, hx218_0⟩ := Kd.at_int (Kd.V_reads' HO_1.out).2.2 x11_2 p218 q218
                              cases e218
                              replace p218 := eq_true p218
                              replace q218 := eq_true q218
                              go_wp2
                              repeat (go_quiet (fail); try go_wp2)
                              go_roundg k2
                              case measure => have := HK1.out; have := HK2.out; omega
                              case rel => exact ⟨(wrap64 (x10_2 - (rd t211 x11_2))), (wrap64 (x11_2 + 1)), (by first | rfl | (simp; done) | (simp [*]; done)), (by first | rfl | (simp; done) | (simp [*]; done)), H', ⟨by have := HK1.out; have := HK2.out; omega⟩, ⟨by (with_reducible repeat (first | apply Kd.V_alloc | apply Kd.V_drewN | apply Kd.V_drew)); exact HO_1.out⟩, ⟨by (with_reducible repeat (first | apply Kd.R_alloc | apply Kd.R_drewN | apply Kd.R_drew)); exact HO_6.out⟩, ⟨by repeat (first | (with_reducible first | exact HB.out | apply below_alloc | apply pw_below_drewN | apply below_drew1) | exact HB.out)⟩⟩
                        · as_aux_lemma =>
                          replace c20 := Bool.eq_false_iff.mpr c20
                          subst c20
                          have H1 : (if x11_2 > 0 then (if 0 ≤ (wrap64 (x11_2 - 1)) then (if (wrap64 (x11_2 - 1)) < (t208.length : Int) then (if (rd t208 x11_2) > (rd t208 (wrap64 (x11_2 - 1))) then (if (wrap64 (x11_2 - 1)) < (t211.length : Int) then (if (rd t211 x11_2) < (rd t211 (wrap64 (x11_2 - 1))) then (some false) else (if (rd t208 x11_2) < (rd t208 (wrap64 (x11_2 - 1))) then (if (rd t211 x11_2) > (rd t211 (wrap64 (x11_2 - 1))) then (some false) else (purflinglaw01_FixedAdds.l1 k2 t208 t207 t211 false (wrap64 (x10_2 - (rd t211 x11_2))) (wrap64 (x11_2 + 1)))) else (purflinglaw01_FixedAdds.l1 k2 t208 t207 t211 false (wrap64 (x10_2 - (rd t211 x11_2))) (wrap64 (x11_2 + 1))))) else (none)) else (if (rd t208 x11_2) < (rd t208 (wrap64 (x11_2 - 1))) then (if (wrap64 (x11_2 - 1)) < (t211.length : Int) then (if (rd t211 x11_2) > (rd t211 (wrap64 (x11_2 - 1))) then (some false) else (purflinglaw01_FixedAdds.l1 k2 t208 t207 t211 false (wrap64 (x10_2 - (rd t211 x11_2))) (wrap64 (x11_2 + 1)))) else (none)) else (purflinglaw01_FixedAdds.l1 k2 t208 t207 t211 false (wrap64 (x10_2 - (rd t211 x11_2))) (wrap64 (x11_2 + 1))))) else (none)) else (none)) else (purflinglaw01_FixedAdds.l1 k2 t208 t207 t211 false (wrap64 (x10_2 - (rd t211 x11_2))) (wrap64 (x11_2 + 1)))) = some r := by rw [if_neg (show ¬ (false = true) by decide)] at H; exact H
                          clear H
                          have H := H1
                          clear H1
                          by_cases c47 : x11_2 > 0
                          · rw [if_pos c47] at H
                            have c47b0 : decide (0 < x11_2) = true := decide_eq_true c47
                            clear c47
                            obtain ⟨ji48, hji48⟩ : ∃ j_ : Int, (wrap64 (x11_2 - 1)) = j_ := ⟨_, rfl⟩
                            replace H : (if 0 ≤ (ji48) then (if (ji48) < (t208.length : Int) then (if (rd t208 x11_2) > (rd t208 (ji48)) then (if (ji48) < (t211.length : Int) then (if (rd t211 x11_2) < (rd t211 (ji48)) then (some false) else (if (rd t208 x11_2) < (rd t208 (ji48)) then (if (rd t211 x11_2) > (rd t211 (ji48)) then (some false) else (purflinglaw01_FixedAdds.l1 k2 t208 t207 t211 false (wrap64 (x10_2 - (rd t211 x11_2))) (wrap64 (x11_2 + 1)))) else (purflinglaw01_FixedAdds.l1 k2 t208 t207 t211 false (wrap64 (x10_2 - (rd t211 x11_2))) (wrap64 (x11_2 + 1))))) else (none)) else (if (rd t208 x11_2) < (rd t208 (ji48)) then (if (ji48) < (t211.length : Int) then (if (rd t211 x11_2) > (rd t211 (ji48)) then (some false) else (purflinglaw01_FixedAdds.l1 k2 t208 t207 t211 false (wrap64 (x10_2 - (rd t211 x11_2))) (wrap64 (x11_2 + 1)))) else (none)) else (purflinglaw01_FixedAdds.l1 k2 t208 t207 t211 false (wrap64 (x10_2 - (rd t211 x11_2))) (wrap64 (x11_2 + 1))))) else (none)) else (none)) = some r := by first | (rw [hji48] at H; exact H) | (simp only [hji48] at H ⊢; exact H)
                            have hji48w : (IntKind.i64.wrap (x11_2 - 1)) = ji48 := (i64_w _).trans hji48
                            by_cases c49 : 0 ≤ (ji48)
                            · rw [if_pos c49] at H
                              have c49b0 : decide (0 ≤ (ji48)) = true := decide_eq_true c49
                              clear c49
                              by_cases c50 : (ji48) < (t208.length : Int)
                              · rw [if_pos c50] at H
                                have c50b0 : decide ((ji48) < (t208.length : Int)) = true := decide_eq_true c50
                                clear c50
                                by_cases c51 : (rd t208 x11_2) > (rd t208 (ji48))
                                · rw [if_pos c51] at H
                                  have c51b0 : decide ((rd t208 (ji48)) < (rd t208 x11_2)) = true := decide_eq_true c51
                                  clear c51
                                  by_cases c52 : (ji48) < (t211.length : Int)
                                  · rw [if_pos c52] at H
                                    have c52b0 : decide ((ji48) < (t211.length : Int)) = true := decide_eq_true c52
                                    clear c52
                                    by_cases c53 : (rd t211 x11_2) < (rd t211 (ji48))
                                    · rw [if_pos c53] at H
                                      have c53b0 : decide ((rd t211 x11_2) < (rd t211 (ji48))) = true := decide_eq_true c53
                                      clear c53
                                      obtain rfl := Option.some.inj H
                                      have p216 : 0 ≤ (x11_2 : Int) := of_decide_eq_true (by first | (with_reducible assumption) | assumption)
                                      have q216 : x11_2 < (t211.length : Int) := of_decide_eq_true (by first | (with_reducible assumption) | assumption)
                                      obtain ⟨ad216, e216, hx216_0⟩ := Kd.at_int (Kd.R_reads' HO_6.out).2.2 x11_2 p216 q216
                                      cases e216
                                      replace p216 := eq_true p216
                                      replace q216 := eq_true q216
                                      have p217 : 0 ≤ (x11_2 : Int) := of_decide_eq_true (by first | (with_reducible assumption) | assumption)
                                      have q217 : x11_2 < (t211.length : Int) := of_decide_eq_true (by first | (with_reducible assumption) | assumption)
                                      obtain ⟨ad217, e217, hx217_0⟩ := Kd.at_int (Kd.R_reads' HO_6.out).2.2 x11_2 p217 q217
                                      obtain rfl : ad216 = ad217 := (by injection e217)
                                      replace p217 := eq_true p217
                                      replace q217 := eq_true q217
                                      have p244 : 0 ≤ (x11_2 : Int) := of_decide_eq_true (by first | (with_reducible assumption) | assumption)
                                      have q244 : x11_2 < (t208.length : Int) := of_decide_eq_true (by first | (with_reducible assumption) | assumption)
                                      obtain ⟨ad244, e244, hx244_0⟩ := Kd.at_int (Kd.V_reads' HO_1.out).2.2 x11_2 p244 q244
                                      cases e244
                                      replace p244 := eq_true p244
                                      replace q244 := eq_true q244
                                      have p245 : 0 ≤ ((ji48) : Int) := of_decide_eq_true (by first | (with_reducible assumption) | assumption)
                                      have q245 : (ji48) < (t208.length : Int) := of_decide_eq_true (by first | (with_reducible assumption) | assumption)
                                      obtain ⟨ad245, e245, hx245_0⟩ := Kd.at_int (Kd.V_reads' HO_1.out).2.2 (ji48) p245 q245
                                      obtain rfl : ad244 = ad245 := (by injection e245)
                                      replace p245 := eq_true p245
                                      replace q245 := eq_true q245
                                      have p246 : 0 ≤ (x11_2 : Int) := of_decide_eq_true (by first | (with_reducible assumption) | assumption)
                                      have q246 : x11_2 < (t211.length : Int) := of_decide_eq_true (by first | (with_reducible assumption) | assumption)
                                      obtain ⟨ad246, e246, hx246_0⟩ := Kd.at_int (Kd.R_reads' HO_6.out).2.2 x11_2 p246 q246
                                      obtain rfl : ad216 = ad246 := (by injection e246)
                                      replace p246 := eq_true p246
                                      replace q246 := eq_true q246
                                      have p247 : 0 ≤ ((ji48) : Int) := of_decide_eq_true (by first | (with_reducible assumption) | assumption)
                                      have q247 : (ji48) < (t211.length : Int) := of_decide_eq_true (by first | (with_reducible assumption) | assumption)
                                      obtain ⟨ad247, e247, hx247_0⟩ := Kd.at_int (Kd.R_reads' HO_6.out).2.2 (ji48) p247 q247
                                      obtain rfl : ad216 = ad247 := (by injection e247)
                                      replace p247 := eq_true p247
                                      replace q247 := eq_true q247
                                      go_wp2
                                      repeat (go_quiet (fail); try go_wp2)
                                      go_ret
                                      exact ⟨by first | rfl | (simp [errW_none, errW_some] <;> rfl) | (simp only [← hji48]; first | rfl | (simp [errW_none, errW_some] <;> rfl)) | (simp [*, errW_none, errW_some] <;> rfl), by repeat (first | (with_reducible first | exact HB.out | apply below_alloc | apply pw_below_drewN | apply below_drew1) | exact HB.out)⟩
                                    · rw [if_neg c53] at H
                                      have c53b0 : decide ((rd t211 x11_2) < (rd t211 (ji48))) = false := decide_eq_false c53
                                      clear c53
                                      by_cases c54 : (rd t208 x11_2) < (rd t208 (ji48))
                                      · rw [if_pos c54] at H
                                        have c54b0 : decide ((rd t208 x11_2) < (rd t208 (ji48))) = true := decide_eq_true c54
                                        clear c54
                                        by_cases c55 : (rd t211 x11_2) > (rd t211 (ji48))
                                        · rw [if_pos c55] at H
                                          have c55b0 : decide ((rd t211 (ji48)) < (rd t211 x11_2)) = true := decide_eq_true c55
                                          clear c55
                                          obtain rfl := Option.some.inj H
                                          have p216 : 0 ≤ (x11_2 : Int) := of_decide_eq_true (by first | (with_reducible assumption) | assumption)
                                          have q216 : x11_2 < (t211.length : Int) := of_decide_eq_true (by first | (with_reducible assumption) | assumption)
                                          obtain ⟨ad216, e216, hx216_0⟩ := Kd.at_int (Kd.R_reads' HO_6.out).2.2 x11_2 p216 q216
                                          cases e216
                                          replace p216 := eq_true p216
                                          replace q216 := eq_true q216
                                          have p217 : 0 ≤ (x11_2 : Int) := of_decide_eq_true (by first | (with_reducible assumption) | assumption)
                                          have q217 : x11_2 < (t211.length : Int) := of_decide_eq_true (by first | (with_reducible assumption) | assumption)
                                          obtain ⟨ad217, e217, hx217_0⟩ := Kd.at_int (Kd.R_reads' HO_6.out).2.2 x11_2 p217 q217
                                          obtain rfl : ad216 = ad217 := (by injection e217)
                                          replace p217 := eq_true p217
                                          replace q217 := eq_true q217
                                          have p244 : 0 ≤ (x11_2 : Int) := of_decide_eq_true (by first | (with_reducible assumption) | assumption)
                                          have q244 : x11_2 < (t208.length : Int) := of_decide_eq_true (by first | (with_reducible assumption) | assumption)
                                          obtain ⟨ad244, e244, hx244_0⟩ := Kd.at_int (Kd.V_reads' HO_1.out).2.2 x11_2 p244 q244
                                          cases e244
                                          replace p244 := eq_true p244
                                          replace q244 := eq_true q244
                                          have p245 : 0 ≤ ((ji48) : Int) := of_decide_eq_true (by first | (with_reducible assumption) | assumption)
                                          have q245 : (ji48) < (t208.length : Int) := of_decide_eq_true (by first | (with_reducible assumption) | assumption)
                                          obtain ⟨ad245, e245, hx245_0⟩ := Kd.at_int (Kd.V_reads' HO_1.out).2.2 (ji48) p245 q245
                                          obtain rfl : ad244 = ad245 := (by injection e245)
                                          replace p245 := eq_true p245
                                          replace q245 := eq_true q245
                                          have p246 : 0 ≤ (x11_2 : Int) := of_decide_eq_true (by first | (with_reducible assumption) | assumption)
                                          have q246 : x11_2 < (t211.length : Int) := of_decide_eq_true (by first | (with_reducible assumption) | assumption)
                                          obtain ⟨ad246, e246, hx246_0⟩ := Kd.at_int (Kd.R_reads' HO_6.out).2.2 x11_2 p246 q246
                                          obtain rfl : ad216 = ad246 := (by injection e246)
                                          replace p246 := eq_true p246
                                          replace q246 := eq_true q246
                                          have p247 : 0 ≤ ((ji48) : Int) := of_decide_eq_true (by first | (with_reducible assumption) | assumption)
                                          have q247 : (ji48) < (t211.length : Int) := of_decide_eq_true (by first | (with_reducible assumption) | assumption)
                                          obtain ⟨ad247, e247, hx247_0⟩ := Kd.at_int (Kd.R_reads' HO_6.out).2.2 (ji48) p247 q247
                                          obtain rfl : ad216 = ad247 := (by injection e247)
                                          replace p247 := eq_true p247
                                          replace q247 := eq_true q247
                                          have p248 : 0 ≤ (x11_2 : Int) := of_decide_eq_true (by first | (with_reducible assumption) | assumption)
                                          have q248 : x11_2 < (t208.length : Int) := of_decide_eq_true (by first | (with_reducible assumption) | assumption)
                                          obtain ⟨ad248, e248, hx248_0⟩ := Kd.at_int (Kd.V_reads' HO_1.out).2.2 x11_2 p248 q248
                                          obtain rfl : ad244 = ad248 := (by injection e248)
                                          replace p248 := eq_true p248
                                          replace q248 := eq_true q248
                                          have p249 : 0 ≤ ((ji48) : Int) := of_decide_eq_true (by first | (with_reducible assumption) | assumption)
                                          have q249 : (ji48) < (t208.length : Int) := of_decide_eq_true (by first | (with_reducible assumption) | assumption)
                                          obtain ⟨ad249, e249, hx249_0⟩ := Kd.at_int (Kd.V_reads' HO_1.out).2.2 (ji48) p249 q249
                                          obtain rfl : ad244 = ad249 := (by injection e249)
                                          replace p249 := eq_true p249
                                          replace q249 := eq_true q249
                                          have p250 : 0 ≤ (x11_2 : Int) := of_decide_eq_true (by first | (with_reducible assumption) | assumption)
                                          have q250 : x11_2 < (t211.length : Int) := of_decide_eq_true (by first | (with_reducible assumption) | assumption)
                                          obtain ⟨ad250, e250, hx250_0⟩ := Kd.at_int (Kd.R_reads' HO_6.out).2.2 x11_2 p250 q250
                                          obtain rfl : ad216 = ad250 := (by injection e250)
                                          replace p250 := eq_true p250
                                          replace q250 := eq_true q250
                                          have p251 : 0 ≤ ((ji48) : Int) := of_decide_eq_true (by first | (with_reducible assumption) | assumption)
                                          have q251 : (ji48) < (t211.length : Int) := of_decide_eq_true (by first | (with_reducible assumption) | assumption)
                                          obtain ⟨ad251, e251, hx251_0⟩ := Kd.at_int (Kd.R_reads' HO_6.out).2.2 (ji48) p251 q251
                                          obtain rfl : ad216 = ad251 := (by injection e251)
                                          replace p251 := eq_true p251
                                          replace q251 := eq_true q251
                                          go_wp2
                                          repeat (go_quiet (fail); try go_wp2)
                                          go_ret
                                          exact ⟨by first | rfl | (simp [errW_none, errW_some] <;> rfl) | (simp only [← hji48]; first | rfl | (simp [errW_none, errW_some] <;> rfl)) | (simp [*, errW_none, errW_some] <;> rfl), by repeat (first | (with_reducible first | exact HB.out | apply below_alloc | apply pw_below_drewN | apply below_drew1) | exact HB.out)⟩
                                        · rw [if_neg c55] at H
                                          have c55b0 : decide ((rd t211 (ji48)) < (rd t211 x11_2)) = false := decide_eq_false c55
                                          clear c55
                                          have H' := Aside0.mk H
                                          clear H
                                          have p216 : 0 ≤ (x11_2 : Int) := of_decide_eq_true (by first | (with_reducible assumption) | assumption)
                                          have q216 : x11_2 < (t211.length : Int) := of_decide_eq_true (by first | (with_reducible assumption) | assumption)
                                          obtain ⟨ad216, e216, hx216_0⟩ := Kd.at_int (Kd.R_reads' HO_6.out).2.2 x11_2 p216 q216
                                          cases e216
                                          replace p216 := eq_true p216
                                          replace q216 := eq_true q216
                                          have p217 : 0 ≤ (x11_2 : Int) := of_decide_eq_true (by first | (with_reducible assumption) | assumption)
                                          have q217 : x11_2 < (t211.length : Int) := of_decide_eq_true (by first | (with_reducible assumption) | assumption)
                                          obtain ⟨ad217, e217, hx217_0⟩ := Kd.at_int (Kd.R_reads' HO_6.out).2.2 x11_2 p217 q217
                                          obtain rfl : ad216 = ad217 := (by injection e217)
                                          replace p217 := eq_true p217
                                          replace q217 := eq_true q217
                                          have p244 : 0 ≤ (x11_2 : Int) := of_decide_eq_true (by first | (with_reducible assumption) | assumption)
                                          have q244 : x11_2 < (t208.length : Int) := of_decide_eq_true (by first | (with_reducible assumption) | assumption)
                                          obtain ⟨ad244, e244, hx244_0⟩ := Kd.at_int (Kd.V_reads' HO_1.out).2.2 x11_2 p244 q244
                                          cases e244
                                          replace p244 := eq_true p244
                                          replace q244 := eq_true q244
                                          have p245 : 0 ≤ ((ji48) : Int) := of_decide_eq_true (by first | (with_reducible assumption) | assumption)
                                          have q245 : (ji48) < (t208.length : Int) := of_decide_eq_true (by first | (with_reducible assumption) | assumption)
                                          obtain ⟨ad245, e245, hx245_0⟩ := Kd.at_int (Kd.V_reads' HO_1.out).2.2 (ji48) p245 q245
                                          obtain rfl : ad244 = ad245 := (by injection e245)
                                          replace p245 := eq_true p245
                                          replace q245 := eq_true q245
                                          have p246 : 0 ≤ (x11_2 : Int) := of_decide_eq_true (by first | (with_reducible assumption) | assumption)
                                          have q246 : x11_2 < (t211.length : Int) := of_decide_eq_true (by first | (with_reducible assumption) | assumption)
                                          obtain ⟨ad246, e246, hx246_0⟩ := Kd.at_int (Kd.R_reads' HO_6.out).2.2 x11_2 p246 q246
                                          obtain rfl : ad216 = ad246 := (by injection e246)
                                          replace p246 := eq_true p246
                                          replace q246 := eq_true q246
                                          have p247 : 0 ≤ ((ji48) : Int) := of_decide_eq_true (by first | (with_reducible assumption) | assumption)
                                          have q247 : (ji48) < (t211.length : Int) := of_decide_eq_true (by first | (with_reducible assumption) | assumption)
                                          obtain ⟨ad247, e247, hx247_0⟩ := Kd.at_int (Kd.R_reads' HO_6.out).2.2 (ji48) p247 q247
                                          obtain rfl : ad216 = ad247 := (by injection e247)
                                          replace p247 := eq_true p247
                                          replace q247 := eq_true q247
                                          have p248 : 0 ≤ (x11_2 : Int) := of_decide_eq_true (by first | (with_reducible assumption) | assumption)
                                          have q248 : x11_2 < (t208.length : Int) := of_decide_eq_true (by first | (with_reducible assumption) | assumption)
                                          obtain ⟨ad248, e248, hx248_0⟩ := Kd.at_int (Kd.V_reads' HO_1.out).2.2 x11_2 p248 q248
                                          obtain rfl : ad244 = ad248 := (by injection e248)
                                          replace p248 := eq_true p248
                                          replace q248 := eq_true q248
                                          have p249 : 0 ≤ ((ji48) : Int) := of_decide_eq_true (by first | (with_reducible assumption) | assumption)
                                          have q249 : (ji48) < (t208.length : Int) := of_decide_eq_true (by first | (with_reducible assumption) | assumption)
                                          obtain ⟨ad249, e249, hx249_0⟩ := Kd.at_int (Kd.V_reads' HO_1.out).2.2 (ji48) p249 q249
                                          obtain rfl : ad244 = ad249 := (by injection e249)
                                          replace p249 := eq_true p249
                                          replace q249 := eq_true q249
                                          have p250 : 0 ≤ (x11_2 : Int) := of_decide_eq_true (by first | (with_reducible assumption) | assumption)
                                          have q250 : x11_2 < (t211.length : Int) := of_decide_eq_true (by first | (with_reducible assumption) | assumption)
                                          obtain ⟨ad250, e250, hx250_0⟩ := Kd.at_int (Kd.R_reads' HO_6.out).2.2 x11_2 p250 q250
                                          obtain rfl : ad216 = ad250 := (by injection e250)
                                          replace p250 := eq_true p250
                                          replace q250 := eq_true q250
                                          have p251 : 0 ≤ ((ji48) : Int) := of_decide_eq_true (by first | (with_reducible assumption) | assumption)
                                          have q251 : (ji48) < (t211.length : Int) := of_decide_eq_true (by first | (with_reducible assumption) | assumption)
                                          obtain ⟨ad251, e251, hx251_0⟩ := Kd.at_int (Kd.R_reads' HO_6.out).2.2 (ji48) p251 q251
                                          obtain rfl : ad216 = ad251 := (by injection e251)
                                          replace p251 := eq_true p251
                                          replace q251 := eq_true q251
                                          go_wp2
                                          repeat (go_quiet (fail); try go_wp2)
                                          go_roundg k2
                                          case measure => have := HK1.out; have := HK2.out; omega
                                          case rel => exact ⟨(wrap64 (x10_2 - (rd t211 x11_2))), (wrap64 (x11_2 + 1)), (by first | rfl | (simp; done) | (simp [*]; done)), (by first | rfl | (simp; done) | (simp [*]; done)), H', ⟨by have := HK1.out; have := HK2.out; omega⟩, ⟨by (with_reducible repeat (first | apply Kd.V_alloc | apply Kd.V_drewN | apply Kd.V_drew)); exact HO_1.out⟩, ⟨by (with_reducible repeat (first | apply Kd.R_alloc | apply Kd.R_drewN | apply Kd.R_drew)); exact HO_6.out⟩, ⟨by repeat (first | (with_reducible first | exact HB.out | apply below_alloc | apply pw_below_drewN | apply below_drew1) | exact HB.out)⟩⟩
                                      · rw [if_neg c54] at H
                                        have c54b0 : decide ((rd t208 x11_2) < (rd t208 (ji48))) = false := decide_eq_false c54
                                        clear c54
                                        have H' := Aside0.mk H
                                        clear H
                                        have p216 : 0 ≤ (x11_2 : Int) := of_decide_eq_true (by first | (with_reducible assumption) | assumption)
                                        have q216 : x11_2 < (t211.length : Int) := of_decide_eq_true (by first | (with_reducible assumption) | assumption)
                                        obtain ⟨ad216, e216, hx216_0⟩ := Kd.at_int (Kd.R_reads' HO_6.out).2.2 x11_2 p216 q216
                                        cases e216
                                        replace p216 := eq_true p216
                                        replace q216 := eq_true q216
                                        have p217 : 0 ≤ (x11_2 : Int) := of_decide_eq_true (by first | (with_reducible assumption) | assumption)
                                        have q217 : x11_2 < (t211.length : Int) := of_decide_eq_true (by first | (with_reducible assumption) | assumption)
                                        obtain ⟨ad217, e217, hx217_0⟩ := Kd.at_int (Kd.R_reads' HO_6.out).2.2 x11_2 p217 q217
                                        obtain rfl : ad216 = ad217 := (by injection e217)
                                        replace p217 := eq_true p217
                                        replace q217 := eq_true q217
                                        have p244 : 0 ≤ (x11_2 : Int) := of_decide_eq_true (by first | (with_reducible assumption) | assumption)
                                        have q244 : x11_2 < (t208.length : Int) := of_decide_eq_true (by first | (with_reducible assumption) | assumption)
                                        obtain ⟨ad244, e244, hx244_0⟩ := Kd.at_int (Kd.V_reads' HO_1.out).2.2 x11_2 p244 q244
                                        cases e244
                                        replace p244 := eq_true p244
                                        replace q244 := eq_true q244
                                        have p245 : 0 ≤ ((ji48) : Int) := of_decide_eq_true (by first | (with_reducible assumption) | assumption)
                                        have q245 : (ji48) < (t208.length : Int) := of_decide_eq_true (by first | (with_reducible assumption) | assumption)
                                        obtain ⟨ad245, e245, hx245_0⟩ := Kd.at_int (Kd.V_reads' HO_1.out).2.2 (ji48) p245 q245
                                        obtain rfl : ad244 = ad245 := (by injection e245)
                                        replace p245 := eq_true p245
                                        replace q245 := eq_true q245
                                        have p246 : 0 ≤ (x11_2 : Int) := of_decide_eq_true (by first | (with_reducible assumption) | assumption)
                                        have q246 : x11_2 < (t211.length : Int) := of_decide_eq_true (by first | (with_reducible assumption) | assumption)
                                        obtain ⟨ad246, e246, hx246_0⟩ := Kd.at_int (Kd.R_reads' HO_6.out).2.2 x11_2 p246 q246
                                        obtain rfl : ad216 = ad246 := (by injection e246)
                                        replace p246 := eq_true p246
                                        replace q246 := eq_true q246
                                        have p247 : 0 ≤ ((ji48) : Int) := of_decide_eq_true (by first | (with_reducible assumption) | assumption)
                                        have q247 : (ji48) < (t211.length : Int) := of_decide_eq_true (by first | (with_reducible assumption) | assumption)
                                        obtain ⟨ad247, e247, hx247_0⟩ := Kd.at_int (Kd.R_reads' HO_6.out).2.2 (ji48) p247 q247
                                        obtain rfl : ad216 = ad247 := (by injection e247)
                                        replace p247 := eq_true p247
                                        replace q247 := eq_true q247
                                        have p248 : 0 ≤ (x11_2 : Int) := of_decide_eq_true (by first | (with_reducible assumption) | assumption)
                                        have q248 : x11_2 < (t208.length : Int) := of_decide_eq_true (by first | (with_reducible assumption) | assumption)
                                        obtain ⟨ad248, e248, hx248_0⟩ := Kd.at_int (Kd.V_reads' HO_1.out).2.2 x11_2 p248 q248
                                        obtain rfl : ad244 = ad248 := (by injection e248)
                                        replace p248 := eq_true p248
                                        replace q248 := eq_true q248
                                        have p249 : 0 ≤ ((ji48) : Int) := of_decide_eq_true (by first | (with_reducible assumption) | assumption)
                                        have q249 : (ji48) < (t208.length : Int) := of_decide_eq_true (by first | (with_reducible assumption) | assumption)
                                        obtain ⟨ad249, e249, hx249_0⟩ := Kd.at_int (Kd.V_reads' HO_1.out).2.2 (ji48) p249 q249
                                        obtain rfl : ad244 = ad249 := (by injection e249)
                                        replace p249 := eq_true p249
                                        replace q249 := eq_true q249
                                        go_wp2
                                        repeat (go_quiet (fail); try go_wp2)
                                        go_roundg k2
                                        case measure => have := HK1.out; have := HK2.out; omega
                                        case rel => exact ⟨(wrap64 (x10_2 - (rd t211 x11_2))), (wrap64 (x11_2 + 1)), (by first | rfl | (simp; done) | (simp [*]; done)), (by first | rfl | (simp; done) | (simp [*]; done)), H', ⟨by have := HK1.out; have := HK2.out; omega⟩, ⟨by (with_reducible repeat (first | apply Kd.V_alloc | apply Kd.V_drewN | apply Kd.V_drew)); exact HO_1.out⟩, ⟨by (with_reducible repeat (first | apply Kd.R_alloc | apply Kd.R_drewN | apply Kd.R_drew)); exact HO_6.out⟩, ⟨by repeat (first | (with_reducible first | exact HB.out | apply below_alloc | apply pw_below_drewN | apply below_drew1) | exact HB.out)⟩⟩
                                  · rw [if_neg c52] at H
                                    exact absurd H (by simp)
                                · rw [if_neg c51] at H
                                  have c51b0 : decide ((rd t208 (ji48)) < (rd t208 x11_2)) = false := decide_eq_false c51
                                  clear c51
                                  by_cases c56 : (rd t208 x11_2) < (rd t208 (ji48))
                                  · rw [if_pos c56] at H
                                    have c56b0 : decide ((rd t208 x11_2) < (rd t208 (ji48))) = true := decide_eq_true c56
                                    clear c56
                                    by_cases c57 : (ji48) < (t211.length : Int)
                                    · rw [if_pos c57] at H
                                      have c57b0 : decide ((ji48) < (t211.length : Int)) = true := decide_eq_true c57
                                      clear c57
                                      by_cases c58 : (rd t211 x11_2) > (rd t211 (ji48))
                                      · rw [if_pos c58] at H
                                        have c58b0 : decide ((rd t211 (ji48)) < (rd t211 x11_2)) = true := decide_eq_true c58
                                        clear c58
                                        obtain rfl := Option.some.inj H
                                        have p216 : 0 ≤ (x11_2 : Int) := of_decide_eq_true (by first | (with_reducible assumption) | assumption)
                                        have q216 : x11_2 < (t211.length : Int) := of_decide_eq_true (by first | (with_reducible assumption) | assumption)
                                        obtain ⟨ad216, e216, hx216_0⟩ := Kd.at_int (Kd.R_reads' HO_6.out).2.2 x11_2 p216 q216
                                        cases e216
                                        replace p216 := eq_true p216
                                        replace q216 := eq_true q216
                                        have p217 : 0 ≤ (x11_2 : Int) := of_decide_eq_true (by first | (with_reducible assumption) | assumption)
                                        have q217 : x11_2 < (t211.length : Int) := of_decide_eq_true (by first | (with_reducible assumption) | assumption)
                                        obtain ⟨ad217, e217, hx217_0⟩ := Kd.at_int (Kd.R_reads' HO_6.out).2.2 x11_2 p217 q217
                                        obtain rfl : ad216 = ad217 := (by injection e217)
                                        replace p217 := eq_true p217
                                        replace q217 := eq_true q217
                                        have p244 : 0 ≤ (x11_2 : Int) := of_decide_eq_true (by first | (with_reducible assumption) | assumption)
                                        have q244 : x11_2 < (t208.length : Int) := of_decide_eq_true (by first | (with_reducible assumption) | assumption)
                                        obtain ⟨ad244, e244, hx244_0⟩ := Kd.at_int (Kd.V_reads' HO_1.out).2.2 x11_2 p244 q244
                                        cases e244
                                        replace p244 := eq_true p244
                                        replace q244 := eq_true q244
                                        have p245 : 0 ≤ ((ji48) : Int) := of_decide_eq_true (by first | (with_reducible assumption) | assumption)
                                        have q245 : (ji48) < (t208.length : Int) := of_decide_eq_true (by first | (with_reducible assumption) | assumption)
                                        obtain ⟨ad245, e245, hx245_0⟩ := Kd.at_int (Kd.V_reads' HO_1.out).2.2 (ji48) p245 q245
                                        obtain rfl : ad244 = ad245 := (by injection e245)
                                        replace p245 := eq_true p245
                                        replace q245 := eq_true q245
                                        have p252 : 0 ≤ (x11_2 : Int) := of_decide_eq_true (by first | (with_reducible assumption) | assumption)
                                        have q252 : x11_2 < (t208.length : Int) := of_decide_eq_true (by first | (with_reducible assumption) | assumption)
                                        obtain ⟨ad252, e252, hx252_0⟩ := Kd.at_int (Kd.V_reads' HO_1.out).2.2 x11_2 p252 q252
                                        obtain rfl : ad244 = ad252 := (by injection e252)
                                        replace p252 := eq_true p252
                                        replace q252 := eq_true q252
                                        have p253 : 0 ≤ ((ji48) : Int) := of_decide_eq_true (by first | (with_reducible assumption) | assumption)
                                        have q253 : (ji48) < (t208.length : Int) := of_decide_eq_true (by first | (with_reducible assumption) | assumption)
                                        obtain ⟨ad253, e253, hx253_0⟩ := Kd.at_int (Kd.V_reads' HO_1.out).2.2 (ji48) p253 q253
                                        obtain rfl : ad244 = ad253 := (by injection e253)
                                        replace p253 := eq_true p253
                                        replace q253 := eq_true q253
                                        have p254 : 0 ≤ (x11_2 : Int) := of_decide_eq_true (by first | (with_reducible assumption) | assumption)
                                        have q254 : x11_2 < (t211.length : Int) := of_decide_eq_true (by first | (with_reducible assumption) | assumption)
                                        obtain ⟨ad254, e254, hx254_0⟩ := Kd.at_int (Kd.R_reads' HO_6.out).2.2 x11_2 p254 q254
                                        obtain rfl : ad216 = ad254 := (by injection e254)
                                        replace p254 := eq_true p254
                                        replace q254 := eq_true q254
                                        have p255 : 0 ≤ ((ji48) : Int) := of_decide_eq_true (by first | (with_reducible assumption) | assumption)
                                        have q255 : (ji48) < (t211.length : Int) := of_decide_eq_true (by first | (with_reducible assumption) | assumption)
                                        obtain ⟨ad255, e255, hx255_0⟩ := Kd.at_int (Kd.R_reads' HO_6.out).2.2 (ji48) p255 q255
                                        obtain rfl : ad216 = ad255 := (by injection e255)
                                        replace p255 := eq_true p255
                                        replace q255 := eq_true q255
                                        go_wp2
                                        repeat (go_quiet (fail); try go_wp2)
                                        go_ret
                                        exact ⟨by first | rfl | (simp [errW_none, errW_some] <;> rfl) | (simp only [← hji48]; first | rfl | (simp [errW_none, errW_some] <;> rfl)) | (simp [*, errW_none, errW_some] <;> rfl), by repeat (first | (with_reducible first | exact HB.out | apply below_alloc | apply pw_below_drewN | apply below_drew1) | exact HB.out)⟩
                                      · rw [if_neg c58] at H
                                        have c58b0 : decide ((rd t211 (ji48)) < (rd t211 x11_2)) = false := decide_eq_false c58
                                        clear c58
                                        have H' := Aside0.mk H
                                        clear H
                                        have p216 : 0 ≤ (x11_2 : Int) := of_decide_eq_true (by first | (with_reducible assumption) | assumption)
                                        have q216 : x11_2 < (t211.length : Int) := of_decide_eq_true (by first | (with_reducible assumption) | assumption)
                                        obtain ⟨ad216, e216, hx216_0⟩ := Kd.at_int (Kd.R_reads' HO_6.out).2.2 x11_2 p216 q216
                                        cases e216
                                        replace p216 := eq_true p216
                                        replace q216 := eq_true q216
                                        have p217 : 0 ≤ (x11_2 : Int) := of_decide_eq_true (by first | (with_reducible assumption) | assumption)
                                        have q217 : x11_2 < (t211.length : Int) := of_decide_eq_true (by first | (with_reducible assumption) | assumption)
                                        obtain ⟨ad217, e217, hx217_0⟩ := Kd.at_int (Kd.R_reads' HO_6.out).2.2 x11_2 p217 q217
                                        obtain rfl : ad216 = ad217 := (by injection e217)
                                        replace p217 := eq_true p217
                                        replace q217 := eq_true q217
                                        have p244 : 0 ≤ (x11_2 : Int) := of_decide_eq_true (by first | (with_reducible assumption) | assumption)
                                        have q244 : x11_2 < (t208.length : Int) := of_decide_eq_true (by first | (with_reducible assumption) | assumption)
                                        obtain ⟨ad244, e244, hx244_0⟩ := Kd.at_int (Kd.V_reads' HO_1.out).2.2 x11_2 p244 q244
                                        cases e244
                                        replace p244 := eq_true p244
                                        replace q244 := eq_true q244
                                        have p245 : 0 ≤ ((ji48) : Int) := of_decide_eq_true (by first | (with_reducible assumption) | assumption)
                                        have q245 : (ji48) < (t208.length : Int) := of_decide_eq_true (by first | (with_reducible assumption) | assumption)
                                        obtain ⟨ad245, e245, hx245_0⟩ := Kd.at_int (Kd.V_reads' HO_1.out).2.2 (ji48) p245 q245
                                        obtain rfl : ad244 = ad245 := (by injection e245)
                                        replace p245 := eq_true p245
                                        replace q245 := eq_true q245
                                        have p252 : 0 ≤ (x11_2 : Int) := of_decide_eq_true (by first | (with_reducible assumption) | assumption)
                                        have q252 : x11_2 < (t208.length : Int) := of_decide_eq_true (by first | (with_reducible assumption) | assumption)
                                        obtain ⟨ad252, e252, hx252_0⟩ := Kd.at_int (Kd.V_reads' HO_1.out).2.2 x11_2 p252 q252
                                        obtain rfl : ad244 = ad252 := (by injection e252)
                                        replace p252 := eq_true p252
                                        replace q252 := eq_true q252
                                        have p253 : 0 ≤ ((ji48) : Int) := of_decide_eq_true (by first | (with_reducible assumption) | assumption)
                                        have q253 : (ji48) < (t208.length : Int) := of_decide_eq_true (by first | (with_reducible assumption) | assumption)
                                        obtain ⟨ad253, e253, hx253_0⟩ := Kd.at_int (Kd.V_reads' HO_1.out).2.2 (ji48) p253 q253
                                        obtain rfl : ad244 = ad253 := (by injection e253)
                                        replace p253 := eq_true p253
                                        replace q253 := eq_true q253
                                        have p254 : 0 ≤ (x11_2 : Int) := of_decide_eq_true (by first | (with_reducible assumption) | assumption)
                                        have q254 : x11_2 < (t211.length : Int) := of_decide_eq_true (by first | (with_reducible assumption) | assumption)
                                        obtain ⟨ad254, e254, hx254_0⟩ := Kd.at_int (Kd.R_reads' HO_6.out).2.2 x11_2 p254 q254
                                        obtain rfl : ad216 = ad254 := (by injection e254)
                                        replace p254 := eq_true p254
                                        replace q254 := eq_true q254
                                        have p255 : 0 ≤ ((ji48) : Int) := of_decide_eq_true (by first | (with_reducible assumption) | assumption)
                                        have q255 : (ji48) < (t211.length : Int) := of_decide_eq_true (by first | (with_reducible assumption) | assumption)
                                        obtain ⟨ad255, e255, hx255_0⟩ := Kd.at_int (Kd.R_reads' HO_6.out).2.2 (ji48) p255 q255
                                        obtain rfl : ad216 = ad255 := (by injection e255)
                                        replace p255 := eq_true p255
                                        replace q255 := eq_true q255
                                        go_wp2
                                        repeat (go_quiet (fail); try go_wp2)
                                        go_roundg k2
                                        case measure => have := HK1.out; have := HK2.out; omega
                                        case rel => exact ⟨(wrap64 (x10_2 - (rd t211 x11_2))), (wrap64 (x11_2 + 1)), (by first | rfl | (simp; done) | (simp [*]; done)), (by first | rfl | (simp; done) | (simp [*]; done)), H', ⟨by have := HK1.out; have := HK2.out; omega⟩, ⟨by (with_reducible repeat (first | apply Kd.V_alloc | apply Kd.V_drewN | apply Kd.V_drew)); exact HO_1.out⟩, ⟨by (with_reducible repeat (first | apply Kd.R_alloc | apply Kd.R_drewN | apply Kd.R_drew)); exact HO_6.out⟩, ⟨by repeat (first | (with_reducible first | exact HB.out | apply below_alloc | apply pw_below_drewN | apply below_drew1) | exact HB.out)⟩⟩
                                    · rw [if_neg c57] at H
                                      exact absurd H (by simp)
                                  · rw [if_neg c56] at H
                                    have c56b0 : decide ((rd t208 x11_2) < (rd t208 (ji48))) = false := decide_eq_false c56
                                    clear c56
                                    have H' := Aside0.mk H
                                    clear H
                                    have p216 : 0 ≤ (x11_2 : Int) := of_decide_eq_true (by first | (with_reducible assumption) | assumption)
                                    have q216 : x11_2 < (t211.length : Int) := of_decide_eq_true (by first | (with_reducible assumption) | assumption)
                                    obtain ⟨ad216, e216, hx216_0⟩ := Kd.at_int (Kd.R_reads' HO_6.out).2.2 x11_2 p216 q216
                                    cases e216
                                    replace p216 := eq_true p216
                                    replace q216 := eq_true q216
                                    have p217 : 0 ≤ (x11_2 : Int) := of_decide_eq_true (by first | (with_reducible assumption) | assumption)
                                    have q217 : x11_2 < (t211.length : Int) := of_decide_eq_true (by first | (with_reducible assumption) | assumption)
                                    obtain ⟨ad217, e217, hx217_0⟩ := Kd.at_int (Kd.R_reads' HO_6.out).2.2 x11_2 p217 q217
                                    obtain rfl : ad216 = ad217 := (by injection e217)
                                    replace p217 := eq_true p217
                                    replace q217 := eq_true q217
                                    have p244 : 0 ≤ (x11_2 : Int) := of_decide_eq_true (by first | (with_reducible assumption) | assumption)
                                    have q244 : x11_2 < (t208.length : Int) := of_decide_eq_true (by first | (with_reducible assumption) | assumption)
                                    obtain ⟨ad244, e244, hx244_0⟩ := Kd.at_int (Kd.V_reads' HO_1.out).2.2 x11_2 p244 q244
                                    cases e244
                                    replace p244 := eq_true p244
                                    replace q244 := eq_true q244
                                    have p245 : 0 ≤ ((ji48) : Int) := of_decide_eq_true (by first | (with_reducible assumption) | assumption)
                                    have q245 : (ji48) < (t208.length : Int) := of_decide_eq_true (by first | (with_reducible assumption) | assumption)
                                    obtain ⟨ad245, e245, hx245_0⟩ := Kd.at_int (Kd.V_reads' HO_1.out).2.2 (ji48) p245 q245
                                    obtain rfl : ad244 = ad245 := (by injection e245)
                                    replace p245 := eq_true p245
                                    replace q245 := eq_true q245
                                    have p252 : 0 ≤ (x11_2 : Int) := of_decide_eq_true (by first | (with_reducible assumption) | assumption)
                                    have q252 : x11_2 < (t208.length : Int) := of_decide_eq_true (by first | (with_reducible assumption) | assumption)
                                    obtain ⟨ad252, e252, hx252_0⟩ := Kd.at_int (Kd.V_reads' HO_1.out).2.2 x11_2 p252 q252
                                    obtain rfl : ad244 = ad252 := (by injection e252)
                                    replace p252 := eq_true p252
                                    replace q252 := eq_true q252
                                    have p253 : 0 ≤ ((ji48) : Int) := of_decide_eq_true (by first | (with_reducible assumption) | assumption)
                                    have q253 : (ji48) < (t208.length : Int) := of_decide_eq_true (by first | (with_reducible assumption) | assumption)
                                    obtain ⟨ad253, e253, hx253_0⟩ := Kd.at_int (Kd.V_reads' HO_1.out).2.2 (ji48) p253 q253
                                    obtain rfl : ad244 = ad253 := (by injection e253)
                                    replace p253 := eq_true p253
                                    replace q253 := eq_true q253
                                    go_wp2
                                    repeat (go_quiet (fail); try go_wp2)
                                    go_roundg k2
                                    case measure => have := HK1.out; have := HK2.out; omega
                                    case rel => exact ⟨(wrap64 (x10_2 - (rd t211 x11_2))), (wrap64 (x11_2 + 1)), (by first | rfl | (simp; done) | (simp [*]; done)), (by first | rfl | (simp; done) | (simp [*]; done)), H', ⟨by have := HK1.out; have := HK2.out; omega⟩, ⟨by (with_reducible repeat (first | apply Kd.V_alloc | apply Kd.V_drewN | apply Kd.V_drew)); exact HO_1.out⟩, ⟨by (with_reducible repeat (first | apply Kd.R_alloc | apply Kd.R_drewN | apply Kd.R_drew)); exact HO_6.out⟩, ⟨by repeat (first | (with_reducible first | exact HB.out | apply below_alloc | apply pw_below_drewN | apply below_drew1) | exact HB.out)⟩⟩
                              · rw [if_neg c50] at H
                                exact absurd H (by simp)
                            · rw [if_neg c49] at H
                              exact absurd H (by simp)
                          · rw [if_neg c47] at H
                            have c47b0 : decide (0 < x11_2) = false := decide_eq_false c47
                            clear c47
                            have H' := Aside0.mk H
                            clear H
                            have p216 : 0 ≤ (x11_2 : Int) := of_decide_eq_true (by first | (with_reducible assumption) | assumption)
                            have q216 : x11_2 < (t211.length : Int) := of_decide_eq_true (by first | (with_reducible assumption) | assumption)
                            obtain ⟨ad216, e216, hx216_0⟩ := Kd.at_int (Kd.R_reads' HO_6.out).2.2 x11_2 p216 q216
                            cases e216
                            replace p216 := eq_true p216
                            replace q216 := eq_true q216
                            have p217 : 0 ≤ (x11_2 : Int) := of_decide_eq_true (by first | (with_reducible assumption) | assumption)
                            have q217 : x11_2 < (t211.length : Int) := of_decide_eq_true (by first | (with_reducible assumption) | assumption)
                            obtain ⟨ad217, e217, hx217_0⟩ := Kd.at_int (Kd.R_reads' HO_6.out).2.2 x11_2 p217 q217
                            obtain rfl : ad216 = ad217 := (by injection e217)
                            replace p217 := eq_true p217
                            replace q217 := eq_true q217
                            go_wp2
                            repeat (go_quiet (fail); try go_wp2)
                            go_roundg k2
                            case measure => have := HK1.out; have := HK2.out; omega
                            case rel => exact ⟨(wrap64 (x10_2 - (rd t211 x11_2))), (wrap64 (x11_2 + 1)), (by first | rfl | (simp; done) | (simp [*]; done)), (by first | rfl | (simp; done) | (simp [*]; done)), H', ⟨by have := HK1.out; have := HK2.out; omega⟩, ⟨by (with_reducible repeat (first | apply Kd.V_alloc | apply Kd.V_drewN | apply Kd.V_drew)); exact HO_1.out⟩, ⟨by (with_reducible repeat (first | apply Kd.R_alloc | apply Kd.R_drewN | apply Kd.R_drew)); exact HO_6.out⟩, ⟨by repeat (first | (with_reducible first | exact HB.out | apply below_alloc | apply pw_below_drewN | apply below_drew1) | exact HB.out)⟩⟩
                    · rw [if_neg c18] at H
                      exact absurd H (by simp)
                  · rw [if_neg c17] at H
                    exact absurd H (by simp)
                · rw [if_neg c16] at H
                  have c16b0 : decide (x11_2 < (t208.length : Int)) = false := decide_eq_false c16
                  clear c16
                  by_cases c59 : t207 = true
                  · subst c59
                    have H1 : (some (x10_2 == 0)) = some r := by rw [if_pos rfl] at H; exact H
                    clear H
                    have H := H1
                    clear H1
                    obtain rfl := Option.some.inj H
                    go_wp2
                    repeat (go_quiet (fail); try go_wp2)
                    go_ret
                    exact ⟨by first | rfl | (simp [errW_none, errW_some] <;> rfl) | (simp [*, errW_none, errW_some] <;> rfl), by repeat (first | (with_reducible first | exact HB.out | apply below_alloc | apply pw_below_drewN | apply below_drew1) | exact HB.out)⟩
                  · replace c59 := Bool.eq_false_iff.mpr c59
                    subst c59
                    have H1 : (some false) = some r := by rw [if_neg (show ¬ (false = true) by decide)] at H; exact H
                    clear H
                    have H := H1
                    clear H1
                    obtain rfl := Option.some.inj H
                    go_wp2
                    repeat (go_quiet (fail); try go_wp2)
                    go_ret
                    exact ⟨by first | rfl | (simp [errW_none, errW_some] <;> rfl) | (simp [*, errW_none, errW_some] <;> rfl), by repeat (first | (with_reducible first | exact HB.out | apply below_alloc | apply pw_below_drewN | apply below_drew1) | exact HB.out)⟩
    · rw [if_neg c7] at H
      have c7b0 : ((t211.length : Int) == (t208.length : Int)) = false := beq_eq_false_iff_ne.mpr c7
      have c7b1 : ((t211.length : Int) != (t208.length : Int)) = true := bne_iff_ne.mpr c7
      have c7b2 : (t211.length == t208.length) = false := by first | simpa using c7 | (simp at c7 ⊢; omega)
      obtain rfl := Option.some.inj H
      go_enter Try.func5, Try.ntmps5
      go_wp2_with (first | (go_at_call 11; (with_reducible refine (purflinglaw01_shown.calls k  t207 _ A3.out).mono ?_); rintro e w60 ⟨rfl, hb⟩; have n0_ := Aside0.mk (below_step (by repeat (first | (with_reducible first | exact HB.out | apply below_alloc | apply pw_below_drewN | apply below_drew1) | exact HB.out)) hb); clear HB; have HB := n0_; clear n0_; (try clear hb); (try clear hb2); (try clear hk); (try clear hi)) | (go_at_call 13; (with_reducible refine (purflinglaw01_cut.calls (fun k_ => k_ < w.heap.size) _ _ l1 t208 _ ?side1 A4.out).mono ?_); (case side1 => exact Kd.V_mk HC1.out (Kd.F_below (Kd.C_F (Kd.heap_int .i64) HR1.out) (by repeat (first | (with_reducible first | exact HB.out | apply below_alloc | apply pw_below_drewN | apply below_drew1) | exact HB.out)))); rintro e w61 ⟨v209, rfl, ho0, hb⟩; have n0_ := Aside0.mk (Kd.V_lower (Kd.V_mono (ok' := fun k_ => True) ho0 (fun k_ hk_ => trivial)) (below_size (by repeat (first | (with_reducible first | exact HB.out | apply below_alloc | apply pw_below_drewN | apply below_drew1) | exact HB.out)))); have n1_ := Aside0.mk (below_step (by repeat (first | (with_reducible first | exact HB.out | apply below_alloc | apply pw_below_drewN | apply below_drew1) | exact HB.out)) hb); clear HB; have HO210 := n0_; have HB := n1_; clear n0_ n1_; (try clear hb); (try clear hb2); (try clear hk); (try clear hi); (try clear ho0); obtain ⟨Ao62, co62, eo62⟩ := Kd.V_slice HO210.out; subst eo62) | (go_at_call 12; (with_reducible refine (fixed_Share.calls a0 _ _ t208 t211 t212 _ ?side1 ?side2 A5.out).mono ?_); (case side1 => repeat (first | exact (Kd.V_reads' HO210.out).2.2 | (with_reducible refine Kd.C_alloc ?_ _) | (with_reducible refine Kd.C_drewN ?_ _) | (with_reducible refine Kd.C_drew ?_))); (case side2 => exact (Kd.V_reads' HO210.out).2.1); rintro e w63 ⟨v213, rfl, ho0, hb⟩; have n0_ := Aside0.mk (Kd.V_elder' (by (with_reducible repeat (first | apply Kd.V_alloc | apply Kd.V_drewN | apply Kd.V_drew)); exact HO210.out) (Kd.R_base ho0) hb); have n1_ := Aside0.mk (Kd.R_lower ho0 (below_size (by repeat (first | (with_reducible first | exact HB.out | apply below_alloc | apply pw_below_drewN | apply below_drew1) | exact HB.out)))); have n2_ := Aside0.mk (below_step (by repeat (first | (with_reducible first | exact HB.out | apply below_alloc | apply pw_below_drewN | apply below_drew1) | exact HB.out)) hb); clear HO210; clear HB; have HO210 := n0_; have HO214 := n1_; have HB := n2_; clear n0_ n1_ n2_; (try clear hb); (try clear hb2); (try clear hk); (try clear hi); (try clear ho0); obtain ⟨Ao64, co64, eo64⟩ := Kd.R_slice HO214.out; subst eo64))
      repeat (go_quiet (first | (go_at_call 11; (with_reducible refine (purflinglaw01_shown.calls k  t207 _ A3.out).mono ?_); rintro e w60 ⟨rfl, hb⟩; have n0_ := Aside0.mk (below_step (by repeat (first | (with_reducible first | exact HB.out | apply below_alloc | apply pw_below_drewN | apply below_drew1) | exact HB.out)) hb); clear HB; have HB := n0_; clear n0_; (try clear hb); (try clear hb2); (try clear hk); (try clear hi)) | (go_at_call 13; (with_reducible refine (purflinglaw01_cut.calls (fun k_ => k_ < w.heap.size) _ _ l1 t208 _ ?side1 A4.out).mono ?_); (case side1 => exact Kd.V_mk HC1.out (Kd.F_below (Kd.C_F (Kd.heap_int .i64) HR1.out) (by repeat (first | (with_reducible first | exact HB.out | apply below_alloc | apply pw_below_drewN | apply below_drew1) | exact HB.out)))); rintro e w61 ⟨v209, rfl, ho0, hb⟩; have n0_ := Aside0.mk (Kd.V_lower (Kd.V_mono (ok' := fun k_ => True) ho0 (fun k_ hk_ => trivial)) (below_size (by repeat (first | (with_reducible first | exact HB.out | apply below_alloc | apply pw_below_drewN | apply below_drew1) | exact HB.out)))); have n1_ := Aside0.mk (below_step (by repeat (first | (with_reducible first | exact HB.out | apply below_alloc | apply pw_below_drewN | apply below_drew1) | exact HB.out)) hb); clear HB; have HO210 := n0_; have HB := n1_; clear n0_ n1_; (try clear hb); (try clear hb2); (try clear hk); (try clear hi); (try clear ho0); obtain ⟨Ao62, co62, eo62⟩ := Kd.V_slice HO210.out; subst eo62) | (go_at_call 12; (with_reducible refine (fixed_Share.calls a0 _ _ t208 t211 t212 _ ?side1 ?side2 A5.out).mono ?_); (case side1 => repeat (first | exact (Kd.V_reads' HO210.out).2.2 | (with_reducible refine Kd.C_alloc ?_ _) | (with_reducible refine Kd.C_drewN ?_ _) | (with_reducible refine Kd.C_drew ?_))); (case side2 => exact (Kd.V_reads' HO210.out).2.1); rintro e w63 ⟨v213, rfl, ho0, hb⟩; have n0_ := Aside0.mk (Kd.V_elder' (by (with_reducible repeat (first | apply Kd.V_alloc | apply Kd.V_drewN | apply Kd.V_drew)); exact HO210.out) (Kd.R_base ho0) hb); have n1_ := Aside0.mk (Kd.R_lower ho0 (below_size (by repeat (first | (with_reducible first | exact HB.out | apply below_alloc | apply pw_below_drewN | apply below_drew1) | exact HB.out)))); have n2_ := Aside0.mk (below_step (by repeat (first | (with_reducible first | exact HB.out | apply below_alloc | apply pw_below_drewN | apply below_drew1) | exact HB.out)) hb); clear HO210; clear HB; have HO210 := n0_; have HO214 := n1_; have HB := n2_; clear n0_ n1_ n2_; (try clear hb); (try clear hb2); (try clear hk); (try clear hi); (try clear ho0); obtain ⟨Ao64, co64, eo64⟩ := Kd.R_slice HO214.out; subst eo64)); try go_wp2_with (first | (go_at_call 11; (with_reducible refine (purflinglaw01_shown.calls k  t207 _ A3.out).mono ?_); rintro e w60 ⟨rfl, hb⟩; have n0_ := Aside0.mk (below_step (by repeat (first | (with_reducible first | exact HB.out | apply below_alloc | apply pw_below_drewN | apply below_drew1) | exact HB.out)) hb); clear HB; have HB := n0_; clear n0_; (try clear hb); (try clear hb2); (try clear hk); (try clear hi)) | (go_at_call 13; (with_reducible refine (purflinglaw01_cut.calls (fun k_ => k_ < w.heap.size) _ _ l1 t208 _ ?side1 A4.out).mono ?_); (case side1 => exact Kd.V_mk HC1.out (Kd.F_below (Kd.C_F (Kd.heap_int .i64) HR1.out) (by repeat (first | (with_reducible first | exact HB.out | apply below_alloc | apply pw_below_drewN | apply below_drew1) | exact HB.out)))); rintro e w61 ⟨v209, rfl, ho0, hb⟩; have n0_ := Aside0.mk (Kd.V_lower (Kd.V_mono (ok' := fun k_ => True) ho0 (fun k_ hk_ => trivial)) (below_size (by repeat (first | (with_reducible first | exact HB.out | apply below_alloc | apply pw_below_drewN | apply below_drew1) | exact HB.out)))); have n1_ := Aside0.mk (below_step (by repeat (first | (with_reducible first | exact HB.out | apply below_alloc | apply pw_below_drewN | apply below_drew1) | exact HB.out)) hb); clear HB; have HO210 := n0_; have HB := n1_; clear n0_ n1_; (try clear hb); (try clear hb2); (try clear hk); (try clear hi); (try clear ho0); obtain ⟨Ao62, co62, eo62⟩ := Kd.V_slice HO210.out; subst eo62) | (go_at_call 12; (with_reducible refine (fixed_Share.calls a0 _ _ t208 t211 t212 _ ?side1 ?side2 A5.out).mono ?_); (case side1 => repeat (first | exact (Kd.V_reads' HO210.out).2.2 | (with_reducible refine Kd.C_alloc ?_ _) | (with_reducible refine Kd.C_drewN ?_ _) | (with_reducible refine Kd.C_drew ?_))); (case side2 => exact (Kd.V_reads' HO210.out).2.1); rintro e w63 ⟨v213, rfl, ho0, hb⟩; have n0_ := Aside0.mk (Kd.V_elder' (by (with_reducible repeat (first | apply Kd.V_alloc | apply Kd.V_drewN | apply Kd.V_drew)); exact HO210.out) (Kd.R_base ho0) hb); have n1_ := Aside0.mk (Kd.R_lower ho0 (below_size (by repeat (first | (with_reducible first | exact HB.out | apply below_alloc | apply pw_below_drewN | apply below_drew1) | exact HB.out)))); have n2_ := Aside0.mk (below_step (by repeat (first | (with_reducible first | exact HB.out | apply below_alloc | apply pw_below_drewN | apply below_drew1) | exact HB.out)) hb); clear HO210; clear HB; have HO210 := n0_; have HO214 := n1_; have HB := n2_; clear n0_ n1_ n2_; (try clear hb); (try clear hb2); (try clear hk); (try clear hi); (try clear ho0); obtain ⟨Ao64, co64, eo64⟩ := Kd.R_slice HO214.out; subst eo64)))
      go_ret
      exact ⟨by first | rfl | (simp [errW_none, errW_some] <;> rfl) | (simp [*, errW_none, errW_some] <;> rfl), by repeat (first | (with_reducible first | exact HB.out | apply below_alloc | apply pw_below_drewN | apply below_drew1) | exact HB.out)⟩
  · rw [if_neg c6] at H
    have c6b0 : (t212 == 0) = false := beq_eq_false_iff_ne.mpr c6
    have c6b1 : (t212 != 0) = true := bne_iff_ne.mpr c6
    by_cases c65 : t207 = true
    · subst c65
      have H1 : (if (t211.length : Int) = 0 then (some (t212 == 10)) else (some false)) = some r := by rw [if_pos rfl] at H; exact H
      clear H
      have H := H1
      clear H1
      by_cases c66 : (t211.length : Int) = 0
      · rw [if_pos c66] at H
        have c66b0 : ((t211.length : Int) == 0) = true := beq_iff_eq.mpr c66
        have c66b1 : ((t211.length : Int) != 0) = false := bne_eq_false_iff_eq.mpr c66
        clear c66
        obtain rfl := Option.some.inj H
        go_enter Try.func5, Try.ntmps5
        go_wp2_with (first | (go_at_call 11; (with_reducible refine (purflinglaw01_shown.calls k  true _ A3.out).mono ?_); rintro e w67 ⟨rfl, hb⟩; have n0_ := Aside0.mk (below_step (by repeat (first | (with_reducible first | exact HB.out | apply below_alloc | apply pw_below_drewN | apply below_drew1) | exact HB.out)) hb); clear HB; have HB := n0_; clear n0_; (try clear hb); (try clear hb2); (try clear hk); (try clear hi)) | (go_at_call 13; (with_reducible refine (purflinglaw01_cut.calls (fun k_ => k_ < w.heap.size) _ _ l1 t208 _ ?side1 A4.out).mono ?_); (case side1 => exact Kd.V_mk HC1.out (Kd.F_below (Kd.C_F (Kd.heap_int .i64) HR1.out) (by repeat (first | (with_reducible first | exact HB.out | apply below_alloc | apply pw_below_drewN | apply below_drew1) | exact HB.out)))); rintro e w68 ⟨v209, rfl, ho0, hb⟩; have n0_ := Aside0.mk (Kd.V_lower (Kd.V_mono (ok' := fun k_ => True) ho0 (fun k_ hk_ => trivial)) (below_size (by repeat (first | (with_reducible first | exact HB.out | apply below_alloc | apply pw_below_drewN | apply below_drew1) | exact HB.out)))); have n1_ := Aside0.mk (below_step (by repeat (first | (with_reducible first | exact HB.out | apply below_alloc | apply pw_below_drewN | apply below_drew1) | exact HB.out)) hb); clear HB; have HO210 := n0_; have HB := n1_; clear n0_ n1_; (try clear hb); (try clear hb2); (try clear hk); (try clear hi); (try clear ho0); obtain ⟨Ao69, co69, eo69⟩ := Kd.V_slice HO210.out; subst eo69) | (go_at_call 12; (with_reducible refine (fixed_Share.calls a0 _ _ t208 t211 t212 _ ?side1 ?side2 A5.out).mono ?_); (case side1 => repeat (first | exact (Kd.V_reads' HO210.out).2.2 | (with_reducible refine Kd.C_alloc ?_ _) | (with_reducible refine Kd.C_drewN ?_ _) | (with_reducible refine Kd.C_drew ?_))); (case side2 => exact (Kd.V_reads' HO210.out).2.1); rintro e w70 ⟨v213, rfl, ho0, hb⟩; have n0_ := Aside0.mk (Kd.V_elder' (by (with_reducible repeat (first | apply Kd.V_alloc | apply Kd.V_drewN | apply Kd.V_drew)); exact HO210.out) (Kd.R_base ho0) hb); have n1_ := Aside0.mk (Kd.R_lower ho0 (below_size (by repeat (first | (with_reducible first | exact HB.out | apply below_alloc | apply pw_below_drewN | apply below_drew1) | exact HB.out)))); have n2_ := Aside0.mk (below_step (by repeat (first | (with_reducible first | exact HB.out | apply below_alloc | apply pw_below_drewN | apply below_drew1) | exact HB.out)) hb); clear HO210; clear HB; have HO210 := n0_; have HO214 := n1_; have HB := n2_; clear n0_ n1_ n2_; (try clear hb); (try clear hb2); (try clear hk); (try clear hi); (try clear ho0); obtain ⟨Ao71, co71, eo71⟩ := Kd.R_slice HO214.out; subst eo71))
        repeat (go_quiet (first | (go_at_call 11; (with_reducible refine (purflinglaw01_shown.calls k  true _ A3.out).mono ?_); rintro e w67 ⟨rfl, hb⟩; have n0_ := Aside0.mk (below_step (by repeat (first | (with_reducible first | exact HB.out | apply below_alloc | apply pw_below_drewN | apply below_drew1) | exact HB.out)) hb); clear HB; have HB := n0_; clear n0_; (try clear hb); (try clear hb2); (try clear hk); (try clear hi)) | (go_at_call 13; (with_reducible refine (purflinglaw01_cut.calls (fun k_ => k_ < w.heap.size) _ _ l1 t208 _ ?side1 A4.out).mono ?_); (case side1 => exact Kd.V_mk HC1.out (Kd.F_below (Kd.C_F (Kd.heap_int .i64) HR1.out) (by repeat (first | (with_reducible first | exact HB.out | apply below_alloc | apply pw_below_drewN | apply below_drew1) | exact HB.out)))); rintro e w68 ⟨v209, rfl, ho0, hb⟩; have n0_ := Aside0.mk (Kd.V_lower (Kd.V_mono (ok' := fun k_ => True) ho0 (fun k_ hk_ => trivial)) (below_size (by repeat (first | (with_reducible first | exact HB.out | apply below_alloc | apply pw_below_drewN | apply below_drew1) | exact HB.out)))); have n1_ := Aside0.mk (below_step (by repeat (first | (with_reducible first | exact HB.out | apply below_alloc | apply pw_below_drewN | apply below_drew1) | exact HB.out)) hb); clear HB; have HO210 := n0_; have HB := n1_; clear n0_ n1_; (try clear hb); (try clear hb2); (try clear hk); (try clear hi); (try clear ho0); obtain ⟨Ao69, co69, eo69⟩ := Kd.V_slice HO210.out; subst eo69) | (go_at_call 12; (with_reducible refine (fixed_Share.calls a0 _ _ t208 t211 t212 _ ?side1 ?side2 A5.out).mono ?_); (case side1 => repeat (first | exact (Kd.V_reads' HO210.out).2.2 | (with_reducible refine Kd.C_alloc ?_ _) | (with_reducible refine Kd.C_drewN ?_ _) | (with_reducible refine Kd.C_drew ?_))); (case side2 => exact (Kd.V_reads' HO210.out).2.1); rintro e w70 ⟨v213, rfl, ho0, hb⟩; have n0_ := Aside0.mk (Kd.V_elder' (by (with_reducible repeat (first | apply Kd.V_alloc | apply Kd.V_drewN | apply Kd.V_drew)); exact HO210.out) (Kd.R_base ho0) hb); have n1_ := Aside0.mk (Kd.R_lower ho0 (below_size (by repeat (first | (with_reducible first | exact HB.out | apply below_alloc | apply pw_below_drewN | apply below_drew1) | exact HB.out)))); have n2_ := Aside0.mk (below_step (by repeat (first | (with_reducible first | exact HB.out | apply below_alloc | apply pw_below_drewN | apply below_drew1) | exact HB.out)) hb); clear HO210; clear HB; have HO210 := n0_; have HO214 := n1_; have HB := n2_; clear n0_ n1_ n2_; (try clear hb); (try clear hb2); (try clear hk); (try clear hi); (try clear ho0); obtain ⟨Ao71, co71, eo71⟩ := Kd.R_slice HO214.out; subst eo71)); try go_wp2_with (first | (go_at_call 11; (with_reducible refine (purflinglaw01_shown.calls k  true _ A3.out).mono ?_); rintro e w67 ⟨rfl, hb⟩; have n0_ := Aside0.mk (below_step (by repeat (first | (with_reducible first | exact HB.out | apply below_alloc | apply pw_below_drewN | apply below_drew1) | exact HB.out)) hb); clear HB; have HB := n0_; clear n0_; (try clear hb); (try clear hb2); (try clear hk); (try clear hi)) | (go_at_call 13; (with_reducible refine (purflinglaw01_cut.calls (fun k_ => k_ < w.heap.size) _ _ l1 t208 _ ?side1 A4.out).mono ?_); (case side1 => exact Kd.V_mk HC1.out (Kd.F_below (Kd.C_F (Kd.heap_int .i64) HR1.out) (by repeat (first | (with_reducible first | exact HB.out | apply below_alloc | apply pw_below_drewN | apply below_drew1) | exact HB.out)))); rintro e w68 ⟨v209, rfl, ho0, hb⟩; have n0_ := Aside0.mk (Kd.V_lower (Kd.V_mono (ok' := fun k_ => True) ho0 (fun k_ hk_ => trivial)) (below_size (by repeat (first | (with_reducible first | exact HB.out | apply below_alloc | apply pw_below_drewN | apply below_drew1) | exact HB.out)))); have n1_ := Aside0.mk (below_step (by repeat (first | (with_reducible first | exact HB.out | apply below_alloc | apply pw_below_drewN | apply below_drew1) | exact HB.out)) hb); clear HB; have HO210 := n0_; have HB := n1_; clear n0_ n1_; (try clear hb); (try clear hb2); (try clear hk); (try clear hi); (try clear ho0); obtain ⟨Ao69, co69, eo69⟩ := Kd.V_slice HO210.out; subst eo69) | (go_at_call 12; (with_reducible refine (fixed_Share.calls a0 _ _ t208 t211 t212 _ ?side1 ?side2 A5.out).mono ?_); (case side1 => repeat (first | exact (Kd.V_reads' HO210.out).2.2 | (with_reducible refine Kd.C_alloc ?_ _) | (with_reducible refine Kd.C_drewN ?_ _) | (with_reducible refine Kd.C_drew ?_))); (case side2 => exact (Kd.V_reads' HO210.out).2.1); rintro e w70 ⟨v213, rfl, ho0, hb⟩; have n0_ := Aside0.mk (Kd.V_elder' (by (with_reducible repeat (first | apply Kd.V_alloc | apply Kd.V_drewN | apply Kd.V_drew)); exact HO210.out) (Kd.R_base ho0) hb); have n1_ := Aside0.mk (Kd.R_lower ho0 (below_size (by repeat (first | (with_reducible first | exact HB.out | apply below_alloc | apply pw_below_drewN | apply below_drew1) | exact HB.out)))); have n2_ := Aside0.mk (below_step (by repeat (first | (with_reducible first | exact HB.out | apply below_alloc | apply pw_below_drewN | apply below_drew1) | exact HB.out)) hb); clear HO210; clear HB; have HO210 := n0_; have HO214 := n1_; have HB := n2_; clear n0_ n1_ n2_; (try clear hb); (try clear hb2); (try clear hk); (try clear hi); (try clear ho0); obtain ⟨Ao71, co71, eo71⟩ := Kd.R_slice HO214.out; subst eo71)))
        go_ret
        exact ⟨by first | rfl | (simp [errW_none, errW_some] <;> rfl) | (simp [*, errW_none, errW_some] <;> rfl), by repeat (first | (with_reducible first | exact HB.out | apply below_alloc | apply pw_below_drewN | apply below_drew1) | exact HB.out)⟩
      · rw [if_neg c66] at H
        have c66b0 : ((t211.length : Int) == 0) = false := beq_eq_false_iff_ne.mpr c66
        have c66b1 : ((t211.length : Int) != 0) = true := bne_iff_ne.mpr c66
        have c66b2 : ¬ (t211 = []) := fun h_ => c66 (by rw [h_]; rfl)
        obtain rfl := Option.some.inj H
        go_enter Try.func5, Try.ntmps5
        go_wp2_with (first | (go_at_call 11; (with_reducible refine (purflinglaw01_shown.calls k  true _ A3.out).mono ?_); rintro e w72 ⟨rfl, hb⟩; have n0_ := Aside0.mk (below_step (by repeat (first | (with_reducible first | exact HB.out | apply below_alloc | apply pw_below_drewN | apply below_drew1) | exact HB.out)) hb); clear HB; have HB := n0_; clear n0_; (try clear hb); (try clear hb2); (try clear hk); (try clear hi)) | (go_at_call 13; (with_reducible refine (purflinglaw01_cut.calls (fun k_ => k_ < w.heap.size) _ _ l1 t208 _ ?side1 A4.out).mono ?_); (case side1 => exact Kd.V_mk HC1.out (Kd.F_below (Kd.C_F (Kd.heap_int .i64) HR1.out) (by repeat (first | (with_reducible first | exact HB.out | apply below_alloc | apply pw_below_drewN | apply below_drew1) | exact HB.out)))); rintro e w73 ⟨v209, rfl, ho0, hb⟩; have n0_ := Aside0.mk (Kd.V_lower (Kd.V_mono (ok' := fun k_ => True) ho0 (fun k_ hk_ => trivial)) (below_size (by repeat (first | (with_reducible first | exact HB.out | apply below_alloc | apply pw_below_drewN | apply below_drew1) | exact HB.out)))); have n1_ := Aside0.mk (below_step (by repeat (first | (with_reducible first | exact HB.out | apply below_alloc | apply pw_below_drewN | apply below_drew1) | exact HB.out)) hb); clear HB; have HO210 := n0_; have HB := n1_; clear n0_ n1_; (try clear hb); (try clear hb2); (try clear hk); (try clear hi); (try clear ho0); obtain ⟨Ao74, co74, eo74⟩ := Kd.V_slice HO210.out; subst eo74) | (go_at_call 12; (with_reducible refine (fixed_Share.calls a0 _ _ t208 t211 t212 _ ?side1 ?side2 A5.out).mono ?_); (case side1 => repeat (first | exact (Kd.V_reads' HO210.out).2.2 | (with_reducible refine Kd.C_alloc ?_ _) | (with_reducible refine Kd.C_drewN ?_ _) | (with_reducible refine Kd.C_drew ?_))); (case side2 => exact (Kd.V_reads' HO210.out).2.1); rintro e w75 ⟨v213, rfl, ho0, hb⟩; have n0_ := Aside0.mk (Kd.V_elder' (by (with_reducible repeat (first | apply Kd.V_alloc | apply Kd.V_drewN | apply Kd.V_drew)); exact HO210.out) (Kd.R_base ho0) hb); have n1_ := Aside0.mk (Kd.R_lower ho0 (below_size (by repeat (first | (with_reducible first | exact HB.out | apply below_alloc | apply pw_below_drewN | apply below_drew1) | exact HB.out)))); have n2_ := Aside0.mk (below_step (by repeat (first | (with_reducible first | exact HB.out | apply below_alloc | apply pw_below_drewN | apply below_drew1) | exact HB.out)) hb); clear HO210; clear HB; have HO210 := n0_; have HO214 := n1_; have HB := n2_; clear n0_ n1_ n2_; (try clear hb); (try clear hb2); (try clear hk); (try clear hi); (try clear ho0); obtain ⟨Ao76, co76, eo76⟩ := Kd.R_slice HO214.out; subst eo76))
        repeat (go_quiet (first | (go_at_call 11; (with_reducible refine (purflinglaw01_shown.calls k  true _ A3.out).mono ?_); rintro e w72 ⟨rfl, hb⟩; have n0_ := Aside0.mk (below_step (by repeat (first | (with_reducible first | exact HB.out | apply below_alloc | apply pw_below_drewN | apply below_drew1) | exact HB.out)) hb); clear HB; have HB := n0_; clear n0_; (try clear hb); (try clear hb2); (try clear hk); (try clear hi)) | (go_at_call 13; (with_reducible refine (purflinglaw01_cut.calls (fun k_ => k_ < w.heap.size) _ _ l1 t208 _ ?side1 A4.out).mono ?_); (case side1 => exact Kd.V_mk HC1.out (Kd.F_below (Kd.C_F (Kd.heap_int .i64) HR1.out) (by repeat (first | (with_reducible first | exact HB.out | apply below_alloc | apply pw_below_drewN | apply below_drew1) | exact HB.out)))); rintro e w73 ⟨v209, rfl, ho0, hb⟩; have n0_ := Aside0.mk (Kd.V_lower (Kd.V_mono (ok' := fun k_ => True) ho0 (fun k_ hk_ => trivial)) (below_size (by repeat (first | (with_reducible first | exact HB.out | apply below_alloc | apply pw_below_drewN | apply below_drew1) | exact HB.out)))); have n1_ := Aside0.mk (below_step (by repeat (first | (with_reducible first | exact HB.out | apply below_alloc | apply pw_below_drewN | apply below_drew1) | exact HB.out)) hb); clear HB; have HO210 := n0_; have HB := n1_; clear n0_ n1_; (try clear hb); (try clear hb2); (try clear hk); (try clear hi); (try clear ho0); obtain ⟨Ao74, co74, eo74⟩ := Kd.V_slice HO210.out; subst eo74) | (go_at_call 12; (with_reducible refine (fixed_Share.calls a0 _ _ t208 t211 t212 _ ?side1 ?side2 A5.out).mono ?_); (case side1 => repeat (first | exact (Kd.V_reads' HO210.out).2.2 | (with_reducible refine Kd.C_alloc ?_ _) | (with_reducible refine Kd.C_drewN ?_ _) | (with_reducible refine Kd.C_drew ?_))); (case side2 => exact (Kd.V_reads' HO210.out).2.1); rintro e w75 ⟨v213, rfl, ho0, hb⟩; have n0_ := Aside0.mk (Kd.V_elder' (by (with_reducible repeat (first | apply Kd.V_alloc | apply Kd.V_drewN | apply Kd.V_drew)); exact HO210.out) (Kd.R_base ho0) hb); have n1_ := Aside0.mk (Kd.R_lower ho0 (below_size (by repeat (first | (with_reducible first | exact HB.out | apply below_alloc | apply pw_below_drewN | apply below_drew1) | exact HB.out)))); have n2_ := Aside0.mk (below_step (by repeat (first | (with_reducible first | exact HB.out | apply below_alloc | apply pw_below_drewN | apply below_drew1) | exact HB.out)) hb); clear HO210; clear HB; have HO210 := n0_; have HO214 := n1_; have HB := n2_; clear n0_ n1_ n2_; (try clear hb); (try clear hb2); (try clear hk); (try clear hi); (try clear ho0); obtain ⟨Ao76, co76, eo76⟩ := Kd.R_slice HO214.out; subst eo76)); try go_wp2_with (first | (go_at_call 11; (with_reducible refine (purflinglaw01_shown.calls k  true _ A3.out).mono ?_); rintro e w72 ⟨rfl, hb⟩; have n0_ := Aside0.mk (below_step (by repeat (first | (with_reducible first | exact HB.out | apply below_alloc | apply pw_below_drewN | apply below_drew1) | exact HB.out)) hb); clear HB; have HB := n0_; clear n0_; (try clear hb); (try clear hb2); (try clear hk); (try clear hi)) | (go_at_call 13; (with_reducible refine (purflinglaw01_cut.calls (fun k_ => k_ < w.heap.size) _ _ l1 t208 _ ?side1 A4.out).mono ?_); (case side1 => exact Kd.V_mk HC1.out (Kd.F_below (Kd.C_F (Kd.heap_int .i64) HR1.out) (by repeat (first | (with_reducible first | exact HB.out | apply below_alloc | apply pw_below_drewN | apply below_drew1) | exact HB.out)))); rintro e w73 ⟨v209, rfl, ho0, hb⟩; have n0_ := Aside0.mk (Kd.V_lower (Kd.V_mono (ok' := fun k_ => True) ho0 (fun k_ hk_ => trivial)) (below_size (by repeat (first | (with_reducible first | exact HB.out | apply below_alloc | apply pw_below_drewN | apply below_drew1) | exact HB.out)))); have n1_ := Aside0.mk (below_step (by repeat (first | (with_reducible first | exact HB.out | apply below_alloc | apply pw_below_drewN | apply below_drew1) | exact HB.out)) hb); clear HB; have HO210 := n0_; have HB := n1_; clear n0_ n1_; (try clear hb); (try clear hb2); (try clear hk); (try clear hi); (try clear ho0); obtain ⟨Ao74, co74, eo74⟩ := Kd.V_slice HO210.out; subst eo74) | (go_at_call 12; (with_reducible refine (fixed_Share.calls a0 _ _ t208 t211 t212 _ ?side1 ?side2 A5.out).mono ?_); (case side1 => repeat (first | exact (Kd.V_reads' HO210.out).2.2 | (with_reducible refine Kd.C_alloc ?_ _) | (with_reducible refine Kd.C_drewN ?_ _) | (with_reducible refine Kd.C_drew ?_))); (case side2 => exact (Kd.V_reads' HO210.out).2.1); rintro e w75 ⟨v213, rfl, ho0, hb⟩; have n0_ := Aside0.mk (Kd.V_elder' (by (with_reducible repeat (first | apply Kd.V_alloc | apply Kd.V_drewN | apply Kd.V_drew)); exact HO210.out) (Kd.R_base ho0) hb); have n1_ := Aside0.mk (Kd.R_lower ho0 (below_size (by repeat (first | (with_reducible first | exact HB.out | apply below_alloc | apply pw_below_drewN | apply below_drew1) | exact HB.out)))); have n2_ := Aside0.mk (below_step (by repeat (first | (with_reducible first | exact HB.out | apply below_alloc | apply pw_below_drewN | apply below_drew1) | exact HB.out)) hb); clear HO210; clear HB; have HO210 := n0_; have HO214 := n1_; have HB := n2_; clear n0_ n1_ n2_; (try clear hb); (try clear hb2); (try clear hk); (try clear hi); (try clear ho0); obtain ⟨Ao76, co76, eo76⟩ := Kd.R_slice HO214.out; subst eo76)))
        go_ret
        exact ⟨by first | rfl | (simp [errW_none, errW_some] <;> rfl) | (simp [*, errW_none, errW_some] <;> rfl), by repeat (first | (with_reducible first | exact HB.out | apply below_alloc | apply pw_below_drewN | apply below_drew1) | exact HB.out)⟩
    · replace c65 := Bool.eq_false_iff.mpr c65
      subst c65
      have H1 : (some false) = some r := by rw [if_neg (show ¬ (false = true) by decide)] at H; exact H
      clear H
      have H := H1
      clear H1
      obtain rfl := Option.some.inj H
      go_enter Try.func5, Try.ntmps5
      go_wp2_with (first | (go_at_call 11; (with_reducible refine (purflinglaw01_shown.calls k  false _ A3.out).mono ?_); rintro e w77 ⟨rfl, hb⟩; have n0_ := Aside0.mk (below_step (by repeat (first | (with_reducible first | exact HB.out | apply below_alloc | apply pw_below_drewN | apply below_drew1) | exact HB.out)) hb); clear HB; have HB := n0_; clear n0_; (try clear hb); (try clear hb2); (try clear hk); (try clear hi)) | (go_at_call 13; (with_reducible refine (purflinglaw01_cut.calls (fun k_ => k_ < w.heap.size) _ _ l1 t208 _ ?side1 A4.out).mono ?_); (case side1 => exact Kd.V_mk HC1.out (Kd.F_below (Kd.C_F (Kd.heap_int .i64) HR1.out) (by repeat (first | (with_reducible first | exact HB.out | apply below_alloc | apply pw_below_drewN | apply below_drew1) | exact HB.out)))); rintro e w78 ⟨v209, rfl, ho0, hb⟩; have n0_ := Aside0.mk (Kd.V_lower (Kd.V_mono (ok' := fun k_ => True) ho0 (fun k_ hk_ => trivial)) (below_size (by repeat (first | (with_reducible first | exact HB.out | apply below_alloc | apply pw_below_drewN | apply below_drew1) | exact HB.out)))); have n1_ := Aside0.mk (below_step (by repeat (first | (with_reducible first | exact HB.out | apply below_alloc | apply pw_below_drewN | apply below_drew1) | exact HB.out)) hb); clear HB; have HO210 := n0_; have HB := n1_; clear n0_ n1_; (try clear hb); (try clear hb2); (try clear hk); (try clear hi); (try clear ho0); obtain ⟨Ao79, co79, eo79⟩ := Kd.V_slice HO210.out; subst eo79) | (go_at_call 12; (with_reducible refine (fixed_Share.calls a0 _ _ t208 t211 t212 _ ?side1 ?side2 A5.out).mono ?_); (case side1 => repeat (first | exact (Kd.V_reads' HO210.out).2.2 | (with_reducible refine Kd.C_alloc ?_ _) | (with_reducible refine Kd.C_drewN ?_ _) | (with_reducible refine Kd.C_drew ?_))); (case side2 => exact (Kd.V_reads' HO210.out).2.1); rintro e w80 ⟨v213, rfl, ho0, hb⟩; have n0_ := Aside0.mk (Kd.V_elder' (by (with_reducible repeat (first | apply Kd.V_alloc | apply Kd.V_drewN | apply Kd.V_drew)); exact HO210.out) (Kd.R_base ho0) hb); have n1_ := Aside0.mk (Kd.R_lower ho0 (below_size (by repeat (first | (with_reducible first | exact HB.out | apply below_alloc | apply pw_below_drewN | apply below_drew1) | exact HB.out)))); have n2_ := Aside0.mk (below_step (by repeat (first | (with_reducible first | exact HB.out | apply below_alloc | apply pw_below_drewN | apply below_drew1) | exact HB.out)) hb); clear HO210; clear HB; have HO210 := n0_; have HO214 := n1_; have HB := n2_; clear n0_ n1_ n2_; (try clear hb); (try clear hb2); (try clear hk); (try clear hi); (try clear ho0)))
      repeat (go_quiet (first | (go_at_call 11; (with_reducible refine (purflinglaw01_shown.calls k  false _ A3.out).mono ?_); rintro e w77 ⟨rfl, hb⟩; have n0_ := Aside0.mk (below_step (by repeat (first | (with_reducible first | exact HB.out | apply below_alloc | apply pw_below_drewN | apply below_drew1) | exact HB.out)) hb); clear HB; have HB := n0_; clear n0_; (try clear hb); (try clear hb2); (try clear hk); (try clear hi)) | (go_at_call 13; (with_reducible refine (purflinglaw01_cut.calls (fun k_ => k_ < w.heap.size) _ _ l1 t208 _ ?side1 A4.out).mono ?_); (case side1 => exact Kd.V_mk HC1.out (Kd.F_below (Kd.C_F (Kd.heap_int .i64) HR1.out) (by repeat (first | (with_reducible first | exact HB.out | apply below_alloc | apply pw_below_drewN | apply below_drew1) | exact HB.out)))); rintro e w78 ⟨v209, rfl, ho0, hb⟩; have n0_ := Aside0.mk (Kd.V_lower (Kd.V_mono (ok' := fun k_ => True) ho0 (fun k_ hk_ => trivial)) (below_size (by repeat (first | (with_reducible first | exact HB.out | apply below_alloc | apply pw_below_drewN | apply below_drew1) | exact HB.out)))); have n1_ := Aside0.mk (below_step (by repeat (first | (with_reducible first | exact HB.out | apply below_alloc | apply pw_below_drewN | apply below_drew1) | exact HB.out)) hb); clear HB; have HO210 := n0_; have HB := n1_; clear n0_ n1_; (try clear hb); (try clear hb2); (try clear hk); (try clear hi); (try clear ho0); obtain ⟨Ao79, co79, eo79⟩ := Kd.V_slice HO210.out; subst eo79) | (go_at_call 12; (with_reducible refine (fixed_Share.calls a0 _ _ t208 t211 t212 _ ?side1 ?side2 A5.out).mono ?_); (case side1 => repeat (first | exact (Kd.V_reads' HO210.out).2.2 | (with_reducible refine Kd.C_alloc ?_ _) | (with_reducible refine Kd.C_drewN ?_ _) | (with_reducible refine Kd.C_drew ?_))); (case side2 => exact (Kd.V_reads' HO210.out).2.1); rintro e w80 ⟨v213, rfl, ho0, hb⟩; have n0_ := Aside0.mk (Kd.V_elder' (by (with_reducible repeat (first | apply Kd.V_alloc | apply Kd.V_drewN | apply Kd.V_drew)); exact HO210.out) (Kd.R_base ho0) hb); have n1_ := Aside0.mk (Kd.R_lower ho0 (below_size (by repeat (first | (with_reducible first | exact HB.out | apply below_alloc | apply pw_below_drewN | apply below_drew1) | exact HB.out)))); have n2_ := Aside0.mk (below_step (by repeat (first | (with_reducible first | exact HB.out | apply below_alloc | apply pw_below_drewN | apply below_drew1) | exact HB.out)) hb); clear HO210; clear HB; have HO210 := n0_; have HO214 := n1_; have HB := n2_; clear n0_ n1_ n2_; (try clear hb); (try clear hb2); (try clear hk); (try clear hi); (try clear ho0))); try go_wp2_with (first | (go_at_call 11; (with_reducible refine (purflinglaw01_shown.calls k  false _ A3.out).mono ?_); rintro e w77 ⟨rfl, hb⟩; have n0_ := Aside0.mk (below_step (by repeat (first | (with_reducible first | exact HB.out | apply below_alloc | apply pw_below_drewN | apply below_drew1) | exact HB.out)) hb); clear HB; have HB := n0_; clear n0_; (try clear hb); (try clear hb2); (try clear hk); (try clear hi)) | (go_at_call 13; (with_reducible refine (purflinglaw01_cut.calls (fun k_ => k_ < w.heap.size) _ _ l1 t208 _ ?side1 A4.out).mono ?_); (case side1 => exact Kd.V_mk HC1.out (Kd.F_below (Kd.C_F (Kd.heap_int .i64) HR1.out) (by repeat (first | (with_reducible first | exact HB.out | apply below_alloc | apply pw_below_drewN | apply below_drew1) | exact HB.out)))); rintro e w78 ⟨v209, rfl, ho0, hb⟩; have n0_ := Aside0.mk (Kd.V_lower (Kd.V_mono (ok' := fun k_ => True) ho0 (fun k_ hk_ => trivial)) (below_size (by repeat (first | (with_reducible first | exact HB.out | apply below_alloc | apply pw_below_drewN | apply below_drew1) | exact HB.out)))); have n1_ := Aside0.mk (below_step (by repeat (first | (with_reducible first | exact HB.out | apply below_alloc | apply pw_below_drewN | apply below_drew1) | exact HB.out)) hb); clear HB; have HO210 := n0_; have HB := n1_; clear n0_ n1_; (try clear hb); (try clear hb2); (try clear hk); (try clear hi); (try clear ho0); obtain ⟨Ao79, co79, eo79⟩ := Kd.V_slice HO210.out; subst eo79) | (go_at_call 12; (with_reducible refine (fixed_Share.calls a0 _ _ t208 t211 t212 _ ?side1 ?side2 A5.out).mono ?_); (case side1 => repeat (first | exact (Kd.V_reads' HO210.out).2.2 | (with_reducible refine Kd.C_alloc ?_ _) | (with_reducible refine Kd.C_drewN ?_ _) | (with_reducible refine Kd.C_drew ?_))); (case side2 => exact (Kd.V_reads' HO210.out).2.1); rintro e w80 ⟨v213, rfl, ho0, hb⟩; have n0_ := Aside0.mk (Kd.V_elder' (by (with_reducible repeat (first | apply Kd.V_alloc | apply Kd.V_drewN | apply Kd.V_drew)); exact HO210.out) (Kd.R_base ho0) hb); have n1_ := Aside0.mk (Kd.R_lower ho0 (below_size (by repeat (first | (with_reducible first | exact HB.out | apply below_alloc | apply pw_below_drewN | apply below_drew1) | exact HB.out)))); have n2_ := Aside0.mk (below_step (by repeat (first | (with_reducible first | exact HB.out | apply below_alloc | apply pw_below_drewN | apply below_drew1) | exact HB.out)) hb); clear HO210; clear HB; have HO210 := n0_; have HO214 := n1_; have HB := n2_; clear n0_ n1_ n2_; (try clear hb); (try clear hb2); (try clear hk); (try clear hi); (try clear ho0))))
      go_ret
      exact ⟨by first | rfl | (simp [errW_none, errW_some] <;> rfl) | (simp [*, errW_none, errW_some] <;> rfl), by repeat (first | (with_reducible first | exact HB.out | apply below_alloc | apply pw_below_drewN | apply below_drew1) | exact HB.out)⟩

/-- THE ONE PURE STATEMENT of purflinglaw01_FixedAdds: yours. -/
def purflinglaw01_FixedAdds.Pure : Prop := ∀ (a0 : Int) (l1 : List Int), (Lit.int .i64 a0).wf = true → l1.length ≤ maxLen → l1.length * 8 ≤ 140737488351232 → (∀ x ∈ l1, (Lit.int .i64 x).wf = true) → ∃ k, purflinglaw01_FixedAdds.f k a0 l1 = some true
theorem purflinglaw01_FixedAdds.walk (P : purflinglaw01_FixedAdds.Pure) (a0 : Int) (a1 : Option Addr) (len1 cap1 : Nat) (z1 : List Int) (w : World) (w0 : (Lit.int .i64 a0).wf = true) (w1 : (a1 = none ∧ len1 = 0 ∧ cap1 = 0 ∧ z1 = []) ∨ ∃ x, a1 = some x ∧ len1 ≤ cap1 ∧ cap1 ≤ maxLen ∧ z1.length = cap1 ∧ (∀ i, i < z1.length → w.cell? (x.add i) = some (.int .i64 (z1.getD i 0))) ∧ ∀ n ∈ z1, (Lit.int .i64 n).wf = true) (y1 : len1 * 8 ≤ 140737488351232) :
    Calls Try.prog 5 #[.int .i64 a0, .slice a1 len1 cap1] w fun e w' => e = .returned (.bool true) ∧ Below w.heap.size w w' := by
  obtain ⟨l1, rfl, hr1, hm1, hw1, hc1⟩ := ReadsInt.ofRowC w1
  obtain ⟨k, h⟩ := P a0 l1 w0 hm1 y1 hw1
  refine (purflinglaw01_FixedAdds.calls k a0 _ _ l1 true w (Kd.C_of_reads (d := (0 : Int)) (h1 := fun _ => rfl) hr1) hc1 h).mono ?_
  rintro e w' ⟨rfl, hd⟩
  exact ⟨rfl, hd⟩

end Go.Proofs.Ytoblfbpigajjcaa.PA
