-- MADE by wip/tools/xprint.py of this repo: the kit's print.py, turned by this session, and texts by hand
import Derived.Test.YtilfgmclhoidiaaPAx0
namespace Go.Proofs.Ytilfgmclhoidiaa.PA
open Go.RowKit Go.Proofs.YtilfgmclhoidiaaW.PrintWords Go.Proofs.YtilfgmclhoidiaaW.PrintLast Go.Proofs.YtilfgmclhoidiaaW.PrintMore
attribute [local go_sem] max2_int min2_int max_two min_two max_three min_three max_four min_four   -- for this text's walks alone
set_option linter.unusedVariables false
set_option linter.unusedSimpArgs false

/-! ### fixed_edge: function 66 -/
def fixed_edge.f (a0 : Bool) : Option (Int) := if a0 = true then (some (-9223372036854775808)) else (some 9223372036854775807)
set_option maxHeartbeats 8000000 in
set_option maxRecDepth 100000 in
theorem fixed_edge.calls (a0 : Bool) (r : Int) (w : World) (h : fixed_edge.f a0 = some r) :
  Calls Try.prog 66 #[.bool a0] w fun e w' => e = .returned (.int .i64 r) ∧ Drawn0 w w' := by
 have H : (if a0 = true then (some (-9223372036854775808)) else (some 9223372036854775807)) = some r := h
 clear h
 by_cases c2 : a0 = true
 ·subst c2
  have H1 : (some (-9223372036854775808)) = some r := by rw [if_pos rfl] at H; exact H
  clear H
  have H := H1
  clear H1
  obtain rfl := Option.some.inj H
  go_enter Try.func66, Try.ntmps66
  go_wp2
  go_ret
  exact ⟨by first | rfl | (simp; done) | (simp [*]; done), by repeat (first | exact Drawn0.refl _ | apply Drawn0.step)⟩
 ·replace c2 := Bool.eq_false_iff.mpr c2
  subst c2
  have H1 : (some 9223372036854775807) = some r := by rw [if_neg (show ¬ (false = true) by decide)] at H; exact H
  clear H
  have H := H1
  clear H1
  obtain rfl := Option.some.inj H
  go_enter Try.func66, Try.ntmps66
  go_wp2
  go_ret
  exact ⟨by first | rfl | (simp; done) | (simp [*]; done), by repeat (first | exact Drawn0.refl _ | apply Drawn0.step)⟩

end Go.Proofs.Ytilfgmclhoidiaa.PA
