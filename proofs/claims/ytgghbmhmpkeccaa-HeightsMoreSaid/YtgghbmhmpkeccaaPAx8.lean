-- MADE by wip/tools/xprint.py of this repo: the kit's print.py, turned by this session, and texts by hand
import Derived.Test.YtgghbmhmpkeccaaPAx0
import Derived.Test.YtgghbmhmpkeccaaPAx5
namespace Go.Proofs.Ytgghbmhmpkeccaa.PA
open Go.RowKit Go.Proofs.YtgghbmhmpkeccaaW.PrintWords Go.Proofs.YtgghbmhmpkeccaaW.PrintLast Go.Proofs.YtgghbmhmpkeccaaW.PrintMore
attribute [local go_sem] max2_int min2_int max_two min_two max_three min_three max_four min_four   -- for this text's walks alone
set_option linter.unusedVariables false
set_option linter.unusedSimpArgs false

-- BY HAND: lengths.tpl
section
open Go.RowKit Go.Shelf Go.Proofs.YtgghbmhmpkeccaaW.PrintWords Go.Proofs.YtgghbmhmpkeccaaW.PrintLast Go.Proofs.YtgghbmhmpkeccaaW.PrintMore
def lenBad (n : Int) : Bool := decide (n < 0) || decide (n > 1073741824)
theorem len1 (x : Int) (w : World) : Calls Try.prog 66 #[.int .i64 x] w fun e w' => e = .returned (.bool (lenBad x)) ∧ ∃ n, w' = w.drewN n := by
 have e : lenBad x = (if x < 0 then true else decide (x > 1073741824)) := by unfold lenBad; by_cases h : x < 0 <;> simp [h]
 rw [e]
 by_cases h : x < 0
 ·rw [if_pos h]
  go_enter Try.func66, Try.ntmps66
  go_wp2
  go_ret
  obtain ⟨n0, h0⟩ := Drawn0.refl w
  exact ⟨by simp [h], n0, h0⟩
 ·rw [if_neg h]
  go_enter Try.func66, Try.ntmps66
  go_wp2
  go_ret
  obtain ⟨n0, h0⟩ := Drawn0.refl w
  exact ⟨by simp [h], n0, h0⟩
def edges_areLengths.f (l0 : List Int) : Option Bool := some (!(l0.any lenBad))
theorem edges_areLengths.calls (A0 : Option Addr) (c0 : Nat) (l0 : List Int) (r : Bool) (w : World) (hr0 : Kd.C (Kd.int .i64) w A0 l0.length l0) (hc0 : l0.length ≤ c0) (h : edges_areLengths.f l0 = some r) :
  Calls Try.prog 44 #[.slice A0 l0.length c0] w fun e w' => e = .returned (.bool r) ∧ Drawn0 w w' := by
 unfold edges_areLengths.f at h
 obtain rfl := Option.some.inj h
 have eg : ∀ args w, (callFunc 66 args).run Try.prog w = .ok (.enter 66 args) w := enters_of Try.func66 (by kernel_rfl) rfl
 have hcon := contains_i64 lenBad 66 #[] eg A0 c0 l0 w hr0 (fun x q => len1 x _)
 go_enter Try.func44, Try.ntmps44
 go_wp2_with (go_at_call 42; refine hcon.mono ?_; rintro e w' ⟨rfl, q, rfl⟩)
 go_ret
 exact ⟨rfl, q, rfl⟩
end

end Go.Proofs.Ytgghbmhmpkeccaa.PA
