-- MADE by wip/tools/xprint.py of this repo: the kit's print.py, turned by this session, and texts by hand
import Derived.Test.YtpoboffdlnnbmaaPAx0
import Derived.Test.YtpoboffdlnnbmaaPAx6
namespace Go.Proofs.Ytpoboffdlnnbmaa.PA
open Go.RowKit Go.Proofs.YtpoboffdlnnbmaaW.PrintWords Go.Proofs.YtpoboffdlnnbmaaW.PrintLast Go.Proofs.YtpoboffdlnnbmaaW.PrintMore
attribute [local go_sem] max2_int min2_int max_two min_two max_three min_three max_four min_four   -- for this text's walks alone
set_option linter.unusedVariables false
set_option linter.unusedSimpArgs false

-- BY HAND: within.tpl
-- MAKING columns_within
section
open Go.RowKit Go.Shelf Go.Proofs.YtpoboffdlnnbmaaW.PrintWords Go.Proofs.YtpoboffdlnnbmaaW.PrintLast Go.Proofs.YtpoboffdlnnbmaaW.PrintMore
def outside (a0 a1 n : Int) : Bool := decide (n < a0) || decide (n > a1)
theorem within1 (a0 a1 x : Int) (B0 B1 : Nat) (W : World) (h0 : W.cell? ⟨B0, 0, none⟩ = some (.int .i64 a0)) (h1 : W.cell? ⟨B1, 0, none⟩ = some (.int .i64 a1)) :
  Calls Try.prog 59 #[.int .i64 x, .pointer (some ⟨B0, 0, none⟩), .pointer (some ⟨B1, 0, none⟩)] W fun e w' => e = .returned (.bool (outside a0 a1 x)) ∧ ∃ q, w' = W.drewN q := by
 have e : outside a0 a1 x = (if x < a0 then true else decide (x > a1)) := by unfold outside; by_cases h : x < a0 <;> simp [h]
 rw [e]
 by_cases h : x < a0
 ·rw [if_pos h]
  go_enter Try.func59, Try.ntmps59
  go_wp2
  go_ret
  obtain ⟨n0, h0⟩ := Drawn0.refl W
  exact ⟨by simp [h], n0, h0⟩
 ·rw [if_neg h]
  go_enter Try.func59, Try.ntmps59
  go_wp2
  go_ret
  obtain ⟨n0, h0⟩ := Drawn0.refl W
  exact ⟨by simp [h], n0, h0⟩
def columns_within.f (a0 a1 : Int) (l2 : List Int) : Option Bool := some (!(l2.any (outside a0 a1)))
theorem columns_within.calls (a0 a1 : Int) (A2 : Option Addr) (c2 : Nat) (l2 : List Int) (r : Bool) (w : World) (hr2 : Kd.C (Kd.int .i64) w A2 l2.length l2) (hc2 : l2.length ≤ c2) (h : columns_within.f a0 a1 l2 = some r) :
  Calls Try.prog 31 #[.int .i64 a0, .int .i64 a1, .slice A2 l2.length c2] w fun e w' => e = .returned (.bool r) ∧ Below w.heap.size w w' := by
 unfold columns_within.f at h
 obtain rfl := Option.some.inj h
 have eg : ∀ args w, (callFunc 59 args).run Try.prog w = .ok (.enter 59 args) w := enters_of Try.func59 (by kernel_rfl) rfl
 obtain ⟨W2, hW2⟩ : ∃ W2, (w.alloc (.cells #[.int .i64 a0] 2)).alloc (.cells #[.int .i64 a1] 2) = W2 := ⟨_, rfl⟩
 have hr : Kd.C (Kd.int .i64) W2 A2 l2.length l2 := by rw [← hW2]; exact Kd.C_alloc (Kd.C_alloc hr2 _) _
 have b0 : W2.heap[w.heap.size]? = some (.cells #[.int .i64 a0] 2 (0, 0)) := by rw [← hW2]; exact blk_alloc (heap_alloc_new _ _) _
 have b1 : W2.heap[w.heap.size + 1]? = some (.cells #[.int .i64 a1] 2 (0, 0)) := by
  rw [← hW2]
  have := heap_alloc_new (w.alloc (.cells #[.int .i64 a0] 2)) (.cells #[.int .i64 a1] 2)
  simpa using this
 have hcon := contains_i64 (outside a0 a1) 59 #[.pointer (some ⟨w.heap.size, 0, none⟩), .pointer (some ⟨w.heap.size + 1, 0, none⟩)] eg A2 c2 l2 W2 hr (fun x q => within1 a0 a1 x w.heap.size (w.heap.size + 1) _ ((blk_cell (blk_drewN b0 q) 0).trans rfl) ((blk_cell (blk_drewN b1 q) 0).trans rfl))
 have hB : Below w.heap.size w W2 := by rw [← hW2]; exact ((Below.refl _ w).alloc (Nat.le_refl _) _).alloc (by simp) _
 go_enter Try.func31, Try.ntmps31
 go_wp2_with (go_at_call 45; refine hcon.mono ?_; rintro e w' ⟨rfl, q, rfl⟩)
 go_ret
 exact ⟨rfl, pw_below_drewN hB q⟩
end

end Go.Proofs.Ytpoboffdlnnbmaa.PA
