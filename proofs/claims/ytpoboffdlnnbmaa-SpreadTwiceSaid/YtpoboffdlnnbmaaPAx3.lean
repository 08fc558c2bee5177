-- MADE by wip/tools/xprint.py of this repo: the kit's print.py, turned by this session, and texts by hand
import Derived.Test.YtpoboffdlnnbmaaPAx0
namespace Go.Proofs.Ytpoboffdlnnbmaa.PA
open Go.RowKit Go.Proofs.YtpoboffdlnnbmaaW.PrintWords Go.Proofs.YtpoboffdlnnbmaaW.PrintLast Go.Proofs.YtpoboffdlnnbmaaW.PrintMore
attribute [local go_sem] max2_int min2_int max_two min_two max_three min_three max_four min_four   -- for this text's walks alone
set_option linter.unusedVariables false
set_option linter.unusedSimpArgs false

-- BY HAND: bits1.tpl
/-! math/bits.LeadingZeros64, Mul64: by the shelf's contracts -/
end Go.Proofs.Ytpoboffdlnnbmaa.PA
namespace Go.Proofs
open Go.Shelf
def Try.layLz64_ren : Go.Shelf.Ren := ⟨fun | 134 => 74 | 129 => 84 | n => n, fun | 53 => 88 | 3 => 3 | 4 => 4 | 46 => 70 | 5 => 5 | 9 => 9 | n => n, fun | n => n⟩
theorem Try.layLz64 : Go.Proofs.Lays.n134 Try.prog Try.layLz64_ren := {
 mixed := by kernel_rfl
 f129 := Try.func84.trans (congrArg some (by kernel_rfl))
 f134 := Try.func74.trans (congrArg some (by kernel_rfl))
 t3 := Try.underlying3
 a3 := Try.isAgg3
 z3 := Try.sizeOf3
 v3 := Try.zeroValue3
 t4 := Try.underlying4
 a4 := Try.isAgg4
 z4 := Try.sizeOf4
 v4 := Try.zeroValue4
 t5 := Try.underlying5
 a5 := Try.isAgg5
 z5 := Try.sizeOf5
 v5 := Try.zeroValue5
 t9 := Try.underlying9
 a9 := Try.isAgg9
 z9 := Try.sizeOf9
 v9 := Try.zeroValue9
 t46 := Try.underlying70
 a46 := Try.isAgg70
 z46 := Try.sizeOf70
 v46 := Try.zeroValue70
 t53 := Try.underlying88
 a53 := Try.isAgg88
 z53 := Try.sizeOf88
 v53 := Try.zeroValue88 }
def Try.layMul64_ren : Go.Shelf.Ren := ⟨fun | 264 => 55 | n => n, fun | 53 => 88 | 46 => 70 | n => n, fun | n => n⟩
theorem Try.layMul64 : Go.Proofs.Lays.n264 Try.prog Try.layMul64_ren := {
 mixed := by kernel_rfl
 f264 := Try.func55.trans (congrArg some (by kernel_rfl))
 t46 := Try.underlying70
 a46 := Try.isAgg70
 z46 := Try.sizeOf70
 v46 := Try.zeroValue70
 t53 := Try.underlying88
 a53 := Try.isAgg88
 z53 := Try.sizeOf88
 v53 := Try.zeroValue88 }
end Go.Proofs
namespace Go.Proofs.Ytpoboffdlnnbmaa.PA
open Go.RowKit Go.Proofs.YtpoboffdlnnbmaaW.PrintWords Go.Proofs.YtpoboffdlnnbmaaW.PrintLast Go.Proofs.YtpoboffdlnnbmaaW.PrintMore
attribute [local go_sem] max2_int min2_int max_two min_two max_three min_three max_four min_four
set_option linter.unusedVariables false
set_option linter.unusedSimpArgs false
def bits_LeadingZeros64.f (a0 : Int) : Option Int := if 0 ≤ a0 ∧ a0 ≤ 18446744073709551615 then some (64 - (Lib.bitLen a0.toNat : Int)) else none
theorem bits_LeadingZeros64.calls (a0 : Int) (r : Int) (w : World) (h : bits_LeadingZeros64.f a0 = some r) :
  Calls Try.prog 74 #[.int .u64 a0] w fun e w' => e = .returned (.int .i64 r) ∧ Drawn0 w w' := by
 unfold bits_LeadingZeros64.f at h
 by_cases c : 0 ≤ a0 ∧ a0 ≤ 18446744073709551615
 ·rw [if_pos c] at h
  obtain rfl := Option.some.inj h
  have hc := Any.bits_LeadingZeros64 Try.layLz64 a0 w c.1 c.2
  change Calls Try.prog 74 _ _ _ at hc
  exact hc.mono fun e w' ⟨he, hw⟩ => ⟨he, by rw [hw]; exact Drawn0.refl _⟩
 ·rw [if_neg c] at h
  cases h
def bits_Mul64.f (a0 : Int) (a1 : Int) : Option (Int × Int) := if (0 ≤ a0 ∧ a0 < 18446744073709551616) ∧ (0 ≤ a1 ∧ a1 < 18446744073709551616) then some (a0 * a1 / 18446744073709551616, a0 * a1 % 18446744073709551616) else none
theorem bits_Mul64.calls (a0 : Int) (a1 : Int) (r1 : Int) (r2 : Int) (w : World) (h : bits_Mul64.f a0 a1 = some (r1, r2)) :
  Calls Try.prog 55 #[.int .u64 a0, .int .u64 a1] w fun e w' => e = .returned (.tuple #[.int .u64 r1, .int .u64 r2]) ∧ Drawn0 w w' := by
 unfold bits_Mul64.f at h
 by_cases c : (0 ≤ a0 ∧ a0 < 18446744073709551616) ∧ (0 ≤ a1 ∧ a1 < 18446744073709551616)
 ·rw [if_pos c] at h
  obtain ⟨x, rfl⟩ := Int.eq_ofNat_of_zero_le c.1.1
  obtain ⟨y, rfl⟩ := Int.eq_ofNat_of_zero_le c.2.1
  simp only [Option.some.injEq, Prod.mk.injEq] at h
  obtain ⟨rfl, rfl⟩ := h
  have hc := Any.bits_Mul64 Try.layMul64 x y (by omega) (by omega) w
  change Calls Try.prog 55 _ _ _ at hc
  exact hc.mono fun e w' ⟨he, hw⟩ => ⟨by rw [he]; simp only [Int.natCast_ediv, Int.natCast_emod, Int.natCast_mul]; rfl, by rw [hw]; exact Drawn0.refl _⟩
 ·rw [if_neg c] at h
  cases h

end Go.Proofs.Ytpoboffdlnnbmaa.PA
