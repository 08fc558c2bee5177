-- MADE by wip/tools/xprint.py of this repo: the kit's print.py, turned by this session, and texts by hand
import Derived.Test.YtpoboffdlnnbmaaPAx0
import Derived.Test.YtpoboffdlnnbmaaPAx5
namespace Go.Proofs.Ytpoboffdlnnbmaa.PA
open Go.RowKit Go.Proofs.YtpoboffdlnnbmaaW.PrintWords Go.Proofs.YtpoboffdlnnbmaaW.PrintLast Go.Proofs.YtpoboffdlnnbmaaW.PrintMore
attribute [local go_sem] max2_int min2_int max_two min_two max_three min_three max_four min_four   -- for this text's walks alone
set_option linter.unusedVariables false
set_option linter.unusedSimpArgs false

-- BY HAND: wide.tpl
section
open Go.RowKit Go.Shelf Go.Proofs.YtpoboffdlnnbmaaW.PrintWords Go.Proofs.YtpoboffdlnnbmaaW.PrintLast Go.Proofs.YtpoboffdlnnbmaaW.PrintMore
def wideBad (n : Int) : Bool := decide (n < 0) || decide (n > 1125899906842623)
theorem wide1 (x : Int) (w : World) : Calls Try.prog 46 #[.int .i64 x] w fun e w' => e = .returned (.bool (wideBad x)) ∧ ∃ n, w' = w.drewN n := by
 have e : wideBad x = (if x < 0 then true else decide (x > 1125899906842623)) := by unfold wideBad; by_cases h : x < 0 <;> simp [h]
 rw [e]
 by_cases h : x < 0
 ·rw [if_pos h]
  go_enter Try.func46, Try.ntmps46
  go_wp2
  go_ret
  obtain ⟨n0, h0⟩ := Drawn0.refl w
  exact ⟨by simp [h], n0, h0⟩
 ·rw [if_neg h]
  go_enter Try.func46, Try.ntmps46
  go_wp2
  go_ret
  obtain ⟨n0, h0⟩ := Drawn0.refl w
  exact ⟨by simp [h], n0, h0⟩
set_option maxHeartbeats 2000000 in
/-- slices.IndexFunc at whole numbers, wherever they lie: a place of the first at which p holds, or -1. -/
theorem index_i64 (p : Int → Bool) (g : Nat) (lb : Array Value) (eg : ∀ args w, (callFunc g args).run Try.prog w = .ok (.enter g args) w) (A : Option Addr) (c : Nat) (l : List Int) (w : World) (hr : Kd.C (Kd.int .i64) w A l.length l)
  (hp : ∀ (x : Int) (q : Nat), Calls Try.prog g (#[.int .i64 x] ++ lb) (w.drewN q) fun e w' => e = .returned (.bool (p x)) ∧ ∃ q', w' = (w.drewN q).drewN q') :
  Calls Try.prog 64 #[.slice A l.length c, .func (.func g) #[] lb] w fun e w' => (∃ k : Int, e = .returned (.int .i64 k) ∧ decide (0 ≤ k) = l.any p) ∧ ∃ q, w' = w.drewN q := by
 have hmax : l.length ≤ 9223372036854775807 := Kd.C_max hr
 have Hr := Lib.hid hr
 clear hr
 go_enter Try.func64, Try.ntmps64
 go_wp2
 go_loopg [5, 8] l.length (fun gg _ s8 wr => ∃ kk q : Nat, kk ≤ l.length ∧ l.length - kk ≤ gg ∧ s8 = .int .i64 kk ∧ wr = w.drewN q ∧ Aside (∀ j (h : j < l.length), j < kk → p l[j] = false))
 case atStart => exact ⟨0, 0, Nat.zero_le _, by omega, rfl, rfl, fun j _ hj => absurd hj (Nat.not_lt_zero _)⟩
 case round =>
  obtain ⟨kk, q, hkk, hg, rfl, rfl, A1⟩ := hrel
  by_cases hlt : kk < l.length
  ·obtain ⟨ad, rfl, _, hcell⟩ := cells_of_C Hr.out (by omega)
   have hltz : (kk : Int) < (l.length : Int) := by omega
   have hcx : w.cell? (ad.add kk) = some (.int .i64 l[kk]) := hcell kk hlt
   clear hcell
   generalize hy : l[kk] = y at hcx
   have B : Aside (l[kk] = y) := hy
   clear hy
   have hcall := hp y
   cases hq : p y with
   | true =>
    rw [hq] at hcall
    go_wp2_with (go_at_fn g; refine (hcall _).mono ?_; rintro e w' ⟨rfl, q', rfl⟩)
    go_ret
    refine ⟨⟨_, rfl, ?_⟩, _, rfl⟩
    have : l.any p = true := List.any_eq_true.2 ⟨y, B.out ▸ List.getElem_mem hlt, hq⟩
    rw [this]
    simp
   | false =>
    rw [hq] at hcall
    go_wp2_with (go_at_fn g; refine (hcall _).mono ?_; rintro e w' ⟨rfl, q', rfl⟩)
    go_roundg (l.length - (kk + 1))
    case measure => omega
    case rel =>
     refine ⟨kk + 1, _, by omega, by omega, by go_num, rfl, (show Aside _ from fun j hjl hj => ?_)⟩
     by_cases e : j = kk
     ·subst e
      rw [B.out]; exact hq
     ·exact A1.out j hjl (by omega)
  ·have hltz : ¬ (kk : Int) < (l.length : Int) := by omega
   go_wp2
   go_ret
   refine ⟨⟨_, rfl, ?_⟩, q, rfl⟩
   have : l.any p = false := by
    rw [List.any_eq_false]
    intro x hx
    obtain ⟨j, hj, e⟩ := List.mem_iff_getElem.1 hx
    rw [← e, A1.out j hj (by omega)]
    simp
   rw [this]
   rfl
theorem contains_i64 (p : Int → Bool) (g : Nat) (lb : Array Value) (eg : ∀ args w, (callFunc g args).run Try.prog w = .ok (.enter g args) w) (A : Option Addr) (c : Nat) (l : List Int) (w : World) (hr : Kd.C (Kd.int .i64) w A l.length l)
  (hp : ∀ (x : Int) (q : Nat), Calls Try.prog g (#[.int .i64 x] ++ lb) (w.drewN q) fun e w' => e = .returned (.bool (p x)) ∧ ∃ q', w' = (w.drewN q).drewN q') :
  Calls Try.prog 45 #[.slice A l.length c, .func (.func g) #[] lb] w fun e w' => e = .returned (.bool (l.any p)) ∧ Drawn0 w w' := by
 have hi := index_i64 p g lb eg A c l w hr hp
 go_enter Try.func45, Try.ntmps45
 go_wp2_with (go_at_call 64; refine hi.mono ?_; rintro e w' ⟨⟨k, rfl, hk⟩, q, rfl⟩)
 go_ret
 exact ⟨by rw [← hk]; rfl, q, rfl⟩
def spread_areWide.f (l0 : List Int) : Option Bool := some (!(l0.any wideBad))
theorem spread_areWide.calls (A0 : Option Addr) (c0 : Nat) (l0 : List Int) (r : Bool) (w : World) (hr0 : Kd.C (Kd.int .i64) w A0 l0.length l0) (hc0 : l0.length ≤ c0) (h : spread_areWide.f l0 = some r) :
  Calls Try.prog 21 #[.slice A0 l0.length c0] w fun e w' => e = .returned (.bool r) ∧ Drawn0 w w' := by
 unfold spread_areWide.f at h
 obtain rfl := Option.some.inj h
 have eg : ∀ args w, (callFunc 46 args).run Try.prog w = .ok (.enter 46 args) w := enters_of Try.func46 (by kernel_rfl) rfl
 have hcon := contains_i64 wideBad 46 #[] eg A0 c0 l0 w hr0 (fun x q => wide1 x _)
 go_enter Try.func21, Try.ntmps21
 go_wp2_with (go_at_call 45; refine hcon.mono ?_; rintro e w' ⟨rfl, q, rfl⟩)
 go_ret
 exact ⟨rfl, q, rfl⟩
end

end Go.Proofs.Ytpoboffdlnnbmaa.PA
