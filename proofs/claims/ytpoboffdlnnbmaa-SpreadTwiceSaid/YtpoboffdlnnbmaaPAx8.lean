-- MADE by wip/tools/xprint.py of this repo: the kit's print.py, turned by this session, and texts by hand
import Derived.Test.YtpoboffdlnnbmaaPAx0
import Derived.Test.YtpoboffdlnnbmaaPAx5
import Derived.Test.YtpoboffdlnnbmaaPAx7
namespace Go.Proofs.Ytpoboffdlnnbmaa.PA
open Go.RowKit Go.Proofs.YtpoboffdlnnbmaaW.PrintWords Go.Proofs.YtpoboffdlnnbmaaW.PrintLast Go.Proofs.YtpoboffdlnnbmaaW.PrintMore
attribute [local go_sem] max2_int min2_int max_two min_two max_three min_three max_four min_four   -- for this text's walks alone
set_option linter.unusedVariables false
set_option linter.unusedSimpArgs false

-- BY HAND: zadd.tpl
section
open Go.RowKit Go.Shelf Go.Proofs.YtpoboffdlnnbmaaW.PrintWords Go.Proofs.YtpoboffdlnnbmaaW.PrintLast Go.Proofs.YtpoboffdlnnbmaaW.PrintMore
attribute [local go_sem] max2_int min2_int max_two min_two max_three min_three max_four min_four

/-- A sum of two, saturated, as the code finds it. -/
def addStep (s x : Int) : Int := if (decide (s < wrap64 (s + x)) != decide (0 < x)) = true ∧ x ≠ 0 then (if x < 0 then -9223372036854775808 else 9223372036854775807) else wrap64 (s + x)
def addOut (l : List Int) : Int := l.foldl addStep 0
theorem addOut_take (l : List Int) (k : Nat) (h : k < l.length) : addOut (l.take (k + 1)) = addStep (addOut (l.take k)) l[k] := by
 unfold addOut
 rw [List.take_succ_eq_append_getElem h, List.foldl_append]
 rfl
def fixed_Add.f (l0 : List Int) : Option Int := some (addOut l0)

/-- A scope in which the run jumps back to one label: the first way to the label leads into the same pass. -/
theorem wp_scope_jumps2 {P : Program} {a : Act} {w : World} {Q : Exit → Act → World → Prop} {c X : Code} (l : Nat) (J : Act → World → Prop) (μ : Act → World → Nat) (hf : findLabel c l = some (Code.skip.seq X))
  (pass : ∀ a w, J a w → X.wp P (Exit.jump l (fun a' w' => J a' w' ∧ μ a' w' < μ a w) Q) a w)
  (first : (∀ a w, J a w → X.wp P (Exit.jump l J Q) a w) → c.wp P (Exit.jump l J Q) a w) : (Code.scope c).wp P Q a w :=
 wp_scope_jumps l J μ hf (first fun a w h => Code.wp_mono (fun e a' w' hq => by
  cases e with
  | goto l' => exact ⟨hq.1, hq.2.1⟩
  | normal => exact hq
  | exit id => exact hq
  | ret => exact hq
  | panic ch => exact hq
  | outgrown => exact hq) (pass a w h)) (fun a w h => wp_seq (wp_skip (pass a w h)))

def AddJ (A : Option Addr) (c : Nat) (l : List Int) (w : World) (a' : Act) (w' : World) : Prop :=
 ∃ (k : Nat) (u1 u2 u5 u6 u7 u8 u9 u10 u11 u12 u13 u14 u15 u16 u17 u18 u19 u20 u21 u22 u23 u24 u25 u26 u27 u28 u29 u30 u31 u32 u33 u34 u35 u36 u37 u38 u39 u40 u41 : Value), a' = { tmps := #[.slice A l.length c, u1, u2, .int .i64 (addOut (l.take k)), .int .i64 k, u5, u6, u7, u8, u9, u10, u11, u12, u13, u14, u15, u16, u17, u18, u19, u20, u21, u22, u23, u24, u25, u26, u27, u28, u29, u30, u31, u32, u33, u34, u35, u36, u37, u38, u39, u40, u41], defers := [] } ∧ k ≤ l.length ∧ Drawn0 w w'

set_option maxRecDepth 1000000 in
set_option maxHeartbeats 8000000 in
theorem fixed_Add.calls (A0 : Option Addr) (c0 : Nat) (l0 : List Int) (r : Int) (w : World) (hr0 : Kd.C (Kd.int .i64) w A0 l0.length l0) (hc0 : l0.length ≤ c0) (h : fixed_Add.f l0 = some r) :
  Calls Try.prog 24 #[.slice A0 l0.length c0] w fun e w' => e = .returned (.int .i64 r) ∧ Drawn0 w w' := by
 unfold fixed_Add.f at h
 obtain rfl := Option.some.inj h
 clear h
 have Hr := Lib.hid hr0
 have hmax : l0.length ≤ 9223372036854775807 := Kd.C_max hr0
 clear hr0
 go_enter Try.func24, Try.ntmps24
 go_wp2
 refine wp_scope_jumps2 0 (AddJ A0 c0 l0 w) (fun a' _ => l0.length - (intOf (a'.tmps.getD 4 undef)).toNat) rfl ?pass ?first
 case first =>
  intro pass
  go_wp2
  go_step3
  rename_i hK
  refine hK _ _ (pass _ _ ?_)
  exact ⟨0, _, _, _, _, _, _, _, _, _, _, _, _, _, _, _, _, _, _, _, _, _, _, _, _, _, _, _, _, _, _, _, _, _, _, _, _, _, _, _, rfl, Nat.zero_le _, Drawn0.refl _⟩
 case pass =>
  rintro a' w1 ⟨k, u1, u2, u5, u6, u7, u8, u9, u10, u11, u12, u13, u14, u15, u16, u17, u18, u19, u20, u21, u22, u23, u24, u25, u26, u27, u28, u29, u30, u31, u32, u33, u34, u35, u36, u37, u38, u39, u40, u41, rfl, hk, hd⟩
  by_cases hlt : k < l0.length
  ·obtain ⟨ad, rfl, _, hcell⟩ := cells_of_C Hr.out (by omega)
   have hcx : w1.cell? (ad.add k) = some (.int .i64 l0[k]) := by
    obtain ⟨m, rfl⟩ := hd
    exact hcell k hlt
   have HT := Lib.hid (addOut_take l0 k hlt)
   have hki : (k : Int) < (l0.length : Int) := by omega
   have hk0 : (0 : Int) ≤ (k : Int) := by omega
   have hne : ((k : Int) == (l0.length : Int)) = false := beq_eq_false_iff_ne.mpr (by omega)
   have hne2 : (k == l0.length) = false := beq_eq_false_iff_ne.mpr (by omega)
   clear hcell
   generalize addOut (l0.take k) = s at HT ⊢
   generalize l0[k] = x at hcx HT ⊢
   by_cases hp : s < wrap64 (s + x)
   ·have hpb : decide (s < wrap64 (s + x)) = true := decide_eq_true hp
    rcases Int.lt_trichotomy x 0 with hx | hx | hx
    ·have h1 : decide (0 < x) = false := decide_eq_false (by omega)
     have h2 : (x != 0) = true := by simp; omega
     have h3 : decide (x < 0) = true := decide_eq_true (by omega)
     have hv : addOut (l0.take (k + 1)) = (-9223372036854775808) := by
      rw [HT.out]
      unfold addStep
      rw [hpb, h1]
      rw [if_pos ⟨by decide, by omega⟩, if_pos hx]
     have Hv := Lib.hid hv
     clear hp hx hv HT
     go_wp2_with (first | (go_at_call 54; refine (fixed_edge.calls true (-9223372036854775808) _ rfl).mono ?_; rintro e w' ⟨rfl, ⟨nd, rfl⟩⟩))
     go_step3
     refine ⟨rfl, ⟨k + 1, _, _, _, _, _, _, _, _, _, _, _, _, _, _, _, _, _, _, _, _, _, _, _, _, _, _, _, _, _, _, _, _, _, _, _, _, _, _, _, by rw [Hv.out]; rfl, by omega, hd.step _⟩, ?_⟩
     simp [intOf]
     omega
    ·have h1 : decide (0 < x) = false := decide_eq_false (by omega)
     have h2 : (x != 0) = false := by simp; omega
     have h3 : decide (x < 0) = false := decide_eq_false (by omega)
     have hv : addOut (l0.take (k + 1)) = (wrap64 (s + x)) := by
      rw [HT.out]
      unfold addStep
      rw [hpb, h1]
      rw [if_neg (fun h => by exact h.2 hx)]
     have Hv := Lib.hid hv
     clear hp hx hv HT
     go_wp2
     go_step3
     refine ⟨rfl, ⟨k + 1, _, _, _, _, _, _, _, _, _, _, _, _, _, _, _, _, _, _, _, _, _, _, _, _, _, _, _, _, _, _, _, _, _, _, _, _, _, _, _, by rw [Hv.out]; rfl, by omega, hd⟩, ?_⟩
     simp [intOf]
     omega
    ·have h1 : decide (0 < x) = true := decide_eq_true (by omega)
     have h2 : (x != 0) = true := by simp; omega
     have h3 : decide (x < 0) = false := decide_eq_false (by omega)
     have hv : addOut (l0.take (k + 1)) = (wrap64 (s + x)) := by
      rw [HT.out]
      unfold addStep
      rw [hpb, h1]
      rw [if_neg (fun h => by exact absurd h.1 (by decide))]
     have Hv := Lib.hid hv
     clear hp hx hv HT
     go_wp2
     go_step3
     refine ⟨rfl, ⟨k + 1, _, _, _, _, _, _, _, _, _, _, _, _, _, _, _, _, _, _, _, _, _, _, _, _, _, _, _, _, _, _, _, _, _, _, _, _, _, _, _, by rw [Hv.out]; rfl, by omega, hd⟩, ?_⟩
     simp [intOf]
     omega
   ·have hpb : decide (s < wrap64 (s + x)) = false := decide_eq_false hp
    rcases Int.lt_trichotomy x 0 with hx | hx | hx
    ·have h1 : decide (0 < x) = false := decide_eq_false (by omega)
     have h2 : (x != 0) = true := by simp; omega
     have h3 : decide (x < 0) = true := decide_eq_true (by omega)
     have hv : addOut (l0.take (k + 1)) = (wrap64 (s + x)) := by
      rw [HT.out]
      unfold addStep
      rw [hpb, h1]
      rw [if_neg (fun h => by exact absurd h.1 (by decide))]
     have Hv := Lib.hid hv
     clear hp hx hv HT
     go_wp2
     go_step3
     refine ⟨rfl, ⟨k + 1, _, _, _, _, _, _, _, _, _, _, _, _, _, _, _, _, _, _, _, _, _, _, _, _, _, _, _, _, _, _, _, _, _, _, _, _, _, _, _, by rw [Hv.out]; rfl, by omega, hd⟩, ?_⟩
     simp [intOf]
     omega
    ·have h1 : decide (0 < x) = false := decide_eq_false (by omega)
     have h2 : (x != 0) = false := by simp; omega
     have h3 : decide (x < 0) = false := decide_eq_false (by omega)
     have hv : addOut (l0.take (k + 1)) = (wrap64 (s + x)) := by
      rw [HT.out]
      unfold addStep
      rw [hpb, h1]
      rw [if_neg (fun h => by exact h.2 hx)]
     have Hv := Lib.hid hv
     clear hp hx hv HT
     go_wp2
     go_step3
     refine ⟨rfl, ⟨k + 1, _, _, _, _, _, _, _, _, _, _, _, _, _, _, _, _, _, _, _, _, _, _, _, _, _, _, _, _, _, _, _, _, _, _, _, _, _, _, _, by rw [Hv.out]; rfl, by omega, hd⟩, ?_⟩
     simp [intOf]
     omega
    ·have h1 : decide (0 < x) = true := decide_eq_true (by omega)
     have h2 : (x != 0) = true := by simp; omega
     have h3 : decide (x < 0) = false := decide_eq_false (by omega)
     have hv : addOut (l0.take (k + 1)) = 9223372036854775807 := by
      rw [HT.out]
      unfold addStep
      rw [hpb, h1]
      rw [if_pos ⟨by decide, by omega⟩, if_neg (by omega)]
     have Hv := Lib.hid hv
     clear hp hx hv HT
     go_wp2_with (first | (go_at_call 54; refine (fixed_edge.calls false 9223372036854775807 _ rfl).mono ?_; rintro e w' ⟨rfl, ⟨nd, rfl⟩⟩))
     go_step3
     refine ⟨rfl, ⟨k + 1, _, _, _, _, _, _, _, _, _, _, _, _, _, _, _, _, _, _, _, _, _, _, _, _, _, _, _, _, _, _, _, _, _, _, _, _, _, _, _, by rw [Hv.out]; rfl, by omega, hd.step _⟩, ?_⟩
     simp [intOf]
     omega
  ·obtain rfl : k = l0.length := by omega
   rw [List.take_length]
   go_wp2
   simp only [Exit.jump]
   go_ret
   exact ⟨rfl, hd⟩
end

end Go.Proofs.Ytpoboffdlnnbmaa.PA
