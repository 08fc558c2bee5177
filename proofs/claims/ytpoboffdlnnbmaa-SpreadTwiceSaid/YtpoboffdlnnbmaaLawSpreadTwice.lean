-- MADE by wip/tools/mklaw.py of this repo
import Derived.Test.YtpoboffdlnnbmaaRows
import Derived.Test.YtpoboffdlnnbmaaPAx26
import Derived.Test.YtpoboffdlnnbmaaOpen
import Derived.Test.YtpoboffdlnnbmaaPureSpreadTwice
import Derived.WalkKit
import Derived.ProofKit
import Derived.OpenShut
import Derived.ShutString
import Derived.ChangeOld
import Derived.Below
import Derived.SizedLaws
import Derived.Test.YtpoboffdlnnbmaaWMore
namespace Go.Proofs.Ytpoboffdlnnbmaa.spreadTwice
open Go.ChangeShapes Go.WideShapes Go.ChangeAt Go.RowKit Go.Proofs.YtpoboffdlnnbmaaW.PrintWords
set_option linter.unusedVariables false
theorem own : ownKnob Try.prog.godebug = none := by kernel_rfl
theorem laidOut : laidOutB Try.prog = true := by kernel_rfl
set_option maxRecDepth 100000 in
theorem lifted (os : Os) (started : os.Started) (H : Type) (enc : TypeId × Value → H) :
    ReturnsInHanded {} Try.checked os 3 .any (Rows.spreadTwiceSpec.pre6 enc Try.prog Try.f3 Rows.spreadTwiceRow.domain false) (Rows.spreadTwiceSpec.post enc Try.prog Try.f3 false true false false) := by
  refine returnsInHanded_of_change_sized (C := Try.checked) own started (by kernel_rfl) Try.func3
    (ChangeSpec.witness6 (enc := enc) (C := Try.checked) false ⟨#[], #[.slice none 0 0, .slice none 0 0, .int .i64 0], []⟩ 8 (by kernel_rfl) (by kernel_rfl) (by kernel_rfl) (by kernel_rfl)) ?_
  intro W base args ds gs before hval0 hW hcnd hsz0 _
  have hval : ∀ (j : Nat) t v, Try.f3.params[j]? = some t → args[j]? = some v → Value.okWide Try.prog W .any base t v := hval0
  have hW' := hW
  obtain ⟨p, q, hA0, hV, rfl, hfz, hnd⟩ := hW
  have hA : DataW.TrodAll enc Try.prog W 0 (fun _ => true) true Try.f3.params.toList args.toList ds p := hA0
  rw [Try.params3] at hA hval
  obtain ⟨v0, vs0, d0, ds0, p0, q0, hargs, rfl, rfl, h0, r0⟩ := trodAll_cons hA
  obtain ⟨v1, vs1, d1, ds1, p1, q1, rfl, rfl, rfl, h1, r1⟩ := trodAll_cons r0
  obtain ⟨v2, vs2, d2, ds2, p2, q2, rfl, rfl, rfl, h2, r2⟩ := trodAll_cons r1
  obtain ⟨rfl, rfl, rfl⟩ := trodAll_nil r2
  obtain rfl : args = #[v0, v1, v2] := by cases args; simp_all
  obtain ⟨rfl, rfl⟩ := trodVars_none hV
  obtain ⟨A0, len0, cap0, rfl⟩ := okWide_slice Try.underlying22 (hval 0 22 v0 rfl rfl)
  have k0 := h0
  have lt0 : ∀ x ∈ p0, x.block < W.heap.size := by obtain ⟨m, hm⟩ := k0; exact DataW.trod_lt m _ _ _ hm
  obtain ⟨l0, rfl, hr0, hc0, hg0, hm0⟩ : ∃ l : List PA.S44, len0 = l.length ∧ Kd.C PA.k44 W A0 l.length l ∧ l.length ≤ cap0 ∧ (∀ a ∈ l, Pure.good44 a) ∧ l.length ≤ maxLen := by
    obtain ⟨fuel, hf⟩ := h0
    obtain ⟨A', cap', l, hcs, hC, hcap, hg, hm⟩ := Pure.open_C PA.k44 Pure.good44 Try.underlying22 (by kernel_rfl) (fun n cs' y h => Pure.el44 n cs' y h) hf
    simp [Value.cells] at hcs
    obtain ⟨rfl, rfl, rfl⟩ := hcs
    exact ⟨l, rfl, hC, hcap, hg, hm⟩
  obtain ⟨A1, len1, cap1, rfl⟩ := okWide_slice Try.underlying23 (hval 1 23 v1 rfl rfl)
  have k1 := h1
  have lt1 : ∀ x ∈ p1, x.block < W.heap.size := by obtain ⟨m, hm⟩ := k1; exact DataW.trod_lt m _ _ _ hm
  obtain ⟨l1, rfl, hr1, hc1, hg1, hm1⟩ : ∃ l : List PA.S53, len1 = l.length ∧ Kd.C PA.k53 W A1 l.length l ∧ l.length ≤ cap1 ∧ (∀ a ∈ l, Pure.good53 a) ∧ l.length ≤ maxLen := by
    obtain ⟨fuel, hf⟩ := h1
    obtain ⟨A', cap', l, hcs, hC, hcap, hg, hm⟩ := Pure.open_C PA.k53 Pure.good53 Try.underlying23 (by kernel_rfl) (fun n cs' y h => Pure.el53 n cs' y h) hf
    simp [Value.cells] at hcs
    obtain ⟨rfl, rfl, rfl⟩ := hcs
    exact ⟨l, rfl, hC, hcap, hg, hm⟩
  obtain ⟨a2, rfl, rfl, rfl, w2⟩ := open_int Try.underlying2 (hval 2 2 v2 rfl rfl) h2
  clear hA0 hval0 hsz0
  obtain ⟨k, hk⟩ := Pure.SpreadTwice l0 hg0 hm0 l1 hg1 hm1 a2 w2
  refine (PA.purflinglaw14_SpreadTwice.calls k _ _ l0 _ _ l1 a2 true W hr0 hc0 hr1 hc1 hk).mono fun e W' ⟨he, bel⟩ => ?_
  subst he
  exact ⟨_, rfl, _, _, _, [], _, [], hW', trodAll_mk1 (shut_bool Try.underlying4 _), (trodAll_cons_mk (Below.trod laidOut (by kernel_rfl) (of_decide_eq_true (by kernel_rfl)) k0 bel lt0) (trodAll_cons_mk (Below.trod laidOut (by kernel_rfl) (of_decide_eq_true (by kernel_rfl)) k1 bel lt1) (trodAll_cons_mk (shut_int Try.underlying2 w2) trodAll_mk0))), rfl, bel.frame _, fun h => by cases h⟩
theorem over : Rows.spreadTwiceRow.holds Try.pinned (OpenSpec.ofChange Rows.spreadTwiceSpec) :=
  OpenClaim.holds_of_wide 3 Try.f3 rfl rfl rfl rfl rfl rfl rfl ⟨rfl, rfl, rfl, rfl, rfl⟩ rfl rfl rfl rfl rfl (by kernel_rfl) Try.func3 (by kernel_rfl)
    (of_decide_eq_true (by kernel_rfl)) (by unfold Func.isWrapper; first | (rw [if_pos (by decide +kernel)]; kernel_rfl) | (rw [if_neg (by decide +kernel)]; exact ⟨rfl, rfl⟩))
    (fun os started H enc _ => lifted os started H enc)
theorem proved : Rows.SpreadTwiceSaid := over
#print axioms proved
end Go.Proofs.Ytpoboffdlnnbmaa.spreadTwice
namespace Go.Proofs.Ytpoboffdlnnbmaa
/-- The row, under a short name, for the claim. -/
theorem spreadTwice_holds : Rows.SpreadTwiceSaid := spreadTwice.proved
end Go.Proofs.Ytpoboffdlnnbmaa
