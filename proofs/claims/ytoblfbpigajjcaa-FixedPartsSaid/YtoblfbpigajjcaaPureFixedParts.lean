/- FixedParts: with enough rounds the check says true at all shares and lengths: a greater share gives no less, and no more than the length. No condition. -/
import Derived.Test.YtoblfbpigajjcaaPAx11
import Derived.Test.YtoblfbpigajjcaaTwo
namespace Go.Proofs.Ytoblfbpigajjcaa.Pure
open Go.RowKit Go.Proofs.Ytoblfbpigajjcaa.PA Go.Proofs.YtoblfbpigajjcaaW.PrintWords Go.Proofs.YtoblfbpigajjcaaW.PrintLast Go.Proofs.YtoblfbpigajjcaaW.PrintMore Go.Proofs.Ytoblfbpigajjcaa.Base
theorem part_ev (a b : Int) (ha : 0 ≤ a ∧ a ≤ 9223372036854775807) (hb : 0 ≤ b ∧ b ≤ 9223372036854775807) : Ev (fun k => fixed_Part.f k a b) (mn (a * b / 10000) 9223372036854775807) := by
  have c1 : ¬ a < 0 := by omega
  have c2 : ¬ b < 0 := by omega
  have h1 : IntKind.u64.wrap a = a := w64_id (by omega) (by omega)
  have h2 : IntKind.u64.wrap b = b := w64_id (by omega) (by omega)
  have hm : bits_Mul64.f a b = some (a * b / 18446744073709551616, a * b % 18446744073709551616) := by
    unfold bits_Mul64.f
    rw [if_pos ⟨⟨by omega, by omega⟩, ⟨by omega, by omega⟩⟩]
  have hp : 0 ≤ a * b := Int.mul_nonneg ha.1 hb.1
  unfold fixed_Part.f
  refine Base.Ev.neg c1 (Ev.step (f := fun k => _) (fun k => by rw [fixed_Part.j0]) ?_)
  rw [h1, h2]
  refine Base.Ev.neg (by simpa using c2) (Ev.bind (a := (a * b / 18446744073709551616, a * b % 18446744073709551616)) ⟨0, fun _ _ => hm⟩ ?_)
  clear hm h1 h2 ha hb
  generalize a * b = p at *
  by_cases c : p / 18446744073709551616 ≥ 10000
  · refine Base.Ev.pos c (Base.Ev.val ?_)
    unfold mn
    rw [if_pos (by omega)]
  · refine Base.Ev.neg c ?_
    have hd := div64_eq (p / 18446744073709551616) (p % 18446744073709551616) 10000 (by omega) (by omega) (by omega) (by omega) (by omega)
    have e : p / 18446744073709551616 * 18446744073709551616 + p % 18446744073709551616 = p := by omega
    rw [e] at hd
    refine Ev.bind (a := (p / 10000, p % 10000)) (Ev.of (bits_Div64.mono _ _ _) (k := 13) hd) (Base.Ev.val ?_)
    have h0 : 0 ≤ p / 10000 := by omega
    refine wrap_id ?_ ?_ <;> (unfold mn; split <;> omega)
theorem FixedParts : purflinglaw01_FixedParts.Pure := by
  intro a0 a1 a2 _ _ w2
  suffices h : Ev (fun k => purflinglaw01_FixedParts.f k a0 a1 a2) true from h.rounds
  unfold purflinglaw01_FixedParts.f
  refine Ev.bind shown_ev ?_
  have hj : Ev (fun k => purflinglaw01_FixedParts.j0 k a0 a1 a2 true true) true := by
    refine Ev.step (f := fun k => _) (fun k => by rw [purflinglaw01_FixedParts.j0]) ?_
    exact Base.Ev.pos rfl (Ev.now _)
  by_cases c1 : a0 < 0
  · exact Base.Ev.pos c1 hj
  refine Base.Ev.neg c1 ?_
  by_cases c2 : a0 > a1
  · exact Base.Ev.pos c2 hj
  refine Base.Ev.neg c2 ?_
  by_cases c3 : a1 > 10000
  · exact Base.Ev.pos c3 hj
  refine Base.Ev.neg c3 ?_
  by_cases c4 : a2 < 0
  · rw [decide_eq_true c4]
    exact hj
  rw [decide_eq_false c4]
  have hb := i64_of w2
  have key : ∀ x : Int, 0 ≤ x → x ≤ 10000 → 0 ≤ x * a2 / 10000 ∧ x * a2 / 10000 ≤ a2 ∧ Ev (fun k => fixed_Part.f k x a2) (x * a2 / 10000) := by
    intro x h0 h1
    have m0 : 0 ≤ x * a2 := Int.mul_nonneg h0 (by omega)
    have m1 : x * a2 ≤ 10000 * a2 := Int.mul_le_mul_of_nonneg_right h1 (by omega)
    have hv := part_ev x a2 ⟨h0, by omega⟩ ⟨by omega, hb.2⟩
    generalize x * a2 = p at *
    rw [mn_id (by omega)] at hv
    exact ⟨by omega, by omega, hv⟩
  have k0 := key a0 (by omega) (by omega)
  have k1 := key a1 (by omega) (by omega)
  have k2 := key 10000 (by omega) (by omega)
  have k3 := key 0 (by omega) (by omega)
  have hle : a0 * a2 / 10000 ≤ a1 * a2 / 10000 := Int.ediv_le_ediv (by omega) (Int.mul_le_mul_of_nonneg_right (by omega) (by omega))
  have e2 : 10000 * a2 / 10000 = a2 := by omega
  have e3 : 0 * a2 / 10000 = 0 := by rw [Int.zero_mul]; rfl
  rw [e2] at k2
  rw [e3] at k3
  refine Ev.step (f := fun k => _) (fun k => by rw [purflinglaw01_FixedParts.j0]) ?_
  refine Base.Ev.neg (by simp) (Ev.bind k0.2.2 (Ev.bind k1.2.2 (Base.Ev.pos rfl (Base.Ev.pos k0.1 (Base.Ev.pos hle (Base.Ev.pos k1.2.1 (Ev.bind k2.2.2 (Base.Ev.pos rfl (Ev.bind k3.2.2 (Base.Ev.val ?_))))))))))
  rfl
end Go.Proofs.Ytoblfbpigajjcaa.Pure
