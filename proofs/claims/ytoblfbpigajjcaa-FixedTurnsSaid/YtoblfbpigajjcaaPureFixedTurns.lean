/- FixedTurns: with enough rounds the check says true at all two numbers: where the sum is not saturated, a difference undoes it. No condition. -/
import Derived.Test.YtoblfbpigajjcaaPAx12
import Derived.Test.YtoblfbpigajjcaaTwo
namespace Go.Proofs.Ytoblfbpigajjcaa.Pure
open Go.RowKit Go.Proofs.Ytoblfbpigajjcaa.PA Go.Proofs.YtoblfbpigajjcaaW.PrintWords Go.Proofs.YtoblfbpigajjcaaW.PrintLast Go.Proofs.YtoblfbpigajjcaaW.PrintMore Go.Proofs.Ytoblfbpigajjcaa.Base
def i64 (n : Int) : Prop := -9223372036854775808 ≤ n ∧ n ≤ 9223372036854775807
/-- What a saturated sum is. -/
def sat (n : Int) : Int := if n < -9223372036854775808 then -9223372036854775808 else if n > 9223372036854775807 then 9223372036854775807 else n
theorem bne_of {p q : Prop} [Decidable p] [Decidable q] : ((decide p != decide q) = true) ↔ ¬ (p ↔ q) := by
  by_cases hp : p <;> by_cases hq : q <;> simp [hp, hq]
theorem step_sat (s x : Int) (hs : i64 s) (hx : i64 x) : addStep s x = sat (s + x) := by
  unfold addStep sat wrap64
  unfold i64 at *
  simp only [bne_of]
  (repeat' split) <;> omega
theorem sub_eq (a b : Int) (ha : i64 a) (hb : i64 b) : fixed_Sub.f a b = some (sat (a - b)) := by
  unfold fixed_Sub.f fixed_edge.f
  unfold i64 at *
  by_cases c1 : a - b < -9223372036854775808
  · have e : wrap64 (a - b) = a - b + 18446744073709551616 := by unfold wrap64; omega
    rw [e, decide_eq_false (by omega : ¬ a - b + 18446744073709551616 < a), decide_eq_true (by omega : b > 0), if_pos (by decide : (false != true) = true), if_neg (by omega), if_pos rfl]
    unfold sat
    rw [if_pos c1]
    rfl
  · by_cases c2 : a - b > 9223372036854775807
    · have e : wrap64 (a - b) = a - b - 18446744073709551616 := by unfold wrap64; omega
      rw [e, decide_eq_true (by omega : a - b - 18446744073709551616 < a), decide_eq_false (by omega : ¬ b > 0), if_pos (by decide : (true != false) = true), if_neg (by omega), if_neg (by simp)]
      unfold sat
      rw [if_neg c1, if_pos c2]
      rfl
    · have e : wrap64 (a - b) = a - b := by unfold wrap64; omega
      have ed : decide (a - b < a) = decide (b > 0) := by rw [decide_eq_decide]; omega
      rw [e, ed, if_neg (by simp)]
      unfold sat
      rw [if_neg c1, if_neg c2]
theorem bare_eq (a : Int) (ha : i64 a) : fixed_bare.f a = some (if a < 0 then -a else a) := by
  unfold fixed_bare.f fixed_signed.f mx
  unfold i64 at *
  by_cases c : a < 0
  · rw [if_pos c, if_pos c, Option.bind_some, w64, w64]
    congr 1
    have e : a % 18446744073709551616 = a + 18446744073709551616 := by omega
    rw [e, if_neg (by omega)]
    omega
  · rw [if_neg c, if_neg c, Option.bind_some, w64, w64]
    congr 1
    split <;> omega
theorem mul_one_ev (a : Int) (ha : i64 a) : Ev (fun k => fixed_Mul.f k a 1) a := by
  unfold fixed_Mul.f
  rw [bare_eq a ha, bare_eq 1 (by unfold i64; omega)]
  unfold i64 at *
  simp only [Option.bind_some]
  have hm : bits_Mul64.f (if a < 0 then -a else a) (if (1 : Int) < 0 then -1 else 1) = some (0, if a < 0 then -a else a) := by
    unfold bits_Mul64.f
    rw [if_neg (show ¬ (1 : Int) < 0 by omega), if_pos ⟨by split <;> omega, by omega⟩, Int.mul_one]
    congr 1
    refine Prod.ext ?_ ?_ <;> (show _ = _) <;> (split <;> omega)
  refine Ev.bind (a := (0, if a < 0 then -a else a)) ⟨0, fun _ _ => hm⟩ (Base.Ev.pos rfl ?_)
  by_cases c : a < 0
  · have e1 : (decide (a < 0) != decide ((1 : Int) < 0)) = true := by simp [c]
    rw [e1, if_pos c]
    by_cases c2 : -a ≤ 9223372036854775807
    · refine Base.Ev.pos c2 (Ev.step (f := fun k => _) (fun k => by rw [fixed_Mul.j0]) (Base.Ev.pos rfl (Base.Ev.val ?_)))
      unfold wrap64
      omega
    · refine Base.Ev.neg c2 (Ev.step (f := fun k => _) (fun k => by rw [fixed_Mul.j0]) (Base.Ev.neg (by simp) (Base.Ev.pos rfl (Base.Ev.neg c2 ?_))))
      refine Ev.bind (a := -9223372036854775808) ⟨0, fun _ _ => rfl⟩ (Base.Ev.val ?_)
      omega
  · have e1 : (decide (a < 0) != decide ((1 : Int) < 0)) = false := by simp [c]
    rw [e1, if_neg c]
    refine Base.Ev.pos (by omega) (Ev.step (f := fun k => _) (fun k => by rw [fixed_Mul.j0]) (Base.Ev.neg (by simp) (Base.Ev.pos rfl (Base.Ev.pos (by omega) (Base.Ev.val ?_)))))
    unfold wrap64
    omega
theorem mul_zero_ev (a : Int) (ha : i64 a) : Ev (fun k => fixed_Mul.f k a 0) 0 := by
  unfold fixed_Mul.f
  rw [bare_eq a ha, bare_eq 0 (by unfold i64; omega)]
  unfold i64 at *
  simp only [Option.bind_some]
  have hm : bits_Mul64.f (if a < 0 then -a else a) (if (0 : Int) < 0 then -0 else 0) = some (0, 0) := by
    unfold bits_Mul64.f
    rw [if_neg (show ¬ (0 : Int) < 0 by omega), if_pos ⟨by split <;> omega, by omega⟩, Int.mul_zero]
    rfl
  refine Ev.bind (a := (0, 0)) ⟨0, fun _ _ => hm⟩ (Base.Ev.pos rfl (Base.Ev.pos (by show (0 : Int) ≤ _; omega) ?_))
  refine Ev.step (f := fun k => _) (fun k => by rw [fixed_Mul.j0]) ?_
  by_cases c : a < 0
  · have e1 : (decide (a < 0) != decide ((0 : Int) < 0)) = true := by simp [c]
    exact Base.Ev.pos e1 (Base.Ev.val (by unfold wrap64; omega))
  · have e1 : ¬ (decide (a < 0) != decide ((0 : Int) < 0)) = true := by simp [c]
    exact Base.Ev.neg e1 (Base.Ev.pos rfl (Base.Ev.pos (by show (0 : Int) ≤ _; omega) (Base.Ev.val (by unfold wrap64; omega))))
theorem sat_i64 (n : Int) : i64 (sat n) := by
  unfold i64 sat
  (repeat' split) <;> omega
theorem FixedTurns : purflinglaw01_FixedTurns.Pure := by
  intro a0 a1 w0 w1
  suffices h : Ev (fun k => purflinglaw01_FixedTurns.f k a0 a1) true from h.rounds
  have h0 : i64 a0 := i64_of w0
  have h1 : i64 a1 := i64_of w1
  have hadd : fixed_Add.f [a0, a1] = some (sat (a0 + a1)) := by
    show some (addStep (addStep 0 a0) a1) = _
    have e : addStep 0 a0 = a0 := by
      rw [step_sat 0 a0 (by unfold i64; omega) h0]
      unfold sat
      unfold i64 at h0
      (repeat' split) <;> omega
    rw [e, step_sat a0 a1 h0 h1]
  have hsub := sub_eq (sat (a0 + a1)) a1 (sat_i64 _) h1
  unfold purflinglaw01_FixedTurns.f
  refine Ev.bind shown_ev (Ev.bind (a := sat (a0 + a1)) ⟨0, fun _ _ => hadd⟩ (Ev.bind (a := sat (sat (a0 + a1) - a1)) ⟨0, fun _ _ => hsub⟩ ?_))
  have hj : Ev (fun k => purflinglaw01_FixedTurns.j0 k a0 a1 true (sat (a0 + a1)) (sat (sat (a0 + a1) - a1)) true) true := by
    refine Ev.step (f := fun k => _) (fun k => by rw [purflinglaw01_FixedTurns.j0]) ?_
    exact Base.Ev.pos rfl (Ev.now _)
  by_cases c1 : sat (a0 + a1) = 9223372036854775807
  · exact Base.Ev.pos c1 hj
  refine Base.Ev.neg c1 ?_
  by_cases c2 : sat (a0 + a1) = -9223372036854775808
  · rw [show (sat (a0 + a1) == (-9223372036854775808 : Int)) = true by simpa using c2]
    exact hj
  rw [show (sat (a0 + a1) == (-9223372036854775808 : Int)) = false by simpa using c2]
  have es : sat (a0 + a1) = a0 + a1 := by
    unfold sat at *
    (repeat' split) <;> simp_all
  have e0 : sat (a0 + a1 - a1) = a0 := by
    rw [Int.add_sub_cancel]
    unfold sat
    unfold i64 at h0
    (repeat' split) <;> omega
  have e1 : sat (a0 + a1 - a0) = a1 := by
    rw [show a0 + a1 - a0 = a1 by omega]
    unfold sat
    unfold i64 at h1
    (repeat' split) <;> omega
  have hs : i64 (a0 + a1) := es ▸ sat_i64 _
  rw [es, e0]
  have hsub2 := sub_eq (a0 + a1) a0 hs h0
  rw [e1] at hsub2
  refine Ev.step (f := fun k => _) (fun k => by rw [purflinglaw01_FixedTurns.j0]) ?_
  refine Base.Ev.neg (by simp) (Base.Ev.pos rfl (Base.Ev.pos rfl (Ev.bind (a := a1) ⟨0, fun _ _ => hsub2⟩ (Base.Ev.pos rfl (Ev.bind (mul_one_ev a0 h0) (Base.Ev.pos rfl (Ev.bind (mul_zero_ev a1 h1) (Base.Ev.pos rfl (Ev.bind (a := 0) ⟨0, fun _ _ => rfl⟩ (Base.Ev.val ?_))))))))))
  rfl
end Go.Proofs.Ytoblfbpigajjcaa.Pure
