/- FixedMany: with enough rounds the check says true at every number: up to 10000 weights are shared among, no more. No condition. -/
import Derived.Test.YtoblfbpigajjcaaPAx11
import Derived.Test.YtoblfbpigajjcaaTwo
namespace Go.Proofs.Ytoblfbpigajjcaa.Pure
open Go.RowKit Go.Proofs.Ytoblfbpigajjcaa.PA Go.Proofs.YtoblfbpigajjcaaW.PrintWords Go.Proofs.YtoblfbpigajjcaaW.PrintLast Go.Proofs.Ytoblfbpigajjcaa.Base
theorem seven_at (n : Nat) (hn : 9990 ≤ n) (i : Nat) (hi : i < n) : rd (evens 7 n) (i : Int) = if (i : Int) < 7 then 1 else 0 := by
  have h1 : (7 : Int) / (n : Int) = 0 := Int.ediv_eq_zero_of_lt (by omega) (by omega)
  have h2 : (7 : Int) % (n : Int) = 7 := Int.emod_eq_of_lt (by omega) (by omega)
  rw [rd_nat]
  unfold evens
  rw [List.getElem?_map, List.getElem?_range hi, h1, h2]
  simp
theorem FixedMany : purflinglaw01_FixedMany.Pure := by
  intro a0 _
  suffices h : Ev (fun k => purflinglaw01_FixedMany.f k a0) true from h.rounds
  unfold purflinglaw01_FixedMany.f
  refine Ev.bind shown_ev ?_
  by_cases c1 : a0 < 9990
  · exact Base.Ev.pos c1 (Ev.now _)
  refine Base.Ev.neg c1 ?_
  by_cases c2 : a0 > 10010
  · exact Base.Ev.pos c2 (Ev.now _)
  refine Base.Ev.neg c2 ?_
  obtain ⟨n, rfl⟩ : ∃ n : Nat, a0 = n := ⟨a0.toNat, by omega⟩
  by_cases c : mayShare 7 n
  · have hl : fixed_Even.f 7 n = some (evens 7 n, 0) := by
      unfold fixed_Even.f
      rw [if_pos c, Int.toNat_natCast, evenOut_eq 7 n c]
    have hn : (n : Int) ≤ 10000 := c.2.2.2
    have h6 : rd (evens 7 n) 6 = 1 := seven_at n (by omega) 6 (by omega)
    have h7 : rd (evens 7 n) 7 = 0 := seven_at n (by omega) 7 (by omega)
    refine Ev.bind (a := (evens 7 n, 0)) ⟨0, fun _ _ => hl⟩ (Base.Ev.pos rfl (Base.Ev.pos (by simp [hn]) (Base.Ev.pos rfl ?_)))
    simp only [evens_length]
    refine Base.Ev.pos trivial (Base.Ev.pos (by omega) (Base.Ev.pos h6 (Base.Ev.pos (by omega) (Base.Ev.val ?_))))
    rw [h7]
    rfl
  · have hl : fixed_Even.f 7 n = some ([], 10) := by
      unfold fixed_Even.f
      rw [if_neg c]
    have hn : ¬ (n : Int) ≤ 10000 := fun h => c ⟨by omega, by omega, by omega, h⟩
    exact Ev.bind (a := ([], 10)) ⟨0, fun _ _ => hl⟩ (Base.Ev.pos rfl (Base.Ev.pos (by simp [hn]) (Base.Ev.neg (by simp) (Ev.now _))))
end Go.Proofs.Ytoblfbpigajjcaa.Pure
