/- WidthsUsed: with enough rounds the check says true at all bands and lengths. Condition: the numbers are of 64 bits. -/
import Derived.Test.YtilfgmclhoidiaaPAx29
import Derived.Test.YtilfgmclhoidiaaPAx28
import Derived.Test.YtilfgmclhoidiaaUsed
namespace Go.Proofs.Ytilfgmclhoidiaa.Base
open Go.RowKit Go.Proofs.Ytilfgmclhoidiaa.PA Go.Proofs.YtilfgmclhoidiaaW.PrintWords Go.Proofs.YtilfgmclhoidiaaW.PrintLast Go.Proofs.YtilfgmclhoidiaaW.PrintMore Go.Proofs.Ytilfgmclhoidiaa.Pure
theorem usedRef_n (l : List S35) (a b : Int) : Ev (fun k => purflingref15_Used.j0 k l a b true) (0, 130) := by
  refine Ev.step (f := fun k => _) (fun k => by rw [purflingref15_Used.j0]) ?_
  exact Base.Ev.pos rfl (Base.Ev.val rfl)
theorem usedRef_j (l : List S35) (hl : l.length ≤ 10000) (hg : ∀ b ∈ l, good35 b) (a b : Int) : Ev (fun k => purflingref15_Used.j0 k l a b false) (if a ≥ 0 then (mx a (sums3 l).1, 0) else (mx (mn (sums3 l).2.1 b) (sums3 l).1, 0)) := by
  by_cases c : a ≥ 0
  · rw [if_pos c]
    refine Ev.step (f := fun k => _) (fun k => by rw [purflingref15_Used.j0]) ?_
    exact Base.Ev.neg (by simp) (Ev.bind (sums_ref l hl hg) (Base.Ev.pos c (Base.Ev.val rfl)))
  · rw [if_neg c]
    refine Ev.step (f := fun k => _) (fun k => by rw [purflingref15_Used.j0]) ?_
    refine Base.Ev.neg (by simp) (Ev.bind (sums_ref l hl hg) ?_)
    refine Base.Ev.neg c (Base.Ev.val ?_)
    congr 1
    unfold mx
    split <;> split <;> omega
theorem used_ref (l : List S35) (hl : l.length ≤ 10000) (hg : ∀ b ∈ l, good35 b) (a b : Int) : Ev (fun k => purflingref15_Used.f k l a b) (usedOut l a b) := by
  unfold purflingref15_Used.f
  refine Ev.bind (right_ref l hl) ?_
  by_cases hb : bandsOk l = true
  case neg =>
    rw [usedOut_no (fun h => hb h.1)]
    exact Base.Ev.neg hb (usedRef_n l a b)
  case pos =>
    refine Base.Ev.pos hb ?_
    by_cases c1 : a < -1
    · rw [usedOut_no (fun h => by have := h.2.1; omega)]
      exact Base.Ev.pos c1 (usedRef_n l a b)
    refine Base.Ev.neg c1 ?_
    by_cases c2 : a > 1125899906842623
    · rw [usedOut_no (fun h => by have := h.2.2.1; omega)]
      exact Base.Ev.pos c2 (usedRef_n l a b)
    refine Base.Ev.neg c2 ?_
    by_cases c3 : b < 0
    · rw [usedOut_no (fun h => by have := h.2.2.2.1; omega)]
      exact Base.Ev.pos c3 (usedRef_n l a b)
    refine Base.Ev.neg c3 ?_
    by_cases c4 : b > 1125899906842623
    · rw [usedOut_no (fun h => by have := h.2.2.2.2; omega), decide_eq_true c4]
      exact usedRef_n l a b
    · rw [usedOut_yes ⟨hb, by omega, by omega, by omega, by omega⟩, decide_eq_false c4]
      exact usedRef_j l hl hg a b
end Go.Proofs.Ytilfgmclhoidiaa.Base
namespace Go.Proofs.Ytilfgmclhoidiaa.Pure
open Go.RowKit Go.Proofs.Ytilfgmclhoidiaa.PA Go.Proofs.YtilfgmclhoidiaaW.PrintWords Go.Proofs.YtilfgmclhoidiaaW.PrintLast Go.Proofs.YtilfgmclhoidiaaW.PrintMore Go.Proofs.Ytilfgmclhoidiaa.Base
theorem WidthsUsed (l : List S35) (hg : ∀ b ∈ l, good35 b) (_ : l.length ≤ maxLen) (a : Int) (_ : (Lit.int .i64 a).wf = true) (b : Int) (_ : (Lit.int .i64 b).wf = true) : ∃ k, purflinglaw15_WidthsUsed.f k l a b = some true := by
  suffices h : Ev (fun k => purflinglaw15_WidthsUsed.f k l a b) true from h.rounds
  unfold purflinglaw15_WidthsUsed.f
  rw [cut15]
  have hg' := take_good hg 100
  have hl : (l.take 100).length ≤ 10000 := by rw [List.length_take]; omega
  generalize l.take 100 = l at *
  refine Ev.bind shown15_ev ?_
  refine Ev.bind (Ev.now _) ?_
  refine Ev.bind (used_prog l hl hg' a b) (Ev.bind (Ev.now _) <| Ev.bind (used_ref l hl hg' a b) ?_)
  exact Base.Ev.pos rfl (Base.Ev.pos rfl (Base.Ev.val (by simp)))
end Go.Proofs.Ytilfgmclhoidiaa.Pure
