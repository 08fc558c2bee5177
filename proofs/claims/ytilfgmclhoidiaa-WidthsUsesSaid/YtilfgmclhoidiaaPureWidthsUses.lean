/- WidthsUses: with enough rounds the check says true at all bands and lengths. Condition: the numbers are of 64 bits. -/
import Derived.Test.YtilfgmclhoidiaaPAx31
import Derived.Test.YtilfgmclhoidiaaUsed
namespace Go.Proofs.Ytilfgmclhoidiaa.Pure
open Go.RowKit Go.Proofs.Ytilfgmclhoidiaa.PA Go.Proofs.YtilfgmclhoidiaaW.PrintWords Go.Proofs.YtilfgmclhoidiaaW.PrintLast Go.Proofs.YtilfgmclhoidiaaW.PrintMore Go.Proofs.Ytilfgmclhoidiaa.Base
theorem WidthsUses (l : List S35) (hg : ∀ b ∈ l, good35 b) (_ : l.length ≤ maxLen) (a : Int) (_ : (Lit.int .i64 a).wf = true) (b : Int) (_ : (Lit.int .i64 b).wf = true) : ∃ k, purflinglaw15_WidthsUses.f k l a b = some true := by
  suffices h : Ev (fun k => purflinglaw15_WidthsUses.f k l a b) true from h.rounds
  unfold purflinglaw15_WidthsUses.f
  rw [cut15]
  have hg' := take_good hg 100
  have hl : (l.take 100).length ≤ 10000 := by rw [List.length_take]; omega
  generalize l.take 100 = l at *
  refine Ev.bind shown15_ev ?_
  refine Ev.bind (Ev.now _) ?_
  refine Ev.bind (used_prog l hl hg' a b) (Ev.bind (sums_prog l hl hg') ?_)
  have hu1 := @usedOut_yes l a b
  have hu2 := @usedOut_no l a b
  generalize sums3 l = s at *
  by_cases c : usedOk l a b
  · rw [hu1 c]
    by_cases ca : a ≥ 0
    · rw [if_pos ca]
      have h1 : mx a s.1 ≥ s.1 := by unfold mx; split <;> omega
      have h2 : mx a s.1 ≥ a := by unfold mx; split <;> omega
      refine Base.Ev.pos rfl (Base.Ev.pos ca (Base.Ev.pos rfl (Base.Ev.pos h1 (Base.Ev.pos h2 ?_))))
      by_cases c2 : mx a s.1 = s.1
      · exact Base.Ev.pos c2 (Base.Ev.val rfl)
      · refine Base.Ev.neg c2 (Base.Ev.val ?_)
        have h5 : mx a s.1 = a ∨ mx a s.1 = s.1 := by unfold mx; split <;> simp
        have : mx a s.1 = a := by
          rcases h5 with h | h
          · exact h
          · exact absurd h c2
        simpa using this
    · rw [if_neg ca]
      have h1 : mx (mn s.2.1 b) s.1 ≥ s.1 := by unfold mx; split <;> omega
      refine Base.Ev.pos rfl (Base.Ev.neg ca (Base.Ev.pos rfl (Base.Ev.pos h1 ?_)))
      by_cases c2 : mx (mn s.2.1 b) s.1 = s.1
      · exact Base.Ev.pos c2 (Base.Ev.val rfl)
      · have h2 : mx (mn s.2.1 b) s.1 ≤ b := by unfold mx mn at *; (repeat' split at *) <;> omega
        have h3 : mx (mn s.2.1 b) s.1 ≤ s.2.1 := by unfold mx mn at *; (repeat' split at *) <;> omega
        exact Base.Ev.neg c2 (Base.Ev.pos h2 (Base.Ev.val (by simpa using h3)))
  · rw [hu2 c]
    exact Base.Ev.neg (by simp) (Base.Ev.pos rfl (Base.Ev.val rfl))
end Go.Proofs.Ytilfgmclhoidiaa.Pure
