/- FixedEvens: with enough rounds the check says true at every length and number: the program's even shares are the document's. No condition. -/
import Derived.Test.YtoblfbpigajjcaaPAx9
import Derived.Test.YtoblfbpigajjcaaTwo
namespace Go.Proofs.Ytoblfbpigajjcaa.Pure
open Go.RowKit Go.Proofs.Ytoblfbpigajjcaa.PA Go.Proofs.YtoblfbpigajjcaaW.PrintWords Go.Proofs.YtoblfbpigajjcaaW.PrintLast Go.Proofs.Ytoblfbpigajjcaa.Base
theorem FixedEvens : purflinglaw01_FixedEvens.Pure := by
  intro a0 a1 _ _
  suffices h : Ev (fun k => purflinglaw01_FixedEvens.f k a0 a1) true from h.rounds
  unfold purflinglaw01_FixedEvens.f
  refine Ev.bind shown_ev ?_
  have hj : ∀ b, Ev (fun k => purflinglaw01_FixedEvens.j0 k a0 a1 true b) true := by
    intro b
    refine Ev.step (f := fun k => _) (fun k => by rw [purflinglaw01_FixedEvens.j0]) ?_
    cases b
    · refine Base.Ev.neg (by simp) ?_
      obtain ⟨l, e, h1, hl, h2⟩ := even_both a0 a1
      refine Ev.bind (a := (l, e)) ⟨0, fun _ _ => h1⟩ (Ev.bind h2 (Base.Ev.pos rfl (Ev.bind (same_self l (by omega)) (Base.Ev.pos rfl (Base.Ev.val ?_)))))
      simp
    · exact Base.Ev.pos rfl (Ev.now _)
  by_cases c : a1 > 500
  · exact Base.Ev.pos c (hj _)
  · exact Base.Ev.neg c (hj _)
end Go.Proofs.Ytoblfbpigajjcaa.Pure
