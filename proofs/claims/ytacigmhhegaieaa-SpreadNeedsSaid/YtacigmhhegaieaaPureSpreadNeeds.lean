/- SpreadNeeds: with enough rounds the check says true at all bands, needs and gaps. No condition. -/
import Derived.Test.YtacigmhhegaieaaPAx29
import Derived.Test.YtacigmhhegaieaaRefNeeds
import Derived.Test.YtacigmhhegaieaaSame13
namespace Go.Proofs.Ytacigmhhegaieaa.Pure
open Go.RowKit Go.Proofs.Ytacigmhhegaieaa.PA Go.Proofs.YtacigmhhegaieaaW.PrintWords Go.Proofs.YtacigmhhegaieaaW.PrintLast Go.Proofs.YtacigmhhegaieaaW.PrintMore Go.Proofs.Ytacigmhhegaieaa.Base
theorem SpreadNeeds (l : List SB) (_ : ∀ b ∈ l, good39 b) (_ : l.length ≤ maxLen) (needs : List SN) (_ : ∀ b ∈ needs, good37 b) (_ : needs.length ≤ maxLen) (gap : Int) (_ : (Lit.int .i64 gap).wf = true) : ∃ k, purflinglaw14_SpreadNeeds.f k l needs gap = some true := by
  suffices h : Ev (fun k => purflinglaw14_SpreadNeeds.f k l needs gap) true from h.rounds
  unfold purflinglaw14_SpreadNeeds.f
  rw [cut14]
  have hl : (l.take 40).length ≤ 40 := by rw [List.length_take]; omega
  have hn : (needs.take 100).length ≤ 100 := by rw [List.length_take]; omega
  generalize l.take 40 = l at *
  generalize needs.take 100 = needs at *
  refine Ev.bind shown14_ev (Ev.bind (Ev.now _) ?_)
  dsimp only
  obtain ⟨r, e, hr, h1, h2⟩ := refNeeds l needs gap (by omega) (by omega)
  rw [h1]
  exact Ev.bind (Ev.now _) (Ev.bind h2 (Base.Ev.pos rfl (Ev.bind (same13 r hr) (Base.Ev.pos rfl (Base.Ev.val (by simp))))))
end Go.Proofs.Ytacigmhhegaieaa.Pure
