/- FixedShares: with enough rounds the check says true at every length and all weights: the program's shares are the document's. No condition. -/
import Derived.Test.YtoblfbpigajjcaaPAx8
import Derived.Test.YtoblfbpigajjcaaThree
namespace Go.Proofs.Ytoblfbpigajjcaa.Pure
open Go.RowKit Go.Proofs.Ytoblfbpigajjcaa.PA Go.Proofs.YtoblfbpigajjcaaW.PrintWords Go.Proofs.YtoblfbpigajjcaaW.PrintLast Go.Proofs.Ytoblfbpigajjcaa.Base
theorem FixedShares : purflinglaw01_FixedShares.Pure := by
  intro a0 l _ _ _ _
  suffices h : Ev (fun k => purflinglaw01_FixedShares.f k a0 l) true from h.rounds
  obtain ⟨o, e, h1, h2, h3⟩ := share_both a0 (l.take 200) (by rw [List.length_take]; omega)
  unfold purflinglaw01_FixedShares.f
  refine Ev.bind shown_ev (Ev.bind (a := l.take 200) ⟨0, fun _ _ => cut_eq l⟩ (Ev.bind (a := (o, e)) ⟨0, fun _ _ => h1⟩ (Ev.bind (a := l.take 200) ⟨0, fun _ _ => cut_eq l⟩ (Ev.bind h3 (Base.Ev.pos rfl (Ev.bind (same_self o (by omega)) (Base.Ev.pos rfl (Base.Ev.val ?_))))))))
  simp
end Go.Proofs.Ytoblfbpigajjcaa.Pure
