/- HeightsStretch: with enough rounds the check says true at all rows, wanted heights and totals: stretched rows are the document's. No condition. -/
import Derived.Test.YtgghbmhmpkeccaaPAx28
import Derived.Test.YtgghbmhmpkeccaaShown16
import Derived.Test.YtgghbmhmpkeccaaRefStretch
namespace Go.Proofs.Ytgghbmhmpkeccaa.Pure
open Go.RowKit Go.Proofs.Ytgghbmhmpkeccaa.PA Go.Proofs.YtgghbmhmpkeccaaW.PrintWords Go.Proofs.YtgghbmhmpkeccaaW.PrintLast Go.Proofs.YtgghbmhmpkeccaaW.PrintMore Go.Proofs.Ytgghbmhmpkeccaa.Base
theorem HeightsStretch : purflinglaw16_HeightsStretch.Pure := by
  intro l0 l1 a2 _ _ _ _ _ _ _
  suffices h : Ev (fun k => purflinglaw16_HeightsStretch.f k l0 l1 a2) true from h.rounds
  obtain ⟨a1, a2', a3⟩ := mn_cut l0 100 100 rfl
  obtain ⟨b1, b2, b3⟩ := mn_cut l1 100 100 rfl
  unfold purflinglaw16_HeightsStretch.f
  rw [a3, b3]
  have hl := take_len l0 100
  have hl1 := take_len l1 100
  refine Ev.bind shown16_ev (Base.Ev.pos a1 (Base.Ev.pos a2' (Base.Ev.pos b1 (Base.Ev.pos b2 ?_))))
  obtain ⟨a, e, ha, hf, hr⟩ := refStretch_both (l0.take 100) (l1.take 100) a2 (by omega) (by omega)
  rw [hf]
  refine Ev.bind (Ev.now _) (Ev.bind hr (Base.Ev.pos rfl (Ev.bind (same_self a (by omega)) (Base.Ev.pos rfl (Base.Ev.val ?_)))))
  simp
end Go.Proofs.Ytgghbmhmpkeccaa.Pure
