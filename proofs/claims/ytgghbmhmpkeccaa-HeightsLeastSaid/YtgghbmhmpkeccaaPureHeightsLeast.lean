/- HeightsLeast: with enough rounds the check says true at all wanted heights, places, heights and gaps: the least heights are the document's. No condition. -/
import Derived.Test.YtgghbmhmpkeccaaPAx26
import Derived.Test.YtgghbmhmpkeccaaShown16
import Derived.Test.YtgghbmhmpkeccaaRefLeast
import Derived.Test.YtgghbmhmpkeccaaOpen
namespace Go.Proofs.Ytgghbmhmpkeccaa.Pure
open Go.RowKit Go.Proofs.Ytgghbmhmpkeccaa.PA Go.Proofs.YtgghbmhmpkeccaaW.PrintWords Go.Proofs.YtgghbmhmpkeccaaW.PrintLast Go.Proofs.YtgghbmhmpkeccaaW.PrintMore Go.Proofs.Ytgghbmhmpkeccaa.Base
theorem HeightsLeast (l0 : List Int) (_ : ∀ a ∈ l0, good64 a) (_ : l0.length ≤ maxLen) (l1 : List SPl) (_ : ∀ a ∈ l1, good35 a) (_ : l1.length ≤ maxLen) (l2 : List Int) (_ : ∀ a ∈ l2, good64 a) (_ : l2.length ≤ maxLen) (a3 : Int) (_ : (Lit.int .i64 a3).wf = true) :
    ∃ k, purflinglaw16_HeightsLeast.f k l0 l1 l2 a3 = some true := by
  suffices h : Ev (fun k => purflinglaw16_HeightsLeast.f k l0 l1 l2 a3) true from h.rounds
  unfold purflinglaw16_HeightsLeast.f
  rw [cut16]
  have hl0 := take_len l0 60
  have hl1 := take_len l1 100
  refine Ev.bind shown16_ev (Ev.bind (Ev.now _) ?_)
  dsimp only
  generalize l0.take 60 = l0 at *
  generalize l1.take 100 = l1 at *
  generalize l2.take 100 = l2 at *
  obtain ⟨a, e, ha, hf, hr⟩ := refLeast_both l0 l1 l2 a3 hl0 hl1
  have hR := refRight l0 l1 l2 a3 hl0 hl1
  have eR : heights_Right.f l0 l1 l2 a3 = some (leastOk l0 l1 l2 a3) := by
    unfold heights_Right.f leastOk
    rw [decide_eq_true (by omega : l1.length ≤ 1000), Bool.and_true]
  rw [hf, eR]
  refine Ev.bind (Ev.now _) (Ev.bind hr (Base.Ev.pos rfl (Ev.bind (Ev.now _) (Ev.bind hR (Base.Ev.pos (by simp) (Ev.bind (same_self a (by omega)) (Base.Ev.pos rfl (Base.Ev.val ?_))))))))
  simp
end Go.Proofs.Ytgghbmhmpkeccaa.Pure
