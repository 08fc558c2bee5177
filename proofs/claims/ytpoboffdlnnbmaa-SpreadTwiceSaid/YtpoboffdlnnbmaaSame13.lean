/- Bands are the same as they are. Condition: at most a hundred. -/
import Derived.Test.YtpoboffdlnnbmaaPAx25
import Derived.Test.YtpoboffdlnnbmaaShown14
namespace Go.Proofs.Ytpoboffdlnnbmaa.Base
open Go.RowKit Go.Proofs.Ytpoboffdlnnbmaa.PA Go.Proofs.YtpoboffdlnnbmaaW.PrintWords Go.Proofs.YtpoboffdlnnbmaaW.PrintLast Go.Proofs.YtpoboffdlnnbmaaW.PrintMore Go.Proofs.Ytpoboffdlnnbmaa.Pure
theorem same13_l (l : List SB) (hl : l.length ≤ 100) : ∀ (d i : Nat), i + d = l.length → Ev (fun k => purflingref13_Same.l0 k l l (i : Int)) true
  | 0, i, hi => by
    refine Ev.step (f := fun k => _) (fun k => by rw [purflingref13_Same.l0]) ?_
    exact Base.Ev.neg (by omega) (Base.Ev.val rfl)
  | d + 1, i, hi => by
    have ih := same13_l l hl d (i + 1) (by omega)
    refine Ev.step (f := fun k => _) (fun k => by rw [purflingref13_Same.l0, rdB, next (by omega)]) ?_
    exact Base.Ev.pos (by omega) (Base.Ev.pos (by omega) (Base.Ev.pos (by omega) (Base.Ev.neg (by simp) ih)))
theorem same13 (l : List SB) (hl : l.length ≤ 100) : Ev (fun k => purflingref13_Same.f k l l) true := by
  unfold purflingref13_Same.f
  exact Base.Ev.pos rfl (same13_l l hl l.length 0 (by omega))
end Go.Proofs.Ytpoboffdlnnbmaa.Base
