/- The first check of the statements of heights. No condition. -/
import Derived.Test.YtgghbmhmpkeccaaPAx20
namespace Go.Proofs.Ytgghbmhmpkeccaa.Base
open Go.RowKit Go.Proofs.Ytgghbmhmpkeccaa.PA Go.Proofs.YtgghbmhmpkeccaaW.PrintWords Go.Proofs.YtgghbmhmpkeccaaW.PrintLast Go.Proofs.YtgghbmhmpkeccaaW.PrintMore
theorem shown16 : purflinglaw16_shown.f 100 = some true := purflinglaw16_shown.true_
theorem shown16_ev : Ev purflinglaw16_shown.f true := Ev.of purflinglaw16_shown.mono shown16
end Go.Proofs.Ytgghbmhmpkeccaa.Base
