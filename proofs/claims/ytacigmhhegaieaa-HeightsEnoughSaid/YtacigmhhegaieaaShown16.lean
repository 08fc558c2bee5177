/- The first check of the statements of heights. No condition. -/
import Derived.Test.YtacigmhhegaieaaPAx44
namespace Go.Proofs.Ytacigmhhegaieaa.Base
open Go.RowKit Go.Proofs.Ytacigmhhegaieaa.PA Go.Proofs.YtacigmhhegaieaaW.PrintWords Go.Proofs.YtacigmhhegaieaaW.PrintLast Go.Proofs.YtacigmhhegaieaaW.PrintMore
theorem shown16 : purflinglaw16_shown.f 100 = some true := purflinglaw16_shown.true_
theorem shown16_ev : Ev purflinglaw16_shown.f true := Ev.of purflinglaw16_shown.mono shown16
end Go.Proofs.Ytacigmhhegaieaa.Base
