/- The document's example holds. -/
import Derived.Test.YtcnjnollmamifaaPLaw22Awake
set_option linter.unusedVariables false
set_option linter.unusedSimpArgs false
namespace Go.Proofs.Ytcnjnollmamifaa.P
open Go.RowKit Go.Proofs.YtcnjnollmamifaaW.PrintWords Go.Proofs.YtcnjnollmamifaaW.PrintLast Go.Proofs.YtcnjnollmamifaaH
theorem awake22_ev : Ev (fun k => eyewitnesslaw22_awake.f k) true := Ev.of (fun k => eyewitnesslaw22_awake.mono k) (k := 20) (by decide +kernel)
end Go.Proofs.Ytcnjnollmamifaa.P
