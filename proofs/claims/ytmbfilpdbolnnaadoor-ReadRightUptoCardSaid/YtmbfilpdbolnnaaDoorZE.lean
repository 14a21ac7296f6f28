/- Part ZE of the proof. -/
import Derived.Test.YtmbfilpdbolnnaaDoorZD
import Derived.Test.YtmbfilpdbolnnaaDoorZC
set_option linter.unusedVariables false
set_option linter.unusedSimpArgs false
namespace Go.AM
open Go.RowKit Go.Deep Go.Proofs
theorem readRight_ok (s : List UInt8) (hb : (fun s : List UInt8 => s.length + 1) s ≤ 1048576) : okT s := readTells_ok s hb
end Go.AM

