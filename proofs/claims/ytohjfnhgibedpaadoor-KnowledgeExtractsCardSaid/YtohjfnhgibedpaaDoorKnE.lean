/- The contract of the reference's simulation. -/
import Derived.Test.YtohjfnhgibedpaaDoorKnD
namespace Go.Proofs.YtohjfnhgibedpaaDoor
open Go.RowKit SpM
set_option linter.unusedVariables false

end Go.Proofs.YtohjfnhgibedpaaDoor
