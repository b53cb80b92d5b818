/- The contract of the reference's Line (layer 17), without dashes; printed by gen_rwide.py. Conditions: the rectangle is small. -/
import Derived.Test.YtciooaihobnifaaWidL
namespace Go.Proofs.Ytciooaihobnifaa
set_option linter.unusedVariables false
set_option linter.unusedSimpArgs false
open Go.RowKit
end Go.Proofs.Ytciooaihobnifaa
