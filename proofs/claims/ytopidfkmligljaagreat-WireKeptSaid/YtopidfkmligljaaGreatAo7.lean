/- Contracts: the example of chapter 01. -/
import Derived.Test.YtopidfkmligljaaGreatAo6
namespace Go.Proofs.YtopidfkmligljaaGreat
set_option linter.unusedSimpArgs false
set_option linter.unusedVariables false
set_option maxHeartbeats 4000000
open Go Go.Am
set_option maxRecDepth 100000

end Go.Proofs.YtopidfkmligljaaGreat
