/- Contracts: who keeps certificates; deletes. -/
import Derived.Test.YtopidfkmligljaaGreatAc6
namespace Go.Proofs.YtopidfkmligljaaGreat
set_option linter.unusedSimpArgs false
set_option linter.unusedVariables false
set_option maxHeartbeats 4000000
open Go Go.Am Go.RowKit Go.ChangeShapes Go.WideShapes Go.ChangeAt
open Go.ChangeMaps (open_string shut_string)
set_option maxRecDepth 100000

abbrev noSt : St := ⟨0, 0⟩
abbrev noEn : En := ⟨⟨#[]⟩, ⟨#[]⟩, false, noSt, noSt, 0, 0⟩
end Go.Proofs.YtopidfkmligljaaGreat
