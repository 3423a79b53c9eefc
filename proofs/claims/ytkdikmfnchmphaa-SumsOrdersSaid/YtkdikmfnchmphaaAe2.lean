/- Contracts: entries that are decoded. -/
import Derived.Test.YtkdikmfnchmphaaAe1
namespace Go.Proofs.Ytkdikmfnchmphaa
set_option linter.unusedSimpArgs false
set_option linter.unusedVariables false
set_option maxHeartbeats 4000000
open Go Go.Am Go.RowKit Go.ChangeShapes Go.WideShapes Go.ChangeAt
set_option maxRecDepth 100000

def decC (L : List Int) : Cu := doneC L (enC L ⟨0, 0⟩)
def decV (L : List Int) : En := if (decC L).e = 0 then enV L ⟨0, 0⟩ else noEn
end Go.Proofs.Ytkdikmfnchmphaa
