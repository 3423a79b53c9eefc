/- Own theory, no program in sight: the order of texts. -/
import Derived.Test.YtopidfkmligljaaGreatAc0
import Derived.Test.YtopidfkmligljaaGreatEg4
namespace Go.Am
set_option linter.unusedSimpArgs false
set_option linter.unusedVariables false
set_option maxHeartbeats 4000000
open Go Go.RowKit
/-- One text is ahead of another one. -/
def ltK (a b : ByteArray) : Bool := Op.bytesLess a.toList b.toList
theorem ltK_def (a b : ByteArray) : Op.bytesLess a.toList b.toList = ltK a b := rfl
attribute [irreducible] ltK
end Go.Am
namespace Go.Proofs.YtopidfkmligljaaGreat
open Go Go.Am Go.RowKit
set_option maxRecDepth 100000
set_option linter.unusedSimpArgs false
attribute [go_sem] ltK_def
end Go.Proofs.YtopidfkmligljaaGreat
