/- A key and its entry. -/
import Derived.Test.YtgjimlgofakbpaaAc6
namespace Go.Proofs.Ytgjimlgofakbpaa
set_option linter.unusedSimpArgs false
set_option linter.unusedVariables false
set_option maxHeartbeats 4000000
open Go Go.Am
structure PE where
  key : ByteArray
  v : En
end Go.Proofs.Ytgjimlgofakbpaa
