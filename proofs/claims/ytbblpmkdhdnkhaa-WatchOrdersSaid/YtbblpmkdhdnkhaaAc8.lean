/- Contracts: who keeps certificates; deletes. -/
import Derived.Test.YtbblpmkdhdnkhaaAc6
namespace Go.Proofs.Ytbblpmkdhdnkhaa
set_option linter.unusedSimpArgs false
set_option linter.unusedVariables false
set_option maxHeartbeats 4000000
open Go Go.Am Go.RowKit Go.ChangeShapes Go.WideShapes Go.ChangeAt
open Go.ChangeMaps (open_string shut_string)
set_option maxRecDepth 100000

/-- The bits of so many sites from one on. -/
def kbI (s n : Nat) : Nat → Int
  | 0 => 0
  | k + 1 => bits .or .i64 (kbI s n k) (IntKind.i64.wrap (1 * 2 ^ (Min.min ((s + k) % n) 64)))

abbrev noSt : St := ⟨0, 0⟩
abbrev noEn : En := ⟨⟨#[]⟩, ⟨#[]⟩, false, noSt, noSt, 0, 0⟩
def okEn (e : En) : En := if checkI e = 0 then e else noEn
abbrev delEn (key : ByteArray) (s : St) (keep : Int) : En := ⟨key, ⟨#[]⟩, true, s, s, keep, 0⟩
end Go.Proofs.Ytbblpmkdhdnkhaa
