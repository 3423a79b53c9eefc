/- Made by wip/gen_ts.py: the same contracts for Table[string]. -/
import Derived.Test.YtodnlihbmgigjaaBu2
namespace Go.Proofs.Ytodnlihbmgigjaa.Us
set_option linter.unusedSimpArgs false
set_option linter.unusedVariables false
set_option maxHeartbeats 4000000
open Go Go.Am Go.RowKit
set_option maxRecDepth 100000
end Go.Proofs.Ytodnlihbmgigjaa.Us
