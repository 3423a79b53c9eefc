/-
  No cell of these rows narrows 'for every input' (looked for: loops, veiled, ifaces, maps, wideKeys, modest, calm, conditions, laid).
  DERIVED. THE GIVEN ROWS OF THIS SEAT. 4 by the template 'for every input the law returns true; each argument reads behind the call as it read before'; 0 by the template 'total and deterministic' (their statements: YtodnlihbmgigjaaTotals.lean).
  GIVEN WITH THE SEED: the statements are not yours to turn. If you find one false, say at which input.
  Laid BY PROGRAM, IN A SANDBOX (cutbox-rows.mjs): the forced cells as the released guide's own fill.sh prints them over the translation 3ddae8ab78a9c48d… (all of the seat's roots in one cut). By AI agents, Wed Nov 11 2026. No macro, syntax, notation, axiom, sorry.
-/
import Derived.Test.YtodnlihbmgigjaaChecked
import GoSem.Claim
import GoSem.ClaimJoined
import GoSem.ClaimMapViews
import Derived.JoinedTies
import Derived.KernelRfl
namespace Go.Proofs.Ytodnlihbmgigjaa
/- THE CELL 'sum', in the pinned program and in every row, IS THE sha256 OF THE DUMP (.gsa) THAT YtodnlihbmgigjaaProg.lean LOADS. Nothing in Lean hashes anything: it is a label: what it is worth is what the hold of that sum in a sandbox is worth. -/
noncomputable def Try.pinned : Pinned := { name := "ytodnlihbmgigjaa", sum := "3ddae8ab78a9c48de442340ad5af0749fc5f316a798ed150cd88883bae9aa68a", checked := Try.checked }
namespace Rows
def none {H : Type} : Left H := { results := [], args := [] }

/-- 'quidnunclaw08.TableOrders': WHATEVER THE INPUT: true; the input reads as it did. -/
def tableOrdersSpec : ChangeSpec := { name := "tableOrders", fn := fun _ => fun
  | [d1, d2] => { results := [.lit (.bool true)], args := [d1, d2] }
  | _ => none }
def tableOrdersRow : OpenClaim := { program := "ytodnlihbmgigjaa", sum := "3ddae8ab78a9c48de442340ad5af0749fc5f316a798ed150cd88883bae9aa68a", func := "quidnunc/quidnunclaw08.TableOrders", spec := "tableOrders", inPlace := ["slices.overlaps[quidnunc/table.Pair[int]]", "slices.overlaps[quidnunc/table.Pair[string]]"], unfollowed := true, recurses := true, apart := false }
def TableOrdersSaid : Prop := tableOrdersRow.holds Try.pinned (OpenSpec.ofChange tableOrdersSpec)

/-- ITS FALSE NEIGHBOUR: 'it returns false'. Refute it at one input. -/
def tableOrdersWrong : ChangeSpec := { name := "tableOrders", fn := fun _ => fun
  | [d1, d2] => { results := [.lit (.bool false)], args := [d1, d2] }
  | _ => none }
def TableOrdersWrongFalsely : Prop := tableOrdersRow.holds Try.pinned (OpenSpec.ofChange tableOrdersWrong)

/-- 'quidnunclaw08.TableParts': WHATEVER THE INPUT: true; the input reads as it did. -/
def tablePartsSpec : ChangeSpec := { name := "tableParts", fn := fun _ => fun
  | [d1, d2, d3] => { results := [.lit (.bool true)], args := [d1, d2, d3] }
  | _ => none }
def tablePartsRow : OpenClaim := { program := "ytodnlihbmgigjaa", sum := "3ddae8ab78a9c48de442340ad5af0749fc5f316a798ed150cd88883bae9aa68a", func := "quidnunc/quidnunclaw08.TableParts", spec := "tableParts", inPlace := ["slices.overlaps[quidnunc/table.Pair[int]]"], unfollowed := true, recurses := true, apart := false }
def TablePartsSaid : Prop := tablePartsRow.holds Try.pinned (OpenSpec.ofChange tablePartsSpec)

/-- ITS FALSE NEIGHBOUR: 'it returns false'. Refute it at one input. -/
def tablePartsWrong : ChangeSpec := { name := "tableParts", fn := fun _ => fun
  | [d1, d2, d3] => { results := [.lit (.bool false)], args := [d1, d2, d3] }
  | _ => none }
def TablePartsWrongFalsely : Prop := tablePartsRow.holds Try.pinned (OpenSpec.ofChange tablePartsWrong)

/-- 'quidnunclaw08.TablePlays': WHATEVER THE INPUT: true; the input reads as it did. -/
def tablePlaysSpec : ChangeSpec := { name := "tablePlays", fn := fun _ => fun
  | [d1, d2] => { results := [.lit (.bool true)], args := [d1, d2] }
  | _ => none }
def tablePlaysRow : OpenClaim := { program := "ytodnlihbmgigjaa", sum := "3ddae8ab78a9c48de442340ad5af0749fc5f316a798ed150cd88883bae9aa68a", func := "quidnunc/quidnunclaw08.TablePlays", spec := "tablePlays", inPlace := ["slices.overlaps[quidnunc/table.Pair[int]]"], unfollowed := true, recurses := true, apart := false }
def TablePlaysSaid : Prop := tablePlaysRow.holds Try.pinned (OpenSpec.ofChange tablePlaysSpec)

/-- ITS FALSE NEIGHBOUR: 'it returns false'. Refute it at one input. -/
def tablePlaysWrong : ChangeSpec := { name := "tablePlays", fn := fun _ => fun
  | [d1, d2] => { results := [.lit (.bool false)], args := [d1, d2] }
  | _ => none }
def TablePlaysWrongFalsely : Prop := tablePlaysRow.holds Try.pinned (OpenSpec.ofChange tablePlaysWrong)

/-- 'quidnunclaw08.TableCopies': WHATEVER THE INPUT: true; the input reads as it did. -/
def tableCopiesSpec : ChangeSpec := { name := "tableCopies", fn := fun _ => fun
  | [d1, d2] => { results := [.lit (.bool true)], args := [d1, d2] }
  | _ => none }
def tableCopiesRow : OpenClaim := { program := "ytodnlihbmgigjaa", sum := "3ddae8ab78a9c48de442340ad5af0749fc5f316a798ed150cd88883bae9aa68a", func := "quidnunc/quidnunclaw08.TableCopies", spec := "tableCopies", inPlace := ["slices.overlaps[quidnunc/table.Pair[int]]"], unfollowed := true, recurses := true, apart := false }
def TableCopiesSaid : Prop := tableCopiesRow.holds Try.pinned (OpenSpec.ofChange tableCopiesSpec)

/-- ITS FALSE NEIGHBOUR: 'it returns false'. Refute it at one input. -/
def tableCopiesWrong : ChangeSpec := { name := "tableCopies", fn := fun _ => fun
  | [d1, d2] => { results := [.lit (.bool false)], args := [d1, d2] }
  | _ => none }
def TableCopiesWrongFalsely : Prop := tableCopiesRow.holds Try.pinned (OpenSpec.ofChange tableCopiesWrong)

/- THE SECOND FORM. 'bulk': how many values and letters a reading holds, each counted each time it is reached (what is shared counts as often as it is met; a slice's spare places count too). A statement '..UptoSaid' is the law's where the arguments, and the package variables that the reading takes, are together of bulk at most 1048576: NARROWER than '..Said'. Prove '..Said' where nothing that the law and all that it calls make is longer than what came in: it says more and counts as full. Else prove '..UptoSaid'. A law counts once. -/
mutual
def uptoBulk {H : Type} : DataW H → Nat
  | .lit (.string bytes) => bytes.length + 1
  | .lit _ => 1
  | .nil => 1
  | .ptr d => uptoBulk d + 1
  | .slice elems spare => uptoBulkAll elems + uptoBulkAll spare + 1
  | .agg parts => uptoBulkAll parts + 1
  | .iface _ d => uptoBulk d + 1
  | .map entries => uptoBulkEntries entries + 1
  | .held _ => 1
def uptoBulkAll {H : Type} : List (DataW H) → Nat
  | [] => 0
  | d :: r => uptoBulk d + uptoBulkAll r
def uptoBulkEntries {H : Type} : List (Lit × DataW H) → Nat
  | [] => 0
  | x :: r => uptoBulkEntry x + uptoBulkEntries r
def uptoBulkEntry {H : Type} : Lit × DataW H → Nat
  | (.string bytes, d) => bytes.length + uptoBulk d + 1
  | (_, d) => uptoBulk d + 1
 end
def uptoSmall : (H : Type) → List (DataW H) → Bool := fun _ ds => decide (uptoBulkAll ds ≤ 1048576)
def OpenSpec.upto (s : _root_.Go.ChangeSpec) : _root_.Go.OpenSpec := { _root_.Go.OpenSpec.ofChange s with cond := some uptoSmall }

/-- 'quidnunclaw08.TableOrders', WHERE WHAT IT READS IS OF BULK AT MOST 1048576: true; the input reads as it did. -/
def tableOrdersUptoRow : OpenClaim := { program := "ytodnlihbmgigjaa", sum := "3ddae8ab78a9c48de442340ad5af0749fc5f316a798ed150cd88883bae9aa68a", func := "quidnunc/quidnunclaw08.TableOrders", spec := "tableOrders", inPlace := ["slices.overlaps[quidnunc/table.Pair[int]]", "slices.overlaps[quidnunc/table.Pair[string]]"], unfollowed := true, recurses := true, apart := false, narrowed := true }
def TableOrdersUptoSaid : Prop := tableOrdersUptoRow.holds Try.pinned (OpenSpec.upto tableOrdersSpec)

/-- 'quidnunclaw08.TableParts', WHERE WHAT IT READS IS OF BULK AT MOST 1048576: true; the input reads as it did. -/
def tablePartsUptoRow : OpenClaim := { program := "ytodnlihbmgigjaa", sum := "3ddae8ab78a9c48de442340ad5af0749fc5f316a798ed150cd88883bae9aa68a", func := "quidnunc/quidnunclaw08.TableParts", spec := "tableParts", inPlace := ["slices.overlaps[quidnunc/table.Pair[int]]"], unfollowed := true, recurses := true, apart := false, narrowed := true }
def TablePartsUptoSaid : Prop := tablePartsUptoRow.holds Try.pinned (OpenSpec.upto tablePartsSpec)

/-- 'quidnunclaw08.TablePlays', WHERE WHAT IT READS IS OF BULK AT MOST 1048576: true; the input reads as it did. -/
def tablePlaysUptoRow : OpenClaim := { program := "ytodnlihbmgigjaa", sum := "3ddae8ab78a9c48de442340ad5af0749fc5f316a798ed150cd88883bae9aa68a", func := "quidnunc/quidnunclaw08.TablePlays", spec := "tablePlays", inPlace := ["slices.overlaps[quidnunc/table.Pair[int]]"], unfollowed := true, recurses := true, apart := false, narrowed := true }
def TablePlaysUptoSaid : Prop := tablePlaysUptoRow.holds Try.pinned (OpenSpec.upto tablePlaysSpec)

/-- 'quidnunclaw08.TableCopies', WHERE WHAT IT READS IS OF BULK AT MOST 1048576: true; the input reads as it did. -/
def tableCopiesUptoRow : OpenClaim := { program := "ytodnlihbmgigjaa", sum := "3ddae8ab78a9c48de442340ad5af0749fc5f316a798ed150cd88883bae9aa68a", func := "quidnunc/quidnunclaw08.TableCopies", spec := "tableCopies", inPlace := ["slices.overlaps[quidnunc/table.Pair[int]]"], unfollowed := true, recurses := true, apart := false, narrowed := true }
def TableCopiesUptoSaid : Prop := tableCopiesUptoRow.holds Try.pinned (OpenSpec.upto tableCopiesSpec)

end Rows
end Go.Proofs.Ytodnlihbmgigjaa
