/-
  No cell of these rows narrows 'for every input' (looked for: loops, veiled, ifaces, maps, wideKeys, modest, calm, conditions, laid).
  DERIVED. THE GIVEN ROWS OF THIS SEAT. 12 by the template 'for every input the law returns true; each argument reads behind the call as it read before'; 0 by the template 'total and deterministic' (their statements: YtkdikmfnchmphaaTotals.lean).
  GIVEN WITH THE SEED: the statements are not yours to turn. If you find one false, say at which input.
  Laid BY PROGRAM, IN A SANDBOX (cutbox-rows.mjs): the forced cells as the released guide's own fill.sh prints them over the translation decd63b59a2ef910… (all of the seat's roots in one cut). By AI agents, Wed Nov 11 2026. No macro, syntax, notation, axiom, sorry.
-/
import Derived.Test.YtkdikmfnchmphaaChecked
import GoSem.Claim
import GoSem.ClaimJoined
import GoSem.ClaimMapViews
import Derived.JoinedTies
import Derived.KernelRfl
namespace Go.Proofs.Ytkdikmfnchmphaa
/- THE CELL 'sum', in the pinned program and in every row, IS THE sha256 OF THE DUMP (.gsa) THAT YtkdikmfnchmphaaProg.lean LOADS. Nothing in Lean hashes anything: it is a label: what it is worth is what the hold of that sum in a sandbox is worth. -/
noncomputable def Try.pinned : Pinned := { name := "ytkdikmfnchmphaa", sum := "decd63b59a2ef9105268c4c8c116b7d9e277d8c6fa2854f6fed68aa118dc750a", checked := Try.checked }
namespace Rows
def none {H : Type} : Left H := { results := [], args := [] }

/-- 'quidnunclaw18.SeenPlays': WHATEVER THE INPUT: true; the input reads as it did. -/
def seenPlaysSpec : ChangeSpec := { name := "seenPlays", fn := fun _ => fun
  | [d1, d2, d3] => { results := [.lit (.bool true)], args := [d1, d2, d3] }
  | _ => none }
def seenPlaysRow : OpenClaim := { program := "ytkdikmfnchmphaa", sum := "decd63b59a2ef9105268c4c8c116b7d9e277d8c6fa2854f6fed68aa118dc750a", func := "quidnunc/quidnunclaw18.SeenPlays", spec := "seenPlays", plainKeys := false, apart := false }
def SeenPlaysSaid : Prop := seenPlaysRow.holds Try.pinned (OpenSpec.ofChange seenPlaysSpec)

/-- ITS FALSE NEIGHBOUR: 'it returns false'. Refute it at one input. -/
def seenPlaysWrong : ChangeSpec := { name := "seenPlays", fn := fun _ => fun
  | [d1, d2, d3] => { results := [.lit (.bool false)], args := [d1, d2, d3] }
  | _ => none }
def SeenPlaysWrongFalsely : Prop := seenPlaysRow.holds Try.pinned (OpenSpec.ofChange seenPlaysWrong)

/-- 'quidnunclaw18.SeenLast': WHATEVER THE INPUT: true; the input reads as it did. -/
def seenLastSpec : ChangeSpec := { name := "seenLast", fn := fun _ => fun
  | [d1, d2] => { results := [.lit (.bool true)], args := [d1, d2] }
  | _ => none }
def seenLastRow : OpenClaim := { program := "ytkdikmfnchmphaa", sum := "decd63b59a2ef9105268c4c8c116b7d9e277d8c6fa2854f6fed68aa118dc750a", func := "quidnunc/quidnunclaw18.SeenLast", spec := "seenLast", plainKeys := false, apart := false }
def SeenLastSaid : Prop := seenLastRow.holds Try.pinned (OpenSpec.ofChange seenLastSpec)

/-- ITS FALSE NEIGHBOUR: 'it returns false'. Refute it at one input. -/
def seenLastWrong : ChangeSpec := { name := "seenLast", fn := fun _ => fun
  | [d1, d2] => { results := [.lit (.bool false)], args := [d1, d2] }
  | _ => none }
def SeenLastWrongFalsely : Prop := seenLastRow.holds Try.pinned (OpenSpec.ofChange seenLastWrong)

/-- 'quidnunclaw18.SeenAgain': WHATEVER THE INPUT: true; the input reads as it did. -/
def seenAgainSpec : ChangeSpec := { name := "seenAgain", fn := fun _ => fun
  | [d1, d2] => { results := [.lit (.bool true)], args := [d1, d2] }
  | _ => none }
def seenAgainRow : OpenClaim := { program := "ytkdikmfnchmphaa", sum := "decd63b59a2ef9105268c4c8c116b7d9e277d8c6fa2854f6fed68aa118dc750a", func := "quidnunc/quidnunclaw18.SeenAgain", spec := "seenAgain", plainKeys := false, apart := false }
def SeenAgainSaid : Prop := seenAgainRow.holds Try.pinned (OpenSpec.ofChange seenAgainSpec)

/-- ITS FALSE NEIGHBOUR: 'it returns false'. Refute it at one input. -/
def seenAgainWrong : ChangeSpec := { name := "seenAgain", fn := fun _ => fun
  | [d1, d2] => { results := [.lit (.bool false)], args := [d1, d2] }
  | _ => none }
def SeenAgainWrongFalsely : Prop := seenAgainRow.holds Try.pinned (OpenSpec.ofChange seenAgainWrong)

/-- 'quidnunclaw13.SetupGrows': WHATEVER THE INPUT: true; the input reads as it did. -/
def setupGrowsSpec : ChangeSpec := { name := "setupGrows", fn := fun _ => fun
  | [d] => { results := [.lit (.bool true)], args := [d] }
  | _ => none }
def setupGrowsRow : OpenClaim := { program := "ytkdikmfnchmphaa", sum := "decd63b59a2ef9105268c4c8c116b7d9e277d8c6fa2854f6fed68aa118dc750a", func := "quidnunc/quidnunclaw13.SetupGrows", spec := "setupGrows", plainKeys := false, apart := false }
def SetupGrowsSaid : Prop := setupGrowsRow.holds Try.pinned (OpenSpec.ofChange setupGrowsSpec)

/-- ITS FALSE NEIGHBOUR: 'it returns false'. Refute it at one input. -/
def setupGrowsWrong : ChangeSpec := { name := "setupGrows", fn := fun _ => fun
  | [d] => { results := [.lit (.bool false)], args := [d] }
  | _ => none }
def SetupGrowsWrongFalsely : Prop := setupGrowsRow.holds Try.pinned (OpenSpec.ofChange setupGrowsWrong)

/-- 'quidnunclaw13.SetupTurned': WHATEVER THE INPUT: true; the input reads as it did. -/
def setupTurnedSpec : ChangeSpec := { name := "setupTurned", fn := fun _ => fun
  | [d1, d2, d3] => { results := [.lit (.bool true)], args := [d1, d2, d3] }
  | _ => none }
def setupTurnedRow : OpenClaim := { program := "ytkdikmfnchmphaa", sum := "decd63b59a2ef9105268c4c8c116b7d9e277d8c6fa2854f6fed68aa118dc750a", func := "quidnunc/quidnunclaw13.SetupTurned", spec := "setupTurned", plainKeys := false, apart := false }
def SetupTurnedSaid : Prop := setupTurnedRow.holds Try.pinned (OpenSpec.ofChange setupTurnedSpec)

/-- ITS FALSE NEIGHBOUR: 'it returns false'. Refute it at one input. -/
def setupTurnedWrong : ChangeSpec := { name := "setupTurned", fn := fun _ => fun
  | [d1, d2, d3] => { results := [.lit (.bool false)], args := [d1, d2, d3] }
  | _ => none }
def SetupTurnedWrongFalsely : Prop := setupTurnedRow.holds Try.pinned (OpenSpec.ofChange setupTurnedWrong)

/-- 'quidnunclaw13.SetupChecks': WHATEVER THE INPUT: true; the input reads as it did. -/
def setupChecksSpec : ChangeSpec := { name := "setupChecks", fn := fun _ => fun
  | [d] => { results := [.lit (.bool true)], args := [d] }
  | _ => none }
def setupChecksRow : OpenClaim := { program := "ytkdikmfnchmphaa", sum := "decd63b59a2ef9105268c4c8c116b7d9e277d8c6fa2854f6fed68aa118dc750a", func := "quidnunc/quidnunclaw13.SetupChecks", spec := "setupChecks", plainKeys := false, apart := false }
def SetupChecksSaid : Prop := setupChecksRow.holds Try.pinned (OpenSpec.ofChange setupChecksSpec)

/-- ITS FALSE NEIGHBOUR: 'it returns false'. Refute it at one input. -/
def setupChecksWrong : ChangeSpec := { name := "setupChecks", fn := fun _ => fun
  | [d] => { results := [.lit (.bool false)], args := [d] }
  | _ => none }
def SetupChecksWrongFalsely : Prop := setupChecksRow.holds Try.pinned (OpenSpec.ofChange setupChecksWrong)

/-- 'quidnunclaw13.SetupReads': WHATEVER THE INPUT: true; the input reads as it did. -/
def setupReadsSpec : ChangeSpec := { name := "setupReads", fn := fun _ => fun
  | [d] => { results := [.lit (.bool true)], args := [d] }
  | _ => none }
def setupReadsRow : OpenClaim := { program := "ytkdikmfnchmphaa", sum := "decd63b59a2ef9105268c4c8c116b7d9e277d8c6fa2854f6fed68aa118dc750a", func := "quidnunc/quidnunclaw13.SetupReads", spec := "setupReads", plainKeys := false, apart := false }
def SetupReadsSaid : Prop := setupReadsRow.holds Try.pinned (OpenSpec.ofChange setupReadsSpec)

/-- ITS FALSE NEIGHBOUR: 'it returns false'. Refute it at one input. -/
def setupReadsWrong : ChangeSpec := { name := "setupReads", fn := fun _ => fun
  | [d] => { results := [.lit (.bool false)], args := [d] }
  | _ => none }
def SetupReadsWrongFalsely : Prop := setupReadsRow.holds Try.pinned (OpenSpec.ofChange setupReadsWrong)

/-- 'quidnunclaw09.SumsPlays': WHATEVER THE INPUT: true; the input reads as it did. -/
def sumsPlaysSpec : ChangeSpec := { name := "sumsPlays", fn := fun _ => fun
  | [d] => { results := [.lit (.bool true)], args := [d] }
  | _ => none }
def sumsPlaysRow : OpenClaim := { program := "ytkdikmfnchmphaa", sum := "decd63b59a2ef9105268c4c8c116b7d9e277d8c6fa2854f6fed68aa118dc750a", func := "quidnunc/quidnunclaw09.SumsPlays", spec := "sumsPlays", inPlace := ["sync/atomic.AddUint64", "sync/atomic.LoadUint64"], plainKeys := false, apart := false }
def SumsPlaysSaid : Prop := sumsPlaysRow.holds Try.pinned (OpenSpec.ofChange sumsPlaysSpec)

/-- ITS FALSE NEIGHBOUR: 'it returns false'. Refute it at one input. -/
def sumsPlaysWrong : ChangeSpec := { name := "sumsPlays", fn := fun _ => fun
  | [d] => { results := [.lit (.bool false)], args := [d] }
  | _ => none }
def SumsPlaysWrongFalsely : Prop := sumsPlaysRow.holds Try.pinned (OpenSpec.ofChange sumsPlaysWrong)

/-- 'quidnunclaw09.SumsHashes': WHATEVER THE INPUT: true; the input reads as it did. -/
def sumsHashesSpec : ChangeSpec := { name := "sumsHashes", fn := fun _ => fun
  | [d1, d2, d3] => { results := [.lit (.bool true)], args := [d1, d2, d3] }
  | _ => none }
def sumsHashesRow : OpenClaim := { program := "ytkdikmfnchmphaa", sum := "decd63b59a2ef9105268c4c8c116b7d9e277d8c6fa2854f6fed68aa118dc750a", func := "quidnunc/quidnunclaw09.SumsHashes", spec := "sumsHashes", inPlace := ["sync/atomic.AddUint64", "sync/atomic.LoadUint64"], plainKeys := false, apart := false }
def SumsHashesSaid : Prop := sumsHashesRow.holds Try.pinned (OpenSpec.ofChange sumsHashesSpec)

/-- ITS FALSE NEIGHBOUR: 'it returns false'. Refute it at one input. -/
def sumsHashesWrong : ChangeSpec := { name := "sumsHashes", fn := fun _ => fun
  | [d1, d2, d3] => { results := [.lit (.bool false)], args := [d1, d2, d3] }
  | _ => none }
def SumsHashesWrongFalsely : Prop := sumsHashesRow.holds Try.pinned (OpenSpec.ofChange sumsHashesWrong)

/-- 'quidnunclaw09.SumsOrders': WHATEVER THE INPUT: true; the input reads as it did. -/
def sumsOrdersSpec : ChangeSpec := { name := "sumsOrders", fn := fun _ => fun
  | [d1, d2, d3] => { results := [.lit (.bool true)], args := [d1, d2, d3] }
  | _ => none }
def sumsOrdersRow : OpenClaim := { program := "ytkdikmfnchmphaa", sum := "decd63b59a2ef9105268c4c8c116b7d9e277d8c6fa2854f6fed68aa118dc750a", func := "quidnunc/quidnunclaw09.SumsOrders", spec := "sumsOrders", inPlace := ["sync/atomic.AddUint64", "sync/atomic.LoadUint64"], plainKeys := false, apart := false }
def SumsOrdersSaid : Prop := sumsOrdersRow.holds Try.pinned (OpenSpec.ofChange sumsOrdersSpec)

/-- ITS FALSE NEIGHBOUR: 'it returns false'. Refute it at one input. -/
def sumsOrdersWrong : ChangeSpec := { name := "sumsOrders", fn := fun _ => fun
  | [d1, d2, d3] => { results := [.lit (.bool false)], args := [d1, d2, d3] }
  | _ => none }
def SumsOrdersWrongFalsely : Prop := sumsOrdersRow.holds Try.pinned (OpenSpec.ofChange sumsOrdersWrong)

/-- 'quidnunclaw09.SumsParts': WHATEVER THE INPUT: true; the input reads as it did. -/
def sumsPartsSpec : ChangeSpec := { name := "sumsParts", fn := fun _ => fun
  | [d1, d2] => { results := [.lit (.bool true)], args := [d1, d2] }
  | _ => none }
def sumsPartsRow : OpenClaim := { program := "ytkdikmfnchmphaa", sum := "decd63b59a2ef9105268c4c8c116b7d9e277d8c6fa2854f6fed68aa118dc750a", func := "quidnunc/quidnunclaw09.SumsParts", spec := "sumsParts", inPlace := ["sync/atomic.AddUint64", "sync/atomic.LoadUint64"], plainKeys := false, apart := false }
def SumsPartsSaid : Prop := sumsPartsRow.holds Try.pinned (OpenSpec.ofChange sumsPartsSpec)

/-- ITS FALSE NEIGHBOUR: 'it returns false'. Refute it at one input. -/
def sumsPartsWrong : ChangeSpec := { name := "sumsParts", fn := fun _ => fun
  | [d1, d2] => { results := [.lit (.bool false)], args := [d1, d2] }
  | _ => none }
def SumsPartsWrongFalsely : Prop := sumsPartsRow.holds Try.pinned (OpenSpec.ofChange sumsPartsWrong)

/-- 'quidnunclaw13.SetupTexts': WHATEVER THE INPUT: true; the input reads as it did. -/
def setupTextsSpec : ChangeSpec := { name := "setupTexts", fn := fun _ => fun
  | [d] => { results := [.lit (.bool true)], args := [d] }
  | _ => none }
def setupTextsRow : OpenClaim := { program := "ytkdikmfnchmphaa", sum := "decd63b59a2ef9105268c4c8c116b7d9e277d8c6fa2854f6fed68aa118dc750a", func := "quidnunc/quidnunclaw13.SetupTexts", spec := "setupTexts", plainKeys := false, apart := false }
def SetupTextsSaid : Prop := setupTextsRow.holds Try.pinned (OpenSpec.ofChange setupTextsSpec)

/-- ITS FALSE NEIGHBOUR: 'it returns false'. Refute it at one input. -/
def setupTextsWrong : ChangeSpec := { name := "setupTexts", fn := fun _ => fun
  | [d] => { results := [.lit (.bool false)], args := [d] }
  | _ => none }
def SetupTextsWrongFalsely : Prop := setupTextsRow.holds Try.pinned (OpenSpec.ofChange setupTextsWrong)

/- THE SECOND FORM. 'bulk': how many values and letters a reading holds, each counted each time it is reached (what is shared counts as often as it is met; a slice's spare places count too). A statement '..UptoSaid' is the law's where the arguments, and the package variables that the reading takes, are together of bulk at most 1048576: NARROWER than '..Said'. Prove '..Said' where nothing that the law and all that it calls make is longer than what came in: it says more and counts as full. Else prove '..UptoSaid'. A law counts once. -/
mutual
def uptoBulk {H : Type} : DataW H → Nat
  | .lit (.string bytes) => bytes.length + 1
  | .lit _ => 1
  | .nil => 1
  | .ptr d => uptoBulk d + 1
  | .slice elems spare => uptoBulkAll elems + uptoBulkAll spare + 1
  | .agg parts => uptoBulkAll parts + 1
  | .iface _ d => uptoBulk d + 1
  | .map entries => uptoBulkEntries entries + 1
  | .held _ => 1
def uptoBulkAll {H : Type} : List (DataW H) → Nat
  | [] => 0
  | d :: r => uptoBulk d + uptoBulkAll r
def uptoBulkEntries {H : Type} : List (Lit × DataW H) → Nat
  | [] => 0
  | x :: r => uptoBulkEntry x + uptoBulkEntries r
def uptoBulkEntry {H : Type} : Lit × DataW H → Nat
  | (.string bytes, d) => bytes.length + uptoBulk d + 1
  | (_, d) => uptoBulk d + 1
 end
def uptoSmall : (H : Type) → List (DataW H) → Bool := fun _ ds => decide (uptoBulkAll ds ≤ 1048576)
def OpenSpec.upto (s : _root_.Go.ChangeSpec) : _root_.Go.OpenSpec := { _root_.Go.OpenSpec.ofChange s with cond := some uptoSmall }

/-- 'quidnunclaw18.SeenPlays', WHERE WHAT IT READS IS OF BULK AT MOST 1048576: true; the input reads as it did. -/
def seenPlaysUptoRow : OpenClaim := { program := "ytkdikmfnchmphaa", sum := "decd63b59a2ef9105268c4c8c116b7d9e277d8c6fa2854f6fed68aa118dc750a", func := "quidnunc/quidnunclaw18.SeenPlays", spec := "seenPlays", plainKeys := false, apart := false, narrowed := true }
def SeenPlaysUptoSaid : Prop := seenPlaysUptoRow.holds Try.pinned (OpenSpec.upto seenPlaysSpec)

/-- 'quidnunclaw18.SeenLast', WHERE WHAT IT READS IS OF BULK AT MOST 1048576: true; the input reads as it did. -/
def seenLastUptoRow : OpenClaim := { program := "ytkdikmfnchmphaa", sum := "decd63b59a2ef9105268c4c8c116b7d9e277d8c6fa2854f6fed68aa118dc750a", func := "quidnunc/quidnunclaw18.SeenLast", spec := "seenLast", plainKeys := false, apart := false, narrowed := true }
def SeenLastUptoSaid : Prop := seenLastUptoRow.holds Try.pinned (OpenSpec.upto seenLastSpec)

/-- 'quidnunclaw18.SeenAgain', WHERE WHAT IT READS IS OF BULK AT MOST 1048576: true; the input reads as it did. -/
def seenAgainUptoRow : OpenClaim := { program := "ytkdikmfnchmphaa", sum := "decd63b59a2ef9105268c4c8c116b7d9e277d8c6fa2854f6fed68aa118dc750a", func := "quidnunc/quidnunclaw18.SeenAgain", spec := "seenAgain", plainKeys := false, apart := false, narrowed := true }
def SeenAgainUptoSaid : Prop := seenAgainUptoRow.holds Try.pinned (OpenSpec.upto seenAgainSpec)

/-- 'quidnunclaw13.SetupGrows', WHERE WHAT IT READS IS OF BULK AT MOST 1048576: true; the input reads as it did. -/
def setupGrowsUptoRow : OpenClaim := { program := "ytkdikmfnchmphaa", sum := "decd63b59a2ef9105268c4c8c116b7d9e277d8c6fa2854f6fed68aa118dc750a", func := "quidnunc/quidnunclaw13.SetupGrows", spec := "setupGrows", plainKeys := false, apart := false, narrowed := true }
def SetupGrowsUptoSaid : Prop := setupGrowsUptoRow.holds Try.pinned (OpenSpec.upto setupGrowsSpec)

/-- 'quidnunclaw13.SetupTurned', WHERE WHAT IT READS IS OF BULK AT MOST 1048576: true; the input reads as it did. -/
def setupTurnedUptoRow : OpenClaim := { program := "ytkdikmfnchmphaa", sum := "decd63b59a2ef9105268c4c8c116b7d9e277d8c6fa2854f6fed68aa118dc750a", func := "quidnunc/quidnunclaw13.SetupTurned", spec := "setupTurned", plainKeys := false, apart := false, narrowed := true }
def SetupTurnedUptoSaid : Prop := setupTurnedUptoRow.holds Try.pinned (OpenSpec.upto setupTurnedSpec)

/-- 'quidnunclaw13.SetupChecks', WHERE WHAT IT READS IS OF BULK AT MOST 1048576: true; the input reads as it did. -/
def setupChecksUptoRow : OpenClaim := { program := "ytkdikmfnchmphaa", sum := "decd63b59a2ef9105268c4c8c116b7d9e277d8c6fa2854f6fed68aa118dc750a", func := "quidnunc/quidnunclaw13.SetupChecks", spec := "setupChecks", plainKeys := false, apart := false, narrowed := true }
def SetupChecksUptoSaid : Prop := setupChecksUptoRow.holds Try.pinned (OpenSpec.upto setupChecksSpec)

/-- 'quidnunclaw13.SetupReads', WHERE WHAT IT READS IS OF BULK AT MOST 1048576: true; the input reads as it did. -/
def setupReadsUptoRow : OpenClaim := { program := "ytkdikmfnchmphaa", sum := "decd63b59a2ef9105268c4c8c116b7d9e277d8c6fa2854f6fed68aa118dc750a", func := "quidnunc/quidnunclaw13.SetupReads", spec := "setupReads", plainKeys := false, apart := false, narrowed := true }
def SetupReadsUptoSaid : Prop := setupReadsUptoRow.holds Try.pinned (OpenSpec.upto setupReadsSpec)

/-- 'quidnunclaw09.SumsPlays', WHERE WHAT IT READS IS OF BULK AT MOST 1048576: true; the input reads as it did. -/
def sumsPlaysUptoRow : OpenClaim := { program := "ytkdikmfnchmphaa", sum := "decd63b59a2ef9105268c4c8c116b7d9e277d8c6fa2854f6fed68aa118dc750a", func := "quidnunc/quidnunclaw09.SumsPlays", spec := "sumsPlays", inPlace := ["sync/atomic.AddUint64", "sync/atomic.LoadUint64"], plainKeys := false, apart := false, narrowed := true }
def SumsPlaysUptoSaid : Prop := sumsPlaysUptoRow.holds Try.pinned (OpenSpec.upto sumsPlaysSpec)

/-- 'quidnunclaw09.SumsHashes', WHERE WHAT IT READS IS OF BULK AT MOST 1048576: true; the input reads as it did. -/
def sumsHashesUptoRow : OpenClaim := { program := "ytkdikmfnchmphaa", sum := "decd63b59a2ef9105268c4c8c116b7d9e277d8c6fa2854f6fed68aa118dc750a", func := "quidnunc/quidnunclaw09.SumsHashes", spec := "sumsHashes", inPlace := ["sync/atomic.AddUint64", "sync/atomic.LoadUint64"], plainKeys := false, apart := false, narrowed := true }
def SumsHashesUptoSaid : Prop := sumsHashesUptoRow.holds Try.pinned (OpenSpec.upto sumsHashesSpec)

/-- 'quidnunclaw09.SumsOrders', WHERE WHAT IT READS IS OF BULK AT MOST 1048576: true; the input reads as it did. -/
def sumsOrdersUptoRow : OpenClaim := { program := "ytkdikmfnchmphaa", sum := "decd63b59a2ef9105268c4c8c116b7d9e277d8c6fa2854f6fed68aa118dc750a", func := "quidnunc/quidnunclaw09.SumsOrders", spec := "sumsOrders", inPlace := ["sync/atomic.AddUint64", "sync/atomic.LoadUint64"], plainKeys := false, apart := false, narrowed := true }
def SumsOrdersUptoSaid : Prop := sumsOrdersUptoRow.holds Try.pinned (OpenSpec.upto sumsOrdersSpec)

/-- 'quidnunclaw09.SumsParts', WHERE WHAT IT READS IS OF BULK AT MOST 1048576: true; the input reads as it did. -/
def sumsPartsUptoRow : OpenClaim := { program := "ytkdikmfnchmphaa", sum := "decd63b59a2ef9105268c4c8c116b7d9e277d8c6fa2854f6fed68aa118dc750a", func := "quidnunc/quidnunclaw09.SumsParts", spec := "sumsParts", inPlace := ["sync/atomic.AddUint64", "sync/atomic.LoadUint64"], plainKeys := false, apart := false, narrowed := true }
def SumsPartsUptoSaid : Prop := sumsPartsUptoRow.holds Try.pinned (OpenSpec.upto sumsPartsSpec)

/-- 'quidnunclaw13.SetupTexts', WHERE WHAT IT READS IS OF BULK AT MOST 1048576: true; the input reads as it did. -/
def setupTextsUptoRow : OpenClaim := { program := "ytkdikmfnchmphaa", sum := "decd63b59a2ef9105268c4c8c116b7d9e277d8c6fa2854f6fed68aa118dc750a", func := "quidnunc/quidnunclaw13.SetupTexts", spec := "setupTexts", plainKeys := false, apart := false, narrowed := true }
def SetupTextsUptoSaid : Prop := setupTextsUptoRow.holds Try.pinned (OpenSpec.upto setupTextsSpec)

end Rows
end Go.Proofs.Ytkdikmfnchmphaa
