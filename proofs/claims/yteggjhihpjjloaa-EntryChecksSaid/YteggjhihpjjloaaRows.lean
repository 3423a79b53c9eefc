/-
  No cell of these rows narrows 'for every input' (looked for: loops, veiled, ifaces, maps, wideKeys, modest, calm, conditions, laid).
  DERIVED. THE GIVEN ROWS OF THIS SEAT. 12 by the template 'for every input the law returns true; each argument reads behind the call as it read before'; 0 by the template 'total and deterministic' (their statements: YteggjhihpjjloaaTotals.lean).
  GIVEN WITH THE SEED: the statements are not yours to turn. If you find one false, say at which input.
  Laid BY PROGRAM, IN A SANDBOX (cutbox-rows.mjs): the forced cells as the released guide's own fill.sh prints them over the translation d4650c743e92f842… (all of the seat's roots in one cut). By AI agents, Wed Nov 11 2026. No macro, syntax, notation, axiom, sorry.
-/
import Derived.Test.YteggjhihpjjloaaChecked
import GoSem.Claim
import GoSem.ClaimJoined
import GoSem.ClaimMapViews
import Derived.JoinedTies
import Derived.KernelRfl
namespace Go.Proofs.Yteggjhihpjjloaa
/- THE CELL 'sum', in the pinned program and in every row, IS THE sha256 OF THE DUMP (.gsa) THAT YteggjhihpjjloaaProg.lean LOADS. Nothing in Lean hashes anything: it is a label: what it is worth is what the hold of that sum in a sandbox is worth. -/
noncomputable def Try.pinned : Pinned := { name := "yteggjhihpjjloaa", sum := "d4650c743e92f842b8253394a889c5ac6f202a16d081b7fa231c2cf233315eef", checked := Try.checked }
namespace Rows
def none {H : Type} : Left H := { results := [], args := [] }

/-- 'quidnunclaw13.SetupTurned': WHATEVER THE INPUT: true; the input reads as it did. -/
def setupTurnedSpec : ChangeSpec := { name := "setupTurned", fn := fun _ => fun
  | [d1, d2, d3] => { results := [.lit (.bool true)], args := [d1, d2, d3] }
  | _ => none }
def setupTurnedRow : OpenClaim := { program := "yteggjhihpjjloaa", sum := "d4650c743e92f842b8253394a889c5ac6f202a16d081b7fa231c2cf233315eef", func := "quidnunc/quidnunclaw13.SetupTurned", spec := "setupTurned", apart := false }
def SetupTurnedSaid : Prop := setupTurnedRow.holds Try.pinned (OpenSpec.ofChange setupTurnedSpec)

/-- ITS FALSE NEIGHBOUR: 'it returns false'. Refute it at one input. -/
def setupTurnedWrong : ChangeSpec := { name := "setupTurned", fn := fun _ => fun
  | [d1, d2, d3] => { results := [.lit (.bool false)], args := [d1, d2, d3] }
  | _ => none }
def SetupTurnedWrongFalsely : Prop := setupTurnedRow.holds Try.pinned (OpenSpec.ofChange setupTurnedWrong)

/-- 'quidnunclaw13.SetupChecks': WHATEVER THE INPUT: true; the input reads as it did. -/
def setupChecksSpec : ChangeSpec := { name := "setupChecks", fn := fun _ => fun
  | [d] => { results := [.lit (.bool true)], args := [d] }
  | _ => none }
def setupChecksRow : OpenClaim := { program := "yteggjhihpjjloaa", sum := "d4650c743e92f842b8253394a889c5ac6f202a16d081b7fa231c2cf233315eef", func := "quidnunc/quidnunclaw13.SetupChecks", spec := "setupChecks", apart := false }
def SetupChecksSaid : Prop := setupChecksRow.holds Try.pinned (OpenSpec.ofChange setupChecksSpec)

/-- ITS FALSE NEIGHBOUR: 'it returns false'. Refute it at one input. -/
def setupChecksWrong : ChangeSpec := { name := "setupChecks", fn := fun _ => fun
  | [d] => { results := [.lit (.bool false)], args := [d] }
  | _ => none }
def SetupChecksWrongFalsely : Prop := setupChecksRow.holds Try.pinned (OpenSpec.ofChange setupChecksWrong)

/-- 'quidnunclaw01.OctetsPuts': WHATEVER THE INPUT: true; the input reads as it did. -/
def octetsPutsSpec : ChangeSpec := { name := "octetsPuts", fn := fun _ => fun
  | [d] => { results := [.lit (.bool true)], args := [d] }
  | _ => none }
def octetsPutsRow : OpenClaim := { program := "yteggjhihpjjloaa", sum := "d4650c743e92f842b8253394a889c5ac6f202a16d081b7fa231c2cf233315eef", func := "quidnunc/quidnunclaw01.OctetsPuts", spec := "octetsPuts", apart := false }
def OctetsPutsSaid : Prop := octetsPutsRow.holds Try.pinned (OpenSpec.ofChange octetsPutsSpec)

/-- ITS FALSE NEIGHBOUR: 'it returns false'. Refute it at one input. -/
def octetsPutsWrong : ChangeSpec := { name := "octetsPuts", fn := fun _ => fun
  | [d] => { results := [.lit (.bool false)], args := [d] }
  | _ => none }
def OctetsPutsWrongFalsely : Prop := octetsPutsRow.holds Try.pinned (OpenSpec.ofChange octetsPutsWrong)

/-- 'quidnunclaw05.EntryWoken': WHATEVER THE INPUT: true; the input reads as it did. -/
def entryWokenSpec : ChangeSpec := { name := "entryWoken", fn := fun _ => fun
  | [d1, d2, d3] => { results := [.lit (.bool true)], args := [d1, d2, d3] }
  | _ => none }
def entryWokenRow : OpenClaim := { program := "yteggjhihpjjloaa", sum := "d4650c743e92f842b8253394a889c5ac6f202a16d081b7fa231c2cf233315eef", func := "quidnunc/quidnunclaw05.EntryWoken", spec := "entryWoken", apart := false }
def EntryWokenSaid : Prop := entryWokenRow.holds Try.pinned (OpenSpec.ofChange entryWokenSpec)

/-- ITS FALSE NEIGHBOUR: 'it returns false'. Refute it at one input. -/
def entryWokenWrong : ChangeSpec := { name := "entryWoken", fn := fun _ => fun
  | [d1, d2, d3] => { results := [.lit (.bool false)], args := [d1, d2, d3] }
  | _ => none }
def EntryWokenWrongFalsely : Prop := entryWokenRow.holds Try.pinned (OpenSpec.ofChange entryWokenWrong)

/-- 'quidnunclaw05.EntryMakes': WHATEVER THE INPUT: true; the input reads as it did. -/
def entryMakesSpec : ChangeSpec := { name := "entryMakes", fn := fun _ => fun
  | [d1, d2] => { results := [.lit (.bool true)], args := [d1, d2] }
  | _ => none }
def entryMakesRow : OpenClaim := { program := "yteggjhihpjjloaa", sum := "d4650c743e92f842b8253394a889c5ac6f202a16d081b7fa231c2cf233315eef", func := "quidnunc/quidnunclaw05.EntryMakes", spec := "entryMakes", apart := false }
def EntryMakesSaid : Prop := entryMakesRow.holds Try.pinned (OpenSpec.ofChange entryMakesSpec)

/-- ITS FALSE NEIGHBOUR: 'it returns false'. Refute it at one input. -/
def entryMakesWrong : ChangeSpec := { name := "entryMakes", fn := fun _ => fun
  | [d1, d2] => { results := [.lit (.bool false)], args := [d1, d2] }
  | _ => none }
def EntryMakesWrongFalsely : Prop := entryMakesRow.holds Try.pinned (OpenSpec.ofChange entryMakesWrong)

/-- 'quidnunclaw01.OctetsKept': WHATEVER THE INPUT: true; the input reads as it did. -/
def octetsKeptSpec : ChangeSpec := { name := "octetsKept", fn := fun _ => fun
  | [d1, d2] => { results := [.lit (.bool true)], args := [d1, d2] }
  | _ => none }
def octetsKeptRow : OpenClaim := { program := "yteggjhihpjjloaa", sum := "d4650c743e92f842b8253394a889c5ac6f202a16d081b7fa231c2cf233315eef", func := "quidnunc/quidnunclaw01.OctetsKept", spec := "octetsKept", apart := false }
def OctetsKeptSaid : Prop := octetsKeptRow.holds Try.pinned (OpenSpec.ofChange octetsKeptSpec)

/-- ITS FALSE NEIGHBOUR: 'it returns false'. Refute it at one input. -/
def octetsKeptWrong : ChangeSpec := { name := "octetsKept", fn := fun _ => fun
  | [d1, d2] => { results := [.lit (.bool false)], args := [d1, d2] }
  | _ => none }
def OctetsKeptWrongFalsely : Prop := octetsKeptRow.holds Try.pinned (OpenSpec.ofChange octetsKeptWrong)

/-- 'quidnunclaw13.SetupReads': WHATEVER THE INPUT: true; the input reads as it did. -/
def setupReadsSpec : ChangeSpec := { name := "setupReads", fn := fun _ => fun
  | [d] => { results := [.lit (.bool true)], args := [d] }
  | _ => none }
def setupReadsRow : OpenClaim := { program := "yteggjhihpjjloaa", sum := "d4650c743e92f842b8253394a889c5ac6f202a16d081b7fa231c2cf233315eef", func := "quidnunc/quidnunclaw13.SetupReads", spec := "setupReads", apart := false }
def SetupReadsSaid : Prop := setupReadsRow.holds Try.pinned (OpenSpec.ofChange setupReadsSpec)

/-- ITS FALSE NEIGHBOUR: 'it returns false'. Refute it at one input. -/
def setupReadsWrong : ChangeSpec := { name := "setupReads", fn := fun _ => fun
  | [d] => { results := [.lit (.bool false)], args := [d] }
  | _ => none }
def SetupReadsWrongFalsely : Prop := setupReadsRow.holds Try.pinned (OpenSpec.ofChange setupReadsWrong)

/-- 'quidnunclaw01.OctetsTakes': WHATEVER THE INPUT: true; the input reads as it did. -/
def octetsTakesSpec : ChangeSpec := { name := "octetsTakes", fn := fun _ => fun
  | [d1, d2] => { results := [.lit (.bool true)], args := [d1, d2] }
  | _ => none }
def octetsTakesRow : OpenClaim := { program := "yteggjhihpjjloaa", sum := "d4650c743e92f842b8253394a889c5ac6f202a16d081b7fa231c2cf233315eef", func := "quidnunc/quidnunclaw01.OctetsTakes", spec := "octetsTakes", apart := false }
def OctetsTakesSaid : Prop := octetsTakesRow.holds Try.pinned (OpenSpec.ofChange octetsTakesSpec)

/-- ITS FALSE NEIGHBOUR: 'it returns false'. Refute it at one input. -/
def octetsTakesWrong : ChangeSpec := { name := "octetsTakes", fn := fun _ => fun
  | [d1, d2] => { results := [.lit (.bool false)], args := [d1, d2] }
  | _ => none }
def OctetsTakesWrongFalsely : Prop := octetsTakesRow.holds Try.pinned (OpenSpec.ofChange octetsTakesWrong)

/-- 'quidnunclaw01.OctetsBack': WHATEVER THE INPUT: true; the input reads as it did. -/
def octetsBackSpec : ChangeSpec := { name := "octetsBack", fn := fun _ => fun
  | [d] => { results := [.lit (.bool true)], args := [d] }
  | _ => none }
def octetsBackRow : OpenClaim := { program := "yteggjhihpjjloaa", sum := "d4650c743e92f842b8253394a889c5ac6f202a16d081b7fa231c2cf233315eef", func := "quidnunc/quidnunclaw01.OctetsBack", spec := "octetsBack", apart := false }
def OctetsBackSaid : Prop := octetsBackRow.holds Try.pinned (OpenSpec.ofChange octetsBackSpec)

/-- ITS FALSE NEIGHBOUR: 'it returns false'. Refute it at one input. -/
def octetsBackWrong : ChangeSpec := { name := "octetsBack", fn := fun _ => fun
  | [d] => { results := [.lit (.bool false)], args := [d] }
  | _ => none }
def OctetsBackWrongFalsely : Prop := octetsBackRow.holds Try.pinned (OpenSpec.ofChange octetsBackWrong)

/-- 'quidnunclaw01.OctetsStops': WHATEVER THE INPUT: true; the input reads as it did. -/
def octetsStopsSpec : ChangeSpec := { name := "octetsStops", fn := fun _ => fun
  | [d1, d2, d3] => { results := [.lit (.bool true)], args := [d1, d2, d3] }
  | _ => none }
def octetsStopsRow : OpenClaim := { program := "yteggjhihpjjloaa", sum := "d4650c743e92f842b8253394a889c5ac6f202a16d081b7fa231c2cf233315eef", func := "quidnunc/quidnunclaw01.OctetsStops", spec := "octetsStops", apart := false }
def OctetsStopsSaid : Prop := octetsStopsRow.holds Try.pinned (OpenSpec.ofChange octetsStopsSpec)

/-- ITS FALSE NEIGHBOUR: 'it returns false'. Refute it at one input. -/
def octetsStopsWrong : ChangeSpec := { name := "octetsStops", fn := fun _ => fun
  | [d1, d2, d3] => { results := [.lit (.bool false)], args := [d1, d2, d3] }
  | _ => none }
def OctetsStopsWrongFalsely : Prop := octetsStopsRow.holds Try.pinned (OpenSpec.ofChange octetsStopsWrong)

/-- 'quidnunclaw05.EntryReads': WHATEVER THE INPUT: true; the input reads as it did. -/
def entryReadsSpec : ChangeSpec := { name := "entryReads", fn := fun _ => fun
  | [d] => { results := [.lit (.bool true)], args := [d] }
  | _ => none }
def entryReadsRow : OpenClaim := { program := "yteggjhihpjjloaa", sum := "d4650c743e92f842b8253394a889c5ac6f202a16d081b7fa231c2cf233315eef", func := "quidnunc/quidnunclaw05.EntryReads", spec := "entryReads", apart := false }
def EntryReadsSaid : Prop := entryReadsRow.holds Try.pinned (OpenSpec.ofChange entryReadsSpec)

/-- ITS FALSE NEIGHBOUR: 'it returns false'. Refute it at one input. -/
def entryReadsWrong : ChangeSpec := { name := "entryReads", fn := fun _ => fun
  | [d] => { results := [.lit (.bool false)], args := [d] }
  | _ => none }
def EntryReadsWrongFalsely : Prop := entryReadsRow.holds Try.pinned (OpenSpec.ofChange entryReadsWrong)

/-- 'quidnunclaw05.EntryChecks': WHATEVER THE INPUT: true; the input reads as it did. -/
def entryChecksSpec : ChangeSpec := { name := "entryChecks", fn := fun _ => fun
  | [d1, d2] => { results := [.lit (.bool true)], args := [d1, d2] }
  | _ => none }
def entryChecksRow : OpenClaim := { program := "yteggjhihpjjloaa", sum := "d4650c743e92f842b8253394a889c5ac6f202a16d081b7fa231c2cf233315eef", func := "quidnunc/quidnunclaw05.EntryChecks", spec := "entryChecks", apart := false }
def EntryChecksSaid : Prop := entryChecksRow.holds Try.pinned (OpenSpec.ofChange entryChecksSpec)

/-- ITS FALSE NEIGHBOUR: 'it returns false'. Refute it at one input. -/
def entryChecksWrong : ChangeSpec := { name := "entryChecks", fn := fun _ => fun
  | [d1, d2] => { results := [.lit (.bool false)], args := [d1, d2] }
  | _ => none }
def EntryChecksWrongFalsely : Prop := entryChecksRow.holds Try.pinned (OpenSpec.ofChange entryChecksWrong)

/- THE SECOND FORM. 'bulk': how many values and letters a reading holds, each counted each time it is reached (what is shared counts as often as it is met; a slice's spare places count too). A statement '..UptoSaid' is the law's where the arguments, and the package variables that the reading takes, are together of bulk at most 1048576: NARROWER than '..Said'. Prove '..Said' where nothing that the law and all that it calls make is longer than what came in: it says more and counts as full. Else prove '..UptoSaid'. A law counts once. -/
mutual
def uptoBulk {H : Type} : DataW H → Nat
  | .lit (.string bytes) => bytes.length + 1
  | .lit _ => 1
  | .nil => 1
  | .ptr d => uptoBulk d + 1
  | .slice elems spare => uptoBulkAll elems + uptoBulkAll spare + 1
  | .agg parts => uptoBulkAll parts + 1
  | .iface _ d => uptoBulk d + 1
  | .map entries => uptoBulkEntries entries + 1
  | .held _ => 1
def uptoBulkAll {H : Type} : List (DataW H) → Nat
  | [] => 0
  | d :: r => uptoBulk d + uptoBulkAll r
def uptoBulkEntries {H : Type} : List (Lit × DataW H) → Nat
  | [] => 0
  | x :: r => uptoBulkEntry x + uptoBulkEntries r
def uptoBulkEntry {H : Type} : Lit × DataW H → Nat
  | (.string bytes, d) => bytes.length + uptoBulk d + 1
  | (_, d) => uptoBulk d + 1
 end
def uptoSmall : (H : Type) → List (DataW H) → Bool := fun _ ds => decide (uptoBulkAll ds ≤ 1048576)
def OpenSpec.upto (s : _root_.Go.ChangeSpec) : _root_.Go.OpenSpec := { _root_.Go.OpenSpec.ofChange s with cond := some uptoSmall }

/-- 'quidnunclaw13.SetupTurned', WHERE WHAT IT READS IS OF BULK AT MOST 1048576: true; the input reads as it did. -/
def setupTurnedUptoRow : OpenClaim := { program := "yteggjhihpjjloaa", sum := "d4650c743e92f842b8253394a889c5ac6f202a16d081b7fa231c2cf233315eef", func := "quidnunc/quidnunclaw13.SetupTurned", spec := "setupTurned", apart := false, narrowed := true }
def SetupTurnedUptoSaid : Prop := setupTurnedUptoRow.holds Try.pinned (OpenSpec.upto setupTurnedSpec)

/-- 'quidnunclaw13.SetupChecks', WHERE WHAT IT READS IS OF BULK AT MOST 1048576: true; the input reads as it did. -/
def setupChecksUptoRow : OpenClaim := { program := "yteggjhihpjjloaa", sum := "d4650c743e92f842b8253394a889c5ac6f202a16d081b7fa231c2cf233315eef", func := "quidnunc/quidnunclaw13.SetupChecks", spec := "setupChecks", apart := false, narrowed := true }
def SetupChecksUptoSaid : Prop := setupChecksUptoRow.holds Try.pinned (OpenSpec.upto setupChecksSpec)

/-- 'quidnunclaw01.OctetsPuts', WHERE WHAT IT READS IS OF BULK AT MOST 1048576: true; the input reads as it did. -/
def octetsPutsUptoRow : OpenClaim := { program := "yteggjhihpjjloaa", sum := "d4650c743e92f842b8253394a889c5ac6f202a16d081b7fa231c2cf233315eef", func := "quidnunc/quidnunclaw01.OctetsPuts", spec := "octetsPuts", apart := false, narrowed := true }
def OctetsPutsUptoSaid : Prop := octetsPutsUptoRow.holds Try.pinned (OpenSpec.upto octetsPutsSpec)

/-- 'quidnunclaw05.EntryWoken', WHERE WHAT IT READS IS OF BULK AT MOST 1048576: true; the input reads as it did. -/
def entryWokenUptoRow : OpenClaim := { program := "yteggjhihpjjloaa", sum := "d4650c743e92f842b8253394a889c5ac6f202a16d081b7fa231c2cf233315eef", func := "quidnunc/quidnunclaw05.EntryWoken", spec := "entryWoken", apart := false, narrowed := true }
def EntryWokenUptoSaid : Prop := entryWokenUptoRow.holds Try.pinned (OpenSpec.upto entryWokenSpec)

/-- 'quidnunclaw05.EntryMakes', WHERE WHAT IT READS IS OF BULK AT MOST 1048576: true; the input reads as it did. -/
def entryMakesUptoRow : OpenClaim := { program := "yteggjhihpjjloaa", sum := "d4650c743e92f842b8253394a889c5ac6f202a16d081b7fa231c2cf233315eef", func := "quidnunc/quidnunclaw05.EntryMakes", spec := "entryMakes", apart := false, narrowed := true }
def EntryMakesUptoSaid : Prop := entryMakesUptoRow.holds Try.pinned (OpenSpec.upto entryMakesSpec)

/-- 'quidnunclaw01.OctetsKept', WHERE WHAT IT READS IS OF BULK AT MOST 1048576: true; the input reads as it did. -/
def octetsKeptUptoRow : OpenClaim := { program := "yteggjhihpjjloaa", sum := "d4650c743e92f842b8253394a889c5ac6f202a16d081b7fa231c2cf233315eef", func := "quidnunc/quidnunclaw01.OctetsKept", spec := "octetsKept", apart := false, narrowed := true }
def OctetsKeptUptoSaid : Prop := octetsKeptUptoRow.holds Try.pinned (OpenSpec.upto octetsKeptSpec)

/-- 'quidnunclaw13.SetupReads', WHERE WHAT IT READS IS OF BULK AT MOST 1048576: true; the input reads as it did. -/
def setupReadsUptoRow : OpenClaim := { program := "yteggjhihpjjloaa", sum := "d4650c743e92f842b8253394a889c5ac6f202a16d081b7fa231c2cf233315eef", func := "quidnunc/quidnunclaw13.SetupReads", spec := "setupReads", apart := false, narrowed := true }
def SetupReadsUptoSaid : Prop := setupReadsUptoRow.holds Try.pinned (OpenSpec.upto setupReadsSpec)

/-- 'quidnunclaw01.OctetsTakes', WHERE WHAT IT READS IS OF BULK AT MOST 1048576: true; the input reads as it did. -/
def octetsTakesUptoRow : OpenClaim := { program := "yteggjhihpjjloaa", sum := "d4650c743e92f842b8253394a889c5ac6f202a16d081b7fa231c2cf233315eef", func := "quidnunc/quidnunclaw01.OctetsTakes", spec := "octetsTakes", apart := false, narrowed := true }
def OctetsTakesUptoSaid : Prop := octetsTakesUptoRow.holds Try.pinned (OpenSpec.upto octetsTakesSpec)

/-- 'quidnunclaw01.OctetsBack', WHERE WHAT IT READS IS OF BULK AT MOST 1048576: true; the input reads as it did. -/
def octetsBackUptoRow : OpenClaim := { program := "yteggjhihpjjloaa", sum := "d4650c743e92f842b8253394a889c5ac6f202a16d081b7fa231c2cf233315eef", func := "quidnunc/quidnunclaw01.OctetsBack", spec := "octetsBack", apart := false, narrowed := true }
def OctetsBackUptoSaid : Prop := octetsBackUptoRow.holds Try.pinned (OpenSpec.upto octetsBackSpec)

/-- 'quidnunclaw01.OctetsStops', WHERE WHAT IT READS IS OF BULK AT MOST 1048576: true; the input reads as it did. -/
def octetsStopsUptoRow : OpenClaim := { program := "yteggjhihpjjloaa", sum := "d4650c743e92f842b8253394a889c5ac6f202a16d081b7fa231c2cf233315eef", func := "quidnunc/quidnunclaw01.OctetsStops", spec := "octetsStops", apart := false, narrowed := true }
def OctetsStopsUptoSaid : Prop := octetsStopsUptoRow.holds Try.pinned (OpenSpec.upto octetsStopsSpec)

/-- 'quidnunclaw05.EntryReads', WHERE WHAT IT READS IS OF BULK AT MOST 1048576: true; the input reads as it did. -/
def entryReadsUptoRow : OpenClaim := { program := "yteggjhihpjjloaa", sum := "d4650c743e92f842b8253394a889c5ac6f202a16d081b7fa231c2cf233315eef", func := "quidnunc/quidnunclaw05.EntryReads", spec := "entryReads", apart := false, narrowed := true }
def EntryReadsUptoSaid : Prop := entryReadsUptoRow.holds Try.pinned (OpenSpec.upto entryReadsSpec)

/-- 'quidnunclaw05.EntryChecks', WHERE WHAT IT READS IS OF BULK AT MOST 1048576: true; the input reads as it did. -/
def entryChecksUptoRow : OpenClaim := { program := "yteggjhihpjjloaa", sum := "d4650c743e92f842b8253394a889c5ac6f202a16d081b7fa231c2cf233315eef", func := "quidnunc/quidnunclaw05.EntryChecks", spec := "entryChecks", apart := false, narrowed := true }
def EntryChecksUptoSaid : Prop := entryChecksUptoRow.holds Try.pinned (OpenSpec.upto entryChecksSpec)

end Rows
end Go.Proofs.Yteggjhihpjjloaa
