/-
  No cell of these rows narrows 'for every input' (looked for: loops, veiled, ifaces, maps, wideKeys, modest, calm, conditions, laid).
  DERIVED. THE GIVEN ROWS OF THIS SEAT. 4 by the template 'for every input the law returns true; each argument reads behind the call as it read before'; 0 by the template 'total and deterministic' (their statements: YtopidfkmligljaaGreatTotals.lean).
  GIVEN WITH THE SEED: the statements are not yours to turn. If you find one false, say at which input.
  Laid BY PROGRAM, IN A SANDBOX (cutbox-rows.mjs): the forced cells as the released guide's own fill.sh prints them over the translation a08a12e746dde405… (all of the seat's roots in one cut). By AI agents, Wed Nov 11 2026. No macro, syntax, notation, axiom, sorry.
-/
import Derived.Test.YtopidfkmligljaaGreatChecked
import GoSem.Claim
import GoSem.ClaimJoined
import GoSem.ClaimMapViews
import Derived.JoinedTies
import Derived.KernelRfl
namespace Go.Proofs.YtopidfkmligljaaGreat
/- THE CELL 'sum', in the pinned program and in every row, IS THE sha256 OF THE DUMP (.gsa) THAT YtopidfkmligljaaGreatProg.lean LOADS. Nothing in Lean hashes anything: it is a label: what it is worth is what the hold of that sum in a sandbox is worth. -/
noncomputable def Tryz.pinned : Pinned := { name := "ytopidfkmligljaagreat", sum := "a08a12e746dde405c9ac4c37ec65577281e08bda39a0e2ba70699ab7d3c97a5b", checked := Tryz.checked }
namespace Rows
def none {H : Type} : Left H := { results := [], args := [] }

/-- 'quidnunclaw16.WireReads': WHATEVER THE INPUT: true; the input reads as it did. -/
def wireReadsSpec : ChangeSpec := { name := "wireReads", fn := fun _ => fun
  | [d1, d2] => { results := [.lit (.bool true)], args := [d1, d2] }
  | _ => none }
def wireReadsRow : OpenClaim := { program := "ytopidfkmligljaagreat", sum := "a08a12e746dde405c9ac4c37ec65577281e08bda39a0e2ba70699ab7d3c97a5b", func := "quidnunc/quidnunclaw16.WireReads", spec := "wireReads", unfollowed := true, recurses := true, apart := false }
def WireReadsSaid : Prop := wireReadsRow.holds Tryz.pinned (OpenSpec.ofChange wireReadsSpec)

/-- ITS FALSE NEIGHBOUR: 'it returns false'. Refute it at one input. -/
def wireReadsWrong : ChangeSpec := { name := "wireReads", fn := fun _ => fun
  | [d1, d2] => { results := [.lit (.bool false)], args := [d1, d2] }
  | _ => none }
def WireReadsWrongFalsely : Prop := wireReadsRow.holds Tryz.pinned (OpenSpec.ofChange wireReadsWrong)

/-- 'quidnunclaw16.WireKept': WHATEVER THE INPUT: true; the input reads as it did. -/
def wireKeptSpec : ChangeSpec := { name := "wireKept", fn := fun _ => fun
  | [d1, d2] => { results := [.lit (.bool true)], args := [d1, d2] }
  | _ => none }
def wireKeptRow : OpenClaim := { program := "ytopidfkmligljaagreat", sum := "a08a12e746dde405c9ac4c37ec65577281e08bda39a0e2ba70699ab7d3c97a5b", func := "quidnunc/quidnunclaw16.WireKept", spec := "wireKept", unfollowed := true, recurses := true, apart := false }
def WireKeptSaid : Prop := wireKeptRow.holds Tryz.pinned (OpenSpec.ofChange wireKeptSpec)

/-- ITS FALSE NEIGHBOUR: 'it returns false'. Refute it at one input. -/
def wireKeptWrong : ChangeSpec := { name := "wireKept", fn := fun _ => fun
  | [d1, d2] => { results := [.lit (.bool false)], args := [d1, d2] }
  | _ => none }
def WireKeptWrongFalsely : Prop := wireKeptRow.holds Tryz.pinned (OpenSpec.ofChange wireKeptWrong)

/-- 'quidnunclaw16.WireCuts': WHATEVER THE INPUT: true; the input reads as it did. -/
def wireCutsSpec : ChangeSpec := { name := "wireCuts", fn := fun _ => fun
  | [d1, d2, d3] => { results := [.lit (.bool true)], args := [d1, d2, d3] }
  | _ => none }
def wireCutsRow : OpenClaim := { program := "ytopidfkmligljaagreat", sum := "a08a12e746dde405c9ac4c37ec65577281e08bda39a0e2ba70699ab7d3c97a5b", func := "quidnunc/quidnunclaw16.WireCuts", spec := "wireCuts", unfollowed := true, recurses := true, apart := false }
def WireCutsSaid : Prop := wireCutsRow.holds Tryz.pinned (OpenSpec.ofChange wireCutsSpec)

/-- ITS FALSE NEIGHBOUR: 'it returns false'. Refute it at one input. -/
def wireCutsWrong : ChangeSpec := { name := "wireCuts", fn := fun _ => fun
  | [d1, d2, d3] => { results := [.lit (.bool false)], args := [d1, d2, d3] }
  | _ => none }
def WireCutsWrongFalsely : Prop := wireCutsRow.holds Tryz.pinned (OpenSpec.ofChange wireCutsWrong)

/-- 'quidnunclaw16.WireTells': WHATEVER THE INPUT: true; the input reads as it did. -/
def wireTellsSpec : ChangeSpec := { name := "wireTells", fn := fun _ => fun
  | [d1, d2] => { results := [.lit (.bool true)], args := [d1, d2] }
  | _ => none }
def wireTellsRow : OpenClaim := { program := "ytopidfkmligljaagreat", sum := "a08a12e746dde405c9ac4c37ec65577281e08bda39a0e2ba70699ab7d3c97a5b", func := "quidnunc/quidnunclaw16.WireTells", spec := "wireTells", unfollowed := true, recurses := true, apart := false }
def WireTellsSaid : Prop := wireTellsRow.holds Tryz.pinned (OpenSpec.ofChange wireTellsSpec)

/-- ITS FALSE NEIGHBOUR: 'it returns false'. Refute it at one input. -/
def wireTellsWrong : ChangeSpec := { name := "wireTells", fn := fun _ => fun
  | [d1, d2] => { results := [.lit (.bool false)], args := [d1, d2] }
  | _ => none }
def WireTellsWrongFalsely : Prop := wireTellsRow.holds Tryz.pinned (OpenSpec.ofChange wireTellsWrong)

/- THE SECOND FORM. 'bulk': how many values and letters a reading holds, each counted each time it is reached (what is shared counts as often as it is met; a slice's spare places count too). A statement '..UptoSaid' is the law's where the arguments, and the package variables that the reading takes, are together of bulk at most 1048576: NARROWER than '..Said'. Prove '..Said' where nothing that the law and all that it calls make is longer than what came in: it says more and counts as full. Else prove '..UptoSaid'. A law counts once. -/
mutual
def uptoBulk {H : Type} : DataW H → Nat
  | .lit (.string bytes) => bytes.length + 1
  | .lit _ => 1
  | .nil => 1
  | .ptr d => uptoBulk d + 1
  | .slice elems spare => uptoBulkAll elems + uptoBulkAll spare + 1
  | .agg parts => uptoBulkAll parts + 1
  | .iface _ d => uptoBulk d + 1
  | .map entries => uptoBulkEntries entries + 1
  | .held _ => 1
def uptoBulkAll {H : Type} : List (DataW H) → Nat
  | [] => 0
  | d :: r => uptoBulk d + uptoBulkAll r
def uptoBulkEntries {H : Type} : List (Lit × DataW H) → Nat
  | [] => 0
  | x :: r => uptoBulkEntry x + uptoBulkEntries r
def uptoBulkEntry {H : Type} : Lit × DataW H → Nat
  | (.string bytes, d) => bytes.length + uptoBulk d + 1
  | (_, d) => uptoBulk d + 1
 end
def uptoSmall : (H : Type) → List (DataW H) → Bool := fun _ ds => decide (uptoBulkAll ds ≤ 1048576)
def OpenSpec.upto (s : _root_.Go.ChangeSpec) : _root_.Go.OpenSpec := { _root_.Go.OpenSpec.ofChange s with cond := some uptoSmall }

/-- 'quidnunclaw16.WireReads', WHERE WHAT IT READS IS OF BULK AT MOST 1048576: true; the input reads as it did. -/
def wireReadsUptoRow : OpenClaim := { program := "ytopidfkmligljaagreat", sum := "a08a12e746dde405c9ac4c37ec65577281e08bda39a0e2ba70699ab7d3c97a5b", func := "quidnunc/quidnunclaw16.WireReads", spec := "wireReads", unfollowed := true, recurses := true, apart := false, narrowed := true }
def WireReadsUptoSaid : Prop := wireReadsUptoRow.holds Tryz.pinned (OpenSpec.upto wireReadsSpec)

/-- 'quidnunclaw16.WireKept', WHERE WHAT IT READS IS OF BULK AT MOST 1048576: true; the input reads as it did. -/
def wireKeptUptoRow : OpenClaim := { program := "ytopidfkmligljaagreat", sum := "a08a12e746dde405c9ac4c37ec65577281e08bda39a0e2ba70699ab7d3c97a5b", func := "quidnunc/quidnunclaw16.WireKept", spec := "wireKept", unfollowed := true, recurses := true, apart := false, narrowed := true }
def WireKeptUptoSaid : Prop := wireKeptUptoRow.holds Tryz.pinned (OpenSpec.upto wireKeptSpec)

/-- 'quidnunclaw16.WireCuts', WHERE WHAT IT READS IS OF BULK AT MOST 1048576: true; the input reads as it did. -/
def wireCutsUptoRow : OpenClaim := { program := "ytopidfkmligljaagreat", sum := "a08a12e746dde405c9ac4c37ec65577281e08bda39a0e2ba70699ab7d3c97a5b", func := "quidnunc/quidnunclaw16.WireCuts", spec := "wireCuts", unfollowed := true, recurses := true, apart := false, narrowed := true }
def WireCutsUptoSaid : Prop := wireCutsUptoRow.holds Tryz.pinned (OpenSpec.upto wireCutsSpec)

/-- 'quidnunclaw16.WireTells', WHERE WHAT IT READS IS OF BULK AT MOST 1048576: true; the input reads as it did. -/
def wireTellsUptoRow : OpenClaim := { program := "ytopidfkmligljaagreat", sum := "a08a12e746dde405c9ac4c37ec65577281e08bda39a0e2ba70699ab7d3c97a5b", func := "quidnunc/quidnunclaw16.WireTells", spec := "wireTells", unfollowed := true, recurses := true, apart := false, narrowed := true }
def WireTellsUptoSaid : Prop := wireTellsUptoRow.holds Tryz.pinned (OpenSpec.upto wireTellsSpec)

end Rows
end Go.Proofs.YtopidfkmligljaaGreat
