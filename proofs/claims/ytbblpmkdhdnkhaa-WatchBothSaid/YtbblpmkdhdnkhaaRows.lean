/-
  No cell of these rows narrows 'for every input' (looked for: loops, veiled, ifaces, maps, wideKeys, modest, calm, conditions, laid).
  DERIVED. THE GIVEN ROWS OF THIS SEAT. 5 by the template 'for every input the law returns true; each argument reads behind the call as it read before'; 0 by the template 'total and deterministic' (their statements: YtbblpmkdhdnkhaaTotals.lean).
  GIVEN WITH THE SEED: the statements are not yours to turn. If you find one false, say at which input.
  Laid BY PROGRAM, IN A SANDBOX (cutbox-rows.mjs): the forced cells as the released guide's own fill.sh prints them over the translation 4fe02de4575df7f9… (all of the seat's roots in one cut). By AI agents, Wed Nov 11 2026. No macro, syntax, notation, axiom, sorry.
-/
import Derived.Test.YtbblpmkdhdnkhaaChecked
import GoSem.Claim
import GoSem.ClaimJoined
import GoSem.ClaimMapViews
import Derived.JoinedTies
import Derived.KernelRfl
namespace Go.Proofs.Ytbblpmkdhdnkhaa
/- THE CELL 'sum', in the pinned program and in every row, IS THE sha256 OF THE DUMP (.gsa) THAT YtbblpmkdhdnkhaaProg.lean LOADS. Nothing in Lean hashes anything: it is a label: what it is worth is what the hold of that sum in a sandbox is worth. -/
noncomputable def Try.pinned : Pinned := { name := "ytbblpmkdhdnkhaa", sum := "4fe02de4575df7f917d192b326cbd3581e15dbe655eb685c77b26f326eb0a7d5", checked := Try.checked }
namespace Rows
def none {H : Type} : Left H := { results := [], args := [] }

/-- 'quidnunclaw26.WatchFinds': WHATEVER THE INPUT: true; the input reads as it did. -/
def watchFindsSpec : ChangeSpec := { name := "watchFinds", fn := fun _ => fun
  | [d1, d2, d3] => { results := [.lit (.bool true)], args := [d1, d2, d3] }
  | _ => none }
def watchFindsRow : OpenClaim := { program := "ytbblpmkdhdnkhaa", sum := "4fe02de4575df7f917d192b326cbd3581e15dbe655eb685c77b26f326eb0a7d5", func := "quidnunc/quidnunclaw26.WatchFinds", spec := "watchFinds", unfollowed := true, recurses := true, plainKeys := false, apart := false }
def WatchFindsSaid : Prop := watchFindsRow.holds Try.pinned (OpenSpec.ofChange watchFindsSpec)

/-- ITS FALSE NEIGHBOUR: 'it returns false'. Refute it at one input. -/
def watchFindsWrong : ChangeSpec := { name := "watchFinds", fn := fun _ => fun
  | [d1, d2, d3] => { results := [.lit (.bool false)], args := [d1, d2, d3] }
  | _ => none }
def WatchFindsWrongFalsely : Prop := watchFindsRow.holds Try.pinned (OpenSpec.ofChange watchFindsWrong)

/-- 'quidnunclaw26.WatchPlays': WHATEVER THE INPUT: true; the input reads as it did. -/
def watchPlaysSpec : ChangeSpec := { name := "watchPlays", fn := fun _ => fun
  | [d1, d2] => { results := [.lit (.bool true)], args := [d1, d2] }
  | _ => none }
def watchPlaysRow : OpenClaim := { program := "ytbblpmkdhdnkhaa", sum := "4fe02de4575df7f917d192b326cbd3581e15dbe655eb685c77b26f326eb0a7d5", func := "quidnunc/quidnunclaw26.WatchPlays", spec := "watchPlays", unfollowed := true, recurses := true, plainKeys := false, apart := false }
def WatchPlaysSaid : Prop := watchPlaysRow.holds Try.pinned (OpenSpec.ofChange watchPlaysSpec)

/-- ITS FALSE NEIGHBOUR: 'it returns false'. Refute it at one input. -/
def watchPlaysWrong : ChangeSpec := { name := "watchPlays", fn := fun _ => fun
  | [d1, d2] => { results := [.lit (.bool false)], args := [d1, d2] }
  | _ => none }
def WatchPlaysWrongFalsely : Prop := watchPlaysRow.holds Try.pinned (OpenSpec.ofChange watchPlaysWrong)

/-- 'quidnunclaw26.WatchOrders': WHATEVER THE INPUT: true; the input reads as it did. -/
def watchOrdersSpec : ChangeSpec := { name := "watchOrders", fn := fun _ => fun
  | [d1, d2] => { results := [.lit (.bool true)], args := [d1, d2] }
  | _ => none }
def watchOrdersRow : OpenClaim := { program := "ytbblpmkdhdnkhaa", sum := "4fe02de4575df7f917d192b326cbd3581e15dbe655eb685c77b26f326eb0a7d5", func := "quidnunc/quidnunclaw26.WatchOrders", spec := "watchOrders", unfollowed := true, recurses := true, plainKeys := false, apart := false }
def WatchOrdersSaid : Prop := watchOrdersRow.holds Try.pinned (OpenSpec.ofChange watchOrdersSpec)

/-- ITS FALSE NEIGHBOUR: 'it returns false'. Refute it at one input. -/
def watchOrdersWrong : ChangeSpec := { name := "watchOrders", fn := fun _ => fun
  | [d1, d2] => { results := [.lit (.bool false)], args := [d1, d2] }
  | _ => none }
def WatchOrdersWrongFalsely : Prop := watchOrdersRow.holds Try.pinned (OpenSpec.ofChange watchOrdersWrong)

/-- 'quidnunclaw26.WatchMaps': WHATEVER THE INPUT: true; the input reads as it did. -/
def watchMapsSpec : ChangeSpec := { name := "watchMaps", fn := fun _ => fun
  | [d1, d2] => { results := [.lit (.bool true)], args := [d1, d2] }
  | _ => none }
def watchMapsRow : OpenClaim := { program := "ytbblpmkdhdnkhaa", sum := "4fe02de4575df7f917d192b326cbd3581e15dbe655eb685c77b26f326eb0a7d5", func := "quidnunc/quidnunclaw26.WatchMaps", spec := "watchMaps", unfollowed := true, recurses := true, plainKeys := false, apart := false }
def WatchMapsSaid : Prop := watchMapsRow.holds Try.pinned (OpenSpec.ofChange watchMapsSpec)

/-- ITS FALSE NEIGHBOUR: 'it returns false'. Refute it at one input. -/
def watchMapsWrong : ChangeSpec := { name := "watchMaps", fn := fun _ => fun
  | [d1, d2] => { results := [.lit (.bool false)], args := [d1, d2] }
  | _ => none }
def WatchMapsWrongFalsely : Prop := watchMapsRow.holds Try.pinned (OpenSpec.ofChange watchMapsWrong)

/-- 'quidnunclaw26.WatchBoth': WHATEVER THE INPUT: true; the input reads as it did. -/
def watchBothSpec : ChangeSpec := { name := "watchBoth", fn := fun _ => fun
  | [d1, d2] => { results := [.lit (.bool true)], args := [d1, d2] }
  | _ => none }
def watchBothRow : OpenClaim := { program := "ytbblpmkdhdnkhaa", sum := "4fe02de4575df7f917d192b326cbd3581e15dbe655eb685c77b26f326eb0a7d5", func := "quidnunc/quidnunclaw26.WatchBoth", spec := "watchBoth", unfollowed := true, recurses := true, plainKeys := false, apart := false }
def WatchBothSaid : Prop := watchBothRow.holds Try.pinned (OpenSpec.ofChange watchBothSpec)

/-- ITS FALSE NEIGHBOUR: 'it returns false'. Refute it at one input. -/
def watchBothWrong : ChangeSpec := { name := "watchBoth", fn := fun _ => fun
  | [d1, d2] => { results := [.lit (.bool false)], args := [d1, d2] }
  | _ => none }
def WatchBothWrongFalsely : Prop := watchBothRow.holds Try.pinned (OpenSpec.ofChange watchBothWrong)

/- THE SECOND FORM. 'bulk': how many values and letters a reading holds, each counted each time it is reached (what is shared counts as often as it is met; a slice's spare places count too). A statement '..UptoSaid' is the law's where the arguments, and the package variables that the reading takes, are together of bulk at most 1048576: NARROWER than '..Said'. Prove '..Said' where nothing that the law and all that it calls make is longer than what came in: it says more and counts as full. Else prove '..UptoSaid'. A law counts once. -/
mutual
def uptoBulk {H : Type} : DataW H → Nat
  | .lit (.string bytes) => bytes.length + 1
  | .lit _ => 1
  | .nil => 1
  | .ptr d => uptoBulk d + 1
  | .slice elems spare => uptoBulkAll elems + uptoBulkAll spare + 1
  | .agg parts => uptoBulkAll parts + 1
  | .iface _ d => uptoBulk d + 1
  | .map entries => uptoBulkEntries entries + 1
  | .held _ => 1
def uptoBulkAll {H : Type} : List (DataW H) → Nat
  | [] => 0
  | d :: r => uptoBulk d + uptoBulkAll r
def uptoBulkEntries {H : Type} : List (Lit × DataW H) → Nat
  | [] => 0
  | x :: r => uptoBulkEntry x + uptoBulkEntries r
def uptoBulkEntry {H : Type} : Lit × DataW H → Nat
  | (.string bytes, d) => bytes.length + uptoBulk d + 1
  | (_, d) => uptoBulk d + 1
 end
def uptoSmall : (H : Type) → List (DataW H) → Bool := fun _ ds => decide (uptoBulkAll ds ≤ 1048576)
def OpenSpec.upto (s : _root_.Go.ChangeSpec) : _root_.Go.OpenSpec := { _root_.Go.OpenSpec.ofChange s with cond := some uptoSmall }

/-- 'quidnunclaw26.WatchFinds', WHERE WHAT IT READS IS OF BULK AT MOST 1048576: true; the input reads as it did. -/
def watchFindsUptoRow : OpenClaim := { program := "ytbblpmkdhdnkhaa", sum := "4fe02de4575df7f917d192b326cbd3581e15dbe655eb685c77b26f326eb0a7d5", func := "quidnunc/quidnunclaw26.WatchFinds", spec := "watchFinds", unfollowed := true, recurses := true, plainKeys := false, apart := false, narrowed := true }
def WatchFindsUptoSaid : Prop := watchFindsUptoRow.holds Try.pinned (OpenSpec.upto watchFindsSpec)

/-- 'quidnunclaw26.WatchPlays', WHERE WHAT IT READS IS OF BULK AT MOST 1048576: true; the input reads as it did. -/
def watchPlaysUptoRow : OpenClaim := { program := "ytbblpmkdhdnkhaa", sum := "4fe02de4575df7f917d192b326cbd3581e15dbe655eb685c77b26f326eb0a7d5", func := "quidnunc/quidnunclaw26.WatchPlays", spec := "watchPlays", unfollowed := true, recurses := true, plainKeys := false, apart := false, narrowed := true }
def WatchPlaysUptoSaid : Prop := watchPlaysUptoRow.holds Try.pinned (OpenSpec.upto watchPlaysSpec)

/-- 'quidnunclaw26.WatchOrders', WHERE WHAT IT READS IS OF BULK AT MOST 1048576: true; the input reads as it did. -/
def watchOrdersUptoRow : OpenClaim := { program := "ytbblpmkdhdnkhaa", sum := "4fe02de4575df7f917d192b326cbd3581e15dbe655eb685c77b26f326eb0a7d5", func := "quidnunc/quidnunclaw26.WatchOrders", spec := "watchOrders", unfollowed := true, recurses := true, plainKeys := false, apart := false, narrowed := true }
def WatchOrdersUptoSaid : Prop := watchOrdersUptoRow.holds Try.pinned (OpenSpec.upto watchOrdersSpec)

/-- 'quidnunclaw26.WatchMaps', WHERE WHAT IT READS IS OF BULK AT MOST 1048576: true; the input reads as it did. -/
def watchMapsUptoRow : OpenClaim := { program := "ytbblpmkdhdnkhaa", sum := "4fe02de4575df7f917d192b326cbd3581e15dbe655eb685c77b26f326eb0a7d5", func := "quidnunc/quidnunclaw26.WatchMaps", spec := "watchMaps", unfollowed := true, recurses := true, plainKeys := false, apart := false, narrowed := true }
def WatchMapsUptoSaid : Prop := watchMapsUptoRow.holds Try.pinned (OpenSpec.upto watchMapsSpec)

/-- 'quidnunclaw26.WatchBoth', WHERE WHAT IT READS IS OF BULK AT MOST 1048576: true; the input reads as it did. -/
def watchBothUptoRow : OpenClaim := { program := "ytbblpmkdhdnkhaa", sum := "4fe02de4575df7f917d192b326cbd3581e15dbe655eb685c77b26f326eb0a7d5", func := "quidnunc/quidnunclaw26.WatchBoth", spec := "watchBoth", unfollowed := true, recurses := true, plainKeys := false, apart := false, narrowed := true }
def WatchBothUptoSaid : Prop := watchBothUptoRow.holds Try.pinned (OpenSpec.upto watchBothSpec)

end Rows
end Go.Proofs.Ytbblpmkdhdnkhaa
