/-
  No cell of these rows narrows 'for every input' (looked for: loops, veiled, ifaces, maps, wideKeys, modest, calm, conditions, laid).
  DERIVED. THE GIVEN ROWS OF THIS SEAT. 8 by the template 'for every input the law returns true; each argument reads behind the call as it read before'; 0 by the template 'total and deterministic' (their statements: YtgjimlgofakbpaaTotals.lean).
  GIVEN WITH THE SEED: the statements are not yours to turn. If you find one false, say at which input.
  Laid BY PROGRAM, IN A SANDBOX (cutbox-rows.mjs): the forced cells as the released guide's own fill.sh prints them over the translation e01702d6a7d2e104… (all of the seat's roots in one cut). By AI agents, Wed Nov 11 2026. No macro, syntax, notation, axiom, sorry.
-/
import Derived.Test.YtgjimlgofakbpaaChecked
import GoSem.Claim
import GoSem.ClaimJoined
import GoSem.ClaimMapViews
import Derived.JoinedTies
import Derived.KernelRfl
namespace Go.Proofs.Ytgjimlgofakbpaa
/- THE CELL 'sum', in the pinned program and in every row, IS THE sha256 OF THE DUMP (.gsa) THAT YtgjimlgofakbpaaProg.lean LOADS. Nothing in Lean hashes anything: it is a label: what it is worth is what the hold of that sum in a sandbox is worth. -/
noncomputable def Try.pinned : Pinned := { name := "ytgjimlgofakbpaa", sum := "e01702d6a7d2e104a53ec08d4af76b07653979ff11ef5ae4f275573d7e0b4db9", checked := Try.checked }
namespace Rows
def none {H : Type} : Left H := { results := [], args := [] }

/-- 'quidnunclaw10.RecentOrders': WHATEVER THE INPUT: true; the input reads as it did. -/
def recentOrdersSpec : ChangeSpec := { name := "recentOrders", fn := fun _ => fun
  | [d1, d2, d3] => { results := [.lit (.bool true)], args := [d1, d2, d3] }
  | _ => none }
def recentOrdersRow : OpenClaim := { program := "ytgjimlgofakbpaa", sum := "e01702d6a7d2e104a53ec08d4af76b07653979ff11ef5ae4f275573d7e0b4db9", func := "quidnunc/quidnunclaw10.RecentOrders", spec := "recentOrders", inPlace := ["slices.overlaps[quidnunc/api.Mark]"], unfollowed := true, recurses := true, apart := false }
def RecentOrdersSaid : Prop := recentOrdersRow.holds Try.pinned (OpenSpec.ofChange recentOrdersSpec)

/-- ITS FALSE NEIGHBOUR: 'it returns false'. Refute it at one input. -/
def recentOrdersWrong : ChangeSpec := { name := "recentOrders", fn := fun _ => fun
  | [d1, d2, d3] => { results := [.lit (.bool false)], args := [d1, d2, d3] }
  | _ => none }
def RecentOrdersWrongFalsely : Prop := recentOrdersRow.holds Try.pinned (OpenSpec.ofChange recentOrdersWrong)

/-- 'quidnunclaw10.RecentPlays': WHATEVER THE INPUT: true; the input reads as it did. -/
def recentPlaysSpec : ChangeSpec := { name := "recentPlays", fn := fun _ => fun
  | [d] => { results := [.lit (.bool true)], args := [d] }
  | _ => none }
def recentPlaysRow : OpenClaim := { program := "ytgjimlgofakbpaa", sum := "e01702d6a7d2e104a53ec08d4af76b07653979ff11ef5ae4f275573d7e0b4db9", func := "quidnunc/quidnunclaw10.RecentPlays", spec := "recentPlays", inPlace := ["slices.overlaps[quidnunc/api.Mark]"], unfollowed := true, recurses := true, apart := false }
def RecentPlaysSaid : Prop := recentPlaysRow.holds Try.pinned (OpenSpec.ofChange recentPlaysSpec)

/-- ITS FALSE NEIGHBOUR: 'it returns false'. Refute it at one input. -/
def recentPlaysWrong : ChangeSpec := { name := "recentPlays", fn := fun _ => fun
  | [d] => { results := [.lit (.bool false)], args := [d] }
  | _ => none }
def RecentPlaysWrongFalsely : Prop := recentPlaysRow.holds Try.pinned (OpenSpec.ofChange recentPlaysWrong)

/-- 'quidnunclaw10.RecentGoes': WHATEVER THE INPUT: true; the input reads as it did. -/
def recentGoesSpec : ChangeSpec := { name := "recentGoes", fn := fun _ => fun
  | [d1, d2] => { results := [.lit (.bool true)], args := [d1, d2] }
  | _ => none }
def recentGoesRow : OpenClaim := { program := "ytgjimlgofakbpaa", sum := "e01702d6a7d2e104a53ec08d4af76b07653979ff11ef5ae4f275573d7e0b4db9", func := "quidnunc/quidnunclaw10.RecentGoes", spec := "recentGoes", inPlace := ["slices.overlaps[quidnunc/api.Mark]"], unfollowed := true, recurses := true, apart := false }
def RecentGoesSaid : Prop := recentGoesRow.holds Try.pinned (OpenSpec.ofChange recentGoesSpec)

/-- ITS FALSE NEIGHBOUR: 'it returns false'. Refute it at one input. -/
def recentGoesWrong : ChangeSpec := { name := "recentGoes", fn := fun _ => fun
  | [d1, d2] => { results := [.lit (.bool false)], args := [d1, d2] }
  | _ => none }
def RecentGoesWrongFalsely : Prop := recentGoesRow.holds Try.pinned (OpenSpec.ofChange recentGoesWrong)

/-- 'quidnunclaw10.RecentLast': WHATEVER THE INPUT: true; the input reads as it did. -/
def recentLastSpec : ChangeSpec := { name := "recentLast", fn := fun _ => fun
  | [d] => { results := [.lit (.bool true)], args := [d] }
  | _ => none }
def recentLastRow : OpenClaim := { program := "ytgjimlgofakbpaa", sum := "e01702d6a7d2e104a53ec08d4af76b07653979ff11ef5ae4f275573d7e0b4db9", func := "quidnunc/quidnunclaw10.RecentLast", spec := "recentLast", inPlace := ["slices.overlaps[quidnunc/api.Mark]"], unfollowed := true, recurses := true, apart := false }
def RecentLastSaid : Prop := recentLastRow.holds Try.pinned (OpenSpec.ofChange recentLastSpec)

/-- ITS FALSE NEIGHBOUR: 'it returns false'. Refute it at one input. -/
def recentLastWrong : ChangeSpec := { name := "recentLast", fn := fun _ => fun
  | [d] => { results := [.lit (.bool false)], args := [d] }
  | _ => none }
def RecentLastWrongFalsely : Prop := recentLastRow.holds Try.pinned (OpenSpec.ofChange recentLastWrong)

/-- 'quidnunclaw11.GravesRise': WHATEVER THE INPUT: true; the input reads as it did. -/
def gravesRiseSpec : ChangeSpec := { name := "gravesRise", fn := fun _ => fun
  | [d1, d2, d3, d4] => { results := [.lit (.bool true)], args := [d1, d2, d3, d4] }
  | _ => none }
def gravesRiseRow : OpenClaim := { program := "ytgjimlgofakbpaa", sum := "e01702d6a7d2e104a53ec08d4af76b07653979ff11ef5ae4f275573d7e0b4db9", func := "quidnunc/quidnunclaw11.GravesRise", spec := "gravesRise", inPlace := ["slices.overlaps[quidnunc/table.Pair[quidnunc/api.Entry]]"], unfollowed := true, recurses := true, apart := false }
def GravesRiseSaid : Prop := gravesRiseRow.holds Try.pinned (OpenSpec.ofChange gravesRiseSpec)

/-- ITS FALSE NEIGHBOUR: 'it returns false'. Refute it at one input. -/
def gravesRiseWrong : ChangeSpec := { name := "gravesRise", fn := fun _ => fun
  | [d1, d2, d3, d4] => { results := [.lit (.bool false)], args := [d1, d2, d3, d4] }
  | _ => none }
def GravesRiseWrongFalsely : Prop := gravesRiseRow.holds Try.pinned (OpenSpec.ofChange gravesRiseWrong)

/-- 'quidnunclaw11.GravesOff': WHATEVER THE INPUT: true; the input reads as it did. -/
def gravesOffSpec : ChangeSpec := { name := "gravesOff", fn := fun _ => fun
  | [d1, d2] => { results := [.lit (.bool true)], args := [d1, d2] }
  | _ => none }
def gravesOffRow : OpenClaim := { program := "ytgjimlgofakbpaa", sum := "e01702d6a7d2e104a53ec08d4af76b07653979ff11ef5ae4f275573d7e0b4db9", func := "quidnunc/quidnunclaw11.GravesOff", spec := "gravesOff", inPlace := ["slices.overlaps[quidnunc/table.Pair[quidnunc/api.Entry]]"], unfollowed := true, recurses := true, apart := false }
def GravesOffSaid : Prop := gravesOffRow.holds Try.pinned (OpenSpec.ofChange gravesOffSpec)

/-- ITS FALSE NEIGHBOUR: 'it returns false'. Refute it at one input. -/
def gravesOffWrong : ChangeSpec := { name := "gravesOff", fn := fun _ => fun
  | [d1, d2] => { results := [.lit (.bool false)], args := [d1, d2] }
  | _ => none }
def GravesOffWrongFalsely : Prop := gravesOffRow.holds Try.pinned (OpenSpec.ofChange gravesOffWrong)

/-- 'quidnunclaw11.GravesAny': WHATEVER THE INPUT: true; the input reads as it did. -/
def gravesAnySpec : ChangeSpec := { name := "gravesAny", fn := fun _ => fun
  | [d1, d2] => { results := [.lit (.bool true)], args := [d1, d2] }
  | _ => none }
def gravesAnyRow : OpenClaim := { program := "ytgjimlgofakbpaa", sum := "e01702d6a7d2e104a53ec08d4af76b07653979ff11ef5ae4f275573d7e0b4db9", func := "quidnunc/quidnunclaw11.GravesAny", spec := "gravesAny", inPlace := ["slices.overlaps[quidnunc/table.Pair[quidnunc/api.Entry]]"], unfollowed := true, recurses := true, apart := false }
def GravesAnySaid : Prop := gravesAnyRow.holds Try.pinned (OpenSpec.ofChange gravesAnySpec)

/-- ITS FALSE NEIGHBOUR: 'it returns false'. Refute it at one input. -/
def gravesAnyWrong : ChangeSpec := { name := "gravesAny", fn := fun _ => fun
  | [d1, d2] => { results := [.lit (.bool false)], args := [d1, d2] }
  | _ => none }
def GravesAnyWrongFalsely : Prop := gravesAnyRow.holds Try.pinned (OpenSpec.ofChange gravesAnyWrong)

/-- 'quidnunclaw11.GravesPlays': WHATEVER THE INPUT: true; the input reads as it did. -/
def gravesPlaysSpec : ChangeSpec := { name := "gravesPlays", fn := fun _ => fun
  | [d1, d2, d3, d4] => { results := [.lit (.bool true)], args := [d1, d2, d3, d4] }
  | _ => none }
def gravesPlaysRow : OpenClaim := { program := "ytgjimlgofakbpaa", sum := "e01702d6a7d2e104a53ec08d4af76b07653979ff11ef5ae4f275573d7e0b4db9", func := "quidnunc/quidnunclaw11.GravesPlays", spec := "gravesPlays", inPlace := ["slices.overlaps[quidnunc/table.Pair[quidnunc/api.Entry]]"], unfollowed := true, recurses := true, apart := false }
def GravesPlaysSaid : Prop := gravesPlaysRow.holds Try.pinned (OpenSpec.ofChange gravesPlaysSpec)

/-- ITS FALSE NEIGHBOUR: 'it returns false'. Refute it at one input. -/
def gravesPlaysWrong : ChangeSpec := { name := "gravesPlays", fn := fun _ => fun
  | [d1, d2, d3, d4] => { results := [.lit (.bool false)], args := [d1, d2, d3, d4] }
  | _ => none }
def GravesPlaysWrongFalsely : Prop := gravesPlaysRow.holds Try.pinned (OpenSpec.ofChange gravesPlaysWrong)

/- THE SECOND FORM. 'bulk': how many values and letters a reading holds, each counted each time it is reached (what is shared counts as often as it is met; a slice's spare places count too). A statement '..UptoSaid' is the law's where the arguments, and the package variables that the reading takes, are together of bulk at most 1048576: NARROWER than '..Said'. Prove '..Said' where nothing that the law and all that it calls make is longer than what came in: it says more and counts as full. Else prove '..UptoSaid'. A law counts once. -/
mutual
def uptoBulk {H : Type} : DataW H → Nat
  | .lit (.string bytes) => bytes.length + 1
  | .lit _ => 1
  | .nil => 1
  | .ptr d => uptoBulk d + 1
  | .slice elems spare => uptoBulkAll elems + uptoBulkAll spare + 1
  | .agg parts => uptoBulkAll parts + 1
  | .iface _ d => uptoBulk d + 1
  | .map entries => uptoBulkEntries entries + 1
  | .held _ => 1
def uptoBulkAll {H : Type} : List (DataW H) → Nat
  | [] => 0
  | d :: r => uptoBulk d + uptoBulkAll r
def uptoBulkEntries {H : Type} : List (Lit × DataW H) → Nat
  | [] => 0
  | x :: r => uptoBulkEntry x + uptoBulkEntries r
def uptoBulkEntry {H : Type} : Lit × DataW H → Nat
  | (.string bytes, d) => bytes.length + uptoBulk d + 1
  | (_, d) => uptoBulk d + 1
 end
def uptoSmall : (H : Type) → List (DataW H) → Bool := fun _ ds => decide (uptoBulkAll ds ≤ 1048576)
def OpenSpec.upto (s : _root_.Go.ChangeSpec) : _root_.Go.OpenSpec := { _root_.Go.OpenSpec.ofChange s with cond := some uptoSmall }

/-- 'quidnunclaw10.RecentOrders', WHERE WHAT IT READS IS OF BULK AT MOST 1048576: true; the input reads as it did. -/
def recentOrdersUptoRow : OpenClaim := { program := "ytgjimlgofakbpaa", sum := "e01702d6a7d2e104a53ec08d4af76b07653979ff11ef5ae4f275573d7e0b4db9", func := "quidnunc/quidnunclaw10.RecentOrders", spec := "recentOrders", inPlace := ["slices.overlaps[quidnunc/api.Mark]"], unfollowed := true, recurses := true, apart := false, narrowed := true }
def RecentOrdersUptoSaid : Prop := recentOrdersUptoRow.holds Try.pinned (OpenSpec.upto recentOrdersSpec)

/-- 'quidnunclaw10.RecentPlays', WHERE WHAT IT READS IS OF BULK AT MOST 1048576: true; the input reads as it did. -/
def recentPlaysUptoRow : OpenClaim := { program := "ytgjimlgofakbpaa", sum := "e01702d6a7d2e104a53ec08d4af76b07653979ff11ef5ae4f275573d7e0b4db9", func := "quidnunc/quidnunclaw10.RecentPlays", spec := "recentPlays", inPlace := ["slices.overlaps[quidnunc/api.Mark]"], unfollowed := true, recurses := true, apart := false, narrowed := true }
def RecentPlaysUptoSaid : Prop := recentPlaysUptoRow.holds Try.pinned (OpenSpec.upto recentPlaysSpec)

/-- 'quidnunclaw10.RecentGoes', WHERE WHAT IT READS IS OF BULK AT MOST 1048576: true; the input reads as it did. -/
def recentGoesUptoRow : OpenClaim := { program := "ytgjimlgofakbpaa", sum := "e01702d6a7d2e104a53ec08d4af76b07653979ff11ef5ae4f275573d7e0b4db9", func := "quidnunc/quidnunclaw10.RecentGoes", spec := "recentGoes", inPlace := ["slices.overlaps[quidnunc/api.Mark]"], unfollowed := true, recurses := true, apart := false, narrowed := true }
def RecentGoesUptoSaid : Prop := recentGoesUptoRow.holds Try.pinned (OpenSpec.upto recentGoesSpec)

/-- 'quidnunclaw10.RecentLast', WHERE WHAT IT READS IS OF BULK AT MOST 1048576: true; the input reads as it did. -/
def recentLastUptoRow : OpenClaim := { program := "ytgjimlgofakbpaa", sum := "e01702d6a7d2e104a53ec08d4af76b07653979ff11ef5ae4f275573d7e0b4db9", func := "quidnunc/quidnunclaw10.RecentLast", spec := "recentLast", inPlace := ["slices.overlaps[quidnunc/api.Mark]"], unfollowed := true, recurses := true, apart := false, narrowed := true }
def RecentLastUptoSaid : Prop := recentLastUptoRow.holds Try.pinned (OpenSpec.upto recentLastSpec)

/-- 'quidnunclaw11.GravesRise', WHERE WHAT IT READS IS OF BULK AT MOST 1048576: true; the input reads as it did. -/
def gravesRiseUptoRow : OpenClaim := { program := "ytgjimlgofakbpaa", sum := "e01702d6a7d2e104a53ec08d4af76b07653979ff11ef5ae4f275573d7e0b4db9", func := "quidnunc/quidnunclaw11.GravesRise", spec := "gravesRise", inPlace := ["slices.overlaps[quidnunc/table.Pair[quidnunc/api.Entry]]"], unfollowed := true, recurses := true, apart := false, narrowed := true }
def GravesRiseUptoSaid : Prop := gravesRiseUptoRow.holds Try.pinned (OpenSpec.upto gravesRiseSpec)

/-- 'quidnunclaw11.GravesOff', WHERE WHAT IT READS IS OF BULK AT MOST 1048576: true; the input reads as it did. -/
def gravesOffUptoRow : OpenClaim := { program := "ytgjimlgofakbpaa", sum := "e01702d6a7d2e104a53ec08d4af76b07653979ff11ef5ae4f275573d7e0b4db9", func := "quidnunc/quidnunclaw11.GravesOff", spec := "gravesOff", inPlace := ["slices.overlaps[quidnunc/table.Pair[quidnunc/api.Entry]]"], unfollowed := true, recurses := true, apart := false, narrowed := true }
def GravesOffUptoSaid : Prop := gravesOffUptoRow.holds Try.pinned (OpenSpec.upto gravesOffSpec)

/-- 'quidnunclaw11.GravesAny', WHERE WHAT IT READS IS OF BULK AT MOST 1048576: true; the input reads as it did. -/
def gravesAnyUptoRow : OpenClaim := { program := "ytgjimlgofakbpaa", sum := "e01702d6a7d2e104a53ec08d4af76b07653979ff11ef5ae4f275573d7e0b4db9", func := "quidnunc/quidnunclaw11.GravesAny", spec := "gravesAny", inPlace := ["slices.overlaps[quidnunc/table.Pair[quidnunc/api.Entry]]"], unfollowed := true, recurses := true, apart := false, narrowed := true }
def GravesAnyUptoSaid : Prop := gravesAnyUptoRow.holds Try.pinned (OpenSpec.upto gravesAnySpec)

/-- 'quidnunclaw11.GravesPlays', WHERE WHAT IT READS IS OF BULK AT MOST 1048576: true; the input reads as it did. -/
def gravesPlaysUptoRow : OpenClaim := { program := "ytgjimlgofakbpaa", sum := "e01702d6a7d2e104a53ec08d4af76b07653979ff11ef5ae4f275573d7e0b4db9", func := "quidnunc/quidnunclaw11.GravesPlays", spec := "gravesPlays", inPlace := ["slices.overlaps[quidnunc/table.Pair[quidnunc/api.Entry]]"], unfollowed := true, recurses := true, apart := false, narrowed := true }
def GravesPlaysUptoSaid : Prop := gravesPlaysUptoRow.holds Try.pinned (OpenSpec.upto gravesPlaysSpec)

end Rows
end Go.Proofs.Ytgjimlgofakbpaa
