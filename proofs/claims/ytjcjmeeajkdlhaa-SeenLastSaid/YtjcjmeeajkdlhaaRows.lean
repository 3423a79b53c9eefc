/-
  No cell of these rows narrows 'for every input' (looked for: loops, veiled, ifaces, maps, wideKeys, modest, calm, conditions, laid).
  DERIVED. THE GIVEN ROWS OF THIS SEAT. 12 by the template 'for every input the law returns true; each argument reads behind the call as it read before'; 0 by the template 'total and deterministic' (their statements: YtjcjmeeajkdlhaaTotals.lean).
  GIVEN WITH THE SEED: the statements are not yours to turn. If you find one false, say at which input.
  Laid BY PROGRAM, IN A SANDBOX (cutbox-rows.mjs): the forced cells as the released guide's own fill.sh prints them over the translation 063438c156586436… (all of the seat's roots in one cut). By AI agents, Wed Nov 11 2026. No macro, syntax, notation, axiom, sorry.
-/
import Derived.Test.YtjcjmeeajkdlhaaChecked
import GoSem.Claim
import GoSem.ClaimJoined
import GoSem.ClaimMapViews
import Derived.JoinedTies
import Derived.KernelRfl
namespace Go.Proofs.Ytjcjmeeajkdlhaa
/- THE CELL 'sum', in the pinned program and in every row, IS THE sha256 OF THE DUMP (.gsa) THAT YtjcjmeeajkdlhaaProg.lean LOADS. Nothing in Lean hashes anything: it is a label: what it is worth is what the hold of that sum in a sandbox is worth. -/
noncomputable def Try.pinned : Pinned := { name := "ytjcjmeeajkdlhaa", sum := "063438c156586436b55cba5d4ac733b28e19b6ca8a645f94141b23a6807280d3", checked := Try.checked }
namespace Rows
def none {H : Type} : Left H := { results := [], args := [] }

/-- 'quidnunclaw05.EntryKeepers': WHATEVER THE INPUT: true; the input reads as it did. -/
def entryKeepersSpec : ChangeSpec := { name := "entryKeepers", fn := fun _ => fun
  | [d1, d2, d3, d4] => { results := [.lit (.bool true)], args := [d1, d2, d3, d4] }
  | _ => none }
def entryKeepersRow : OpenClaim := { program := "ytjcjmeeajkdlhaa", sum := "063438c156586436b55cba5d4ac733b28e19b6ca8a645f94141b23a6807280d3", func := "quidnunc/quidnunclaw05.EntryKeepers", spec := "entryKeepers", plainKeys := false, apart := false }
def EntryKeepersSaid : Prop := entryKeepersRow.holds Try.pinned (OpenSpec.ofChange entryKeepersSpec)

/-- ITS FALSE NEIGHBOUR: 'it returns false'. Refute it at one input. -/
def entryKeepersWrong : ChangeSpec := { name := "entryKeepers", fn := fun _ => fun
  | [d1, d2, d3, d4] => { results := [.lit (.bool false)], args := [d1, d2, d3, d4] }
  | _ => none }
def EntryKeepersWrongFalsely : Prop := entryKeepersRow.holds Try.pinned (OpenSpec.ofChange entryKeepersWrong)

/-- 'quidnunclaw18.SeenPlays': WHATEVER THE INPUT: true; the input reads as it did. -/
def seenPlaysSpec : ChangeSpec := { name := "seenPlays", fn := fun _ => fun
  | [d1, d2, d3] => { results := [.lit (.bool true)], args := [d1, d2, d3] }
  | _ => none }
def seenPlaysRow : OpenClaim := { program := "ytjcjmeeajkdlhaa", sum := "063438c156586436b55cba5d4ac733b28e19b6ca8a645f94141b23a6807280d3", func := "quidnunc/quidnunclaw18.SeenPlays", spec := "seenPlays", plainKeys := false, apart := false }
def SeenPlaysSaid : Prop := seenPlaysRow.holds Try.pinned (OpenSpec.ofChange seenPlaysSpec)

/-- ITS FALSE NEIGHBOUR: 'it returns false'. Refute it at one input. -/
def seenPlaysWrong : ChangeSpec := { name := "seenPlays", fn := fun _ => fun
  | [d1, d2, d3] => { results := [.lit (.bool false)], args := [d1, d2, d3] }
  | _ => none }
def SeenPlaysWrongFalsely : Prop := seenPlaysRow.holds Try.pinned (OpenSpec.ofChange seenPlaysWrong)

/-- 'quidnunclaw18.SeenLast': WHATEVER THE INPUT: true; the input reads as it did. -/
def seenLastSpec : ChangeSpec := { name := "seenLast", fn := fun _ => fun
  | [d1, d2] => { results := [.lit (.bool true)], args := [d1, d2] }
  | _ => none }
def seenLastRow : OpenClaim := { program := "ytjcjmeeajkdlhaa", sum := "063438c156586436b55cba5d4ac733b28e19b6ca8a645f94141b23a6807280d3", func := "quidnunc/quidnunclaw18.SeenLast", spec := "seenLast", plainKeys := false, apart := false }
def SeenLastSaid : Prop := seenLastRow.holds Try.pinned (OpenSpec.ofChange seenLastSpec)

/-- ITS FALSE NEIGHBOUR: 'it returns false'. Refute it at one input. -/
def seenLastWrong : ChangeSpec := { name := "seenLast", fn := fun _ => fun
  | [d1, d2] => { results := [.lit (.bool false)], args := [d1, d2] }
  | _ => none }
def SeenLastWrongFalsely : Prop := seenLastRow.holds Try.pinned (OpenSpec.ofChange seenLastWrong)

/-- 'quidnunclaw18.SeenAgain': WHATEVER THE INPUT: true; the input reads as it did. -/
def seenAgainSpec : ChangeSpec := { name := "seenAgain", fn := fun _ => fun
  | [d1, d2] => { results := [.lit (.bool true)], args := [d1, d2] }
  | _ => none }
def seenAgainRow : OpenClaim := { program := "ytjcjmeeajkdlhaa", sum := "063438c156586436b55cba5d4ac733b28e19b6ca8a645f94141b23a6807280d3", func := "quidnunc/quidnunclaw18.SeenAgain", spec := "seenAgain", plainKeys := false, apart := false }
def SeenAgainSaid : Prop := seenAgainRow.holds Try.pinned (OpenSpec.ofChange seenAgainSpec)

/-- ITS FALSE NEIGHBOUR: 'it returns false'. Refute it at one input. -/
def seenAgainWrong : ChangeSpec := { name := "seenAgain", fn := fun _ => fun
  | [d1, d2] => { results := [.lit (.bool false)], args := [d1, d2] }
  | _ => none }
def SeenAgainWrongFalsely : Prop := seenAgainRow.holds Try.pinned (OpenSpec.ofChange seenAgainWrong)

/-- 'quidnunclaw04.StampRises': WHATEVER THE INPUT: true; the input reads as it did. -/
def stampRisesSpec : ChangeSpec := { name := "stampRises", fn := fun _ => fun
  | [d1, d2, d3] => { results := [.lit (.bool true)], args := [d1, d2, d3] }
  | _ => none }
def stampRisesRow : OpenClaim := { program := "ytjcjmeeajkdlhaa", sum := "063438c156586436b55cba5d4ac733b28e19b6ca8a645f94141b23a6807280d3", func := "quidnunc/quidnunclaw04.StampRises", spec := "stampRises", inPlace := ["sync/atomic.StoreInt64", "sync/atomic.LoadInt64", "sync/atomic.CompareAndSwapInt64"], plainKeys := false, apart := false }
def StampRisesSaid : Prop := stampRisesRow.holds Try.pinned (OpenSpec.ofChange stampRisesSpec)

/-- ITS FALSE NEIGHBOUR: 'it returns false'. Refute it at one input. -/
def stampRisesWrong : ChangeSpec := { name := "stampRises", fn := fun _ => fun
  | [d1, d2, d3] => { results := [.lit (.bool false)], args := [d1, d2, d3] }
  | _ => none }
def StampRisesWrongFalsely : Prop := stampRisesRow.holds Try.pinned (OpenSpec.ofChange stampRisesWrong)

/-- 'quidnunclaw04.StampClocks': WHATEVER THE INPUT: true; the input reads as it did. -/
def stampClocksSpec : ChangeSpec := { name := "stampClocks", fn := fun _ => fun
  | [d1, d2, d3] => { results := [.lit (.bool true)], args := [d1, d2, d3] }
  | _ => none }
def stampClocksRow : OpenClaim := { program := "ytjcjmeeajkdlhaa", sum := "063438c156586436b55cba5d4ac733b28e19b6ca8a645f94141b23a6807280d3", func := "quidnunc/quidnunclaw04.StampClocks", spec := "stampClocks", inPlace := ["sync/atomic.StoreInt64", "sync/atomic.LoadInt64", "sync/atomic.CompareAndSwapInt64"], plainKeys := false, apart := false }
def StampClocksSaid : Prop := stampClocksRow.holds Try.pinned (OpenSpec.ofChange stampClocksSpec)

/-- ITS FALSE NEIGHBOUR: 'it returns false'. Refute it at one input. -/
def stampClocksWrong : ChangeSpec := { name := "stampClocks", fn := fun _ => fun
  | [d1, d2, d3] => { results := [.lit (.bool false)], args := [d1, d2, d3] }
  | _ => none }
def StampClocksWrongFalsely : Prop := stampClocksRow.holds Try.pinned (OpenSpec.ofChange stampClocksWrong)

/-- 'quidnunclaw05.EntryOrders': WHATEVER THE INPUT: true; the input reads as it did. -/
def entryOrdersSpec : ChangeSpec := { name := "entryOrders", fn := fun _ => fun
  | [d1, d2, d3] => { results := [.lit (.bool true)], args := [d1, d2, d3] }
  | _ => none }
def entryOrdersRow : OpenClaim := { program := "ytjcjmeeajkdlhaa", sum := "063438c156586436b55cba5d4ac733b28e19b6ca8a645f94141b23a6807280d3", func := "quidnunc/quidnunclaw05.EntryOrders", spec := "entryOrders", plainKeys := false, apart := false }
def EntryOrdersSaid : Prop := entryOrdersRow.holds Try.pinned (OpenSpec.ofChange entryOrdersSpec)

/-- ITS FALSE NEIGHBOUR: 'it returns false'. Refute it at one input. -/
def entryOrdersWrong : ChangeSpec := { name := "entryOrders", fn := fun _ => fun
  | [d1, d2, d3] => { results := [.lit (.bool false)], args := [d1, d2, d3] }
  | _ => none }
def EntryOrdersWrongFalsely : Prop := entryOrdersRow.holds Try.pinned (OpenSpec.ofChange entryOrdersWrong)

/-- 'quidnunclaw04.StampOrders': WHATEVER THE INPUT: true; the input reads as it did. -/
def stampOrdersSpec : ChangeSpec := { name := "stampOrders", fn := fun _ => fun
  | [d1, d2] => { results := [.lit (.bool true)], args := [d1, d2] }
  | _ => none }
def stampOrdersRow : OpenClaim := { program := "ytjcjmeeajkdlhaa", sum := "063438c156586436b55cba5d4ac733b28e19b6ca8a645f94141b23a6807280d3", func := "quidnunc/quidnunclaw04.StampOrders", spec := "stampOrders", inPlace := ["sync/atomic.StoreInt64", "sync/atomic.LoadInt64", "sync/atomic.CompareAndSwapInt64"], plainKeys := false, apart := false }
def StampOrdersSaid : Prop := stampOrdersRow.holds Try.pinned (OpenSpec.ofChange stampOrdersSpec)

/-- ITS FALSE NEIGHBOUR: 'it returns false'. Refute it at one input. -/
def stampOrdersWrong : ChangeSpec := { name := "stampOrders", fn := fun _ => fun
  | [d1, d2] => { results := [.lit (.bool false)], args := [d1, d2] }
  | _ => none }
def StampOrdersWrongFalsely : Prop := stampOrdersRow.holds Try.pinned (OpenSpec.ofChange stampOrdersWrong)

/-- 'quidnunclaw04.StampLatest': WHATEVER THE INPUT: true; the input reads as it did. -/
def stampLatestSpec : ChangeSpec := { name := "stampLatest", fn := fun _ => fun
  | [d] => { results := [.lit (.bool true)], args := [d] }
  | _ => none }
def stampLatestRow : OpenClaim := { program := "ytjcjmeeajkdlhaa", sum := "063438c156586436b55cba5d4ac733b28e19b6ca8a645f94141b23a6807280d3", func := "quidnunc/quidnunclaw04.StampLatest", spec := "stampLatest", inPlace := ["sync/atomic.StoreInt64", "sync/atomic.LoadInt64", "sync/atomic.CompareAndSwapInt64"], unfollowed := true, recurses := true, plainKeys := false, apart := false }
def StampLatestSaid : Prop := stampLatestRow.holds Try.pinned (OpenSpec.ofChange stampLatestSpec)

/-- ITS FALSE NEIGHBOUR: 'it returns false'. Refute it at one input. -/
def stampLatestWrong : ChangeSpec := { name := "stampLatest", fn := fun _ => fun
  | [d] => { results := [.lit (.bool false)], args := [d] }
  | _ => none }
def StampLatestWrongFalsely : Prop := stampLatestRow.holds Try.pinned (OpenSpec.ofChange stampLatestWrong)

/-- 'quidnunclaw04.StampAny': WHATEVER THE INPUT: true; the input reads as it did. -/
def stampAnySpec : ChangeSpec := { name := "stampAny", fn := fun _ => fun
  | [d1, d2] => { results := [.lit (.bool true)], args := [d1, d2] }
  | _ => none }
def stampAnyRow : OpenClaim := { program := "ytjcjmeeajkdlhaa", sum := "063438c156586436b55cba5d4ac733b28e19b6ca8a645f94141b23a6807280d3", func := "quidnunc/quidnunclaw04.StampAny", spec := "stampAny", inPlace := ["sync/atomic.StoreInt64", "sync/atomic.LoadInt64", "sync/atomic.CompareAndSwapInt64"], unfollowed := true, recurses := true, plainKeys := false, apart := false }
def StampAnySaid : Prop := stampAnyRow.holds Try.pinned (OpenSpec.ofChange stampAnySpec)

/-- ITS FALSE NEIGHBOUR: 'it returns false'. Refute it at one input. -/
def stampAnyWrong : ChangeSpec := { name := "stampAny", fn := fun _ => fun
  | [d1, d2] => { results := [.lit (.bool false)], args := [d1, d2] }
  | _ => none }
def StampAnyWrongFalsely : Prop := stampAnyRow.holds Try.pinned (OpenSpec.ofChange stampAnyWrong)

/-- 'quidnunclaw05.EntryCounts': WHATEVER THE INPUT: true; the input reads as it did. -/
def entryCountsSpec : ChangeSpec := { name := "entryCounts", fn := fun _ => fun
  | [d1, d2, d3] => { results := [.lit (.bool true)], args := [d1, d2, d3] }
  | _ => none }
def entryCountsRow : OpenClaim := { program := "ytjcjmeeajkdlhaa", sum := "063438c156586436b55cba5d4ac733b28e19b6ca8a645f94141b23a6807280d3", func := "quidnunc/quidnunclaw05.EntryCounts", spec := "entryCounts", plainKeys := false, apart := false }
def EntryCountsSaid : Prop := entryCountsRow.holds Try.pinned (OpenSpec.ofChange entryCountsSpec)

/-- ITS FALSE NEIGHBOUR: 'it returns false'. Refute it at one input. -/
def entryCountsWrong : ChangeSpec := { name := "entryCounts", fn := fun _ => fun
  | [d1, d2, d3] => { results := [.lit (.bool false)], args := [d1, d2, d3] }
  | _ => none }
def EntryCountsWrongFalsely : Prop := entryCountsRow.holds Try.pinned (OpenSpec.ofChange entryCountsWrong)

/-- 'quidnunclaw13.SetupGrows': WHATEVER THE INPUT: true; the input reads as it did. -/
def setupGrowsSpec : ChangeSpec := { name := "setupGrows", fn := fun _ => fun
  | [d] => { results := [.lit (.bool true)], args := [d] }
  | _ => none }
def setupGrowsRow : OpenClaim := { program := "ytjcjmeeajkdlhaa", sum := "063438c156586436b55cba5d4ac733b28e19b6ca8a645f94141b23a6807280d3", func := "quidnunc/quidnunclaw13.SetupGrows", spec := "setupGrows", plainKeys := false, apart := false }
def SetupGrowsSaid : Prop := setupGrowsRow.holds Try.pinned (OpenSpec.ofChange setupGrowsSpec)

/-- ITS FALSE NEIGHBOUR: 'it returns false'. Refute it at one input. -/
def setupGrowsWrong : ChangeSpec := { name := "setupGrows", fn := fun _ => fun
  | [d] => { results := [.lit (.bool false)], args := [d] }
  | _ => none }
def SetupGrowsWrongFalsely : Prop := setupGrowsRow.holds Try.pinned (OpenSpec.ofChange setupGrowsWrong)

/- THE SECOND FORM. 'bulk': how many values and letters a reading holds, each counted each time it is reached (what is shared counts as often as it is met; a slice's spare places count too). A statement '..UptoSaid' is the law's where the arguments, and the package variables that the reading takes, are together of bulk at most 1048576: NARROWER than '..Said'. Prove '..Said' where nothing that the law and all that it calls make is longer than what came in: it says more and counts as full. Else prove '..UptoSaid'. A law counts once. -/
mutual
def uptoBulk {H : Type} : DataW H → Nat
  | .lit (.string bytes) => bytes.length + 1
  | .lit _ => 1
  | .nil => 1
  | .ptr d => uptoBulk d + 1
  | .slice elems spare => uptoBulkAll elems + uptoBulkAll spare + 1
  | .agg parts => uptoBulkAll parts + 1
  | .iface _ d => uptoBulk d + 1
  | .map entries => uptoBulkEntries entries + 1
  | .held _ => 1
def uptoBulkAll {H : Type} : List (DataW H) → Nat
  | [] => 0
  | d :: r => uptoBulk d + uptoBulkAll r
def uptoBulkEntries {H : Type} : List (Lit × DataW H) → Nat
  | [] => 0
  | x :: r => uptoBulkEntry x + uptoBulkEntries r
def uptoBulkEntry {H : Type} : Lit × DataW H → Nat
  | (.string bytes, d) => bytes.length + uptoBulk d + 1
  | (_, d) => uptoBulk d + 1
 end
def uptoSmall : (H : Type) → List (DataW H) → Bool := fun _ ds => decide (uptoBulkAll ds ≤ 1048576)
def OpenSpec.upto (s : _root_.Go.ChangeSpec) : _root_.Go.OpenSpec := { _root_.Go.OpenSpec.ofChange s with cond := some uptoSmall }

/-- 'quidnunclaw05.EntryKeepers', WHERE WHAT IT READS IS OF BULK AT MOST 1048576: true; the input reads as it did. -/
def entryKeepersUptoRow : OpenClaim := { program := "ytjcjmeeajkdlhaa", sum := "063438c156586436b55cba5d4ac733b28e19b6ca8a645f94141b23a6807280d3", func := "quidnunc/quidnunclaw05.EntryKeepers", spec := "entryKeepers", plainKeys := false, apart := false, narrowed := true }
def EntryKeepersUptoSaid : Prop := entryKeepersUptoRow.holds Try.pinned (OpenSpec.upto entryKeepersSpec)

/-- 'quidnunclaw18.SeenPlays', WHERE WHAT IT READS IS OF BULK AT MOST 1048576: true; the input reads as it did. -/
def seenPlaysUptoRow : OpenClaim := { program := "ytjcjmeeajkdlhaa", sum := "063438c156586436b55cba5d4ac733b28e19b6ca8a645f94141b23a6807280d3", func := "quidnunc/quidnunclaw18.SeenPlays", spec := "seenPlays", plainKeys := false, apart := false, narrowed := true }
def SeenPlaysUptoSaid : Prop := seenPlaysUptoRow.holds Try.pinned (OpenSpec.upto seenPlaysSpec)

/-- 'quidnunclaw18.SeenLast', WHERE WHAT IT READS IS OF BULK AT MOST 1048576: true; the input reads as it did. -/
def seenLastUptoRow : OpenClaim := { program := "ytjcjmeeajkdlhaa", sum := "063438c156586436b55cba5d4ac733b28e19b6ca8a645f94141b23a6807280d3", func := "quidnunc/quidnunclaw18.SeenLast", spec := "seenLast", plainKeys := false, apart := false, narrowed := true }
def SeenLastUptoSaid : Prop := seenLastUptoRow.holds Try.pinned (OpenSpec.upto seenLastSpec)

/-- 'quidnunclaw18.SeenAgain', WHERE WHAT IT READS IS OF BULK AT MOST 1048576: true; the input reads as it did. -/
def seenAgainUptoRow : OpenClaim := { program := "ytjcjmeeajkdlhaa", sum := "063438c156586436b55cba5d4ac733b28e19b6ca8a645f94141b23a6807280d3", func := "quidnunc/quidnunclaw18.SeenAgain", spec := "seenAgain", plainKeys := false, apart := false, narrowed := true }
def SeenAgainUptoSaid : Prop := seenAgainUptoRow.holds Try.pinned (OpenSpec.upto seenAgainSpec)

/-- 'quidnunclaw04.StampRises', WHERE WHAT IT READS IS OF BULK AT MOST 1048576: true; the input reads as it did. -/
def stampRisesUptoRow : OpenClaim := { program := "ytjcjmeeajkdlhaa", sum := "063438c156586436b55cba5d4ac733b28e19b6ca8a645f94141b23a6807280d3", func := "quidnunc/quidnunclaw04.StampRises", spec := "stampRises", inPlace := ["sync/atomic.StoreInt64", "sync/atomic.LoadInt64", "sync/atomic.CompareAndSwapInt64"], plainKeys := false, apart := false, narrowed := true }
def StampRisesUptoSaid : Prop := stampRisesUptoRow.holds Try.pinned (OpenSpec.upto stampRisesSpec)

/-- 'quidnunclaw04.StampClocks', WHERE WHAT IT READS IS OF BULK AT MOST 1048576: true; the input reads as it did. -/
def stampClocksUptoRow : OpenClaim := { program := "ytjcjmeeajkdlhaa", sum := "063438c156586436b55cba5d4ac733b28e19b6ca8a645f94141b23a6807280d3", func := "quidnunc/quidnunclaw04.StampClocks", spec := "stampClocks", inPlace := ["sync/atomic.StoreInt64", "sync/atomic.LoadInt64", "sync/atomic.CompareAndSwapInt64"], plainKeys := false, apart := false, narrowed := true }
def StampClocksUptoSaid : Prop := stampClocksUptoRow.holds Try.pinned (OpenSpec.upto stampClocksSpec)

/-- 'quidnunclaw05.EntryOrders', WHERE WHAT IT READS IS OF BULK AT MOST 1048576: true; the input reads as it did. -/
def entryOrdersUptoRow : OpenClaim := { program := "ytjcjmeeajkdlhaa", sum := "063438c156586436b55cba5d4ac733b28e19b6ca8a645f94141b23a6807280d3", func := "quidnunc/quidnunclaw05.EntryOrders", spec := "entryOrders", plainKeys := false, apart := false, narrowed := true }
def EntryOrdersUptoSaid : Prop := entryOrdersUptoRow.holds Try.pinned (OpenSpec.upto entryOrdersSpec)

/-- 'quidnunclaw04.StampOrders', WHERE WHAT IT READS IS OF BULK AT MOST 1048576: true; the input reads as it did. -/
def stampOrdersUptoRow : OpenClaim := { program := "ytjcjmeeajkdlhaa", sum := "063438c156586436b55cba5d4ac733b28e19b6ca8a645f94141b23a6807280d3", func := "quidnunc/quidnunclaw04.StampOrders", spec := "stampOrders", inPlace := ["sync/atomic.StoreInt64", "sync/atomic.LoadInt64", "sync/atomic.CompareAndSwapInt64"], plainKeys := false, apart := false, narrowed := true }
def StampOrdersUptoSaid : Prop := stampOrdersUptoRow.holds Try.pinned (OpenSpec.upto stampOrdersSpec)

/-- 'quidnunclaw04.StampLatest', WHERE WHAT IT READS IS OF BULK AT MOST 1048576: true; the input reads as it did. -/
def stampLatestUptoRow : OpenClaim := { program := "ytjcjmeeajkdlhaa", sum := "063438c156586436b55cba5d4ac733b28e19b6ca8a645f94141b23a6807280d3", func := "quidnunc/quidnunclaw04.StampLatest", spec := "stampLatest", inPlace := ["sync/atomic.StoreInt64", "sync/atomic.LoadInt64", "sync/atomic.CompareAndSwapInt64"], unfollowed := true, recurses := true, plainKeys := false, apart := false, narrowed := true }
def StampLatestUptoSaid : Prop := stampLatestUptoRow.holds Try.pinned (OpenSpec.upto stampLatestSpec)

/-- 'quidnunclaw04.StampAny', WHERE WHAT IT READS IS OF BULK AT MOST 1048576: true; the input reads as it did. -/
def stampAnyUptoRow : OpenClaim := { program := "ytjcjmeeajkdlhaa", sum := "063438c156586436b55cba5d4ac733b28e19b6ca8a645f94141b23a6807280d3", func := "quidnunc/quidnunclaw04.StampAny", spec := "stampAny", inPlace := ["sync/atomic.StoreInt64", "sync/atomic.LoadInt64", "sync/atomic.CompareAndSwapInt64"], unfollowed := true, recurses := true, plainKeys := false, apart := false, narrowed := true }
def StampAnyUptoSaid : Prop := stampAnyUptoRow.holds Try.pinned (OpenSpec.upto stampAnySpec)

/-- 'quidnunclaw05.EntryCounts', WHERE WHAT IT READS IS OF BULK AT MOST 1048576: true; the input reads as it did. -/
def entryCountsUptoRow : OpenClaim := { program := "ytjcjmeeajkdlhaa", sum := "063438c156586436b55cba5d4ac733b28e19b6ca8a645f94141b23a6807280d3", func := "quidnunc/quidnunclaw05.EntryCounts", spec := "entryCounts", plainKeys := false, apart := false, narrowed := true }
def EntryCountsUptoSaid : Prop := entryCountsUptoRow.holds Try.pinned (OpenSpec.upto entryCountsSpec)

/-- 'quidnunclaw13.SetupGrows', WHERE WHAT IT READS IS OF BULK AT MOST 1048576: true; the input reads as it did. -/
def setupGrowsUptoRow : OpenClaim := { program := "ytjcjmeeajkdlhaa", sum := "063438c156586436b55cba5d4ac733b28e19b6ca8a645f94141b23a6807280d3", func := "quidnunc/quidnunclaw13.SetupGrows", spec := "setupGrows", plainKeys := false, apart := false, narrowed := true }
def SetupGrowsUptoSaid : Prop := setupGrowsUptoRow.holds Try.pinned (OpenSpec.upto setupGrowsSpec)

end Rows
end Go.Proofs.Ytjcjmeeajkdlhaa
