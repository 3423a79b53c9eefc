/- The walk of TableCopies. -/
import Derived.Test.YtodnlihbmgigjaaBt9
import Derived.Test.YtodnlihbmgigjaaTc5
import Derived.Test.YtodnlihbmgigjaaTc6
namespace Go.Proofs.Ytodnlihbmgigjaa
set_option linter.unusedSimpArgs false
set_option linter.unusedVariables false
set_option maxHeartbeats 4000000
open Go Go.Am Go.RowKit Go.ChangeShapes Go.WideShapes Go.ChangeAt
set_option maxRecDepth 100000
set_option maxHeartbeats 8000000
def Ca8.rep (a : Ca8) : List Value := (fun n : Int => [.int .i64 n]) a.kind ++ (fun n : Int => [.int .i64 n]) a.v ++ (fun s : ByteArray => [.string s]) a.key ++ (fun s : ByteArray => [.string s]) a.frm ++ (fun n : Int => [.int .i64 n]) a.n
structure Ca8.ok (W : World) (a : Ca8) : Prop where
  kind : (fun n : Int => IntKind.i64.min ≤ n ∧ n ≤ IntKind.i64.max) a.kind
  v : (fun n : Int => IntKind.i64.min ≤ n ∧ n ≤ IntKind.i64.max) a.v
  key : (fun s : ByteArray => s.size ≤ maxLen) a.key
  frm : (fun s : ByteArray => s.size ≤ maxLen) a.frm
  n : (fun n : Int => IntKind.i64.min ≤ n ∧ n ≤ IntKind.i64.max) a.n
set_option maxRecDepth 100000 in
theorem rd_Ca8 {H : Type} {enc : TypeId × Value → H} {W : World} {base : Nat} {held : Bool} : Am.Rd enc Try.prog W base held 58 Ca8.rep (Ca8.ok W) := fun n cs x h => by
  obtain ⟨xs, n1, _, _, hlen, hx, hf⟩ := DataW.trod_struct Try.underlying58 h
  rw [show Try.prog.cellsOf 58 = 5 by kernel_rfl] at hlen
  have f0 : DataW.trod enc Try.prog W base (fun _ => true) held n1 3 ((cs.drop 0).take (Try.prog.cellsOf 3)) = xs[0]? := hf 0 _ rfl
  rw [show Try.prog.cellsOf 3 = 1 by kernel_rfl] at f0
  obtain ⟨y0, h0⟩ := at_some2 hx (by decide) f0
  obtain ⟨g0, a0, e0, w0⟩ := (rd_int Try.underlying3 : Am.Rd _ _ _ _ _ _ (fun n : Int => [.int .i64 n]) (fun n : Int => IntKind.i64.min ≤ n ∧ n ≤ IntKind.i64.max)) _ _ _ h0
  have f1 : DataW.trod enc Try.prog W base (fun _ => true) held n1 3 ((cs.drop 1).take (Try.prog.cellsOf 3)) = xs[1]? := hf 1 _ rfl
  rw [show Try.prog.cellsOf 3 = 1 by kernel_rfl] at f1
  obtain ⟨y1, h1⟩ := at_some2 hx (by decide) f1
  obtain ⟨g1, a1, e1, w1⟩ := (rd_int Try.underlying3 : Am.Rd _ _ _ _ _ _ (fun n : Int => [.int .i64 n]) (fun n : Int => IntKind.i64.min ≤ n ∧ n ≤ IntKind.i64.max)) _ _ _ h1
  have f2 : DataW.trod enc Try.prog W base (fun _ => true) held n1 9 ((cs.drop 2).take (Try.prog.cellsOf 9)) = xs[2]? := hf 2 _ rfl
  rw [show Try.prog.cellsOf 9 = 1 by kernel_rfl] at f2
  obtain ⟨y2, h2⟩ := at_some2 hx (by decide) f2
  obtain ⟨g2, a2, e2, w2⟩ := (rd_string Try.underlying9 : Am.Rd _ _ _ _ _ _ (fun s : ByteArray => [.string s]) (fun s : ByteArray => s.size ≤ maxLen)) _ _ _ h2
  have f3 : DataW.trod enc Try.prog W base (fun _ => true) held n1 9 ((cs.drop 3).take (Try.prog.cellsOf 9)) = xs[3]? := hf 3 _ rfl
  rw [show Try.prog.cellsOf 9 = 1 by kernel_rfl] at f3
  obtain ⟨y3, h3⟩ := at_some2 hx (by decide) f3
  obtain ⟨g3, a3, e3, w3⟩ := (rd_string Try.underlying9 : Am.Rd _ _ _ _ _ _ (fun s : ByteArray => [.string s]) (fun s : ByteArray => s.size ≤ maxLen)) _ _ _ h3
  have f4 : DataW.trod enc Try.prog W base (fun _ => true) held n1 3 ((cs.drop 4).take (Try.prog.cellsOf 3)) = xs[4]? := hf 4 _ rfl
  rw [show Try.prog.cellsOf 3 = 1 by kernel_rfl] at f4
  obtain ⟨y4, h4⟩ := at_some2 hx (by decide) f4
  obtain ⟨g4, a4, e4, w4⟩ := (rd_int Try.underlying3 : Am.Rd _ _ _ _ _ _ (fun n : Int => [.int .i64 n]) (fun n : Int => IntKind.i64.min ≤ n ∧ n ≤ IntKind.i64.max)) _ _ _ h4
  match cs, hlen with
  | [c0, c1, c2, c3, c4], _ =>
    simp [Sl.rep, Ca8.rep] at e0 g0
    simp [Sl.rep, Ca8.rep] at e1 g1
    simp [Sl.rep, Ca8.rep] at e2 g2
    simp [Sl.rep, Ca8.rep] at e3 g3
    simp [Sl.rep, Ca8.rep] at e4 g4
    exact ⟨by simp [*, Value.oneCell'], ⟨a0, a1, a2, a3, a4⟩, by simp [Sl.rep, Ca8.rep, *], ⟨w0, w1, w2, w3, w4⟩⟩
/- quidnunc/quidnunclaw08.TableCopies -/
noncomputable def c6_1 : ACode := .region false [⟨some 4, .move, [.c (.val (.bool false))], none⟩] [] [] [0, 1] false [] []
noncomputable def c6_4 : ACode := .region false [⟨some 16, .call 7, [], none⟩,
  ⟨some 17, .un .not, [.t 16], none⟩,
  ⟨some 18, .move, [.t 17], none⟩,
  ⟨some 19, .move, [.t 0], some (some 18, false)⟩,
  ⟨some 20, .call 19, [.t 19], some (some 18, false)⟩,
  ⟨some 21, .un .not, [.t 20], some (some 18, false)⟩,
  ⟨some 22, .pick, [.t 18, .c (.val (.bool true)), .t 21], none⟩,
  ⟨some 23, .move, [.t 22], none⟩,
  ⟨some 24, .move, [.t 1], some (some 23, false)⟩,
  ⟨some 25, .call 19, [.t 24], some (some 23, false)⟩,
  ⟨some 26, .un .not, [.t 25], some (some 23, false)⟩,
  ⟨some 27, .pick, [.t 23, .c (.val (.bool true)), .t 26], none⟩] [] [] [0, 1, 27] true [] []
noncomputable def c6_7 : ACode := .region false [⟨some 28, .call 7, [], none⟩,
  ⟨some 4, .move, [.t 28], none⟩] [] [] [4] true [] []
noncomputable def c6_6 : ACode := .seq c6_7 .ret
noncomputable def c6_5 : ACode := .cond (.t 27) c6_6 .skip
noncomputable def c6_3 : ACode := .seq c6_4 c6_5
noncomputable def c6_9 : ACode := .region false [⟨some 30, .call 14, [.c (.val (.int .i64 20))], none⟩,
  ⟨some 29, .move, [.t 30], none⟩,
  ⟨some 31, .ext 0, [.t 29], none⟩,
  ⟨some 32, .ext 1, [.t 29], none⟩,
  ⟨some 5, .move, [.t 31], none⟩,
  ⟨some 6, .move, [.t 32], none⟩] [] [] [0, 1, 5, 6] true [] []
noncomputable def c6_11 : ACode := .region false [⟨some 34, .call 20, [.c (.val (.int .i64 20))], none⟩,
  ⟨some 33, .move, [.t 34], none⟩,
  ⟨some 35, .ext 0, [.t 33], none⟩,
  ⟨some 36, .ext 1, [.t 33], none⟩,
  ⟨some 7, .alloc [(.int .i64 0), (.slice none 0 0)], [], none⟩,
  ⟨none, .store 2, [.t 7, .t 35], none⟩,
  ⟨some 8, .move, [.t 36], none⟩] [] [] [0, 1, 5, 6, 7] true [] []
noncomputable def c6_14 : ACode := .region false [⟨some 37, .move, [.t 6], none⟩,
  ⟨some 38, .bin .neq, [.t 37, .c (.val (.int .i64 0))], none⟩,
  ⟨some 39, .move, [.t 38], none⟩,
  ⟨some 40, .move, [.t 5], some (some 39, false)⟩,
  ⟨some 41, .eqP false, [.t 40, .c (.val (.pointer none))], some (some 39, false)⟩,
  ⟨some 42, .pick, [.t 39, .c (.val (.bool true)), .t 41], none⟩] [] [] [0, 1, 5, 7, 42] false [] []
noncomputable def c6_17 : ACode := .region false [⟨some 4, .move, [.c (.val (.bool false))], none⟩] [] [] [4] false [] []
noncomputable def c6_16 : ACode := .seq c6_17 .ret
noncomputable def c6_15 : ACode := .cond (.t 42) c6_16 .skip
noncomputable def c6_13 : ACode := .seq c6_14 c6_15
noncomputable def c6_20 : ACode := .region false [⟨some 43, .move, [.t 0], none⟩,
  ⟨some 44, .len, [.t 43], none⟩,
  ⟨some 45, .move, [.c (.val (.int .i64 0))], none⟩] [] [] [1, 5, 7, 43, 44, 45] false [] []
noncomputable def c6_24 : ACode := .region false [⟨some 46, .bin .lss, [.t 45, .t 44], none⟩] [] [] [1, 5, 7, 43, 44, 45, 46] false [] []
noncomputable def c6_26 : ACode := .cond (.t 46) .skip (.exit 0)
noncomputable def c6_30 : ACode := .region false [⟨some 47, .ixS 5, [.t 43, .t 45], none⟩,
  ⟨some 48, .load true 5, [.t 47], none⟩,
  ⟨some 10, .alloc [(.int .i64 0), (.int .i64 0), (.string ⟨#[]⟩), (.string ⟨#[]⟩), (.int .i64 0)], [], none⟩,
  ⟨none, .store 5, [.t 10, .t 48], none⟩] [] [] [1, 5, 7, 10, 43, 44, 45] true [] []
noncomputable def c6_31 : ACode := .region false [⟨some 50, .move, [.t 5], none⟩,
  ⟨some 51, .load true 2, [.t 7], none⟩,
  ⟨some 52, .load true 5, [.t 10], none⟩,
  ⟨some 53, .call 21, [.t 50, .t 51, .t 52], none⟩,
  ⟨some 49, .move, [.t 53], none⟩,
  ⟨some 54, .ext 0, [.t 49], none⟩,
  ⟨some 55, .ext 1, [.t 49], none⟩,
  ⟨none, .store 2, [.t 7, .t 54], none⟩] [] [] [1, 5, 7, 43, 44, 45] true [] []
noncomputable def c6_29 : ACode := .seq c6_30 c6_31
noncomputable def c6_28 : ACode := .block 1 c6_29
noncomputable def c6_32 : ACode := .region false [⟨some 56, .bin .add, [.t 45, .c (.val (.int .i64 1))], none⟩,
  ⟨some 45, .move, [.t 56], none⟩] [] [] [1, 5, 7, 43, 44, 45] false [] []
noncomputable def c6_27 : ACode := .seq c6_28 c6_32
noncomputable def c6_25 : ACode := .seq c6_26 c6_27
noncomputable def c6_23 : ACode := .seq c6_24 c6_25
noncomputable def c6_22 : ACode := .loop c6_23
noncomputable def c6_21 : ACode := .block 0 c6_22
noncomputable def c6_19 : ACode := .seq c6_20 c6_21
noncomputable def c6_34 : ACode := .region true [⟨some 57, .move, [.t 5], none⟩,
  ⟨some 58, .call 27, [.t 57], none⟩,
  ⟨some 59, .load true 2, [.t 7], none⟩,
  ⟨some 12, .alloc [(.int .i64 0), (.slice none 0 0)], [], none⟩,
  ⟨some 11, .move, [.t 58], none⟩,
  ⟨none, .store 2, [.t 12, .t 59], none⟩] [] [(1, 3)] [1, 5, 7, 11, 12] true [] []
noncomputable def c6_37 : ACode := .region false [⟨some 60, .move, [.t 11], none⟩,
  ⟨some 61, .eqP false, [.t 60, .c (.val (.pointer none))], none⟩,
  ⟨some 62, .move, [.t 61], none⟩,
  ⟨some 63, .move, [.t 11], some (some 62, false)⟩,
  ⟨some 64, .load true 2, [.t 7], some (some 62, false)⟩,
  ⟨some 65, .call 22, [.t 63, .t 64], some (some 62, false)⟩,
  ⟨some 66, .un .not, [.t 65], some (some 62, false)⟩,
  ⟨some 67, .pick, [.t 62, .c (.val (.bool true)), .t 66], none⟩] [] [] [1, 5, 7, 11, 12, 67] true [] []
noncomputable def c6_40 : ACode := .region false [⟨some 4, .move, [.c (.val (.bool false))], none⟩] [] [] [4] false [] []
noncomputable def c6_39 : ACode := .seq c6_40 .ret
noncomputable def c6_38 : ACode := .cond (.t 67) c6_39 .skip
noncomputable def c6_36 : ACode := .seq c6_37 c6_38
noncomputable def c6_43 : ACode := .region false [⟨some 68, .move, [.t 1], none⟩,
  ⟨some 69, .len, [.t 68], none⟩,
  ⟨some 70, .move, [.c (.val (.int .i64 0))], none⟩] [] [] [5, 7, 11, 12, 68, 69, 70] false [] []
noncomputable def c6_47 : ACode := .region false [⟨some 71, .bin .lss, [.t 70, .t 69], none⟩] [] [] [5, 7, 11, 12, 68, 69, 70, 71] false [] []
noncomputable def c6_49 : ACode := .cond (.t 71) .skip (.exit 2)
noncomputable def c6_53 : ACode := .region false [⟨some 72, .move, [.t 70], none⟩,
  ⟨some 73, .ixS 5, [.t 68, .t 70], none⟩,
  ⟨some 74, .load true 5, [.t 73], none⟩,
  ⟨some 14, .alloc [(.int .i64 0), (.int .i64 0), (.string ⟨#[]⟩), (.string ⟨#[]⟩), (.int .i64 0)], [], none⟩,
  ⟨some 13, .move, [.t 72], none⟩,
  ⟨none, .store 5, [.t 14, .t 74], none⟩] [] [] [5, 7, 11, 12, 13, 14, 68, 69, 70] true [] []
noncomputable def c6_55 : ACode := .region false [⟨some 15, .move, [.c (.val (.bool false))], none⟩] [] [] [5, 7, 11, 12, 13, 14, 68, 69, 70] false [] []
noncomputable def c6_58 : ACode := .region false [⟨some 75, .move, [.t 13], none⟩,
  ⟨some 76, .bin .rem, [.t 75, .c (.val (.int .i64 2))], none⟩,
  ⟨some 77, .bin .eql, [.t 76, .c (.val (.int .i64 0))], none⟩] [] [] [5, 7, 11, 12, 14, 68, 69, 70, 77] false [] []
noncomputable def c6_60 : ACode := .region false [⟨some 79, .move, [.t 11], none⟩,
  ⟨some 80, .load true 2, [.t 12], none⟩,
  ⟨some 81, .load true 5, [.t 14], none⟩,
  ⟨some 82, .call 21, [.t 79, .t 80, .t 81], none⟩,
  ⟨some 78, .move, [.t 82], none⟩,
  ⟨some 83, .ext 0, [.t 78], none⟩,
  ⟨some 84, .ext 1, [.t 78], none⟩,
  ⟨none, .store 2, [.t 12, .t 83], none⟩,
  ⟨some 15, .move, [.t 84], none⟩] [] [] [5, 7, 11, 12, 15, 68, 69, 70] true [] []
noncomputable def c6_61 : ACode := .region false [⟨some 86, .move, [.t 5], none⟩,
  ⟨some 87, .load true 2, [.t 7], none⟩,
  ⟨some 88, .load true 5, [.t 14], none⟩,
  ⟨some 89, .call 21, [.t 86, .t 87, .t 88], none⟩,
  ⟨some 85, .move, [.t 89], none⟩,
  ⟨some 90, .ext 0, [.t 85], none⟩,
  ⟨some 91, .ext 1, [.t 85], none⟩,
  ⟨none, .store 2, [.t 7, .t 90], none⟩,
  ⟨some 15, .move, [.t 91], none⟩] [] [] [5, 7, 11, 12, 15, 68, 69, 70] true [] []
noncomputable def c6_59 : ACode := .cond (.t 77) c6_60 c6_61
noncomputable def c6_57 : ACode := .seq c6_58 c6_59
noncomputable def c6_63 : ACode := .region false [⟨some 92, .move, [.t 15], none⟩,
  ⟨some 93, .un .not, [.t 92], none⟩,
  ⟨some 94, .move, [.t 93], none⟩,
  ⟨some 95, .move, [.t 11], some (some 94, false)⟩,
  ⟨some 96, .load true 2, [.t 12], some (some 94, false)⟩,
  ⟨some 97, .call 22, [.t 95, .t 96], some (some 94, false)⟩,
  ⟨some 98, .un .not, [.t 97], some (some 94, false)⟩,
  ⟨some 99, .pick, [.t 94, .c (.val (.bool true)), .t 98], none⟩,
  ⟨some 100, .move, [.t 99], none⟩,
  ⟨some 101, .move, [.t 5], some (some 100, false)⟩,
  ⟨some 102, .load true 2, [.t 7], some (some 100, false)⟩,
  ⟨some 103, .call 22, [.t 101, .t 102], some (some 100, false)⟩,
  ⟨some 104, .un .not, [.t 103], some (some 100, false)⟩,
  ⟨some 105, .pick, [.t 100, .c (.val (.bool true)), .t 104], none⟩] [] [] [5, 7, 11, 12, 68, 69, 70, 105] true [] []
noncomputable def c6_66 : ACode := .region false [⟨some 4, .move, [.c (.val (.bool false))], none⟩] [] [] [4] false [] []
noncomputable def c6_65 : ACode := .seq c6_66 .ret
noncomputable def c6_64 : ACode := .cond (.t 105) c6_65 .skip
noncomputable def c6_62 : ACode := .seq c6_63 c6_64
noncomputable def c6_56 : ACode := .seq c6_57 c6_62
noncomputable def c6_54 : ACode := .seq c6_55 c6_56
noncomputable def c6_52 : ACode := .seq c6_53 c6_54
noncomputable def c6_51 : ACode := .block 3 c6_52
noncomputable def c6_67 : ACode := .region false [⟨some 106, .bin .add, [.t 70, .c (.val (.int .i64 1))], none⟩,
  ⟨some 70, .move, [.t 106], none⟩] [] [] [5, 7, 11, 12, 68, 69, 70] false [] []
noncomputable def c6_50 : ACode := .seq c6_51 c6_67
noncomputable def c6_48 : ACode := .seq c6_49 c6_50
noncomputable def c6_46 : ACode := .seq c6_47 c6_48
noncomputable def c6_45 : ACode := .loop c6_46
noncomputable def c6_44 : ACode := .block 2 c6_45
noncomputable def c6_42 : ACode := .seq c6_43 c6_44
noncomputable def c6_69 : ACode := .region false [⟨some 4, .move, [.c (.val (.bool true))], none⟩] [] [] [4] false [] []
noncomputable def c6_68 : ACode := .seq c6_69 .ret
noncomputable def c6_41 : ACode := .seq c6_42 c6_68
noncomputable def c6_35 : ACode := .seq c6_36 c6_41
noncomputable def c6_33 : ACode := .seq c6_34 c6_35
noncomputable def c6_18 : ACode := .seq c6_19 c6_33
noncomputable def c6_12 : ACode := .seq c6_13 c6_18
noncomputable def c6_10 : ACode := .seq c6_11 c6_12
noncomputable def c6_8 : ACode := .seq c6_9 c6_10
noncomputable def c6_2 : ACode := .seq c6_3 c6_8
noncomputable def c6_0 : ACode := .seq c6_1 c6_2
noncomputable def code6 : Code := (Try.f6.body).getD .skip
theorem c6_ok : compC Try.prog 107 code6 = some (strip c6_0) := by kernel_rfl
theorem res6_ok : Try.f6.results.toList.mapM (resC Try.prog) = some [(4, none)] := by kernel_rfl
theorem rem_two (i : Nat) : Int.tmod (i : Int) 2 = ((i % 2 : Nat) : Int) := by
  first | rfl | exact Int.ofNat_tmod i 2 | exact (Int.ofNat_tmod i 2).symm
theorem tableCopies_walk (W : World) (sl sm : Sl Ca8) (hz : Sl.ok W 5 Ca8.rep (Ca8.ok W) sl) (hy : Sl.ok W 5 Ca8.rep (Ca8.ok W) sm) :
    Calls Try.prog 6 #[.slice sl.ad sl.l.length sl.cap, .slice sm.ad sm.l.length sm.cap] W fun e W' => e = .returned (.bool true) ∧ Below W.heap.size W W' := by
  obtain ⟨ad, off, cap, l⟩ := sl
  obtain ⟨bd, pff, dap, m⟩ := sm
  obtain ⟨hz, -, hl⟩ := hz
  obtain ⟨hy, -, hlm⟩ := hy
  have hl : l.length ≤ 9223372036854775807 := by simpa [maxLen] using hl
  have hlm : m.length ≤ 9223372036854775807 := by simpa [maxLen] using hlm
  simp only at hz hy
  have hr : ∀ ρ, renL ρ (rowsC off CaL l) = rowsC off CaL l := fun ρ => rowsC_ren (fun ρ x => by simp [renL, ren]) ρ l
  have hL : (rowsC off CaL l).length = off + l.length * 5 := rowsC_len (f := CaL) (k := 5) (fun _ => rfl) l
  have hrm : ∀ ρ, renL ρ (rowsC pff CaL m) = rowsC pff CaL m := fun ρ => rowsC_ren (fun ρ x => by simp [renL, ren]) ρ m
  have hLm : (rowsC pff CaL m).length = pff + m.length * 5 := rowsC_len (f := CaL) (k := 5) (fun _ => rfl) m
  have hf := few_any off l hl
  have hg := few_any pff m hlm
  have hsp := speaks_any
  refine top_call c6_ok Try.func6 rfl Try.ntmps6 res6_ok [ .val (.slice ad l.length cap), .val (.slice bd m.length dap)] (by simp) (by (repeat' (first | exact VRs_nil' _ | exact VR_val' _ _ | (refine VRs_cons' ?_ ?_) | (refine VR_agg' (by first | rfl | assumption) ?_; first | assumption | simp [Value.oneCell', Ca8.rep])))) ?_; try simp (maxSteps := 9999999) (disch := omega) only [go_sem]
  refine AWpA.thawT 0 CaL hz (fun x => by simp [Ca8.rep]) rfl ?_
  refine AWpA.thawT 1 CaL hy (fun x => by simp [Ca8.rep]) rfl ?_
  cases hs : fewB l with
  | false =>
    rw [hs] at hf
    (have k9 := And.intro @hr (And.intro @hrm (k0)); (repeat' (first | refine AWpA.seq ?_ | refine AWpA.block ?_ | (with_reducible refine CondP.tt ?_) | (with_reducible refine CondP.ff ?_) | refine AWpA.cg ?_ | ((first | refine AWpA.rg ?_ | refine AWpA.dg [] [] follows ?_ | refine TailK.tg ?_ | refine AWpA.skip ?_ | refine AWpA.exit ?_ | refine AWpA.ret ?_ | (with_reducible refine ARoundsA.succ ?_) | ((first | refine Runs.gkt (fun h9 => ?_) | refine Runs.gkf (fun h9 => ?_) | refine Runs.gnt (fun h9 => ?_) | refine Runs.gnf (fun h9 => ?_) | refine CondP.gt (fun h9 => ?_) | refine CondP.gf (fun h9 => ?_) | refine CondP.gnt (fun h9 => ?_) | refine CondP.gnf (fun h9 => ?_)); (try simp only [h9]); clear h9) | refine CallG.pg [] (hsp) ?_ | refine CallG.pg [0] (hf) ?_ | refine CallG.dg [] (hsp) ?_ | refine CallG.dg [0] (hf) ?_); (try simp (maxSteps := 9999999) (disch := omega) only [go_sem, k9]); (try refine cnd ?_)) | ((first | refine CondP.split (fun hif => ?_) (fun hif => ?_) | refine Runs.part (fun hif => ?_) (fun hif => ?_)) <;> ((try simp only [hif]); (try simp only [BL] at hif); (try (have h9 : _ = true := hif; simp only [h9])); (try (have h9 : _ = false := hif; simp only [h9])); (try simp (maxSteps := 9999999) (disch := omega) only [go_sem, k9]); (try refine cnd ?_); (try (exfalso; omega; done)))))); (all_goals (try clear k9)))
    all_goals (refine TopPost.of (by first | exact .inl rfl | exact .inr rfl) (by (try simp (maxSteps := 9999999) (disch := omega) only [go_sem]); rfl) ?_; (try simp (maxSteps := 9999999) (disch := omega) only [go_sem]); (try (first | trivial | decide | (simp; done))))
  | true =>
  rw [hs] at hf
  cases hs' : fewB m with
  | false =>
    rw [hs'] at hg
    (have k9 := And.intro @hr (And.intro @hrm (k0)); (repeat' (first | refine AWpA.seq ?_ | refine AWpA.block ?_ | (with_reducible refine CondP.tt ?_) | (with_reducible refine CondP.ff ?_) | refine AWpA.cg ?_ | ((first | refine AWpA.rg ?_ | refine AWpA.dg [] [] follows ?_ | refine TailK.tg ?_ | refine AWpA.skip ?_ | refine AWpA.exit ?_ | refine AWpA.ret ?_ | (with_reducible refine ARoundsA.succ ?_) | ((first | refine Runs.gkt (fun h9 => ?_) | refine Runs.gkf (fun h9 => ?_) | refine Runs.gnt (fun h9 => ?_) | refine Runs.gnf (fun h9 => ?_) | refine CondP.gt (fun h9 => ?_) | refine CondP.gf (fun h9 => ?_) | refine CondP.gnt (fun h9 => ?_) | refine CondP.gnf (fun h9 => ?_)); (try simp only [h9]); clear h9) | refine CallG.pg [] (hsp) ?_ | refine CallG.pg [0] (hf) ?_ | refine CallG.pg [1] (hg) ?_ | refine CallG.dg [] (hsp) ?_ | refine CallG.dg [0] (hf) ?_ | refine CallG.dg [1] (hg) ?_); (try simp (maxSteps := 9999999) (disch := omega) only [go_sem, k9]); (try refine cnd ?_)) | ((first | refine CondP.split (fun hif => ?_) (fun hif => ?_) | refine Runs.part (fun hif => ?_) (fun hif => ?_)) <;> ((try simp only [hif]); (try simp only [BL] at hif); (try (have h9 : _ = true := hif; simp only [h9])); (try (have h9 : _ = false := hif; simp only [h9])); (try simp (maxSteps := 9999999) (disch := omega) only [go_sem, k9]); (try refine cnd ?_); (try (exfalso; omega; done)))))); (all_goals (try clear k9)))
    all_goals (refine TopPost.of (by first | exact .inl rfl | exact .inr rfl) (by (try simp (maxSteps := 9999999) (disch := omega) only [go_sem]); rfl) ?_; (try simp (maxSteps := 9999999) (disch := omega) only [go_sem]); (try (first | trivial | decide | (simp; done))))
  | true =>
  rw [hs'] at hg
  have n1 := tnew_ok 20 (by decide)
  have n2 := rnew_any 20
  rw [decide_eq_false (by decide)] at n2
  have h60 : l.length ≤ 60 := by unfold fewB at hs; simp at hs; exact hs.2
  have h60m : m.length ≤ 60 := by unfold fewB at hs'; simp at hs'; exact hs'.2
  clear hs hs' hz hy
  refine AWpA.dummy ?_
  refine AWpA.dummy ?_
  (have k9 := And.intro @hr (And.intro @hrm (k0)); (repeat' (first | refine AWpA.seq ?_ | refine AWpA.block ?_ | (with_reducible refine CondP.tt ?_) | (with_reducible refine CondP.ff ?_) | refine AWpA.cg ?_ | ((first | refine AWpA.rg ?_ | refine AWpA.dg [] [] follows ?_ | refine TailK.tg ?_ | refine AWpA.skip ?_ | refine AWpA.exit ?_ | refine AWpA.ret ?_ | (with_reducible refine ARoundsA.succ ?_) | ((first | refine Runs.gkt (fun h9 => ?_) | refine Runs.gkf (fun h9 => ?_) | refine Runs.gnt (fun h9 => ?_) | refine Runs.gnf (fun h9 => ?_) | refine CondP.gt (fun h9 => ?_) | refine CondP.gf (fun h9 => ?_) | refine CondP.gnt (fun h9 => ?_) | refine CondP.gnf (fun h9 => ?_)); (try simp only [h9]); clear h9) | refine CallG.pg [] (hsp) ?_ | refine CallG.pg [0] (hf) ?_ | refine CallG.pg [1] (hg) ?_ | refine CallG.pg [] (n1) ?_ | refine CallG.pg [] (n2) ?_ | refine CallG.dg [] (hsp) ?_ | refine CallG.dg [0] (hf) ?_ | refine CallG.dg [1] (hg) ?_ | refine CallG.dg [] (n1) ?_ | refine CallG.dg [] (n2) ?_); (try simp (maxSteps := 9999999) (disch := omega) only [go_sem, k9]); (try refine cnd ?_)) | ((first | refine CondP.split (fun hif => ?_) (fun hif => ?_) | refine Runs.part (fun hif => ?_) (fun hif => ?_)) <;> ((try simp only [hif]); (try simp only [BL] at hif); (try (have h9 : _ = true := hif; simp only [h9])); (try (have h9 : _ = false := hif; simp only [h9])); (try simp (maxSteps := 9999999) (disch := omega) only [go_sem, k9]); (try refine cnd ?_); (try (exfalso; omega; done)))))); (all_goals (try clear k9)))
  (apply AWpA.loopL (fun p : Nat × Tb => [(1, .sl 1 pff m.length 5 none), (5, .ptr 2 0), (7, .ptr 4 0), (43, .sl 0 off l.length 5 none), (44, I l.length), (45, I p.1)]) (fun p => [.cells true (rowsC off CaL l), .cells true (rowsC pff CaL m), TbO 3 p.2, .cells false (Rp 0 p.2.l), .cells false [I p.2.room, .sl 5 0 p.2.l.length 2 none], .cells false (Rp 0 p.2.l)]) (fun p => l.length - p.1) (fun p => p.1 ≤ l.length ∧ p.2.ok ∧ (p.2.l.length : Int) ≤ p.2.room ∧ p.2.room ≤ 4096) ((0, ⟨20, []⟩)) [0, 1, _, 2, _, 3]; rotate_left; (focus (simp (maxSteps := 9999999) (disch := omega) only [go_sem, hr, hrm, rp_nil]; (try (repeat' (first | done | trivial | rfl | exact leAs_rfl _ | decide | (refine And.intro ?_ ?_) | (simp; done) | omega | (simp; decide)))))); rotate_right)
  · exact ⟨Nat.zero_le _, ⟨List.Pairwise.nil, by simp⟩, by simp, by simp⟩
  rintro ⟨i, t⟩ ⟨hi, hok, hrm2, h4⟩
  (try simp only at hi hok hrm2 h4)
  have hrp := rp_ren 0
  by_cases hin : i < l.length
  · have k1 : ((i : Int) < (l.length : Int)) = True := eq_true (by omega)
    have hat : ((rowsC off CaL l).drop (off + i * 5)).take 5 = CaL l[i] := rowsC_at (f := CaL) (k := 5) (fun _ => rfl) l i hin
    generalize l[i] = x at *
    have c1 := do_any t x.kind x.v x.n x.key x.frm hok hrm2
    obtain ⟨hok2, hrm3, he2⟩ := act_ok hok hrm2 h4 x.kind x.v x.key
    have h42 : (actT t x.kind x.v x.key).room ≤ 4096 := by omega
    generalize actT t x.kind x.v x.key = u at *
    clear he2 n1 n2 hf hg hsp
    (try simp (maxSteps := 9999999) (disch := omega) only [go_sem])
    (have k9 := And.intro @hr (And.intro @hrm (And.intro @hrp (And.intro @hL (And.intro @k1 (And.intro @hat (k0)))))); (repeat' (first | refine AWpA.seq ?_ | refine AWpA.block ?_ | (with_reducible refine CondP.tt ?_) | (with_reducible refine CondP.ff ?_) | refine AWpA.cg ?_ | ((first | refine AWpA.rg ?_ | refine AWpA.dg [] [] follows ?_ | refine TailK.tg ?_ | refine AWpA.skip ?_ | refine AWpA.exit ?_ | refine AWpA.ret ?_ | (with_reducible refine ARoundsA.succ ?_) | ((first | refine Runs.gkt (fun h9 => ?_) | refine Runs.gkf (fun h9 => ?_) | refine Runs.gnt (fun h9 => ?_) | refine Runs.gnf (fun h9 => ?_) | refine CondP.gt (fun h9 => ?_) | refine CondP.gf (fun h9 => ?_) | refine CondP.gnt (fun h9 => ?_) | refine CondP.gnf (fun h9 => ?_)); (try simp only [h9]); clear h9) | refine CallG.pg [2, 3, 5] (c1) ?_ | refine CallG.dg [2, 3, 5] (c1) ?_); (try simp (maxSteps := 9999999) (disch := omega) only [go_sem, k9]); (try refine cnd ?_)) | ((first | refine CondP.split (fun hif => ?_) (fun hif => ?_) | refine Runs.part (fun hif => ?_) (fun hif => ?_)) <;> ((try simp only [hif]); (try simp only [BL] at hif); (try (have h9 : _ = true := hif; simp only [h9])); (try (have h9 : _ = false := hif; simp only [h9])); (try simp (maxSteps := 9999999) (disch := omega) only [go_sem, k9]); (try refine cnd ?_); (try (exfalso; omega; done)))))); (all_goals (try clear k9)))
    (apply Back.to (i + 1, u) [0, 1, 2, 134, 4, 135]; (focus ((try simp (maxSteps := 9999999) (disch := omega) only [go_sem, hr, hrm, hrp]); first | done | omega)); rotate_left; (focus (simp (maxSteps := 9999999) (disch := omega) only [go_sem, hr, hrm, hrp]; (try (repeat' (first | done | trivial | rfl | exact leAs_rfl _ | decide | (refine And.intro ?_ ?_) | (simp; done) | omega | (simp; decide)))))))
    exact ⟨by simp only; omega, hok2, hrm3, h42⟩
  obtain rfl : i = l.length := by omega
  have k1 : ((l.length : Int) < (l.length : Int)) = False := eq_false (by omega)
  have c1 := tcopy_any t hok.2
  have c2 := tis_any t hok
  clear n1 n2 hf hg hsp
  (try simp (maxSteps := 9999999) (disch := omega) only [go_sem])
  (have k9 := And.intro @hr (And.intro @hrm (And.intro @hrp (And.intro @hL (And.intro @k1 (k0))))); (repeat' (first | refine AWpA.seq ?_ | refine AWpA.block ?_ | (with_reducible refine CondP.tt ?_) | (with_reducible refine CondP.ff ?_) | refine AWpA.cg ?_ | ((first | refine AWpA.rg ?_ | refine AWpA.dg [] [] follows ?_ | refine TailK.tg ?_ | refine AWpA.skip ?_ | refine AWpA.exit ?_ | refine AWpA.ret ?_ | (with_reducible refine ARoundsA.succ ?_) | ((first | refine Runs.gkt (fun h9 => ?_) | refine Runs.gkf (fun h9 => ?_) | refine Runs.gnt (fun h9 => ?_) | refine Runs.gnf (fun h9 => ?_) | refine CondP.gt (fun h9 => ?_) | refine CondP.gf (fun h9 => ?_) | refine CondP.gnt (fun h9 => ?_) | refine CondP.gnf (fun h9 => ?_)); (try simp only [h9]); clear h9) | refine CallG.pg [2, 3] (c1) ?_ | refine CallG.pg [38, 39, 5] (c2) ?_ | refine CallG.dg [2, 3] (c1) ?_ | refine CallG.dg [38, 39, 5] (c2) ?_); (try simp (maxSteps := 9999999) (disch := omega) only [go_sem, k9]); (try refine cnd ?_)) | ((first | refine CondP.split (fun hif => ?_) (fun hif => ?_) | refine Runs.part (fun hif => ?_) (fun hif => ?_)) <;> ((try simp only [hif]); (try simp only [BL] at hif); (try (have h9 : _ = true := hif; simp only [h9])); (try (have h9 : _ = false := hif; simp only [h9])); (try simp (maxSteps := 9999999) (disch := omega) only [go_sem, k9]); (try refine cnd ?_); (try (exfalso; omega; done)))))); (all_goals (try clear k9)))
  clear c1 c2 k1 hr hL hin hi
  (apply AWpA.loopL (fun p : Nat × Tb × Tb × Bool => [(5, .ptr 1 0), (7, .ptr 3 0), (11, .ptr 5 0), (12, .ptr 7 0), (68, .sl 0 pff m.length 5 none), (69, I m.length), (70, I p.1)]) (fun p => [.cells true (rowsC pff CaL m), TbO 2 p.2.1, .cells false (Rp 0 p.2.1.l), .cells false [I p.2.1.room, .sl 4 0 p.2.1.l.length 2 none], .cells false (Rp 0 p.2.1.l), TbO 6 p.2.2.1, .cells false (Rp 0 p.2.2.1.l), .cells false [I p.2.2.1.room, .sl (cond p.2.2.2 4 8) 0 p.2.2.1.l.length 2 none], cond p.2.2.2 .gone (.cells false (Rp 0 p.2.2.1.l))]) (fun p => m.length - p.1) (fun p => p.1 ≤ m.length ∧ (p.2.1.ok ∧ (p.2.1.l.length : Int) ≤ p.2.1.room ∧ p.2.1.room ≤ 4096) ∧ (p.2.2.1.ok ∧ (p.2.2.1.l.length : Int) ≤ p.2.2.1.room ∧ p.2.2.1.room ≤ 4096) ∧ (p.2.2.2 = true → p.2.2.1 = p.2.1)) ((0, t, t, true)) [1, 2, 3, 4, 5, 38, 39, 70, 0]; rotate_left; (focus (simp (maxSteps := 9999999) (disch := omega) only [go_sem, hrm, hrp, cond_true, cond_false]; (try (repeat' (first | done | trivial | rfl | exact leAs_rfl _ | decide | (refine And.intro ?_ ?_) | (simp; done) | omega | (simp; decide)))))); rotate_right)
  · exact ⟨Nat.zero_le _, ⟨hok, hrm2, h4⟩, ⟨hok, hrm2, h4⟩, fun _ => rfl⟩
  clear hok hrm2 h4
  clear t
  rintro ⟨i, u, w, sh⟩ ⟨hi, ⟨hu1, hu2, hu3⟩, ⟨hw1, hw2, hw3⟩, hsh⟩
  (try simp only at hi hu1 hu2 hu3 hw1 hw2 hw3 hsh)
  by_cases hin : i < m.length
  case neg =>
    obtain rfl : i = m.length := by omega
    have k1 : ((m.length : Int) < (m.length : Int)) = False := eq_false (by omega)
    cases sh
    all_goals
      simp only [cond_true, cond_false]
      (try simp (maxSteps := 9999999) (disch := omega) only [go_sem])
      (have k9 := And.intro @hrm (And.intro @hrp (And.intro @k1 (k0))); (repeat' (first | refine AWpA.seq ?_ | refine AWpA.block ?_ | (with_reducible refine CondP.tt ?_) | (with_reducible refine CondP.ff ?_) | refine AWpA.cg ?_ | ((first | refine AWpA.rg ?_ | refine AWpA.dg [] [] follows ?_ | refine TailK.tg ?_ | refine AWpA.skip ?_ | refine AWpA.exit ?_ | refine AWpA.ret ?_ | (with_reducible refine ARoundsA.succ ?_) | ((first | refine Runs.gkt (fun h9 => ?_) | refine Runs.gkf (fun h9 => ?_) | refine Runs.gnt (fun h9 => ?_) | refine Runs.gnf (fun h9 => ?_) | refine CondP.gt (fun h9 => ?_) | refine CondP.gf (fun h9 => ?_) | refine CondP.gnt (fun h9 => ?_) | refine CondP.gnf (fun h9 => ?_)); (try simp only [h9]); clear h9)); (try simp (maxSteps := 9999999) (disch := omega) only [go_sem, k9]); (try refine cnd ?_)) | ((first | refine CondP.split (fun hif => ?_) (fun hif => ?_) | refine Runs.part (fun hif => ?_) (fun hif => ?_)) <;> ((try simp only [hif]); (try simp only [BL] at hif); (try (have h9 : _ = true := hif; simp only [h9])); (try (have h9 : _ = false := hif; simp only [h9])); (try simp (maxSteps := 9999999) (disch := omega) only [go_sem, k9]); (try refine cnd ?_); (try (exfalso; omega; done)))))); (all_goals (try clear k9)))
      (refine TopPost.of (by first | exact .inl rfl | exact .inr rfl) (by (try simp (maxSteps := 9999999) (disch := omega) only [go_sem]); rfl) ?_; (try simp (maxSteps := 9999999) (disch := omega) only [go_sem]); (try (first | trivial | decide | (simp; done))))
  have k1 : ((i : Int) < (m.length : Int)) = True := eq_true (by omega)
  have hat : ((rowsC pff CaL m).drop (pff + i * 5)).take 5 = CaL m[i] := rowsC_at (f := CaL) (k := 5) (fun _ => rfl) m i hin
  have kr := rem_two i
  generalize m[i] = x at *
  have cu := tis_any u hu1
  have cw := tis_any w hw1
  cases sh with
  | true =>
    obtain rfl := hsh rfl
    simp only [cond_true, cond_false]
    by_cases hp : i % 2 = 0
    · have k2 : (((i % 2 : Nat) : Int) = 0) = True := eq_true (by omega)
      cases hk : keepB w x.kind x.key with
      | true =>
        have c1 := doK_any w x.kind x.v x.n x.key x.frm hw1 hk
        (try simp (maxSteps := 9999999) (disch := omega) only [go_sem])
        (have k9 := And.intro @hrm (And.intro @hrp (And.intro @hLm (And.intro @k1 (And.intro @hat (And.intro @kr (And.intro @k2 (k0))))))); (repeat' (first | refine AWpA.seq ?_ | refine AWpA.block ?_ | (with_reducible refine CondP.tt ?_) | (with_reducible refine CondP.ff ?_) | refine AWpA.cg ?_ | ((first | refine AWpA.rg ?_ | refine AWpA.dg [] [] follows ?_ | refine TailK.tg ?_ | refine AWpA.skip ?_ | refine AWpA.exit ?_ | refine AWpA.ret ?_ | (with_reducible refine ARoundsA.succ ?_) | ((first | refine Runs.gkt (fun h9 => ?_) | refine Runs.gkf (fun h9 => ?_) | refine Runs.gnt (fun h9 => ?_) | refine Runs.gnf (fun h9 => ?_) | refine CondP.gt (fun h9 => ?_) | refine CondP.gf (fun h9 => ?_) | refine CondP.gnt (fun h9 => ?_) | refine CondP.gnf (fun h9 => ?_)); (try simp only [h9]); clear h9) | refine CallG.pg [5, 6, 4] (c1) ?_ | refine CallG.pg [5, 233, 4] (cw) ?_ | refine CallG.pg [1, 2, 4] (cw) ?_ | refine CallG.dg [5, 6, 4] (c1) ?_ | refine CallG.dg [5, 233, 4] (cw) ?_ | refine CallG.dg [1, 2, 4] (cw) ?_); (try simp (maxSteps := 9999999) (disch := omega) only [go_sem, k9]); (try refine cnd ?_)) | ((first | refine CondP.split (fun hif => ?_) (fun hif => ?_) | refine Runs.part (fun hif => ?_) (fun hif => ?_)) <;> ((try simp only [hif]); (try simp only [BL] at hif); (try (have h9 : _ = true := hif; simp only [h9])); (try (have h9 : _ = false := hif; simp only [h9])); (try simp (maxSteps := 9999999) (disch := omega) only [go_sem, k9]); (try refine cnd ?_); (try (exfalso; omega; done)))))); (all_goals (try clear k9)))
        (apply Back.to (i + 1, w, w, true) [0, 1, 2, 3, 4, 5, 233, 7, 0]; (focus ((try simp (maxSteps := 9999999) (disch := omega) only [go_sem, hrm, hrp, cond_true, cond_false]); first | done | omega)); rotate_left; (focus (simp (maxSteps := 9999999) (disch := omega) only [go_sem, hrm, hrp, cond_true, cond_false]; (try (repeat' (first | done | trivial | rfl | exact leAs_rfl _ | decide | (refine And.intro ?_ ?_) | (simp; done) | omega | (simp; decide)))))))
        exact ⟨by simp only; omega, ⟨hw1, hw2, hw3⟩, ⟨hw1, hw2, hw3⟩, fun _ => rfl⟩
      | false =>
        have c1 := doN_any w x.kind x.v x.n x.key x.frm hw1 hw2 hk
        obtain ⟨hok2, hrm3, he2⟩ := act_ok hw1 hw2 hw3 x.kind x.v x.key
        have h42 : (actT w x.kind x.v x.key).room ≤ 4096 := by omega
        generalize actT w x.kind x.v x.key = y at *
        have cy := tis_any y hok2
        clear he2
        (try simp (maxSteps := 9999999) (disch := omega) only [go_sem])
        (have k9 := And.intro @hrm (And.intro @hrp (And.intro @hLm (And.intro @k1 (And.intro @hat (And.intro @kr (And.intro @k2 (k0))))))); (repeat' (first | refine AWpA.seq ?_ | refine AWpA.block ?_ | (with_reducible refine CondP.tt ?_) | (with_reducible refine CondP.ff ?_) | refine AWpA.cg ?_ | ((first | refine AWpA.rg ?_ | refine AWpA.dg [] [] follows ?_ | refine TailK.tg ?_ | refine AWpA.skip ?_ | refine AWpA.exit ?_ | refine AWpA.ret ?_ | (with_reducible refine ARoundsA.succ ?_) | ((first | refine Runs.gkt (fun h9 => ?_) | refine Runs.gkf (fun h9 => ?_) | refine Runs.gnt (fun h9 => ?_) | refine Runs.gnf (fun h9 => ?_) | refine CondP.gt (fun h9 => ?_) | refine CondP.gf (fun h9 => ?_) | refine CondP.gnt (fun h9 => ?_) | refine CondP.gnf (fun h9 => ?_)); (try simp only [h9]); clear h9) | refine CallG.pg [5, 6, 4] (c1) ?_ | refine CallG.pg [5, 233, 234] (cy) ?_ | refine CallG.pg [1, 2, 4] (cw) ?_ | refine CallG.dg [5, 6, 4] (c1) ?_ | refine CallG.dg [5, 233, 234] (cy) ?_ | refine CallG.dg [1, 2, 4] (cw) ?_); (try simp (maxSteps := 9999999) (disch := omega) only [go_sem, k9]); (try refine cnd ?_)) | ((first | refine CondP.split (fun hif => ?_) (fun hif => ?_) | refine Runs.part (fun hif => ?_) (fun hif => ?_)) <;> ((try simp only [hif]); (try simp only [BL] at hif); (try (have h9 : _ = true := hif; simp only [h9])); (try (have h9 : _ = false := hif; simp only [h9])); (try simp (maxSteps := 9999999) (disch := omega) only [go_sem, k9]); (try refine cnd ?_); (try (exfalso; omega; done)))))); (all_goals (try clear k9)))
        (apply Back.to (i + 1, w, y, false) [0, 1, 2, 3, 4, 5, 233, 7, 234]; (focus ((try simp (maxSteps := 9999999) (disch := omega) only [go_sem, hrm, hrp, cond_true, cond_false]); first | done | omega)); rotate_left; (focus (simp (maxSteps := 9999999) (disch := omega) only [go_sem, hrm, hrp, cond_true, cond_false]; (try (repeat' (first | done | trivial | rfl | exact leAs_rfl _ | decide | (refine And.intro ?_ ?_) | (simp; done) | omega | (simp; decide)))))))
        exact ⟨by simp only; omega, ⟨hw1, hw2, hw3⟩, ⟨hok2, hrm3, h42⟩, fun h => by cases h⟩
    · have k2 : (((i % 2 : Nat) : Int) = 0) = False := eq_false (by omega)
      cases hk : keepB w x.kind x.key with
      | true =>
        have c1 := doK_any w x.kind x.v x.n x.key x.frm hw1 hk
        (try simp (maxSteps := 9999999) (disch := omega) only [go_sem])
        (have k9 := And.intro @hrm (And.intro @hrp (And.intro @hLm (And.intro @k1 (And.intro @hat (And.intro @kr (And.intro @k2 (k0))))))); (repeat' (first | refine AWpA.seq ?_ | refine AWpA.block ?_ | (with_reducible refine CondP.tt ?_) | (with_reducible refine CondP.ff ?_) | refine AWpA.cg ?_ | ((first | refine AWpA.rg ?_ | refine AWpA.dg [] [] follows ?_ | refine TailK.tg ?_ | refine AWpA.skip ?_ | refine AWpA.exit ?_ | refine AWpA.ret ?_ | (with_reducible refine ARoundsA.succ ?_) | ((first | refine Runs.gkt (fun h9 => ?_) | refine Runs.gkf (fun h9 => ?_) | refine Runs.gnt (fun h9 => ?_) | refine Runs.gnf (fun h9 => ?_) | refine CondP.gt (fun h9 => ?_) | refine CondP.gf (fun h9 => ?_) | refine CondP.gnt (fun h9 => ?_) | refine CondP.gnf (fun h9 => ?_)); (try simp only [h9]); clear h9) | refine CallG.pg [1, 2, 4] (c1) ?_ | refine CallG.pg [5, 6, 4] (cw) ?_ | refine CallG.pg [1, 233, 4] (cw) ?_ | refine CallG.dg [1, 2, 4] (c1) ?_ | refine CallG.dg [5, 6, 4] (cw) ?_ | refine CallG.dg [1, 233, 4] (cw) ?_); (try simp (maxSteps := 9999999) (disch := omega) only [go_sem, k9]); (try refine cnd ?_)) | ((first | refine CondP.split (fun hif => ?_) (fun hif => ?_) | refine Runs.part (fun hif => ?_) (fun hif => ?_)) <;> ((try simp only [hif]); (try simp only [BL] at hif); (try (have h9 : _ = true := hif; simp only [h9])); (try (have h9 : _ = false := hif; simp only [h9])); (try simp (maxSteps := 9999999) (disch := omega) only [go_sem, k9]); (try refine cnd ?_); (try (exfalso; omega; done)))))); (all_goals (try clear k9)))
        (apply Back.to (i + 1, w, w, true) [0, 1, 233, 3, 4, 5, 6, 7, 0]; (focus ((try simp (maxSteps := 9999999) (disch := omega) only [go_sem, hrm, hrp, cond_true, cond_false]); first | done | omega)); rotate_left; (focus (simp (maxSteps := 9999999) (disch := omega) only [go_sem, hrm, hrp, cond_true, cond_false]; (try (repeat' (first | done | trivial | rfl | exact leAs_rfl _ | decide | (refine And.intro ?_ ?_) | (simp; done) | omega | (simp; decide)))))))
        exact ⟨by simp only; omega, ⟨hw1, hw2, hw3⟩, ⟨hw1, hw2, hw3⟩, fun _ => rfl⟩
      | false =>
        have c1 := doN_any w x.kind x.v x.n x.key x.frm hw1 hw2 hk
        obtain ⟨hok2, hrm3, he2⟩ := act_ok hw1 hw2 hw3 x.kind x.v x.key
        have h42 : (actT w x.kind x.v x.key).room ≤ 4096 := by omega
        generalize actT w x.kind x.v x.key = y at *
        have cy := tis_any y hok2
        clear he2
        (try simp (maxSteps := 9999999) (disch := omega) only [go_sem])
        (have k9 := And.intro @hrm (And.intro @hrp (And.intro @hLm (And.intro @k1 (And.intro @hat (And.intro @kr (And.intro @k2 (k0))))))); (repeat' (first | refine AWpA.seq ?_ | refine AWpA.block ?_ | (with_reducible refine CondP.tt ?_) | (with_reducible refine CondP.ff ?_) | refine AWpA.cg ?_ | ((first | refine AWpA.rg ?_ | refine AWpA.dg [] [] follows ?_ | refine TailK.tg ?_ | refine AWpA.skip ?_ | refine AWpA.exit ?_ | refine AWpA.ret ?_ | (with_reducible refine ARoundsA.succ ?_) | ((first | refine Runs.gkt (fun h9 => ?_) | refine Runs.gkf (fun h9 => ?_) | refine Runs.gnt (fun h9 => ?_) | refine Runs.gnf (fun h9 => ?_) | refine CondP.gt (fun h9 => ?_) | refine CondP.gf (fun h9 => ?_) | refine CondP.gnt (fun h9 => ?_) | refine CondP.gnf (fun h9 => ?_)); (try simp only [h9]); clear h9) | refine CallG.pg [1, 2, 4] (c1) ?_ | refine CallG.pg [5, 6, 4] (cw) ?_ | refine CallG.pg [1, 233, 234] (cy) ?_ | refine CallG.dg [1, 2, 4] (c1) ?_ | refine CallG.dg [5, 6, 4] (cw) ?_ | refine CallG.dg [1, 233, 234] (cy) ?_); (try simp (maxSteps := 9999999) (disch := omega) only [go_sem, k9]); (try refine cnd ?_)) | ((first | refine CondP.split (fun hif => ?_) (fun hif => ?_) | refine Runs.part (fun hif => ?_) (fun hif => ?_)) <;> ((try simp only [hif]); (try simp only [BL] at hif); (try (have h9 : _ = true := hif; simp only [h9])); (try (have h9 : _ = false := hif; simp only [h9])); (try simp (maxSteps := 9999999) (disch := omega) only [go_sem, k9]); (try refine cnd ?_); (try (exfalso; omega; done)))))); (all_goals (try clear k9)))
        (apply Back.to (i + 1, y, w, false) [0, 1, 233, 3, 234, 5, 6, 7, 4]; (focus ((try simp (maxSteps := 9999999) (disch := omega) only [go_sem, hrm, hrp, cond_true, cond_false]); first | done | omega)); rotate_left; (focus (simp (maxSteps := 9999999) (disch := omega) only [go_sem, hrm, hrp, cond_true, cond_false]; (try (repeat' (first | done | trivial | rfl | exact leAs_rfl _ | decide | (refine And.intro ?_ ?_) | (simp; done) | omega | (simp; decide)))))))
        exact ⟨by simp only; omega, ⟨hok2, hrm3, h42⟩, ⟨hw1, hw2, hw3⟩, fun h => by cases h⟩
  | false =>
    clear hsh
    simp only [cond_true, cond_false]
    by_cases hp : i % 2 = 0
    · have k2 : (((i % 2 : Nat) : Int) = 0) = True := eq_true (by omega)
      cases hk : keepB w x.kind x.key with
      | true =>
        have c1 := doK_any w x.kind x.v x.n x.key x.frm hw1 hk
        (try simp (maxSteps := 9999999) (disch := omega) only [go_sem])
        (have k9 := And.intro @hrm (And.intro @hrp (And.intro @hLm (And.intro @k1 (And.intro @hat (And.intro @kr (And.intro @k2 (k0))))))); (repeat' (first | refine AWpA.seq ?_ | refine AWpA.block ?_ | (with_reducible refine CondP.tt ?_) | (with_reducible refine CondP.ff ?_) | refine AWpA.cg ?_ | ((first | refine AWpA.rg ?_ | refine AWpA.dg [] [] follows ?_ | refine TailK.tg ?_ | refine AWpA.skip ?_ | refine AWpA.exit ?_ | refine AWpA.ret ?_ | (with_reducible refine ARoundsA.succ ?_) | ((first | refine Runs.gkt (fun h9 => ?_) | refine Runs.gkf (fun h9 => ?_) | refine Runs.gnt (fun h9 => ?_) | refine Runs.gnf (fun h9 => ?_) | refine CondP.gt (fun h9 => ?_) | refine CondP.gf (fun h9 => ?_) | refine CondP.gnt (fun h9 => ?_) | refine CondP.gnf (fun h9 => ?_)); (try simp only [h9]); clear h9) | refine CallG.pg [5, 6, 8] (c1) ?_ | refine CallG.pg [5, 233, 8] (cw) ?_ | refine CallG.pg [1, 2, 4] (cu) ?_ | refine CallG.dg [5, 6, 8] (c1) ?_ | refine CallG.dg [5, 233, 8] (cw) ?_ | refine CallG.dg [1, 2, 4] (cu) ?_); (try simp (maxSteps := 9999999) (disch := omega) only [go_sem, k9]); (try refine cnd ?_)) | ((first | refine CondP.split (fun hif => ?_) (fun hif => ?_) | refine Runs.part (fun hif => ?_) (fun hif => ?_)) <;> ((try simp only [hif]); (try simp only [BL] at hif); (try (have h9 : _ = true := hif; simp only [h9])); (try (have h9 : _ = false := hif; simp only [h9])); (try simp (maxSteps := 9999999) (disch := omega) only [go_sem, k9]); (try refine cnd ?_); (try (exfalso; omega; done)))))); (all_goals (try clear k9)))
        (apply Back.to (i + 1, u, w, false) [0, 1, 2, 3, 4, 5, 233, 7, 8]; (focus ((try simp (maxSteps := 9999999) (disch := omega) only [go_sem, hrm, hrp, cond_true, cond_false]); first | done | omega)); rotate_left; (focus (simp (maxSteps := 9999999) (disch := omega) only [go_sem, hrm, hrp, cond_true, cond_false]; (try (repeat' (first | done | trivial | rfl | exact leAs_rfl _ | decide | (refine And.intro ?_ ?_) | (simp; done) | omega | (simp; decide)))))))
        exact ⟨by simp only; omega, ⟨hu1, hu2, hu3⟩, ⟨hw1, hw2, hw3⟩, fun h => by cases h⟩
      | false =>
        have c1 := doN_any w x.kind x.v x.n x.key x.frm hw1 hw2 hk
        obtain ⟨hok2, hrm3, he2⟩ := act_ok hw1 hw2 hw3 x.kind x.v x.key
        have h42 : (actT w x.kind x.v x.key).room ≤ 4096 := by omega
        generalize actT w x.kind x.v x.key = y at *
        have cy := tis_any y hok2
        clear he2
        (try simp (maxSteps := 9999999) (disch := omega) only [go_sem])
        (have k9 := And.intro @hrm (And.intro @hrp (And.intro @hLm (And.intro @k1 (And.intro @hat (And.intro @kr (And.intro @k2 (k0))))))); (repeat' (first | refine AWpA.seq ?_ | refine AWpA.block ?_ | (with_reducible refine CondP.tt ?_) | (with_reducible refine CondP.ff ?_) | refine AWpA.cg ?_ | ((first | refine AWpA.rg ?_ | refine AWpA.dg [] [] follows ?_ | refine TailK.tg ?_ | refine AWpA.skip ?_ | refine AWpA.exit ?_ | refine AWpA.ret ?_ | (with_reducible refine ARoundsA.succ ?_) | ((first | refine Runs.gkt (fun h9 => ?_) | refine Runs.gkf (fun h9 => ?_) | refine Runs.gnt (fun h9 => ?_) | refine Runs.gnf (fun h9 => ?_) | refine CondP.gt (fun h9 => ?_) | refine CondP.gf (fun h9 => ?_) | refine CondP.gnt (fun h9 => ?_) | refine CondP.gnf (fun h9 => ?_)); (try simp only [h9]); clear h9) | refine CallG.pg [5, 6, 8] (c1) ?_ | refine CallG.pg [5, 233, 234] (cy) ?_ | refine CallG.pg [1, 2, 4] (cu) ?_ | refine CallG.dg [5, 6, 8] (c1) ?_ | refine CallG.dg [5, 233, 234] (cy) ?_ | refine CallG.dg [1, 2, 4] (cu) ?_); (try simp (maxSteps := 9999999) (disch := omega) only [go_sem, k9]); (try refine cnd ?_)) | ((first | refine CondP.split (fun hif => ?_) (fun hif => ?_) | refine Runs.part (fun hif => ?_) (fun hif => ?_)) <;> ((try simp only [hif]); (try simp only [BL] at hif); (try (have h9 : _ = true := hif; simp only [h9])); (try (have h9 : _ = false := hif; simp only [h9])); (try simp (maxSteps := 9999999) (disch := omega) only [go_sem, k9]); (try refine cnd ?_); (try (exfalso; omega; done)))))); (all_goals (try clear k9)))
        (apply Back.to (i + 1, u, y, false) [0, 1, 2, 3, 4, 5, 233, 7, 234]; (focus ((try simp (maxSteps := 9999999) (disch := omega) only [go_sem, hrm, hrp, cond_true, cond_false]); first | done | omega)); rotate_left; (focus (simp (maxSteps := 9999999) (disch := omega) only [go_sem, hrm, hrp, cond_true, cond_false]; (try (repeat' (first | done | trivial | rfl | exact leAs_rfl _ | decide | (refine And.intro ?_ ?_) | (simp; done) | omega | (simp; decide)))))))
        exact ⟨by simp only; omega, ⟨hu1, hu2, hu3⟩, ⟨hok2, hrm3, h42⟩, fun h => by cases h⟩
    · have k2 : (((i % 2 : Nat) : Int) = 0) = False := eq_false (by omega)
      cases hk : keepB u x.kind x.key with
      | true =>
        have c1 := doK_any u x.kind x.v x.n x.key x.frm hu1 hk
        (try simp (maxSteps := 9999999) (disch := omega) only [go_sem])
        (have k9 := And.intro @hrm (And.intro @hrp (And.intro @hLm (And.intro @k1 (And.intro @hat (And.intro @kr (And.intro @k2 (k0))))))); (repeat' (first | refine AWpA.seq ?_ | refine AWpA.block ?_ | (with_reducible refine CondP.tt ?_) | (with_reducible refine CondP.ff ?_) | refine AWpA.cg ?_ | ((first | refine AWpA.rg ?_ | refine AWpA.dg [] [] follows ?_ | refine TailK.tg ?_ | refine AWpA.skip ?_ | refine AWpA.exit ?_ | refine AWpA.ret ?_ | (with_reducible refine ARoundsA.succ ?_) | ((first | refine Runs.gkt (fun h9 => ?_) | refine Runs.gkf (fun h9 => ?_) | refine Runs.gnt (fun h9 => ?_) | refine Runs.gnf (fun h9 => ?_) | refine CondP.gt (fun h9 => ?_) | refine CondP.gf (fun h9 => ?_) | refine CondP.gnt (fun h9 => ?_) | refine CondP.gnf (fun h9 => ?_)); (try simp only [h9]); clear h9) | refine CallG.pg [1, 2, 4] (c1) ?_ | refine CallG.pg [5, 6, 8] (cw) ?_ | refine CallG.pg [1, 233, 4] (cu) ?_ | refine CallG.dg [1, 2, 4] (c1) ?_ | refine CallG.dg [5, 6, 8] (cw) ?_ | refine CallG.dg [1, 233, 4] (cu) ?_); (try simp (maxSteps := 9999999) (disch := omega) only [go_sem, k9]); (try refine cnd ?_)) | ((first | refine CondP.split (fun hif => ?_) (fun hif => ?_) | refine Runs.part (fun hif => ?_) (fun hif => ?_)) <;> ((try simp only [hif]); (try simp only [BL] at hif); (try (have h9 : _ = true := hif; simp only [h9])); (try (have h9 : _ = false := hif; simp only [h9])); (try simp (maxSteps := 9999999) (disch := omega) only [go_sem, k9]); (try refine cnd ?_); (try (exfalso; omega; done)))))); (all_goals (try clear k9)))
        (apply Back.to (i + 1, u, w, false) [0, 1, 233, 3, 4, 5, 6, 7, 8]; (focus ((try simp (maxSteps := 9999999) (disch := omega) only [go_sem, hrm, hrp, cond_true, cond_false]); first | done | omega)); rotate_left; (focus (simp (maxSteps := 9999999) (disch := omega) only [go_sem, hrm, hrp, cond_true, cond_false]; (try (repeat' (first | done | trivial | rfl | exact leAs_rfl _ | decide | (refine And.intro ?_ ?_) | (simp; done) | omega | (simp; decide)))))))
        exact ⟨by simp only; omega, ⟨hu1, hu2, hu3⟩, ⟨hw1, hw2, hw3⟩, fun h => by cases h⟩
      | false =>
        have c1 := doN_any u x.kind x.v x.n x.key x.frm hu1 hu2 hk
        obtain ⟨hok2, hrm3, he2⟩ := act_ok hu1 hu2 hu3 x.kind x.v x.key
        have h42 : (actT u x.kind x.v x.key).room ≤ 4096 := by omega
        generalize actT u x.kind x.v x.key = y at *
        have cy := tis_any y hok2
        clear he2
        (try simp (maxSteps := 9999999) (disch := omega) only [go_sem])
        (have k9 := And.intro @hrm (And.intro @hrp (And.intro @hLm (And.intro @k1 (And.intro @hat (And.intro @kr (And.intro @k2 (k0))))))); (repeat' (first | refine AWpA.seq ?_ | refine AWpA.block ?_ | (with_reducible refine CondP.tt ?_) | (with_reducible refine CondP.ff ?_) | refine AWpA.cg ?_ | ((first | refine AWpA.rg ?_ | refine AWpA.dg [] [] follows ?_ | refine TailK.tg ?_ | refine AWpA.skip ?_ | refine AWpA.exit ?_ | refine AWpA.ret ?_ | (with_reducible refine ARoundsA.succ ?_) | ((first | refine Runs.gkt (fun h9 => ?_) | refine Runs.gkf (fun h9 => ?_) | refine Runs.gnt (fun h9 => ?_) | refine Runs.gnf (fun h9 => ?_) | refine CondP.gt (fun h9 => ?_) | refine CondP.gf (fun h9 => ?_) | refine CondP.gnt (fun h9 => ?_) | refine CondP.gnf (fun h9 => ?_)); (try simp only [h9]); clear h9) | refine CallG.pg [1, 2, 4] (c1) ?_ | refine CallG.pg [5, 6, 8] (cw) ?_ | refine CallG.pg [1, 233, 234] (cy) ?_ | refine CallG.dg [1, 2, 4] (c1) ?_ | refine CallG.dg [5, 6, 8] (cw) ?_ | refine CallG.dg [1, 233, 234] (cy) ?_); (try simp (maxSteps := 9999999) (disch := omega) only [go_sem, k9]); (try refine cnd ?_)) | ((first | refine CondP.split (fun hif => ?_) (fun hif => ?_) | refine Runs.part (fun hif => ?_) (fun hif => ?_)) <;> ((try simp only [hif]); (try simp only [BL] at hif); (try (have h9 : _ = true := hif; simp only [h9])); (try (have h9 : _ = false := hif; simp only [h9])); (try simp (maxSteps := 9999999) (disch := omega) only [go_sem, k9]); (try refine cnd ?_); (try (exfalso; omega; done)))))); (all_goals (try clear k9)))
        (apply Back.to (i + 1, y, w, false) [0, 1, 233, 3, 234, 5, 6, 7, 8]; (focus ((try simp (maxSteps := 9999999) (disch := omega) only [go_sem, hrm, hrp, cond_true, cond_false]); first | done | omega)); rotate_left; (focus (simp (maxSteps := 9999999) (disch := omega) only [go_sem, hrm, hrp, cond_true, cond_false]; (try (repeat' (first | done | trivial | rfl | exact leAs_rfl _ | decide | (refine And.intro ?_ ?_) | (simp; done) | omega | (simp; decide)))))))
        exact ⟨by simp only; omega, ⟨hok2, hrm3, h42⟩, ⟨hw1, hw2, hw3⟩, fun h => by cases h⟩
end Go.Proofs.Ytodnlihbmgigjaa
