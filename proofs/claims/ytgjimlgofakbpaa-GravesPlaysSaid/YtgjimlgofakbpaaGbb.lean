/- The walk of GravesAny. -/
import Derived.Test.YtgjimlgofakbpaaGba
namespace Go.Proofs.Ytgjimlgofakbpaa
set_option linter.unusedSimpArgs false
set_option linter.unusedVariables false
set_option maxHeartbeats 4000000
open Go Go.Am Go.RowKit Go.ChangeShapes Go.WideShapes Go.ChangeAt
set_option maxRecDepth 100000
def St.rep (a : St) : List Value := (fun n : Int => [.int .i64 n]) a.c ++ (fun n : Int => [.int .i64 n]) a.s
structure St.ok (W : World) (a : St) : Prop where
  c : (fun n : Int => IntKind.i64.min ≤ n ∧ n ≤ IntKind.i64.max) a.c
  s : (fun n : Int => IntKind.i64.min ≤ n ∧ n ≤ IntKind.i64.max) a.s
set_option maxRecDepth 100000 in
theorem rd_St {H : Type} {enc : TypeId × Value → H} {W : World} {base : Nat} {held : Bool} : Rd enc Try.prog W base held 23 St.rep (St.ok W) := fun n cs x h => by
  obtain ⟨xs, n1, _, _, hlen, hx, hf⟩ := DataW.trod_struct Try.underlying23 h
  rw [show Try.prog.cellsOf 23 = 2 by kernel_rfl] at hlen
  have f0 : DataW.trod enc Try.prog W base (fun _ => true) held n1 3 ((cs.drop 0).take (Try.prog.cellsOf 3)) = xs[0]? := hf 0 _ rfl
  rw [show Try.prog.cellsOf 3 = 1 by kernel_rfl] at f0
  obtain ⟨y0, h0⟩ := at_some2 hx (by decide) f0
  obtain ⟨g0, a0, e0, w0⟩ := (rd_int Try.underlying3 : Rd _ _ _ _ _ _ (fun n : Int => [.int .i64 n]) (fun n : Int => IntKind.i64.min ≤ n ∧ n ≤ IntKind.i64.max)) _ _ _ h0
  have f1 : DataW.trod enc Try.prog W base (fun _ => true) held n1 3 ((cs.drop 1).take (Try.prog.cellsOf 3)) = xs[1]? := hf 1 _ rfl
  rw [show Try.prog.cellsOf 3 = 1 by kernel_rfl] at f1
  obtain ⟨y1, h1⟩ := at_some2 hx (by decide) f1
  obtain ⟨g1, a1, e1, w1⟩ := (rd_int Try.underlying3 : Rd _ _ _ _ _ _ (fun n : Int => [.int .i64 n]) (fun n : Int => IntKind.i64.min ≤ n ∧ n ≤ IntKind.i64.max)) _ _ _ h1
  match cs, hlen with
  | [c0, c1], _ =>
    simp [Sl.rep, St.rep] at e0 g0
    simp [Sl.rep, St.rep] at e1 g1
    exact ⟨by simp [*, Value.oneCell'], ⟨a0, a1⟩, by simp [Sl.rep, St.rep, *], ⟨w0, w1⟩⟩
def En.rep (a : En) : List Value := (fun s : ByteArray => [.string s]) a.key ++ (fun s : ByteArray => [.string s]) a.val ++ (fun b : Bool => [.bool b]) a.dead ++ (St.rep) a.st ++ (St.rep) a.act ++ (fun n : Int => [.int .i64 n]) a.keep ++ (fun n : Int => [.int .i64 n]) a.age
structure En.ok (W : World) (a : En) : Prop where
  key : (fun s : ByteArray => s.size ≤ maxLen) a.key
  val : (fun s : ByteArray => s.size ≤ maxLen) a.val
  dead : (fun _ : Bool => True) a.dead
  st : (St.ok W) a.st
  act : (St.ok W) a.act
  keep : (fun n : Int => IntKind.i64.min ≤ n ∧ n ≤ IntKind.i64.max) a.keep
  age : (fun n : Int => IntKind.i64.min ≤ n ∧ n ≤ IntKind.i64.max) a.age
set_option maxRecDepth 100000 in
theorem rd_En {H : Type} {enc : TypeId × Value → H} {W : World} {base : Nat} {held : Bool} : Rd enc Try.prog W base held 67 En.rep (En.ok W) := fun n cs x h => by
  obtain ⟨xs, n1, _, _, hlen, hx, hf⟩ := DataW.trod_struct Try.underlying67 h
  rw [show Try.prog.cellsOf 67 = 9 by kernel_rfl] at hlen
  have f0 : DataW.trod enc Try.prog W base (fun _ => true) held n1 9 ((cs.drop 0).take (Try.prog.cellsOf 9)) = xs[0]? := hf 0 _ rfl
  rw [show Try.prog.cellsOf 9 = 1 by kernel_rfl] at f0
  obtain ⟨y0, h0⟩ := at_some2 hx (by decide) f0
  obtain ⟨g0, a0, e0, w0⟩ := (rd_string Try.underlying9 : Rd _ _ _ _ _ _ (fun s : ByteArray => [.string s]) (fun s : ByteArray => s.size ≤ maxLen)) _ _ _ h0
  have f1 : DataW.trod enc Try.prog W base (fun _ => true) held n1 9 ((cs.drop 1).take (Try.prog.cellsOf 9)) = xs[1]? := hf 1 _ rfl
  rw [show Try.prog.cellsOf 9 = 1 by kernel_rfl] at f1
  obtain ⟨y1, h1⟩ := at_some2 hx (by decide) f1
  obtain ⟨g1, a1, e1, w1⟩ := (rd_string Try.underlying9 : Rd _ _ _ _ _ _ (fun s : ByteArray => [.string s]) (fun s : ByteArray => s.size ≤ maxLen)) _ _ _ h1
  have f2 : DataW.trod enc Try.prog W base (fun _ => true) held n1 4 ((cs.drop 2).take (Try.prog.cellsOf 4)) = xs[2]? := hf 2 _ rfl
  rw [show Try.prog.cellsOf 4 = 1 by kernel_rfl] at f2
  obtain ⟨y2, h2⟩ := at_some2 hx (by decide) f2
  obtain ⟨g2, a2, e2, w2⟩ := (rd_bool Try.underlying4 : Rd _ _ _ _ _ _ (fun b : Bool => [.bool b]) (fun _ : Bool => True)) _ _ _ h2
  have f3 : DataW.trod enc Try.prog W base (fun _ => true) held n1 23 ((cs.drop 3).take (Try.prog.cellsOf 23)) = xs[3]? := hf 3 _ rfl
  rw [show Try.prog.cellsOf 23 = 2 by kernel_rfl] at f3
  obtain ⟨y3, h3⟩ := at_some2 hx (by decide) f3
  obtain ⟨g3, a3, e3, w3⟩ := (rd_St : Rd _ _ _ _ _ _ (St.rep) (St.ok W)) _ _ _ h3
  have f4 : DataW.trod enc Try.prog W base (fun _ => true) held n1 23 ((cs.drop 5).take (Try.prog.cellsOf 23)) = xs[4]? := hf 4 _ rfl
  rw [show Try.prog.cellsOf 23 = 2 by kernel_rfl] at f4
  obtain ⟨y4, h4⟩ := at_some2 hx (by decide) f4
  obtain ⟨g4, a4, e4, w4⟩ := (rd_St : Rd _ _ _ _ _ _ (St.rep) (St.ok W)) _ _ _ h4
  have f5 : DataW.trod enc Try.prog W base (fun _ => true) held n1 3 ((cs.drop 7).take (Try.prog.cellsOf 3)) = xs[5]? := hf 5 _ rfl
  rw [show Try.prog.cellsOf 3 = 1 by kernel_rfl] at f5
  obtain ⟨y5, h5⟩ := at_some2 hx (by decide) f5
  obtain ⟨g5, a5, e5, w5⟩ := (rd_int Try.underlying3 : Rd _ _ _ _ _ _ (fun n : Int => [.int .i64 n]) (fun n : Int => IntKind.i64.min ≤ n ∧ n ≤ IntKind.i64.max)) _ _ _ h5
  have f6 : DataW.trod enc Try.prog W base (fun _ => true) held n1 3 ((cs.drop 8).take (Try.prog.cellsOf 3)) = xs[6]? := hf 6 _ rfl
  rw [show Try.prog.cellsOf 3 = 1 by kernel_rfl] at f6
  obtain ⟨y6, h6⟩ := at_some2 hx (by decide) f6
  obtain ⟨g6, a6, e6, w6⟩ := (rd_int Try.underlying3 : Rd _ _ _ _ _ _ (fun n : Int => [.int .i64 n]) (fun n : Int => IntKind.i64.min ≤ n ∧ n ≤ IntKind.i64.max)) _ _ _ h6
  match cs, hlen with
  | [c0, c1, c2, c3, c4, c5, c6, c7, c8], _ =>
    simp [Sl.rep, St.rep, En.rep] at e0 g0
    simp [Sl.rep, St.rep, En.rep] at e1 g1
    simp [Sl.rep, St.rep, En.rep] at e2 g2
    simp [Sl.rep, St.rep, En.rep] at e3 g3
    simp [Sl.rep, St.rep, En.rep] at e4 g4
    simp [Sl.rep, St.rep, En.rep] at e5 g5
    simp [Sl.rep, St.rep, En.rep] at e6 g6
    exact ⟨by simp [*, Value.oneCell'], ⟨a0, a1, a2, a3, a4, a5, a6⟩, by simp [Sl.rep, St.rep, En.rep, *], ⟨w0, w1, w2, w3, w4, w5, w6⟩⟩
/- quidnunc/quidnunclaw11.Tos -/
noncomputable def c43_1 : ACode := .region false [⟨some 2, .move, [.c (.val (.slice none 0 0))], none⟩] [] [] [0] false [] []
noncomputable def c43_3 : ACode := .region false [⟨some 6, .buildSl 9 0 [(.string ⟨#[]⟩), (.string ⟨#[]⟩), (.bool false), (.int .i64 0), (.int .i64 0), (.int .i64 0), (.int .i64 0), (.int .i64 0), (.int .i64 0)] [], [], none⟩,
  ⟨some 3, .move, [.t 6], none⟩] [] [] [0, 3] true [] []
noncomputable def c43_6 : ACode := .region false [⟨some 7, .move, [.t 0], none⟩,
  ⟨some 8, .len, [.t 7], none⟩,
  ⟨some 9, .move, [.c (.val (.int .i64 0))], none⟩] [] [] [3, 7, 8, 9] false [] []
noncomputable def c43_10 : ACode := .region false [⟨some 10, .bin .lss, [.t 9, .t 8], none⟩] [] [] [3, 7, 8, 9, 10] false [] []
noncomputable def c43_12 : ACode := .cond (.t 10) .skip (.exit 0)
noncomputable def c43_16 : ACode := .region false [⟨some 11, .ixS 9, [.t 7, .t 9], none⟩,
  ⟨some 12, .load true 9, [.t 11], none⟩,
  ⟨some 5, .alloc [(.string ⟨#[]⟩), (.string ⟨#[]⟩), (.bool false), (.int .i64 0), (.int .i64 0), (.int .i64 0), (.int .i64 0), (.int .i64 0), (.int .i64 0)], [], none⟩,
  ⟨none, .store 9, [.t 5, .t 12], none⟩] [] [] [3, 5, 7, 8, 9] true [] []
noncomputable def c43_17 : ACode := .region false [⟨some 13, .move, [.t 3], none⟩,
  ⟨some 14, .load true 9, [.t 5], none⟩,
  ⟨some 15, .call 37, [.t 14], none⟩,
  ⟨some 16, .buildSl 9 1 [(.string ⟨#[]⟩), (.string ⟨#[]⟩), (.bool false), (.int .i64 0), (.int .i64 0), (.int .i64 0), (.int .i64 0), (.int .i64 0), (.int .i64 0)] [(0, 9)], [.t 15], none⟩,
  ⟨some 17, .append 9 88 false, [.t 13, .t 16], none⟩,
  ⟨some 3, .move, [.t 17], none⟩] [] [] [3, 7, 8, 9] true [] []
noncomputable def c43_15 : ACode := .seq c43_16 c43_17
noncomputable def c43_14 : ACode := .block 1 c43_15
noncomputable def c43_18 : ACode := .region false [⟨some 18, .bin .add, [.t 9, .c (.val (.int .i64 1))], none⟩,
  ⟨some 9, .move, [.t 18], none⟩] [] [] [3, 7, 8, 9] false [] []
noncomputable def c43_13 : ACode := .seq c43_14 c43_18
noncomputable def c43_11 : ACode := .seq c43_12 c43_13
noncomputable def c43_9 : ACode := .seq c43_10 c43_11
noncomputable def c43_8 : ACode := .loop c43_9
noncomputable def c43_7 : ACode := .block 0 c43_8
noncomputable def c43_5 : ACode := .seq c43_6 c43_7
noncomputable def c43_20 : ACode := .region false [⟨some 19, .move, [.t 3], none⟩,
  ⟨some 2, .move, [.t 19], none⟩] [] [] [2] false [] []
noncomputable def c43_19 : ACode := .seq c43_20 .ret
noncomputable def c43_4 : ACode := .seq c43_5 c43_19
noncomputable def c43_2 : ACode := .seq c43_3 c43_4
noncomputable def c43_0 : ACode := .seq c43_1 c43_2
noncomputable def code43 : Code := (Try.f43.body).getD .skip
theorem c43_ok : compC Try.prog 20 code43 = some (strip c43_0) := by kernel_rfl
theorem res43_ok : Try.f43.results.toList.mapM (resC Try.prog) = some [(2, none)] := by kernel_rfl
/- quidnunc/quidnunclaw11.GravesAny -/
noncomputable def c9_1 : ACode := .region false [⟨some 4, .move, [.c (.val (.bool false))], none⟩] [] [] [0, 1] false [] []
noncomputable def c9_4 : ACode := .region false [⟨some 14, .call 30, [], none⟩,
  ⟨some 15, .un .not, [.t 14], none⟩,
  ⟨some 16, .move, [.t 15], none⟩,
  ⟨some 17, .move, [.t 1], some (some 16, false)⟩,
  ⟨some 18, .len, [.t 17], some (some 16, false)⟩,
  ⟨some 19, .bin .gtr, [.t 18, .c (.val (.int .i64 40))], some (some 16, false)⟩,
  ⟨some 20, .pick, [.t 16, .c (.val (.bool true)), .t 19], none⟩] [] [] [0, 1, 20] true [] []
noncomputable def c9_7 : ACode := .region false [⟨some 21, .call 30, [], none⟩,
  ⟨some 4, .move, [.t 21], none⟩] [] [] [4] true [] []
noncomputable def c9_6 : ACode := .seq c9_7 .ret
noncomputable def c9_5 : ACode := .cond (.t 20) c9_6 .skip
noncomputable def c9_3 : ACode := .seq c9_4 c9_5
noncomputable def c9_9 : ACode := .region false [⟨some 22, .move, [.t 0], none⟩,
  ⟨some 23, .conv .i64, [.t 22], none⟩,
  ⟨some 24, .bin .rem, [.t 23, .c (.val (.int .i64 12))], none⟩,
  ⟨some 5, .move, [.t 24], none⟩] [] [] [1, 5] false [] []
noncomputable def c9_11 : ACode := .region false [⟨some 26, .move, [.t 5], none⟩,
  ⟨some 27, .call 32, [.t 26, .c (.val (.int .i64 2147483647))], none⟩,
  ⟨some 25, .move, [.t 27], none⟩,
  ⟨some 28, .ext 0, [.t 25], none⟩,
  ⟨some 29, .ext 1, [.t 25], none⟩,
  ⟨some 6, .move, [.t 28], none⟩,
  ⟨some 7, .move, [.t 29], none⟩] [] [] [1, 5, 6, 7] true [] []
noncomputable def c9_13 : ACode := .region false [⟨some 31, .move, [.t 5], none⟩,
  ⟨some 32, .call 32, [.t 31, .c (.val (.int .i64 2147483647))], none⟩,
  ⟨some 30, .move, [.t 32], none⟩,
  ⟨some 33, .ext 0, [.t 30], none⟩,
  ⟨some 34, .ext 1, [.t 30], none⟩,
  ⟨some 8, .move, [.t 33], none⟩,
  ⟨some 9, .move, [.t 34], none⟩] [] [] [1, 6, 7, 8, 9] true [] []
noncomputable def c9_16 : ACode := .region false [⟨some 35, .move, [.t 7], none⟩,
  ⟨some 36, .bin .neq, [.t 35, .c (.val (.int .i64 0))], none⟩,
  ⟨some 37, .move, [.t 36], none⟩,
  ⟨some 38, .move, [.t 9], some (some 37, false)⟩,
  ⟨some 39, .bin .neq, [.t 38, .c (.val (.int .i64 0))], some (some 37, false)⟩,
  ⟨some 40, .pick, [.t 37, .c (.val (.bool true)), .t 39], none⟩,
  ⟨some 41, .move, [.t 40], none⟩,
  ⟨some 42, .move, [.t 6], some (some 41, false)⟩,
  ⟨some 43, .eqP false, [.t 42, .c (.val (.pointer none))], some (some 41, false)⟩,
  ⟨some 44, .pick, [.t 41, .c (.val (.bool true)), .t 43], none⟩,
  ⟨some 45, .move, [.t 44], none⟩,
  ⟨some 46, .move, [.t 8], some (some 45, false)⟩,
  ⟨some 47, .eqP false, [.t 46, .c (.val (.pointer none))], some (some 45, false)⟩,
  ⟨some 48, .pick, [.t 45, .c (.val (.bool true)), .t 47], none⟩] [] [] [1, 6, 8, 48] false [] []
noncomputable def c9_19 : ACode := .region false [⟨some 4, .move, [.c (.val (.bool false))], none⟩] [] [] [4] false [] []
noncomputable def c9_18 : ACode := .seq c9_19 .ret
noncomputable def c9_17 : ACode := .cond (.t 48) c9_18 .skip
noncomputable def c9_15 : ACode := .seq c9_16 c9_17
noncomputable def c9_22 : ACode := .region false [⟨some 49, .move, [.t 1], none⟩,
  ⟨some 50, .len, [.t 49], none⟩,
  ⟨some 51, .move, [.c (.val (.int .i64 0))], none⟩] [] [] [1, 6, 8, 50, 51] false [] []
noncomputable def c9_26 : ACode := .region false [⟨some 52, .bin .lss, [.t 51, .t 50], none⟩] [] [] [1, 6, 8, 50, 51, 52] false [] []
noncomputable def c9_28 : ACode := .cond (.t 52) .skip (.exit 0)
noncomputable def c9_32 : ACode := .region false [⟨some 53, .move, [.t 51], none⟩,
  ⟨some 10, .move, [.t 53], none⟩] [] [] [1, 6, 8, 10, 50, 51] false [] []
noncomputable def c9_35 : ACode := .region false [⟨some 54, .move, [.t 1], none⟩,
  ⟨some 55, .move, [.t 10], none⟩,
  ⟨some 56, .ixS 9, [.t 54, .t 55], none⟩,
  ⟨some 57, .load true 9, [.t 56], none⟩,
  ⟨some 58, .call 42, [.t 57], none⟩,
  ⟨some 59, .un .not, [.t 58], none⟩] [] [] [1, 6, 8, 10, 50, 51, 59] true [] []
noncomputable def c9_38 : ACode := .region false [⟨some 4, .move, [.c (.val (.bool true))], none⟩] [] [] [4] false [] []
noncomputable def c9_37 : ACode := .seq c9_38 .ret
noncomputable def c9_36 : ACode := .cond (.t 59) c9_37 .skip
noncomputable def c9_34 : ACode := .seq c9_35 c9_36
noncomputable def c9_40 : ACode := .region false [⟨some 60, .move, [.t 6], none⟩,
  ⟨some 61, .move, [.t 1], none⟩,
  ⟨some 62, .move, [.t 10], none⟩,
  ⟨some 63, .ixS 9, [.t 61, .t 62], none⟩,
  ⟨some 64, .load true 9, [.t 63], none⟩,
  ⟨some 65, .call 35, [.t 64], none⟩,
  ⟨some 66, .call 34, [.t 60, .t 65], none⟩] [] [] [1, 6, 8, 10, 50, 51] true [] []
noncomputable def c9_41 : ACode := .region false [⟨some 67, .move, [.t 8], none⟩,
  ⟨some 68, .move, [.t 1], none⟩,
  ⟨some 69, .move, [.t 1], none⟩,
  ⟨some 70, .len, [.t 69], none⟩,
  ⟨some 71, .bin .sub, [.t 70, .c (.val (.int .i64 1))], none⟩,
  ⟨some 72, .move, [.t 10], none⟩,
  ⟨some 73, .bin .sub, [.t 71, .t 72], none⟩,
  ⟨some 74, .ixS 9, [.t 68, .t 73], none⟩,
  ⟨some 75, .load true 9, [.t 74], none⟩,
  ⟨some 76, .call 35, [.t 75], none⟩,
  ⟨some 77, .call 34, [.t 67, .t 76], none⟩] [] [] [1, 6, 8, 50, 51] true [] []
noncomputable def c9_39 : ACode := .seq c9_40 c9_41
noncomputable def c9_33 : ACode := .seq c9_34 c9_39
noncomputable def c9_31 : ACode := .seq c9_32 c9_33
noncomputable def c9_30 : ACode := .block 1 c9_31
noncomputable def c9_42 : ACode := .region false [⟨some 78, .bin .add, [.t 51, .c (.val (.int .i64 1))], none⟩,
  ⟨some 51, .move, [.t 78], none⟩] [] [] [1, 6, 8, 50, 51] false [] []
noncomputable def c9_29 : ACode := .seq c9_30 c9_42
noncomputable def c9_27 : ACode := .seq c9_28 c9_29
noncomputable def c9_25 : ACode := .seq c9_26 c9_27
noncomputable def c9_24 : ACode := .loop c9_25
noncomputable def c9_23 : ACode := .block 0 c9_24
noncomputable def c9_21 : ACode := .seq c9_22 c9_23
noncomputable def c9_44 : ACode := .region false [⟨some 79, .move, [.t 6], none⟩,
  ⟨some 80, .call 44, [.t 79], none⟩,
  ⟨some 81, .call 43, [.t 80], none⟩,
  ⟨some 82, .move, [.t 8], none⟩,
  ⟨some 83, .call 44, [.t 82], none⟩,
  ⟨some 84, .call 43, [.t 83], none⟩,
  ⟨some 11, .move, [.t 81], none⟩,
  ⟨some 12, .move, [.t 84], none⟩] [] [] [11, 12] true [] []
noncomputable def c9_47 : ACode := .region false [⟨some 85, .move, [.t 11], none⟩,
  ⟨some 86, .len, [.t 85], none⟩,
  ⟨some 87, .move, [.t 12], none⟩,
  ⟨some 88, .len, [.t 87], none⟩,
  ⟨some 89, .bin .neq, [.t 86, .t 88], none⟩] [] [] [11, 12, 89] false [] []
noncomputable def c9_50 : ACode := .region false [⟨some 4, .move, [.c (.val (.bool false))], none⟩] [] [] [4] false [] []
noncomputable def c9_49 : ACode := .seq c9_50 .ret
noncomputable def c9_48 : ACode := .cond (.t 89) c9_49 .skip
noncomputable def c9_46 : ACode := .seq c9_47 c9_48
noncomputable def c9_53 : ACode := .region false [⟨some 90, .move, [.t 11], none⟩,
  ⟨some 91, .len, [.t 90], none⟩,
  ⟨some 92, .move, [.c (.val (.int .i64 0))], none⟩] [] [] [11, 12, 91, 92] false [] []
noncomputable def c9_57 : ACode := .region false [⟨some 93, .bin .lss, [.t 92, .t 91], none⟩] [] [] [11, 12, 91, 92, 93] false [] []
noncomputable def c9_59 : ACode := .cond (.t 93) .skip (.exit 2)
noncomputable def c9_63 : ACode := .region false [⟨some 94, .move, [.t 92], none⟩,
  ⟨some 13, .move, [.t 94], none⟩] [] [] [11, 12, 13, 91, 92] false [] []
noncomputable def c9_65 : ACode := .region true [⟨some 95, .move, [.t 11], none⟩,
  ⟨some 96, .move, [.t 13], none⟩,
  ⟨some 97, .ixS 9, [.t 95, .t 96], none⟩,
  ⟨some 98, .addr 0, [.t 97], none⟩,
  ⟨some 99, .load false 1, [.t 98], none⟩,
  ⟨some 100, .move, [.t 12], none⟩,
  ⟨some 101, .move, [.t 13], none⟩,
  ⟨some 102, .ixS 9, [.t 100, .t 101], none⟩,
  ⟨some 103, .addr 0, [.t 102], none⟩,
  ⟨some 104, .load false 1, [.t 103], none⟩,
  ⟨some 105, .bin .neq, [.t 99, .t 104], none⟩,
  ⟨some 106, .move, [.t 105], none⟩,
  ⟨some 107, .move, [.t 11], some (some 106, false)⟩,
  ⟨some 108, .move, [.t 13], some (some 106, false)⟩,
  ⟨some 109, .ixS 9, [.t 107, .t 108], some (some 106, false)⟩,
  ⟨some 110, .addr 3, [.t 109], some (some 106, false)⟩,
  ⟨some 111, .load true 2, [.t 110], some (some 106, false)⟩,
  ⟨some 112, .move, [.t 12], some (some 106, false)⟩,
  ⟨some 113, .move, [.t 13], some (some 106, false)⟩,
  ⟨some 114, .ixS 9, [.t 112, .t 113], some (some 106, false)⟩,
  ⟨some 115, .addr 3, [.t 114], some (some 106, false)⟩,
  ⟨some 116, .load true 2, [.t 115], some (some 106, false)⟩,
  ⟨some 117, .eqA true [(0, 0), (1, 0)], [.t 111, .t 116], some (some 106, false)⟩,
  ⟨some 118, .pick, [.t 106, .c (.val (.bool true)), .t 117], none⟩,
  ⟨some 119, .move, [.t 118], none⟩,
  ⟨some 120, .move, [.t 11], some (some 119, false)⟩,
  ⟨some 121, .move, [.t 13], some (some 119, false)⟩,
  ⟨some 122, .ixS 9, [.t 120, .t 121], some (some 119, false)⟩,
  ⟨some 123, .addr 5, [.t 122], some (some 119, false)⟩,
  ⟨some 124, .load true 2, [.t 123], some (some 119, false)⟩,
  ⟨some 125, .move, [.t 12], some (some 119, false)⟩,
  ⟨some 126, .move, [.t 13], some (some 119, false)⟩,
  ⟨some 127, .ixS 9, [.t 125, .t 126], some (some 119, false)⟩,
  ⟨some 128, .addr 5, [.t 127], some (some 119, false)⟩,
  ⟨some 129, .load true 2, [.t 128], some (some 119, false)⟩,
  ⟨some 130, .eqA true [(0, 0), (1, 0)], [.t 124, .t 129], some (some 119, false)⟩,
  ⟨some 131, .pick, [.t 119, .c (.val (.bool true)), .t 130], none⟩,
  ⟨some 132, .move, [.t 131], none⟩,
  ⟨some 133, .move, [.t 11], some (some 132, false)⟩,
  ⟨some 134, .move, [.t 13], some (some 132, false)⟩,
  ⟨some 135, .ixS 9, [.t 133, .t 134], some (some 132, false)⟩,
  ⟨some 136, .addr 8, [.t 135], some (some 132, false)⟩,
  ⟨some 137, .load false 1, [.t 136], some (some 132, false)⟩,
  ⟨some 138, .move, [.t 12], some (some 132, false)⟩,
  ⟨some 139, .move, [.t 13], some (some 132, false)⟩,
  ⟨some 140, .ixS 9, [.t 138, .t 139], some (some 132, false)⟩,
  ⟨some 141, .addr 8, [.t 140], some (some 132, false)⟩,
  ⟨some 142, .load false 1, [.t 141], some (some 132, false)⟩,
  ⟨some 143, .bin .neq, [.t 137, .t 142], some (some 132, false)⟩,
  ⟨some 144, .pick, [.t 132, .c (.val (.bool true)), .t 143], none⟩] [] [] [11, 12, 91, 92, 144] false [] []
noncomputable def c9_68 : ACode := .region false [⟨some 4, .move, [.c (.val (.bool false))], none⟩] [] [] [4] false [] []
noncomputable def c9_67 : ACode := .seq c9_68 .ret
noncomputable def c9_66 : ACode := .cond (.t 144) c9_67 .skip
noncomputable def c9_64 : ACode := .seq c9_65 c9_66
noncomputable def c9_62 : ACode := .seq c9_63 c9_64
noncomputable def c9_61 : ACode := .block 3 c9_62
noncomputable def c9_69 : ACode := .region false [⟨some 145, .bin .add, [.t 92, .c (.val (.int .i64 1))], none⟩,
  ⟨some 92, .move, [.t 145], none⟩] [] [] [11, 12, 91, 92] false [] []
noncomputable def c9_60 : ACode := .seq c9_61 c9_69
noncomputable def c9_58 : ACode := .seq c9_59 c9_60
noncomputable def c9_56 : ACode := .seq c9_57 c9_58
noncomputable def c9_55 : ACode := .loop c9_56
noncomputable def c9_54 : ACode := .block 2 c9_55
noncomputable def c9_52 : ACode := .seq c9_53 c9_54
noncomputable def c9_71 : ACode := .region false [⟨some 4, .move, [.c (.val (.bool true))], none⟩] [] [] [4] false [] []
noncomputable def c9_70 : ACode := .seq c9_71 .ret
noncomputable def c9_51 : ACode := .seq c9_52 c9_70
noncomputable def c9_45 : ACode := .seq c9_46 c9_51
noncomputable def c9_43 : ACode := .seq c9_44 c9_45
noncomputable def c9_20 : ACode := .seq c9_21 c9_43
noncomputable def c9_14 : ACode := .seq c9_15 c9_20
noncomputable def c9_12 : ACode := .seq c9_13 c9_14
noncomputable def c9_10 : ACode := .seq c9_11 c9_12
noncomputable def c9_8 : ACode := .seq c9_9 c9_10
noncomputable def c9_2 : ACode := .seq c9_3 c9_8
noncomputable def c9_0 : ACode := .seq c9_1 c9_2
noncomputable def code9 : Code := (Try.f9.body).getD .skip
theorem c9_ok : compC Try.prog 146 code9 = some (strip c9_0) := by kernel_rfl
theorem res9_ok : Try.f9.results.toList.mapM (resC Try.prog) = some [(4, none)] := by kernel_rfl
theorem tos_any (off : Nat) (l : List En) (hl : l.length ≤ 1099511627776) : ACall Try.prog 43 [.sl 0 off l.length 9 none] [.cells true (Re off l)] (Det (.sl 1 0 l.length 9 none) [.cells true (Re off l), .cells false (Re 0 l)]) := by
  have hr := re_ren
  have hlen := re_len off l
  refine ACall.startA c43_ok Try.func43 rfl Try.ntmps43 (by kernel_rfl) res43_ok rfl rfl rfl ?_; simp (maxSteps := 9999999) (disch := omega) only [go_sem]
  refine AWpA.dummy ?_
  (repeat' (first | refine AWpA.seq ?_ | refine AWpA.block ?_ | (with_reducible refine CondP.tt ?_) | (with_reducible refine CondP.ff ?_) | refine AWpA.condv (by simp (maxSteps := 9999999) (disch := omega) only [go_sem, hr]; rfl) ?_ | ((first | (apply AWpA.region; (focus (simp (maxSteps := 9999999) (disch := omega) only [go_sem, hr]; rfl))) | (apply AWpA.draw [] [] follows; (focus (first | rfl | decide)); (focus (simp (maxSteps := 9999999) (disch := omega) only [go_sem, hr]; rfl)); (focus (simp (maxSteps := 9999999) (disch := omega) only [go_sem, hr]; first | done | trivial)); (focus (simp (maxSteps := 9999999) (disch := omega) only [go_sem, hr]; rfl))) | (apply TailK.go; (focus (simp (maxSteps := 9999999) (disch := omega) only [go_sem, hr]; rfl))) | refine AWpA.skip ?_ | refine AWpA.exit ?_ | refine AWpA.ret ?_ | (with_reducible refine ARoundsA.succ ?_) | ((first | refine Runs.kt (by assumption) (fun h9 => ?_) | refine Runs.kf (by assumption) (fun h9 => ?_) | refine Runs.nt (by assumption) (fun h9 => ?_) | refine Runs.nf (by assumption) (fun h9 => ?_) | refine CondP.ht (by assumption) (fun h9 => ?_) | refine CondP.hf (by assumption) (fun h9 => ?_) | refine CondP.nt (by assumption) (fun h9 => ?_) | refine CondP.nf (by assumption) (fun h9 => ?_)); (try simp only [h9]); clear h9)); (try simp (maxSteps := 9999999) (disch := omega) only [go_sem, hr]); (try (refine And.intro ?_ ?_; (focus (first | omega | (simp only [go_sem]; done) | (simp; done) | (simp; omega) | assumption))))) | ((first | refine CondP.split (fun hif => ?_) (fun hif => ?_) | refine Runs.part (fun hif => ?_) (fun hif => ?_)) <;> ((try simp only [hif]); (try simp only [decide_eq_true_eq, decide_eq_false_iff_not, Bool.not_eq_true, Bool.not_eq_false, Bool.not_eq_true', Bool.not_eq_false', beq_iff_eq, bne_iff_ne, bne_eq_false_iff_eq, beq_eq_false_iff_ne, ne_eq, Bool.and_eq_true, Bool.or_eq_true, Bool.or_eq_false_iff] at hif); (try (have h9 : _ = true := hif; simp only [h9])); (try (have h9 : _ = false := hif; simp only [h9])); (try simp (maxSteps := 9999999) (disch := omega) only [go_sem, hr]); (try (refine And.intro ?_ ?_; (focus (first | omega | (simp only [go_sem]; done) | (simp; done) | (simp; omega) | assumption)))); (try (exfalso; omega; done))))))
  (apply AWpA.loopL (fun i : Nat => [(3, .sl 1 0 i 9 none), (7, .sl 0 off l.length 9 none), (8, I l.length), (9, I i)]) (fun i => [.cells true (Re off l), .cells false (Re 0 (l.take i))]) (fun i => l.length - i) (fun i => i ≤ l.length) (0) [0, _]; rotate_left; (focus (simp (maxSteps := 9999999) (disch := omega) only [go_sem, hr, re_nil, List.take_zero]; (try (repeat' (first | done | trivial | rfl | exact leAs_rfl _ | decide | (refine And.intro ?_ ?_) | (simp; done) | omega | (simp; decide)))))); rotate_right)
  · exact Nat.zero_le _
  rintro i hi
  (try simp only at hi)
  by_cases hin : i < l.length
  · have g1 : ((i : Int) < (l.length : Int)) = True := eq_true (by omega)
    have hat := re_at off l i hin
    have hp := re_put l i hin
    have hl2 := re_len 0 (l.take i)
    rw [List.length_take, Nat.min_eq_left hi] at hl2
    have hfu := re_all (l.take i) (n := i * 9) (by rw [List.length_take, Nat.min_eq_left hi])
    have o1 := to05_any l[i]
    generalize l[i] = e at *
    (try simp (maxSteps := 9999999) (disch := omega) only [go_sem])
    (repeat' (first | refine AWpA.seq ?_ | refine AWpA.block ?_ | (with_reducible refine CondP.tt ?_) | (with_reducible refine CondP.ff ?_) | refine AWpA.condv (by simp (maxSteps := 9999999) (disch := omega) only [go_sem, hr, hlen, hat, g1, hl2]; rfl) ?_ | ((first | (apply AWpA.region; (focus (simp (maxSteps := 9999999) (disch := omega) only [go_sem, hr, hlen, hat, g1, hl2]; rfl))) | (apply AWpA.draw [] [] follows; (focus (first | rfl | decide)); (focus (simp (maxSteps := 9999999) (disch := omega) only [go_sem, hr, hlen, hat, g1, hl2]; rfl)); (focus (simp (maxSteps := 9999999) (disch := omega) only [go_sem, hr, hlen, hat, g1, hl2]; first | done | trivial)); (focus (simp (maxSteps := 9999999) (disch := omega) only [go_sem, hr, hlen, hat, g1, hl2]; rfl))) | (apply TailK.go; (focus (simp (maxSteps := 9999999) (disch := omega) only [go_sem, hr, hlen, hat, g1, hl2]; rfl))) | refine AWpA.skip ?_ | refine AWpA.exit ?_ | refine AWpA.ret ?_ | (with_reducible refine ARoundsA.succ ?_) | ((first | refine Runs.kt (by assumption) (fun h9 => ?_) | refine Runs.kf (by assumption) (fun h9 => ?_) | refine Runs.nt (by assumption) (fun h9 => ?_) | refine Runs.nf (by assumption) (fun h9 => ?_) | refine CondP.ht (by assumption) (fun h9 => ?_) | refine CondP.hf (by assumption) (fun h9 => ?_) | refine CondP.nt (by assumption) (fun h9 => ?_) | refine CondP.nf (by assumption) (fun h9 => ?_)); (try simp only [h9]); clear h9) | ((first | (with_reducible apply CallG.plain1 [] (o1)) | (with_reducible apply CallG.draw1 [] (o1))); (focus ((try refine And.intro (leAs_of_eq rfl) ?_); (try refine And.intro (leOL_of_eq rfl) ?_); simp (maxSteps := 9999999) (disch := omega) only [go_sem, hr, hlen, hat, g1, hl2]; first | done | (repeat' (first | rfl | (refine And.intro ?_ ?_))))); (focus (simp (maxSteps := 9999999) (disch := omega) only [go_sem, hr, hlen, hat, g1, hl2]; rfl)))); (try simp (maxSteps := 9999999) (disch := omega) only [go_sem, hr, hlen, hat, g1, hl2]); (try (refine And.intro ?_ ?_; (focus (first | omega | (simp only [go_sem]; done) | (simp; done) | (simp; omega) | assumption))))) | ((first | refine CondP.split (fun hif => ?_) (fun hif => ?_) | refine Runs.part (fun hif => ?_) (fun hif => ?_)) <;> ((try simp only [hif]); (try simp only [decide_eq_true_eq, decide_eq_false_iff_not, Bool.not_eq_true, Bool.not_eq_false, Bool.not_eq_true', Bool.not_eq_false', beq_iff_eq, bne_iff_ne, bne_eq_false_iff_eq, beq_eq_false_iff_ne, ne_eq, Bool.and_eq_true, Bool.or_eq_true, Bool.or_eq_false_iff] at hif); (try (have h9 : _ = true := hif; simp only [h9])); (try (have h9 : _ = false := hif; simp only [h9])); (try simp (maxSteps := 9999999) (disch := omega) only [go_sem, hr, hlen, hat, g1, hl2]); (try (refine And.intro ?_ ?_; (focus (first | omega | (simp only [go_sem]; done) | (simp; done) | (simp; omega) | assumption)))); (try (exfalso; omega; done))))))
    (apply Back.to (i + 1) [0, _]; (focus ((try simp (maxSteps := 9999999) (disch := omega) only [go_sem, hfu, hp, hr, renL_append]); first | done | omega)); rotate_left; (focus (simp (maxSteps := 9999999) (disch := omega) only [go_sem, hfu, hp, hr, renL_append]; (try (repeat' (first | done | trivial | rfl | exact leAs_rfl _ | decide | (refine And.intro ?_ ?_) | (simp; done) | omega | (simp; decide)))))))
    omega
  · obtain rfl : i = l.length := by omega
    have g1 : ((l.length : Int) < (l.length : Int)) = False := eq_false (by omega)
    rw [List.take_length]
    (try simp (maxSteps := 9999999) (disch := omega) only [go_sem])
    (repeat' (first | refine AWpA.seq ?_ | refine AWpA.block ?_ | (with_reducible refine CondP.tt ?_) | (with_reducible refine CondP.ff ?_) | refine AWpA.condv (by simp (maxSteps := 9999999) (disch := omega) only [go_sem, hr, g1]; rfl) ?_ | ((first | (apply AWpA.region; (focus (simp (maxSteps := 9999999) (disch := omega) only [go_sem, hr, g1]; rfl))) | (apply AWpA.draw [] [] follows; (focus (first | rfl | decide)); (focus (simp (maxSteps := 9999999) (disch := omega) only [go_sem, hr, g1]; rfl)); (focus (simp (maxSteps := 9999999) (disch := omega) only [go_sem, hr, g1]; first | done | trivial)); (focus (simp (maxSteps := 9999999) (disch := omega) only [go_sem, hr, g1]; rfl))) | (apply TailK.go; (focus (simp (maxSteps := 9999999) (disch := omega) only [go_sem, hr, g1]; rfl))) | refine AWpA.skip ?_ | refine AWpA.exit ?_ | refine AWpA.ret ?_ | (with_reducible refine ARoundsA.succ ?_) | ((first | refine Runs.kt (by assumption) (fun h9 => ?_) | refine Runs.kf (by assumption) (fun h9 => ?_) | refine Runs.nt (by assumption) (fun h9 => ?_) | refine Runs.nf (by assumption) (fun h9 => ?_) | refine CondP.ht (by assumption) (fun h9 => ?_) | refine CondP.hf (by assumption) (fun h9 => ?_) | refine CondP.nt (by assumption) (fun h9 => ?_) | refine CondP.nf (by assumption) (fun h9 => ?_)); (try simp only [h9]); clear h9)); (try simp (maxSteps := 9999999) (disch := omega) only [go_sem, hr, g1]); (try (refine And.intro ?_ ?_; (focus (first | omega | (simp only [go_sem]; done) | (simp; done) | (simp; omega) | assumption))))) | ((first | refine CondP.split (fun hif => ?_) (fun hif => ?_) | refine Runs.part (fun hif => ?_) (fun hif => ?_)) <;> ((try simp only [hif]); (try simp only [decide_eq_true_eq, decide_eq_false_iff_not, Bool.not_eq_true, Bool.not_eq_false, Bool.not_eq_true', Bool.not_eq_false', beq_iff_eq, bne_iff_ne, bne_eq_false_iff_eq, beq_eq_false_iff_ne, ne_eq, Bool.and_eq_true, Bool.or_eq_true, Bool.or_eq_false_iff] at hif); (try (have h9 : _ = true := hif; simp only [h9])); (try (have h9 : _ = false := hif; simp only [h9])); (try simp (maxSteps := 9999999) (disch := omega) only [go_sem, hr, g1]); (try (refine And.intro ?_ ?_; (focus (first | omega | (simp only [go_sem]; done) | (simp; done) | (simp; omega) | assumption)))); (try (exfalso; omega; done))))))
    (apply Ret.det [0, 1]; (focus (first | exact .inl rfl | exact .inr rfl)); (focus (simp (maxSteps := 9999999) (disch := omega) only [go_sem, hr]; rfl)); (simp (maxSteps := 9999999) (disch := omega) only [go_sem, hr]; (try (repeat' (first | done | trivial | rfl | exact leAs_rfl _ | decide | (refine And.intro ?_ ?_) | (simp; done) | omega | (simp; decide))))))
theorem re_fst (l : List En) (i : Nat) (h : i < l.length) : ((Re 0 l).drop (i * 9 + 3)).take 2 = [I l[i].st.c, I l[i].st.s] ∧ ((Re 0 l).drop (i * 9 + 5)).take 2 = [I l[i].act.c, I l[i].act.s] ∧ (Re 0 l).getD (i * 9 + 8) AV.bad = I l[i].age ∧ (Re 0 l).getD (i * 9) AV.bad = Str l[i].key := by
  have hat := re_at 0 l i h
  rw [Nat.zero_add] at hat
  have hc : ∀ j, j < 9 → (Re 0 l)[i * 9 + j]? = (EnL l[i])[j]? := fun j hj => by
    have := congrArg (fun x => x[j]?) hat
    simp only [List.getElem?_take, if_pos hj, List.getElem?_drop] at this
    exact this
  have c0 := hc 0 (by omega)
  have c3 := hc 3 (by omega)
  have c4 := hc 4 (by omega)
  have c5 := hc 5 (by omega)
  have c6 := hc 6 (by omega)
  have c8 := hc 8 (by omega)
  refine ⟨?_, ?_, ?_, ?_⟩
  · refine List.ext_getElem? fun j => ?_
    rw [List.getElem?_take]
    rcases j with _ | _ | j
    · simp only [List.getElem?_drop]; exact c3
    · simp only [List.getElem?_drop]; exact c4
    · rw [if_neg (by omega)]; rfl
  · refine List.ext_getElem? fun j => ?_
    rw [List.getElem?_take]
    rcases j with _ | _ | j
    · simp only [List.getElem?_drop]; exact c5
    · simp only [List.getElem?_drop]; exact c6
    · rw [if_neg (by omega)]; rfl
  · rw [List.getD_eq_getElem?_getD, c8]; rfl
  · rw [List.getD_eq_getElem?_getD, ← Nat.add_zero (i * 9), c0]; rfl
theorem gravesAny_walk (W : World) (site : Int) (sl : Sl En) (h0 : IntKind.u8.min ≤ site ∧ site ≤ IntKind.u8.max) (hz : Sl.ok W 9 En.rep (En.ok W) sl) :
    Calls Try.prog 9 #[.int .u8 site, .slice sl.ad sl.l.length sl.cap] W fun e W' => e = .returned (.bool true) ∧ Below W.heap.size W W' := by
  obtain ⟨ad, off, cap, l⟩ := sl
  obtain ⟨hz, -, hl⟩ := hz
  have hl : l.length ≤ 9223372036854775807 := by simpa [maxLen] using hl
  simp only at hz
  obtain ⟨h1, h2⟩ : 0 ≤ site ∧ site ≤ 255 := h0
  have hr := re_ren
  have hp := Ue.rp_ren 0
  have hlen := re_len off l
  have sp := speaks11_any
  by_cases h40 : (40 : Int) < (l.length : Int)
  · have g1 : ((40 : Int) < (l.length : Int)) = True := eq_true h40
    refine top_call c9_ok Try.func9 rfl Try.ntmps9 res9_ok [ .val (.int .u8 site), .val (.slice ad l.length cap)] (by simp) (by (repeat' (first | exact VRs_nil' _ | exact VR_val' _ _ | (refine VRs_cons' ?_ ?_) | (refine VR_agg' (by first | rfl | assumption) ?_; first | assumption | simp [Value.oneCell', St.rep, En.rep])))) ?_; try simp (maxSteps := 9999999) (disch := omega) only [go_sem]
    refine AWpA.thawT 1 EnL hz (fun x => by simp [En.rep, St.rep]) rfl ?_
    (repeat' (first | refine AWpA.seq ?_ | refine AWpA.block ?_ | (with_reducible refine CondP.tt ?_) | (with_reducible refine CondP.ff ?_) | refine AWpA.condv (by simp (maxSteps := 9999999) (disch := omega) only [go_sem, hr, g1]; rfl) ?_ | ((first | (apply AWpA.region; (focus (simp (maxSteps := 9999999) (disch := omega) only [go_sem, hr, g1]; rfl))) | (apply AWpA.draw [] [] follows; (focus (first | rfl | decide)); (focus (simp (maxSteps := 9999999) (disch := omega) only [go_sem, hr, g1]; rfl)); (focus (simp (maxSteps := 9999999) (disch := omega) only [go_sem, hr, g1]; first | done | trivial)); (focus (simp (maxSteps := 9999999) (disch := omega) only [go_sem, hr, g1]; rfl))) | (apply TailK.go; (focus (simp (maxSteps := 9999999) (disch := omega) only [go_sem, hr, g1]; rfl))) | refine AWpA.skip ?_ | refine AWpA.exit ?_ | refine AWpA.ret ?_ | (with_reducible refine ARoundsA.succ ?_) | ((first | refine Runs.kt (by assumption) (fun h9 => ?_) | refine Runs.kf (by assumption) (fun h9 => ?_) | refine Runs.nt (by assumption) (fun h9 => ?_) | refine Runs.nf (by assumption) (fun h9 => ?_) | refine CondP.ht (by assumption) (fun h9 => ?_) | refine CondP.hf (by assumption) (fun h9 => ?_) | refine CondP.nt (by assumption) (fun h9 => ?_) | refine CondP.nf (by assumption) (fun h9 => ?_)); (try simp only [h9]); clear h9) | ((first | (with_reducible apply CallG.plain1 [] (sp)) | (with_reducible apply CallG.draw1 [] (sp))); (focus ((try refine And.intro (leAs_of_eq rfl) ?_); (try refine And.intro (leOL_of_eq rfl) ?_); simp (maxSteps := 9999999) (disch := omega) only [go_sem, hr, g1]; first | done | (repeat' (first | rfl | (refine And.intro ?_ ?_))))); (focus (simp (maxSteps := 9999999) (disch := omega) only [go_sem, hr, g1]; rfl)))); (try simp (maxSteps := 9999999) (disch := omega) only [go_sem, hr, g1]); (try (refine And.intro ?_ ?_; (focus (first | omega | (simp only [go_sem]; done) | (simp; done) | (simp; omega) | assumption))))) | ((first | refine CondP.split (fun hif => ?_) (fun hif => ?_) | refine Runs.part (fun hif => ?_) (fun hif => ?_)) <;> ((try simp only [hif]); (try simp only [decide_eq_true_eq, decide_eq_false_iff_not, Bool.not_eq_true, Bool.not_eq_false, Bool.not_eq_true', Bool.not_eq_false', beq_iff_eq, bne_iff_ne, bne_eq_false_iff_eq, beq_eq_false_iff_ne, ne_eq, Bool.and_eq_true, Bool.or_eq_true, Bool.or_eq_false_iff] at hif); (try (have h9 : _ = true := hif; simp only [h9])); (try (have h9 : _ = false := hif; simp only [h9])); (try simp (maxSteps := 9999999) (disch := omega) only [go_sem, hr, g1]); (try (refine And.intro ?_ ?_; (focus (first | omega | (simp only [go_sem]; done) | (simp; done) | (simp; omega) | assumption)))); (try (exfalso; omega; done))))))
    (refine TopPost.of (by first | exact .inl rfl | exact .inr rfl) (by (try simp (maxSteps := 9999999) (disch := omega) only [go_sem]); rfl) ?_; (try simp (maxSteps := 9999999) (disch := omega) only [go_sem]); (try (first | trivial | decide | (simp; done))))
  have g1 : ((40 : Int) < (l.length : Int)) = False := eq_false h40
  obtain ⟨k, hk, hk12⟩ : ∃ k : Nat, site.tmod 12 = (k : Int) ∧ k < 12 := by
    rw [Int.tmod_eq_emod_of_nonneg h1]
    refine ⟨(site % 12).toNat, ?_, ?_⟩ <;> omega
  have n1 := gnew_any k 2147483647 (by omega) (by decide)
  refine top_call c9_ok Try.func9 rfl Try.ntmps9 res9_ok [ .val (.int .u8 site), .val (.slice ad l.length cap)] (by simp) (by (repeat' (first | exact VRs_nil' _ | exact VR_val' _ _ | (refine VRs_cons' ?_ ?_) | (refine VR_agg' (by first | rfl | assumption) ?_; first | assumption | simp [Value.oneCell', St.rep, En.rep])))) ?_; try simp (maxSteps := 9999999) (disch := omega) only [go_sem]
  refine AWpA.thawT 1 EnL hz (fun x => by simp [En.rep, St.rep]) rfl ?_
  refine AWpA.dummy ?_
  refine AWpA.dummy ?_
  (repeat' (first | refine AWpA.seq ?_ | refine AWpA.block ?_ | (with_reducible refine CondP.tt ?_) | (with_reducible refine CondP.ff ?_) | refine AWpA.condv (by simp (maxSteps := 9999999) (disch := omega) only [go_sem, hr, hk, hp, g1]; rfl) ?_ | ((first | (apply AWpA.region; (focus (simp (maxSteps := 9999999) (disch := omega) only [go_sem, hr, hk, hp, g1]; rfl))) | (apply AWpA.draw [] [] follows; (focus (first | rfl | decide)); (focus (simp (maxSteps := 9999999) (disch := omega) only [go_sem, hr, hk, hp, g1]; rfl)); (focus (simp (maxSteps := 9999999) (disch := omega) only [go_sem, hr, hk, hp, g1]; first | done | trivial)); (focus (simp (maxSteps := 9999999) (disch := omega) only [go_sem, hr, hk, hp, g1]; rfl))) | (apply TailK.go; (focus (simp (maxSteps := 9999999) (disch := omega) only [go_sem, hr, hk, hp, g1]; rfl))) | refine AWpA.skip ?_ | refine AWpA.exit ?_ | refine AWpA.ret ?_ | (with_reducible refine ARoundsA.succ ?_) | ((first | refine Runs.kt (by assumption) (fun h9 => ?_) | refine Runs.kf (by assumption) (fun h9 => ?_) | refine Runs.nt (by assumption) (fun h9 => ?_) | refine Runs.nf (by assumption) (fun h9 => ?_) | refine CondP.ht (by assumption) (fun h9 => ?_) | refine CondP.hf (by assumption) (fun h9 => ?_) | refine CondP.nt (by assumption) (fun h9 => ?_) | refine CondP.nf (by assumption) (fun h9 => ?_)); (try simp only [h9]); clear h9) | ((first | (with_reducible apply CallG.plain1 [] (sp)) | (with_reducible apply CallG.draw1 [] (sp))); (focus ((try refine And.intro (leAs_of_eq rfl) ?_); (try refine And.intro (leOL_of_eq rfl) ?_); simp (maxSteps := 9999999) (disch := omega) only [go_sem, hr, hk, hp, g1]; first | done | (repeat' (first | rfl | (refine And.intro ?_ ?_))))); (focus (simp (maxSteps := 9999999) (disch := omega) only [go_sem, hr, hk, hp, g1]; rfl))) | ((first | (with_reducible apply CallG.plain1 [] (n1)) | (with_reducible apply CallG.draw1 [] (n1))); (focus ((try refine And.intro (leAs_of_eq rfl) ?_); (try refine And.intro (leOL_of_eq rfl) ?_); simp (maxSteps := 9999999) (disch := omega) only [go_sem, hr, hk, hp, g1]; first | done | (repeat' (first | rfl | (refine And.intro ?_ ?_))))); (focus (simp (maxSteps := 9999999) (disch := omega) only [go_sem, hr, hk, hp, g1]; rfl)))); (try simp (maxSteps := 9999999) (disch := omega) only [go_sem, hr, hk, hp, g1]); (try (refine And.intro ?_ ?_; (focus (first | omega | (simp only [go_sem]; done) | (simp; done) | (simp; omega) | assumption))))) | ((first | refine CondP.split (fun hif => ?_) (fun hif => ?_) | refine Runs.part (fun hif => ?_) (fun hif => ?_)) <;> ((try simp only [hif]); (try simp only [decide_eq_true_eq, decide_eq_false_iff_not, Bool.not_eq_true, Bool.not_eq_false, Bool.not_eq_true', Bool.not_eq_false', beq_iff_eq, bne_iff_ne, bne_eq_false_iff_eq, beq_eq_false_iff_ne, ne_eq, Bool.and_eq_true, Bool.or_eq_true, Bool.or_eq_false_iff] at hif); (try (have h9 : _ = true := hif; simp only [h9])); (try (have h9 : _ = false := hif; simp only [h9])); (try simp (maxSteps := 9999999) (disch := omega) only [go_sem, hr, hk, hp, g1]); (try (refine And.intro ?_ ?_; (focus (first | omega | (simp only [go_sem]; done) | (simp; done) | (simp; omega) | assumption)))); (try (exfalso; omega; done))))))
  (apply AWpA.loopL (fun p : Nat × List PE × List PE => [(1, .sl 0 off l.length 9 none), (6, .ptr 1 0), (8, .ptr 4 0), (50, I l.length), (51, I p.1)]) (fun p => [.cells true (Re off l), GrO 2 k 2147483647, Ue.TbO 3 ⟨4096, p.2.1⟩, .cells false (Ue.Rp 0 p.2.1), GrO 5 k 2147483647, Ue.TbO 6 ⟨4096, p.2.2⟩, .cells false (Ue.Rp 0 p.2.2)]) (fun p => l.length - p.1) (fun p => p.1 ≤ l.length ∧ (p.2.1.length ≤ p.1 ∧ GI k 2147483647 p.2.1 ∧ AnyI k 2147483647 (l.take p.1) p.2.1) ∧ (p.2.2.length ≤ p.1 ∧ GI k 2147483647 p.2.2 ∧ AnyI k 2147483647 (l.drop (l.length - p.1)) p.2.2)) ((0, [], [])) [0, _, _, 1, _, _, 2]; rotate_left; (focus (simp (maxSteps := 9999999) (disch := omega) only [go_sem, hr, hp, Ue.rp_nil]; (try (repeat' (first | done | trivial | rfl | exact leAs_rfl _ | decide | (refine And.intro ?_ ?_) | (simp; done) | omega | (simp; decide)))))); rotate_right)
  · refine ⟨Nat.zero_le _, ⟨Nat.le_refl _, gi_nil _ _, any_nil _ _⟩, ⟨Nat.le_refl _, gi_nil _ _, ?_⟩⟩
    simpa using any_nil _ _
  rintro ⟨i, la, lb⟩ ⟨hi, ⟨hla, ga, ya⟩, ⟨hlb, gb, yb⟩⟩
  (try simp only at hi hla ga ya hlb gb yb)
  by_cases hin : i < l.length
  · have k1 : ((i : Int) < (l.length : Int)) = True := eq_true (by omega)
    have hat1 := re_at off l i hin
    have hat2 := re_at off l (l.length - 1 - i) (by omega)
    have hix : ((l.length : Int) - 1 - (i : Int)).toNat = l.length - 1 - i := by omega
    have ya2 := any_step (done' := l.take (i + 1)) (e := l[i]) ga.rise ya fun x => by
      rw [List.take_succ_eq_append_getElem hin]
      simp only [List.mem_append, List.mem_singleton]
    have yb2 := any_step (done' := l.drop (l.length - (i + 1))) (e := l[l.length - 1 - i]) gb.rise yb fun x => by
      have e : l.length - (i + 1) = l.length - 1 - i := by omega
      rw [e, List.drop_eq_getElem_cons (by omega)]
      rw [show l.length - 1 - i + 1 = l.length - i by omega]
      simp only [List.mem_cons]
      exact Or.comm
    have ga2 := bury_gi ga l[i]
    have gb2 := bury_gi gb l[l.length - 1 - i]
    have la2 := bury_len k 2147483647 la l[i]
    have lb2 := bury_len k 2147483647 lb l[l.length - 1 - i]
    have c1 := bury_any k 2147483647 ⟨4096, la⟩ l[i] ⟨ga.rise, by simp only; omega⟩ (by simp only; omega) (fun h => ga.key _ (has_mem h))
    have c2 := bury_any k 2147483647 ⟨4096, lb⟩ l[l.length - 1 - i] ⟨gb.rise, by simp only; omega⟩ (by simp only; omega) (fun h => gb.key _ (has_mem h))
    have c0 := short_any l[i]
    have o1 := of05_any l[i]
    have o2 := of05_any l[l.length - 1 - i]
    simp only at c1 c2
    generalize buryB k 2147483647 la l[i] = b1 at *
    generalize buryB k 2147483647 lb l[l.length - 1 - i] = b2 at *
    generalize buryL k 2147483647 la l[i] = la' at *
    generalize buryL k 2147483647 lb l[l.length - 1 - i] = lb' at *
    generalize l[i] = x at *
    generalize l[l.length - 1 - i] = y at *
    cases hs : shortB x with
    | false =>
      rw [hs] at c0
      clear ya yb ya2 yb2 ga gb ga2 gb2
      (try simp (maxSteps := 9999999) (disch := omega) only [go_sem])
      (repeat' (first | refine AWpA.seq ?_ | refine AWpA.block ?_ | (with_reducible refine CondP.tt ?_) | (with_reducible refine CondP.ff ?_) | refine AWpA.condv (by simp (maxSteps := 9999999) (disch := omega) only [go_sem, hr, hlen, k1, hat1]; rfl) ?_ | ((first | (apply AWpA.region; (focus (simp (maxSteps := 9999999) (disch := omega) only [go_sem, hr, hlen, k1, hat1]; rfl))) | (apply AWpA.draw [] [] follows; (focus (first | rfl | decide)); (focus (simp (maxSteps := 9999999) (disch := omega) only [go_sem, hr, hlen, k1, hat1]; rfl)); (focus (simp (maxSteps := 9999999) (disch := omega) only [go_sem, hr, hlen, k1, hat1]; first | done | trivial)); (focus (simp (maxSteps := 9999999) (disch := omega) only [go_sem, hr, hlen, k1, hat1]; rfl))) | (apply TailK.go; (focus (simp (maxSteps := 9999999) (disch := omega) only [go_sem, hr, hlen, k1, hat1]; rfl))) | refine AWpA.skip ?_ | refine AWpA.exit ?_ | refine AWpA.ret ?_ | (with_reducible refine ARoundsA.succ ?_) | ((first | refine Runs.kt (by assumption) (fun h9 => ?_) | refine Runs.kf (by assumption) (fun h9 => ?_) | refine Runs.nt (by assumption) (fun h9 => ?_) | refine Runs.nf (by assumption) (fun h9 => ?_) | refine CondP.ht (by assumption) (fun h9 => ?_) | refine CondP.hf (by assumption) (fun h9 => ?_) | refine CondP.nt (by assumption) (fun h9 => ?_) | refine CondP.nf (by assumption) (fun h9 => ?_)); (try simp only [h9]); clear h9) | ((first | (with_reducible apply CallG.plain1 [] (c0)) | (with_reducible apply CallG.draw1 [] (c0))); (focus ((try refine And.intro (leAs_of_eq rfl) ?_); (try refine And.intro (leOL_of_eq rfl) ?_); simp (maxSteps := 9999999) (disch := omega) only [go_sem, hr, hlen, k1, hat1]; first | done | (repeat' (first | rfl | (refine And.intro ?_ ?_))))); (focus (simp (maxSteps := 9999999) (disch := omega) only [go_sem, hr, hlen, k1, hat1]; rfl)))); (try simp (maxSteps := 9999999) (disch := omega) only [go_sem, hr, hlen, k1, hat1]); (try (refine And.intro ?_ ?_; (focus (first | omega | (simp only [go_sem]; done) | (simp; done) | (simp; omega) | assumption))))) | ((first | refine CondP.split (fun hif => ?_) (fun hif => ?_) | refine Runs.part (fun hif => ?_) (fun hif => ?_)) <;> ((try simp only [hif]); (try simp only [decide_eq_true_eq, decide_eq_false_iff_not, Bool.not_eq_true, Bool.not_eq_false, Bool.not_eq_true', Bool.not_eq_false', beq_iff_eq, bne_iff_ne, bne_eq_false_iff_eq, beq_eq_false_iff_ne, ne_eq, Bool.and_eq_true, Bool.or_eq_true, Bool.or_eq_false_iff] at hif); (try (have h9 : _ = true := hif; simp only [h9])); (try (have h9 : _ = false := hif; simp only [h9])); (try simp (maxSteps := 9999999) (disch := omega) only [go_sem, hr, hlen, k1, hat1]); (try (refine And.intro ?_ ?_; (focus (first | omega | (simp only [go_sem]; done) | (simp; done) | (simp; omega) | assumption)))); (try (exfalso; omega; done))))))
      (refine TopPost.of (by first | exact .inl rfl | exact .inr rfl) (by (try simp (maxSteps := 9999999) (disch := omega) only [go_sem]); rfl) ?_; (try simp (maxSteps := 9999999) (disch := omega) only [go_sem]); (try (first | trivial | decide | (simp; done))))
    | true =>
      rw [hs] at c0
      have r1 : la'.length ≤ i + 1 := by omega
      have r2 : lb'.length ≤ i + 1 := by omega
      clear ya yb ga gb la2 lb2
      (try simp (maxSteps := 9999999) (disch := omega) only [go_sem])
      (repeat' (first | refine AWpA.seq ?_ | refine AWpA.block ?_ | (with_reducible refine CondP.tt ?_) | (with_reducible refine CondP.ff ?_) | refine AWpA.condv (by simp (maxSteps := 9999999) (disch := omega) only [go_sem, hr, hp, hlen, k1, hat1, hat2, hix]; rfl) ?_ | ((first | (apply AWpA.region; (focus (simp (maxSteps := 9999999) (disch := omega) only [go_sem, hr, hp, hlen, k1, hat1, hat2, hix]; rfl))) | (apply AWpA.draw [1, 2, 3, 4, 5, 6] [] follows; (focus (first | rfl | decide)); (focus (simp (maxSteps := 9999999) (disch := omega) only [go_sem, hr, hp, hlen, k1, hat1, hat2, hix]; rfl)); (focus (simp (maxSteps := 9999999) (disch := omega) only [go_sem, hr, hp, hlen, k1, hat1, hat2, hix]; first | done | trivial)); (focus (simp (maxSteps := 9999999) (disch := omega) only [go_sem, hr, hp, hlen, k1, hat1, hat2, hix]; rfl))) | (apply TailK.go; (focus (simp (maxSteps := 9999999) (disch := omega) only [go_sem, hr, hp, hlen, k1, hat1, hat2, hix]; rfl))) | refine AWpA.skip ?_ | refine AWpA.exit ?_ | refine AWpA.ret ?_ | (with_reducible refine ARoundsA.succ ?_) | ((first | refine Runs.kt (by assumption) (fun h9 => ?_) | refine Runs.kf (by assumption) (fun h9 => ?_) | refine Runs.nt (by assumption) (fun h9 => ?_) | refine Runs.nf (by assumption) (fun h9 => ?_) | refine CondP.ht (by assumption) (fun h9 => ?_) | refine CondP.hf (by assumption) (fun h9 => ?_) | refine CondP.nt (by assumption) (fun h9 => ?_) | refine CondP.nf (by assumption) (fun h9 => ?_)); (try simp only [h9]); clear h9) | ((first | (with_reducible apply CallG.plain1 [] (c0)) | (with_reducible apply CallG.draw1 [] (c0))); (focus ((try refine And.intro (leAs_of_eq rfl) ?_); (try refine And.intro (leOL_of_eq rfl) ?_); simp (maxSteps := 9999999) (disch := omega) only [go_sem, hr, hp, hlen, k1, hat1, hat2, hix]; first | done | (repeat' (first | rfl | (refine And.intro ?_ ?_))))); (focus (simp (maxSteps := 9999999) (disch := omega) only [go_sem, hr, hp, hlen, k1, hat1, hat2, hix]; rfl))) | ((first | (with_reducible apply CallG.plain1 [] (o1)) | (with_reducible apply CallG.draw1 [] (o1))); (focus ((try refine And.intro (leAs_of_eq rfl) ?_); (try refine And.intro (leOL_of_eq rfl) ?_); simp (maxSteps := 9999999) (disch := omega) only [go_sem, hr, hp, hlen, k1, hat1, hat2, hix]; first | done | (repeat' (first | rfl | (refine And.intro ?_ ?_))))); (focus (simp (maxSteps := 9999999) (disch := omega) only [go_sem, hr, hp, hlen, k1, hat1, hat2, hix]; rfl))) | ((first | (with_reducible apply CallG.plain1 [1, 2, 3] (c1)) | (with_reducible apply CallG.draw1 [1, 2, 3] (c1))); (focus ((try refine And.intro (leAs_of_eq rfl) ?_); (try refine And.intro (leOL_of_eq rfl) ?_); simp (maxSteps := 9999999) (disch := omega) only [go_sem, hr, hp, hlen, k1, hat1, hat2, hix]; first | done | (repeat' (first | rfl | (refine And.intro ?_ ?_))))); (focus (simp (maxSteps := 9999999) (disch := omega) only [go_sem, hr, hp, hlen, k1, hat1, hat2, hix]; rfl))) | ((first | (with_reducible apply CallG.plain1 [] (o2)) | (with_reducible apply CallG.draw1 [] (o2))); (focus ((try refine And.intro (leAs_of_eq rfl) ?_); (try refine And.intro (leOL_of_eq rfl) ?_); simp (maxSteps := 9999999) (disch := omega) only [go_sem, hr, hp, hlen, k1, hat1, hat2, hix]; first | done | (repeat' (first | rfl | (refine And.intro ?_ ?_))))); (focus (simp (maxSteps := 9999999) (disch := omega) only [go_sem, hr, hp, hlen, k1, hat1, hat2, hix]; rfl))) | ((first | (with_reducible apply CallG.plain1 [4, 5, 6] (c2)) | (with_reducible apply CallG.draw1 [4, 5, 6] (c2))); (focus ((try refine And.intro (leAs_of_eq rfl) ?_); (try refine And.intro (leOL_of_eq rfl) ?_); simp (maxSteps := 9999999) (disch := omega) only [go_sem, hr, hp, hlen, k1, hat1, hat2, hix]; first | done | (repeat' (first | rfl | (refine And.intro ?_ ?_))))); (focus (simp (maxSteps := 9999999) (disch := omega) only [go_sem, hr, hp, hlen, k1, hat1, hat2, hix]; rfl)))); (try simp (maxSteps := 9999999) (disch := omega) only [go_sem, hr, hp, hlen, k1, hat1, hat2, hix]); (try (refine And.intro ?_ ?_; (focus (first | omega | (simp only [go_sem]; done) | (simp; done) | (simp; omega) | assumption))))) | ((first | refine CondP.split (fun hif => ?_) (fun hif => ?_) | refine Runs.part (fun hif => ?_) (fun hif => ?_)) <;> ((try simp only [hif]); (try simp only [decide_eq_true_eq, decide_eq_false_iff_not, Bool.not_eq_true, Bool.not_eq_false, Bool.not_eq_true', Bool.not_eq_false', beq_iff_eq, bne_iff_ne, bne_eq_false_iff_eq, beq_eq_false_iff_ne, ne_eq, Bool.and_eq_true, Bool.or_eq_true, Bool.or_eq_false_iff] at hif); (try (have h9 : _ = true := hif; simp only [h9])); (try (have h9 : _ = false := hif; simp only [h9])); (try simp (maxSteps := 9999999) (disch := omega) only [go_sem, hr, hp, hlen, k1, hat1, hat2, hix]); (try (refine And.intro ?_ ?_; (focus (first | omega | (simp only [go_sem]; done) | (simp; done) | (simp; omega) | assumption)))); (try (exfalso; omega; done))))))
      (apply Back.to (i + 1, la', lb') [0, 1, 2, 247, 4, 5, 423]; (focus ((try simp (maxSteps := 9999999) (disch := omega) only [go_sem, hr, hp]); first | done | omega)); rotate_left; (focus (simp (maxSteps := 9999999) (disch := omega) only [go_sem, hr, hp]; (try (repeat' (first | done | trivial | rfl | exact leAs_rfl _ | decide | (refine And.intro ?_ ?_) | (simp; done) | omega | (simp; decide)))))))
      exact ⟨by simp only; omega, ⟨r1, ga2, ya2⟩, ⟨r2, gb2, yb2⟩⟩
  · obtain rfl : i = l.length := by omega
    have k1 : ((l.length : Int) < (l.length : Int)) = False := eq_false (by omega)
    rw [List.take_length] at ya
    rw [Nat.sub_self, List.drop_zero] at yb
    obtain ⟨hll, hsame⟩ := any_same ga gb ya yb fun e => Iff.rfl
    have c1 := gall_any k 2147483647 ⟨4096, la⟩ (by simp only; omega)
    have c2 := gall_any k 2147483647 ⟨4096, lb⟩ (by simp only; omega)
    have c3 := tos_any 0 (la.map fun p : PE => p.v) (by simp; omega)
    have c4 := tos_any 0 (lb.map fun p : PE => p.v) (by simp; omega)
    simp only [List.length_map] at c1 c2 c3 c4
    rw [hll] at c2 c4
    have hsA : ∀ i (h : i < (la.map fun p : PE => p.v).length) (h' : i < (lb.map fun p : PE => p.v).length), (la.map fun p : PE => p.v)[i].key = (lb.map fun p : PE => p.v)[i].key ∧ (la.map fun p : PE => p.v)[i].st = (lb.map fun p : PE => p.v)[i].st ∧ (la.map fun p : PE => p.v)[i].act = (lb.map fun p : PE => p.v)[i].act ∧ (la.map fun p : PE => p.v)[i].age = (lb.map fun p : PE => p.v)[i].age := fun i h h' => by
      simp only [List.getElem_map]
      exact hsame i (by simpa using h) (by simpa using h')
    have hmA : (la.map fun p : PE => p.v).length = la.length := List.length_map _
    have hmB : (lb.map fun p : PE => p.v).length = la.length := by rw [List.length_map, hll]
    clear hsame ya yb ga gb
    generalize (la.map fun p : PE => p.v) = A at *
    generalize (lb.map fun p : PE => p.v) = B at *
    have hn : la.length ≤ 40 := by omega
    generalize la.length = n at *
    (try simp (maxSteps := 9999999) (disch := omega) only [go_sem])
    (repeat' (first | refine AWpA.seq ?_ | refine AWpA.block ?_ | (with_reducible refine CondP.tt ?_) | (with_reducible refine CondP.ff ?_) | refine AWpA.condv (by simp (maxSteps := 9999999) (disch := omega) only [go_sem, hr, hp, k1]; rfl) ?_ | ((first | (apply AWpA.region; (focus (simp (maxSteps := 9999999) (disch := omega) only [go_sem, hr, hp, k1]; rfl))) | (apply AWpA.draw [] [] follows; (focus (first | rfl | decide)); (focus (simp (maxSteps := 9999999) (disch := omega) only [go_sem, hr, hp, k1]; rfl)); (focus (simp (maxSteps := 9999999) (disch := omega) only [go_sem, hr, hp, k1]; first | done | trivial)); (focus (simp (maxSteps := 9999999) (disch := omega) only [go_sem, hr, hp, k1]; rfl))) | (apply TailK.go; (focus (simp (maxSteps := 9999999) (disch := omega) only [go_sem, hr, hp, k1]; rfl))) | refine AWpA.skip ?_ | refine AWpA.exit ?_ | refine AWpA.ret ?_ | (with_reducible refine ARoundsA.succ ?_) | ((first | refine Runs.kt (by assumption) (fun h9 => ?_) | refine Runs.kf (by assumption) (fun h9 => ?_) | refine Runs.nt (by assumption) (fun h9 => ?_) | refine Runs.nf (by assumption) (fun h9 => ?_) | refine CondP.ht (by assumption) (fun h9 => ?_) | refine CondP.hf (by assumption) (fun h9 => ?_) | refine CondP.nt (by assumption) (fun h9 => ?_) | refine CondP.nf (by assumption) (fun h9 => ?_)); (try simp only [h9]); clear h9) | ((first | (with_reducible apply CallG.plain1 [1, 2, 3] (c1)) | (with_reducible apply CallG.draw1 [1, 2, 3] (c1))); (focus ((try refine And.intro (leAs_of_eq rfl) ?_); (try refine And.intro (leOL_of_eq rfl) ?_); simp (maxSteps := 9999999) (disch := omega) only [go_sem, hr, hp, k1]; first | done | (repeat' (first | rfl | (refine And.intro ?_ ?_))))); (focus (simp (maxSteps := 9999999) (disch := omega) only [go_sem, hr, hp, k1]; rfl))) | ((first | (with_reducible apply CallG.plain1 [39] (c3)) | (with_reducible apply CallG.draw1 [39] (c3))); (focus ((try refine And.intro (leAs_of_eq rfl) ?_); (try refine And.intro (leOL_of_eq rfl) ?_); simp (maxSteps := 9999999) (disch := omega) only [go_sem, hr, hp, k1]; first | done | (repeat' (first | rfl | (refine And.intro ?_ ?_))))); (focus (simp (maxSteps := 9999999) (disch := omega) only [go_sem, hr, hp, k1]; rfl))) | ((first | (with_reducible apply CallG.plain1 [4, 5, 6] (c2)) | (with_reducible apply CallG.draw1 [4, 5, 6] (c2))); (focus ((try refine And.intro (leAs_of_eq rfl) ?_); (try refine And.intro (leOL_of_eq rfl) ?_); simp (maxSteps := 9999999) (disch := omega) only [go_sem, hr, hp, k1]; first | done | (repeat' (first | rfl | (refine And.intro ?_ ?_))))); (focus (simp (maxSteps := 9999999) (disch := omega) only [go_sem, hr, hp, k1]; rfl))) | ((first | (with_reducible apply CallG.plain1 [87] (c4)) | (with_reducible apply CallG.draw1 [87] (c4))); (focus ((try refine And.intro (leAs_of_eq rfl) ?_); (try refine And.intro (leOL_of_eq rfl) ?_); simp (maxSteps := 9999999) (disch := omega) only [go_sem, hr, hp, k1]; first | done | (repeat' (first | rfl | (refine And.intro ?_ ?_))))); (focus (simp (maxSteps := 9999999) (disch := omega) only [go_sem, hr, hp, k1]; rfl)))); (try simp (maxSteps := 9999999) (disch := omega) only [go_sem, hr, hp, k1]); (try (refine And.intro ?_ ?_; (focus (first | omega | (simp only [go_sem]; done) | (simp; done) | (simp; omega) | assumption))))) | ((first | refine CondP.split (fun hif => ?_) (fun hif => ?_) | refine Runs.part (fun hif => ?_) (fun hif => ?_)) <;> ((try simp only [hif]); (try simp only [decide_eq_true_eq, decide_eq_false_iff_not, Bool.not_eq_true, Bool.not_eq_false, Bool.not_eq_true', Bool.not_eq_false', beq_iff_eq, bne_iff_ne, bne_eq_false_iff_eq, beq_eq_false_iff_ne, ne_eq, Bool.and_eq_true, Bool.or_eq_true, Bool.or_eq_false_iff] at hif); (try (have h9 : _ = true := hif; simp only [h9])); (try (have h9 : _ = false := hif; simp only [h9])); (try simp (maxSteps := 9999999) (disch := omega) only [go_sem, hr, hp, k1]); (try (refine And.intro ?_ ?_; (focus (first | omega | (simp only [go_sem]; done) | (simp; done) | (simp; omega) | assumption)))); (try (exfalso; omega; done))))))
    (apply AWpA.loopL (fun i : Nat => [(11, .sl 0 0 n 9 none), (12, .sl 1 0 n 9 none), (91, I n), (92, I i)]) (fun i => [.cells false (Re 0 A), .cells false (Re 0 B)]) (fun i => n - i) (fun i => i ≤ n) (0) [55, 103]; rotate_left; (focus (simp (maxSteps := 9999999) (disch := omega) only [go_sem, hr]; (try (repeat' (first | done | trivial | rfl | exact leAs_rfl _ | decide | (refine And.intro ?_ ?_) | (simp; done) | omega | (simp; decide)))))); rotate_right)
    · exact Nat.zero_le _
    rintro j hj
    (try simp only at hj)
    by_cases hjn : j < n
    · have m1 : ((j : Int) < (n : Int)) = True := eq_true (by omega)
      have hbe : ∀ x : ByteArray, (x == x) = true := fun x => (_root_.Go.MapKept.bytes_beq _ _).2 rfl
      obtain ⟨q1, q2, q3, q4⟩ := re_fst A j (by omega)
      obtain ⟨p1, p2, p3, p4⟩ := re_fst B j (by omega)
      obtain ⟨s1, s2, s3, s4⟩ := hsA j (by omega) (by omega)
      have LA := re_len 0 A
      have LB := re_len 0 B
      rw [hmA] at LA
      rw [hmB] at LB
      rw [← s2] at p1
      rw [← s3] at p2
      rw [← s4] at p3
      rw [← s1] at p4
      clear s1 s2 s3 s4 hsA
      generalize A[j] = x at *
      (try simp (maxSteps := 9999999) (disch := omega) only [go_sem])
      (repeat' (first | refine AWpA.seq ?_ | refine AWpA.block ?_ | (with_reducible refine CondP.tt ?_) | (with_reducible refine CondP.ff ?_) | refine AWpA.condv (by simp (maxSteps := 9999999) (disch := omega) only [go_sem, hr, LA, LB, m1, hbe, q1, q2, q3, q4, p1, p2, p3, p4]; rfl) ?_ | ((first | (apply AWpA.region; (focus (simp (maxSteps := 9999999) (disch := omega) only [go_sem, hr, LA, LB, m1, hbe, q1, q2, q3, q4, p1, p2, p3, p4]; rfl))) | (apply AWpA.draw [] [] follows; (focus (first | rfl | decide)); (focus (simp (maxSteps := 9999999) (disch := omega) only [go_sem, hr, LA, LB, m1, hbe, q1, q2, q3, q4, p1, p2, p3, p4]; rfl)); (focus (simp (maxSteps := 9999999) (disch := omega) only [go_sem, hr, LA, LB, m1, hbe, q1, q2, q3, q4, p1, p2, p3, p4]; first | done | trivial)); (focus (simp (maxSteps := 9999999) (disch := omega) only [go_sem, hr, LA, LB, m1, hbe, q1, q2, q3, q4, p1, p2, p3, p4]; rfl))) | (apply TailK.go; (focus (simp (maxSteps := 9999999) (disch := omega) only [go_sem, hr, LA, LB, m1, hbe, q1, q2, q3, q4, p1, p2, p3, p4]; rfl))) | refine AWpA.skip ?_ | refine AWpA.exit ?_ | refine AWpA.ret ?_ | (with_reducible refine ARoundsA.succ ?_) | ((first | refine Runs.kt (by assumption) (fun h9 => ?_) | refine Runs.kf (by assumption) (fun h9 => ?_) | refine Runs.nt (by assumption) (fun h9 => ?_) | refine Runs.nf (by assumption) (fun h9 => ?_) | refine CondP.ht (by assumption) (fun h9 => ?_) | refine CondP.hf (by assumption) (fun h9 => ?_) | refine CondP.nt (by assumption) (fun h9 => ?_) | refine CondP.nf (by assumption) (fun h9 => ?_)); (try simp only [h9]); clear h9)); (try simp (maxSteps := 9999999) (disch := omega) only [go_sem, hr, LA, LB, m1, hbe, q1, q2, q3, q4, p1, p2, p3, p4]); (try (refine And.intro ?_ ?_; (focus (first | omega | (simp only [go_sem]; done) | (simp; done) | (simp; omega) | assumption))))) | ((first | refine CondP.split (fun hif => ?_) (fun hif => ?_) | refine Runs.part (fun hif => ?_) (fun hif => ?_)) <;> ((try simp only [hif]); (try simp only [decide_eq_true_eq, decide_eq_false_iff_not, Bool.not_eq_true, Bool.not_eq_false, Bool.not_eq_true', Bool.not_eq_false', beq_iff_eq, bne_iff_ne, bne_eq_false_iff_eq, beq_eq_false_iff_ne, ne_eq, Bool.and_eq_true, Bool.or_eq_true, Bool.or_eq_false_iff] at hif); (try (have h9 : _ = true := hif; simp only [h9])); (try (have h9 : _ = false := hif; simp only [h9])); (try simp (maxSteps := 9999999) (disch := omega) only [go_sem, hr, LA, LB, m1, hbe, q1, q2, q3, q4, p1, p2, p3, p4]); (try (refine And.intro ?_ ?_; (focus (first | omega | (simp only [go_sem]; done) | (simp; done) | (simp; omega) | assumption)))); (try (exfalso; omega; done))))))
      (apply Back.to (j + 1) [0, 1]; (focus ((try simp (maxSteps := 9999999) (disch := omega) only [go_sem, hr]); first | done | omega)); rotate_left; (focus (simp (maxSteps := 9999999) (disch := omega) only [go_sem, hr]; (try (repeat' (first | done | trivial | rfl | exact leAs_rfl _ | decide | (refine And.intro ?_ ?_) | (simp; done) | omega | (simp; decide)))))))
      omega
    · obtain rfl : j = n := by omega
      have m1 : ((j : Int) < (j : Int)) = False := eq_false (by omega)
      (try simp (maxSteps := 9999999) (disch := omega) only [go_sem])
      (repeat' (first | refine AWpA.seq ?_ | refine AWpA.block ?_ | (with_reducible refine CondP.tt ?_) | (with_reducible refine CondP.ff ?_) | refine AWpA.condv (by simp (maxSteps := 9999999) (disch := omega) only [go_sem, hr, m1]; rfl) ?_ | ((first | (apply AWpA.region; (focus (simp (maxSteps := 9999999) (disch := omega) only [go_sem, hr, m1]; rfl))) | (apply AWpA.draw [] [] follows; (focus (first | rfl | decide)); (focus (simp (maxSteps := 9999999) (disch := omega) only [go_sem, hr, m1]; rfl)); (focus (simp (maxSteps := 9999999) (disch := omega) only [go_sem, hr, m1]; first | done | trivial)); (focus (simp (maxSteps := 9999999) (disch := omega) only [go_sem, hr, m1]; rfl))) | (apply TailK.go; (focus (simp (maxSteps := 9999999) (disch := omega) only [go_sem, hr, m1]; rfl))) | refine AWpA.skip ?_ | refine AWpA.exit ?_ | refine AWpA.ret ?_ | (with_reducible refine ARoundsA.succ ?_) | ((first | refine Runs.kt (by assumption) (fun h9 => ?_) | refine Runs.kf (by assumption) (fun h9 => ?_) | refine Runs.nt (by assumption) (fun h9 => ?_) | refine Runs.nf (by assumption) (fun h9 => ?_) | refine CondP.ht (by assumption) (fun h9 => ?_) | refine CondP.hf (by assumption) (fun h9 => ?_) | refine CondP.nt (by assumption) (fun h9 => ?_) | refine CondP.nf (by assumption) (fun h9 => ?_)); (try simp only [h9]); clear h9)); (try simp (maxSteps := 9999999) (disch := omega) only [go_sem, hr, m1]); (try (refine And.intro ?_ ?_; (focus (first | omega | (simp only [go_sem]; done) | (simp; done) | (simp; omega) | assumption))))) | ((first | refine CondP.split (fun hif => ?_) (fun hif => ?_) | refine Runs.part (fun hif => ?_) (fun hif => ?_)) <;> ((try simp only [hif]); (try simp only [decide_eq_true_eq, decide_eq_false_iff_not, Bool.not_eq_true, Bool.not_eq_false, Bool.not_eq_true', Bool.not_eq_false', beq_iff_eq, bne_iff_ne, bne_eq_false_iff_eq, beq_eq_false_iff_ne, ne_eq, Bool.and_eq_true, Bool.or_eq_true, Bool.or_eq_false_iff] at hif); (try (have h9 : _ = true := hif; simp only [h9])); (try (have h9 : _ = false := hif; simp only [h9])); (try simp (maxSteps := 9999999) (disch := omega) only [go_sem, hr, m1]); (try (refine And.intro ?_ ?_; (focus (first | omega | (simp only [go_sem]; done) | (simp; done) | (simp; omega) | assumption)))); (try (exfalso; omega; done))))))
      (refine TopPost.of (by first | exact .inl rfl | exact .inr rfl) (by (try simp (maxSteps := 9999999) (disch := omega) only [go_sem]); rfl) ?_; (try simp (maxSteps := 9999999) (disch := omega) only [go_sem]); (try (first | trivial | decide | (simp; done))))
end Go.Proofs.Ytgjimlgofakbpaa
