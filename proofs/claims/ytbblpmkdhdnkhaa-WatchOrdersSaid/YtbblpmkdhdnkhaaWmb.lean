/- The walk of WatchOrders. -/
import Derived.Test.YtbblpmkdhdnkhaaWma
import Derived.Test.YtbblpmkdhdnkhaaWm7
import Derived.Test.YtbblpmkdhdnkhaaSo3
import Derived.Test.YtbblpmkdhdnkhaaAb
namespace Go.Proofs.Ytbblpmkdhdnkhaa
set_option linter.unusedSimpArgs false
set_option linter.unusedVariables false
set_option maxHeartbeats 4000000
open Go Go.Am Go.RowKit Go.ChangeShapes Go.WideShapes Go.ChangeAt
set_option maxRecDepth 100000
set_option maxHeartbeats 4000000
def St.rep (a : St) : List Value := (fun n : Int => [.int .i64 n]) a.c ++ (fun n : Int => [.int .i64 n]) a.s
structure St.ok (W : World) (a : St) : Prop where
  c : (fun n : Int => IntKind.i64.min ≤ n ∧ n ≤ IntKind.i64.max) a.c
  s : (fun n : Int => IntKind.i64.min ≤ n ∧ n ≤ IntKind.i64.max) a.s
set_option maxRecDepth 100000 in
theorem rd_St {H : Type} {enc : TypeId × Value → H} {W : World} {base : Nat} {held : Bool} : Rd enc Try.prog W base held 27 St.rep (St.ok W) := fun n cs x h => by
  obtain ⟨xs, n1, _, _, hlen, hx, hf⟩ := DataW.trod_struct Try.underlying27 h
  rw [show Try.prog.cellsOf 27 = 2 by kernel_rfl] at hlen
  have f0 : DataW.trod enc Try.prog W base (fun _ => true) held n1 3 ((cs.drop 0).take (Try.prog.cellsOf 3)) = xs[0]? := hf 0 _ rfl
  rw [show Try.prog.cellsOf 3 = 1 by kernel_rfl] at f0
  obtain ⟨y0, h0⟩ := at_some2 hx (by decide) f0
  obtain ⟨g0, a0, e0, w0⟩ := (rd_int Try.underlying3 : Rd _ _ _ _ _ _ (fun n : Int => [.int .i64 n]) (fun n : Int => IntKind.i64.min ≤ n ∧ n ≤ IntKind.i64.max)) _ _ _ h0
  have f1 : DataW.trod enc Try.prog W base (fun _ => true) held n1 3 ((cs.drop 1).take (Try.prog.cellsOf 3)) = xs[1]? := hf 1 _ rfl
  rw [show Try.prog.cellsOf 3 = 1 by kernel_rfl] at f1
  obtain ⟨y1, h1⟩ := at_some2 hx (by decide) f1
  obtain ⟨g1, a1, e1, w1⟩ := (rd_int Try.underlying3 : Rd _ _ _ _ _ _ (fun n : Int => [.int .i64 n]) (fun n : Int => IntKind.i64.min ≤ n ∧ n ≤ IntKind.i64.max)) _ _ _ h1
  match cs, hlen with
  | [c0, c1], _ =>
    simp [Sl.rep, St.rep] at e0 g0
    simp [Sl.rep, St.rep] at e1 g1
    exact ⟨by simp [*, Value.oneCell'], ⟨a0, a1⟩, by simp [Sl.rep, St.rep, *], ⟨w0, w1⟩⟩
def En.rep (a : En) : List Value := (fun s : ByteArray => [.string s]) a.key ++ (fun s : ByteArray => [.string s]) a.val ++ (fun b : Bool => [.bool b]) a.dead ++ (St.rep) a.st ++ (St.rep) a.act ++ (fun n : Int => [.int .i64 n]) a.keep ++ (fun n : Int => [.int .i64 n]) a.age
structure En.ok (W : World) (a : En) : Prop where
  key : (fun s : ByteArray => s.size ≤ maxLen) a.key
  val : (fun s : ByteArray => s.size ≤ maxLen) a.val
  dead : (fun _ : Bool => True) a.dead
  st : (St.ok W) a.st
  act : (St.ok W) a.act
  keep : (fun n : Int => IntKind.i64.min ≤ n ∧ n ≤ IntKind.i64.max) a.keep
  age : (fun n : Int => IntKind.i64.min ≤ n ∧ n ≤ IntKind.i64.max) a.age
set_option maxRecDepth 100000 in
theorem rd_En {H : Type} {enc : TypeId × Value → H} {W : World} {base : Nat} {held : Bool} : Rd enc Try.prog W base held 29 En.rep (En.ok W) := fun n cs x h => by
  obtain ⟨xs, n1, _, _, hlen, hx, hf⟩ := DataW.trod_struct Try.underlying29 h
  rw [show Try.prog.cellsOf 29 = 9 by kernel_rfl] at hlen
  have f0 : DataW.trod enc Try.prog W base (fun _ => true) held n1 9 ((cs.drop 0).take (Try.prog.cellsOf 9)) = xs[0]? := hf 0 _ rfl
  rw [show Try.prog.cellsOf 9 = 1 by kernel_rfl] at f0
  obtain ⟨y0, h0⟩ := at_some2 hx (by decide) f0
  obtain ⟨g0, a0, e0, w0⟩ := (rd_string Try.underlying9 : Rd _ _ _ _ _ _ (fun s : ByteArray => [.string s]) (fun s : ByteArray => s.size ≤ maxLen)) _ _ _ h0
  have f1 : DataW.trod enc Try.prog W base (fun _ => true) held n1 9 ((cs.drop 1).take (Try.prog.cellsOf 9)) = xs[1]? := hf 1 _ rfl
  rw [show Try.prog.cellsOf 9 = 1 by kernel_rfl] at f1
  obtain ⟨y1, h1⟩ := at_some2 hx (by decide) f1
  obtain ⟨g1, a1, e1, w1⟩ := (rd_string Try.underlying9 : Rd _ _ _ _ _ _ (fun s : ByteArray => [.string s]) (fun s : ByteArray => s.size ≤ maxLen)) _ _ _ h1
  have f2 : DataW.trod enc Try.prog W base (fun _ => true) held n1 4 ((cs.drop 2).take (Try.prog.cellsOf 4)) = xs[2]? := hf 2 _ rfl
  rw [show Try.prog.cellsOf 4 = 1 by kernel_rfl] at f2
  obtain ⟨y2, h2⟩ := at_some2 hx (by decide) f2
  obtain ⟨g2, a2, e2, w2⟩ := (rd_bool Try.underlying4 : Rd _ _ _ _ _ _ (fun b : Bool => [.bool b]) (fun _ : Bool => True)) _ _ _ h2
  have f3 : DataW.trod enc Try.prog W base (fun _ => true) held n1 27 ((cs.drop 3).take (Try.prog.cellsOf 27)) = xs[3]? := hf 3 _ rfl
  rw [show Try.prog.cellsOf 27 = 2 by kernel_rfl] at f3
  obtain ⟨y3, h3⟩ := at_some2 hx (by decide) f3
  obtain ⟨g3, a3, e3, w3⟩ := (rd_St : Rd _ _ _ _ _ _ (St.rep) (St.ok W)) _ _ _ h3
  have f4 : DataW.trod enc Try.prog W base (fun _ => true) held n1 27 ((cs.drop 5).take (Try.prog.cellsOf 27)) = xs[4]? := hf 4 _ rfl
  rw [show Try.prog.cellsOf 27 = 2 by kernel_rfl] at f4
  obtain ⟨y4, h4⟩ := at_some2 hx (by decide) f4
  obtain ⟨g4, a4, e4, w4⟩ := (rd_St : Rd _ _ _ _ _ _ (St.rep) (St.ok W)) _ _ _ h4
  have f5 : DataW.trod enc Try.prog W base (fun _ => true) held n1 3 ((cs.drop 7).take (Try.prog.cellsOf 3)) = xs[5]? := hf 5 _ rfl
  rw [show Try.prog.cellsOf 3 = 1 by kernel_rfl] at f5
  obtain ⟨y5, h5⟩ := at_some2 hx (by decide) f5
  obtain ⟨g5, a5, e5, w5⟩ := (rd_int Try.underlying3 : Rd _ _ _ _ _ _ (fun n : Int => [.int .i64 n]) (fun n : Int => IntKind.i64.min ≤ n ∧ n ≤ IntKind.i64.max)) _ _ _ h5
  have f6 : DataW.trod enc Try.prog W base (fun _ => true) held n1 3 ((cs.drop 8).take (Try.prog.cellsOf 3)) = xs[6]? := hf 6 _ rfl
  rw [show Try.prog.cellsOf 3 = 1 by kernel_rfl] at f6
  obtain ⟨y6, h6⟩ := at_some2 hx (by decide) f6
  obtain ⟨g6, a6, e6, w6⟩ := (rd_int Try.underlying3 : Rd _ _ _ _ _ _ (fun n : Int => [.int .i64 n]) (fun n : Int => IntKind.i64.min ≤ n ∧ n ≤ IntKind.i64.max)) _ _ _ h6
  match cs, hlen with
  | [c0, c1, c2, c3, c4, c5, c6, c7, c8], _ =>
    simp [Sl.rep, St.rep, En.rep] at e0 g0
    simp [Sl.rep, St.rep, En.rep] at e1 g1
    simp [Sl.rep, St.rep, En.rep] at e2 g2
    simp [Sl.rep, St.rep, En.rep] at e3 g3
    simp [Sl.rep, St.rep, En.rep] at e4 g4
    simp [Sl.rep, St.rep, En.rep] at e5 g5
    simp [Sl.rep, St.rep, En.rep] at e6 g6
    exact ⟨by simp [*, Value.oneCell'], ⟨a0, a1, a2, a3, a4, a5, a6⟩, by simp [Sl.rep, St.rep, En.rep, *], ⟨w0, w1, w2, w3, w4, w5, w6⟩⟩
/- quidnunc/quidnunclaw26.WatchOrders -/
noncomputable def c5_1 : ACode := .region false [⟨some 4, .move, [.c (.val (.bool false))], none⟩] [] [] [0, 1] false [] []
noncomputable def c5_4 : ACode := .region false [⟨some 16, .call 8, [], none⟩,
  ⟨some 17, .un .not, [.t 16], none⟩,
  ⟨some 18, .move, [.t 17], none⟩,
  ⟨some 19, .move, [.t 0], some (some 18, false)⟩,
  ⟨some 20, .call 9, [.t 19], some (some 18, false)⟩,
  ⟨some 21, .un .not, [.t 20], some (some 18, false)⟩,
  ⟨some 22, .pick, [.t 18, .c (.val (.bool true)), .t 21], none⟩,
  ⟨some 23, .move, [.t 22], none⟩,
  ⟨some 24, .move, [.t 1], some (some 23, false)⟩,
  ⟨some 25, .call 9, [.t 24], some (some 23, false)⟩,
  ⟨some 26, .un .not, [.t 25], some (some 23, false)⟩,
  ⟨some 27, .pick, [.t 23, .c (.val (.bool true)), .t 26], none⟩] [] [] [0, 1, 27] true [] []
noncomputable def c5_7 : ACode := .region false [⟨some 28, .call 8, [], none⟩,
  ⟨some 4, .move, [.t 28], none⟩] [] [] [4] true [] []
noncomputable def c5_6 : ACode := .seq c5_7 .ret
noncomputable def c5_5 : ACode := .cond (.t 27) c5_6 .skip
noncomputable def c5_3 : ACode := .seq c5_4 c5_5
noncomputable def c5_9 : ACode := .region false [⟨some 29, .move, [.t 0], none⟩,
  ⟨some 30, .call 12, [.t 29], none⟩,
  ⟨some 31, .call 23, [.t 30], none⟩,
  ⟨some 32, .move, [.t 1], none⟩,
  ⟨some 33, .call 12, [.t 32], none⟩,
  ⟨some 34, .call 23, [.t 33], none⟩,
  ⟨some 5, .move, [.t 31], none⟩,
  ⟨some 6, .move, [.t 34], none⟩] [] [] [0, 1, 5, 6] true [] []
noncomputable def c5_12 : ACode := .region false [⟨some 35, .move, [.t 5], none⟩,
  ⟨some 36, .call 23, [.t 35], none⟩,
  ⟨some 37, .move, [.t 5], none⟩,
  ⟨some 38, .call 24, [.t 36, .t 37], none⟩,
  ⟨some 39, .un .not, [.t 38], none⟩] [] [] [0, 1, 5, 6, 39] true [] []
noncomputable def c5_15 : ACode := .region false [⟨some 4, .move, [.c (.val (.bool false))], none⟩] [] [] [4] false [] []
noncomputable def c5_14 : ACode := .seq c5_15 .ret
noncomputable def c5_13 : ACode := .cond (.t 39) c5_14 .skip
noncomputable def c5_11 : ACode := .seq c5_12 c5_13
noncomputable def c5_17 : ACode := .region false [⟨some 40, .buildSl 9 0 [(.string ⟨#[]⟩), (.string ⟨#[]⟩), (.bool false), (.int .i64 0), (.int .i64 0), (.int .i64 0), (.int .i64 0), (.int .i64 0), (.int .i64 0)] [], [], none⟩,
  ⟨some 41, .move, [.t 5], none⟩,
  ⟨some 42, .append 9 88 false, [.t 40, .t 41], none⟩,
  ⟨some 43, .move, [.t 6], none⟩,
  ⟨some 44, .append 9 88 false, [.t 42, .t 43], none⟩,
  ⟨some 45, .call 23, [.t 44], none⟩,
  ⟨some 7, .move, [.t 45], none⟩] [] [] [0, 1, 5, 6, 7] true [] []
noncomputable def c5_19 : ACode := .region false [⟨some 46, .buildSl 9 0 [(.string ⟨#[]⟩), (.string ⟨#[]⟩), (.bool false), (.int .i64 0), (.int .i64 0), (.int .i64 0), (.int .i64 0), (.int .i64 0), (.int .i64 0)] [], [], none⟩,
  ⟨some 47, .move, [.t 6], none⟩,
  ⟨some 48, .append 9 88 false, [.t 46, .t 47], none⟩,
  ⟨some 49, .move, [.t 5], none⟩,
  ⟨some 50, .append 9 88 false, [.t 48, .t 49], none⟩,
  ⟨some 51, .call 23, [.t 50], none⟩,
  ⟨some 8, .move, [.t 51], none⟩] [] [] [0, 1, 5, 7, 8] true [] []
noncomputable def c5_21 : ACode := .region false [⟨some 52, .move, [.t 0], none⟩,
  ⟨some 53, .call 12, [.t 52], none⟩,
  ⟨some 54, .move, [.t 1], none⟩,
  ⟨some 55, .call 12, [.t 54], none⟩,
  ⟨some 56, .append 9 88 false, [.t 53, .t 55], none⟩,
  ⟨some 57, .call 23, [.t 56], none⟩,
  ⟨some 9, .move, [.t 57], none⟩] [] [] [0, 1, 5, 7, 8, 9] true [] []
noncomputable def c5_24 : ACode := .region false [⟨some 58, .move, [.t 7], none⟩,
  ⟨some 59, .move, [.t 9], none⟩,
  ⟨some 60, .call 24, [.t 58, .t 59], none⟩,
  ⟨some 61, .un .not, [.t 60], none⟩] [] [] [0, 1, 5, 7, 8, 61] true [] []
noncomputable def c5_27 : ACode := .region false [⟨some 4, .move, [.c (.val (.bool false))], none⟩] [] [] [4] false [] []
noncomputable def c5_26 : ACode := .seq c5_27 .ret
noncomputable def c5_25 : ACode := .cond (.t 61) c5_26 .skip
noncomputable def c5_23 : ACode := .seq c5_24 c5_25
noncomputable def c5_30 : ACode := .region false [⟨some 62, .move, [.t 0], none⟩,
  ⟨some 63, .len, [.t 62], none⟩,
  ⟨some 64, .move, [.c (.val (.int .i64 0))], none⟩] [] [] [1, 5, 7, 8, 62, 63, 64] false [] []
noncomputable def c5_34 : ACode := .region false [⟨some 65, .bin .lss, [.t 64, .t 63], none⟩] [] [] [1, 5, 7, 8, 62, 63, 64, 65] false [] []
noncomputable def c5_36 : ACode := .cond (.t 65) .skip (.exit 0)
noncomputable def c5_40 : ACode := .region false [⟨some 66, .ixS 9, [.t 62, .t 64], none⟩,
  ⟨some 67, .load true 9, [.t 66], none⟩,
  ⟨some 11, .alloc [(.string ⟨#[]⟩), (.string ⟨#[]⟩), (.bool false), (.int .i64 0), (.int .i64 0), (.int .i64 0), (.int .i64 0), (.int .i64 0), (.int .i64 0)], [], none⟩,
  ⟨none, .store 9, [.t 11, .t 67], none⟩] [] [] [1, 5, 7, 8, 11, 62, 63, 64] true [] []
noncomputable def c5_42 : ACode := .region false [⟨some 68, .move, [.t 1], none⟩,
  ⟨some 69, .len, [.t 68], none⟩,
  ⟨some 70, .move, [.c (.val (.int .i64 0))], none⟩] [] [] [1, 5, 7, 8, 11, 62, 63, 64, 68, 69, 70] false [] []
noncomputable def c5_46 : ACode := .region false [⟨some 71, .bin .lss, [.t 70, .t 69], none⟩] [] [] [1, 5, 7, 8, 11, 62, 63, 64, 68, 69, 70, 71] false [] []
noncomputable def c5_48 : ACode := .cond (.t 71) .skip (.exit 2)
noncomputable def c5_52 : ACode := .region false [⟨some 72, .ixS 9, [.t 68, .t 70], none⟩,
  ⟨some 73, .load true 9, [.t 72], none⟩,
  ⟨some 13, .alloc [(.string ⟨#[]⟩), (.string ⟨#[]⟩), (.bool false), (.int .i64 0), (.int .i64 0), (.int .i64 0), (.int .i64 0), (.int .i64 0), (.int .i64 0)], [], none⟩,
  ⟨none, .store 9, [.t 13, .t 73], none⟩] [] [] [1, 5, 7, 8, 11, 13, 62, 63, 64, 68, 69, 70] true [] []
noncomputable def c5_54 : ACode := .region false [⟨some 74, .addr 0, [.t 11], none⟩,
  ⟨some 75, .load false 1, [.t 74], none⟩,
  ⟨some 76, .addr 0, [.t 13], none⟩,
  ⟨some 77, .load false 1, [.t 76], none⟩,
  ⟨some 78, .bin .eql, [.t 75, .t 77], none⟩,
  ⟨some 79, .move, [.t 78], none⟩,
  ⟨some 80, .addr 3, [.t 11], some (some 79, true)⟩,
  ⟨some 81, .load true 2, [.t 80], some (some 79, true)⟩,
  ⟨some 82, .addr 3, [.t 13], some (some 79, true)⟩,
  ⟨some 83, .load true 2, [.t 82], some (some 79, true)⟩,
  ⟨some 84, .eqA false [(0, 0), (1, 0)], [.t 81, .t 83], some (some 79, true)⟩,
  ⟨some 85, .pick, [.t 79, .t 84, .c (.val (.bool false))], none⟩,
  ⟨some 86, .move, [.t 85], none⟩,
  ⟨some 87, .addr 5, [.t 11], some (some 86, true)⟩,
  ⟨some 88, .load true 2, [.t 87], some (some 86, true)⟩,
  ⟨some 89, .addr 5, [.t 13], some (some 86, true)⟩,
  ⟨some 90, .load true 2, [.t 89], some (some 86, true)⟩,
  ⟨some 91, .eqA false [(0, 0), (1, 0)], [.t 88, .t 90], some (some 86, true)⟩,
  ⟨some 92, .pick, [.t 86, .t 91, .c (.val (.bool false))], none⟩,
  ⟨some 93, .move, [.t 92], none⟩,
  ⟨some 94, .load true 9, [.t 11], some (some 93, true)⟩,
  ⟨some 95, .load true 9, [.t 13], some (some 93, true)⟩,
  ⟨some 96, .eqA true [(0, 1), (1, 1), (2, 2), (3, 0), (4, 0), (5, 0), (6, 0), (7, 0), (8, 0)], [.t 94, .t 95], some (some 93, true)⟩,
  ⟨some 97, .pick, [.t 93, .t 96, .c (.val (.bool false))], none⟩] [] [] [1, 5, 7, 8, 11, 62, 63, 64, 68, 69, 70, 97] false [] []
noncomputable def c5_57 : ACode := .region false [⟨some 4, .move, [.c (.val (.bool true))], none⟩] [] [] [4] false [] []
noncomputable def c5_56 : ACode := .seq c5_57 .ret
noncomputable def c5_55 : ACode := .cond (.t 97) c5_56 .skip
noncomputable def c5_53 : ACode := .seq c5_54 c5_55
noncomputable def c5_51 : ACode := .seq c5_52 c5_53
noncomputable def c5_50 : ACode := .block 3 c5_51
noncomputable def c5_58 : ACode := .region false [⟨some 98, .bin .add, [.t 70, .c (.val (.int .i64 1))], none⟩,
  ⟨some 70, .move, [.t 98], none⟩] [] [] [1, 5, 7, 8, 11, 62, 63, 64, 68, 69, 70] false [] []
noncomputable def c5_49 : ACode := .seq c5_50 c5_58
noncomputable def c5_47 : ACode := .seq c5_48 c5_49
noncomputable def c5_45 : ACode := .seq c5_46 c5_47
noncomputable def c5_44 : ACode := .loop c5_45
noncomputable def c5_43 : ACode := .block 2 c5_44
noncomputable def c5_41 : ACode := .seq c5_42 c5_43
noncomputable def c5_39 : ACode := .seq c5_40 c5_41
noncomputable def c5_38 : ACode := .block 1 c5_39
noncomputable def c5_59 : ACode := .region false [⟨some 99, .bin .add, [.t 64, .c (.val (.int .i64 1))], none⟩,
  ⟨some 64, .move, [.t 99], none⟩] [] [] [1, 5, 7, 8, 62, 63, 64] false [] []
noncomputable def c5_37 : ACode := .seq c5_38 c5_59
noncomputable def c5_35 : ACode := .seq c5_36 c5_37
noncomputable def c5_33 : ACode := .seq c5_34 c5_35
noncomputable def c5_32 : ACode := .loop c5_33
noncomputable def c5_31 : ACode := .block 0 c5_32
noncomputable def c5_29 : ACode := .seq c5_30 c5_31
noncomputable def c5_62 : ACode := .region false [⟨some 101, .move, [.t 5], none⟩,
  ⟨some 102, .move, [.t 7], none⟩,
  ⟨some 103, .call 25, [.t 101, .t 102], none⟩,
  ⟨some 100, .move, [.t 103], none⟩,
  ⟨some 104, .ext 0, [.t 100], none⟩,
  ⟨some 105, .ext 1, [.t 100], none⟩,
  ⟨some 14, .move, [.t 104], none⟩,
  ⟨some 15, .move, [.t 105], none⟩] [] [] [7, 8, 15] true [] []
noncomputable def c5_64 : ACode := .region false [⟨some 106, .move, [.t 15], none⟩] [] [] [7, 8, 106] false [] []
noncomputable def c5_67 : ACode := .region false [⟨some 4, .move, [.c (.val (.bool false))], none⟩] [] [] [4] false [] []
noncomputable def c5_66 : ACode := .seq c5_67 .ret
noncomputable def c5_65 : ACode := .cond (.t 106) c5_66 .skip
noncomputable def c5_63 : ACode := .seq c5_64 c5_65
noncomputable def c5_61 : ACode := .seq c5_62 c5_63
noncomputable def c5_69 : ACode := .region false [⟨some 107, .move, [.t 7], none⟩,
  ⟨some 108, .move, [.t 8], none⟩,
  ⟨some 109, .call 24, [.t 107, .t 108], none⟩,
  ⟨some 4, .move, [.t 109], none⟩] [] [] [4] true [] []
noncomputable def c5_68 : ACode := .seq c5_69 .ret
noncomputable def c5_60 : ACode := .seq c5_61 c5_68
noncomputable def c5_28 : ACode := .seq c5_29 c5_60
noncomputable def c5_22 : ACode := .seq c5_23 c5_28
noncomputable def c5_20 : ACode := .seq c5_21 c5_22
noncomputable def c5_18 : ACode := .seq c5_19 c5_20
noncomputable def c5_16 : ACode := .seq c5_17 c5_18
noncomputable def c5_10 : ACode := .seq c5_11 c5_16
noncomputable def c5_8 : ACode := .seq c5_9 c5_10
noncomputable def c5_2 : ACode := .seq c5_3 c5_8
noncomputable def c5_0 : ACode := .seq c5_1 c5_2
noncomputable def code5 : Code := (Try.f5.body).getD .skip
theorem c5_ok : compC Try.prog 110 code5 = some (strip c5_0) := by kernel_rfl
theorem res5_ok : Try.f5.results.toList.mapM (resC Try.prog) = some [(4, none)] := by kernel_rfl
/-- Entries of one version are the same. -/
def samV (x y : En) : Prop := x.key = y.key → x.st = y.st → x.act = y.act → x = y
theorem samV_put {x : En} {m : List En} {j : Nat} (hj : j < m.length) (h : ∀ y ∈ m.take j, samV x y) (h2 : samV x m[j]) : ∀ y ∈ m.take (j + 1), samV x y := by
  rw [List.take_add_one, List.getElem?_eq_getElem hj]
  intro y hy
  rcases List.mem_append.1 hy with hy | hy
  · exact h y hy
  · rw [List.mem_singleton.1 hy]; exact h2
theorem samV_all {l m : List En} {i : Nat} (hi : i < l.length) (h : ∀ x ∈ l.take i, ∀ y ∈ m, samV x y) (h2 : ∀ y ∈ m, samV l[i] y) : ∀ x ∈ l.take (i + 1), ∀ y ∈ m, samV x y := by
  rw [List.take_add_one, List.getElem?_eq_getElem hi]
  intro x hx
  rcases List.mem_append.1 hx with hx | hx
  · exact h x hx
  · rw [List.mem_singleton.1 hx]; exact h2
theorem worders_loop (W : World) (o o' : Nat) (l m A C D : List En) (hA : A.length ≤ 40) (hCl : C.length ≤ 80) (hDl : D.length ≤ 80) (hl : l.length ≤ 40) (hm : m.length ≤ 40)
    (hD : (∀ x ∈ l, ∀ y ∈ m, samV x y) → D = C) (hfe : fellR A C = .tup [Str ⟨#[]⟩, Bo false]) :
    AWpA Try.prog 110 (topN W) c5_32 (ABlock 0 (AThen (fun x => AWpA Try.prog 110 (topN W) c5_60 (TopPost [(4, none)]) x) (TopPost [(4, none)])))
      (Am.mk [(1, .sl 1 o' m.length 9 none), (5, .sl 2 0 A.length 9 none), (7, .sl 3 0 C.length 9 none), (8, .sl 4 0 D.length 9 none), (62, .sl 0 o l.length 9 none), (63, I l.length), (64, I 0)] none0 (zipI 0 [.cells true (Re o l), .cells true (Re o' m), .cells false (Re 0 A), .cells false (Re 0 C), .cells false (Re 0 D)]) gone0 [AObj.cells true (Re o l), .cells true (Re o' m), .cells false (Re 0 A), .cells false (Re 0 C), .cells false (Re 0 D)].length) := by
  have hr := re_ren
  have hL := re_len
  have hbe : ∀ x : ByteArray, (x == x) = true := fun x => by simp [ba_dec]
  have f1 := fell_any 0 A C (by omega) (by omega)
  rw [hfe] at f1
  (try simp (maxSteps := 9999999) (disch := omega) only [go_sem])
  (apply AWpA.loopL (fun i : Nat => [(1, .sl 1 o' m.length 9 none), (5, .sl 2 0 A.length 9 none), (7, .sl 3 0 C.length 9 none), (8, .sl 4 0 D.length 9 none), (62, .sl 0 o l.length 9 none), (63, I l.length), (64, I i)]) (fun i => [.cells true (Re o l), .cells true (Re o' m), .cells false (Re 0 A), .cells false (Re 0 C), .cells false (Re 0 D)]) (fun i => l.length - i) (fun i => i ≤ l.length ∧ ∀ x ∈ l.take i, ∀ y ∈ m, samV x y) (0) [0, 1, 2, 3, 4]; rotate_left; (focus (simp (maxSteps := 9999999) (disch := omega) only [go_sem, hr]; (try (repeat' (first | done | trivial | rfl | exact leAs_rfl _ | decide | (refine And.intro ?_ ?_) | (simp; done) | omega | (simp; decide)))))); rotate_right)
  · exact ⟨Nat.zero_le _, fun x hx => by simp at hx⟩
  rintro i ⟨hi, hq⟩
  (try simp only at hi hq)
  by_cases hin : i < l.length
  · have g1 : ((i : Int) < (l.length : Int)) = True := eq_true (by omega)
    have hat := re_at o l i hin
    have hall := samV_all hin hq
    generalize l[i] = x at *
    (try simp (maxSteps := 9999999) (disch := omega) only [go_sem])
    (have k9 := And.intro @hr (And.intro @hL (And.intro @g1 (And.intro @hat (k0)))); (repeat' (first | refine AWpA.seq ?_ | refine AWpA.block ?_ | (with_reducible refine CondP.tt ?_) | (with_reducible refine CondP.ff ?_) | refine AWpA.cg ?_ | ((first | refine AWpA.rg ?_ | refine AWpA.dg [] [] follows ?_ | refine TailK.tg ?_ | refine AWpA.skip ?_ | refine AWpA.exit ?_ | refine AWpA.ret ?_ | (with_reducible refine ARoundsA.succ ?_) | ((first | refine Runs.gkt (fun h9 => ?_) | refine Runs.gkf (fun h9 => ?_) | refine Runs.gnt (fun h9 => ?_) | refine Runs.gnf (fun h9 => ?_) | refine CondP.gt (fun h9 => ?_) | refine CondP.gf (fun h9 => ?_) | refine CondP.gnt (fun h9 => ?_) | refine CondP.gnf (fun h9 => ?_)); (try simp only [h9]); clear h9)); (try simp (maxSteps := 9999999) (disch := omega) only [go_sem, k9]); (try refine cnd ?_)) | ((first | refine CondP.split (fun hif => ?_) (fun hif => ?_) | refine Runs.part (fun hif => ?_) (fun hif => ?_)) <;> ((try simp only [hif]); (try simp only [BL] at hif); (try (have h9 : _ = true := hif; simp only [h9])); (try (have h9 : _ = false := hif; simp only [h9])); (try simp (maxSteps := 9999999) (disch := omega) only [go_sem, k9]); (try refine cnd ?_); (try (exfalso; omega; done)))))); (all_goals (try clear k9)))
    (apply AWpA.loopL (fun j : Nat => [(1, .sl 1 o' m.length 9 none), (5, .sl 2 0 A.length 9 none), (7, .sl 3 0 C.length 9 none), (8, .sl 4 0 D.length 9 none), (11, .ptr 5 0), (62, .sl 0 o l.length 9 none), (63, I l.length), (64, I i), (68, .sl 1 o' m.length 9 none), (69, I m.length), (70, I j)]) (fun j => [.cells true (Re o l), .cells true (Re o' m), .cells false (Re 0 A), .cells false (Re 0 C), .cells false (Re 0 D), .cells false (EnL x)]) (fun j => m.length - j) (fun j => j ≤ m.length ∧ ∀ y ∈ m.take j, samV x y) (0) [0, 1, 2, 3, 4, 53]; rotate_left; (focus (simp (maxSteps := 9999999) (disch := omega) only [go_sem, hr]; (try (repeat' (first | done | trivial | rfl | exact leAs_rfl _ | decide | (refine And.intro ?_ ?_) | (simp; done) | omega | (simp; decide)))))); rotate_right)
    · exact ⟨Nat.zero_le _, fun y hy => by simp at hy⟩
    rintro j ⟨hj, hp⟩
    (try simp only at hj hp)
    by_cases hjm : j < m.length
    · have g2 : ((j : Int) < (m.length : Int)) = True := eq_true (by omega)
      have hat2 := re_at o' m j hjm
      have hput := samV_put hjm hp
      clear hp hq hall hD hfe f1
      generalize m[j] = y at *
      obtain ⟨x1, x2, x3, ⟨x4, x5⟩, ⟨x6, x7⟩, x8, x9⟩ := x
      obtain ⟨y1, y2, y3, ⟨y4, y5⟩, ⟨y6, y7⟩, y8, y9⟩ := y
      have hk : (x1 == y1) = false ∨ (x1 = y1 ∧ ((x4 == y4) = false ∨ (x4 = y4 ∧ ((x5 == y5) = false ∨ (x5 = y5 ∧ ((x6 == y6) = false ∨ (x6 = y6 ∧ ((x7 == y7) = false ∨ (x7 = y7 ∧ ((x2 == y2) = false ∨ (x2 = y2 ∧ ((x3 == y3) = false ∨ (x3 = y3 ∧ ((x8 == y8) = false ∨ (x8 = y8 ∧ ((x9 == y9) = false ∨ x9 = y9)))))))))))))))) := by
        have d : ∀ {α : Type} [BEq α] [LawfulBEq α] (a b : α), (a == b) = false ∨ a = b := fun a b => by
          cases h : (a == b) with
          | false => exact .inl rfl
          | true => exact .inr (eq_of_beq h)
        have db : ∀ (a b : ByteArray), (a == b) = false ∨ a = b := fun a b => by
          rw [ba_dec]
          by_cases h : a = b
          · exact .inr h
          · exact .inl (decide_eq_false h)
        have c1 := db x1 y1
        have c2 := db x2 y2
        have c3 := d x3 y3
        have c4 := d x4 y4
        have c5 := d x5 y5
        have c6 := d x6 y6
        have c7 := d x7 y7
        have c8 := d x8 y8
        have c9 := d x9 y9
        grind
      have hn : ∀ {α : Type} [BEq α] [LawfulBEq α] {a b : α}, (a == b) = false → a ≠ b := fun h e => by rw [e, beq_self_eq_true] at h; cases h
      have hnb : ∀ {a b : ByteArray}, (a == b) = false → a ≠ b := fun h e => by rw [e, hbe] at h; cases h
      rcases hk with e | ⟨rfl, e | ⟨rfl, e | ⟨rfl, e | ⟨rfl, e | ⟨rfl, hk⟩⟩⟩⟩⟩
      · have hput := hput (fun h _ _ => absurd h (hnb e))
        (try simp (maxSteps := 9999999) (disch := omega) only [go_sem])
        (have k9 := And.intro @hr (And.intro @hL (And.intro @g2 (And.intro @hat2 (And.intro @hbe (And.intro @e (k0)))))); (repeat' (first | refine AWpA.seq ?_ | refine AWpA.block ?_ | (with_reducible refine CondP.tt ?_) | (with_reducible refine CondP.ff ?_) | refine AWpA.cg ?_ | ((first | refine AWpA.rg ?_ | refine AWpA.dg [] [] follows ?_ | refine TailK.tg ?_ | refine AWpA.skip ?_ | refine AWpA.exit ?_ | refine AWpA.ret ?_ | (with_reducible refine ARoundsA.succ ?_) | ((first | refine Runs.gkt (fun h9 => ?_) | refine Runs.gkf (fun h9 => ?_) | refine Runs.gnt (fun h9 => ?_) | refine Runs.gnf (fun h9 => ?_) | refine CondP.gt (fun h9 => ?_) | refine CondP.gf (fun h9 => ?_) | refine CondP.gnt (fun h9 => ?_) | refine CondP.gnf (fun h9 => ?_)); (try simp only [h9]); clear h9)); (try simp (maxSteps := 9999999) (disch := omega) only [go_sem, k9]); (try refine cnd ?_)) | ((first | refine CondP.split (fun hif => ?_) (fun hif => ?_) | refine Runs.part (fun hif => ?_) (fun hif => ?_)) <;> ((try simp only [hif]); (try simp only [BL] at hif); (try (have h9 : _ = true := hif; simp only [h9])); (try (have h9 : _ = false := hif; simp only [h9])); (try simp (maxSteps := 9999999) (disch := omega) only [go_sem, k9]); (try refine cnd ?_); (try (exfalso; omega; done)))))); (all_goals (try clear k9)))
        (apply Back.to (j + 1) [0, 1, 2, 3, 4, 5]; (focus ((try simp (maxSteps := 9999999) (disch := omega) only [go_sem, hr]); first | done | omega)); rotate_left; (focus (simp (maxSteps := 9999999) (disch := omega) only [go_sem, hr]; (try (repeat' (first | done | trivial | rfl | exact leAs_rfl _ | decide | (refine And.intro ?_ ?_) | (simp; done) | omega | (simp; decide)))))))
        exact ⟨by omega, hput⟩
      · have hput := hput (fun _ h _ => absurd (St.mk.inj h).1 (hn e))
        (try simp (maxSteps := 9999999) (disch := omega) only [go_sem])
        (have k9 := And.intro @hr (And.intro @hL (And.intro @g2 (And.intro @hat2 (And.intro @hbe (And.intro @e (k0)))))); (repeat' (first | refine AWpA.seq ?_ | refine AWpA.block ?_ | (with_reducible refine CondP.tt ?_) | (with_reducible refine CondP.ff ?_) | refine AWpA.cg ?_ | ((first | refine AWpA.rg ?_ | refine AWpA.dg [] [] follows ?_ | refine TailK.tg ?_ | refine AWpA.skip ?_ | refine AWpA.exit ?_ | refine AWpA.ret ?_ | (with_reducible refine ARoundsA.succ ?_) | ((first | refine Runs.gkt (fun h9 => ?_) | refine Runs.gkf (fun h9 => ?_) | refine Runs.gnt (fun h9 => ?_) | refine Runs.gnf (fun h9 => ?_) | refine CondP.gt (fun h9 => ?_) | refine CondP.gf (fun h9 => ?_) | refine CondP.gnt (fun h9 => ?_) | refine CondP.gnf (fun h9 => ?_)); (try simp only [h9]); clear h9)); (try simp (maxSteps := 9999999) (disch := omega) only [go_sem, k9]); (try refine cnd ?_)) | ((first | refine CondP.split (fun hif => ?_) (fun hif => ?_) | refine Runs.part (fun hif => ?_) (fun hif => ?_)) <;> ((try simp only [hif]); (try simp only [BL] at hif); (try (have h9 : _ = true := hif; simp only [h9])); (try (have h9 : _ = false := hif; simp only [h9])); (try simp (maxSteps := 9999999) (disch := omega) only [go_sem, k9]); (try refine cnd ?_); (try (exfalso; omega; done)))))); (all_goals (try clear k9)))
        (apply Back.to (j + 1) [0, 1, 2, 3, 4, 5]; (focus ((try simp (maxSteps := 9999999) (disch := omega) only [go_sem, hr]); first | done | omega)); rotate_left; (focus (simp (maxSteps := 9999999) (disch := omega) only [go_sem, hr]; (try (repeat' (first | done | trivial | rfl | exact leAs_rfl _ | decide | (refine And.intro ?_ ?_) | (simp; done) | omega | (simp; decide)))))))
        exact ⟨by omega, hput⟩
      · have hput := hput (fun _ h _ => absurd (St.mk.inj h).2 (hn e))
        (try simp (maxSteps := 9999999) (disch := omega) only [go_sem])
        (have k9 := And.intro @hr (And.intro @hL (And.intro @g2 (And.intro @hat2 (And.intro @hbe (And.intro @e (k0)))))); (repeat' (first | refine AWpA.seq ?_ | refine AWpA.block ?_ | (with_reducible refine CondP.tt ?_) | (with_reducible refine CondP.ff ?_) | refine AWpA.cg ?_ | ((first | refine AWpA.rg ?_ | refine AWpA.dg [] [] follows ?_ | refine TailK.tg ?_ | refine AWpA.skip ?_ | refine AWpA.exit ?_ | refine AWpA.ret ?_ | (with_reducible refine ARoundsA.succ ?_) | ((first | refine Runs.gkt (fun h9 => ?_) | refine Runs.gkf (fun h9 => ?_) | refine Runs.gnt (fun h9 => ?_) | refine Runs.gnf (fun h9 => ?_) | refine CondP.gt (fun h9 => ?_) | refine CondP.gf (fun h9 => ?_) | refine CondP.gnt (fun h9 => ?_) | refine CondP.gnf (fun h9 => ?_)); (try simp only [h9]); clear h9)); (try simp (maxSteps := 9999999) (disch := omega) only [go_sem, k9]); (try refine cnd ?_)) | ((first | refine CondP.split (fun hif => ?_) (fun hif => ?_) | refine Runs.part (fun hif => ?_) (fun hif => ?_)) <;> ((try simp only [hif]); (try simp only [BL] at hif); (try (have h9 : _ = true := hif; simp only [h9])); (try (have h9 : _ = false := hif; simp only [h9])); (try simp (maxSteps := 9999999) (disch := omega) only [go_sem, k9]); (try refine cnd ?_); (try (exfalso; omega; done)))))); (all_goals (try clear k9)))
        (apply Back.to (j + 1) [0, 1, 2, 3, 4, 5]; (focus ((try simp (maxSteps := 9999999) (disch := omega) only [go_sem, hr]); first | done | omega)); rotate_left; (focus (simp (maxSteps := 9999999) (disch := omega) only [go_sem, hr]; (try (repeat' (first | done | trivial | rfl | exact leAs_rfl _ | decide | (refine And.intro ?_ ?_) | (simp; done) | omega | (simp; decide)))))))
        exact ⟨by omega, hput⟩
      · have hput := hput (fun _ _ h => absurd (St.mk.inj h).1 (hn e))
        (try simp (maxSteps := 9999999) (disch := omega) only [go_sem])
        (have k9 := And.intro @hr (And.intro @hL (And.intro @g2 (And.intro @hat2 (And.intro @hbe (And.intro @e (k0)))))); (repeat' (first | refine AWpA.seq ?_ | refine AWpA.block ?_ | (with_reducible refine CondP.tt ?_) | (with_reducible refine CondP.ff ?_) | refine AWpA.cg ?_ | ((first | refine AWpA.rg ?_ | refine AWpA.dg [] [] follows ?_ | refine TailK.tg ?_ | refine AWpA.skip ?_ | refine AWpA.exit ?_ | refine AWpA.ret ?_ | (with_reducible refine ARoundsA.succ ?_) | ((first | refine Runs.gkt (fun h9 => ?_) | refine Runs.gkf (fun h9 => ?_) | refine Runs.gnt (fun h9 => ?_) | refine Runs.gnf (fun h9 => ?_) | refine CondP.gt (fun h9 => ?_) | refine CondP.gf (fun h9 => ?_) | refine CondP.gnt (fun h9 => ?_) | refine CondP.gnf (fun h9 => ?_)); (try simp only [h9]); clear h9)); (try simp (maxSteps := 9999999) (disch := omega) only [go_sem, k9]); (try refine cnd ?_)) | ((first | refine CondP.split (fun hif => ?_) (fun hif => ?_) | refine Runs.part (fun hif => ?_) (fun hif => ?_)) <;> ((try simp only [hif]); (try simp only [BL] at hif); (try (have h9 : _ = true := hif; simp only [h9])); (try (have h9 : _ = false := hif; simp only [h9])); (try simp (maxSteps := 9999999) (disch := omega) only [go_sem, k9]); (try refine cnd ?_); (try (exfalso; omega; done)))))); (all_goals (try clear k9)))
        (apply Back.to (j + 1) [0, 1, 2, 3, 4, 5]; (focus ((try simp (maxSteps := 9999999) (disch := omega) only [go_sem, hr]); first | done | omega)); rotate_left; (focus (simp (maxSteps := 9999999) (disch := omega) only [go_sem, hr]; (try (repeat' (first | done | trivial | rfl | exact leAs_rfl _ | decide | (refine And.intro ?_ ?_) | (simp; done) | omega | (simp; decide)))))))
        exact ⟨by omega, hput⟩
      · have hput := hput (fun _ _ h => absurd (St.mk.inj h).2 (hn e))
        (try simp (maxSteps := 9999999) (disch := omega) only [go_sem])
        (have k9 := And.intro @hr (And.intro @hL (And.intro @g2 (And.intro @hat2 (And.intro @hbe (And.intro @e (k0)))))); (repeat' (first | refine AWpA.seq ?_ | refine AWpA.block ?_ | (with_reducible refine CondP.tt ?_) | (with_reducible refine CondP.ff ?_) | refine AWpA.cg ?_ | ((first | refine AWpA.rg ?_ | refine AWpA.dg [] [] follows ?_ | refine TailK.tg ?_ | refine AWpA.skip ?_ | refine AWpA.exit ?_ | refine AWpA.ret ?_ | (with_reducible refine ARoundsA.succ ?_) | ((first | refine Runs.gkt (fun h9 => ?_) | refine Runs.gkf (fun h9 => ?_) | refine Runs.gnt (fun h9 => ?_) | refine Runs.gnf (fun h9 => ?_) | refine CondP.gt (fun h9 => ?_) | refine CondP.gf (fun h9 => ?_) | refine CondP.gnt (fun h9 => ?_) | refine CondP.gnf (fun h9 => ?_)); (try simp only [h9]); clear h9)); (try simp (maxSteps := 9999999) (disch := omega) only [go_sem, k9]); (try refine cnd ?_)) | ((first | refine CondP.split (fun hif => ?_) (fun hif => ?_) | refine Runs.part (fun hif => ?_) (fun hif => ?_)) <;> ((try simp only [hif]); (try simp only [BL] at hif); (try (have h9 : _ = true := hif; simp only [h9])); (try (have h9 : _ = false := hif; simp only [h9])); (try simp (maxSteps := 9999999) (disch := omega) only [go_sem, k9]); (try refine cnd ?_); (try (exfalso; omega; done)))))); (all_goals (try clear k9)))
        (apply Back.to (j + 1) [0, 1, 2, 3, 4, 5]; (focus ((try simp (maxSteps := 9999999) (disch := omega) only [go_sem, hr]); first | done | omega)); rotate_left; (focus (simp (maxSteps := 9999999) (disch := omega) only [go_sem, hr]; (try (repeat' (first | done | trivial | rfl | exact leAs_rfl _ | decide | (refine And.intro ?_ ?_) | (simp; done) | omega | (simp; decide)))))))
        exact ⟨by omega, hput⟩
      · have hput0 := hput
        clear hput hat
        rcases hk with e | ⟨rfl, e | ⟨rfl, e | ⟨rfl, e | rfl⟩⟩⟩
        · (try simp (maxSteps := 9999999) (disch := omega) only [go_sem])
          (have k9 := And.intro @hr (And.intro @hL (And.intro @g2 (And.intro @hat2 (And.intro @hbe (And.intro @e (k0)))))); (repeat' (first | refine AWpA.seq ?_ | refine AWpA.block ?_ | (with_reducible refine CondP.tt ?_) | (with_reducible refine CondP.ff ?_) | refine AWpA.cg ?_ | ((first | refine AWpA.rg ?_ | refine AWpA.dg [] [] follows ?_ | refine TailK.tg ?_ | refine AWpA.skip ?_ | refine AWpA.exit ?_ | refine AWpA.ret ?_ | (with_reducible refine ARoundsA.succ ?_) | ((first | refine Runs.gkt (fun h9 => ?_) | refine Runs.gkf (fun h9 => ?_) | refine Runs.gnt (fun h9 => ?_) | refine Runs.gnf (fun h9 => ?_) | refine CondP.gt (fun h9 => ?_) | refine CondP.gf (fun h9 => ?_) | refine CondP.gnt (fun h9 => ?_) | refine CondP.gnf (fun h9 => ?_)); (try simp only [h9]); clear h9)); (try simp (maxSteps := 9999999) (disch := omega) only [go_sem, k9]); (try refine cnd ?_)) | ((first | refine CondP.split (fun hif => ?_) (fun hif => ?_) | refine Runs.part (fun hif => ?_) (fun hif => ?_)) <;> ((try simp only [hif]); (try simp only [BL] at hif); (try (have h9 : _ = true := hif; simp only [h9])); (try (have h9 : _ = false := hif; simp only [h9])); (try simp (maxSteps := 9999999) (disch := omega) only [go_sem, k9]); (try refine cnd ?_); (try (exfalso; omega; done)))))); (all_goals (try clear k9)))
          (refine TopPost.of (by first | exact .inl rfl | exact .inr rfl) (by (try simp (maxSteps := 9999999) (disch := omega) only [go_sem]); rfl) ?_; (try simp (maxSteps := 9999999) (disch := omega) only [go_sem]); (try (first | trivial | decide | (simp; done))))
        · (try simp (maxSteps := 9999999) (disch := omega) only [go_sem])
          (have k9 := And.intro @hr (And.intro @hL (And.intro @g2 (And.intro @hat2 (And.intro @hbe (And.intro @e (k0)))))); (repeat' (first | refine AWpA.seq ?_ | refine AWpA.block ?_ | (with_reducible refine CondP.tt ?_) | (with_reducible refine CondP.ff ?_) | refine AWpA.cg ?_ | ((first | refine AWpA.rg ?_ | refine AWpA.dg [] [] follows ?_ | refine TailK.tg ?_ | refine AWpA.skip ?_ | refine AWpA.exit ?_ | refine AWpA.ret ?_ | (with_reducible refine ARoundsA.succ ?_) | ((first | refine Runs.gkt (fun h9 => ?_) | refine Runs.gkf (fun h9 => ?_) | refine Runs.gnt (fun h9 => ?_) | refine Runs.gnf (fun h9 => ?_) | refine CondP.gt (fun h9 => ?_) | refine CondP.gf (fun h9 => ?_) | refine CondP.gnt (fun h9 => ?_) | refine CondP.gnf (fun h9 => ?_)); (try simp only [h9]); clear h9)); (try simp (maxSteps := 9999999) (disch := omega) only [go_sem, k9]); (try refine cnd ?_)) | ((first | refine CondP.split (fun hif => ?_) (fun hif => ?_) | refine Runs.part (fun hif => ?_) (fun hif => ?_)) <;> ((try simp only [hif]); (try simp only [BL] at hif); (try (have h9 : _ = true := hif; simp only [h9])); (try (have h9 : _ = false := hif; simp only [h9])); (try simp (maxSteps := 9999999) (disch := omega) only [go_sem, k9]); (try refine cnd ?_); (try (exfalso; omega; done)))))); (all_goals (try clear k9)))
          (refine TopPost.of (by first | exact .inl rfl | exact .inr rfl) (by (try simp (maxSteps := 9999999) (disch := omega) only [go_sem]); rfl) ?_; (try simp (maxSteps := 9999999) (disch := omega) only [go_sem]); (try (first | trivial | decide | (simp; done))))
        · (try simp (maxSteps := 9999999) (disch := omega) only [go_sem])
          (have k9 := And.intro @hr (And.intro @hL (And.intro @g2 (And.intro @hat2 (And.intro @hbe (And.intro @e (k0)))))); (repeat' (first | refine AWpA.seq ?_ | refine AWpA.block ?_ | (with_reducible refine CondP.tt ?_) | (with_reducible refine CondP.ff ?_) | refine AWpA.cg ?_ | ((first | refine AWpA.rg ?_ | refine AWpA.dg [] [] follows ?_ | refine TailK.tg ?_ | refine AWpA.skip ?_ | refine AWpA.exit ?_ | refine AWpA.ret ?_ | (with_reducible refine ARoundsA.succ ?_) | ((first | refine Runs.gkt (fun h9 => ?_) | refine Runs.gkf (fun h9 => ?_) | refine Runs.gnt (fun h9 => ?_) | refine Runs.gnf (fun h9 => ?_) | refine CondP.gt (fun h9 => ?_) | refine CondP.gf (fun h9 => ?_) | refine CondP.gnt (fun h9 => ?_) | refine CondP.gnf (fun h9 => ?_)); (try simp only [h9]); clear h9)); (try simp (maxSteps := 9999999) (disch := omega) only [go_sem, k9]); (try refine cnd ?_)) | ((first | refine CondP.split (fun hif => ?_) (fun hif => ?_) | refine Runs.part (fun hif => ?_) (fun hif => ?_)) <;> ((try simp only [hif]); (try simp only [BL] at hif); (try (have h9 : _ = true := hif; simp only [h9])); (try (have h9 : _ = false := hif; simp only [h9])); (try simp (maxSteps := 9999999) (disch := omega) only [go_sem, k9]); (try refine cnd ?_); (try (exfalso; omega; done)))))); (all_goals (try clear k9)))
          (refine TopPost.of (by first | exact .inl rfl | exact .inr rfl) (by (try simp (maxSteps := 9999999) (disch := omega) only [go_sem]); rfl) ?_; (try simp (maxSteps := 9999999) (disch := omega) only [go_sem]); (try (first | trivial | decide | (simp; done))))
        · (try simp (maxSteps := 9999999) (disch := omega) only [go_sem])
          (have k9 := And.intro @hr (And.intro @hL (And.intro @g2 (And.intro @hat2 (And.intro @hbe (And.intro @e (k0)))))); (repeat' (first | refine AWpA.seq ?_ | refine AWpA.block ?_ | (with_reducible refine CondP.tt ?_) | (with_reducible refine CondP.ff ?_) | refine AWpA.cg ?_ | ((first | refine AWpA.rg ?_ | refine AWpA.dg [] [] follows ?_ | refine TailK.tg ?_ | refine AWpA.skip ?_ | refine AWpA.exit ?_ | refine AWpA.ret ?_ | (with_reducible refine ARoundsA.succ ?_) | ((first | refine Runs.gkt (fun h9 => ?_) | refine Runs.gkf (fun h9 => ?_) | refine Runs.gnt (fun h9 => ?_) | refine Runs.gnf (fun h9 => ?_) | refine CondP.gt (fun h9 => ?_) | refine CondP.gf (fun h9 => ?_) | refine CondP.gnt (fun h9 => ?_) | refine CondP.gnf (fun h9 => ?_)); (try simp only [h9]); clear h9)); (try simp (maxSteps := 9999999) (disch := omega) only [go_sem, k9]); (try refine cnd ?_)) | ((first | refine CondP.split (fun hif => ?_) (fun hif => ?_) | refine Runs.part (fun hif => ?_) (fun hif => ?_)) <;> ((try simp only [hif]); (try simp only [BL] at hif); (try (have h9 : _ = true := hif; simp only [h9])); (try (have h9 : _ = false := hif; simp only [h9])); (try simp (maxSteps := 9999999) (disch := omega) only [go_sem, k9]); (try refine cnd ?_); (try (exfalso; omega; done)))))); (all_goals (try clear k9)))
          (refine TopPost.of (by first | exact .inl rfl | exact .inr rfl) (by (try simp (maxSteps := 9999999) (disch := omega) only [go_sem]); rfl) ?_; (try simp (maxSteps := 9999999) (disch := omega) only [go_sem]); (try (first | trivial | decide | (simp; done))))
        · have hput := hput0 (fun _ _ _ => rfl)
          (try simp (maxSteps := 9999999) (disch := omega) only [go_sem])
          (have k9 := And.intro @hr (And.intro @hL (And.intro @g2 (And.intro @hat2 (And.intro @hbe (k0))))); (repeat' (first | refine AWpA.seq ?_ | refine AWpA.block ?_ | (with_reducible refine CondP.tt ?_) | (with_reducible refine CondP.ff ?_) | refine AWpA.cg ?_ | ((first | refine AWpA.rg ?_ | refine AWpA.dg [] [] follows ?_ | refine TailK.tg ?_ | refine AWpA.skip ?_ | refine AWpA.exit ?_ | refine AWpA.ret ?_ | (with_reducible refine ARoundsA.succ ?_) | ((first | refine Runs.gkt (fun h9 => ?_) | refine Runs.gkf (fun h9 => ?_) | refine Runs.gnt (fun h9 => ?_) | refine Runs.gnf (fun h9 => ?_) | refine CondP.gt (fun h9 => ?_) | refine CondP.gf (fun h9 => ?_) | refine CondP.gnt (fun h9 => ?_) | refine CondP.gnf (fun h9 => ?_)); (try simp only [h9]); clear h9)); (try simp (maxSteps := 9999999) (disch := omega) only [go_sem, k9]); (try refine cnd ?_)) | ((first | refine CondP.split (fun hif => ?_) (fun hif => ?_) | refine Runs.part (fun hif => ?_) (fun hif => ?_)) <;> ((try simp only [hif]); (try simp only [BL] at hif); (try (have h9 : _ = true := hif; simp only [h9])); (try (have h9 : _ = false := hif; simp only [h9])); (try simp (maxSteps := 9999999) (disch := omega) only [go_sem, k9]); (try refine cnd ?_); (try (exfalso; omega; done)))))); (all_goals (try clear k9)))
          (apply Back.to (j + 1) [0, 1, 2, 3, 4, 5]; (focus ((try simp (maxSteps := 9999999) (disch := omega) only [go_sem, hr]); first | done | omega)); rotate_left; (focus (simp (maxSteps := 9999999) (disch := omega) only [go_sem, hr]; (try (repeat' (first | done | trivial | rfl | exact leAs_rfl _ | decide | (refine And.intro ?_ ?_) | (simp; done) | omega | (simp; decide)))))))
          exact ⟨by omega, hput⟩
    · obtain rfl : j = m.length := by omega
      have g2 : ((m.length : Int) < (m.length : Int)) = False := eq_false (by omega)
      rw [List.take_length] at hp
      have hall := hall hp
      clear hp hq
      (try simp (maxSteps := 9999999) (disch := omega) only [go_sem])
      (have k9 := And.intro @hr (And.intro @g2 (k0)); (repeat' (first | refine AWpA.seq ?_ | refine AWpA.block ?_ | (with_reducible refine CondP.tt ?_) | (with_reducible refine CondP.ff ?_) | refine AWpA.cg ?_ | ((first | refine AWpA.rg ?_ | refine AWpA.dg [] [] follows ?_ | refine TailK.tg ?_ | refine AWpA.skip ?_ | refine AWpA.exit ?_ | refine AWpA.ret ?_ | (with_reducible refine ARoundsA.succ ?_) | ((first | refine Runs.gkt (fun h9 => ?_) | refine Runs.gkf (fun h9 => ?_) | refine Runs.gnt (fun h9 => ?_) | refine Runs.gnf (fun h9 => ?_) | refine CondP.gt (fun h9 => ?_) | refine CondP.gf (fun h9 => ?_) | refine CondP.gnt (fun h9 => ?_) | refine CondP.gnf (fun h9 => ?_)); (try simp only [h9]); clear h9)); (try simp (maxSteps := 9999999) (disch := omega) only [go_sem, k9]); (try refine cnd ?_)) | ((first | refine CondP.split (fun hif => ?_) (fun hif => ?_) | refine Runs.part (fun hif => ?_) (fun hif => ?_)) <;> ((try simp only [hif]); (try simp only [BL] at hif); (try (have h9 : _ = true := hif; simp only [h9])); (try (have h9 : _ = false := hif; simp only [h9])); (try simp (maxSteps := 9999999) (disch := omega) only [go_sem, k9]); (try refine cnd ?_); (try (exfalso; omega; done)))))); (all_goals (try clear k9)))
      (apply Back.to (i + 1) [0, 1, 2, 3, 4]; (focus ((try simp (maxSteps := 9999999) (disch := omega) only [go_sem, hr]); first | done | omega)); rotate_left; (focus (simp (maxSteps := 9999999) (disch := omega) only [go_sem, hr]; (try (repeat' (first | done | trivial | rfl | exact leAs_rfl _ | decide | (refine And.intro ?_ ?_) | (simp; done) | omega | (simp; decide)))))))
      exact ⟨by omega, hall⟩
  · obtain rfl : i = l.length := by omega
    have g1 : ((l.length : Int) < (l.length : Int)) = False := eq_false (by omega)
    rw [List.take_length] at hq
    obtain rfl := hD hq
    have a1 := alike_any 0 0 D D (by omega) (by omega)
    rw [alike_self] at a1
    clear hq hD
    (try simp (maxSteps := 9999999) (disch := omega) only [go_sem])
    (have k9 := And.intro @hr (And.intro @g1 (k0)); (repeat' (first | refine AWpA.seq ?_ | refine AWpA.block ?_ | (with_reducible refine CondP.tt ?_) | (with_reducible refine CondP.ff ?_) | refine AWpA.cg ?_ | ((first | refine AWpA.rg ?_ | refine AWpA.dg [] [] follows ?_ | refine TailK.tg ?_ | refine AWpA.skip ?_ | refine AWpA.exit ?_ | refine AWpA.ret ?_ | (with_reducible refine ARoundsA.succ ?_) | ((first | refine Runs.gkt (fun h9 => ?_) | refine Runs.gkf (fun h9 => ?_) | refine Runs.gnt (fun h9 => ?_) | refine Runs.gnf (fun h9 => ?_) | refine CondP.gt (fun h9 => ?_) | refine CondP.gf (fun h9 => ?_) | refine CondP.gnt (fun h9 => ?_) | refine CondP.gnf (fun h9 => ?_)); (try simp only [h9]); clear h9) | refine CallG.pg [2, 3] (f1) ?_ | refine CallG.pg [3, 4] (a1) ?_ | refine CallG.dg [2, 3] (f1) ?_ | refine CallG.dg [3, 4] (a1) ?_); (try simp (maxSteps := 9999999) (disch := omega) only [go_sem, k9]); (try refine cnd ?_)) | ((first | refine CondP.split (fun hif => ?_) (fun hif => ?_) | refine Runs.part (fun hif => ?_) (fun hif => ?_)) <;> ((try simp only [hif]); (try simp only [BL] at hif); (try (have h9 : _ = true := hif; simp only [h9])); (try (have h9 : _ = false := hif; simp only [h9])); (try simp (maxSteps := 9999999) (disch := omega) only [go_sem, k9]); (try refine cnd ?_); (try (exfalso; omega; done)))))); (all_goals (try clear k9)))
    (refine TopPost.of (by first | exact .inl rfl | exact .inr rfl) (by (try simp (maxSteps := 9999999) (disch := omega) only [go_sem]); rfl) ?_; (try simp (maxSteps := 9999999) (disch := omega) only [go_sem]); (try (first | trivial | decide | (simp; done))))
theorem worders_mid (W : World) (o o' : Nat) (l m A B C D : List En) (hA : A.length ≤ 40) (hB : B.length ≤ 40) (hl : l.length ≤ 40) (hm : m.length ≤ 40)
    (hC : C = mapE (A ++ B)) (hD : D = mapE (B ++ A)) (hCl : C = mapE (l ++ m)) (hT : (∀ x ∈ l, ∀ y ∈ m, samV x y) → D = C) (hfe : fellR A C = .tup [Str ⟨#[]⟩, Bo false]) :
    AWpA Try.prog 110 (topN W) c5_16 (TopPost [(4, none)])
      (Am.mk [(0, .sl 0 o l.length 9 none), (1, .sl 1 o' m.length 9 none), (5, .sl 2 0 A.length 9 none), (6, .sl 3 0 B.length 9 none)] none0 (zipI 0 [.cells true (Re o l), .cells true (Re o' m), .cells false (Re 0 A), .cells false (Re 0 B)]) gone0 4) := by
  have hr := re_ren
  have hL := re_len
  have hno := re_noAny
  have hfu := fun l : List En => re_all l rfl
  have m1 := watchmap_any 0 (A ++ B) (by rw [List.length_append]; omega)
  have m2 := watchmap_any 0 (B ++ A) (by rw [List.length_append]; omega)
  have m3 := watchmap_any 0 (l ++ m) (by rw [List.length_append]; omega)
  have hCb : C.length ≤ 80 := by have := map_len (l ++ m); rw [← hCl, List.length_append] at this; omega
  have hDb : D.length ≤ 80 := by have := map_len (B ++ A); rw [← hD, List.length_append] at this; omega
  have o1 := ofs_any o l (by omega)
  have o2 := ofs_any o' m (by omega)
  have a1 := alike_any 0 0 C C (by omega) (by omega)
  rw [alike_self] at a1
  have lp := worders_loop W o o' l m A C D hA hCb hDb hl hm hT hfe
  rw [← hC] at m1
  rw [← hD] at m2
  rw [← hCl] at m3
  clear hC hD hCl hT hfe
  simp only [re_app, List.length_append] at m1 m2 m3
  rcases (show A.length = 0 ∨ 0 < A.length by omega) with ea | ea
  · have ea := List.length_eq_zero_iff.1 ea
    subst ea
    simp only [re_nil, List.length_nil, Nat.zero_add, Nat.add_zero, List.nil_append, List.append_nil] at m1 m2 lp
    rcases (show B.length = 0 ∨ 0 < B.length by omega) with eb | eb
    · have eb := List.length_eq_zero_iff.1 eb
      subst eb
      simp only [re_nil, List.length_nil, Nat.zero_add, Nat.add_zero] at m1 m2
      (try simp (maxSteps := 9999999) (disch := omega) only [go_sem])
      (have k9 := And.intro @hr (And.intro @hL (And.intro @hno (And.intro @hfu (And.intro @re_nil (And.intro @renL_append (k0)))))); (repeat' (first | refine AWpA.seq ?_ | refine AWpA.block ?_ | (with_reducible refine CondP.tt ?_) | (with_reducible refine CondP.ff ?_) | refine AWpA.cg ?_ | ((first | refine AWpA.rg ?_ | refine AWpA.dg [] [] follows ?_ | refine TailK.tg ?_ | refine AWpA.skip ?_ | refine AWpA.exit ?_ | refine AWpA.ret ?_ | (with_reducible refine ARoundsA.succ ?_) | ((first | refine Runs.gkt (fun h9 => ?_) | refine Runs.gkf (fun h9 => ?_) | refine Runs.gnt (fun h9 => ?_) | refine Runs.gnf (fun h9 => ?_) | refine CondP.gt (fun h9 => ?_) | refine CondP.gf (fun h9 => ?_) | refine CondP.gnt (fun h9 => ?_) | refine CondP.gnf (fun h9 => ?_)); (try simp only [h9]); clear h9) | refine CallG.pg [4] (m1) ?_ | refine CallG.pg [116] (m2) ?_ | refine CallG.pg [0] (o1) ?_ | refine CallG.pg [1] (o2) ?_ | refine CallG.pg [292] (m3) ?_ | refine CallG.pg [85, 309] (a1) ?_ | refine CallG.dg [4] (m1) ?_ | refine CallG.dg [116] (m2) ?_ | refine CallG.dg [0] (o1) ?_ | refine CallG.dg [1] (o2) ?_ | refine CallG.dg [292] (m3) ?_ | refine CallG.dg [85, 309] (a1) ?_); (try simp (maxSteps := 9999999) (disch := omega) only [go_sem, k9]); (try refine cnd ?_)) | ((first | refine CondP.split (fun hif => ?_) (fun hif => ?_) | refine Runs.part (fun hif => ?_) (fun hif => ?_)) <;> ((try simp only [hif]); (try simp only [BL] at hif); (try (have h9 : _ = true := hif; simp only [h9])); (try (have h9 : _ = false := hif; simp only [h9])); (try simp (maxSteps := 9999999) (disch := omega) only [go_sem, k9]); (try refine cnd ?_); (try (exfalso; omega; done)))))); (all_goals (try clear k9)))
      all_goals (refine AWpA.to [0, 1, 2, 85, 197] (lp) ?_; (focus (simp (maxSteps := 9999999) (disch := omega) only [go_sem, hr, re_nil]; (try (repeat' (first | done | trivial | rfl | exact leAs_rfl _ | decide | (refine And.intro ?_ ?_) | (simp; done) | omega | (simp; decide)))))))
    · have g1 : (B.length ≤ 0) = False := eq_false (by omega)
      (try simp (maxSteps := 9999999) (disch := omega) only [go_sem])
      (have k9 := And.intro @hr (And.intro @hL (And.intro @hno (And.intro @hfu (And.intro @re_nil (And.intro @renL_append (And.intro @g1 (k0))))))); (repeat' (first | refine AWpA.seq ?_ | refine AWpA.block ?_ | (with_reducible refine CondP.tt ?_) | (with_reducible refine CondP.ff ?_) | refine AWpA.cg ?_ | ((first | refine AWpA.rg ?_ | refine AWpA.dg [] [] follows ?_ | refine TailK.tg ?_ | refine AWpA.skip ?_ | refine AWpA.exit ?_ | refine AWpA.ret ?_ | (with_reducible refine ARoundsA.succ ?_) | ((first | refine Runs.gkt (fun h9 => ?_) | refine Runs.gkf (fun h9 => ?_) | refine Runs.gnt (fun h9 => ?_) | refine Runs.gnf (fun h9 => ?_) | refine CondP.gt (fun h9 => ?_) | refine CondP.gf (fun h9 => ?_) | refine CondP.gnt (fun h9 => ?_) | refine CondP.gnf (fun h9 => ?_)); (try simp only [h9]); clear h9) | refine CallG.pg [68] (m1) ?_ | refine CallG.pg [180] (m2) ?_ | refine CallG.pg [0] (o1) ?_ | refine CallG.pg [1] (o2) ?_ | refine CallG.pg [292] (m3) ?_ | refine CallG.pg [85, 309] (a1) ?_ | refine CallG.dg [68] (m1) ?_ | refine CallG.dg [180] (m2) ?_ | refine CallG.dg [0] (o1) ?_ | refine CallG.dg [1] (o2) ?_ | refine CallG.dg [292] (m3) ?_ | refine CallG.dg [85, 309] (a1) ?_); (try simp (maxSteps := 9999999) (disch := omega) only [go_sem, k9]); (try refine cnd ?_)) | ((first | refine CondP.split (fun hif => ?_) (fun hif => ?_) | refine Runs.part (fun hif => ?_) (fun hif => ?_)) <;> ((try simp only [hif]); (try simp only [BL] at hif); (try (have h9 : _ = true := hif; simp only [h9])); (try (have h9 : _ = false := hif; simp only [h9])); (try simp (maxSteps := 9999999) (disch := omega) only [go_sem, k9]); (try refine cnd ?_); (try (exfalso; omega; done)))))); (all_goals (try clear k9)))
      all_goals (refine AWpA.to [0, 1, 2, 85, 197] (lp) ?_; (focus (simp (maxSteps := 9999999) (disch := omega) only [go_sem, hr, re_nil]; (try (repeat' (first | done | trivial | rfl | exact leAs_rfl _ | decide | (refine And.intro ?_ ?_) | (simp; done) | omega | (simp; decide)))))))
  · have g2 : (A.length ≤ 0) = False := eq_false (by omega)
    rcases (show B.length = 0 ∨ 0 < B.length by omega) with eb | eb
    · have eb := List.length_eq_zero_iff.1 eb
      subst eb
      simp only [re_nil, List.length_nil, Nat.zero_add, Nat.add_zero, List.nil_append, List.append_nil] at m1 m2
      (try simp (maxSteps := 9999999) (disch := omega) only [go_sem])
      (have k9 := And.intro @hr (And.intro @hL (And.intro @hno (And.intro @hfu (And.intro @re_nil (And.intro @renL_append (And.intro @g2 (k0))))))); (repeat' (first | refine AWpA.seq ?_ | refine AWpA.block ?_ | (with_reducible refine CondP.tt ?_) | (with_reducible refine CondP.ff ?_) | refine AWpA.cg ?_ | ((first | refine AWpA.rg ?_ | refine AWpA.dg [] [] follows ?_ | refine TailK.tg ?_ | refine AWpA.skip ?_ | refine AWpA.exit ?_ | refine AWpA.ret ?_ | (with_reducible refine ARoundsA.succ ?_) | ((first | refine Runs.gkt (fun h9 => ?_) | refine Runs.gkf (fun h9 => ?_) | refine Runs.gnt (fun h9 => ?_) | refine Runs.gnf (fun h9 => ?_) | refine CondP.gt (fun h9 => ?_) | refine CondP.gf (fun h9 => ?_) | refine CondP.gnt (fun h9 => ?_) | refine CondP.gnf (fun h9 => ?_)); (try simp only [h9]); clear h9) | refine CallG.pg [68] (m1) ?_ | refine CallG.pg [180] (m2) ?_ | refine CallG.pg [0] (o1) ?_ | refine CallG.pg [1] (o2) ?_ | refine CallG.pg [292] (m3) ?_ | refine CallG.pg [85, 309] (a1) ?_ | refine CallG.dg [68] (m1) ?_ | refine CallG.dg [180] (m2) ?_ | refine CallG.dg [0] (o1) ?_ | refine CallG.dg [1] (o2) ?_ | refine CallG.dg [292] (m3) ?_ | refine CallG.dg [85, 309] (a1) ?_); (try simp (maxSteps := 9999999) (disch := omega) only [go_sem, k9]); (try refine cnd ?_)) | ((first | refine CondP.split (fun hif => ?_) (fun hif => ?_) | refine Runs.part (fun hif => ?_) (fun hif => ?_)) <;> ((try simp only [hif]); (try simp only [BL] at hif); (try (have h9 : _ = true := hif; simp only [h9])); (try (have h9 : _ = false := hif; simp only [h9])); (try simp (maxSteps := 9999999) (disch := omega) only [go_sem, k9]); (try refine cnd ?_); (try (exfalso; omega; done)))))); (all_goals (try clear k9)))
      all_goals (refine AWpA.to [0, 1, 2, 85, 197] (lp) ?_; (focus (simp (maxSteps := 9999999) (disch := omega) only [go_sem, hr, re_nil]; (try (repeat' (first | done | trivial | rfl | exact leAs_rfl _ | decide | (refine And.intro ?_ ?_) | (simp; done) | omega | (simp; decide)))))))
    · have g3 : (B.length ≤ 0) = False := eq_false (by omega)
      (try simp (maxSteps := 9999999) (disch := omega) only [go_sem])
      (have k9 := And.intro @hr (And.intro @hL (And.intro @hno (And.intro @hfu (And.intro @re_nil (And.intro @renL_append (And.intro @g2 (And.intro @g3 (k0)))))))); (repeat' (first | refine AWpA.seq ?_ | refine AWpA.block ?_ | (with_reducible refine CondP.tt ?_) | (with_reducible refine CondP.ff ?_) | refine AWpA.cg ?_ | ((first | refine AWpA.rg ?_ | refine AWpA.dg [] [] follows ?_ | refine TailK.tg ?_ | refine AWpA.skip ?_ | refine AWpA.exit ?_ | refine AWpA.ret ?_ | (with_reducible refine ARoundsA.succ ?_) | ((first | refine Runs.gkt (fun h9 => ?_) | refine Runs.gkf (fun h9 => ?_) | refine Runs.gnt (fun h9 => ?_) | refine Runs.gnf (fun h9 => ?_) | refine CondP.gt (fun h9 => ?_) | refine CondP.gf (fun h9 => ?_) | refine CondP.gnt (fun h9 => ?_) | refine CondP.gnf (fun h9 => ?_)); (try simp only [h9]); clear h9) | refine CallG.pg [68] (m1) ?_ | refine CallG.pg [180] (m2) ?_ | refine CallG.pg [0] (o1) ?_ | refine CallG.pg [1] (o2) ?_ | refine CallG.pg [292] (m3) ?_ | refine CallG.pg [85, 309] (a1) ?_ | refine CallG.dg [68] (m1) ?_ | refine CallG.dg [180] (m2) ?_ | refine CallG.dg [0] (o1) ?_ | refine CallG.dg [1] (o2) ?_ | refine CallG.dg [292] (m3) ?_ | refine CallG.dg [85, 309] (a1) ?_); (try simp (maxSteps := 9999999) (disch := omega) only [go_sem, k9]); (try refine cnd ?_)) | ((first | refine CondP.split (fun hif => ?_) (fun hif => ?_) | refine Runs.part (fun hif => ?_) (fun hif => ?_)) <;> ((try simp only [hif]); (try simp only [BL] at hif); (try (have h9 : _ = true := hif; simp only [h9])); (try (have h9 : _ = false := hif; simp only [h9])); (try simp (maxSteps := 9999999) (disch := omega) only [go_sem, k9]); (try refine cnd ?_); (try (exfalso; omega; done)))))); (all_goals (try clear k9)))
      all_goals (refine AWpA.to [0, 1, 2, 85, 197] (lp) ?_; (focus (simp (maxSteps := 9999999) (disch := omega) only [go_sem, hr, re_nil]; (try (repeat' (first | done | trivial | rfl | exact leAs_rfl _ | decide | (refine And.intro ?_ ?_) | (simp; done) | omega | (simp; decide)))))))
theorem watchOrders_walk (W : World) (sl sm : Sl En) (hz : Sl.ok W 9 En.rep (En.ok W) sl) (hy : Sl.ok W 9 En.rep (En.ok W) sm) :
    Calls Try.prog 5 #[.slice sl.ad sl.l.length sl.cap, .slice sm.ad sm.l.length sm.cap] W fun e W' => e = .returned (.bool true) ∧ Below W.heap.size W W' := by
  obtain ⟨ad, o, cap, l⟩ := sl
  obtain ⟨hz, -, hl⟩ := hz
  have hl : l.length ≤ 9223372036854775807 := by simpa [maxLen] using hl
  simp only at hz
  obtain ⟨ad', o', cap', m⟩ := sm
  obtain ⟨hy, -, hm⟩ := hy
  have hm : m.length ≤ 9223372036854775807 := by simpa [maxLen] using hm
  simp only at hy
  have hr := re_ren
  have hf := few26_any o l hl
  have hf2 := few26_any o' m hm
  have sp := speaks26_any
  refine top_call c5_ok Try.func5 rfl Try.ntmps5 res5_ok [ .val (.slice ad l.length cap), .val (.slice ad' m.length cap')] (by simp) (by (repeat' (first | exact VRs_nil' _ | exact VR_val' _ _ | (refine VRs_cons' ?_ ?_) | (refine VR_agg' (by first | rfl | assumption) ?_; first | assumption | simp [Value.oneCell', St.rep, En.rep])))) ?_; try simp (maxSteps := 9999999) (disch := omega) only [go_sem]
  refine AWpA.thawT 0 EnL hz (fun x => by simp [En.rep, St.rep]) rfl ?_
  refine AWpA.thawT 1 EnL hy (fun x => by simp [En.rep, St.rep]) rfl ?_
  clear hz hy
  cases hs : fewW l with
  | false =>
    rw [hs] at hf
    (have k9 := And.intro @hr (k0); (repeat' (first | refine AWpA.seq ?_ | refine AWpA.block ?_ | (with_reducible refine CondP.tt ?_) | (with_reducible refine CondP.ff ?_) | refine AWpA.cg ?_ | ((first | refine AWpA.rg ?_ | refine AWpA.dg [] [] follows ?_ | refine TailK.tg ?_ | refine AWpA.skip ?_ | refine AWpA.exit ?_ | refine AWpA.ret ?_ | (with_reducible refine ARoundsA.succ ?_) | ((first | refine Runs.gkt (fun h9 => ?_) | refine Runs.gkf (fun h9 => ?_) | refine Runs.gnt (fun h9 => ?_) | refine Runs.gnf (fun h9 => ?_) | refine CondP.gt (fun h9 => ?_) | refine CondP.gf (fun h9 => ?_) | refine CondP.gnt (fun h9 => ?_) | refine CondP.gnf (fun h9 => ?_)); (try simp only [h9]); clear h9) | refine CallG.pg [] (sp) ?_ | refine CallG.pg [0] (hf) ?_ | refine CallG.dg [] (sp) ?_ | refine CallG.dg [0] (hf) ?_); (try simp (maxSteps := 9999999) (disch := omega) only [go_sem, k9]); (try refine cnd ?_)) | ((first | refine CondP.split (fun hif => ?_) (fun hif => ?_) | refine Runs.part (fun hif => ?_) (fun hif => ?_)) <;> ((try simp only [hif]); (try simp only [BL] at hif); (try (have h9 : _ = true := hif; simp only [h9])); (try (have h9 : _ = false := hif; simp only [h9])); (try simp (maxSteps := 9999999) (disch := omega) only [go_sem, k9]); (try refine cnd ?_); (try (exfalso; omega; done)))))); (all_goals (try clear k9)))
    (refine TopPost.of (by first | exact .inl rfl | exact .inr rfl) (by (try simp (maxSteps := 9999999) (disch := omega) only [go_sem]); rfl) ?_; (try simp (maxSteps := 9999999) (disch := omega) only [go_sem]); (try (first | trivial | decide | (simp; done))))
  | true =>
  cases hs2 : fewW m with
  | false =>
    rw [hs] at hf
    rw [hs2] at hf2
    (have k9 := And.intro @hr (k0); (repeat' (first | refine AWpA.seq ?_ | refine AWpA.block ?_ | (with_reducible refine CondP.tt ?_) | (with_reducible refine CondP.ff ?_) | refine AWpA.cg ?_ | ((first | refine AWpA.rg ?_ | refine AWpA.dg [] [] follows ?_ | refine TailK.tg ?_ | refine AWpA.skip ?_ | refine AWpA.exit ?_ | refine AWpA.ret ?_ | (with_reducible refine ARoundsA.succ ?_) | ((first | refine Runs.gkt (fun h9 => ?_) | refine Runs.gkf (fun h9 => ?_) | refine Runs.gnt (fun h9 => ?_) | refine Runs.gnf (fun h9 => ?_) | refine CondP.gt (fun h9 => ?_) | refine CondP.gf (fun h9 => ?_) | refine CondP.gnt (fun h9 => ?_) | refine CondP.gnf (fun h9 => ?_)); (try simp only [h9]); clear h9) | refine CallG.pg [] (sp) ?_ | refine CallG.pg [0] (hf) ?_ | refine CallG.pg [1] (hf2) ?_ | refine CallG.dg [] (sp) ?_ | refine CallG.dg [0] (hf) ?_ | refine CallG.dg [1] (hf2) ?_); (try simp (maxSteps := 9999999) (disch := omega) only [go_sem, k9]); (try refine cnd ?_)) | ((first | refine CondP.split (fun hif => ?_) (fun hif => ?_) | refine Runs.part (fun hif => ?_) (fun hif => ?_)) <;> ((try simp only [hif]); (try simp only [BL] at hif); (try (have h9 : _ = true := hif; simp only [h9])); (try (have h9 : _ = false := hif; simp only [h9])); (try simp (maxSteps := 9999999) (disch := omega) only [go_sem, k9]); (try refine cnd ?_); (try (exfalso; omega; done)))))); (all_goals (try clear k9)))
    (refine TopPost.of (by first | exact .inl rfl | exact .inr rfl) (by (try simp (maxSteps := 9999999) (disch := omega) only [go_sem]); rfl) ?_; (try simp (maxSteps := 9999999) (disch := omega) only [go_sem]); (try (first | trivial | decide | (simp; done))))
  | true =>
  rw [hs] at hf
  rw [hs2] at hf2
  have hl40 : l.length ≤ 40 := by unfold fewW at hs; simp at hs; exact hs.2
  have hm40 : m.length ≤ 40 := by unfold fewW at hs2; simp at hs2; exact hs2.2
  clear hs hs2 hl hm
  have o1 := ofs_any o l (by omega)
  have o2 := ofs_any o' m (by omega)
  have ll := map_len l
  have lm := map_len m
  have m1 := watchmap_any 0 l (by omega)
  have m2 := watchmap_any 0 m (by omega)
  have m3 := watchmap_any 0 (mapE l) (by omega)
  rw [map_map] at m3
  have a1 := alike_any 0 0 (mapE l) (mapE l) (by omega) (by omega)
  rw [alike_self] at a1
  have md := worders_mid W o o' l m (mapE l) (mapE m) _ _ (by omega) (by omega) hl40 hm40 rfl rfl (map_both l m) (fun h => map_turn h) (fell_both l m)
  generalize mapE (mapE l ++ mapE m) = C at *
  generalize mapE (mapE m ++ mapE l) = D at *
  generalize mapE l = A at *
  generalize mapE m = B at *
  (have k9 := And.intro @hr (k0); (repeat' (first | (with_reducible refine AWpA.to [0, 1, 243, 291] (md) ?_; (focus (simp (maxSteps := 9999999) (disch := omega) only [go_sem, hr]; (try (repeat' (first | done | trivial | rfl | exact leAs_rfl _ | decide | (refine And.intro ?_ ?_) | (simp; done) | omega | (simp; decide))))))) | refine AWpA.seq ?_ | refine AWpA.block ?_ | (with_reducible refine CondP.tt ?_) | (with_reducible refine CondP.ff ?_) | refine AWpA.cg ?_ | ((first | refine AWpA.rg ?_ | refine AWpA.dg [] [] follows ?_ | refine TailK.tg ?_ | refine AWpA.skip ?_ | refine AWpA.exit ?_ | refine AWpA.ret ?_ | (with_reducible refine ARoundsA.succ ?_) | ((first | refine Runs.gkt (fun h9 => ?_) | refine Runs.gkf (fun h9 => ?_) | refine Runs.gnt (fun h9 => ?_) | refine Runs.gnf (fun h9 => ?_) | refine CondP.gt (fun h9 => ?_) | refine CondP.gf (fun h9 => ?_) | refine CondP.gnt (fun h9 => ?_) | refine CondP.gnf (fun h9 => ?_)); (try simp only [h9]); clear h9) | refine CallG.pg [] (sp) ?_ | refine CallG.pg [0] (hf) ?_ | refine CallG.pg [1] (hf2) ?_ | refine CallG.pg [0] (o1) ?_ | refine CallG.pg [1] (o2) ?_ | refine CallG.pg [226] (m1) ?_ | refine CallG.pg [274] (m2) ?_ | refine CallG.pg [243] (m3) ?_ | refine CallG.pg [355, 243] (a1) ?_ | refine CallG.dg [] (sp) ?_ | refine CallG.dg [0] (hf) ?_ | refine CallG.dg [1] (hf2) ?_ | refine CallG.dg [0] (o1) ?_ | refine CallG.dg [1] (o2) ?_ | refine CallG.dg [226] (m1) ?_ | refine CallG.dg [274] (m2) ?_ | refine CallG.dg [243] (m3) ?_ | refine CallG.dg [355, 243] (a1) ?_); (try simp (maxSteps := 9999999) (disch := omega) only [go_sem, k9]); (try refine cnd ?_)) | ((first | refine CondP.split (fun hif => ?_) (fun hif => ?_) | refine Runs.part (fun hif => ?_) (fun hif => ?_)) <;> ((try simp only [hif]); (try simp only [BL] at hif); (try (have h9 : _ = true := hif; simp only [h9])); (try (have h9 : _ = false := hif; simp only [h9])); (try simp (maxSteps := 9999999) (disch := omega) only [go_sem, k9]); (try refine cnd ?_); (try (exfalso; omega; done)))))); (all_goals (try clear k9)))
end Go.Proofs.Ytbblpmkdhdnkhaa
