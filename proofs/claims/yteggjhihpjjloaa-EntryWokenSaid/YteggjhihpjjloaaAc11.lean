/- EntryWoken holds: a woken certificate is the same delete, newer than it was, of the age 0; woken twice it is newer still. No condition. -/
import Derived.Test.YteggjhihpjjloaaAc10
namespace Go.Proofs.Yteggjhihpjjloaa
set_option linter.unusedSimpArgs false
set_option linter.unusedVariables false
set_option maxHeartbeats 4000000
open Go Go.Am Go.RowKit Go.ChangeShapes Go.WideShapes Go.ChangeAt
open Go.ChangeMaps (open_string shut_string)
set_option maxRecDepth 100000
def St.rep (a : St) : List Value := (fun n : Int => [.int .i64 n]) a.c ++ (fun n : Int => [.int .i64 n]) a.s
structure St.ok (W : World) (a : St) : Prop where
  c : (fun n : Int => IntKind.i64.min ≤ n ∧ n ≤ IntKind.i64.max) a.c
  s : (fun n : Int => IntKind.i64.min ≤ n ∧ n ≤ IntKind.i64.max) a.s
set_option maxRecDepth 100000 in
theorem rd_St {H : Type} {enc : TypeId × Value → H} {W : World} {base : Nat} {held : Bool} : Rd enc Try.prog W base held 71 St.rep (St.ok W) := fun n cs x h => by
  obtain ⟨xs, n1, _, _, hlen, hx, hf⟩ := DataW.trod_struct Try.underlying71 h
  rw [show Try.prog.cellsOf 71 = 2 by kernel_rfl] at hlen
  have f0 : DataW.trod enc Try.prog W base (fun _ => true) held n1 3 ((cs.drop 0).take (Try.prog.cellsOf 3)) = xs[0]? := hf 0 _ rfl
  rw [show Try.prog.cellsOf 3 = 1 by kernel_rfl] at f0
  obtain ⟨y0, h0⟩ := at_some2 hx (by decide) f0
  obtain ⟨g0, a0, e0, w0⟩ := (rd_int Try.underlying3 : Rd _ _ _ _ _ _ (fun n : Int => [.int .i64 n]) (fun n : Int => IntKind.i64.min ≤ n ∧ n ≤ IntKind.i64.max)) _ _ _ h0
  have f1 : DataW.trod enc Try.prog W base (fun _ => true) held n1 3 ((cs.drop 1).take (Try.prog.cellsOf 3)) = xs[1]? := hf 1 _ rfl
  rw [show Try.prog.cellsOf 3 = 1 by kernel_rfl] at f1
  obtain ⟨y1, h1⟩ := at_some2 hx (by decide) f1
  obtain ⟨g1, a1, e1, w1⟩ := (rd_int Try.underlying3 : Rd _ _ _ _ _ _ (fun n : Int => [.int .i64 n]) (fun n : Int => IntKind.i64.min ≤ n ∧ n ≤ IntKind.i64.max)) _ _ _ h1
  match cs, hlen with
  | [c0, c1], _ =>
    simp [Sl.rep, St.rep] at e0 g0
    simp [Sl.rep, St.rep] at e1 g1
    exact ⟨by simp [*, Value.oneCell'], ⟨a0, a1⟩, by simp [Sl.rep, St.rep, *], ⟨w0, w1⟩⟩
def En.rep (a : En) : List Value := (fun s : ByteArray => [.string s]) a.key ++ (fun s : ByteArray => [.string s]) a.val ++ (fun b : Bool => [.bool b]) a.dead ++ (St.rep) a.st ++ (St.rep) a.act ++ (fun n : Int => [.int .i64 n]) a.keep ++ (fun n : Int => [.int .i64 n]) a.age
structure En.ok (W : World) (a : En) : Prop where
  key : (fun s : ByteArray => s.size ≤ maxLen) a.key
  val : (fun s : ByteArray => s.size ≤ maxLen) a.val
  dead : (fun _ : Bool => True) a.dead
  st : (St.ok W) a.st
  act : (St.ok W) a.act
  keep : (fun n : Int => IntKind.i64.min ≤ n ∧ n ≤ IntKind.i64.max) a.keep
  age : (fun n : Int => IntKind.i64.min ≤ n ∧ n ≤ IntKind.i64.max) a.age
set_option maxRecDepth 100000 in
theorem rd_En {H : Type} {enc : TypeId × Value → H} {W : World} {base : Nat} {held : Bool} : Rd enc Try.prog W base held 73 En.rep (En.ok W) := fun n cs x h => by
  obtain ⟨xs, n1, _, _, hlen, hx, hf⟩ := DataW.trod_struct Try.underlying73 h
  rw [show Try.prog.cellsOf 73 = 9 by kernel_rfl] at hlen
  have f0 : DataW.trod enc Try.prog W base (fun _ => true) held n1 9 ((cs.drop 0).take (Try.prog.cellsOf 9)) = xs[0]? := hf 0 _ rfl
  rw [show Try.prog.cellsOf 9 = 1 by kernel_rfl] at f0
  obtain ⟨y0, h0⟩ := at_some2 hx (by decide) f0
  obtain ⟨g0, a0, e0, w0⟩ := (rd_string Try.underlying9 : Rd _ _ _ _ _ _ (fun s : ByteArray => [.string s]) (fun s : ByteArray => s.size ≤ maxLen)) _ _ _ h0
  have f1 : DataW.trod enc Try.prog W base (fun _ => true) held n1 9 ((cs.drop 1).take (Try.prog.cellsOf 9)) = xs[1]? := hf 1 _ rfl
  rw [show Try.prog.cellsOf 9 = 1 by kernel_rfl] at f1
  obtain ⟨y1, h1⟩ := at_some2 hx (by decide) f1
  obtain ⟨g1, a1, e1, w1⟩ := (rd_string Try.underlying9 : Rd _ _ _ _ _ _ (fun s : ByteArray => [.string s]) (fun s : ByteArray => s.size ≤ maxLen)) _ _ _ h1
  have f2 : DataW.trod enc Try.prog W base (fun _ => true) held n1 4 ((cs.drop 2).take (Try.prog.cellsOf 4)) = xs[2]? := hf 2 _ rfl
  rw [show Try.prog.cellsOf 4 = 1 by kernel_rfl] at f2
  obtain ⟨y2, h2⟩ := at_some2 hx (by decide) f2
  obtain ⟨g2, a2, e2, w2⟩ := (rd_bool Try.underlying4 : Rd _ _ _ _ _ _ (fun b : Bool => [.bool b]) (fun _ : Bool => True)) _ _ _ h2
  have f3 : DataW.trod enc Try.prog W base (fun _ => true) held n1 71 ((cs.drop 3).take (Try.prog.cellsOf 71)) = xs[3]? := hf 3 _ rfl
  rw [show Try.prog.cellsOf 71 = 2 by kernel_rfl] at f3
  obtain ⟨y3, h3⟩ := at_some2 hx (by decide) f3
  obtain ⟨g3, a3, e3, w3⟩ := (rd_St : Rd _ _ _ _ _ _ (St.rep) (St.ok W)) _ _ _ h3
  have f4 : DataW.trod enc Try.prog W base (fun _ => true) held n1 71 ((cs.drop 5).take (Try.prog.cellsOf 71)) = xs[4]? := hf 4 _ rfl
  rw [show Try.prog.cellsOf 71 = 2 by kernel_rfl] at f4
  obtain ⟨y4, h4⟩ := at_some2 hx (by decide) f4
  obtain ⟨g4, a4, e4, w4⟩ := (rd_St : Rd _ _ _ _ _ _ (St.rep) (St.ok W)) _ _ _ h4
  have f5 : DataW.trod enc Try.prog W base (fun _ => true) held n1 3 ((cs.drop 7).take (Try.prog.cellsOf 3)) = xs[5]? := hf 5 _ rfl
  rw [show Try.prog.cellsOf 3 = 1 by kernel_rfl] at f5
  obtain ⟨y5, h5⟩ := at_some2 hx (by decide) f5
  obtain ⟨g5, a5, e5, w5⟩ := (rd_int Try.underlying3 : Rd _ _ _ _ _ _ (fun n : Int => [.int .i64 n]) (fun n : Int => IntKind.i64.min ≤ n ∧ n ≤ IntKind.i64.max)) _ _ _ h5
  have f6 : DataW.trod enc Try.prog W base (fun _ => true) held n1 3 ((cs.drop 8).take (Try.prog.cellsOf 3)) = xs[6]? := hf 6 _ rfl
  rw [show Try.prog.cellsOf 3 = 1 by kernel_rfl] at f6
  obtain ⟨y6, h6⟩ := at_some2 hx (by decide) f6
  obtain ⟨g6, a6, e6, w6⟩ := (rd_int Try.underlying3 : Rd _ _ _ _ _ _ (fun n : Int => [.int .i64 n]) (fun n : Int => IntKind.i64.min ≤ n ∧ n ≤ IntKind.i64.max)) _ _ _ h6
  match cs, hlen with
  | [c0, c1, c2, c3, c4, c5, c6, c7, c8], _ =>
    simp [Sl.rep, St.rep, En.rep] at e0 g0
    simp [Sl.rep, St.rep, En.rep] at e1 g1
    simp [Sl.rep, St.rep, En.rep] at e2 g2
    simp [Sl.rep, St.rep, En.rep] at e3 g3
    simp [Sl.rep, St.rep, En.rep] at e4 g4
    simp [Sl.rep, St.rep, En.rep] at e5 g5
    simp [Sl.rep, St.rep, En.rep] at e6 g6
    exact ⟨by simp [*, Value.oneCell'], ⟨a0, a1, a2, a3, a4, a5, a6⟩, by simp [Sl.rep, St.rep, En.rep, *], ⟨w0, w1, w2, w3, w4, w5, w6⟩⟩
/- quidnunc/quidnunclaw05.EntryWoken -/
noncomputable def c6_1 : ACode := .region false [⟨some 3, .box 0, [.t 0], none⟩,
  ⟨some 4, .box 0, [.t 1], none⟩,
  ⟨some 5, .box 0, [.t 2], none⟩,
  ⟨some 6, .move, [.c (.val (.bool false))], none⟩] [] [3, 4, 5] true []
noncomputable def c6_4 : ACode := .region false [⟨some 11, .call 44, [], none⟩,
  ⟨some 12, .un .not, [.t 11], none⟩,
  ⟨some 13, .move, [.t 12], none⟩,
  ⟨some 14, .load true 9, [.t 3], some (some 13, false)⟩,
  ⟨some 15, .call 45, [.t 14], some (some 13, false)⟩,
  ⟨some 16, .un .not, [.t 15], some (some 13, false)⟩,
  ⟨some 17, .pick, [.t 13, .c (.val (.bool true)), .t 16], none⟩] [] [3, 4, 5, 17] true []
noncomputable def c6_7 : ACode := .region false [⟨some 18, .call 44, [], none⟩,
  ⟨some 6, .move, [.t 18], none⟩] [] [6] true []
noncomputable def c6_6 : ACode := .seq c6_7 .ret
noncomputable def c6_5 : ACode := .cond (.t 17) c6_6 .skip
noncomputable def c6_3 : ACode := .seq c6_4 c6_5
noncomputable def c6_9 : ACode := .region true [⟨some 20, .load true 9, [.t 3], none⟩,
  ⟨some 21, .call 47, [.t 20], none⟩,
  ⟨some 22, .load true 2, [.t 4], none⟩,
  ⟨some 23, .call 48, [.t 22], none⟩,
  ⟨some 24, .call 46, [.t 21, .t 23], none⟩,
  ⟨some 19, .move, [.t 24], none⟩,
  ⟨some 25, .ext 0, [.t 19], none⟩,
  ⟨some 26, .ext 1, [.t 19], none⟩,
  ⟨some 7, .alloc [(.string ⟨#[]⟩), (.string ⟨#[]⟩), (.bool false), (.int .i64 0), (.int .i64 0), (.int .i64 0), (.int .i64 0), (.int .i64 0), (.int .i64 0)], [], none⟩,
  ⟨none, .store 9, [.t 7, .t 25], none⟩,
  ⟨some 8, .move, [.t 26], none⟩] [(1, 8), (3, 8), (4, 8)] [3, 4, 5, 7, 8] true []
noncomputable def c6_12 : ACode := .region false [⟨some 27, .move, [.t 8], none⟩,
  ⟨some 28, .bin .neq, [.t 27, .c (.val (.int .i64 0))], none⟩] [] [3, 4, 5, 7, 28] false []
noncomputable def c6_15 : ACode := .region false [⟨some 29, .load true 9, [.t 7], none⟩,
  ⟨some 30, .build [(.string ⟨#[]⟩), (.string ⟨#[]⟩), (.bool false), (.int .i64 0), (.int .i64 0), (.int .i64 0), (.int .i64 0), (.int .i64 0), (.int .i64 0)] [], [], none⟩,
  ⟨some 31, .eqA false [(0, 1), (1, 1), (2, 2), (3, 0), (4, 0), (5, 0), (6, 0), (7, 0), (8, 0)], [.t 29, .t 30], none⟩,
  ⟨some 6, .move, [.t 31], none⟩] [] [6] false []
noncomputable def c6_14 : ACode := .seq c6_15 .ret
noncomputable def c6_13 : ACode := .cond (.t 28) c6_14 .skip
noncomputable def c6_11 : ACode := .seq c6_12 c6_13
noncomputable def c6_18 : ACode := .region true [⟨some 32, .load true 9, [.t 7], none⟩,
  ⟨some 33, .call 50, [.t 32], none⟩,
  ⟨some 34, .call 49, [.t 33], none⟩,
  ⟨some 35, .bin .neq, [.t 34, .c (.val (.int .i64 0))], none⟩,
  ⟨some 36, .move, [.t 35], none⟩,
  ⟨some 37, .load true 9, [.t 7], some (some 36, false)⟩,
  ⟨some 38, .load true 9, [.t 3], some (some 36, false)⟩,
  ⟨some 39, .call 47, [.t 38], some (some 36, false)⟩,
  ⟨some 40, .call 51, [.t 37, .t 39], some (some 36, false)⟩,
  ⟨some 41, .un .not, [.t 40], some (some 36, false)⟩,
  ⟨some 42, .pick, [.t 36, .c (.val (.bool true)), .t 41], none⟩,
  ⟨some 43, .move, [.t 42], none⟩,
  ⟨some 44, .addr 3, [.t 7], some (some 43, false)⟩,
  ⟨some 45, .load true 2, [.t 44], some (some 43, false)⟩,
  ⟨some 46, .load true 9, [.t 3], some (some 43, false)⟩,
  ⟨some 47, .call 47, [.t 46], some (some 43, false)⟩,
  ⟨some 48, .fld true 3 2, [.t 47], some (some 43, false)⟩,
  ⟨some 49, .eqA true [(0, 0), (1, 0)], [.t 45, .t 48], some (some 43, false)⟩,
  ⟨some 50, .pick, [.t 43, .c (.val (.bool true)), .t 49], none⟩,
  ⟨some 51, .move, [.t 50], none⟩,
  ⟨some 52, .addr 0, [.t 7], some (some 51, false)⟩,
  ⟨some 53, .load false 1, [.t 52], some (some 51, false)⟩,
  ⟨some 54, .addr 0, [.t 3], some (some 51, false)⟩,
  ⟨some 55, .load false 1, [.t 54], some (some 51, false)⟩,
  ⟨some 56, .bin .neq, [.t 53, .t 55], some (some 51, false)⟩,
  ⟨some 57, .pick, [.t 51, .c (.val (.bool true)), .t 56], none⟩,
  ⟨some 58, .move, [.t 57], none⟩,
  ⟨some 59, .addr 2, [.t 7], some (some 58, false)⟩,
  ⟨some 60, .load false 1, [.t 59], some (some 58, false)⟩,
  ⟨some 61, .un .not, [.t 60], some (some 58, false)⟩,
  ⟨some 62, .pick, [.t 58, .c (.val (.bool true)), .t 61], none⟩,
  ⟨some 63, .move, [.t 62], none⟩,
  ⟨some 64, .addr 8, [.t 7], some (some 63, false)⟩,
  ⟨some 65, .load false 1, [.t 64], some (some 63, false)⟩,
  ⟨some 66, .bin .neq, [.t 65, .c (.val (.int .i64 0))], some (some 63, false)⟩,
  ⟨some 67, .pick, [.t 63, .c (.val (.bool true)), .t 66], none⟩,
  ⟨some 68, .move, [.t 67], none⟩,
  ⟨some 69, .addr 7, [.t 7], some (some 68, false)⟩,
  ⟨some 70, .load false 1, [.t 69], some (some 68, false)⟩,
  ⟨some 71, .addr 7, [.t 3], some (some 68, false)⟩,
  ⟨some 72, .load false 1, [.t 71], some (some 68, false)⟩,
  ⟨some 73, .bin .neq, [.t 70, .t 72], some (some 68, false)⟩,
  ⟨some 74, .pick, [.t 68, .c (.val (.bool true)), .t 73], none⟩,
  ⟨some 75, .move, [.t 74], none⟩,
  ⟨some 76, .addr 5, [.t 7], some (some 75, false)⟩,
  ⟨some 77, .load true 2, [.t 76], some (some 75, false)⟩,
  ⟨some 78, .load true 2, [.t 4], some (some 75, false)⟩,
  ⟨some 79, .call 48, [.t 78], some (some 75, false)⟩,
  ⟨some 80, .eqA true [(0, 0), (1, 0)], [.t 77, .t 79], some (some 75, false)⟩,
  ⟨some 81, .pick, [.t 75, .c (.val (.bool true)), .t 80], none⟩] [] [3, 4, 5, 7, 81] true []
noncomputable def c6_21 : ACode := .region false [⟨some 6, .move, [.c (.val (.bool false))], none⟩] [] [6] false []
noncomputable def c6_20 : ACode := .seq c6_21 .ret
noncomputable def c6_19 : ACode := .cond (.t 81) c6_20 .skip
noncomputable def c6_17 : ACode := .seq c6_18 c6_19
noncomputable def c6_23 : ACode := .region true [⟨some 83, .load true 9, [.t 7], none⟩,
  ⟨some 84, .load true 2, [.t 5], none⟩,
  ⟨some 85, .call 48, [.t 84], none⟩,
  ⟨some 86, .call 46, [.t 83, .t 85], none⟩,
  ⟨some 82, .move, [.t 86], none⟩,
  ⟨some 87, .ext 0, [.t 82], none⟩,
  ⟨some 88, .ext 1, [.t 82], none⟩,
  ⟨some 9, .alloc [(.string ⟨#[]⟩), (.string ⟨#[]⟩), (.bool false), (.int .i64 0), (.int .i64 0), (.int .i64 0), (.int .i64 0), (.int .i64 0), (.int .i64 0)], [], none⟩,
  ⟨none, .store 9, [.t 9, .t 87], none⟩,
  ⟨some 8, .move, [.t 88], none⟩] [(2, 7), (3, 7)] [3, 4, 5, 7, 8, 9] true []
noncomputable def c6_26 : ACode := .region false [⟨some 89, .move, [.t 8], none⟩,
  ⟨some 90, .bin .neq, [.t 89, .c (.val (.int .i64 0))], none⟩] [] [3, 4, 5, 7, 9, 90] false []
noncomputable def c6_29 : ACode := .region false [⟨some 91, .load true 2, [.t 5], none⟩,
  ⟨some 92, .load true 2, [.t 4], none⟩,
  ⟨some 93, .call 52, [.t 91, .t 92], none⟩,
  ⟨some 94, .un .not, [.t 93], none⟩,
  ⟨some 95, .move, [.t 94], none⟩,
  ⟨some 96, .load true 2, [.t 5], some (some 95, false)⟩,
  ⟨some 97, .call 53, [.t 96], some (some 95, false)⟩,
  ⟨some 98, .un .not, [.t 97], some (some 95, false)⟩,
  ⟨some 99, .pick, [.t 95, .c (.val (.bool true)), .t 98], none⟩,
  ⟨some 6, .move, [.t 99], none⟩] [] [6] true []
noncomputable def c6_28 : ACode := .seq c6_29 .ret
noncomputable def c6_27 : ACode := .cond (.t 90) c6_28 .skip
noncomputable def c6_25 : ACode := .seq c6_26 c6_27
noncomputable def c6_31 : ACode := .region true [⟨some 101, .load true 9, [.t 3], none⟩,
  ⟨some 102, .call 47, [.t 101], none⟩,
  ⟨some 103, .load true 2, [.t 5], none⟩,
  ⟨some 104, .call 48, [.t 103], none⟩,
  ⟨some 105, .call 46, [.t 102, .t 104], none⟩,
  ⟨some 100, .move, [.t 105], none⟩,
  ⟨some 106, .ext 0, [.t 100], none⟩,
  ⟨some 107, .ext 1, [.t 100], none⟩,
  ⟨some 10, .alloc [(.string ⟨#[]⟩), (.string ⟨#[]⟩), (.bool false), (.int .i64 0), (.int .i64 0), (.int .i64 0), (.int .i64 0), (.int .i64 0), (.int .i64 0)], [], none⟩,
  ⟨none, .store 9, [.t 10, .t 106], none⟩,
  ⟨some 8, .move, [.t 107], none⟩] [(1, 8), (3, 8), (4, 8)] [7, 8, 9, 10] true []
noncomputable def c6_33 : ACode := .region false [⟨some 108, .move, [.t 8], none⟩,
  ⟨some 109, .bin .eql, [.t 108, .c (.val (.int .i64 0))], none⟩,
  ⟨some 110, .move, [.t 109], none⟩,
  ⟨some 111, .load true 9, [.t 9], some (some 110, true)⟩,
  ⟨some 112, .load true 9, [.t 10], some (some 110, true)⟩,
  ⟨some 113, .eqA false [(0, 1), (1, 1), (2, 2), (3, 0), (4, 0), (5, 0), (6, 0), (7, 0), (8, 0)], [.t 111, .t 112], some (some 110, true)⟩,
  ⟨some 114, .pick, [.t 110, .t 113, .c (.val (.bool false))], none⟩,
  ⟨some 115, .move, [.t 114], none⟩,
  ⟨some 116, .load true 9, [.t 9], some (some 115, true)⟩,
  ⟨some 117, .load true 9, [.t 7], some (some 115, true)⟩,
  ⟨some 118, .call 51, [.t 116, .t 117], some (some 115, true)⟩,
  ⟨some 119, .pick, [.t 115, .t 118, .c (.val (.bool false))], none⟩,
  ⟨some 6, .move, [.t 119], none⟩] [] [6] true []
noncomputable def c6_32 : ACode := .seq c6_33 .ret
noncomputable def c6_30 : ACode := .seq c6_31 c6_32
noncomputable def c6_24 : ACode := .seq c6_25 c6_30
noncomputable def c6_22 : ACode := .seq c6_23 c6_24
noncomputable def c6_16 : ACode := .seq c6_17 c6_22
noncomputable def c6_10 : ACode := .seq c6_11 c6_16
noncomputable def c6_8 : ACode := .seq c6_9 c6_10
noncomputable def c6_2 : ACode := .seq c6_3 c6_8
noncomputable def c6_0 : ACode := .seq c6_1 c6_2
noncomputable def code6 : Code := (Try.f6.body).getD .skip
theorem c6_ok : compC Try.prog 120 code6 = some (strip c6_0) := by kernel_rfl
theorem res6_ok : Try.f6.results.toList.mapM (resC Try.prog) = some [(6, none)] := by kernel_rfl
theorem later_trans (a b c : St) : laterB a b = true → laterB b c = true → laterB a c = true := by unfold laterB; grind
theorem wake_ok {e : En} {a : St} (h : wakeI e a = 0) : checkI e = 0 ∧ e.dead = true ∧ goodB a = true ∧ laterB a e.act = true ∧ wakeE e a = { e with act := a, age := 0 } := by
  have h2 : wakeE e a = { e with act := a, age := 0 } := by simp [wakeE, h]
  unfold wakeI at h
  split at h
  · rename_i h1
    split at h
    · split at h
      · split at h
        · simp_all
        · cases h
      · cases h
    · cases h
  · rename_i h1; exact absurd h h1
theorem check_woken {e : En} {a : St} (h : checkI e = 0) (hd : e.dead = true) (hg : goodB a = true) (hl : laterB a e.act = true) : checkI { e with act := a, age := 0 } = 0 := by
  unfold checkI at h ⊢
  simp only at h ⊢
  split at h
  · cases h
  · rename_i h1
    rw [if_neg h1]
    split at h
    · cases h
    · rename_i h2
      rw [if_neg h2]
      split at h
      · cases h
      · rename_i h3
        rw [if_neg h3]
        split at h
        · cases h
        · rename_i h4
          rw [if_neg h4]
          split at h
          · rename_i h5
            (try rw [if_pos hd] at h)
            split at h
            · rename_i h6
              simp [shapeB] at h5
              have h7 : laterB e.st a = false := by
                cases h8 : laterB e.st a with
                | false => rfl
                | true => rw [later_trans _ _ _ h8 hl] at h5; simp at h5
              rw [if_pos (by simp [shapeB, h5, hg, h7]), if_pos hd, if_pos]
              simp [keptB] at h6 ⊢
              omega
            · cases h
          · cases h
theorem woken_walk (W : World) (e : En) (a b : St) :
    Calls Try.prog 6 #[.agg e.rep.toArray, .agg a.rep.toArray, .agg b.rep.toArray] W fun e W' => e = .returned (.bool true) ∧ Below W.heap.size W W' := by
  by_cases h1 : wakeI e a = 0
  · obtain ⟨c1, c2, c3, c4, c5⟩ := wake_ok h1
    obtain ⟨key, val, dead, st, act, keep, age⟩ := e
    simp only at c2 c4 c5
    subst c2
    have c6 := check_woken c1 rfl c3 c4
    simp only at c6
    have c7 : newerB (⟨key, val, true, st, a, keep, 0⟩ : En) ⟨key, val, true, st, act, keep, age⟩ = true := by simp [newerB, eqSt, c4]
    by_cases h2 : goodB b = true ∧ laterB b a = true
    · have d1 : wakeI (⟨key, val, true, st, a, keep, 0⟩ : En) b = 0 := by simp [wakeI, c6, h2.1, h2.2]
      have d2 : wakeI ⟨key, val, true, st, act, keep, age⟩ b = 0 := by simp [wakeI, c1, h2.1, later_trans _ _ _ h2.2 c4]
      obtain ⟨-, -, -, -, d3⟩ := wake_ok d1
      obtain ⟨-, -, -, -, d4⟩ := wake_ok d2
      simp only at d3 d4
      have d5 : newerB (⟨key, val, true, st, b, keep, 0⟩ : En) (⟨key, val, true, st, a, keep, 0⟩ : En) = true := by simp [newerB, eqSt, h2.2]
      refine top_call c6_ok Try.func6 rfl Try.ntmps6 res6_ok [ EnA (⟨key, val, true, st, act, keep, age⟩ : En), StA a, StA b] (by simp) (by (repeat' (first | exact VRs_nil' _ | exact VR_val' _ _ | (refine VRs_cons' ?_ ?_) | (refine VR_agg' rfl ?_; simp [Value.oneCell', St.rep, En.rep])))) ?_; try simp (maxSteps := 9999999) (disch := omega) only [go_sem, Nat.reduceAdd, Nat.reduceMul, Nat.reduceSub, Nat.reduceLT, Nat.reduceLeDiff, Nat.reduceEqDiff, Int.reduceLT, Int.reduceLE, Int.reduceAdd, Int.reduceSub, Int.reduceNeg, Int.reduceToNat, Int.reduceEq, Int.reduceBEq, Int.reduceBNe, Int.reduceMul, reduceCtorEq]
      (repeat' (first | (refine AWpA.seq ?_) | (apply AWpA.region; (focus (simp (maxSteps := 9999999) (disch := omega) only [go_sem, Nat.reduceAdd, Nat.reduceMul, Nat.reduceSub, Nat.reduceLT, Nat.reduceLeDiff, Nat.reduceEqDiff, Int.reduceLT, Int.reduceLE, Int.reduceAdd, Int.reduceSub, Int.reduceNeg, Int.reduceToNat, Int.reduceEq, Int.reduceBEq, Int.reduceBNe, Int.reduceMul, reduceCtorEq, h1, c5, c6, c7, d1, d2, d3, d4, d5]; rfl)); (try simp (maxSteps := 9999999) (disch := omega) only [go_sem, Nat.reduceAdd, Nat.reduceMul, Nat.reduceSub, Nat.reduceLT, Nat.reduceLeDiff, Nat.reduceEqDiff, Int.reduceLT, Int.reduceLE, Int.reduceAdd, Int.reduceSub, Int.reduceNeg, Int.reduceToNat, Int.reduceEq, Int.reduceBEq, Int.reduceBNe, Int.reduceMul, reduceCtorEq, h1, c5, c6, c7, d1, d2, d3, d4, d5]); (try (refine And.intro ?_ ?_; (focus (first | omega | (simp only [go_sem]; done) | (simp; done) | (simp; omega) | assumption))))) | (apply AWpA.draw [] follows; (focus (simp (maxSteps := 9999999) (disch := omega) only [go_sem, Nat.reduceAdd, Nat.reduceMul, Nat.reduceSub, Nat.reduceLT, Nat.reduceLeDiff, Nat.reduceEqDiff, Int.reduceLT, Int.reduceLE, Int.reduceAdd, Int.reduceSub, Int.reduceNeg, Int.reduceToNat, Int.reduceEq, Int.reduceBEq, Int.reduceBNe, Int.reduceMul, reduceCtorEq, h1, c5, c6, c7, d1, d2, d3, d4, d5]; rfl)); (focus (simp (maxSteps := 9999999) (disch := omega) only [go_sem, Nat.reduceAdd, Nat.reduceMul, Nat.reduceSub, Nat.reduceLT, Nat.reduceLeDiff, Nat.reduceEqDiff, Int.reduceLT, Int.reduceLE, Int.reduceAdd, Int.reduceSub, Int.reduceNeg, Int.reduceToNat, Int.reduceEq, Int.reduceBEq, Int.reduceBNe, Int.reduceMul, reduceCtorEq, h1, c5, c6, c7, d1, d2, d3, d4, d5]; first | done | trivial)); (focus (simp (maxSteps := 9999999) (disch := omega) only [go_sem, Nat.reduceAdd, Nat.reduceMul, Nat.reduceSub, Nat.reduceLT, Nat.reduceLeDiff, Nat.reduceEqDiff, Int.reduceLT, Int.reduceLE, Int.reduceAdd, Int.reduceSub, Int.reduceNeg, Int.reduceToNat, Int.reduceEq, Int.reduceBEq, Int.reduceBNe, Int.reduceMul, reduceCtorEq, h1, c5, c6, c7, d1, d2, d3, d4, d5]; rfl)); (try simp (maxSteps := 9999999) (disch := omega) only [go_sem, Nat.reduceAdd, Nat.reduceMul, Nat.reduceSub, Nat.reduceLT, Nat.reduceLeDiff, Nat.reduceEqDiff, Int.reduceLT, Int.reduceLE, Int.reduceAdd, Int.reduceSub, Int.reduceNeg, Int.reduceToNat, Int.reduceEq, Int.reduceBEq, Int.reduceBNe, Int.reduceMul, reduceCtorEq, h1, c5, c6, c7, d1, d2, d3, d4, d5]); (try (refine And.intro ?_ ?_; (focus (first | omega | (simp only [go_sem]; done) | (simp; done) | (simp; omega) | assumption))))) | (refine AWpA.condv (by simp (maxSteps := 9999999) (disch := omega) only [go_sem, Nat.reduceAdd, Nat.reduceMul, Nat.reduceSub, Nat.reduceLT, Nat.reduceLeDiff, Nat.reduceEqDiff, Int.reduceLT, Int.reduceLE, Int.reduceAdd, Int.reduceSub, Int.reduceNeg, Int.reduceToNat, Int.reduceEq, Int.reduceBEq, Int.reduceBNe, Int.reduceMul, reduceCtorEq, h1, c5, c6, c7, d1, d2, d3, d4, d5]; rfl) ?_; (first | (with_reducible refine CondP.tt ?_) | (with_reducible refine CondP.ff ?_) | ((first | refine CondP.ht (by assumption) (fun h9 => ?_) | refine CondP.hf (by assumption) (fun h9 => ?_) | refine CondP.nt (by assumption) (fun h9 => ?_) | refine CondP.nf (by assumption) (fun h9 => ?_)); (try simp only [h9]); clear h9) | (refine CondP.split (fun hif => ?_) (fun hif => ?_) <;> ((try simp only [hif]); (try simp only [decide_eq_true_eq, decide_eq_false_iff_not, Bool.not_eq_true, Bool.not_eq_false, Bool.not_eq_true', Bool.not_eq_false', beq_iff_eq, bne_iff_ne, bne_eq_false_iff_eq, beq_eq_false_iff_ne, ne_eq, Bool.and_eq_true, Bool.or_eq_true, Bool.or_eq_false_iff] at hif); (try (have h9 : _ = true := hif; simp only [h9])); (try (have h9 : _ = false := hif; simp only [h9])); (try simp (maxSteps := 9999999) (disch := omega) only [go_sem, Nat.reduceAdd, Nat.reduceMul, Nat.reduceSub, Nat.reduceLT, Nat.reduceLeDiff, Nat.reduceEqDiff, Int.reduceLT, Int.reduceLE, Int.reduceAdd, Int.reduceSub, Int.reduceNeg, Int.reduceToNat, Int.reduceEq, Int.reduceBEq, Int.reduceBNe, Int.reduceMul, reduceCtorEq, h1, c5, c6, c7, d1, d2, d3, d4, d5]); (try (refine And.intro ?_ ?_; (focus (first | omega | (simp only [go_sem]; done) | (simp; done) | (simp; omega) | assumption)))); (try (exfalso; omega; done)))))) | (refine AWpA.block ?_) | ((first | refine AWpA.skip ?_ | refine AWpA.exit ?_ | refine AWpA.ret ?_ | (with_reducible refine ARoundsA.succ ?_)); (try simp (maxSteps := 9999999) (disch := omega) only [go_sem, Nat.reduceAdd, Nat.reduceMul, Nat.reduceSub, Nat.reduceLT, Nat.reduceLeDiff, Nat.reduceEqDiff, Int.reduceLT, Int.reduceLE, Int.reduceAdd, Int.reduceSub, Int.reduceNeg, Int.reduceToNat, Int.reduceEq, Int.reduceBEq, Int.reduceBNe, Int.reduceMul, reduceCtorEq, h1, c5, c6, c7, d1, d2, d3, d4, d5])) | ((first | refine Runs.kt (by assumption) (fun h9 => ?_) | refine Runs.kf (by assumption) (fun h9 => ?_) | refine Runs.nt (by assumption) (fun h9 => ?_) | refine Runs.nf (by assumption) (fun h9 => ?_)); (try simp only [h9]); clear h9; (try simp (maxSteps := 9999999) (disch := omega) only [go_sem, Nat.reduceAdd, Nat.reduceMul, Nat.reduceSub, Nat.reduceLT, Nat.reduceLeDiff, Nat.reduceEqDiff, Int.reduceLT, Int.reduceLE, Int.reduceAdd, Int.reduceSub, Int.reduceNeg, Int.reduceToNat, Int.reduceEq, Int.reduceBEq, Int.reduceBNe, Int.reduceMul, reduceCtorEq, h1, c5, c6, c7, d1, d2, d3, d4, d5]); (try (refine And.intro ?_ ?_; (focus (first | omega | (simp only [go_sem]; done) | (simp; done) | (simp; omega) | assumption))))) | (refine Runs.part (fun hif => ?_) (fun hif => ?_) <;> ((try simp only [hif]); (try simp only [decide_eq_true_eq, decide_eq_false_iff_not, Bool.not_eq_true, Bool.not_eq_false, Bool.not_eq_true', Bool.not_eq_false', beq_iff_eq, bne_iff_ne, bne_eq_false_iff_eq, beq_eq_false_iff_ne, ne_eq, Bool.and_eq_true, Bool.or_eq_true, Bool.or_eq_false_iff] at hif); (try (have h9 : _ = true := hif; simp only [h9])); (try (have h9 : _ = false := hif; simp only [h9])); (try simp (maxSteps := 9999999) (disch := omega) only [go_sem, Nat.reduceAdd, Nat.reduceMul, Nat.reduceSub, Nat.reduceLT, Nat.reduceLeDiff, Nat.reduceEqDiff, Int.reduceLT, Int.reduceLE, Int.reduceAdd, Int.reduceSub, Int.reduceNeg, Int.reduceToNat, Int.reduceEq, Int.reduceBEq, Int.reduceBNe, Int.reduceMul, reduceCtorEq, h1, c5, c6, c7, d1, d2, d3, d4, d5]); (try (refine And.intro ?_ ?_; (focus (first | omega | (simp only [go_sem]; done) | (simp; done) | (simp; omega) | assumption)))); (try (exfalso; omega; done)))) | ((first | (with_reducible apply CallG.plain1 [] (wake_any (⟨key, val, true, st, act, keep, age⟩ : En) a)) | (with_reducible apply CallG.draw1 [] (wake_any (⟨key, val, true, st, act, keep, age⟩ : En) a))); (focus ((try refine And.intro (leAs_of_eq rfl) ?_); (try refine And.intro (leOL_of_eq rfl) ?_); simp (maxSteps := 9999999) (disch := omega) only [go_sem, Nat.reduceAdd, Nat.reduceMul, Nat.reduceSub, Nat.reduceLT, Nat.reduceLeDiff, Nat.reduceEqDiff, Int.reduceLT, Int.reduceLE, Int.reduceAdd, Int.reduceSub, Int.reduceNeg, Int.reduceToNat, Int.reduceEq, Int.reduceBEq, Int.reduceBNe, Int.reduceMul, reduceCtorEq, h1, c5, c6, c7, d1, d2, d3, d4, d5]; first | done | (repeat' (first | rfl | (refine And.intro ?_ ?_))))); (focus (simp (maxSteps := 9999999) (disch := omega) only [go_sem, Nat.reduceAdd, Nat.reduceMul, Nat.reduceSub, Nat.reduceLT, Nat.reduceLeDiff, Nat.reduceEqDiff, Int.reduceLT, Int.reduceLE, Int.reduceAdd, Int.reduceSub, Int.reduceNeg, Int.reduceToNat, Int.reduceEq, Int.reduceBEq, Int.reduceBNe, Int.reduceMul, reduceCtorEq, h1, c5, c6, c7, d1, d2, d3, d4, d5]; rfl)); (try simp (maxSteps := 9999999) (disch := omega) only [go_sem, Nat.reduceAdd, Nat.reduceMul, Nat.reduceSub, Nat.reduceLT, Nat.reduceLeDiff, Nat.reduceEqDiff, Int.reduceLT, Int.reduceLE, Int.reduceAdd, Int.reduceSub, Int.reduceNeg, Int.reduceToNat, Int.reduceEq, Int.reduceBEq, Int.reduceBNe, Int.reduceMul, reduceCtorEq, h1, c5, c6, c7, d1, d2, d3, d4, d5]); (try (refine And.intro ?_ ?_; (focus (first | omega | (simp only [go_sem]; done) | (simp; done) | (simp; omega) | assumption))))) | ((first | (with_reducible apply CallG.plain1 [] (wake_any (⟨key, val, true, st, a, keep, 0⟩ : En) b)) | (with_reducible apply CallG.draw1 [] (wake_any (⟨key, val, true, st, a, keep, 0⟩ : En) b))); (focus ((try refine And.intro (leAs_of_eq rfl) ?_); (try refine And.intro (leOL_of_eq rfl) ?_); simp (maxSteps := 9999999) (disch := omega) only [go_sem, Nat.reduceAdd, Nat.reduceMul, Nat.reduceSub, Nat.reduceLT, Nat.reduceLeDiff, Nat.reduceEqDiff, Int.reduceLT, Int.reduceLE, Int.reduceAdd, Int.reduceSub, Int.reduceNeg, Int.reduceToNat, Int.reduceEq, Int.reduceBEq, Int.reduceBNe, Int.reduceMul, reduceCtorEq, h1, c5, c6, c7, d1, d2, d3, d4, d5]; first | done | (repeat' (first | rfl | (refine And.intro ?_ ?_))))); (focus (simp (maxSteps := 9999999) (disch := omega) only [go_sem, Nat.reduceAdd, Nat.reduceMul, Nat.reduceSub, Nat.reduceLT, Nat.reduceLeDiff, Nat.reduceEqDiff, Int.reduceLT, Int.reduceLE, Int.reduceAdd, Int.reduceSub, Int.reduceNeg, Int.reduceToNat, Int.reduceEq, Int.reduceBEq, Int.reduceBNe, Int.reduceMul, reduceCtorEq, h1, c5, c6, c7, d1, d2, d3, d4, d5]; rfl)); (try simp (maxSteps := 9999999) (disch := omega) only [go_sem, Nat.reduceAdd, Nat.reduceMul, Nat.reduceSub, Nat.reduceLT, Nat.reduceLeDiff, Nat.reduceEqDiff, Int.reduceLT, Int.reduceLE, Int.reduceAdd, Int.reduceSub, Int.reduceNeg, Int.reduceToNat, Int.reduceEq, Int.reduceBEq, Int.reduceBNe, Int.reduceMul, reduceCtorEq, h1, c5, c6, c7, d1, d2, d3, d4, d5]); (try (refine And.intro ?_ ?_; (focus (first | omega | (simp only [go_sem]; done) | (simp; done) | (simp; omega) | assumption))))) | ((first | (with_reducible apply CallG.plain1 [] (wake_any (⟨key, val, true, st, act, keep, age⟩ : En) b)) | (with_reducible apply CallG.draw1 [] (wake_any (⟨key, val, true, st, act, keep, age⟩ : En) b))); (focus ((try refine And.intro (leAs_of_eq rfl) ?_); (try refine And.intro (leOL_of_eq rfl) ?_); simp (maxSteps := 9999999) (disch := omega) only [go_sem, Nat.reduceAdd, Nat.reduceMul, Nat.reduceSub, Nat.reduceLT, Nat.reduceLeDiff, Nat.reduceEqDiff, Int.reduceLT, Int.reduceLE, Int.reduceAdd, Int.reduceSub, Int.reduceNeg, Int.reduceToNat, Int.reduceEq, Int.reduceBEq, Int.reduceBNe, Int.reduceMul, reduceCtorEq, h1, c5, c6, c7, d1, d2, d3, d4, d5]; first | done | (repeat' (first | rfl | (refine And.intro ?_ ?_))))); (focus (simp (maxSteps := 9999999) (disch := omega) only [go_sem, Nat.reduceAdd, Nat.reduceMul, Nat.reduceSub, Nat.reduceLT, Nat.reduceLeDiff, Nat.reduceEqDiff, Int.reduceLT, Int.reduceLE, Int.reduceAdd, Int.reduceSub, Int.reduceNeg, Int.reduceToNat, Int.reduceEq, Int.reduceBEq, Int.reduceBNe, Int.reduceMul, reduceCtorEq, h1, c5, c6, c7, d1, d2, d3, d4, d5]; rfl)); (try simp (maxSteps := 9999999) (disch := omega) only [go_sem, Nat.reduceAdd, Nat.reduceMul, Nat.reduceSub, Nat.reduceLT, Nat.reduceLeDiff, Nat.reduceEqDiff, Int.reduceLT, Int.reduceLE, Int.reduceAdd, Int.reduceSub, Int.reduceNeg, Int.reduceToNat, Int.reduceEq, Int.reduceBEq, Int.reduceBNe, Int.reduceMul, reduceCtorEq, h1, c5, c6, c7, d1, d2, d3, d4, d5]); (try (refine And.intro ?_ ?_; (focus (first | omega | (simp only [go_sem]; done) | (simp; done) | (simp; omega) | assumption))))) | ((first | (with_reducible apply CallG.plain1 [] (newer_any (⟨key, val, true, st, a, keep, 0⟩ : En) (⟨key, val, true, st, act, keep, age⟩ : En))) | (with_reducible apply CallG.draw1 [] (newer_any (⟨key, val, true, st, a, keep, 0⟩ : En) (⟨key, val, true, st, act, keep, age⟩ : En)))); (focus ((try refine And.intro (leAs_of_eq rfl) ?_); (try refine And.intro (leOL_of_eq rfl) ?_); simp (maxSteps := 9999999) (disch := omega) only [go_sem, Nat.reduceAdd, Nat.reduceMul, Nat.reduceSub, Nat.reduceLT, Nat.reduceLeDiff, Nat.reduceEqDiff, Int.reduceLT, Int.reduceLE, Int.reduceAdd, Int.reduceSub, Int.reduceNeg, Int.reduceToNat, Int.reduceEq, Int.reduceBEq, Int.reduceBNe, Int.reduceMul, reduceCtorEq, h1, c5, c6, c7, d1, d2, d3, d4, d5]; first | done | (repeat' (first | rfl | (refine And.intro ?_ ?_))))); (focus (simp (maxSteps := 9999999) (disch := omega) only [go_sem, Nat.reduceAdd, Nat.reduceMul, Nat.reduceSub, Nat.reduceLT, Nat.reduceLeDiff, Nat.reduceEqDiff, Int.reduceLT, Int.reduceLE, Int.reduceAdd, Int.reduceSub, Int.reduceNeg, Int.reduceToNat, Int.reduceEq, Int.reduceBEq, Int.reduceBNe, Int.reduceMul, reduceCtorEq, h1, c5, c6, c7, d1, d2, d3, d4, d5]; rfl)); (try simp (maxSteps := 9999999) (disch := omega) only [go_sem, Nat.reduceAdd, Nat.reduceMul, Nat.reduceSub, Nat.reduceLT, Nat.reduceLeDiff, Nat.reduceEqDiff, Int.reduceLT, Int.reduceLE, Int.reduceAdd, Int.reduceSub, Int.reduceNeg, Int.reduceToNat, Int.reduceEq, Int.reduceBEq, Int.reduceBNe, Int.reduceMul, reduceCtorEq, h1, c5, c6, c7, d1, d2, d3, d4, d5]); (try (refine And.intro ?_ ?_; (focus (first | omega | (simp only [go_sem]; done) | (simp; done) | (simp; omega) | assumption))))) | ((first | (with_reducible apply CallG.plain1 [] (newer_any (⟨key, val, true, st, b, keep, 0⟩ : En) (⟨key, val, true, st, a, keep, 0⟩ : En))) | (with_reducible apply CallG.draw1 [] (newer_any (⟨key, val, true, st, b, keep, 0⟩ : En) (⟨key, val, true, st, a, keep, 0⟩ : En)))); (focus ((try refine And.intro (leAs_of_eq rfl) ?_); (try refine And.intro (leOL_of_eq rfl) ?_); simp (maxSteps := 9999999) (disch := omega) only [go_sem, Nat.reduceAdd, Nat.reduceMul, Nat.reduceSub, Nat.reduceLT, Nat.reduceLeDiff, Nat.reduceEqDiff, Int.reduceLT, Int.reduceLE, Int.reduceAdd, Int.reduceSub, Int.reduceNeg, Int.reduceToNat, Int.reduceEq, Int.reduceBEq, Int.reduceBNe, Int.reduceMul, reduceCtorEq, h1, c5, c6, c7, d1, d2, d3, d4, d5]; first | done | (repeat' (first | rfl | (refine And.intro ?_ ?_))))); (focus (simp (maxSteps := 9999999) (disch := omega) only [go_sem, Nat.reduceAdd, Nat.reduceMul, Nat.reduceSub, Nat.reduceLT, Nat.reduceLeDiff, Nat.reduceEqDiff, Int.reduceLT, Int.reduceLE, Int.reduceAdd, Int.reduceSub, Int.reduceNeg, Int.reduceToNat, Int.reduceEq, Int.reduceBEq, Int.reduceBNe, Int.reduceMul, reduceCtorEq, h1, c5, c6, c7, d1, d2, d3, d4, d5]; rfl)); (try simp (maxSteps := 9999999) (disch := omega) only [go_sem, Nat.reduceAdd, Nat.reduceMul, Nat.reduceSub, Nat.reduceLT, Nat.reduceLeDiff, Nat.reduceEqDiff, Int.reduceLT, Int.reduceLE, Int.reduceAdd, Int.reduceSub, Int.reduceNeg, Int.reduceToNat, Int.reduceEq, Int.reduceBEq, Int.reduceBNe, Int.reduceMul, reduceCtorEq, h1, c5, c6, c7, d1, d2, d3, d4, d5]); (try (refine And.intro ?_ ?_; (focus (first | omega | (simp only [go_sem]; done) | (simp; done) | (simp; omega) | assumption))))) | ((first | (with_reducible apply CallG.plain1 [] (speaks05)) | (with_reducible apply CallG.plain1 [] (short_any (⟨key, val, true, st, act, keep, age⟩ : En))) | (with_reducible apply CallG.plain1 [] (of05_any (⟨key, val, true, st, act, keep, age⟩ : En))) | (with_reducible apply CallG.plain1 [] (of04_any _)) | (with_reducible apply CallG.plain1 [] (to05_any (⟨key, val, true, st, a, keep, 0⟩ : En))) | (with_reducible apply CallG.plain1 [] (rcheck_any (⟨key, val, true, st, a, keep, 0⟩ : En))) | (with_reducible apply CallG.plain1 [] (later_any _ _)) | (with_reducible apply CallG.plain1 [] (rgood_any _)) | (with_reducible apply CallG.draw1 [] (speaks05)) | (with_reducible apply CallG.draw1 [] (short_any (⟨key, val, true, st, act, keep, age⟩ : En))) | (with_reducible apply CallG.draw1 [] (of05_any (⟨key, val, true, st, act, keep, age⟩ : En))) | (with_reducible apply CallG.draw1 [] (of04_any _)) | (with_reducible apply CallG.draw1 [] (to05_any (⟨key, val, true, st, a, keep, 0⟩ : En))) | (with_reducible apply CallG.draw1 [] (rcheck_any (⟨key, val, true, st, a, keep, 0⟩ : En))) | (with_reducible apply CallG.draw1 [] (later_any _ _)) | (with_reducible apply CallG.draw1 [] (rgood_any _))); (focus ((try refine And.intro (leAs_of_eq rfl) ?_); (try refine And.intro (leOL_of_eq rfl) ?_); simp (maxSteps := 9999999) (disch := omega) only [go_sem, Nat.reduceAdd, Nat.reduceMul, Nat.reduceSub, Nat.reduceLT, Nat.reduceLeDiff, Nat.reduceEqDiff, Int.reduceLT, Int.reduceLE, Int.reduceAdd, Int.reduceSub, Int.reduceNeg, Int.reduceToNat, Int.reduceEq, Int.reduceBEq, Int.reduceBNe, Int.reduceMul, reduceCtorEq, h1, c5, c6, c7, d1, d2, d3, d4, d5]; first | done | (repeat' (first | rfl | (refine And.intro ?_ ?_))))); (focus (simp (maxSteps := 9999999) (disch := omega) only [go_sem, Nat.reduceAdd, Nat.reduceMul, Nat.reduceSub, Nat.reduceLT, Nat.reduceLeDiff, Nat.reduceEqDiff, Int.reduceLT, Int.reduceLE, Int.reduceAdd, Int.reduceSub, Int.reduceNeg, Int.reduceToNat, Int.reduceEq, Int.reduceBEq, Int.reduceBNe, Int.reduceMul, reduceCtorEq, h1, c5, c6, c7, d1, d2, d3, d4, d5]; rfl)); (try simp (maxSteps := 9999999) (disch := omega) only [go_sem, Nat.reduceAdd, Nat.reduceMul, Nat.reduceSub, Nat.reduceLT, Nat.reduceLeDiff, Nat.reduceEqDiff, Int.reduceLT, Int.reduceLE, Int.reduceAdd, Int.reduceSub, Int.reduceNeg, Int.reduceToNat, Int.reduceEq, Int.reduceBEq, Int.reduceBNe, Int.reduceMul, reduceCtorEq, h1, c5, c6, c7, d1, d2, d3, d4, d5]); (try (refine And.intro ?_ ?_; (focus (first | omega | (simp only [go_sem]; done) | (simp; done) | (simp; omega) | assumption)))))))
      all_goals skip
      all_goals (refine TopPost.of (by first | exact .inl rfl | exact .inr rfl) (by simp (maxSteps := 9999999) (disch := omega) only [go_sem, Nat.reduceAdd, Nat.reduceMul, Nat.reduceSub, Nat.reduceLT, Nat.reduceLeDiff, Nat.reduceEqDiff, Int.reduceLT, Int.reduceLE, Int.reduceAdd, Int.reduceSub, Int.reduceNeg, Int.reduceToNat, Int.reduceEq, Int.reduceBEq, Int.reduceBNe, Int.reduceMul, reduceCtorEq]; rfl) ?_; simp (maxSteps := 9999999) (disch := omega) only [go_sem, Nat.reduceAdd, Nat.reduceMul, Nat.reduceSub, Nat.reduceLT, Nat.reduceLeDiff, Nat.reduceEqDiff, Int.reduceLT, Int.reduceLE, Int.reduceAdd, Int.reduceSub, Int.reduceNeg, Int.reduceToNat, Int.reduceEq, Int.reduceBEq, Int.reduceBNe, Int.reduceMul, reduceCtorEq]; (try (first | trivial | decide | (simp; done))))
    · have d1 : wakeI (⟨key, val, true, st, a, keep, 0⟩ : En) b = 1 := by
        simp only [wakeI, c6, if_true]
        by_cases g1 : goodB b = true
        · have g2 : ¬ laterB b a = true := fun h => h2 ⟨g1, h⟩
          simp [g1, g2]
        · simp [g1]
      have d2 : (!laterB b a || !goodB b) = true := by
        cases g1 : goodB b <;> cases g2 : laterB b a <;> simp_all
      refine top_call c6_ok Try.func6 rfl Try.ntmps6 res6_ok [ EnA (⟨key, val, true, st, act, keep, age⟩ : En), StA a, StA b] (by simp) (by (repeat' (first | exact VRs_nil' _ | exact VR_val' _ _ | (refine VRs_cons' ?_ ?_) | (refine VR_agg' rfl ?_; simp [Value.oneCell', St.rep, En.rep])))) ?_; try simp (maxSteps := 9999999) (disch := omega) only [go_sem, Nat.reduceAdd, Nat.reduceMul, Nat.reduceSub, Nat.reduceLT, Nat.reduceLeDiff, Nat.reduceEqDiff, Int.reduceLT, Int.reduceLE, Int.reduceAdd, Int.reduceSub, Int.reduceNeg, Int.reduceToNat, Int.reduceEq, Int.reduceBEq, Int.reduceBNe, Int.reduceMul, reduceCtorEq]
      (repeat' (first | (refine AWpA.seq ?_) | (apply AWpA.region; (focus (simp (maxSteps := 9999999) (disch := omega) only [go_sem, Nat.reduceAdd, Nat.reduceMul, Nat.reduceSub, Nat.reduceLT, Nat.reduceLeDiff, Nat.reduceEqDiff, Int.reduceLT, Int.reduceLE, Int.reduceAdd, Int.reduceSub, Int.reduceNeg, Int.reduceToNat, Int.reduceEq, Int.reduceBEq, Int.reduceBNe, Int.reduceMul, reduceCtorEq, h1, c5, c6, c7, d1]; rfl)); (try simp (maxSteps := 9999999) (disch := omega) only [go_sem, Nat.reduceAdd, Nat.reduceMul, Nat.reduceSub, Nat.reduceLT, Nat.reduceLeDiff, Nat.reduceEqDiff, Int.reduceLT, Int.reduceLE, Int.reduceAdd, Int.reduceSub, Int.reduceNeg, Int.reduceToNat, Int.reduceEq, Int.reduceBEq, Int.reduceBNe, Int.reduceMul, reduceCtorEq, h1, c5, c6, c7, d1]); (try (refine And.intro ?_ ?_; (focus (first | omega | (simp only [go_sem]; done) | (simp; done) | (simp; omega) | assumption))))) | (apply AWpA.draw [] follows; (focus (simp (maxSteps := 9999999) (disch := omega) only [go_sem, Nat.reduceAdd, Nat.reduceMul, Nat.reduceSub, Nat.reduceLT, Nat.reduceLeDiff, Nat.reduceEqDiff, Int.reduceLT, Int.reduceLE, Int.reduceAdd, Int.reduceSub, Int.reduceNeg, Int.reduceToNat, Int.reduceEq, Int.reduceBEq, Int.reduceBNe, Int.reduceMul, reduceCtorEq, h1, c5, c6, c7, d1]; rfl)); (focus (simp (maxSteps := 9999999) (disch := omega) only [go_sem, Nat.reduceAdd, Nat.reduceMul, Nat.reduceSub, Nat.reduceLT, Nat.reduceLeDiff, Nat.reduceEqDiff, Int.reduceLT, Int.reduceLE, Int.reduceAdd, Int.reduceSub, Int.reduceNeg, Int.reduceToNat, Int.reduceEq, Int.reduceBEq, Int.reduceBNe, Int.reduceMul, reduceCtorEq, h1, c5, c6, c7, d1]; first | done | trivial)); (focus (simp (maxSteps := 9999999) (disch := omega) only [go_sem, Nat.reduceAdd, Nat.reduceMul, Nat.reduceSub, Nat.reduceLT, Nat.reduceLeDiff, Nat.reduceEqDiff, Int.reduceLT, Int.reduceLE, Int.reduceAdd, Int.reduceSub, Int.reduceNeg, Int.reduceToNat, Int.reduceEq, Int.reduceBEq, Int.reduceBNe, Int.reduceMul, reduceCtorEq, h1, c5, c6, c7, d1]; rfl)); (try simp (maxSteps := 9999999) (disch := omega) only [go_sem, Nat.reduceAdd, Nat.reduceMul, Nat.reduceSub, Nat.reduceLT, Nat.reduceLeDiff, Nat.reduceEqDiff, Int.reduceLT, Int.reduceLE, Int.reduceAdd, Int.reduceSub, Int.reduceNeg, Int.reduceToNat, Int.reduceEq, Int.reduceBEq, Int.reduceBNe, Int.reduceMul, reduceCtorEq, h1, c5, c6, c7, d1]); (try (refine And.intro ?_ ?_; (focus (first | omega | (simp only [go_sem]; done) | (simp; done) | (simp; omega) | assumption))))) | (refine AWpA.condv (by simp (maxSteps := 9999999) (disch := omega) only [go_sem, Nat.reduceAdd, Nat.reduceMul, Nat.reduceSub, Nat.reduceLT, Nat.reduceLeDiff, Nat.reduceEqDiff, Int.reduceLT, Int.reduceLE, Int.reduceAdd, Int.reduceSub, Int.reduceNeg, Int.reduceToNat, Int.reduceEq, Int.reduceBEq, Int.reduceBNe, Int.reduceMul, reduceCtorEq, h1, c5, c6, c7, d1]; rfl) ?_; (first | (with_reducible refine CondP.tt ?_) | (with_reducible refine CondP.ff ?_) | ((first | refine CondP.ht (by assumption) (fun h9 => ?_) | refine CondP.hf (by assumption) (fun h9 => ?_) | refine CondP.nt (by assumption) (fun h9 => ?_) | refine CondP.nf (by assumption) (fun h9 => ?_)); (try simp only [h9]); clear h9) | (refine CondP.split (fun hif => ?_) (fun hif => ?_) <;> ((try simp only [hif]); (try simp only [decide_eq_true_eq, decide_eq_false_iff_not, Bool.not_eq_true, Bool.not_eq_false, Bool.not_eq_true', Bool.not_eq_false', beq_iff_eq, bne_iff_ne, bne_eq_false_iff_eq, beq_eq_false_iff_ne, ne_eq, Bool.and_eq_true, Bool.or_eq_true, Bool.or_eq_false_iff] at hif); (try (have h9 : _ = true := hif; simp only [h9])); (try (have h9 : _ = false := hif; simp only [h9])); (try simp (maxSteps := 9999999) (disch := omega) only [go_sem, Nat.reduceAdd, Nat.reduceMul, Nat.reduceSub, Nat.reduceLT, Nat.reduceLeDiff, Nat.reduceEqDiff, Int.reduceLT, Int.reduceLE, Int.reduceAdd, Int.reduceSub, Int.reduceNeg, Int.reduceToNat, Int.reduceEq, Int.reduceBEq, Int.reduceBNe, Int.reduceMul, reduceCtorEq, h1, c5, c6, c7, d1]); (try (refine And.intro ?_ ?_; (focus (first | omega | (simp only [go_sem]; done) | (simp; done) | (simp; omega) | assumption)))); (try (exfalso; omega; done)))))) | (refine AWpA.block ?_) | ((first | refine AWpA.skip ?_ | refine AWpA.exit ?_ | refine AWpA.ret ?_ | (with_reducible refine ARoundsA.succ ?_)); (try simp (maxSteps := 9999999) (disch := omega) only [go_sem, Nat.reduceAdd, Nat.reduceMul, Nat.reduceSub, Nat.reduceLT, Nat.reduceLeDiff, Nat.reduceEqDiff, Int.reduceLT, Int.reduceLE, Int.reduceAdd, Int.reduceSub, Int.reduceNeg, Int.reduceToNat, Int.reduceEq, Int.reduceBEq, Int.reduceBNe, Int.reduceMul, reduceCtorEq, h1, c5, c6, c7, d1])) | ((first | refine Runs.kt (by assumption) (fun h9 => ?_) | refine Runs.kf (by assumption) (fun h9 => ?_) | refine Runs.nt (by assumption) (fun h9 => ?_) | refine Runs.nf (by assumption) (fun h9 => ?_)); (try simp only [h9]); clear h9; (try simp (maxSteps := 9999999) (disch := omega) only [go_sem, Nat.reduceAdd, Nat.reduceMul, Nat.reduceSub, Nat.reduceLT, Nat.reduceLeDiff, Nat.reduceEqDiff, Int.reduceLT, Int.reduceLE, Int.reduceAdd, Int.reduceSub, Int.reduceNeg, Int.reduceToNat, Int.reduceEq, Int.reduceBEq, Int.reduceBNe, Int.reduceMul, reduceCtorEq, h1, c5, c6, c7, d1]); (try (refine And.intro ?_ ?_; (focus (first | omega | (simp only [go_sem]; done) | (simp; done) | (simp; omega) | assumption))))) | (refine Runs.part (fun hif => ?_) (fun hif => ?_) <;> ((try simp only [hif]); (try simp only [decide_eq_true_eq, decide_eq_false_iff_not, Bool.not_eq_true, Bool.not_eq_false, Bool.not_eq_true', Bool.not_eq_false', beq_iff_eq, bne_iff_ne, bne_eq_false_iff_eq, beq_eq_false_iff_ne, ne_eq, Bool.and_eq_true, Bool.or_eq_true, Bool.or_eq_false_iff] at hif); (try (have h9 : _ = true := hif; simp only [h9])); (try (have h9 : _ = false := hif; simp only [h9])); (try simp (maxSteps := 9999999) (disch := omega) only [go_sem, Nat.reduceAdd, Nat.reduceMul, Nat.reduceSub, Nat.reduceLT, Nat.reduceLeDiff, Nat.reduceEqDiff, Int.reduceLT, Int.reduceLE, Int.reduceAdd, Int.reduceSub, Int.reduceNeg, Int.reduceToNat, Int.reduceEq, Int.reduceBEq, Int.reduceBNe, Int.reduceMul, reduceCtorEq, h1, c5, c6, c7, d1]); (try (refine And.intro ?_ ?_; (focus (first | omega | (simp only [go_sem]; done) | (simp; done) | (simp; omega) | assumption)))); (try (exfalso; omega; done)))) | ((first | (with_reducible apply CallG.plain1 [] (wake_any (⟨key, val, true, st, act, keep, age⟩ : En) a)) | (with_reducible apply CallG.draw1 [] (wake_any (⟨key, val, true, st, act, keep, age⟩ : En) a))); (focus ((try refine And.intro (leAs_of_eq rfl) ?_); (try refine And.intro (leOL_of_eq rfl) ?_); simp (maxSteps := 9999999) (disch := omega) only [go_sem, Nat.reduceAdd, Nat.reduceMul, Nat.reduceSub, Nat.reduceLT, Nat.reduceLeDiff, Nat.reduceEqDiff, Int.reduceLT, Int.reduceLE, Int.reduceAdd, Int.reduceSub, Int.reduceNeg, Int.reduceToNat, Int.reduceEq, Int.reduceBEq, Int.reduceBNe, Int.reduceMul, reduceCtorEq, h1, c5, c6, c7, d1]; first | done | (repeat' (first | rfl | (refine And.intro ?_ ?_))))); (focus (simp (maxSteps := 9999999) (disch := omega) only [go_sem, Nat.reduceAdd, Nat.reduceMul, Nat.reduceSub, Nat.reduceLT, Nat.reduceLeDiff, Nat.reduceEqDiff, Int.reduceLT, Int.reduceLE, Int.reduceAdd, Int.reduceSub, Int.reduceNeg, Int.reduceToNat, Int.reduceEq, Int.reduceBEq, Int.reduceBNe, Int.reduceMul, reduceCtorEq, h1, c5, c6, c7, d1]; rfl)); (try simp (maxSteps := 9999999) (disch := omega) only [go_sem, Nat.reduceAdd, Nat.reduceMul, Nat.reduceSub, Nat.reduceLT, Nat.reduceLeDiff, Nat.reduceEqDiff, Int.reduceLT, Int.reduceLE, Int.reduceAdd, Int.reduceSub, Int.reduceNeg, Int.reduceToNat, Int.reduceEq, Int.reduceBEq, Int.reduceBNe, Int.reduceMul, reduceCtorEq, h1, c5, c6, c7, d1]); (try (refine And.intro ?_ ?_; (focus (first | omega | (simp only [go_sem]; done) | (simp; done) | (simp; omega) | assumption))))) | ((first | (with_reducible apply CallG.plain1 [] (wake_any (⟨key, val, true, st, a, keep, 0⟩ : En) b)) | (with_reducible apply CallG.draw1 [] (wake_any (⟨key, val, true, st, a, keep, 0⟩ : En) b))); (focus ((try refine And.intro (leAs_of_eq rfl) ?_); (try refine And.intro (leOL_of_eq rfl) ?_); simp (maxSteps := 9999999) (disch := omega) only [go_sem, Nat.reduceAdd, Nat.reduceMul, Nat.reduceSub, Nat.reduceLT, Nat.reduceLeDiff, Nat.reduceEqDiff, Int.reduceLT, Int.reduceLE, Int.reduceAdd, Int.reduceSub, Int.reduceNeg, Int.reduceToNat, Int.reduceEq, Int.reduceBEq, Int.reduceBNe, Int.reduceMul, reduceCtorEq, h1, c5, c6, c7, d1]; first | done | (repeat' (first | rfl | (refine And.intro ?_ ?_))))); (focus (simp (maxSteps := 9999999) (disch := omega) only [go_sem, Nat.reduceAdd, Nat.reduceMul, Nat.reduceSub, Nat.reduceLT, Nat.reduceLeDiff, Nat.reduceEqDiff, Int.reduceLT, Int.reduceLE, Int.reduceAdd, Int.reduceSub, Int.reduceNeg, Int.reduceToNat, Int.reduceEq, Int.reduceBEq, Int.reduceBNe, Int.reduceMul, reduceCtorEq, h1, c5, c6, c7, d1]; rfl)); (try simp (maxSteps := 9999999) (disch := omega) only [go_sem, Nat.reduceAdd, Nat.reduceMul, Nat.reduceSub, Nat.reduceLT, Nat.reduceLeDiff, Nat.reduceEqDiff, Int.reduceLT, Int.reduceLE, Int.reduceAdd, Int.reduceSub, Int.reduceNeg, Int.reduceToNat, Int.reduceEq, Int.reduceBEq, Int.reduceBNe, Int.reduceMul, reduceCtorEq, h1, c5, c6, c7, d1]); (try (refine And.intro ?_ ?_; (focus (first | omega | (simp only [go_sem]; done) | (simp; done) | (simp; omega) | assumption))))) | ((first | (with_reducible apply CallG.plain1 [] (speaks05)) | (with_reducible apply CallG.plain1 [] (short_any (⟨key, val, true, st, act, keep, age⟩ : En))) | (with_reducible apply CallG.plain1 [] (of05_any (⟨key, val, true, st, act, keep, age⟩ : En))) | (with_reducible apply CallG.plain1 [] (of04_any _)) | (with_reducible apply CallG.plain1 [] (to05_any (⟨key, val, true, st, a, keep, 0⟩ : En))) | (with_reducible apply CallG.plain1 [] (rcheck_any (⟨key, val, true, st, a, keep, 0⟩ : En))) | (with_reducible apply CallG.plain1 [] (newer_any (⟨key, val, true, st, a, keep, 0⟩ : En) (⟨key, val, true, st, act, keep, age⟩ : En))) | (with_reducible apply CallG.plain1 [] (later_any _ _)) | (with_reducible apply CallG.plain1 [] (rgood_any _)) | (with_reducible apply CallG.draw1 [] (speaks05)) | (with_reducible apply CallG.draw1 [] (short_any (⟨key, val, true, st, act, keep, age⟩ : En))) | (with_reducible apply CallG.draw1 [] (of05_any (⟨key, val, true, st, act, keep, age⟩ : En))) | (with_reducible apply CallG.draw1 [] (of04_any _)) | (with_reducible apply CallG.draw1 [] (to05_any (⟨key, val, true, st, a, keep, 0⟩ : En))) | (with_reducible apply CallG.draw1 [] (rcheck_any (⟨key, val, true, st, a, keep, 0⟩ : En))) | (with_reducible apply CallG.draw1 [] (newer_any (⟨key, val, true, st, a, keep, 0⟩ : En) (⟨key, val, true, st, act, keep, age⟩ : En))) | (with_reducible apply CallG.draw1 [] (later_any _ _)) | (with_reducible apply CallG.draw1 [] (rgood_any _))); (focus ((try refine And.intro (leAs_of_eq rfl) ?_); (try refine And.intro (leOL_of_eq rfl) ?_); simp (maxSteps := 9999999) (disch := omega) only [go_sem, Nat.reduceAdd, Nat.reduceMul, Nat.reduceSub, Nat.reduceLT, Nat.reduceLeDiff, Nat.reduceEqDiff, Int.reduceLT, Int.reduceLE, Int.reduceAdd, Int.reduceSub, Int.reduceNeg, Int.reduceToNat, Int.reduceEq, Int.reduceBEq, Int.reduceBNe, Int.reduceMul, reduceCtorEq, h1, c5, c6, c7, d1]; first | done | (repeat' (first | rfl | (refine And.intro ?_ ?_))))); (focus (simp (maxSteps := 9999999) (disch := omega) only [go_sem, Nat.reduceAdd, Nat.reduceMul, Nat.reduceSub, Nat.reduceLT, Nat.reduceLeDiff, Nat.reduceEqDiff, Int.reduceLT, Int.reduceLE, Int.reduceAdd, Int.reduceSub, Int.reduceNeg, Int.reduceToNat, Int.reduceEq, Int.reduceBEq, Int.reduceBNe, Int.reduceMul, reduceCtorEq, h1, c5, c6, c7, d1]; rfl)); (try simp (maxSteps := 9999999) (disch := omega) only [go_sem, Nat.reduceAdd, Nat.reduceMul, Nat.reduceSub, Nat.reduceLT, Nat.reduceLeDiff, Nat.reduceEqDiff, Int.reduceLT, Int.reduceLE, Int.reduceAdd, Int.reduceSub, Int.reduceNeg, Int.reduceToNat, Int.reduceEq, Int.reduceBEq, Int.reduceBNe, Int.reduceMul, reduceCtorEq, h1, c5, c6, c7, d1]); (try (refine And.intro ?_ ?_; (focus (first | omega | (simp only [go_sem]; done) | (simp; done) | (simp; omega) | assumption)))))))
      all_goals skip
      all_goals first
        | ((refine TopPost.of (by first | exact .inl rfl | exact .inr rfl) (by simp (maxSteps := 9999999) (disch := omega) only [go_sem, Nat.reduceAdd, Nat.reduceMul, Nat.reduceSub, Nat.reduceLT, Nat.reduceLeDiff, Nat.reduceEqDiff, Int.reduceLT, Int.reduceLE, Int.reduceAdd, Int.reduceSub, Int.reduceNeg, Int.reduceToNat, Int.reduceEq, Int.reduceBEq, Int.reduceBNe, Int.reduceMul, reduceCtorEq]; rfl) ?_; simp (maxSteps := 9999999) (disch := omega) only [go_sem, Nat.reduceAdd, Nat.reduceMul, Nat.reduceSub, Nat.reduceLT, Nat.reduceLeDiff, Nat.reduceEqDiff, Int.reduceLT, Int.reduceLE, Int.reduceAdd, Int.reduceSub, Int.reduceNeg, Int.reduceToNat, Int.reduceEq, Int.reduceBEq, Int.reduceBNe, Int.reduceMul, reduceCtorEq]; (try (first | trivial | decide | (simp; done)))); done)
        | (have g9 : goodB b = false := (by cases g : goodB b <;> simp_all); (refine TopPost.of (by first | exact .inl rfl | exact .inr rfl) (by simp (maxSteps := 9999999) (disch := omega) only [go_sem, Nat.reduceAdd, Nat.reduceMul, Nat.reduceSub, Nat.reduceLT, Nat.reduceLeDiff, Nat.reduceEqDiff, Int.reduceLT, Int.reduceLE, Int.reduceAdd, Int.reduceSub, Int.reduceNeg, Int.reduceToNat, Int.reduceEq, Int.reduceBEq, Int.reduceBNe, Int.reduceMul, reduceCtorEq, g9]; rfl) ?_; simp (maxSteps := 9999999) (disch := omega) only [go_sem, Nat.reduceAdd, Nat.reduceMul, Nat.reduceSub, Nat.reduceLT, Nat.reduceLeDiff, Nat.reduceEqDiff, Int.reduceLT, Int.reduceLE, Int.reduceAdd, Int.reduceSub, Int.reduceNeg, Int.reduceToNat, Int.reduceEq, Int.reduceBEq, Int.reduceBNe, Int.reduceMul, reduceCtorEq, g9]; (try (first | trivial | decide | (simp; done)))); done)
  · have h2 : wakeE e a = noEn := by simp [wakeE, h1]
    refine top_call c6_ok Try.func6 rfl Try.ntmps6 res6_ok [ EnA e, StA a, StA b] (by simp) (by (repeat' (first | exact VRs_nil' _ | exact VR_val' _ _ | (refine VRs_cons' ?_ ?_) | (refine VR_agg' rfl ?_; simp [Value.oneCell', St.rep, En.rep])))) ?_; try simp (maxSteps := 9999999) (disch := omega) only [go_sem, Nat.reduceAdd, Nat.reduceMul, Nat.reduceSub, Nat.reduceLT, Nat.reduceLeDiff, Nat.reduceEqDiff, Int.reduceLT, Int.reduceLE, Int.reduceAdd, Int.reduceSub, Int.reduceNeg, Int.reduceToNat, Int.reduceEq, Int.reduceBEq, Int.reduceBNe, Int.reduceMul, reduceCtorEq]
    (repeat' (first | (refine AWpA.seq ?_) | (apply AWpA.region; (focus (simp (maxSteps := 9999999) (disch := omega) only [go_sem, Nat.reduceAdd, Nat.reduceMul, Nat.reduceSub, Nat.reduceLT, Nat.reduceLeDiff, Nat.reduceEqDiff, Int.reduceLT, Int.reduceLE, Int.reduceAdd, Int.reduceSub, Int.reduceNeg, Int.reduceToNat, Int.reduceEq, Int.reduceBEq, Int.reduceBNe, Int.reduceMul, reduceCtorEq, h1, h2]; rfl)); (try simp (maxSteps := 9999999) (disch := omega) only [go_sem, Nat.reduceAdd, Nat.reduceMul, Nat.reduceSub, Nat.reduceLT, Nat.reduceLeDiff, Nat.reduceEqDiff, Int.reduceLT, Int.reduceLE, Int.reduceAdd, Int.reduceSub, Int.reduceNeg, Int.reduceToNat, Int.reduceEq, Int.reduceBEq, Int.reduceBNe, Int.reduceMul, reduceCtorEq, h1, h2]); (try (refine And.intro ?_ ?_; (focus (first | omega | (simp only [go_sem]; done) | (simp; done) | (simp; omega) | assumption))))) | (apply AWpA.draw [] follows; (focus (simp (maxSteps := 9999999) (disch := omega) only [go_sem, Nat.reduceAdd, Nat.reduceMul, Nat.reduceSub, Nat.reduceLT, Nat.reduceLeDiff, Nat.reduceEqDiff, Int.reduceLT, Int.reduceLE, Int.reduceAdd, Int.reduceSub, Int.reduceNeg, Int.reduceToNat, Int.reduceEq, Int.reduceBEq, Int.reduceBNe, Int.reduceMul, reduceCtorEq, h1, h2]; rfl)); (focus (simp (maxSteps := 9999999) (disch := omega) only [go_sem, Nat.reduceAdd, Nat.reduceMul, Nat.reduceSub, Nat.reduceLT, Nat.reduceLeDiff, Nat.reduceEqDiff, Int.reduceLT, Int.reduceLE, Int.reduceAdd, Int.reduceSub, Int.reduceNeg, Int.reduceToNat, Int.reduceEq, Int.reduceBEq, Int.reduceBNe, Int.reduceMul, reduceCtorEq, h1, h2]; first | done | trivial)); (focus (simp (maxSteps := 9999999) (disch := omega) only [go_sem, Nat.reduceAdd, Nat.reduceMul, Nat.reduceSub, Nat.reduceLT, Nat.reduceLeDiff, Nat.reduceEqDiff, Int.reduceLT, Int.reduceLE, Int.reduceAdd, Int.reduceSub, Int.reduceNeg, Int.reduceToNat, Int.reduceEq, Int.reduceBEq, Int.reduceBNe, Int.reduceMul, reduceCtorEq, h1, h2]; rfl)); (try simp (maxSteps := 9999999) (disch := omega) only [go_sem, Nat.reduceAdd, Nat.reduceMul, Nat.reduceSub, Nat.reduceLT, Nat.reduceLeDiff, Nat.reduceEqDiff, Int.reduceLT, Int.reduceLE, Int.reduceAdd, Int.reduceSub, Int.reduceNeg, Int.reduceToNat, Int.reduceEq, Int.reduceBEq, Int.reduceBNe, Int.reduceMul, reduceCtorEq, h1, h2]); (try (refine And.intro ?_ ?_; (focus (first | omega | (simp only [go_sem]; done) | (simp; done) | (simp; omega) | assumption))))) | (refine AWpA.condv (by simp (maxSteps := 9999999) (disch := omega) only [go_sem, Nat.reduceAdd, Nat.reduceMul, Nat.reduceSub, Nat.reduceLT, Nat.reduceLeDiff, Nat.reduceEqDiff, Int.reduceLT, Int.reduceLE, Int.reduceAdd, Int.reduceSub, Int.reduceNeg, Int.reduceToNat, Int.reduceEq, Int.reduceBEq, Int.reduceBNe, Int.reduceMul, reduceCtorEq, h1, h2]; rfl) ?_; (first | (with_reducible refine CondP.tt ?_) | (with_reducible refine CondP.ff ?_) | ((first | refine CondP.ht (by assumption) (fun h9 => ?_) | refine CondP.hf (by assumption) (fun h9 => ?_) | refine CondP.nt (by assumption) (fun h9 => ?_) | refine CondP.nf (by assumption) (fun h9 => ?_)); (try simp only [h9]); clear h9) | (refine CondP.split (fun hif => ?_) (fun hif => ?_) <;> ((try simp only [hif]); (try simp only [decide_eq_true_eq, decide_eq_false_iff_not, Bool.not_eq_true, Bool.not_eq_false, Bool.not_eq_true', Bool.not_eq_false', beq_iff_eq, bne_iff_ne, bne_eq_false_iff_eq, beq_eq_false_iff_ne, ne_eq, Bool.and_eq_true, Bool.or_eq_true, Bool.or_eq_false_iff] at hif); (try (have h9 : _ = true := hif; simp only [h9])); (try (have h9 : _ = false := hif; simp only [h9])); (try simp (maxSteps := 9999999) (disch := omega) only [go_sem, Nat.reduceAdd, Nat.reduceMul, Nat.reduceSub, Nat.reduceLT, Nat.reduceLeDiff, Nat.reduceEqDiff, Int.reduceLT, Int.reduceLE, Int.reduceAdd, Int.reduceSub, Int.reduceNeg, Int.reduceToNat, Int.reduceEq, Int.reduceBEq, Int.reduceBNe, Int.reduceMul, reduceCtorEq, h1, h2]); (try (refine And.intro ?_ ?_; (focus (first | omega | (simp only [go_sem]; done) | (simp; done) | (simp; omega) | assumption)))); (try (exfalso; omega; done)))))) | (refine AWpA.block ?_) | ((first | refine AWpA.skip ?_ | refine AWpA.exit ?_ | refine AWpA.ret ?_ | (with_reducible refine ARoundsA.succ ?_)); (try simp (maxSteps := 9999999) (disch := omega) only [go_sem, Nat.reduceAdd, Nat.reduceMul, Nat.reduceSub, Nat.reduceLT, Nat.reduceLeDiff, Nat.reduceEqDiff, Int.reduceLT, Int.reduceLE, Int.reduceAdd, Int.reduceSub, Int.reduceNeg, Int.reduceToNat, Int.reduceEq, Int.reduceBEq, Int.reduceBNe, Int.reduceMul, reduceCtorEq, h1, h2])) | ((first | refine Runs.kt (by assumption) (fun h9 => ?_) | refine Runs.kf (by assumption) (fun h9 => ?_) | refine Runs.nt (by assumption) (fun h9 => ?_) | refine Runs.nf (by assumption) (fun h9 => ?_)); (try simp only [h9]); clear h9; (try simp (maxSteps := 9999999) (disch := omega) only [go_sem, Nat.reduceAdd, Nat.reduceMul, Nat.reduceSub, Nat.reduceLT, Nat.reduceLeDiff, Nat.reduceEqDiff, Int.reduceLT, Int.reduceLE, Int.reduceAdd, Int.reduceSub, Int.reduceNeg, Int.reduceToNat, Int.reduceEq, Int.reduceBEq, Int.reduceBNe, Int.reduceMul, reduceCtorEq, h1, h2]); (try (refine And.intro ?_ ?_; (focus (first | omega | (simp only [go_sem]; done) | (simp; done) | (simp; omega) | assumption))))) | (refine Runs.part (fun hif => ?_) (fun hif => ?_) <;> ((try simp only [hif]); (try simp only [decide_eq_true_eq, decide_eq_false_iff_not, Bool.not_eq_true, Bool.not_eq_false, Bool.not_eq_true', Bool.not_eq_false', beq_iff_eq, bne_iff_ne, bne_eq_false_iff_eq, beq_eq_false_iff_ne, ne_eq, Bool.and_eq_true, Bool.or_eq_true, Bool.or_eq_false_iff] at hif); (try (have h9 : _ = true := hif; simp only [h9])); (try (have h9 : _ = false := hif; simp only [h9])); (try simp (maxSteps := 9999999) (disch := omega) only [go_sem, Nat.reduceAdd, Nat.reduceMul, Nat.reduceSub, Nat.reduceLT, Nat.reduceLeDiff, Nat.reduceEqDiff, Int.reduceLT, Int.reduceLE, Int.reduceAdd, Int.reduceSub, Int.reduceNeg, Int.reduceToNat, Int.reduceEq, Int.reduceBEq, Int.reduceBNe, Int.reduceMul, reduceCtorEq, h1, h2]); (try (refine And.intro ?_ ?_; (focus (first | omega | (simp only [go_sem]; done) | (simp; done) | (simp; omega) | assumption)))); (try (exfalso; omega; done)))) | ((first | (with_reducible apply CallG.plain1 [] (speaks05)) | (with_reducible apply CallG.plain1 [] (short_any _)) | (with_reducible apply CallG.plain1 [] (of05_any e)) | (with_reducible apply CallG.plain1 [] (wake_any e a)) | (with_reducible apply CallG.plain1 [] (of04_any _)) | (with_reducible apply CallG.draw1 [] (speaks05)) | (with_reducible apply CallG.draw1 [] (short_any _)) | (with_reducible apply CallG.draw1 [] (of05_any e)) | (with_reducible apply CallG.draw1 [] (wake_any e a)) | (with_reducible apply CallG.draw1 [] (of04_any _))); (focus ((try refine And.intro (leAs_of_eq rfl) ?_); (try refine And.intro (leOL_of_eq rfl) ?_); simp (maxSteps := 9999999) (disch := omega) only [go_sem, Nat.reduceAdd, Nat.reduceMul, Nat.reduceSub, Nat.reduceLT, Nat.reduceLeDiff, Nat.reduceEqDiff, Int.reduceLT, Int.reduceLE, Int.reduceAdd, Int.reduceSub, Int.reduceNeg, Int.reduceToNat, Int.reduceEq, Int.reduceBEq, Int.reduceBNe, Int.reduceMul, reduceCtorEq, h1, h2]; first | done | (repeat' (first | rfl | (refine And.intro ?_ ?_))))); (focus (simp (maxSteps := 9999999) (disch := omega) only [go_sem, Nat.reduceAdd, Nat.reduceMul, Nat.reduceSub, Nat.reduceLT, Nat.reduceLeDiff, Nat.reduceEqDiff, Int.reduceLT, Int.reduceLE, Int.reduceAdd, Int.reduceSub, Int.reduceNeg, Int.reduceToNat, Int.reduceEq, Int.reduceBEq, Int.reduceBNe, Int.reduceMul, reduceCtorEq, h1, h2]; rfl)); (try simp (maxSteps := 9999999) (disch := omega) only [go_sem, Nat.reduceAdd, Nat.reduceMul, Nat.reduceSub, Nat.reduceLT, Nat.reduceLeDiff, Nat.reduceEqDiff, Int.reduceLT, Int.reduceLE, Int.reduceAdd, Int.reduceSub, Int.reduceNeg, Int.reduceToNat, Int.reduceEq, Int.reduceBEq, Int.reduceBNe, Int.reduceMul, reduceCtorEq, h1, h2]); (try (refine And.intro ?_ ?_; (focus (first | omega | (simp only [go_sem]; done) | (simp; done) | (simp; omega) | assumption)))))))
    all_goals skip
    all_goals (refine TopPost.of (by first | exact .inl rfl | exact .inr rfl) (by simp (maxSteps := 9999999) (disch := omega) only [go_sem, Nat.reduceAdd, Nat.reduceMul, Nat.reduceSub, Nat.reduceLT, Nat.reduceLeDiff, Nat.reduceEqDiff, Int.reduceLT, Int.reduceLE, Int.reduceAdd, Int.reduceSub, Int.reduceNeg, Int.reduceToNat, Int.reduceEq, Int.reduceBEq, Int.reduceBNe, Int.reduceMul, reduceCtorEq]; rfl) ?_; simp (maxSteps := 9999999) (disch := omega) only [go_sem, Nat.reduceAdd, Nat.reduceMul, Nat.reduceSub, Nat.reduceLT, Nat.reduceLeDiff, Nat.reduceEqDiff, Int.reduceLT, Int.reduceLE, Int.reduceAdd, Int.reduceSub, Int.reduceNeg, Int.reduceToNat, Int.reduceEq, Int.reduceBEq, Int.reduceBNe, Int.reduceMul, reduceCtorEq]; (try (first | trivial | decide | (simp; done))))
set_option maxRecDepth 100000 in
theorem lifted_entryWoken (os : Os) (started : os.Started) (H : Type) (enc : TypeId × Value → H) :
    ReturnsInHanded {} Try.checked os 6 .any (Rows.entryWokenSpec.pre6 enc Try.prog Try.f6 Rows.entryWokenRow.domain false) (Rows.entryWokenSpec.post enc Try.prog Try.f6 false true false false) := by
  refine returnsInHanded_of_change (C := Try.checked) (by kernel_rfl) started (by kernel_rfl) Try.func6
    (ChangeSpec.witness6 (enc := enc) (C := Try.checked) false ⟨#[], #[.agg #[.string ByteArray.empty, .string ByteArray.empty, .bool false, .int .i64 0, .int .i64 0, .int .i64 0, .int .i64 0, .int .i64 0, .int .i64 0], .agg #[.int .i64 0, .int .i64 0], .agg #[.int .i64 0, .int .i64 0]], []⟩ 8 (by kernel_rfl) (by kernel_rfl) (by kernel_rfl) (by kernel_rfl)) ?_
  intro W base args ds gs before hval0 hW hcnd _
  have hval : ∀ (j : Nat) t v, Try.f6.params[j]? = some t → args[j]? = some v → Value.okWide Try.prog W .any base t v := hval0
  have hW' := hW
  obtain ⟨p, q, hA0, hV, rfl, hfz, hnd⟩ := hW
  have hA : DataW.TrodAll enc Try.prog W 0 (fun _ => true) true Try.f6.params.toList args.toList ds p := hA0
  rw [Try.params6] at hA hval
  obtain ⟨v0, vs0, d0, ds0, p0, q0, hargs, rfl, rfl, h0, r0⟩ := trodAll_cons hA
  obtain ⟨v1, vs1, d1, ds1, p1, q1, rfl, rfl, rfl, h1, r1⟩ := trodAll_cons r0
  obtain ⟨v2, vs2, d2, ds2, p2, q2, rfl, rfl, rfl, h2, r2⟩ := trodAll_cons r1
  obtain ⟨rfl, rfl, rfl⟩ := trodAll_nil r2
  obtain rfl : args = #[v0, v1, v2] := by cases args; simp_all
  obtain ⟨rfl, rfl⟩ := trodVars_none hV
  have lt0 : ∀ x ∈ p0, x.block < W.heap.size := by obtain ⟨m, hm⟩ := h0; exact DataW.trod_lt m _ _ _ hm
  have k0 := h0
  obtain ⟨a0, e0, w0, z0⟩ := rd_open (rd_En) h0
  obtain ⟨n0, rfl, -⟩ := okWide_struct Try.underlying73 (hval 0 73 v0 rfl rfl)
  obtain rfl : n0 = (En.rep a0).toArray := by apply Array.ext'; simpa [Value.cells] using e0
  clear e0
  have lt1 : ∀ x ∈ p1, x.block < W.heap.size := by obtain ⟨m, hm⟩ := h1; exact DataW.trod_lt m _ _ _ hm
  have k1 := h1
  obtain ⟨a1, e1, w1, z1⟩ := rd_open (rd_St) h1
  obtain ⟨n1, rfl, -⟩ := okWide_struct Try.underlying71 (hval 1 71 v1 rfl rfl)
  obtain rfl : n1 = (St.rep a1).toArray := by apply Array.ext'; simpa [Value.cells] using e1
  clear e1
  have lt2 : ∀ x ∈ p2, x.block < W.heap.size := by obtain ⟨m, hm⟩ := h2; exact DataW.trod_lt m _ _ _ hm
  have k2 := h2
  obtain ⟨a2, e2, w2, z2⟩ := rd_open (rd_St) h2
  obtain ⟨n2, rfl, -⟩ := okWide_struct Try.underlying71 (hval 2 71 v2 rfl rfl)
  obtain rfl : n2 = (St.rep a2).toArray := by apply Array.ext'; simpa [Value.cells] using e2
  clear e2
  clear hA0 hval0
  refine (woken_walk W a0 a1 a2).mono fun r W' ⟨he, bel⟩ => ?_
  subst he
  exact ⟨_, rfl, _, _, _, [], _, [], hW', trodAll_mk1 (shut_bool Try.underlying4 _), (trodAll_cons_mk (Below.trod (show laidOutB Try.prog = true by kernel_rfl) (by kernel_rfl) (of_decide_eq_true (by kernel_rfl)) k0 bel lt0) (trodAll_cons_mk (Below.trod (show laidOutB Try.prog = true by kernel_rfl) (by kernel_rfl) (of_decide_eq_true (by kernel_rfl)) k1 bel lt1) (trodAll_cons_mk (Below.trod (show laidOutB Try.prog = true by kernel_rfl) (by kernel_rfl) (of_decide_eq_true (by kernel_rfl)) k2 bel lt2) trodAll_mk0))), rfl, bel.frame _, fun h => by cases h⟩

theorem entryWoken_holds : Rows.EntryWokenSaid :=
  OpenClaim.holds_of_wide 6 Try.f6 rfl rfl rfl rfl rfl rfl rfl ⟨rfl, rfl, rfl, rfl, rfl⟩ rfl rfl rfl rfl rfl (by kernel_rfl) Try.func6 (by kernel_rfl)
    (of_decide_eq_true (by kernel_rfl)) (by unfold Func.isWrapper; first | (rw [if_pos (by decide +kernel)]; kernel_rfl) | (rw [if_neg (by decide +kernel)]; exact ⟨rfl, rfl⟩))
    (fun os started H enc _ => lifted_entryWoken os started H enc)
#print axioms entryWoken_holds
end Go.Proofs.Yteggjhihpjjloaa
