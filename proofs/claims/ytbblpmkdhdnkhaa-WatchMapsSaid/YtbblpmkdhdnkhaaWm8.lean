/- The walk of WatchMaps. -/
import Derived.Test.YtbblpmkdhdnkhaaWm6
import Derived.Test.YtbblpmkdhdnkhaaWm7
import Derived.Test.YtbblpmkdhdnkhaaSo3
import Derived.Test.YtbblpmkdhdnkhaaAb
namespace Go.Proofs.Ytbblpmkdhdnkhaa
set_option linter.unusedSimpArgs false
set_option linter.unusedVariables false
set_option maxHeartbeats 4000000
open Go Go.Am Go.RowKit Go.ChangeShapes Go.WideShapes Go.ChangeAt
set_option maxRecDepth 100000
set_option maxHeartbeats 4000000
def St.rep (a : St) : List Value := (fun n : Int => [.int .i64 n]) a.c ++ (fun n : Int => [.int .i64 n]) a.s
structure St.ok (W : World) (a : St) : Prop where
  c : (fun n : Int => IntKind.i64.min ≤ n ∧ n ≤ IntKind.i64.max) a.c
  s : (fun n : Int => IntKind.i64.min ≤ n ∧ n ≤ IntKind.i64.max) a.s
set_option maxRecDepth 100000 in
theorem rd_St {H : Type} {enc : TypeId × Value → H} {W : World} {base : Nat} {held : Bool} : Rd enc Try.prog W base held 27 St.rep (St.ok W) := fun n cs x h => by
  obtain ⟨xs, n1, _, _, hlen, hx, hf⟩ := DataW.trod_struct Try.underlying27 h
  rw [show Try.prog.cellsOf 27 = 2 by kernel_rfl] at hlen
  have f0 : DataW.trod enc Try.prog W base (fun _ => true) held n1 3 ((cs.drop 0).take (Try.prog.cellsOf 3)) = xs[0]? := hf 0 _ rfl
  rw [show Try.prog.cellsOf 3 = 1 by kernel_rfl] at f0
  obtain ⟨y0, h0⟩ := at_some2 hx (by decide) f0
  obtain ⟨g0, a0, e0, w0⟩ := (rd_int Try.underlying3 : Rd _ _ _ _ _ _ (fun n : Int => [.int .i64 n]) (fun n : Int => IntKind.i64.min ≤ n ∧ n ≤ IntKind.i64.max)) _ _ _ h0
  have f1 : DataW.trod enc Try.prog W base (fun _ => true) held n1 3 ((cs.drop 1).take (Try.prog.cellsOf 3)) = xs[1]? := hf 1 _ rfl
  rw [show Try.prog.cellsOf 3 = 1 by kernel_rfl] at f1
  obtain ⟨y1, h1⟩ := at_some2 hx (by decide) f1
  obtain ⟨g1, a1, e1, w1⟩ := (rd_int Try.underlying3 : Rd _ _ _ _ _ _ (fun n : Int => [.int .i64 n]) (fun n : Int => IntKind.i64.min ≤ n ∧ n ≤ IntKind.i64.max)) _ _ _ h1
  match cs, hlen with
  | [c0, c1], _ =>
    simp [Sl.rep, St.rep] at e0 g0
    simp [Sl.rep, St.rep] at e1 g1
    exact ⟨by simp [*, Value.oneCell'], ⟨a0, a1⟩, by simp [Sl.rep, St.rep, *], ⟨w0, w1⟩⟩
def En.rep (a : En) : List Value := (fun s : ByteArray => [.string s]) a.key ++ (fun s : ByteArray => [.string s]) a.val ++ (fun b : Bool => [.bool b]) a.dead ++ (St.rep) a.st ++ (St.rep) a.act ++ (fun n : Int => [.int .i64 n]) a.keep ++ (fun n : Int => [.int .i64 n]) a.age
structure En.ok (W : World) (a : En) : Prop where
  key : (fun s : ByteArray => s.size ≤ maxLen) a.key
  val : (fun s : ByteArray => s.size ≤ maxLen) a.val
  dead : (fun _ : Bool => True) a.dead
  st : (St.ok W) a.st
  act : (St.ok W) a.act
  keep : (fun n : Int => IntKind.i64.min ≤ n ∧ n ≤ IntKind.i64.max) a.keep
  age : (fun n : Int => IntKind.i64.min ≤ n ∧ n ≤ IntKind.i64.max) a.age
set_option maxRecDepth 100000 in
theorem rd_En {H : Type} {enc : TypeId × Value → H} {W : World} {base : Nat} {held : Bool} : Rd enc Try.prog W base held 29 En.rep (En.ok W) := fun n cs x h => by
  obtain ⟨xs, n1, _, _, hlen, hx, hf⟩ := DataW.trod_struct Try.underlying29 h
  rw [show Try.prog.cellsOf 29 = 9 by kernel_rfl] at hlen
  have f0 : DataW.trod enc Try.prog W base (fun _ => true) held n1 9 ((cs.drop 0).take (Try.prog.cellsOf 9)) = xs[0]? := hf 0 _ rfl
  rw [show Try.prog.cellsOf 9 = 1 by kernel_rfl] at f0
  obtain ⟨y0, h0⟩ := at_some2 hx (by decide) f0
  obtain ⟨g0, a0, e0, w0⟩ := (rd_string Try.underlying9 : Rd _ _ _ _ _ _ (fun s : ByteArray => [.string s]) (fun s : ByteArray => s.size ≤ maxLen)) _ _ _ h0
  have f1 : DataW.trod enc Try.prog W base (fun _ => true) held n1 9 ((cs.drop 1).take (Try.prog.cellsOf 9)) = xs[1]? := hf 1 _ rfl
  rw [show Try.prog.cellsOf 9 = 1 by kernel_rfl] at f1
  obtain ⟨y1, h1⟩ := at_some2 hx (by decide) f1
  obtain ⟨g1, a1, e1, w1⟩ := (rd_string Try.underlying9 : Rd _ _ _ _ _ _ (fun s : ByteArray => [.string s]) (fun s : ByteArray => s.size ≤ maxLen)) _ _ _ h1
  have f2 : DataW.trod enc Try.prog W base (fun _ => true) held n1 4 ((cs.drop 2).take (Try.prog.cellsOf 4)) = xs[2]? := hf 2 _ rfl
  rw [show Try.prog.cellsOf 4 = 1 by kernel_rfl] at f2
  obtain ⟨y2, h2⟩ := at_some2 hx (by decide) f2
  obtain ⟨g2, a2, e2, w2⟩ := (rd_bool Try.underlying4 : Rd _ _ _ _ _ _ (fun b : Bool => [.bool b]) (fun _ : Bool => True)) _ _ _ h2
  have f3 : DataW.trod enc Try.prog W base (fun _ => true) held n1 27 ((cs.drop 3).take (Try.prog.cellsOf 27)) = xs[3]? := hf 3 _ rfl
  rw [show Try.prog.cellsOf 27 = 2 by kernel_rfl] at f3
  obtain ⟨y3, h3⟩ := at_some2 hx (by decide) f3
  obtain ⟨g3, a3, e3, w3⟩ := (rd_St : Rd _ _ _ _ _ _ (St.rep) (St.ok W)) _ _ _ h3
  have f4 : DataW.trod enc Try.prog W base (fun _ => true) held n1 27 ((cs.drop 5).take (Try.prog.cellsOf 27)) = xs[4]? := hf 4 _ rfl
  rw [show Try.prog.cellsOf 27 = 2 by kernel_rfl] at f4
  obtain ⟨y4, h4⟩ := at_some2 hx (by decide) f4
  obtain ⟨g4, a4, e4, w4⟩ := (rd_St : Rd _ _ _ _ _ _ (St.rep) (St.ok W)) _ _ _ h4
  have f5 : DataW.trod enc Try.prog W base (fun _ => true) held n1 3 ((cs.drop 7).take (Try.prog.cellsOf 3)) = xs[5]? := hf 5 _ rfl
  rw [show Try.prog.cellsOf 3 = 1 by kernel_rfl] at f5
  obtain ⟨y5, h5⟩ := at_some2 hx (by decide) f5
  obtain ⟨g5, a5, e5, w5⟩ := (rd_int Try.underlying3 : Rd _ _ _ _ _ _ (fun n : Int => [.int .i64 n]) (fun n : Int => IntKind.i64.min ≤ n ∧ n ≤ IntKind.i64.max)) _ _ _ h5
  have f6 : DataW.trod enc Try.prog W base (fun _ => true) held n1 3 ((cs.drop 8).take (Try.prog.cellsOf 3)) = xs[6]? := hf 6 _ rfl
  rw [show Try.prog.cellsOf 3 = 1 by kernel_rfl] at f6
  obtain ⟨y6, h6⟩ := at_some2 hx (by decide) f6
  obtain ⟨g6, a6, e6, w6⟩ := (rd_int Try.underlying3 : Rd _ _ _ _ _ _ (fun n : Int => [.int .i64 n]) (fun n : Int => IntKind.i64.min ≤ n ∧ n ≤ IntKind.i64.max)) _ _ _ h6
  match cs, hlen with
  | [c0, c1, c2, c3, c4, c5, c6, c7, c8], _ =>
    simp [Sl.rep, St.rep, En.rep] at e0 g0
    simp [Sl.rep, St.rep, En.rep] at e1 g1
    simp [Sl.rep, St.rep, En.rep] at e2 g2
    simp [Sl.rep, St.rep, En.rep] at e3 g3
    simp [Sl.rep, St.rep, En.rep] at e4 g4
    simp [Sl.rep, St.rep, En.rep] at e5 g5
    simp [Sl.rep, St.rep, En.rep] at e6 g6
    exact ⟨by simp [*, Value.oneCell'], ⟨a0, a1, a2, a3, a4, a5, a6⟩, by simp [Sl.rep, St.rep, En.rep, *], ⟨w0, w1, w2, w3, w4, w5, w6⟩⟩
/- quidnunc/quidnunclaw26.WatchMaps -/
noncomputable def c6_1 : ACode := .region false [⟨some 4, .move, [.c (.val (.bool false))], none⟩] [] [] [0, 1] false [] []
noncomputable def c6_4 : ACode := .region false [⟨some 13, .call 8, [], none⟩,
  ⟨some 14, .un .not, [.t 13], none⟩,
  ⟨some 15, .move, [.t 14], none⟩,
  ⟨some 16, .move, [.t 0], some (some 15, false)⟩,
  ⟨some 17, .call 9, [.t 16], some (some 15, false)⟩,
  ⟨some 18, .un .not, [.t 17], some (some 15, false)⟩,
  ⟨some 19, .pick, [.t 15, .c (.val (.bool true)), .t 18], none⟩,
  ⟨some 20, .move, [.t 19], none⟩,
  ⟨some 21, .move, [.t 1], some (some 20, false)⟩,
  ⟨some 22, .call 9, [.t 21], some (some 20, false)⟩,
  ⟨some 23, .un .not, [.t 22], some (some 20, false)⟩,
  ⟨some 24, .pick, [.t 20, .c (.val (.bool true)), .t 23], none⟩] [] [] [0, 1, 24] true [] []
noncomputable def c6_7 : ACode := .region false [⟨some 25, .call 8, [], none⟩,
  ⟨some 4, .move, [.t 25], none⟩] [] [] [4] true [] []
noncomputable def c6_6 : ACode := .seq c6_7 .ret
noncomputable def c6_5 : ACode := .cond (.t 24) c6_6 .skip
noncomputable def c6_3 : ACode := .seq c6_4 c6_5
noncomputable def c6_9 : ACode := .region false [⟨some 27, .move, [.t 0], none⟩,
  ⟨some 28, .call 12, [.t 27], none⟩,
  ⟨some 29, .move, [.t 1], none⟩,
  ⟨some 30, .call 12, [.t 29], none⟩,
  ⟨some 31, .call 25, [.t 28, .t 30], none⟩,
  ⟨some 26, .move, [.t 31], none⟩,
  ⟨some 32, .ext 0, [.t 26], none⟩,
  ⟨some 33, .ext 1, [.t 26], none⟩,
  ⟨some 5, .move, [.t 32], none⟩,
  ⟨some 6, .move, [.t 33], none⟩] [] [] [0, 1, 5, 6] true [] []
noncomputable def c6_11 : ACode := .region false [⟨some 35, .move, [.t 0], none⟩,
  ⟨some 36, .move, [.t 1], none⟩,
  ⟨some 37, .call 26, [.t 35, .t 36], none⟩,
  ⟨some 34, .move, [.t 37], none⟩,
  ⟨some 38, .ext 0, [.t 34], none⟩,
  ⟨some 39, .ext 1, [.t 34], none⟩,
  ⟨some 7, .move, [.t 38], none⟩,
  ⟨some 8, .move, [.t 39], none⟩] [] [] [0, 1, 5, 6, 7, 8] true [] []
noncomputable def c6_14 : ACode := .region false [⟨some 40, .move, [.t 5], none⟩,
  ⟨some 41, .move, [.t 7], none⟩,
  ⟨some 42, .bin .neq, [.t 40, .t 41], none⟩,
  ⟨some 43, .move, [.t 42], none⟩,
  ⟨some 44, .move, [.t 6], some (some 43, false)⟩,
  ⟨some 45, .move, [.t 8], some (some 43, false)⟩,
  ⟨some 46, .eqB true, [.t 44, .t 45], some (some 43, false)⟩,
  ⟨some 47, .pick, [.t 43, .c (.val (.bool true)), .t 46], none⟩,
  ⟨some 48, .move, [.t 47], none⟩,
  ⟨some 49, .move, [.t 0], some (some 48, false)⟩,
  ⟨some 50, .call 12, [.t 49], some (some 48, false)⟩,
  ⟨some 51, .move, [.t 1], some (some 48, false)⟩,
  ⟨some 52, .call 12, [.t 51], some (some 48, false)⟩,
  ⟨some 53, .call 24, [.t 50, .t 52], some (some 48, false)⟩,
  ⟨some 54, .move, [.t 0], some (some 48, false)⟩,
  ⟨some 55, .move, [.t 1], some (some 48, false)⟩,
  ⟨some 56, .call 27, [.t 54, .t 55], some (some 48, false)⟩,
  ⟨some 57, .eqB true, [.t 53, .t 56], some (some 48, false)⟩,
  ⟨some 58, .pick, [.t 48, .c (.val (.bool true)), .t 57], none⟩,
  ⟨some 59, .move, [.t 58], none⟩,
  ⟨some 60, .move, [.t 0], some (some 59, false)⟩,
  ⟨some 61, .call 12, [.t 60], some (some 59, false)⟩,
  ⟨some 62, .move, [.t 0], some (some 59, false)⟩,
  ⟨some 63, .call 12, [.t 62], some (some 59, false)⟩,
  ⟨some 64, .call 24, [.t 61, .t 63], some (some 59, false)⟩,
  ⟨some 65, .un .not, [.t 64], some (some 59, false)⟩,
  ⟨some 66, .pick, [.t 59, .c (.val (.bool true)), .t 65], none⟩] [] [] [0, 66] true [] []
noncomputable def c6_17 : ACode := .region false [⟨some 4, .move, [.c (.val (.bool false))], none⟩] [] [] [4] false [] []
noncomputable def c6_16 : ACode := .seq c6_17 .ret
noncomputable def c6_15 : ACode := .cond (.t 66) c6_16 .skip
noncomputable def c6_13 : ACode := .seq c6_14 c6_15
noncomputable def c6_19 : ACode := .region false [⟨some 67, .move, [.t 0], none⟩,
  ⟨some 68, .call 12, [.t 67], none⟩,
  ⟨some 69, .call 28, [.t 68], none⟩,
  ⟨some 9, .move, [.t 69], none⟩,
  ⟨some 10, .move, [.c (.val (.int .i64 0))], none⟩] [] [] [0, 9, 10] true [] []
noncomputable def c6_22 : ACode := .region false [⟨some 70, .move, [.t 0], none⟩,
  ⟨some 71, .len, [.t 70], none⟩,
  ⟨some 72, .move, [.c (.val (.int .i64 0))], none⟩] [] [] [0, 9, 10, 70, 71, 72] false [] []
noncomputable def c6_26 : ACode := .region false [⟨some 73, .bin .lss, [.t 72, .t 71], none⟩] [] [] [0, 9, 10, 70, 71, 72, 73] false [] []
noncomputable def c6_28 : ACode := .cond (.t 73) .skip (.exit 0)
noncomputable def c6_32 : ACode := .region false [⟨some 74, .ixS 9, [.t 70, .t 72], none⟩,
  ⟨some 75, .load true 9, [.t 74], none⟩,
  ⟨some 12, .alloc [(.string ⟨#[]⟩), (.string ⟨#[]⟩), (.bool false), (.int .i64 0), (.int .i64 0), (.int .i64 0), (.int .i64 0), (.int .i64 0), (.int .i64 0)], [], none⟩,
  ⟨none, .store 9, [.t 12, .t 75], none⟩] [] [] [0, 9, 10, 12, 70, 71, 72] true [] []
noncomputable def c6_35 : ACode := .region false [⟨some 76, .addr 2, [.t 12], none⟩,
  ⟨some 77, .load false 1, [.t 76], none⟩] [] [] [0, 9, 10, 12, 70, 71, 72, 77] false [] []
noncomputable def c6_36 : ACode := .cond (.t 77) (.exit 1) .skip
noncomputable def c6_34 : ACode := .seq c6_35 c6_36
noncomputable def c6_39 : ACode := .region true [⟨some 78, .move, [.t 10], none⟩,
  ⟨some 79, .move, [.t 9], none⟩,
  ⟨some 80, .len, [.t 79], none⟩,
  ⟨some 81, .bin .geq, [.t 78, .t 80], none⟩,
  ⟨some 82, .move, [.t 81], none⟩,
  ⟨some 83, .move, [.t 9], some (some 82, false)⟩,
  ⟨some 84, .move, [.t 10], some (some 82, false)⟩,
  ⟨some 85, .ixS 2, [.t 83, .t 84], some (some 82, false)⟩,
  ⟨some 86, .addr 0, [.t 85], some (some 82, false)⟩,
  ⟨some 87, .load false 1, [.t 86], some (some 82, false)⟩,
  ⟨some 88, .addr 0, [.t 12], some (some 82, false)⟩,
  ⟨some 89, .load false 1, [.t 88], some (some 82, false)⟩,
  ⟨some 90, .bin .neq, [.t 87, .t 89], some (some 82, false)⟩,
  ⟨some 91, .pick, [.t 82, .c (.val (.bool true)), .t 90], none⟩,
  ⟨some 92, .move, [.t 91], none⟩,
  ⟨some 93, .move, [.t 9], some (some 92, false)⟩,
  ⟨some 94, .move, [.t 10], some (some 92, false)⟩,
  ⟨some 95, .ixS 2, [.t 93, .t 94], some (some 92, false)⟩,
  ⟨some 96, .addr 1, [.t 95], some (some 92, false)⟩,
  ⟨some 97, .load false 1, [.t 96], some (some 92, false)⟩,
  ⟨some 98, .addr 1, [.t 12], some (some 92, false)⟩,
  ⟨some 99, .load false 1, [.t 98], some (some 92, false)⟩,
  ⟨some 100, .bin .neq, [.t 97, .t 99], some (some 92, false)⟩,
  ⟨some 101, .pick, [.t 92, .c (.val (.bool true)), .t 100], none⟩] [] [] [0, 9, 10, 70, 71, 72, 101] false [] []
noncomputable def c6_42 : ACode := .region false [⟨some 4, .move, [.c (.val (.bool false))], none⟩] [] [] [4] false [] []
noncomputable def c6_41 : ACode := .seq c6_42 .ret
noncomputable def c6_40 : ACode := .cond (.t 101) c6_41 .skip
noncomputable def c6_38 : ACode := .seq c6_39 c6_40
noncomputable def c6_43 : ACode := .region false [⟨some 102, .move, [.t 10], none⟩,
  ⟨some 103, .bin .add, [.t 102, .c (.val (.int .i64 1))], none⟩,
  ⟨some 10, .move, [.t 103], none⟩] [] [] [0, 9, 10, 70, 71, 72] false [] []
noncomputable def c6_37 : ACode := .seq c6_38 c6_43
noncomputable def c6_33 : ACode := .seq c6_34 c6_37
noncomputable def c6_31 : ACode := .seq c6_32 c6_33
noncomputable def c6_30 : ACode := .block 1 c6_31
noncomputable def c6_44 : ACode := .region false [⟨some 104, .bin .add, [.t 72, .c (.val (.int .i64 1))], none⟩,
  ⟨some 72, .move, [.t 104], none⟩] [] [] [0, 9, 10, 70, 71, 72] false [] []
noncomputable def c6_29 : ACode := .seq c6_30 c6_44
noncomputable def c6_27 : ACode := .seq c6_28 c6_29
noncomputable def c6_25 : ACode := .seq c6_26 c6_27
noncomputable def c6_24 : ACode := .loop c6_25
noncomputable def c6_23 : ACode := .block 0 c6_24
noncomputable def c6_21 : ACode := .seq c6_22 c6_23
noncomputable def c6_46 : ACode := .region false [⟨some 105, .move, [.t 10], none⟩,
  ⟨some 106, .move, [.t 9], none⟩,
  ⟨some 107, .len, [.t 106], none⟩,
  ⟨some 108, .bin .eql, [.t 105, .t 107], none⟩,
  ⟨some 109, .move, [.t 108], none⟩,
  ⟨some 110, .move, [.t 0], some (some 109, true)⟩,
  ⟨some 111, .call 12, [.t 110], some (some 109, true)⟩,
  ⟨some 112, .call 23, [.t 111], some (some 109, true)⟩,
  ⟨some 113, .call 30, [.t 112], some (some 109, true)⟩,
  ⟨some 114, .move, [.t 0], some (some 109, true)⟩,
  ⟨some 115, .call 31, [.t 114], some (some 109, true)⟩,
  ⟨some 116, .call 29, [.t 113, .t 115], some (some 109, true)⟩,
  ⟨some 117, .pick, [.t 109, .t 116, .c (.val (.bool false))], none⟩,
  ⟨some 4, .move, [.t 117], none⟩] [] [] [4] true [] []
noncomputable def c6_45 : ACode := .seq c6_46 .ret
noncomputable def c6_20 : ACode := .seq c6_21 c6_45
noncomputable def c6_18 : ACode := .seq c6_19 c6_20
noncomputable def c6_12 : ACode := .seq c6_13 c6_18
noncomputable def c6_10 : ACode := .seq c6_11 c6_12
noncomputable def c6_8 : ACode := .seq c6_9 c6_10
noncomputable def c6_2 : ACode := .seq c6_3 c6_8
noncomputable def c6_0 : ACode := .seq c6_1 c6_2
noncomputable def code6 : Code := (Try.f6.body).getD .skip
theorem c6_ok : compC Try.prog 118 code6 = some (strip c6_0) := by kernel_rfl
theorem res6_ok : Try.f6.results.toList.mapM (resC Try.prog) = some [(4, none)] := by kernel_rfl
theorem fellR_two (was is : List En) : ∃ k b, fellR was is = .tup [Str k, Bo b] := by
  unfold fellR
  split
  · split
    · exact ⟨_, _, rfl⟩
    · exact ⟨_, _, rfl⟩
  · exact ⟨_, _, rfl⟩
theorem wmaps_rest (W : World) (o : Nat) (l : List En) (hl40 : l.length ≤ 40) :
    AWpA Try.prog 118 (topN W) c6_24 (ABlock 0 (AThen (fun x => AWpA Try.prog 118 (topN W) c6_45 (TopPost [(4, none)]) x) (TopPost [(4, none)])))
      (Am.mk [(0, .sl 0 o l.length 9 none), (9, .sl 1 0 (liveL l).length 2 none), (10, I 0), (70, .sl 0 o l.length 9 none), (71, I l.length), (72, I 0)] none0 (zipI 0 [.cells true (Re o l), .cells false (Rl (liveL l))]) gone0 [AObj.cells true (Re o l), AObj.cells false (Rl (liveL l))].length) := by
  have hr := re_ren
  have hrl := rl_ren
  have hL := re_len o l
  have hL2 := rl_len (liveL l)
  have hbe : ∀ x : ByteArray, (x != x) = false := fun x => by simp [bne, ba_dec]
  (try simp (maxSteps := 9999999) (disch := omega) only [go_sem])
  (apply AWpA.loopL (fun i : Nat => [(0, .sl 0 o l.length 9 none), (9, .sl 1 0 (liveL l).length 2 none), (10, I (liveL (l.take i)).length), (70, .sl 0 o l.length 9 none), (71, I l.length), (72, I i)]) (fun i => [.cells true (Re o l), .cells false (Rl (liveL l))]) (fun i => l.length - i) (fun i => i ≤ l.length) (0) [0, 1]; rotate_left; (focus (simp (maxSteps := 9999999) (disch := omega) only [go_sem, hr, hrl, liveL, List.take_zero, List.filter_nil, List.length_nil]; (try (repeat' (first | done | trivial | rfl | exact leAs_rfl _ | decide | (refine And.intro ?_ ?_) | (simp; done) | omega | (simp; decide)))))); rotate_right)
  · exact Nat.zero_le _
  rintro i hi
  (try simp only at hi)
  have hll := live_le (l.take i)
  rw [List.length_take] at hll
  by_cases hin : i < l.length
  · have g1 : ((i : Int) < (l.length : Int)) = True := eq_true (by omega)
    have hat := re_at o l i hin
    have hp := congrArg List.length (live_put l i hin)
    have hlv := live_at l i hin
    generalize l[i] = x at *
    cases hd : x.dead with
    | true =>
      rw [if_pos hd] at hp
      clear hlv
      (try simp (maxSteps := 9999999) (disch := omega) only [go_sem])
      (have k9 := And.intro @hr (And.intro @hrl (And.intro @hL (And.intro @g1 (And.intro @hat (And.intro @hd (k0)))))); (repeat' (first | refine AWpA.seq ?_ | refine AWpA.block ?_ | (with_reducible refine CondP.tt ?_) | (with_reducible refine CondP.ff ?_) | refine AWpA.cg ?_ | ((first | refine AWpA.rg ?_ | refine AWpA.dg [] [] follows ?_ | refine TailK.tg ?_ | refine AWpA.skip ?_ | refine AWpA.exit ?_ | refine AWpA.ret ?_ | (with_reducible refine ARoundsA.succ ?_) | ((first | refine Runs.gkt (fun h9 => ?_) | refine Runs.gkf (fun h9 => ?_) | refine Runs.gnt (fun h9 => ?_) | refine Runs.gnf (fun h9 => ?_) | refine CondP.gt (fun h9 => ?_) | refine CondP.gf (fun h9 => ?_) | refine CondP.gnt (fun h9 => ?_) | refine CondP.gnf (fun h9 => ?_)); (try simp only [h9]); clear h9)); (try simp (maxSteps := 9999999) (disch := omega) only [go_sem, k9]); (try refine cnd ?_)) | ((first | refine CondP.split (fun hif => ?_) (fun hif => ?_) | refine Runs.part (fun hif => ?_) (fun hif => ?_)) <;> ((try simp only [hif]); (try simp only [BL] at hif); (try (have h9 : _ = true := hif; simp only [h9])); (try (have h9 : _ = false := hif; simp only [h9])); (try simp (maxSteps := 9999999) (disch := omega) only [go_sem, k9]); (try refine cnd ?_); (try (exfalso; omega; done)))))); (all_goals (try clear k9)))
      (apply Back.to (i + 1) [0, 1]; (focus ((try simp (maxSteps := 9999999) (disch := omega) only [go_sem, hr, hrl, hp]); first | done | omega)); rotate_left; (focus (simp (maxSteps := 9999999) (disch := omega) only [go_sem, hr, hrl, hp]; (try (repeat' (first | done | trivial | rfl | exact leAs_rfl _ | decide | (refine And.intro ?_ ?_) | (simp; done) | omega | (simp; decide)))))))
      omega
    | false =>
      rw [if_neg (by simp [hd]), List.length_append, List.length_singleton] at hp
      obtain ⟨h2, h3⟩ := hlv hd
      have hrow := rl_at (liveL l) (liveL (l.take i)).length h2
      rw [h3] at hrow
      have hc1 : (Rl (liveL l)).getD ((liveL (l.take i)).length * 2) AV.bad = Str x.key := cell_at (q := 0) hrow (by decide)
      have hc2 : (Rl (liveL l)).getD ((liveL (l.take i)).length * 2 + 1) AV.bad = Str x.val := cell_at (q := 1) hrow (by decide)
      have g2 : (((liveL l).length : Int) ≤ ((liveL (l.take i)).length : Int)) = False := eq_false (by omega)
      clear hrow h3
      generalize (liveL (l.take i)).length = c at *
      (try simp (maxSteps := 9999999) (disch := omega) only [go_sem])
      (have k9 := And.intro @hr (And.intro @hrl (And.intro @hL (And.intro @hL2 (And.intro @g1 (And.intro @g2 (And.intro @hat (And.intro @hd (And.intro @hc1 (And.intro @hc2 (And.intro @hbe (k0))))))))))); (repeat' (first | refine AWpA.seq ?_ | refine AWpA.block ?_ | (with_reducible refine CondP.tt ?_) | (with_reducible refine CondP.ff ?_) | refine AWpA.cg ?_ | ((first | refine AWpA.rg ?_ | refine AWpA.dg [] [] follows ?_ | refine TailK.tg ?_ | refine AWpA.skip ?_ | refine AWpA.exit ?_ | refine AWpA.ret ?_ | (with_reducible refine ARoundsA.succ ?_) | ((first | refine Runs.gkt (fun h9 => ?_) | refine Runs.gkf (fun h9 => ?_) | refine Runs.gnt (fun h9 => ?_) | refine Runs.gnf (fun h9 => ?_) | refine CondP.gt (fun h9 => ?_) | refine CondP.gf (fun h9 => ?_) | refine CondP.gnt (fun h9 => ?_) | refine CondP.gnf (fun h9 => ?_)); (try simp only [h9]); clear h9)); (try simp (maxSteps := 9999999) (disch := omega) only [go_sem, k9]); (try refine cnd ?_)) | ((first | refine CondP.split (fun hif => ?_) (fun hif => ?_) | refine Runs.part (fun hif => ?_) (fun hif => ?_)) <;> ((try simp only [hif]); (try simp only [BL] at hif); (try (have h9 : _ = true := hif; simp only [h9])); (try (have h9 : _ = false := hif; simp only [h9])); (try simp (maxSteps := 9999999) (disch := omega) only [go_sem, k9]); (try refine cnd ?_); (try (exfalso; omega; done)))))); (all_goals (try clear k9)))
      (apply Back.to (i + 1) [0, 1]; (focus ((try simp (maxSteps := 9999999) (disch := omega) only [go_sem, hr, hrl, hp]); first | done | omega)); rotate_left; (focus (simp (maxSteps := 9999999) (disch := omega) only [go_sem, hr, hrl, hp]; (try (repeat' (first | done | trivial | rfl | exact leAs_rfl _ | decide | (refine And.intro ?_ ?_) | (simp; done) | omega | (simp; decide)))))))
      omega
  · obtain rfl : i = l.length := by omega
    have g1 : ((l.length : Int) < (l.length : Int)) = False := eq_false (by omega)
    have g2 := beq_self_eq_true ((liveL l).length : Int)
    have hml : (mapE l).length ≤ 40 := by rw [← map_same]; exact Nat.le_trans (mapR_len l.length (Nat.le_refl _)) hl40
    have o1 := ofs_any o l (by omega)
    have m1 := watchmap_any 0 l (by omega)
    have t1 := wtos_any 0 (mapE l) (by omega)
    have r1 := rmap_any o l (by omega)
    rw [map_same] at r1
    have s1 := wsame_any 0 0 (mapE l) (by omega)
    rw [List.take_length]
    (try simp (maxSteps := 9999999) (disch := omega) only [go_sem])
    (have k9 := And.intro @hr (And.intro @hrl (And.intro @g1 (And.intro @g2 (k0)))); (repeat' (first | refine AWpA.seq ?_ | refine AWpA.block ?_ | (with_reducible refine CondP.tt ?_) | (with_reducible refine CondP.ff ?_) | refine AWpA.cg ?_ | ((first | refine AWpA.rg ?_ | refine AWpA.dg [] [] follows ?_ | refine TailK.tg ?_ | refine AWpA.skip ?_ | refine AWpA.exit ?_ | refine AWpA.ret ?_ | (with_reducible refine ARoundsA.succ ?_) | ((first | refine Runs.gkt (fun h9 => ?_) | refine Runs.gkf (fun h9 => ?_) | refine Runs.gnt (fun h9 => ?_) | refine Runs.gnf (fun h9 => ?_) | refine CondP.gt (fun h9 => ?_) | refine CondP.gf (fun h9 => ?_) | refine CondP.gnt (fun h9 => ?_) | refine CondP.gnf (fun h9 => ?_)); (try simp only [h9]); clear h9) | refine CallG.pg [0] (o1) ?_ | refine CallG.pg [114] (m1) ?_ | refine CallG.pg [131] (t1) ?_ | refine CallG.pg [0] (r1) ?_ | refine CallG.pg [146, 178] (s1) ?_ | refine CallG.dg [0] (o1) ?_ | refine CallG.dg [114] (m1) ?_ | refine CallG.dg [131] (t1) ?_ | refine CallG.dg [0] (r1) ?_ | refine CallG.dg [146, 178] (s1) ?_); (try simp (maxSteps := 9999999) (disch := omega) only [go_sem, k9]); (try refine cnd ?_)) | ((first | refine CondP.split (fun hif => ?_) (fun hif => ?_) | refine Runs.part (fun hif => ?_) (fun hif => ?_)) <;> ((try simp only [hif]); (try simp only [BL] at hif); (try (have h9 : _ = true := hif; simp only [h9])); (try (have h9 : _ = false := hif; simp only [h9])); (try simp (maxSteps := 9999999) (disch := omega) only [go_sem, k9]); (try refine cnd ?_); (try (exfalso; omega; done)))))); (all_goals (try clear k9)))
    all_goals (refine TopPost.of (by first | exact .inl rfl | exact .inr rfl) (by (try simp (maxSteps := 9999999) (disch := omega) only [go_sem]); rfl) ?_; (try simp (maxSteps := 9999999) (disch := omega) only [go_sem]); (try (first | trivial | decide | (simp; done))))
theorem watchMaps_walk (W : World) (sl sm : Sl En) (hz : Sl.ok W 9 En.rep (En.ok W) sl) (hy : Sl.ok W 9 En.rep (En.ok W) sm) :
    Calls Try.prog 6 #[.slice sl.ad sl.l.length sl.cap, .slice sm.ad sm.l.length sm.cap] W fun e W' => e = .returned (.bool true) ∧ Below W.heap.size W W' := by
  obtain ⟨ad, o, cap, l⟩ := sl
  obtain ⟨hz, -, hl⟩ := hz
  have hl : l.length ≤ 9223372036854775807 := by simpa [maxLen] using hl
  simp only at hz
  obtain ⟨ad', o', cap', m⟩ := sm
  obtain ⟨hy, -, hm⟩ := hy
  have hm : m.length ≤ 9223372036854775807 := by simpa [maxLen] using hm
  simp only at hy
  have hr := re_ren
  have hrl := rl_ren
  have hf := few26_any o l hl
  have hf2 := few26_any o' m hm
  have sp := speaks26_any
  refine top_call c6_ok Try.func6 rfl Try.ntmps6 res6_ok [ .val (.slice ad l.length cap), .val (.slice ad' m.length cap')] (by simp) (by (repeat' (first | exact VRs_nil' _ | exact VR_val' _ _ | (refine VRs_cons' ?_ ?_) | (refine VR_agg' (by first | rfl | assumption) ?_; first | assumption | simp [Value.oneCell', St.rep, En.rep])))) ?_; try simp (maxSteps := 9999999) (disch := omega) only [go_sem]
  refine AWpA.thawT 0 EnL hz (fun x => by simp [En.rep, St.rep]) rfl ?_
  refine AWpA.thawT 1 EnL hy (fun x => by simp [En.rep, St.rep]) rfl ?_
  clear hz hy
  cases hs : fewW l with
  | false =>
    rw [hs] at hf
    (have k9 := And.intro @hr (k0); (repeat' (first | refine AWpA.seq ?_ | refine AWpA.block ?_ | (with_reducible refine CondP.tt ?_) | (with_reducible refine CondP.ff ?_) | refine AWpA.cg ?_ | ((first | refine AWpA.rg ?_ | refine AWpA.dg [] [] follows ?_ | refine TailK.tg ?_ | refine AWpA.skip ?_ | refine AWpA.exit ?_ | refine AWpA.ret ?_ | (with_reducible refine ARoundsA.succ ?_) | ((first | refine Runs.gkt (fun h9 => ?_) | refine Runs.gkf (fun h9 => ?_) | refine Runs.gnt (fun h9 => ?_) | refine Runs.gnf (fun h9 => ?_) | refine CondP.gt (fun h9 => ?_) | refine CondP.gf (fun h9 => ?_) | refine CondP.gnt (fun h9 => ?_) | refine CondP.gnf (fun h9 => ?_)); (try simp only [h9]); clear h9) | refine CallG.pg [] (sp) ?_ | refine CallG.pg [0] (hf) ?_ | refine CallG.dg [] (sp) ?_ | refine CallG.dg [0] (hf) ?_); (try simp (maxSteps := 9999999) (disch := omega) only [go_sem, k9]); (try refine cnd ?_)) | ((first | refine CondP.split (fun hif => ?_) (fun hif => ?_) | refine Runs.part (fun hif => ?_) (fun hif => ?_)) <;> ((try simp only [hif]); (try simp only [BL] at hif); (try (have h9 : _ = true := hif; simp only [h9])); (try (have h9 : _ = false := hif; simp only [h9])); (try simp (maxSteps := 9999999) (disch := omega) only [go_sem, k9]); (try refine cnd ?_); (try (exfalso; omega; done)))))); (all_goals (try clear k9)))
    (refine TopPost.of (by first | exact .inl rfl | exact .inr rfl) (by (try simp (maxSteps := 9999999) (disch := omega) only [go_sem]); rfl) ?_; (try simp (maxSteps := 9999999) (disch := omega) only [go_sem]); (try (first | trivial | decide | (simp; done))))
  | true =>
  cases hs2 : fewW m with
  | false =>
    rw [hs] at hf
    rw [hs2] at hf2
    (have k9 := And.intro @hr (k0); (repeat' (first | refine AWpA.seq ?_ | refine AWpA.block ?_ | (with_reducible refine CondP.tt ?_) | (with_reducible refine CondP.ff ?_) | refine AWpA.cg ?_ | ((first | refine AWpA.rg ?_ | refine AWpA.dg [] [] follows ?_ | refine TailK.tg ?_ | refine AWpA.skip ?_ | refine AWpA.exit ?_ | refine AWpA.ret ?_ | (with_reducible refine ARoundsA.succ ?_) | ((first | refine Runs.gkt (fun h9 => ?_) | refine Runs.gkf (fun h9 => ?_) | refine Runs.gnt (fun h9 => ?_) | refine Runs.gnf (fun h9 => ?_) | refine CondP.gt (fun h9 => ?_) | refine CondP.gf (fun h9 => ?_) | refine CondP.gnt (fun h9 => ?_) | refine CondP.gnf (fun h9 => ?_)); (try simp only [h9]); clear h9) | refine CallG.pg [] (sp) ?_ | refine CallG.pg [0] (hf) ?_ | refine CallG.pg [1] (hf2) ?_ | refine CallG.dg [] (sp) ?_ | refine CallG.dg [0] (hf) ?_ | refine CallG.dg [1] (hf2) ?_); (try simp (maxSteps := 9999999) (disch := omega) only [go_sem, k9]); (try refine cnd ?_)) | ((first | refine CondP.split (fun hif => ?_) (fun hif => ?_) | refine Runs.part (fun hif => ?_) (fun hif => ?_)) <;> ((try simp only [hif]); (try simp only [BL] at hif); (try (have h9 : _ = true := hif; simp only [h9])); (try (have h9 : _ = false := hif; simp only [h9])); (try simp (maxSteps := 9999999) (disch := omega) only [go_sem, k9]); (try refine cnd ?_); (try (exfalso; omega; done)))))); (all_goals (try clear k9)))
    (refine TopPost.of (by first | exact .inl rfl | exact .inr rfl) (by (try simp (maxSteps := 9999999) (disch := omega) only [go_sem]); rfl) ?_; (try simp (maxSteps := 9999999) (disch := omega) only [go_sem]); (try (first | trivial | decide | (simp; done))))
  | true =>
  rw [hs] at hf
  rw [hs2] at hf2
  have hl40 : l.length ≤ 40 := by unfold fewW at hs; simp at hs; exact hs.2
  have hm40 : m.length ≤ 40 := by unfold fewW at hs2; simp at hs2; exact hs2.2
  clear hs hs2 hl hm
  have hbe : ∀ x : ByteArray, (x != x) = false := fun x => by simp [bne, ba_dec]
  have f1 := fell_any 0 l m (by omega) (by omega)
  have f2 := rfell_any o o' l m (by omega) (by omega)
  obtain ⟨k, b, hkb⟩ := fellR_two l m
  rw [hkb] at f1 f2
  have o1 := ofs_any o l (by omega)
  have o2 := ofs_any o' m (by omega)
  have a1 := alike_any 0 0 l m (by omega) (by omega)
  have a2 := alike_any 0 0 l l (by omega) (by omega)
  rw [show alikeB l l = true from decide_eq_true rfl] at a2
  have b1 := rbare_any o o' l m (by omega) (by omega)
  have l1 := live_any l (by omega)
  generalize alikeB l m = q at *
  clear hkb
  cases b <;> cases q
  all_goals
    (have k9 := And.intro @hr (And.intro @hrl (And.intro @hbe (k0))); (repeat' (first | refine AWpA.seq ?_ | refine AWpA.block ?_ | (with_reducible refine CondP.tt ?_) | (with_reducible refine CondP.ff ?_) | refine AWpA.cg ?_ | ((first | refine AWpA.rg ?_ | refine AWpA.dg [] [] follows ?_ | refine TailK.tg ?_ | refine AWpA.skip ?_ | refine AWpA.exit ?_ | refine AWpA.ret ?_ | (with_reducible refine ARoundsA.succ ?_) | ((first | refine Runs.gkt (fun h9 => ?_) | refine Runs.gkf (fun h9 => ?_) | refine Runs.gnt (fun h9 => ?_) | refine Runs.gnf (fun h9 => ?_) | refine CondP.gt (fun h9 => ?_) | refine CondP.gf (fun h9 => ?_) | refine CondP.gnt (fun h9 => ?_) | refine CondP.gnf (fun h9 => ?_)); (try simp only [h9]); clear h9) | refine CallG.pg [] (sp) ?_ | refine CallG.pg [0] (hf) ?_ | refine CallG.pg [1] (hf2) ?_ | refine CallG.pg [0] (o1) ?_ | refine CallG.pg [1] (o2) ?_ | refine CallG.pg [226, 258] (f1) ?_ | refine CallG.pg [0, 1] (f2) ?_ | refine CallG.pg [658, 690] (a1) ?_ | refine CallG.pg [0, 1] (b1) ?_ | refine CallG.pg [834, 866] (a2) ?_ | refine CallG.pg [946] (l1) ?_ | refine CallG.dg [] (sp) ?_ | refine CallG.dg [0] (hf) ?_ | refine CallG.dg [1] (hf2) ?_ | refine CallG.dg [0] (o1) ?_ | refine CallG.dg [1] (o2) ?_ | refine CallG.dg [226, 258] (f1) ?_ | refine CallG.dg [0, 1] (f2) ?_ | refine CallG.dg [658, 690] (a1) ?_ | refine CallG.dg [0, 1] (b1) ?_ | refine CallG.dg [834, 866] (a2) ?_ | refine CallG.dg [946] (l1) ?_); (try simp (maxSteps := 9999999) (disch := omega) only [go_sem, k9]); (try refine cnd ?_)) | ((first | refine CondP.split (fun hif => ?_) (fun hif => ?_) | refine Runs.part (fun hif => ?_) (fun hif => ?_)) <;> ((try simp only [hif]); (try simp only [BL] at hif); (try (have h9 : _ = true := hif; simp only [h9])); (try (have h9 : _ = false := hif; simp only [h9])); (try simp (maxSteps := 9999999) (disch := omega) only [go_sem, k9]); (try refine cnd ?_); (try (exfalso; omega; done)))))); (all_goals (try clear k9)))
  all_goals (refine AWpA.to [0, 962] (wmaps_rest W o l hl40) ?_; (focus (simp (maxSteps := 9999999) (disch := omega) only [go_sem, hr, hrl]; (try (repeat' (first | done | trivial | rfl | exact leAs_rfl _ | decide | (refine And.intro ?_ ?_) | (simp; done) | omega | (simp; decide)))))))
end Go.Proofs.Ytbblpmkdhdnkhaa
