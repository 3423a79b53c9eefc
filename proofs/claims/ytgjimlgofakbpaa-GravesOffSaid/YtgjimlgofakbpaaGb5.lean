/- The walk of GravesOff. -/
import Derived.Test.YtgjimlgofakbpaaGb4
namespace Go.Proofs.Ytgjimlgofakbpaa
set_option linter.unusedSimpArgs false
set_option linter.unusedVariables false
set_option maxHeartbeats 4000000
open Go Go.Am Go.RowKit Go.ChangeShapes Go.WideShapes Go.ChangeAt
set_option maxRecDepth 100000
def St.rep (a : St) : List Value := (fun n : Int => [.int .i64 n]) a.c ++ (fun n : Int => [.int .i64 n]) a.s
structure St.ok (W : World) (a : St) : Prop where
  c : (fun n : Int => IntKind.i64.min ≤ n ∧ n ≤ IntKind.i64.max) a.c
  s : (fun n : Int => IntKind.i64.min ≤ n ∧ n ≤ IntKind.i64.max) a.s
set_option maxRecDepth 100000 in
theorem rd_St {H : Type} {enc : TypeId × Value → H} {W : World} {base : Nat} {held : Bool} : Rd enc Try.prog W base held 23 St.rep (St.ok W) := fun n cs x h => by
  obtain ⟨xs, n1, _, _, hlen, hx, hf⟩ := DataW.trod_struct Try.underlying23 h
  rw [show Try.prog.cellsOf 23 = 2 by kernel_rfl] at hlen
  have f0 : DataW.trod enc Try.prog W base (fun _ => true) held n1 3 ((cs.drop 0).take (Try.prog.cellsOf 3)) = xs[0]? := hf 0 _ rfl
  rw [show Try.prog.cellsOf 3 = 1 by kernel_rfl] at f0
  obtain ⟨y0, h0⟩ := at_some2 hx (by decide) f0
  obtain ⟨g0, a0, e0, w0⟩ := (rd_int Try.underlying3 : Rd _ _ _ _ _ _ (fun n : Int => [.int .i64 n]) (fun n : Int => IntKind.i64.min ≤ n ∧ n ≤ IntKind.i64.max)) _ _ _ h0
  have f1 : DataW.trod enc Try.prog W base (fun _ => true) held n1 3 ((cs.drop 1).take (Try.prog.cellsOf 3)) = xs[1]? := hf 1 _ rfl
  rw [show Try.prog.cellsOf 3 = 1 by kernel_rfl] at f1
  obtain ⟨y1, h1⟩ := at_some2 hx (by decide) f1
  obtain ⟨g1, a1, e1, w1⟩ := (rd_int Try.underlying3 : Rd _ _ _ _ _ _ (fun n : Int => [.int .i64 n]) (fun n : Int => IntKind.i64.min ≤ n ∧ n ≤ IntKind.i64.max)) _ _ _ h1
  match cs, hlen with
  | [c0, c1], _ =>
    simp [Sl.rep, St.rep] at e0 g0
    simp [Sl.rep, St.rep] at e1 g1
    exact ⟨by simp [*, Value.oneCell'], ⟨a0, a1⟩, by simp [Sl.rep, St.rep, *], ⟨w0, w1⟩⟩
def En.rep (a : En) : List Value := (fun s : ByteArray => [.string s]) a.key ++ (fun s : ByteArray => [.string s]) a.val ++ (fun b : Bool => [.bool b]) a.dead ++ (St.rep) a.st ++ (St.rep) a.act ++ (fun n : Int => [.int .i64 n]) a.keep ++ (fun n : Int => [.int .i64 n]) a.age
structure En.ok (W : World) (a : En) : Prop where
  key : (fun s : ByteArray => s.size ≤ maxLen) a.key
  val : (fun s : ByteArray => s.size ≤ maxLen) a.val
  dead : (fun _ : Bool => True) a.dead
  st : (St.ok W) a.st
  act : (St.ok W) a.act
  keep : (fun n : Int => IntKind.i64.min ≤ n ∧ n ≤ IntKind.i64.max) a.keep
  age : (fun n : Int => IntKind.i64.min ≤ n ∧ n ≤ IntKind.i64.max) a.age
set_option maxRecDepth 100000 in
theorem rd_En {H : Type} {enc : TypeId × Value → H} {W : World} {base : Nat} {held : Bool} : Rd enc Try.prog W base held 67 En.rep (En.ok W) := fun n cs x h => by
  obtain ⟨xs, n1, _, _, hlen, hx, hf⟩ := DataW.trod_struct Try.underlying67 h
  rw [show Try.prog.cellsOf 67 = 9 by kernel_rfl] at hlen
  have f0 : DataW.trod enc Try.prog W base (fun _ => true) held n1 9 ((cs.drop 0).take (Try.prog.cellsOf 9)) = xs[0]? := hf 0 _ rfl
  rw [show Try.prog.cellsOf 9 = 1 by kernel_rfl] at f0
  obtain ⟨y0, h0⟩ := at_some2 hx (by decide) f0
  obtain ⟨g0, a0, e0, w0⟩ := (rd_string Try.underlying9 : Rd _ _ _ _ _ _ (fun s : ByteArray => [.string s]) (fun s : ByteArray => s.size ≤ maxLen)) _ _ _ h0
  have f1 : DataW.trod enc Try.prog W base (fun _ => true) held n1 9 ((cs.drop 1).take (Try.prog.cellsOf 9)) = xs[1]? := hf 1 _ rfl
  rw [show Try.prog.cellsOf 9 = 1 by kernel_rfl] at f1
  obtain ⟨y1, h1⟩ := at_some2 hx (by decide) f1
  obtain ⟨g1, a1, e1, w1⟩ := (rd_string Try.underlying9 : Rd _ _ _ _ _ _ (fun s : ByteArray => [.string s]) (fun s : ByteArray => s.size ≤ maxLen)) _ _ _ h1
  have f2 : DataW.trod enc Try.prog W base (fun _ => true) held n1 4 ((cs.drop 2).take (Try.prog.cellsOf 4)) = xs[2]? := hf 2 _ rfl
  rw [show Try.prog.cellsOf 4 = 1 by kernel_rfl] at f2
  obtain ⟨y2, h2⟩ := at_some2 hx (by decide) f2
  obtain ⟨g2, a2, e2, w2⟩ := (rd_bool Try.underlying4 : Rd _ _ _ _ _ _ (fun b : Bool => [.bool b]) (fun _ : Bool => True)) _ _ _ h2
  have f3 : DataW.trod enc Try.prog W base (fun _ => true) held n1 23 ((cs.drop 3).take (Try.prog.cellsOf 23)) = xs[3]? := hf 3 _ rfl
  rw [show Try.prog.cellsOf 23 = 2 by kernel_rfl] at f3
  obtain ⟨y3, h3⟩ := at_some2 hx (by decide) f3
  obtain ⟨g3, a3, e3, w3⟩ := (rd_St : Rd _ _ _ _ _ _ (St.rep) (St.ok W)) _ _ _ h3
  have f4 : DataW.trod enc Try.prog W base (fun _ => true) held n1 23 ((cs.drop 5).take (Try.prog.cellsOf 23)) = xs[4]? := hf 4 _ rfl
  rw [show Try.prog.cellsOf 23 = 2 by kernel_rfl] at f4
  obtain ⟨y4, h4⟩ := at_some2 hx (by decide) f4
  obtain ⟨g4, a4, e4, w4⟩ := (rd_St : Rd _ _ _ _ _ _ (St.rep) (St.ok W)) _ _ _ h4
  have f5 : DataW.trod enc Try.prog W base (fun _ => true) held n1 3 ((cs.drop 7).take (Try.prog.cellsOf 3)) = xs[5]? := hf 5 _ rfl
  rw [show Try.prog.cellsOf 3 = 1 by kernel_rfl] at f5
  obtain ⟨y5, h5⟩ := at_some2 hx (by decide) f5
  obtain ⟨g5, a5, e5, w5⟩ := (rd_int Try.underlying3 : Rd _ _ _ _ _ _ (fun n : Int => [.int .i64 n]) (fun n : Int => IntKind.i64.min ≤ n ∧ n ≤ IntKind.i64.max)) _ _ _ h5
  have f6 : DataW.trod enc Try.prog W base (fun _ => true) held n1 3 ((cs.drop 8).take (Try.prog.cellsOf 3)) = xs[6]? := hf 6 _ rfl
  rw [show Try.prog.cellsOf 3 = 1 by kernel_rfl] at f6
  obtain ⟨y6, h6⟩ := at_some2 hx (by decide) f6
  obtain ⟨g6, a6, e6, w6⟩ := (rd_int Try.underlying3 : Rd _ _ _ _ _ _ (fun n : Int => [.int .i64 n]) (fun n : Int => IntKind.i64.min ≤ n ∧ n ≤ IntKind.i64.max)) _ _ _ h6
  match cs, hlen with
  | [c0, c1, c2, c3, c4, c5, c6, c7, c8], _ =>
    simp [Sl.rep, St.rep, En.rep] at e0 g0
    simp [Sl.rep, St.rep, En.rep] at e1 g1
    simp [Sl.rep, St.rep, En.rep] at e2 g2
    simp [Sl.rep, St.rep, En.rep] at e3 g3
    simp [Sl.rep, St.rep, En.rep] at e4 g4
    simp [Sl.rep, St.rep, En.rep] at e5 g5
    simp [Sl.rep, St.rep, En.rep] at e6 g6
    exact ⟨by simp [*, Value.oneCell'], ⟨a0, a1, a2, a3, a4, a5, a6⟩, by simp [Sl.rep, St.rep, En.rep, *], ⟨w0, w1, w2, w3, w4, w5, w6⟩⟩
def AcG.rep (a : AcG) : List Value := (fun b : Bool => [.bool b]) a.tick ++ (En.rep) a.e
structure AcG.ok (W : World) (a : AcG) : Prop where
  tick : (fun _ : Bool => True) a.tick
  e : (En.ok W) a.e
set_option maxRecDepth 100000 in
theorem rd_AcG {H : Type} {enc : TypeId × Value → H} {W : World} {base : Nat} {held : Bool} : Rd enc Try.prog W base held 69 AcG.rep (AcG.ok W) := fun n cs x h => by
  obtain ⟨xs, n1, _, _, hlen, hx, hf⟩ := DataW.trod_struct Try.underlying69 h
  rw [show Try.prog.cellsOf 69 = 10 by kernel_rfl] at hlen
  have f0 : DataW.trod enc Try.prog W base (fun _ => true) held n1 4 ((cs.drop 0).take (Try.prog.cellsOf 4)) = xs[0]? := hf 0 _ rfl
  rw [show Try.prog.cellsOf 4 = 1 by kernel_rfl] at f0
  obtain ⟨y0, h0⟩ := at_some2 hx (by decide) f0
  obtain ⟨g0, a0, e0, w0⟩ := (rd_bool Try.underlying4 : Rd _ _ _ _ _ _ (fun b : Bool => [.bool b]) (fun _ : Bool => True)) _ _ _ h0
  have f1 : DataW.trod enc Try.prog W base (fun _ => true) held n1 67 ((cs.drop 1).take (Try.prog.cellsOf 67)) = xs[1]? := hf 1 _ rfl
  rw [show Try.prog.cellsOf 67 = 9 by kernel_rfl] at f1
  obtain ⟨y1, h1⟩ := at_some2 hx (by decide) f1
  obtain ⟨g1, a1, e1, w1⟩ := (rd_En : Rd _ _ _ _ _ _ (En.rep) (En.ok W)) _ _ _ h1
  match cs, hlen with
  | [c0, c1, c2, c3, c4, c5, c6, c7, c8, c9], _ =>
    simp [Sl.rep, St.rep, En.rep, AcG.rep] at e0 g0
    simp [Sl.rep, St.rep, En.rep, AcG.rep] at e1 g1
    exact ⟨by simp [*, Value.oneCell'], ⟨a0, a1⟩, by simp [Sl.rep, St.rep, En.rep, AcG.rep, *], ⟨w0, w1⟩⟩
/- quidnunc/quidnunclaw11.GravesOff -/
noncomputable def c8_1 : ACode := .region false [⟨some 4, .move, [.c (.val (.bool false))], none⟩] [] [] [0, 1] false [] []
noncomputable def c8_4 : ACode := .region false [⟨some 13, .call 30, [], none⟩,
  ⟨some 14, .un .not, [.t 13], none⟩,
  ⟨some 15, .move, [.t 14], none⟩,
  ⟨some 16, .move, [.t 1], some (some 15, false)⟩,
  ⟨some 17, .call 31, [.t 16], some (some 15, false)⟩,
  ⟨some 18, .un .not, [.t 17], some (some 15, false)⟩,
  ⟨some 19, .pick, [.t 15, .c (.val (.bool true)), .t 18], none⟩] [] [] [0, 1, 19] true [] []
noncomputable def c8_7 : ACode := .region false [⟨some 20, .call 30, [], none⟩,
  ⟨some 4, .move, [.t 20], none⟩] [] [] [4] true [] []
noncomputable def c8_6 : ACode := .seq c8_7 .ret
noncomputable def c8_5 : ACode := .cond (.t 19) c8_6 .skip
noncomputable def c8_3 : ACode := .seq c8_4 c8_5
noncomputable def c8_9 : ACode := .region false [⟨some 21, .move, [.t 0], none⟩,
  ⟨some 22, .conv .i64, [.t 21], none⟩,
  ⟨some 23, .bin .rem, [.t 22, .c (.val (.int .i64 12))], none⟩,
  ⟨some 5, .move, [.t 23], none⟩] [] [] [1, 5] false [] []
noncomputable def c8_11 : ACode := .region false [⟨some 25, .move, [.t 5], none⟩,
  ⟨some 26, .call 32, [.t 25, .c (.val (.int .i64 0))], none⟩,
  ⟨some 24, .move, [.t 26], none⟩,
  ⟨some 27, .ext 0, [.t 24], none⟩,
  ⟨some 28, .ext 1, [.t 24], none⟩,
  ⟨some 6, .move, [.t 27], none⟩,
  ⟨some 7, .move, [.t 28], none⟩] [] [] [1, 5, 6, 7] true [] []
noncomputable def c8_13 : ACode := .region false [⟨some 30, .move, [.t 5], none⟩,
  ⟨some 31, .call 32, [.t 30, .c (.val (.int .i64 9))], none⟩,
  ⟨some 29, .move, [.t 31], none⟩,
  ⟨some 32, .ext 0, [.t 29], none⟩,
  ⟨some 33, .ext 1, [.t 29], none⟩,
  ⟨some 8, .move, [.t 32], none⟩,
  ⟨some 9, .move, [.t 33], none⟩] [] [] [1, 5, 6, 7, 8, 9] true [] []
noncomputable def c8_16 : ACode := .region false [⟨some 34, .move, [.t 7], none⟩,
  ⟨some 35, .bin .neq, [.t 34, .c (.val (.int .i64 0))], none⟩,
  ⟨some 36, .move, [.t 35], none⟩,
  ⟨some 37, .move, [.t 9], some (some 36, false)⟩,
  ⟨some 38, .bin .neq, [.t 37, .c (.val (.int .i64 0))], some (some 36, false)⟩,
  ⟨some 39, .pick, [.t 36, .c (.val (.bool true)), .t 38], none⟩,
  ⟨some 40, .move, [.t 39], none⟩,
  ⟨some 41, .move, [.t 6], some (some 40, false)⟩,
  ⟨some 42, .eqP false, [.t 41, .c (.val (.pointer none))], some (some 40, false)⟩,
  ⟨some 43, .pick, [.t 40, .c (.val (.bool true)), .t 42], none⟩,
  ⟨some 44, .move, [.t 43], none⟩,
  ⟨some 45, .move, [.t 8], some (some 44, false)⟩,
  ⟨some 46, .eqP false, [.t 45, .c (.val (.pointer none))], some (some 44, false)⟩,
  ⟨some 47, .pick, [.t 44, .c (.val (.bool true)), .t 46], none⟩] [] [] [1, 5, 6, 8, 47] false [] []
noncomputable def c8_19 : ACode := .region false [⟨some 4, .move, [.c (.val (.bool false))], none⟩] [] [] [4] false [] []
noncomputable def c8_18 : ACode := .seq c8_19 .ret
noncomputable def c8_17 : ACode := .cond (.t 47) c8_18 .skip
noncomputable def c8_15 : ACode := .seq c8_16 c8_17
noncomputable def c8_22 : ACode := .region false [⟨some 48, .move, [.t 1], none⟩,
  ⟨some 49, .len, [.t 48], none⟩,
  ⟨some 50, .move, [.c (.val (.int .i64 0))], none⟩] [] [] [5, 6, 8, 48, 49, 50] false [] []
noncomputable def c8_26 : ACode := .region false [⟨some 51, .bin .lss, [.t 50, .t 49], none⟩] [] [] [5, 6, 8, 48, 49, 50, 51] false [] []
noncomputable def c8_28 : ACode := .cond (.t 51) .skip (.exit 0)
noncomputable def c8_32 : ACode := .region false [⟨some 52, .ixS 10, [.t 48, .t 50], none⟩,
  ⟨some 53, .load true 10, [.t 52], none⟩,
  ⟨some 11, .alloc [(.bool false), (.string ⟨#[]⟩), (.string ⟨#[]⟩), (.bool false), (.int .i64 0), (.int .i64 0), (.int .i64 0), (.int .i64 0), (.int .i64 0), (.int .i64 0)], [], none⟩,
  ⟨none, .store 10, [.t 11, .t 53], none⟩] [] [] [5, 6, 8, 11, 48, 49, 50] true [] []
noncomputable def c8_34 : ACode := .region false [⟨some 54, .addr 1, [.t 11], none⟩,
  ⟨some 55, .load true 9, [.t 54], none⟩,
  ⟨some 12, .alloc [(.string ⟨#[]⟩), (.string ⟨#[]⟩), (.bool false), (.int .i64 0), (.int .i64 0), (.int .i64 0), (.int .i64 0), (.int .i64 0), (.int .i64 0)], [], none⟩,
  ⟨none, .store 9, [.t 12, .t 55], none⟩] [] [] [5, 6, 8, 12, 48, 49, 50] true [] []
noncomputable def c8_37 : ACode := .region false [⟨some 56, .move, [.t 6], none⟩,
  ⟨some 57, .load true 9, [.t 12], none⟩,
  ⟨some 58, .call 35, [.t 57], none⟩,
  ⟨some 59, .call 34, [.t 56, .t 58], none⟩] [] [] [5, 6, 8, 12, 48, 49, 50, 59] true [] []
noncomputable def c8_40 : ACode := .region false [⟨some 4, .move, [.c (.val (.bool false))], none⟩] [] [] [4] false [] []
noncomputable def c8_39 : ACode := .seq c8_40 .ret
noncomputable def c8_38 : ACode := .cond (.t 59) c8_39 .skip
noncomputable def c8_36 : ACode := .seq c8_37 c8_38
noncomputable def c8_42 : ACode := .region false [⟨some 60, .load true 9, [.t 12], none⟩,
  ⟨some 61, .call 40, [.t 60], none⟩,
  ⟨some 62, .bin .eql, [.t 61, .c (.val (.int .i64 0))], none⟩,
  ⟨some 63, .move, [.t 62], none⟩,
  ⟨some 64, .load true 9, [.t 12], some (some 63, true)⟩,
  ⟨some 65, .move, [.t 5], some (some 63, true)⟩,
  ⟨some 66, .call 39, [.t 64, .t 65], some (some 63, true)⟩,
  ⟨some 67, .un .not, [.t 66], some (some 63, true)⟩,
  ⟨some 68, .pick, [.t 63, .t 67, .c (.val (.bool false))], none⟩,
  ⟨some 69, .move, [.t 68], none⟩,
  ⟨some 70, .move, [.t 8], some (some 69, true)⟩,
  ⟨some 71, .load true 9, [.t 12], some (some 69, true)⟩,
  ⟨some 72, .call 35, [.t 71], some (some 69, true)⟩,
  ⟨some 73, .call 34, [.t 70, .t 72], some (some 69, true)⟩,
  ⟨some 74, .pick, [.t 69, .t 73, .c (.val (.bool false))], none⟩] [] [] [5, 6, 8, 48, 49, 50, 74] true [] []
noncomputable def c8_45 : ACode := .region false [⟨some 4, .move, [.c (.val (.bool false))], none⟩] [] [] [4] false [] []
noncomputable def c8_44 : ACode := .seq c8_45 .ret
noncomputable def c8_43 : ACode := .cond (.t 74) c8_44 .skip
noncomputable def c8_41 : ACode := .seq c8_42 c8_43
noncomputable def c8_35 : ACode := .seq c8_36 c8_41
noncomputable def c8_33 : ACode := .seq c8_34 c8_35
noncomputable def c8_31 : ACode := .seq c8_32 c8_33
noncomputable def c8_30 : ACode := .block 1 c8_31
noncomputable def c8_46 : ACode := .region false [⟨some 75, .bin .add, [.t 50, .c (.val (.int .i64 1))], none⟩,
  ⟨some 50, .move, [.t 75], none⟩] [] [] [5, 6, 8, 48, 49, 50] false [] []
noncomputable def c8_29 : ACode := .seq c8_30 c8_46
noncomputable def c8_27 : ACode := .seq c8_28 c8_29
noncomputable def c8_25 : ACode := .seq c8_26 c8_27
noncomputable def c8_24 : ACode := .loop c8_25
noncomputable def c8_23 : ACode := .block 0 c8_24
noncomputable def c8_21 : ACode := .seq c8_22 c8_23
noncomputable def c8_48 : ACode := .region false [⟨some 76, .move, [.t 6], none⟩,
  ⟨some 77, .nilChk, [.t 76], none⟩,
  ⟨some 78, .addr 0, [.t 77], none⟩,
  ⟨some 79, .load false 1, [.t 78], none⟩,
  ⟨some 80, .call 41, [.t 79], none⟩,
  ⟨some 81, .bin .eql, [.t 80, .c (.val (.int .i64 0))], none⟩,
  ⟨some 82, .move, [.t 81], none⟩,
  ⟨some 83, .move, [.t 6], some (some 82, true)⟩,
  ⟨some 84, .call 33, [.t 83], some (some 82, true)⟩,
  ⟨some 85, .len, [.t 84], some (some 82, true)⟩,
  ⟨some 86, .bin .eql, [.t 85, .c (.val (.int .i64 0))], some (some 82, true)⟩,
  ⟨some 87, .pick, [.t 82, .t 86, .c (.val (.bool false))], none⟩,
  ⟨some 4, .move, [.t 87], none⟩] [] [] [4] true [] []
noncomputable def c8_47 : ACode := .seq c8_48 .ret
noncomputable def c8_20 : ACode := .seq c8_21 c8_47
noncomputable def c8_14 : ACode := .seq c8_15 c8_20
noncomputable def c8_12 : ACode := .seq c8_13 c8_14
noncomputable def c8_10 : ACode := .seq c8_11 c8_12
noncomputable def c8_8 : ACode := .seq c8_9 c8_10
noncomputable def c8_2 : ACode := .seq c8_3 c8_8
noncomputable def c8_0 : ACode := .seq c8_1 c8_2
noncomputable def code8 : Code := (Try.f8.body).getD .skip
theorem c8_ok : compC Try.prog 88 code8 = some (strip c8_0) := by kernel_rfl
theorem res8_ok : Try.f8.results.toList.mapM (resC Try.prog) = some [(4, none)] := by kernel_rfl
theorem Ue_has_nil (k : ByteArray) : Ue.hasP' [] k = false := rfl
theorem check_keep {e : En} (h : checkI e = 0) : e.keep ≤ 4095 := by
  unfold checkI at h
  repeat' split at h
  all_goals (first | omega | (simp_all [keptB, plainB]; done) | (simp_all [keptB, plainB]; omega))
theorem off_no (i : Int) (e : En) : buryB i 0 [] e = false := by
  by_cases h : checkI e = 0
  · cases hd : dutyB e i with
    | false => simp [buryB, refused, h, hd]
    | true =>
      have hdead : e.dead = true := by unfold dutyB at hd; cases hq : e.dead with
        | true => rfl
        | false => rw [hq] at hd; simp at hd
      obtain ⟨-, -, h3, -⟩ := check_kept h hdead
      simp [buryB, refused, h, hd, h3]
  · simp [buryB, refused, h]
theorem off_nol (i : Int) (e : En) : buryL i 0 [] e = [] := by unfold buryL; rw [off_no]; rfl
theorem off_other (i t2 : Int) (e : En) (h : dutyB e i = false) : buryB i t2 [] e = false := by simp [buryB, refused, h]
theorem off_otherl (i t2 : Int) (e : En) (h : dutyB e i = false) : buryL i t2 [] e = [] := by unfold buryL; rw [off_other i t2 e h]; rfl
theorem tick_nil (t2 : Int) : tickL t2 [] = [] := rfl
theorem gone_nil (t2 : Int) : goneL t2 [] = [] := rfl
theorem gravesOff_walk (W : World) (site : Int) (sl : Sl AcG) (h0 : IntKind.u8.min ≤ site ∧ site ≤ IntKind.u8.max) (hz : Sl.ok W 10 AcG.rep (AcG.ok W) sl) :
    Calls Try.prog 8 #[.int .u8 site, .slice sl.ad sl.l.length sl.cap] W fun e W' => e = .returned (.bool true) ∧ Below W.heap.size W W' := by
  obtain ⟨ad, off, cap, l⟩ := sl
  obtain ⟨hz, -, hl⟩ := hz
  have hl : l.length ≤ 9223372036854775807 := by simpa [maxLen] using hl
  simp only at hz
  obtain ⟨h1, h2⟩ : 0 ≤ site ∧ site ≤ 255 := h0
  have hr := rg_ren off l
  have hp := Ue.rp_ren 0
  have hlen := rg_len off l
  have hf := few11_any off l hl
  have sp := speaks11_any
  cases hs : fewG l with
  | false =>
    rw [hs] at hf
    refine top_call c8_ok Try.func8 rfl Try.ntmps8 res8_ok [ .val (.int .u8 site), .val (.slice ad l.length cap)] (by simp) (by (repeat' (first | exact VRs_nil' _ | exact VR_val' _ _ | (refine VRs_cons' ?_ ?_) | (refine VR_agg' (by first | rfl | assumption) ?_; first | assumption | simp [Value.oneCell', St.rep, En.rep, AcG.rep])))) ?_; try simp (maxSteps := 9999999) (disch := omega) only [go_sem]
    refine AWpA.thawT 1 AgL hz (fun x => by simp [AcG.rep, En.rep, St.rep]) rfl ?_
    (repeat' (first | refine AWpA.seq ?_ | refine AWpA.block ?_ | (with_reducible refine CondP.tt ?_) | (with_reducible refine CondP.ff ?_) | refine AWpA.condv (by simp (maxSteps := 9999999) (disch := omega) only [go_sem, hr]; rfl) ?_ | ((first | (apply AWpA.region; (focus (simp (maxSteps := 9999999) (disch := omega) only [go_sem, hr]; rfl))) | (apply AWpA.draw [] [] follows; (focus (first | rfl | decide)); (focus (simp (maxSteps := 9999999) (disch := omega) only [go_sem, hr]; rfl)); (focus (simp (maxSteps := 9999999) (disch := omega) only [go_sem, hr]; first | done | trivial)); (focus (simp (maxSteps := 9999999) (disch := omega) only [go_sem, hr]; rfl))) | (apply TailK.go; (focus (simp (maxSteps := 9999999) (disch := omega) only [go_sem, hr]; rfl))) | refine AWpA.skip ?_ | refine AWpA.exit ?_ | refine AWpA.ret ?_ | (with_reducible refine ARoundsA.succ ?_) | ((first | refine Runs.kt (by assumption) (fun h9 => ?_) | refine Runs.kf (by assumption) (fun h9 => ?_) | refine Runs.nt (by assumption) (fun h9 => ?_) | refine Runs.nf (by assumption) (fun h9 => ?_) | refine CondP.ht (by assumption) (fun h9 => ?_) | refine CondP.hf (by assumption) (fun h9 => ?_) | refine CondP.nt (by assumption) (fun h9 => ?_) | refine CondP.nf (by assumption) (fun h9 => ?_)); (try simp only [h9]); clear h9) | ((first | (with_reducible apply CallG.plain1 [] (sp)) | (with_reducible apply CallG.draw1 [] (sp))); (focus ((try refine And.intro (leAs_of_eq rfl) ?_); (try refine And.intro (leOL_of_eq rfl) ?_); simp (maxSteps := 9999999) (disch := omega) only [go_sem, hr]; first | done | (repeat' (first | rfl | (refine And.intro ?_ ?_))))); (focus (simp (maxSteps := 9999999) (disch := omega) only [go_sem, hr]; rfl))) | ((first | (with_reducible apply CallG.plain1 [0] (hf)) | (with_reducible apply CallG.draw1 [0] (hf))); (focus ((try refine And.intro (leAs_of_eq rfl) ?_); (try refine And.intro (leOL_of_eq rfl) ?_); simp (maxSteps := 9999999) (disch := omega) only [go_sem, hr]; first | done | (repeat' (first | rfl | (refine And.intro ?_ ?_))))); (focus (simp (maxSteps := 9999999) (disch := omega) only [go_sem, hr]; rfl)))); (try simp (maxSteps := 9999999) (disch := omega) only [go_sem, hr]); (try (refine And.intro ?_ ?_; (focus (first | omega | (simp only [go_sem]; done) | (simp; done) | (simp; omega) | assumption))))) | ((first | refine CondP.split (fun hif => ?_) (fun hif => ?_) | refine Runs.part (fun hif => ?_) (fun hif => ?_)) <;> ((try simp only [hif]); (try simp only [decide_eq_true_eq, decide_eq_false_iff_not, Bool.not_eq_true, Bool.not_eq_false, Bool.not_eq_true', Bool.not_eq_false', beq_iff_eq, bne_iff_ne, bne_eq_false_iff_eq, beq_eq_false_iff_ne, ne_eq, Bool.and_eq_true, Bool.or_eq_true, Bool.or_eq_false_iff] at hif); (try (have h9 : _ = true := hif; simp only [h9])); (try (have h9 : _ = false := hif; simp only [h9])); (try simp (maxSteps := 9999999) (disch := omega) only [go_sem, hr]); (try (refine And.intro ?_ ?_; (focus (first | omega | (simp only [go_sem]; done) | (simp; done) | (simp; omega) | assumption)))); (try (exfalso; omega; done))))))
    (refine TopPost.of (by first | exact .inl rfl | exact .inr rfl) (by (try simp (maxSteps := 9999999) (disch := omega) only [go_sem]); rfl) ?_; (try simp (maxSteps := 9999999) (disch := omega) only [go_sem]); (try (first | trivial | decide | (simp; done))))
  | true =>
  rw [hs] at hf
  have h50 : l.length ≤ 50 := by unfold fewG at hs; simp at hs; exact hs.2
  clear hs
  obtain ⟨k, hk, hk12⟩ : ∃ k : Nat, site.tmod 12 = (k : Int) ∧ k < 12 := by
    rw [Int.tmod_eq_emod_of_nonneg h1]
    refine ⟨(site % 12).toNat, ?_, ?_⟩ <;> omega
  have n1 := gnew_any k 0 (by omega) (by decide)
  have n2 := gnew_any k 9 (by omega) (by decide)
  have ok0 : (⟨4096, []⟩ : Ue.Tb).ok := ⟨List.Pairwise.nil, by decide⟩
  refine top_call c8_ok Try.func8 rfl Try.ntmps8 res8_ok [ .val (.int .u8 site), .val (.slice ad l.length cap)] (by simp) (by (repeat' (first | exact VRs_nil' _ | exact VR_val' _ _ | (refine VRs_cons' ?_ ?_) | (refine VR_agg' (by first | rfl | assumption) ?_; first | assumption | simp [Value.oneCell', St.rep, En.rep, AcG.rep])))) ?_; try simp (maxSteps := 9999999) (disch := omega) only [go_sem]
  refine AWpA.thawT 1 AgL hz (fun x => by simp [AcG.rep, En.rep, St.rep]) rfl ?_
  refine AWpA.dummy ?_
  refine AWpA.dummy ?_
  (repeat' (first | refine AWpA.seq ?_ | refine AWpA.block ?_ | (with_reducible refine CondP.tt ?_) | (with_reducible refine CondP.ff ?_) | refine AWpA.condv (by simp (maxSteps := 9999999) (disch := omega) only [go_sem, hr, hk, hp]; rfl) ?_ | ((first | (apply AWpA.region; (focus (simp (maxSteps := 9999999) (disch := omega) only [go_sem, hr, hk, hp]; rfl))) | (apply AWpA.draw [] [] follows; (focus (first | rfl | decide)); (focus (simp (maxSteps := 9999999) (disch := omega) only [go_sem, hr, hk, hp]; rfl)); (focus (simp (maxSteps := 9999999) (disch := omega) only [go_sem, hr, hk, hp]; first | done | trivial)); (focus (simp (maxSteps := 9999999) (disch := omega) only [go_sem, hr, hk, hp]; rfl))) | (apply TailK.go; (focus (simp (maxSteps := 9999999) (disch := omega) only [go_sem, hr, hk, hp]; rfl))) | refine AWpA.skip ?_ | refine AWpA.exit ?_ | refine AWpA.ret ?_ | (with_reducible refine ARoundsA.succ ?_) | ((first | refine Runs.kt (by assumption) (fun h9 => ?_) | refine Runs.kf (by assumption) (fun h9 => ?_) | refine Runs.nt (by assumption) (fun h9 => ?_) | refine Runs.nf (by assumption) (fun h9 => ?_) | refine CondP.ht (by assumption) (fun h9 => ?_) | refine CondP.hf (by assumption) (fun h9 => ?_) | refine CondP.nt (by assumption) (fun h9 => ?_) | refine CondP.nf (by assumption) (fun h9 => ?_)); (try simp only [h9]); clear h9) | ((first | (with_reducible apply CallG.plain1 [] (sp)) | (with_reducible apply CallG.draw1 [] (sp))); (focus ((try refine And.intro (leAs_of_eq rfl) ?_); (try refine And.intro (leOL_of_eq rfl) ?_); simp (maxSteps := 9999999) (disch := omega) only [go_sem, hr, hk, hp]; first | done | (repeat' (first | rfl | (refine And.intro ?_ ?_))))); (focus (simp (maxSteps := 9999999) (disch := omega) only [go_sem, hr, hk, hp]; rfl))) | ((first | (with_reducible apply CallG.plain1 [0] (hf)) | (with_reducible apply CallG.draw1 [0] (hf))); (focus ((try refine And.intro (leAs_of_eq rfl) ?_); (try refine And.intro (leOL_of_eq rfl) ?_); simp (maxSteps := 9999999) (disch := omega) only [go_sem, hr, hk, hp]; first | done | (repeat' (first | rfl | (refine And.intro ?_ ?_))))); (focus (simp (maxSteps := 9999999) (disch := omega) only [go_sem, hr, hk, hp]; rfl))) | ((first | (with_reducible apply CallG.plain1 [] (n1)) | (with_reducible apply CallG.draw1 [] (n1))); (focus ((try refine And.intro (leAs_of_eq rfl) ?_); (try refine And.intro (leOL_of_eq rfl) ?_); simp (maxSteps := 9999999) (disch := omega) only [go_sem, hr, hk, hp]; first | done | (repeat' (first | rfl | (refine And.intro ?_ ?_))))); (focus (simp (maxSteps := 9999999) (disch := omega) only [go_sem, hr, hk, hp]; rfl))) | ((first | (with_reducible apply CallG.plain1 [] (n2)) | (with_reducible apply CallG.draw1 [] (n2))); (focus ((try refine And.intro (leAs_of_eq rfl) ?_); (try refine And.intro (leOL_of_eq rfl) ?_); simp (maxSteps := 9999999) (disch := omega) only [go_sem, hr, hk, hp]; first | done | (repeat' (first | rfl | (refine And.intro ?_ ?_))))); (focus (simp (maxSteps := 9999999) (disch := omega) only [go_sem, hr, hk, hp]; rfl)))); (try simp (maxSteps := 9999999) (disch := omega) only [go_sem, hr, hk, hp]); (try (refine And.intro ?_ ?_; (focus (first | omega | (simp only [go_sem]; done) | (simp; done) | (simp; omega) | assumption))))) | ((first | refine CondP.split (fun hif => ?_) (fun hif => ?_) | refine Runs.part (fun hif => ?_) (fun hif => ?_)) <;> ((try simp only [hif]); (try simp only [decide_eq_true_eq, decide_eq_false_iff_not, Bool.not_eq_true, Bool.not_eq_false, Bool.not_eq_true', Bool.not_eq_false', beq_iff_eq, bne_iff_ne, bne_eq_false_iff_eq, beq_eq_false_iff_ne, ne_eq, Bool.and_eq_true, Bool.or_eq_true, Bool.or_eq_false_iff] at hif); (try (have h9 : _ = true := hif; simp only [h9])); (try (have h9 : _ = false := hif; simp only [h9])); (try simp (maxSteps := 9999999) (disch := omega) only [go_sem, hr, hk, hp]); (try (refine And.intro ?_ ?_; (focus (first | omega | (simp only [go_sem]; done) | (simp; done) | (simp; omega) | assumption)))); (try (exfalso; omega; done))))))
  (apply AWpA.loopL (fun i : Nat => [(5, I k), (6, .ptr 1 0), (8, .ptr 4 0), (48, .sl 0 off l.length 10 none), (49, I l.length), (50, I i)]) (fun i => [.cells true (Rg off l), GrO 2 k 0, Ue.TbO 3 ⟨4096, []⟩, .cells false (Ue.Rp 0 []), GrO 5 k 9, Ue.TbO 6 ⟨4096, []⟩, .cells false (Ue.Rp 0 [])]) (fun i => l.length - i) (fun i => i ≤ l.length) (0) [0, _, _, 1, _, _, 2]; rotate_left; (focus (simp (maxSteps := 9999999) (disch := omega) only [go_sem, hr, hp, Ue.rp_nil]; (try (repeat' (first | done | trivial | rfl | exact leAs_rfl _ | decide | (refine And.intro ?_ ?_) | (simp; done) | omega | (simp; decide)))))); rotate_right)
  · exact Nat.zero_le _
  rintro i hi
  (try simp only at hi)
  by_cases hin : i < l.length
  · have k1 : ((i : Int) < (l.length : Int)) = True := eq_true (by omega)
    have hat := rg_at off l i hin
    generalize l[i] = x at *
    have c0 := of05_any x.e
    have c1 := bury_any k 0 ⟨4096, []⟩ x.e ok0 (by decide) (fun h => absurd h (by rw [Ue_has_nil]; decide))
    simp only [off_no, off_nol] at c1
    have c2 := rcheck_any x.e
    by_cases hck : checkI x.e = 0
    · rw [hck] at c2
      have hkeep2 := check_keep hck
      have c3 := rduty_any x.e k hk12 hkeep2
      have hde := duty_eq hck k
      rw [← hde] at c3
      cases hd : dutyB x.e k with
      | true =>
        rw [hd] at c3
        clear hde hd
        (try simp (maxSteps := 9999999) (disch := omega) only [go_sem])
        (repeat' (first | refine AWpA.seq ?_ | refine AWpA.block ?_ | (with_reducible refine CondP.tt ?_) | (with_reducible refine CondP.ff ?_) | refine AWpA.condv (by simp (maxSteps := 9999999) (disch := omega) only [go_sem, hr, hp, hlen, hat, k1]; rfl) ?_ | ((first | (apply AWpA.region; (focus (simp (maxSteps := 9999999) (disch := omega) only [go_sem, hr, hp, hlen, hat, k1]; rfl))) | (apply AWpA.draw [1, 2, 3, 4, 5, 6] [] follows; (focus (first | rfl | decide)); (focus (simp (maxSteps := 9999999) (disch := omega) only [go_sem, hr, hp, hlen, hat, k1]; rfl)); (focus (simp (maxSteps := 9999999) (disch := omega) only [go_sem, hr, hp, hlen, hat, k1]; first | done | trivial)); (focus (simp (maxSteps := 9999999) (disch := omega) only [go_sem, hr, hp, hlen, hat, k1]; rfl))) | (apply TailK.go; (focus (simp (maxSteps := 9999999) (disch := omega) only [go_sem, hr, hp, hlen, hat, k1]; rfl))) | refine AWpA.skip ?_ | refine AWpA.exit ?_ | refine AWpA.ret ?_ | (with_reducible refine ARoundsA.succ ?_) | ((first | refine Runs.kt (by assumption) (fun h9 => ?_) | refine Runs.kf (by assumption) (fun h9 => ?_) | refine Runs.nt (by assumption) (fun h9 => ?_) | refine Runs.nf (by assumption) (fun h9 => ?_) | refine CondP.ht (by assumption) (fun h9 => ?_) | refine CondP.hf (by assumption) (fun h9 => ?_) | refine CondP.nt (by assumption) (fun h9 => ?_) | refine CondP.nf (by assumption) (fun h9 => ?_)); (try simp only [h9]); clear h9) | ((first | (with_reducible apply CallG.plain1 [] (c0)) | (with_reducible apply CallG.draw1 [] (c0))); (focus ((try refine And.intro (leAs_of_eq rfl) ?_); (try refine And.intro (leOL_of_eq rfl) ?_); simp (maxSteps := 9999999) (disch := omega) only [go_sem, hr, hp, hlen, hat, k1]; first | done | (repeat' (first | rfl | (refine And.intro ?_ ?_))))); (focus (simp (maxSteps := 9999999) (disch := omega) only [go_sem, hr, hp, hlen, hat, k1]; rfl))) | ((first | (with_reducible apply CallG.plain1 [1, 2, 3] (c1)) | (with_reducible apply CallG.draw1 [1, 2, 3] (c1))); (focus ((try refine And.intro (leAs_of_eq rfl) ?_); (try refine And.intro (leOL_of_eq rfl) ?_); simp (maxSteps := 9999999) (disch := omega) only [go_sem, hr, hp, hlen, hat, k1]; first | done | (repeat' (first | rfl | (refine And.intro ?_ ?_))))); (focus (simp (maxSteps := 9999999) (disch := omega) only [go_sem, hr, hp, hlen, hat, k1]; rfl))) | ((first | (with_reducible apply CallG.plain1 [] (c2)) | (with_reducible apply CallG.draw1 [] (c2))); (focus ((try refine And.intro (leAs_of_eq rfl) ?_); (try refine And.intro (leOL_of_eq rfl) ?_); simp (maxSteps := 9999999) (disch := omega) only [go_sem, hr, hp, hlen, hat, k1]; first | done | (repeat' (first | rfl | (refine And.intro ?_ ?_))))); (focus (simp (maxSteps := 9999999) (disch := omega) only [go_sem, hr, hp, hlen, hat, k1]; rfl))) | ((first | (with_reducible apply CallG.plain1 [] (c3)) | (with_reducible apply CallG.draw1 [] (c3))); (focus ((try refine And.intro (leAs_of_eq rfl) ?_); (try refine And.intro (leOL_of_eq rfl) ?_); simp (maxSteps := 9999999) (disch := omega) only [go_sem, hr, hp, hlen, hat, k1]; first | done | (repeat' (first | rfl | (refine And.intro ?_ ?_))))); (focus (simp (maxSteps := 9999999) (disch := omega) only [go_sem, hr, hp, hlen, hat, k1]; rfl)))); (try simp (maxSteps := 9999999) (disch := omega) only [go_sem, hr, hp, hlen, hat, k1]); (try (refine And.intro ?_ ?_; (focus (first | omega | (simp only [go_sem]; done) | (simp; done) | (simp; omega) | assumption))))) | ((first | refine CondP.split (fun hif => ?_) (fun hif => ?_) | refine Runs.part (fun hif => ?_) (fun hif => ?_)) <;> ((try simp only [hif]); (try simp only [decide_eq_true_eq, decide_eq_false_iff_not, Bool.not_eq_true, Bool.not_eq_false, Bool.not_eq_true', Bool.not_eq_false', beq_iff_eq, bne_iff_ne, bne_eq_false_iff_eq, beq_eq_false_iff_ne, ne_eq, Bool.and_eq_true, Bool.or_eq_true, Bool.or_eq_false_iff] at hif); (try (have h9 : _ = true := hif; simp only [h9])); (try (have h9 : _ = false := hif; simp only [h9])); (try simp (maxSteps := 9999999) (disch := omega) only [go_sem, hr, hp, hlen, hat, k1]); (try (refine And.intro ?_ ?_; (focus (first | omega | (simp only [go_sem]; done) | (simp; done) | (simp; omega) | assumption)))); (try (exfalso; omega; done))))))
        (apply Back.to (i + 1) [0, 1, 2, 199, 4, 5, 6]; (focus ((try simp (maxSteps := 9999999) (disch := omega) only [go_sem, hr, hp]); first | done | omega)); rotate_left; (focus (simp (maxSteps := 9999999) (disch := omega) only [go_sem, hr, hp]; (try (repeat' (first | done | trivial | rfl | exact leAs_rfl _ | decide | (refine And.intro ?_ ?_) | (simp; done) | omega | (simp; decide)))))))
        all_goals omega
      | false =>
        rw [hd] at c3
        have c4 := bury_any k 9 ⟨4096, []⟩ x.e ok0 (by decide) (fun h => absurd h (by rw [Ue_has_nil]; decide))
        simp only [off_other k 9 x.e hd, off_otherl k 9 x.e hd] at c4
        clear hde hd
        (try simp (maxSteps := 9999999) (disch := omega) only [go_sem])
        (repeat' (first | refine AWpA.seq ?_ | refine AWpA.block ?_ | (with_reducible refine CondP.tt ?_) | (with_reducible refine CondP.ff ?_) | refine AWpA.condv (by simp (maxSteps := 9999999) (disch := omega) only [go_sem, hr, hp, hlen, hat, k1]; rfl) ?_ | ((first | (apply AWpA.region; (focus (simp (maxSteps := 9999999) (disch := omega) only [go_sem, hr, hp, hlen, hat, k1]; rfl))) | (apply AWpA.draw [1, 2, 3, 4, 5, 6] [] follows; (focus (first | rfl | decide)); (focus (simp (maxSteps := 9999999) (disch := omega) only [go_sem, hr, hp, hlen, hat, k1]; rfl)); (focus (simp (maxSteps := 9999999) (disch := omega) only [go_sem, hr, hp, hlen, hat, k1]; first | done | trivial)); (focus (simp (maxSteps := 9999999) (disch := omega) only [go_sem, hr, hp, hlen, hat, k1]; rfl))) | (apply TailK.go; (focus (simp (maxSteps := 9999999) (disch := omega) only [go_sem, hr, hp, hlen, hat, k1]; rfl))) | refine AWpA.skip ?_ | refine AWpA.exit ?_ | refine AWpA.ret ?_ | (with_reducible refine ARoundsA.succ ?_) | ((first | refine Runs.kt (by assumption) (fun h9 => ?_) | refine Runs.kf (by assumption) (fun h9 => ?_) | refine Runs.nt (by assumption) (fun h9 => ?_) | refine Runs.nf (by assumption) (fun h9 => ?_) | refine CondP.ht (by assumption) (fun h9 => ?_) | refine CondP.hf (by assumption) (fun h9 => ?_) | refine CondP.nt (by assumption) (fun h9 => ?_) | refine CondP.nf (by assumption) (fun h9 => ?_)); (try simp only [h9]); clear h9) | ((first | (with_reducible apply CallG.plain1 [] (c0)) | (with_reducible apply CallG.draw1 [] (c0))); (focus ((try refine And.intro (leAs_of_eq rfl) ?_); (try refine And.intro (leOL_of_eq rfl) ?_); simp (maxSteps := 9999999) (disch := omega) only [go_sem, hr, hp, hlen, hat, k1]; first | done | (repeat' (first | rfl | (refine And.intro ?_ ?_))))); (focus (simp (maxSteps := 9999999) (disch := omega) only [go_sem, hr, hp, hlen, hat, k1]; rfl))) | ((first | (with_reducible apply CallG.plain1 [1, 2, 3] (c1)) | (with_reducible apply CallG.draw1 [1, 2, 3] (c1))); (focus ((try refine And.intro (leAs_of_eq rfl) ?_); (try refine And.intro (leOL_of_eq rfl) ?_); simp (maxSteps := 9999999) (disch := omega) only [go_sem, hr, hp, hlen, hat, k1]; first | done | (repeat' (first | rfl | (refine And.intro ?_ ?_))))); (focus (simp (maxSteps := 9999999) (disch := omega) only [go_sem, hr, hp, hlen, hat, k1]; rfl))) | ((first | (with_reducible apply CallG.plain1 [] (c2)) | (with_reducible apply CallG.draw1 [] (c2))); (focus ((try refine And.intro (leAs_of_eq rfl) ?_); (try refine And.intro (leOL_of_eq rfl) ?_); simp (maxSteps := 9999999) (disch := omega) only [go_sem, hr, hp, hlen, hat, k1]; first | done | (repeat' (first | rfl | (refine And.intro ?_ ?_))))); (focus (simp (maxSteps := 9999999) (disch := omega) only [go_sem, hr, hp, hlen, hat, k1]; rfl))) | ((first | (with_reducible apply CallG.plain1 [] (c3)) | (with_reducible apply CallG.draw1 [] (c3))); (focus ((try refine And.intro (leAs_of_eq rfl) ?_); (try refine And.intro (leOL_of_eq rfl) ?_); simp (maxSteps := 9999999) (disch := omega) only [go_sem, hr, hp, hlen, hat, k1]; first | done | (repeat' (first | rfl | (refine And.intro ?_ ?_))))); (focus (simp (maxSteps := 9999999) (disch := omega) only [go_sem, hr, hp, hlen, hat, k1]; rfl))) | ((first | (with_reducible apply CallG.plain1 [4, 5, 6] (c4)) | (with_reducible apply CallG.draw1 [4, 5, 6] (c4))); (focus ((try refine And.intro (leAs_of_eq rfl) ?_); (try refine And.intro (leOL_of_eq rfl) ?_); simp (maxSteps := 9999999) (disch := omega) only [go_sem, hr, hp, hlen, hat, k1]; first | done | (repeat' (first | rfl | (refine And.intro ?_ ?_))))); (focus (simp (maxSteps := 9999999) (disch := omega) only [go_sem, hr, hp, hlen, hat, k1]; rfl)))); (try simp (maxSteps := 9999999) (disch := omega) only [go_sem, hr, hp, hlen, hat, k1]); (try (refine And.intro ?_ ?_; (focus (first | omega | (simp only [go_sem]; done) | (simp; done) | (simp; omega) | assumption))))) | ((first | refine CondP.split (fun hif => ?_) (fun hif => ?_) | refine Runs.part (fun hif => ?_) (fun hif => ?_)) <;> ((try simp only [hif]); (try simp only [decide_eq_true_eq, decide_eq_false_iff_not, Bool.not_eq_true, Bool.not_eq_false, Bool.not_eq_true', Bool.not_eq_false', beq_iff_eq, bne_iff_ne, bne_eq_false_iff_eq, beq_eq_false_iff_ne, ne_eq, Bool.and_eq_true, Bool.or_eq_true, Bool.or_eq_false_iff] at hif); (try (have h9 : _ = true := hif; simp only [h9])); (try (have h9 : _ = false := hif; simp only [h9])); (try simp (maxSteps := 9999999) (disch := omega) only [go_sem, hr, hp, hlen, hat, k1]); (try (refine And.intro ?_ ?_; (focus (first | omega | (simp only [go_sem]; done) | (simp; done) | (simp; omega) | assumption)))); (try (exfalso; omega; done))))))
        (apply Back.to (i + 1) [0, 1, 2, 199, 4, 5, 423]; (focus ((try simp (maxSteps := 9999999) (disch := omega) only [go_sem, hr, hp]); first | done | omega)); rotate_left; (focus (simp (maxSteps := 9999999) (disch := omega) only [go_sem, hr, hp]; (try (repeat' (first | done | trivial | rfl | exact leAs_rfl _ | decide | (refine And.intro ?_ ?_) | (simp; done) | omega | (simp; decide)))))))
        all_goals omega
    · have g1 : (checkI x.e = 0) = False := eq_false hck
      have g2 : (checkI x.e == 0) = false := by simpa using hck
      generalize checkI x.e = ck at *
      (try simp (maxSteps := 9999999) (disch := omega) only [go_sem])
      (repeat' (first | refine AWpA.seq ?_ | refine AWpA.block ?_ | (with_reducible refine CondP.tt ?_) | (with_reducible refine CondP.ff ?_) | refine AWpA.condv (by simp (maxSteps := 9999999) (disch := omega) only [go_sem, hr, hp, hlen, hat, k1, g1, g2]; rfl) ?_ | ((first | (apply AWpA.region; (focus (simp (maxSteps := 9999999) (disch := omega) only [go_sem, hr, hp, hlen, hat, k1, g1, g2]; rfl))) | (apply AWpA.draw [1, 2, 3, 4, 5, 6] [] follows; (focus (first | rfl | decide)); (focus (simp (maxSteps := 9999999) (disch := omega) only [go_sem, hr, hp, hlen, hat, k1, g1, g2]; rfl)); (focus (simp (maxSteps := 9999999) (disch := omega) only [go_sem, hr, hp, hlen, hat, k1, g1, g2]; first | done | trivial)); (focus (simp (maxSteps := 9999999) (disch := omega) only [go_sem, hr, hp, hlen, hat, k1, g1, g2]; rfl))) | (apply TailK.go; (focus (simp (maxSteps := 9999999) (disch := omega) only [go_sem, hr, hp, hlen, hat, k1, g1, g2]; rfl))) | refine AWpA.skip ?_ | refine AWpA.exit ?_ | refine AWpA.ret ?_ | (with_reducible refine ARoundsA.succ ?_) | ((first | refine Runs.kt (by assumption) (fun h9 => ?_) | refine Runs.kf (by assumption) (fun h9 => ?_) | refine Runs.nt (by assumption) (fun h9 => ?_) | refine Runs.nf (by assumption) (fun h9 => ?_) | refine CondP.ht (by assumption) (fun h9 => ?_) | refine CondP.hf (by assumption) (fun h9 => ?_) | refine CondP.nt (by assumption) (fun h9 => ?_) | refine CondP.nf (by assumption) (fun h9 => ?_)); (try simp only [h9]); clear h9) | ((first | (with_reducible apply CallG.plain1 [] (c0)) | (with_reducible apply CallG.draw1 [] (c0))); (focus ((try refine And.intro (leAs_of_eq rfl) ?_); (try refine And.intro (leOL_of_eq rfl) ?_); simp (maxSteps := 9999999) (disch := omega) only [go_sem, hr, hp, hlen, hat, k1, g1, g2]; first | done | (repeat' (first | rfl | (refine And.intro ?_ ?_))))); (focus (simp (maxSteps := 9999999) (disch := omega) only [go_sem, hr, hp, hlen, hat, k1, g1, g2]; rfl))) | ((first | (with_reducible apply CallG.plain1 [1, 2, 3] (c1)) | (with_reducible apply CallG.draw1 [1, 2, 3] (c1))); (focus ((try refine And.intro (leAs_of_eq rfl) ?_); (try refine And.intro (leOL_of_eq rfl) ?_); simp (maxSteps := 9999999) (disch := omega) only [go_sem, hr, hp, hlen, hat, k1, g1, g2]; first | done | (repeat' (first | rfl | (refine And.intro ?_ ?_))))); (focus (simp (maxSteps := 9999999) (disch := omega) only [go_sem, hr, hp, hlen, hat, k1, g1, g2]; rfl))) | ((first | (with_reducible apply CallG.plain1 [] (c2)) | (with_reducible apply CallG.draw1 [] (c2))); (focus ((try refine And.intro (leAs_of_eq rfl) ?_); (try refine And.intro (leOL_of_eq rfl) ?_); simp (maxSteps := 9999999) (disch := omega) only [go_sem, hr, hp, hlen, hat, k1, g1, g2]; first | done | (repeat' (first | rfl | (refine And.intro ?_ ?_))))); (focus (simp (maxSteps := 9999999) (disch := omega) only [go_sem, hr, hp, hlen, hat, k1, g1, g2]; rfl)))); (try simp (maxSteps := 9999999) (disch := omega) only [go_sem, hr, hp, hlen, hat, k1, g1, g2]); (try (refine And.intro ?_ ?_; (focus (first | omega | (simp only [go_sem]; done) | (simp; done) | (simp; omega) | assumption))))) | ((first | refine CondP.split (fun hif => ?_) (fun hif => ?_) | refine Runs.part (fun hif => ?_) (fun hif => ?_)) <;> ((try simp only [hif]); (try simp only [decide_eq_true_eq, decide_eq_false_iff_not, Bool.not_eq_true, Bool.not_eq_false, Bool.not_eq_true', Bool.not_eq_false', beq_iff_eq, bne_iff_ne, bne_eq_false_iff_eq, beq_eq_false_iff_ne, ne_eq, Bool.and_eq_true, Bool.or_eq_true, Bool.or_eq_false_iff] at hif); (try (have h9 : _ = true := hif; simp only [h9])); (try (have h9 : _ = false := hif; simp only [h9])); (try simp (maxSteps := 9999999) (disch := omega) only [go_sem, hr, hp, hlen, hat, k1, g1, g2]); (try (refine And.intro ?_ ?_; (focus (first | omega | (simp only [go_sem]; done) | (simp; done) | (simp; omega) | assumption)))); (try (exfalso; omega; done))))))
      (apply Back.to (i + 1) [0, 1, 2, 199, 4, 5, 6]; (focus ((try simp (maxSteps := 9999999) (disch := omega) only [go_sem, hr, hp]); first | done | omega)); rotate_left; (focus (simp (maxSteps := 9999999) (disch := omega) only [go_sem, hr, hp]; (try (repeat' (first | done | trivial | rfl | exact leAs_rfl _ | decide | (refine And.intro ?_ ?_) | (simp; done) | omega | (simp; decide)))))))
      all_goals omega
  · obtain rfl : i = l.length := by omega
    have k1 : ((l.length : Int) < (l.length : Int)) = False := eq_false (by omega)
    have c3 := Ue.tlen_any ⟨4096, []⟩
    have c4 := tick_any k 0 4096 [] ⟨List.Pairwise.nil, fun p hp => absurd hp List.not_mem_nil, fun p hp => absurd hp List.not_mem_nil⟩ (by decide)
    simp only [tick_nil, gone_nil] at c4
    (try simp (maxSteps := 9999999) (disch := omega) only [go_sem])
    (repeat' (first | refine AWpA.seq ?_ | refine AWpA.block ?_ | (with_reducible refine CondP.tt ?_) | (with_reducible refine CondP.ff ?_) | refine AWpA.condv (by simp (maxSteps := 9999999) (disch := omega) only [go_sem, hr, hp, k1]; rfl) ?_ | ((first | (apply AWpA.region; (focus (simp (maxSteps := 9999999) (disch := omega) only [go_sem, hr, hp, k1]; rfl))) | (apply AWpA.draw [] [] follows; (focus (first | rfl | decide)); (focus (simp (maxSteps := 9999999) (disch := omega) only [go_sem, hr, hp, k1]; rfl)); (focus (simp (maxSteps := 9999999) (disch := omega) only [go_sem, hr, hp, k1]; first | done | trivial)); (focus (simp (maxSteps := 9999999) (disch := omega) only [go_sem, hr, hp, k1]; rfl))) | (apply TailK.go; (focus (simp (maxSteps := 9999999) (disch := omega) only [go_sem, hr, hp, k1]; rfl))) | refine AWpA.skip ?_ | refine AWpA.exit ?_ | refine AWpA.ret ?_ | (with_reducible refine ARoundsA.succ ?_) | ((first | refine Runs.kt (by assumption) (fun h9 => ?_) | refine Runs.kf (by assumption) (fun h9 => ?_) | refine Runs.nt (by assumption) (fun h9 => ?_) | refine Runs.nf (by assumption) (fun h9 => ?_) | refine CondP.ht (by assumption) (fun h9 => ?_) | refine CondP.hf (by assumption) (fun h9 => ?_) | refine CondP.nt (by assumption) (fun h9 => ?_) | refine CondP.nf (by assumption) (fun h9 => ?_)); (try simp only [h9]); clear h9) | ((first | (with_reducible apply CallG.plain1 [2, 3] (c3)) | (with_reducible apply CallG.draw1 [2, 3] (c3))); (focus ((try refine And.intro (leAs_of_eq rfl) ?_); (try refine And.intro (leOL_of_eq rfl) ?_); simp (maxSteps := 9999999) (disch := omega) only [go_sem, hr, hp, k1]; first | done | (repeat' (first | rfl | (refine And.intro ?_ ?_))))); (focus (simp (maxSteps := 9999999) (disch := omega) only [go_sem, hr, hp, k1]; rfl))) | ((first | (with_reducible apply CallG.plain1 [1, 2, 3] (c4)) | (with_reducible apply CallG.draw1 [1, 2, 3] (c4))); (focus ((try refine And.intro (leAs_of_eq rfl) ?_); (try refine And.intro (leOL_of_eq rfl) ?_); simp (maxSteps := 9999999) (disch := omega) only [go_sem, hr, hp, k1]; first | done | (repeat' (first | rfl | (refine And.intro ?_ ?_))))); (focus (simp (maxSteps := 9999999) (disch := omega) only [go_sem, hr, hp, k1]; rfl)))); (try simp (maxSteps := 9999999) (disch := omega) only [go_sem, hr, hp, k1]); (try (refine And.intro ?_ ?_; (focus (first | omega | (simp only [go_sem]; done) | (simp; done) | (simp; omega) | assumption))))) | ((first | refine CondP.split (fun hif => ?_) (fun hif => ?_) | refine Runs.part (fun hif => ?_) (fun hif => ?_)) <;> ((try simp only [hif]); (try simp only [decide_eq_true_eq, decide_eq_false_iff_not, Bool.not_eq_true, Bool.not_eq_false, Bool.not_eq_true', Bool.not_eq_false', beq_iff_eq, bne_iff_ne, bne_eq_false_iff_eq, beq_eq_false_iff_ne, ne_eq, Bool.and_eq_true, Bool.or_eq_true, Bool.or_eq_false_iff] at hif); (try (have h9 : _ = true := hif; simp only [h9])); (try (have h9 : _ = false := hif; simp only [h9])); (try simp (maxSteps := 9999999) (disch := omega) only [go_sem, hr, hp, k1]); (try (refine And.intro ?_ ?_; (focus (first | omega | (simp only [go_sem]; done) | (simp; done) | (simp; omega) | assumption)))); (try (exfalso; omega; done))))))
    (refine TopPost.of (by first | exact .inl rfl | exact .inr rfl) (by (try simp (maxSteps := 9999999) (disch := omega) only [go_sem]); rfl) ?_; (try simp (maxSteps := 9999999) (disch := omega) only [go_sem]); (try (first | trivial | decide | (simp; done))))
end Go.Proofs.Ytgjimlgofakbpaa
