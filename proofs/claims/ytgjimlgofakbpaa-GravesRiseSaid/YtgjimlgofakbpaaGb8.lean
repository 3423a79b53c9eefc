/- The walk of GravesRise. -/
import Derived.Test.YtgjimlgofakbpaaGb7
namespace Go.Proofs.Ytgjimlgofakbpaa
set_option linter.unusedSimpArgs false
set_option linter.unusedVariables false
set_option maxHeartbeats 4000000
open Go Go.Am Go.RowKit Go.ChangeShapes Go.WideShapes Go.ChangeAt
set_option maxRecDepth 100000
def St.rep (a : St) : List Value := (fun n : Int => [.int .i64 n]) a.c ++ (fun n : Int => [.int .i64 n]) a.s
structure St.ok (W : World) (a : St) : Prop where
  c : (fun n : Int => IntKind.i64.min ≤ n ∧ n ≤ IntKind.i64.max) a.c
  s : (fun n : Int => IntKind.i64.min ≤ n ∧ n ≤ IntKind.i64.max) a.s
set_option maxRecDepth 100000 in
theorem rd_St {H : Type} {enc : TypeId × Value → H} {W : World} {base : Nat} {held : Bool} : Rd enc Try.prog W base held 23 St.rep (St.ok W) := fun n cs x h => by
  obtain ⟨xs, n1, _, _, hlen, hx, hf⟩ := DataW.trod_struct Try.underlying23 h
  rw [show Try.prog.cellsOf 23 = 2 by kernel_rfl] at hlen
  have f0 : DataW.trod enc Try.prog W base (fun _ => true) held n1 3 ((cs.drop 0).take (Try.prog.cellsOf 3)) = xs[0]? := hf 0 _ rfl
  rw [show Try.prog.cellsOf 3 = 1 by kernel_rfl] at f0
  obtain ⟨y0, h0⟩ := at_some2 hx (by decide) f0
  obtain ⟨g0, a0, e0, w0⟩ := (rd_int Try.underlying3 : Rd _ _ _ _ _ _ (fun n : Int => [.int .i64 n]) (fun n : Int => IntKind.i64.min ≤ n ∧ n ≤ IntKind.i64.max)) _ _ _ h0
  have f1 : DataW.trod enc Try.prog W base (fun _ => true) held n1 3 ((cs.drop 1).take (Try.prog.cellsOf 3)) = xs[1]? := hf 1 _ rfl
  rw [show Try.prog.cellsOf 3 = 1 by kernel_rfl] at f1
  obtain ⟨y1, h1⟩ := at_some2 hx (by decide) f1
  obtain ⟨g1, a1, e1, w1⟩ := (rd_int Try.underlying3 : Rd _ _ _ _ _ _ (fun n : Int => [.int .i64 n]) (fun n : Int => IntKind.i64.min ≤ n ∧ n ≤ IntKind.i64.max)) _ _ _ h1
  match cs, hlen with
  | [c0, c1], _ =>
    simp [Sl.rep, St.rep] at e0 g0
    simp [Sl.rep, St.rep] at e1 g1
    exact ⟨by simp [*, Value.oneCell'], ⟨a0, a1⟩, by simp [Sl.rep, St.rep, *], ⟨w0, w1⟩⟩
def En.rep (a : En) : List Value := (fun s : ByteArray => [.string s]) a.key ++ (fun s : ByteArray => [.string s]) a.val ++ (fun b : Bool => [.bool b]) a.dead ++ (St.rep) a.st ++ (St.rep) a.act ++ (fun n : Int => [.int .i64 n]) a.keep ++ (fun n : Int => [.int .i64 n]) a.age
structure En.ok (W : World) (a : En) : Prop where
  key : (fun s : ByteArray => s.size ≤ maxLen) a.key
  val : (fun s : ByteArray => s.size ≤ maxLen) a.val
  dead : (fun _ : Bool => True) a.dead
  st : (St.ok W) a.st
  act : (St.ok W) a.act
  keep : (fun n : Int => IntKind.i64.min ≤ n ∧ n ≤ IntKind.i64.max) a.keep
  age : (fun n : Int => IntKind.i64.min ≤ n ∧ n ≤ IntKind.i64.max) a.age
set_option maxRecDepth 100000 in
theorem rd_En {H : Type} {enc : TypeId × Value → H} {W : World} {base : Nat} {held : Bool} : Rd enc Try.prog W base held 67 En.rep (En.ok W) := fun n cs x h => by
  obtain ⟨xs, n1, _, _, hlen, hx, hf⟩ := DataW.trod_struct Try.underlying67 h
  rw [show Try.prog.cellsOf 67 = 9 by kernel_rfl] at hlen
  have f0 : DataW.trod enc Try.prog W base (fun _ => true) held n1 9 ((cs.drop 0).take (Try.prog.cellsOf 9)) = xs[0]? := hf 0 _ rfl
  rw [show Try.prog.cellsOf 9 = 1 by kernel_rfl] at f0
  obtain ⟨y0, h0⟩ := at_some2 hx (by decide) f0
  obtain ⟨g0, a0, e0, w0⟩ := (rd_string Try.underlying9 : Rd _ _ _ _ _ _ (fun s : ByteArray => [.string s]) (fun s : ByteArray => s.size ≤ maxLen)) _ _ _ h0
  have f1 : DataW.trod enc Try.prog W base (fun _ => true) held n1 9 ((cs.drop 1).take (Try.prog.cellsOf 9)) = xs[1]? := hf 1 _ rfl
  rw [show Try.prog.cellsOf 9 = 1 by kernel_rfl] at f1
  obtain ⟨y1, h1⟩ := at_some2 hx (by decide) f1
  obtain ⟨g1, a1, e1, w1⟩ := (rd_string Try.underlying9 : Rd _ _ _ _ _ _ (fun s : ByteArray => [.string s]) (fun s : ByteArray => s.size ≤ maxLen)) _ _ _ h1
  have f2 : DataW.trod enc Try.prog W base (fun _ => true) held n1 4 ((cs.drop 2).take (Try.prog.cellsOf 4)) = xs[2]? := hf 2 _ rfl
  rw [show Try.prog.cellsOf 4 = 1 by kernel_rfl] at f2
  obtain ⟨y2, h2⟩ := at_some2 hx (by decide) f2
  obtain ⟨g2, a2, e2, w2⟩ := (rd_bool Try.underlying4 : Rd _ _ _ _ _ _ (fun b : Bool => [.bool b]) (fun _ : Bool => True)) _ _ _ h2
  have f3 : DataW.trod enc Try.prog W base (fun _ => true) held n1 23 ((cs.drop 3).take (Try.prog.cellsOf 23)) = xs[3]? := hf 3 _ rfl
  rw [show Try.prog.cellsOf 23 = 2 by kernel_rfl] at f3
  obtain ⟨y3, h3⟩ := at_some2 hx (by decide) f3
  obtain ⟨g3, a3, e3, w3⟩ := (rd_St : Rd _ _ _ _ _ _ (St.rep) (St.ok W)) _ _ _ h3
  have f4 : DataW.trod enc Try.prog W base (fun _ => true) held n1 23 ((cs.drop 5).take (Try.prog.cellsOf 23)) = xs[4]? := hf 4 _ rfl
  rw [show Try.prog.cellsOf 23 = 2 by kernel_rfl] at f4
  obtain ⟨y4, h4⟩ := at_some2 hx (by decide) f4
  obtain ⟨g4, a4, e4, w4⟩ := (rd_St : Rd _ _ _ _ _ _ (St.rep) (St.ok W)) _ _ _ h4
  have f5 : DataW.trod enc Try.prog W base (fun _ => true) held n1 3 ((cs.drop 7).take (Try.prog.cellsOf 3)) = xs[5]? := hf 5 _ rfl
  rw [show Try.prog.cellsOf 3 = 1 by kernel_rfl] at f5
  obtain ⟨y5, h5⟩ := at_some2 hx (by decide) f5
  obtain ⟨g5, a5, e5, w5⟩ := (rd_int Try.underlying3 : Rd _ _ _ _ _ _ (fun n : Int => [.int .i64 n]) (fun n : Int => IntKind.i64.min ≤ n ∧ n ≤ IntKind.i64.max)) _ _ _ h5
  have f6 : DataW.trod enc Try.prog W base (fun _ => true) held n1 3 ((cs.drop 8).take (Try.prog.cellsOf 3)) = xs[6]? := hf 6 _ rfl
  rw [show Try.prog.cellsOf 3 = 1 by kernel_rfl] at f6
  obtain ⟨y6, h6⟩ := at_some2 hx (by decide) f6
  obtain ⟨g6, a6, e6, w6⟩ := (rd_int Try.underlying3 : Rd _ _ _ _ _ _ (fun n : Int => [.int .i64 n]) (fun n : Int => IntKind.i64.min ≤ n ∧ n ≤ IntKind.i64.max)) _ _ _ h6
  match cs, hlen with
  | [c0, c1, c2, c3, c4, c5, c6, c7, c8], _ =>
    simp [Sl.rep, St.rep, En.rep] at e0 g0
    simp [Sl.rep, St.rep, En.rep] at e1 g1
    simp [Sl.rep, St.rep, En.rep] at e2 g2
    simp [Sl.rep, St.rep, En.rep] at e3 g3
    simp [Sl.rep, St.rep, En.rep] at e4 g4
    simp [Sl.rep, St.rep, En.rep] at e5 g5
    simp [Sl.rep, St.rep, En.rep] at e6 g6
    exact ⟨by simp [*, Value.oneCell'], ⟨a0, a1, a2, a3, a4, a5, a6⟩, by simp [Sl.rep, St.rep, En.rep, *], ⟨w0, w1, w2, w3, w4, w5, w6⟩⟩
def AcG.rep (a : AcG) : List Value := (fun b : Bool => [.bool b]) a.tick ++ (En.rep) a.e
structure AcG.ok (W : World) (a : AcG) : Prop where
  tick : (fun _ : Bool => True) a.tick
  e : (En.ok W) a.e
set_option maxRecDepth 100000 in
theorem rd_AcG {H : Type} {enc : TypeId × Value → H} {W : World} {base : Nat} {held : Bool} : Rd enc Try.prog W base held 69 AcG.rep (AcG.ok W) := fun n cs x h => by
  obtain ⟨xs, n1, _, _, hlen, hx, hf⟩ := DataW.trod_struct Try.underlying69 h
  rw [show Try.prog.cellsOf 69 = 10 by kernel_rfl] at hlen
  have f0 : DataW.trod enc Try.prog W base (fun _ => true) held n1 4 ((cs.drop 0).take (Try.prog.cellsOf 4)) = xs[0]? := hf 0 _ rfl
  rw [show Try.prog.cellsOf 4 = 1 by kernel_rfl] at f0
  obtain ⟨y0, h0⟩ := at_some2 hx (by decide) f0
  obtain ⟨g0, a0, e0, w0⟩ := (rd_bool Try.underlying4 : Rd _ _ _ _ _ _ (fun b : Bool => [.bool b]) (fun _ : Bool => True)) _ _ _ h0
  have f1 : DataW.trod enc Try.prog W base (fun _ => true) held n1 67 ((cs.drop 1).take (Try.prog.cellsOf 67)) = xs[1]? := hf 1 _ rfl
  rw [show Try.prog.cellsOf 67 = 9 by kernel_rfl] at f1
  obtain ⟨y1, h1⟩ := at_some2 hx (by decide) f1
  obtain ⟨g1, a1, e1, w1⟩ := (rd_En : Rd _ _ _ _ _ _ (En.rep) (En.ok W)) _ _ _ h1
  match cs, hlen with
  | [c0, c1, c2, c3, c4, c5, c6, c7, c8, c9], _ =>
    simp [Sl.rep, St.rep, En.rep, AcG.rep] at e0 g0
    simp [Sl.rep, St.rep, En.rep, AcG.rep] at e1 g1
    exact ⟨by simp [*, Value.oneCell'], ⟨a0, a1⟩, by simp [Sl.rep, St.rep, En.rep, AcG.rep, *], ⟨w0, w1⟩⟩
/- quidnunc/quidnunclaw11.GravesRise -/
noncomputable def c7_1 : ACode := .region false [⟨some 8, .move, [.c (.val (.bool false))], none⟩] [] [] [0, 1, 2, 3] false [] []
noncomputable def c7_4 : ACode := .region false [⟨some 19, .call 30, [], none⟩,
  ⟨some 20, .un .not, [.t 19], none⟩,
  ⟨some 21, .move, [.t 20], none⟩,
  ⟨some 22, .move, [.t 2], some (some 21, false)⟩,
  ⟨some 23, .call 31, [.t 22], some (some 21, false)⟩,
  ⟨some 24, .un .not, [.t 23], some (some 21, false)⟩,
  ⟨some 25, .pick, [.t 21, .c (.val (.bool true)), .t 24], none⟩,
  ⟨some 26, .move, [.t 25], none⟩,
  ⟨some 27, .move, [.t 3], some (some 26, false)⟩,
  ⟨some 28, .lenStr, [.t 27], some (some 26, false)⟩,
  ⟨some 29, .bin .gtr, [.t 28, .c (.val (.int .i64 16))], some (some 26, false)⟩,
  ⟨some 30, .pick, [.t 26, .c (.val (.bool true)), .t 29], none⟩] [] [] [0, 1, 2, 3, 30] true [] []
noncomputable def c7_7 : ACode := .region false [⟨some 31, .call 30, [], none⟩,
  ⟨some 8, .move, [.t 31], none⟩] [] [] [8] true [] []
noncomputable def c7_6 : ACode := .seq c7_7 .ret
noncomputable def c7_5 : ACode := .cond (.t 30) c7_6 .skip
noncomputable def c7_3 : ACode := .seq c7_4 c7_5
noncomputable def c7_9 : ACode := .region false [⟨some 33, .move, [.t 0], none⟩,
  ⟨some 34, .conv .i64, [.t 33], none⟩,
  ⟨some 35, .bin .rem, [.t 34, .c (.val (.int .i64 12))], none⟩,
  ⟨some 36, .move, [.t 1], none⟩,
  ⟨some 37, .conv .i64, [.t 36], none⟩,
  ⟨some 38, .call 32, [.t 35, .t 37], none⟩,
  ⟨some 32, .move, [.t 38], none⟩,
  ⟨some 39, .ext 0, [.t 32], none⟩,
  ⟨some 40, .ext 1, [.t 32], none⟩,
  ⟨some 9, .move, [.t 39], none⟩,
  ⟨some 10, .move, [.t 40], none⟩] [] [] [0, 1, 2, 3, 9, 10] true [] []
noncomputable def c7_12 : ACode := .region false [⟨some 41, .move, [.t 10], none⟩,
  ⟨some 42, .bin .neq, [.t 41, .c (.val (.int .i64 0))], none⟩,
  ⟨some 43, .move, [.t 42], none⟩,
  ⟨some 44, .move, [.t 9], some (some 43, false)⟩,
  ⟨some 45, .eqP false, [.t 44, .c (.val (.pointer none))], some (some 43, false)⟩,
  ⟨some 46, .pick, [.t 43, .c (.val (.bool true)), .t 45], none⟩] [] [] [0, 1, 2, 3, 9, 46] false [] []
noncomputable def c7_15 : ACode := .region false [⟨some 8, .move, [.c (.val (.bool false))], none⟩] [] [] [8] false [] []
noncomputable def c7_14 : ACode := .seq c7_15 .ret
noncomputable def c7_13 : ACode := .cond (.t 46) c7_14 .skip
noncomputable def c7_11 : ACode := .seq c7_12 c7_13
noncomputable def c7_17 : ACode := .region false [⟨some 47, .build [(.string ⟨#[]⟩), (.string ⟨#[]⟩), (.bool false), (.int .i64 0), (.int .i64 0), (.int .i64 0), (.int .i64 0), (.int .i64 0), (.int .i64 0)] [], [], none⟩,
  ⟨some 11, .alloc [(.string ⟨#[]⟩), (.string ⟨#[]⟩), (.bool false), (.int .i64 0), (.int .i64 0), (.int .i64 0), (.int .i64 0), (.int .i64 0), (.int .i64 0)], [], none⟩,
  ⟨none, .store 9, [.t 11, .t 47], none⟩,
  ⟨some 12, .move, [.c (.val (.bool false))], none⟩] [] [] [0, 1, 2, 3, 9, 11, 12] true [] []
noncomputable def c7_20 : ACode := .region false [⟨some 48, .move, [.t 2], none⟩,
  ⟨some 49, .len, [.t 48], none⟩,
  ⟨some 50, .move, [.c (.val (.int .i64 0))], none⟩] [] [] [0, 1, 3, 9, 11, 12, 48, 49, 50] false [] []
noncomputable def c7_24 : ACode := .region false [⟨some 51, .bin .lss, [.t 50, .t 49], none⟩] [] [] [0, 1, 3, 9, 11, 12, 48, 49, 50, 51] false [] []
noncomputable def c7_26 : ACode := .cond (.t 51) .skip (.exit 0)
noncomputable def c7_30 : ACode := .region false [⟨some 52, .ixS 10, [.t 48, .t 50], none⟩,
  ⟨some 53, .load true 10, [.t 52], none⟩,
  ⟨some 14, .alloc [(.bool false), (.string ⟨#[]⟩), (.string ⟨#[]⟩), (.bool false), (.int .i64 0), (.int .i64 0), (.int .i64 0), (.int .i64 0), (.int .i64 0), (.int .i64 0)], [], none⟩,
  ⟨none, .store 10, [.t 14, .t 53], none⟩] [] [] [0, 1, 3, 9, 11, 12, 14, 48, 49, 50] true [] []
noncomputable def c7_33 : ACode := .region false [⟨some 54, .addr 0, [.t 14], none⟩,
  ⟨some 55, .load false 1, [.t 54], none⟩] [] [] [0, 1, 3, 9, 11, 12, 14, 48, 49, 50, 55] false [] []
noncomputable def c7_35 : ACode := .region false [⟨some 56, .move, [.t 9], none⟩,
  ⟨some 57, .call 33, [.t 56], none⟩] [] [] [0, 1, 3, 9, 11, 12, 48, 49, 50] true [] []
noncomputable def c7_36 : ACode := .region false [⟨some 58, .move, [.t 9], none⟩,
  ⟨some 59, .addr 1, [.t 14], none⟩,
  ⟨some 60, .load true 9, [.t 59], none⟩,
  ⟨some 61, .call 35, [.t 60], none⟩,
  ⟨some 62, .call 34, [.t 58, .t 61], none⟩] [] [] [0, 1, 3, 9, 11, 12, 48, 49, 50] true [] []
noncomputable def c7_34 : ACode := .cond (.t 55) c7_35 c7_36
noncomputable def c7_32 : ACode := .seq c7_33 c7_34
noncomputable def c7_38 : ACode := .region false [⟨some 64, .move, [.t 9], none⟩,
  ⟨some 65, .nilChk, [.t 64], none⟩,
  ⟨some 66, .addr 0, [.t 65], none⟩,
  ⟨some 67, .load false 1, [.t 66], none⟩,
  ⟨some 68, .move, [.t 3], none⟩,
  ⟨some 69, .call 36, [.t 67, .t 68], none⟩,
  ⟨some 63, .move, [.t 69], none⟩,
  ⟨some 70, .ext 0, [.t 63], none⟩,
  ⟨some 71, .ext 1, [.t 63], none⟩,
  ⟨some 15, .alloc [(.string ⟨#[]⟩), (.string ⟨#[]⟩), (.bool false), (.int .i64 0), (.int .i64 0), (.int .i64 0), (.int .i64 0), (.int .i64 0), (.int .i64 0)], [], none⟩,
  ⟨none, .store 9, [.t 15, .t 70], none⟩,
  ⟨some 16, .move, [.t 71], none⟩] [] [] [0, 1, 3, 9, 11, 12, 15, 16, 48, 49, 50] true [] []
noncomputable def c7_40 : ACode := .region true [⟨some 72, .load true 9, [.t 11], none⟩,
  ⟨some 73, .call 37, [.t 72], none⟩,
  ⟨some 74, .load true 9, [.t 15], none⟩,
  ⟨some 75, .call 37, [.t 74], none⟩,
  ⟨some 17, .alloc [(.string ⟨#[]⟩), (.string ⟨#[]⟩), (.bool false), (.int .i64 0), (.int .i64 0), (.int .i64 0), (.int .i64 0), (.int .i64 0), (.int .i64 0)], [], none⟩,
  ⟨some 18, .alloc [(.string ⟨#[]⟩), (.string ⟨#[]⟩), (.bool false), (.int .i64 0), (.int .i64 0), (.int .i64 0), (.int .i64 0), (.int .i64 0), (.int .i64 0)], [], none⟩,
  ⟨none, .store 9, [.t 17, .t 73], none⟩,
  ⟨none, .store 9, [.t 18, .t 75], none⟩] [] [(1, 4), (1, 5), (3, 4), (3, 5)] [0, 1, 3, 9, 11, 12, 15, 16, 17, 18, 48, 49, 50] true [] []
noncomputable def c7_43 : ACode := .region false [⟨some 76, .move, [.t 16], none⟩,
  ⟨some 77, .move, [.t 76], none⟩,
  ⟨some 78, .move, [.t 12], some (some 77, true)⟩,
  ⟨some 79, .pick, [.t 77, .t 78, .c (.val (.bool false))], none⟩,
  ⟨some 80, .move, [.t 79], none⟩,
  ⟨some 81, .addr 3, [.t 17], some (some 80, true)⟩,
  ⟨some 82, .load true 2, [.t 81], some (some 80, true)⟩,
  ⟨some 83, .addr 3, [.t 18], some (some 80, true)⟩,
  ⟨some 84, .load true 2, [.t 83], some (some 80, true)⟩,
  ⟨some 85, .call 38, [.t 82, .t 84], some (some 80, true)⟩,
  ⟨some 86, .pick, [.t 80, .t 85, .c (.val (.bool false))], none⟩] [] [] [0, 1, 3, 9, 11, 15, 16, 18, 48, 49, 50, 86] true [] []
noncomputable def c7_46 : ACode := .region false [⟨some 8, .move, [.c (.val (.bool false))], none⟩] [] [] [8] false [] []
noncomputable def c7_45 : ACode := .seq c7_46 .ret
noncomputable def c7_44 : ACode := .cond (.t 86) c7_45 .skip
noncomputable def c7_42 : ACode := .seq c7_43 c7_44
noncomputable def c7_49 : ACode := .region false [⟨some 87, .move, [.t 16], none⟩,
  ⟨some 88, .move, [.t 87], none⟩,
  ⟨some 89, .addr 0, [.t 15], some (some 88, true)⟩,
  ⟨some 90, .load false 1, [.t 89], some (some 88, true)⟩,
  ⟨some 91, .move, [.t 3], some (some 88, true)⟩,
  ⟨some 92, .bin .neq, [.t 90, .t 91], some (some 88, true)⟩,
  ⟨some 93, .move, [.t 92], some (some 88, true)⟩,
  ⟨some 94, .addr 2, [.t 15], some (some 93, false)⟩,
  ⟨some 95, .load false 1, [.t 94], some (some 93, false)⟩,
  ⟨some 96, .un .not, [.t 95], some (some 93, false)⟩,
  ⟨some 97, .pick, [.t 93, .c (.val (.bool true)), .t 96], some (some 88, true)⟩,
  ⟨some 98, .move, [.t 97], some (some 88, true)⟩,
  ⟨some 99, .addr 8, [.t 15], some (some 98, false)⟩,
  ⟨some 100, .load false 1, [.t 99], some (some 98, false)⟩,
  ⟨some 101, .bin .lss, [.t 100, .c (.val (.int .i64 0))], some (some 98, false)⟩,
  ⟨some 102, .pick, [.t 98, .c (.val (.bool true)), .t 101], some (some 88, true)⟩,
  ⟨some 103, .move, [.t 102], some (some 88, true)⟩,
  ⟨some 104, .addr 8, [.t 15], some (some 103, false)⟩,
  ⟨some 105, .load false 1, [.t 104], some (some 103, false)⟩,
  ⟨some 106, .move, [.t 1], some (some 103, false)⟩,
  ⟨some 107, .conv .i64, [.t 106], some (some 103, false)⟩,
  ⟨some 108, .bin .geq, [.t 105, .t 107], some (some 103, false)⟩,
  ⟨some 109, .pick, [.t 103, .c (.val (.bool true)), .t 108], some (some 88, true)⟩,
  ⟨some 110, .move, [.t 109], some (some 88, true)⟩,
  ⟨some 111, .load true 9, [.t 18], some (some 110, false)⟩,
  ⟨some 112, .move, [.t 0], some (some 110, false)⟩,
  ⟨some 113, .conv .i64, [.t 112], some (some 110, false)⟩,
  ⟨some 114, .bin .rem, [.t 113, .c (.val (.int .i64 12))], some (some 110, false)⟩,
  ⟨some 115, .call 39, [.t 111, .t 114], some (some 110, false)⟩,
  ⟨some 116, .un .not, [.t 115], some (some 110, false)⟩,
  ⟨some 117, .pick, [.t 110, .c (.val (.bool true)), .t 116], some (some 88, true)⟩,
  ⟨some 118, .pick, [.t 88, .t 117, .c (.val (.bool false))], none⟩] [] [] [0, 1, 3, 9, 11, 15, 16, 48, 49, 50, 118] true [] []
noncomputable def c7_52 : ACode := .region false [⟨some 8, .move, [.c (.val (.bool false))], none⟩] [] [] [8] false [] []
noncomputable def c7_51 : ACode := .seq c7_52 .ret
noncomputable def c7_50 : ACode := .cond (.t 118) c7_51 .skip
noncomputable def c7_48 : ACode := .seq c7_49 c7_50
noncomputable def c7_53 : ACode := .region false [⟨some 119, .load true 9, [.t 15], none⟩,
  ⟨some 120, .move, [.t 16], none⟩,
  ⟨none, .store 9, [.t 11, .t 119], none⟩,
  ⟨some 12, .move, [.t 120], none⟩] [] [] [0, 1, 3, 9, 11, 12, 48, 49, 50] true [] []
noncomputable def c7_47 : ACode := .seq c7_48 c7_53
noncomputable def c7_41 : ACode := .seq c7_42 c7_47
noncomputable def c7_39 : ACode := .seq c7_40 c7_41
noncomputable def c7_37 : ACode := .seq c7_38 c7_39
noncomputable def c7_31 : ACode := .seq c7_32 c7_37
noncomputable def c7_29 : ACode := .seq c7_30 c7_31
noncomputable def c7_28 : ACode := .block 1 c7_29
noncomputable def c7_54 : ACode := .region false [⟨some 121, .bin .add, [.t 50, .c (.val (.int .i64 1))], none⟩,
  ⟨some 50, .move, [.t 121], none⟩] [] [] [0, 1, 3, 9, 11, 12, 48, 49, 50] false [] []
noncomputable def c7_27 : ACode := .seq c7_28 c7_54
noncomputable def c7_25 : ACode := .seq c7_26 c7_27
noncomputable def c7_23 : ACode := .seq c7_24 c7_25
noncomputable def c7_22 : ACode := .loop c7_23
noncomputable def c7_21 : ACode := .block 0 c7_22
noncomputable def c7_19 : ACode := .seq c7_20 c7_21
noncomputable def c7_56 : ACode := .region false [⟨some 8, .move, [.c (.val (.bool true))], none⟩] [] [] [8] false [] []
noncomputable def c7_55 : ACode := .seq c7_56 .ret
noncomputable def c7_18 : ACode := .seq c7_19 c7_55
noncomputable def c7_16 : ACode := .seq c7_17 c7_18
noncomputable def c7_10 : ACode := .seq c7_11 c7_16
noncomputable def c7_8 : ACode := .seq c7_9 c7_10
noncomputable def c7_2 : ACode := .seq c7_3 c7_8
noncomputable def c7_0 : ACode := .seq c7_1 c7_2
noncomputable def code7 : Code := (Try.f7.body).getD .skip
theorem c7_ok : compC Try.prog 122 code7 = some (strip c7_0) := by kernel_rfl
theorem res7_ok : Try.f7.results.toList.mapM (resC Try.prog) = some [(8, none)] := by kernel_rfl
theorem gravesRise_walk (W : World) (site t2 : Int) (sl : Sl AcG) (key : ByteArray) (h0 : IntKind.u8.min ≤ site ∧ site ≤ IntKind.u8.max) (h0' : IntKind.u8.min ≤ t2 ∧ t2 ≤ IntKind.u8.max) (hz : Sl.ok W 10 AcG.rep (AcG.ok W) sl) :
    Calls Try.prog 7 #[.int .u8 site, .int .u8 t2, .slice sl.ad sl.l.length sl.cap, .string key] W fun e W' => e = .returned (.bool true) ∧ Below W.heap.size W W' := by
  obtain ⟨ad, off, cap, l⟩ := sl
  obtain ⟨hz, -, hl⟩ := hz
  have hl : l.length ≤ 9223372036854775807 := by simpa [maxLen] using hl
  simp only at hz
  obtain ⟨h1, h2⟩ : 0 ≤ site ∧ site ≤ 255 := h0
  obtain ⟨h3, h4⟩ : 0 ≤ t2 ∧ t2 ≤ 255 := h0'
  have hr := rg_ren off l
  have hp := Ue.rp_ren 0
  have hlen := rg_len off l
  have hf := few11_any off l hl
  have sp := speaks11_any
  cases hs : fewG l with
  | false =>
    rw [hs] at hf
    refine top_call c7_ok Try.func7 rfl Try.ntmps7 res7_ok [ .val (.int .u8 site), .val (.int .u8 t2), .val (.slice ad l.length cap), .val (.string key)] (by simp) (by (repeat' (first | exact VRs_nil' _ | exact VR_val' _ _ | (refine VRs_cons' ?_ ?_) | (refine VR_agg' (by first | rfl | assumption) ?_; first | assumption | simp [Value.oneCell', St.rep, En.rep, AcG.rep])))) ?_; try simp (maxSteps := 9999999) (disch := omega) only [go_sem]
    refine AWpA.thawT 2 AgL hz (fun x => by simp [AcG.rep, En.rep, St.rep]) rfl ?_
    (repeat' (first | refine AWpA.seq ?_ | refine AWpA.block ?_ | (with_reducible refine CondP.tt ?_) | (with_reducible refine CondP.ff ?_) | refine AWpA.condv (by simp (maxSteps := 9999999) (disch := omega) only [go_sem, hr]; rfl) ?_ | ((first | (apply AWpA.region; (focus (simp (maxSteps := 9999999) (disch := omega) only [go_sem, hr]; rfl))) | (apply AWpA.draw [] [] follows; (focus (first | rfl | decide)); (focus (simp (maxSteps := 9999999) (disch := omega) only [go_sem, hr]; rfl)); (focus (simp (maxSteps := 9999999) (disch := omega) only [go_sem, hr]; first | done | trivial)); (focus (simp (maxSteps := 9999999) (disch := omega) only [go_sem, hr]; rfl))) | (apply TailK.go; (focus (simp (maxSteps := 9999999) (disch := omega) only [go_sem, hr]; rfl))) | refine AWpA.skip ?_ | refine AWpA.exit ?_ | refine AWpA.ret ?_ | (with_reducible refine ARoundsA.succ ?_) | ((first | refine Runs.kt (by assumption) (fun h9 => ?_) | refine Runs.kf (by assumption) (fun h9 => ?_) | refine Runs.nt (by assumption) (fun h9 => ?_) | refine Runs.nf (by assumption) (fun h9 => ?_) | refine CondP.ht (by assumption) (fun h9 => ?_) | refine CondP.hf (by assumption) (fun h9 => ?_) | refine CondP.nt (by assumption) (fun h9 => ?_) | refine CondP.nf (by assumption) (fun h9 => ?_)); (try simp only [h9]); clear h9) | ((first | (with_reducible apply CallG.plain1 [] (sp)) | (with_reducible apply CallG.draw1 [] (sp))); (focus ((try refine And.intro (leAs_of_eq rfl) ?_); (try refine And.intro (leOL_of_eq rfl) ?_); simp (maxSteps := 9999999) (disch := omega) only [go_sem, hr]; first | done | (repeat' (first | rfl | (refine And.intro ?_ ?_))))); (focus (simp (maxSteps := 9999999) (disch := omega) only [go_sem, hr]; rfl))) | ((first | (with_reducible apply CallG.plain1 [0] (hf)) | (with_reducible apply CallG.draw1 [0] (hf))); (focus ((try refine And.intro (leAs_of_eq rfl) ?_); (try refine And.intro (leOL_of_eq rfl) ?_); simp (maxSteps := 9999999) (disch := omega) only [go_sem, hr]; first | done | (repeat' (first | rfl | (refine And.intro ?_ ?_))))); (focus (simp (maxSteps := 9999999) (disch := omega) only [go_sem, hr]; rfl)))); (try simp (maxSteps := 9999999) (disch := omega) only [go_sem, hr]); (try (refine And.intro ?_ ?_; (focus (first | omega | (simp only [go_sem]; done) | (simp; done) | (simp; omega) | assumption))))) | ((first | refine CondP.split (fun hif => ?_) (fun hif => ?_) | refine Runs.part (fun hif => ?_) (fun hif => ?_)) <;> ((try simp only [hif]); (try simp only [decide_eq_true_eq, decide_eq_false_iff_not, Bool.not_eq_true, Bool.not_eq_false, Bool.not_eq_true', Bool.not_eq_false', beq_iff_eq, bne_iff_ne, bne_eq_false_iff_eq, beq_eq_false_iff_ne, ne_eq, Bool.and_eq_true, Bool.or_eq_true, Bool.or_eq_false_iff] at hif); (try (have h9 : _ = true := hif; simp only [h9])); (try (have h9 : _ = false := hif; simp only [h9])); (try simp (maxSteps := 9999999) (disch := omega) only [go_sem, hr]); (try (refine And.intro ?_ ?_; (focus (first | omega | (simp only [go_sem]; done) | (simp; done) | (simp; omega) | assumption)))); (try (exfalso; omega; done))))))
    (refine TopPost.of (by first | exact .inl rfl | exact .inr rfl) (by (try simp (maxSteps := 9999999) (disch := omega) only [go_sem]); rfl) ?_; (try simp (maxSteps := 9999999) (disch := omega) only [go_sem]); (try (first | trivial | decide | (simp; done))))
  | true =>
  rw [hs] at hf
  by_cases h16 : (16 : Int) < (key.size : Int)
  · have g1 : ((16 : Int) < (key.size : Int)) = True := eq_true h16
    refine top_call c7_ok Try.func7 rfl Try.ntmps7 res7_ok [ .val (.int .u8 site), .val (.int .u8 t2), .val (.slice ad l.length cap), .val (.string key)] (by simp) (by (repeat' (first | exact VRs_nil' _ | exact VR_val' _ _ | (refine VRs_cons' ?_ ?_) | (refine VR_agg' (by first | rfl | assumption) ?_; first | assumption | simp [Value.oneCell', St.rep, En.rep, AcG.rep])))) ?_; try simp (maxSteps := 9999999) (disch := omega) only [go_sem]
    refine AWpA.thawT 2 AgL hz (fun x => by simp [AcG.rep, En.rep, St.rep]) rfl ?_
    (repeat' (first | refine AWpA.seq ?_ | refine AWpA.block ?_ | (with_reducible refine CondP.tt ?_) | (with_reducible refine CondP.ff ?_) | refine AWpA.condv (by simp (maxSteps := 9999999) (disch := omega) only [go_sem, hr, g1]; rfl) ?_ | ((first | (apply AWpA.region; (focus (simp (maxSteps := 9999999) (disch := omega) only [go_sem, hr, g1]; rfl))) | (apply AWpA.draw [] [] follows; (focus (first | rfl | decide)); (focus (simp (maxSteps := 9999999) (disch := omega) only [go_sem, hr, g1]; rfl)); (focus (simp (maxSteps := 9999999) (disch := omega) only [go_sem, hr, g1]; first | done | trivial)); (focus (simp (maxSteps := 9999999) (disch := omega) only [go_sem, hr, g1]; rfl))) | (apply TailK.go; (focus (simp (maxSteps := 9999999) (disch := omega) only [go_sem, hr, g1]; rfl))) | refine AWpA.skip ?_ | refine AWpA.exit ?_ | refine AWpA.ret ?_ | (with_reducible refine ARoundsA.succ ?_) | ((first | refine Runs.kt (by assumption) (fun h9 => ?_) | refine Runs.kf (by assumption) (fun h9 => ?_) | refine Runs.nt (by assumption) (fun h9 => ?_) | refine Runs.nf (by assumption) (fun h9 => ?_) | refine CondP.ht (by assumption) (fun h9 => ?_) | refine CondP.hf (by assumption) (fun h9 => ?_) | refine CondP.nt (by assumption) (fun h9 => ?_) | refine CondP.nf (by assumption) (fun h9 => ?_)); (try simp only [h9]); clear h9) | ((first | (with_reducible apply CallG.plain1 [] (sp)) | (with_reducible apply CallG.draw1 [] (sp))); (focus ((try refine And.intro (leAs_of_eq rfl) ?_); (try refine And.intro (leOL_of_eq rfl) ?_); simp (maxSteps := 9999999) (disch := omega) only [go_sem, hr, g1]; first | done | (repeat' (first | rfl | (refine And.intro ?_ ?_))))); (focus (simp (maxSteps := 9999999) (disch := omega) only [go_sem, hr, g1]; rfl))) | ((first | (with_reducible apply CallG.plain1 [0] (hf)) | (with_reducible apply CallG.draw1 [0] (hf))); (focus ((try refine And.intro (leAs_of_eq rfl) ?_); (try refine And.intro (leOL_of_eq rfl) ?_); simp (maxSteps := 9999999) (disch := omega) only [go_sem, hr, g1]; first | done | (repeat' (first | rfl | (refine And.intro ?_ ?_))))); (focus (simp (maxSteps := 9999999) (disch := omega) only [go_sem, hr, g1]; rfl)))); (try simp (maxSteps := 9999999) (disch := omega) only [go_sem, hr, g1]); (try (refine And.intro ?_ ?_; (focus (first | omega | (simp only [go_sem]; done) | (simp; done) | (simp; omega) | assumption))))) | ((first | refine CondP.split (fun hif => ?_) (fun hif => ?_) | refine Runs.part (fun hif => ?_) (fun hif => ?_)) <;> ((try simp only [hif]); (try simp only [decide_eq_true_eq, decide_eq_false_iff_not, Bool.not_eq_true, Bool.not_eq_false, Bool.not_eq_true', Bool.not_eq_false', beq_iff_eq, bne_iff_ne, bne_eq_false_iff_eq, beq_eq_false_iff_ne, ne_eq, Bool.and_eq_true, Bool.or_eq_true, Bool.or_eq_false_iff] at hif); (try (have h9 : _ = true := hif; simp only [h9])); (try (have h9 : _ = false := hif; simp only [h9])); (try simp (maxSteps := 9999999) (disch := omega) only [go_sem, hr, g1]); (try (refine And.intro ?_ ?_; (focus (first | omega | (simp only [go_sem]; done) | (simp; done) | (simp; omega) | assumption)))); (try (exfalso; omega; done))))))
    (refine TopPost.of (by first | exact .inl rfl | exact .inr rfl) (by (try simp (maxSteps := 9999999) (disch := omega) only [go_sem]); rfl) ?_; (try simp (maxSteps := 9999999) (disch := omega) only [go_sem]); (try (first | trivial | decide | (simp; done))))
  have g1 : ((16 : Int) < (key.size : Int)) = False := eq_false h16
  have h50 : l.length ≤ 50 := by unfold fewG at hs; simp at hs; exact hs.2
  clear hs
  obtain ⟨k, hk, hk12⟩ : ∃ k : Nat, site.tmod 12 = (k : Int) ∧ k < 12 := by
    rw [Int.tmod_eq_emod_of_nonneg h1]
    refine ⟨(site % 12).toNat, ?_, ?_⟩ <;> omega
  have n1 := gnew_any k t2 (by omega) (by omega)
  have hno : Ue.getP [] key = Ue.noE := rfl
  have hnh : Ue.hasP' [] key = false := rfl
  refine top_call c7_ok Try.func7 rfl Try.ntmps7 res7_ok [ .val (.int .u8 site), .val (.int .u8 t2), .val (.slice ad l.length cap), .val (.string key)] (by simp) (by (repeat' (first | exact VRs_nil' _ | exact VR_val' _ _ | (refine VRs_cons' ?_ ?_) | (refine VR_agg' (by first | rfl | assumption) ?_; first | assumption | simp [Value.oneCell', St.rep, En.rep, AcG.rep])))) ?_; try simp (maxSteps := 9999999) (disch := omega) only [go_sem]
  refine AWpA.thawT 2 AgL hz (fun x => by simp [AcG.rep, En.rep, St.rep]) rfl ?_
  refine AWpA.dummy ?_
  (repeat' (first | refine AWpA.seq ?_ | refine AWpA.block ?_ | (with_reducible refine CondP.tt ?_) | (with_reducible refine CondP.ff ?_) | refine AWpA.condv (by simp (maxSteps := 9999999) (disch := omega) only [go_sem, hr, hk, hp, g1]; rfl) ?_ | ((first | (apply AWpA.region; (focus (simp (maxSteps := 9999999) (disch := omega) only [go_sem, hr, hk, hp, g1]; rfl))) | (apply AWpA.draw [] [] follows; (focus (first | rfl | decide)); (focus (simp (maxSteps := 9999999) (disch := omega) only [go_sem, hr, hk, hp, g1]; rfl)); (focus (simp (maxSteps := 9999999) (disch := omega) only [go_sem, hr, hk, hp, g1]; first | done | trivial)); (focus (simp (maxSteps := 9999999) (disch := omega) only [go_sem, hr, hk, hp, g1]; rfl))) | (apply TailK.go; (focus (simp (maxSteps := 9999999) (disch := omega) only [go_sem, hr, hk, hp, g1]; rfl))) | refine AWpA.skip ?_ | refine AWpA.exit ?_ | refine AWpA.ret ?_ | (with_reducible refine ARoundsA.succ ?_) | ((first | refine Runs.kt (by assumption) (fun h9 => ?_) | refine Runs.kf (by assumption) (fun h9 => ?_) | refine Runs.nt (by assumption) (fun h9 => ?_) | refine Runs.nf (by assumption) (fun h9 => ?_) | refine CondP.ht (by assumption) (fun h9 => ?_) | refine CondP.hf (by assumption) (fun h9 => ?_) | refine CondP.nt (by assumption) (fun h9 => ?_) | refine CondP.nf (by assumption) (fun h9 => ?_)); (try simp only [h9]); clear h9) | ((first | (with_reducible apply CallG.plain1 [] (sp)) | (with_reducible apply CallG.draw1 [] (sp))); (focus ((try refine And.intro (leAs_of_eq rfl) ?_); (try refine And.intro (leOL_of_eq rfl) ?_); simp (maxSteps := 9999999) (disch := omega) only [go_sem, hr, hk, hp, g1]; first | done | (repeat' (first | rfl | (refine And.intro ?_ ?_))))); (focus (simp (maxSteps := 9999999) (disch := omega) only [go_sem, hr, hk, hp, g1]; rfl))) | ((first | (with_reducible apply CallG.plain1 [0] (hf)) | (with_reducible apply CallG.draw1 [0] (hf))); (focus ((try refine And.intro (leAs_of_eq rfl) ?_); (try refine And.intro (leOL_of_eq rfl) ?_); simp (maxSteps := 9999999) (disch := omega) only [go_sem, hr, hk, hp, g1]; first | done | (repeat' (first | rfl | (refine And.intro ?_ ?_))))); (focus (simp (maxSteps := 9999999) (disch := omega) only [go_sem, hr, hk, hp, g1]; rfl))) | ((first | (with_reducible apply CallG.plain1 [] (n1)) | (with_reducible apply CallG.draw1 [] (n1))); (focus ((try refine And.intro (leAs_of_eq rfl) ?_); (try refine And.intro (leOL_of_eq rfl) ?_); simp (maxSteps := 9999999) (disch := omega) only [go_sem, hr, hk, hp, g1]; first | done | (repeat' (first | rfl | (refine And.intro ?_ ?_))))); (focus (simp (maxSteps := 9999999) (disch := omega) only [go_sem, hr, hk, hp, g1]; rfl)))); (try simp (maxSteps := 9999999) (disch := omega) only [go_sem, hr, hk, hp, g1]); (try (refine And.intro ?_ ?_; (focus (first | omega | (simp only [go_sem]; done) | (simp; done) | (simp; omega) | assumption))))) | ((first | refine CondP.split (fun hif => ?_) (fun hif => ?_) | refine Runs.part (fun hif => ?_) (fun hif => ?_)) <;> ((try simp only [hif]); (try simp only [decide_eq_true_eq, decide_eq_false_iff_not, Bool.not_eq_true, Bool.not_eq_false, Bool.not_eq_true', Bool.not_eq_false', beq_iff_eq, bne_iff_ne, bne_eq_false_iff_eq, beq_eq_false_iff_ne, ne_eq, Bool.and_eq_true, Bool.or_eq_true, Bool.or_eq_false_iff] at hif); (try (have h9 : _ = true := hif; simp only [h9])); (try (have h9 : _ = false := hif; simp only [h9])); (try simp (maxSteps := 9999999) (disch := omega) only [go_sem, hr, hk, hp, g1]); (try (refine And.intro ?_ ?_; (focus (first | omega | (simp only [go_sem]; done) | (simp; done) | (simp; omega) | assumption)))); (try (exfalso; omega; done))))))
  (apply AWpA.loopL (fun p : Nat × List PE => [(0, .val (.int .u8 site)), (1, .val (.int .u8 t2)), (3, .val (.string key)), (9, .ptr 1 0), (11, .ptr 4 0), (12, Bo (Ue.hasP' p.2 key)), (48, .sl 0 off l.length 10 none), (49, I l.length), (50, I p.1)]) (fun p => [.cells true (Rg off l), GrO 2 k t2, Ue.TbO 3 ⟨4096, p.2⟩, .cells false (Ue.Rp 0 p.2), .cells false (EnL (Ue.getP p.2 key))]) (fun p => l.length - p.1) (fun p => p.1 ≤ l.length ∧ p.2.length ≤ p.1 ∧ GI k t2 p.2) ((0, [])) [0, _, _, 1, _]; rotate_left; (focus (simp (maxSteps := 9999999) (disch := omega) only [go_sem, hr, hp, Ue.rp_nil, hno, hnh]; (try (repeat' (first | done | trivial | rfl | exact leAs_rfl _ | decide | (refine And.intro ?_ ?_) | (simp; done) | omega | (simp; decide)))))); rotate_right)
  · exact ⟨Nat.zero_le _, Nat.le_refl _, gi_nil _ _⟩
  rintro ⟨i, m⟩ ⟨hi, hm, hg⟩
  (try simp only at hi hm hg)
  by_cases hin : i < l.length
  · have k1 : ((i : Int) < (l.length : Int)) = True := eq_true (by omega)
    have hat := rg_at off l i hin
    have hbe : ∀ x : ByteArray, (x == x) = true := fun x => (_root_.Go.MapKept.bytes_beq _ _).2 rfl
    generalize l[i] = x at *
    cases htk : x.tick with
    | true =>
      have c1 := tick_any k t2 4096 m (hg.ok (by omega)) (by omega)
      have hg2 := tick_gi hg
      have hst : Ue.hasP' m key = true → Ue.hasP' (tickL t2 m) key = true → laterB (Ue.getP m key).st (Ue.getP (tickL t2 m) key).st = false := fun _ h => tick_st hg key h
      have htl : (tickL t2 m).length ≤ m.length + 1 := by have := tick_len t2 m; omega
      generalize goneL t2 m = gn at *
      generalize tickL t2 m = m' at *
      have hml : m'.length ≤ i + 1 := by omega
      clear htl
      have c2 := Ue.tget_any ⟨4096, m'⟩ key ⟨hg2.rise, by simp only; omega⟩
      have c0 := to05_any (Ue.getP m key)
      have c3 := to05_any (Ue.getP m' key)
      have c4 := later_any (Ue.getP m key).st (Ue.getP m' key).st
      simp only at c2
      cases hh : Ue.hasP' m' key with
      | false =>
        rw [hh] at c2
        clear hst c4
        generalize hn' : Ue.getP m' key = nw at *
        generalize Ue.getP m key = was at *
        generalize Ue.hasP' m key = had at *
        (try simp (maxSteps := 9999999) (disch := omega) only [go_sem])
        (repeat' (first | refine AWpA.seq ?_ | refine AWpA.block ?_ | (with_reducible refine CondP.tt ?_) | (with_reducible refine CondP.ff ?_) | refine AWpA.condv (by simp (maxSteps := 9999999) (disch := omega) only [go_sem, hr, hp, rk_ren, hlen, hat, htk, hk, hbe, k1]; rfl) ?_ | ((first | (apply AWpA.region; (focus (simp (maxSteps := 9999999) (disch := omega) only [go_sem, hr, hp, rk_ren, hlen, hat, htk, hk, hbe, k1]; rfl))) | (apply AWpA.draw [1, 2, 3] [] follows; (focus (first | rfl | decide)); (focus (simp (maxSteps := 9999999) (disch := omega) only [go_sem, hr, hp, rk_ren, hlen, hat, htk, hk, hbe, k1]; rfl)); (focus (simp (maxSteps := 9999999) (disch := omega) only [go_sem, hr, hp, rk_ren, hlen, hat, htk, hk, hbe, k1]; first | done | trivial)); (focus (simp (maxSteps := 9999999) (disch := omega) only [go_sem, hr, hp, rk_ren, hlen, hat, htk, hk, hbe, k1]; rfl))) | (apply TailK.go; (focus (simp (maxSteps := 9999999) (disch := omega) only [go_sem, hr, hp, rk_ren, hlen, hat, htk, hk, hbe, k1]; rfl))) | refine AWpA.skip ?_ | refine AWpA.exit ?_ | refine AWpA.ret ?_ | (with_reducible refine ARoundsA.succ ?_) | ((first | refine Runs.kt (by assumption) (fun h9 => ?_) | refine Runs.kf (by assumption) (fun h9 => ?_) | refine Runs.nt (by assumption) (fun h9 => ?_) | refine Runs.nf (by assumption) (fun h9 => ?_) | refine CondP.ht (by assumption) (fun h9 => ?_) | refine CondP.hf (by assumption) (fun h9 => ?_) | refine CondP.nt (by assumption) (fun h9 => ?_) | refine CondP.nf (by assumption) (fun h9 => ?_)); (try simp only [h9]); clear h9) | ((first | (with_reducible apply CallG.plain1 [1, 2, 3] (c1)) | (with_reducible apply CallG.draw1 [1, 2, 3] (c1))); (focus ((try refine And.intro (leAs_of_eq rfl) ?_); (try refine And.intro (leOL_of_eq rfl) ?_); simp (maxSteps := 9999999) (disch := omega) only [go_sem, hr, hp, rk_ren, hlen, hat, htk, hk, hbe, k1]; first | done | (repeat' (first | rfl | (refine And.intro ?_ ?_))))); (focus (simp (maxSteps := 9999999) (disch := omega) only [go_sem, hr, hp, rk_ren, hlen, hat, htk, hk, hbe, k1]; rfl))) | ((first | (with_reducible apply CallG.plain1 [2, 133] (c2)) | (with_reducible apply CallG.draw1 [2, 133] (c2))); (focus ((try refine And.intro (leAs_of_eq rfl) ?_); (try refine And.intro (leOL_of_eq rfl) ?_); simp (maxSteps := 9999999) (disch := omega) only [go_sem, hr, hp, rk_ren, hlen, hat, htk, hk, hbe, k1]; first | done | (repeat' (first | rfl | (refine And.intro ?_ ?_))))); (focus (simp (maxSteps := 9999999) (disch := omega) only [go_sem, hr, hp, rk_ren, hlen, hat, htk, hk, hbe, k1]; rfl))) | ((first | (with_reducible apply CallG.plain1 [] (c0)) | (with_reducible apply CallG.draw1 [] (c0))); (focus ((try refine And.intro (leAs_of_eq rfl) ?_); (try refine And.intro (leOL_of_eq rfl) ?_); simp (maxSteps := 9999999) (disch := omega) only [go_sem, hr, hp, rk_ren, hlen, hat, htk, hk, hbe, k1]; first | done | (repeat' (first | rfl | (refine And.intro ?_ ?_))))); (focus (simp (maxSteps := 9999999) (disch := omega) only [go_sem, hr, hp, rk_ren, hlen, hat, htk, hk, hbe, k1]; rfl))) | ((first | (with_reducible apply CallG.plain1 [] (c3)) | (with_reducible apply CallG.draw1 [] (c3))); (focus ((try refine And.intro (leAs_of_eq rfl) ?_); (try refine And.intro (leOL_of_eq rfl) ?_); simp (maxSteps := 9999999) (disch := omega) only [go_sem, hr, hp, rk_ren, hlen, hat, htk, hk, hbe, k1]; first | done | (repeat' (first | rfl | (refine And.intro ?_ ?_))))); (focus (simp (maxSteps := 9999999) (disch := omega) only [go_sem, hr, hp, rk_ren, hlen, hat, htk, hk, hbe, k1]; rfl)))); (try simp (maxSteps := 9999999) (disch := omega) only [go_sem, hr, hp, rk_ren, hlen, hat, htk, hk, hbe, k1]); (try (refine And.intro ?_ ?_; (focus (first | omega | (simp only [go_sem]; done) | (simp; done) | (simp; omega) | assumption))))) | ((first | refine CondP.split (fun hif => ?_) (fun hif => ?_) | refine Runs.part (fun hif => ?_) (fun hif => ?_)) <;> ((try simp only [hif]); (try simp only [decide_eq_true_eq, decide_eq_false_iff_not, Bool.not_eq_true, Bool.not_eq_false, Bool.not_eq_true', Bool.not_eq_false', beq_iff_eq, bne_iff_ne, bne_eq_false_iff_eq, beq_eq_false_iff_ne, ne_eq, Bool.and_eq_true, Bool.or_eq_true, Bool.or_eq_false_iff] at hif); (try (have h9 : _ = true := hif; simp only [h9])); (try (have h9 : _ = false := hif; simp only [h9])); (try simp (maxSteps := 9999999) (disch := omega) only [go_sem, hr, hp, rk_ren, hlen, hat, htk, hk, hbe, k1]); (try (refine And.intro ?_ ?_; (focus (first | omega | (simp only [go_sem]; done) | (simp; done) | (simp; omega) | assumption)))); (try (exfalso; omega; done))))))
        (apply Back.to (i + 1, m') [0, 1, 2, 133, 4]; (focus ((try simp (maxSteps := 9999999) (disch := omega) only [go_sem, hr, hp, hn', hh]); first | done | omega)); rotate_left; (focus (simp (maxSteps := 9999999) (disch := omega) only [go_sem, hr, hp, hn', hh]; (try (repeat' (first | done | trivial | rfl | exact leAs_rfl _ | decide | (refine And.intro ?_ ?_) | (simp; done) | omega | (simp; decide)))))))
        exact ⟨by simp only; omega, hml, hg2⟩
      | true =>
        rw [hh] at c2
        have hmem := has_mem hh
        have q1 := hg2.key _ hmem
        have q2 := hg2.dead _ hmem
        have q3 := hg2.age _ hmem
        have q4 := hg2.keep _ hmem
        simp only at q1 q2 q3 q4
        have hst2 := fun h => hst h hh
        clear hst hmem
        generalize hn' : Ue.getP m' key = nw at *
        generalize Ue.getP m key = was at *
        generalize Ue.hasP' m key = had at *
        obtain ⟨nk, nv, nd, ns, na, nkeep, nage⟩ := nw
        simp only at q1 q2 q3 hst2 c4
        subst nk
        subst nd
        have c5 := rduty_any _ k hk12 q4.1
        rw [q4.2] at c5
        clear q4
        have g5 : (nage < 0) = False := eq_false (by omega)
        have g6 : (t2 ≤ nage) = False := eq_false (by omega)
        cases had with
        | false =>
          clear hst2 c4
          (try simp (maxSteps := 9999999) (disch := omega) only [go_sem])
          (repeat' (first | refine AWpA.seq ?_ | refine AWpA.block ?_ | (with_reducible refine CondP.tt ?_) | (with_reducible refine CondP.ff ?_) | refine AWpA.condv (by simp (maxSteps := 9999999) (disch := omega) only [go_sem, hr, hp, rk_ren, hlen, hat, htk, hk, hbe, k1, g5, g6]; rfl) ?_ | ((first | (apply AWpA.region; (focus (simp (maxSteps := 9999999) (disch := omega) only [go_sem, hr, hp, rk_ren, hlen, hat, htk, hk, hbe, k1, g5, g6]; rfl))) | (apply AWpA.draw [1, 2, 3] [] follows; (focus (first | rfl | decide)); (focus (simp (maxSteps := 9999999) (disch := omega) only [go_sem, hr, hp, rk_ren, hlen, hat, htk, hk, hbe, k1, g5, g6]; rfl)); (focus (simp (maxSteps := 9999999) (disch := omega) only [go_sem, hr, hp, rk_ren, hlen, hat, htk, hk, hbe, k1, g5, g6]; first | done | trivial)); (focus (simp (maxSteps := 9999999) (disch := omega) only [go_sem, hr, hp, rk_ren, hlen, hat, htk, hk, hbe, k1, g5, g6]; rfl))) | (apply TailK.go; (focus (simp (maxSteps := 9999999) (disch := omega) only [go_sem, hr, hp, rk_ren, hlen, hat, htk, hk, hbe, k1, g5, g6]; rfl))) | refine AWpA.skip ?_ | refine AWpA.exit ?_ | refine AWpA.ret ?_ | (with_reducible refine ARoundsA.succ ?_) | ((first | refine Runs.kt (by assumption) (fun h9 => ?_) | refine Runs.kf (by assumption) (fun h9 => ?_) | refine Runs.nt (by assumption) (fun h9 => ?_) | refine Runs.nf (by assumption) (fun h9 => ?_) | refine CondP.ht (by assumption) (fun h9 => ?_) | refine CondP.hf (by assumption) (fun h9 => ?_) | refine CondP.nt (by assumption) (fun h9 => ?_) | refine CondP.nf (by assumption) (fun h9 => ?_)); (try simp only [h9]); clear h9) | ((first | (with_reducible apply CallG.plain1 [1, 2, 3] (c1)) | (with_reducible apply CallG.draw1 [1, 2, 3] (c1))); (focus ((try refine And.intro (leAs_of_eq rfl) ?_); (try refine And.intro (leOL_of_eq rfl) ?_); simp (maxSteps := 9999999) (disch := omega) only [go_sem, hr, hp, rk_ren, hlen, hat, htk, hk, hbe, k1, g5, g6]; first | done | (repeat' (first | rfl | (refine And.intro ?_ ?_))))); (focus (simp (maxSteps := 9999999) (disch := omega) only [go_sem, hr, hp, rk_ren, hlen, hat, htk, hk, hbe, k1, g5, g6]; rfl))) | ((first | (with_reducible apply CallG.plain1 [2, 133] (c2)) | (with_reducible apply CallG.draw1 [2, 133] (c2))); (focus ((try refine And.intro (leAs_of_eq rfl) ?_); (try refine And.intro (leOL_of_eq rfl) ?_); simp (maxSteps := 9999999) (disch := omega) only [go_sem, hr, hp, rk_ren, hlen, hat, htk, hk, hbe, k1, g5, g6]; first | done | (repeat' (first | rfl | (refine And.intro ?_ ?_))))); (focus (simp (maxSteps := 9999999) (disch := omega) only [go_sem, hr, hp, rk_ren, hlen, hat, htk, hk, hbe, k1, g5, g6]; rfl))) | ((first | (with_reducible apply CallG.plain1 [] (c0)) | (with_reducible apply CallG.draw1 [] (c0))); (focus ((try refine And.intro (leAs_of_eq rfl) ?_); (try refine And.intro (leOL_of_eq rfl) ?_); simp (maxSteps := 9999999) (disch := omega) only [go_sem, hr, hp, rk_ren, hlen, hat, htk, hk, hbe, k1, g5, g6]; first | done | (repeat' (first | rfl | (refine And.intro ?_ ?_))))); (focus (simp (maxSteps := 9999999) (disch := omega) only [go_sem, hr, hp, rk_ren, hlen, hat, htk, hk, hbe, k1, g5, g6]; rfl))) | ((first | (with_reducible apply CallG.plain1 [] (c3)) | (with_reducible apply CallG.draw1 [] (c3))); (focus ((try refine And.intro (leAs_of_eq rfl) ?_); (try refine And.intro (leOL_of_eq rfl) ?_); simp (maxSteps := 9999999) (disch := omega) only [go_sem, hr, hp, rk_ren, hlen, hat, htk, hk, hbe, k1, g5, g6]; first | done | (repeat' (first | rfl | (refine And.intro ?_ ?_))))); (focus (simp (maxSteps := 9999999) (disch := omega) only [go_sem, hr, hp, rk_ren, hlen, hat, htk, hk, hbe, k1, g5, g6]; rfl))) | ((first | (with_reducible apply CallG.plain1 [] (c5)) | (with_reducible apply CallG.draw1 [] (c5))); (focus ((try refine And.intro (leAs_of_eq rfl) ?_); (try refine And.intro (leOL_of_eq rfl) ?_); simp (maxSteps := 9999999) (disch := omega) only [go_sem, hr, hp, rk_ren, hlen, hat, htk, hk, hbe, k1, g5, g6]; first | done | (repeat' (first | rfl | (refine And.intro ?_ ?_))))); (focus (simp (maxSteps := 9999999) (disch := omega) only [go_sem, hr, hp, rk_ren, hlen, hat, htk, hk, hbe, k1, g5, g6]; rfl)))); (try simp (maxSteps := 9999999) (disch := omega) only [go_sem, hr, hp, rk_ren, hlen, hat, htk, hk, hbe, k1, g5, g6]); (try (refine And.intro ?_ ?_; (focus (first | omega | (simp only [go_sem]; done) | (simp; done) | (simp; omega) | assumption))))) | ((first | refine CondP.split (fun hif => ?_) (fun hif => ?_) | refine Runs.part (fun hif => ?_) (fun hif => ?_)) <;> ((try simp only [hif]); (try simp only [decide_eq_true_eq, decide_eq_false_iff_not, Bool.not_eq_true, Bool.not_eq_false, Bool.not_eq_true', Bool.not_eq_false', beq_iff_eq, bne_iff_ne, bne_eq_false_iff_eq, beq_eq_false_iff_ne, ne_eq, Bool.and_eq_true, Bool.or_eq_true, Bool.or_eq_false_iff] at hif); (try (have h9 : _ = true := hif; simp only [h9])); (try (have h9 : _ = false := hif; simp only [h9])); (try simp (maxSteps := 9999999) (disch := omega) only [go_sem, hr, hp, rk_ren, hlen, hat, htk, hk, hbe, k1, g5, g6]); (try (refine And.intro ?_ ?_; (focus (first | omega | (simp only [go_sem]; done) | (simp; done) | (simp; omega) | assumption)))); (try (exfalso; omega; done))))))
          (apply Back.to (i + 1, m') [0, 1, 2, 133, 4]; (focus ((try simp (maxSteps := 9999999) (disch := omega) only [go_sem, hr, hp, hn', hh]); first | done | omega)); rotate_left; (focus (simp (maxSteps := 9999999) (disch := omega) only [go_sem, hr, hp, hn', hh]; (try (repeat' (first | done | trivial | rfl | exact leAs_rfl _ | decide | (refine And.intro ?_ ?_) | (simp; done) | omega | (simp; decide)))))))
          exact ⟨by simp only; omega, hml, hg2⟩
        | true =>
          rw [hst2 rfl] at c4
          clear hst2
          (try simp (maxSteps := 9999999) (disch := omega) only [go_sem])
          (repeat' (first | refine AWpA.seq ?_ | refine AWpA.block ?_ | (with_reducible refine CondP.tt ?_) | (with_reducible refine CondP.ff ?_) | refine AWpA.condv (by simp (maxSteps := 9999999) (disch := omega) only [go_sem, hr, hp, rk_ren, hlen, hat, htk, hk, hbe, k1, g5, g6]; rfl) ?_ | ((first | (apply AWpA.region; (focus (simp (maxSteps := 9999999) (disch := omega) only [go_sem, hr, hp, rk_ren, hlen, hat, htk, hk, hbe, k1, g5, g6]; rfl))) | (apply AWpA.draw [1, 2, 3] [] follows; (focus (first | rfl | decide)); (focus (simp (maxSteps := 9999999) (disch := omega) only [go_sem, hr, hp, rk_ren, hlen, hat, htk, hk, hbe, k1, g5, g6]; rfl)); (focus (simp (maxSteps := 9999999) (disch := omega) only [go_sem, hr, hp, rk_ren, hlen, hat, htk, hk, hbe, k1, g5, g6]; first | done | trivial)); (focus (simp (maxSteps := 9999999) (disch := omega) only [go_sem, hr, hp, rk_ren, hlen, hat, htk, hk, hbe, k1, g5, g6]; rfl))) | (apply TailK.go; (focus (simp (maxSteps := 9999999) (disch := omega) only [go_sem, hr, hp, rk_ren, hlen, hat, htk, hk, hbe, k1, g5, g6]; rfl))) | refine AWpA.skip ?_ | refine AWpA.exit ?_ | refine AWpA.ret ?_ | (with_reducible refine ARoundsA.succ ?_) | ((first | refine Runs.kt (by assumption) (fun h9 => ?_) | refine Runs.kf (by assumption) (fun h9 => ?_) | refine Runs.nt (by assumption) (fun h9 => ?_) | refine Runs.nf (by assumption) (fun h9 => ?_) | refine CondP.ht (by assumption) (fun h9 => ?_) | refine CondP.hf (by assumption) (fun h9 => ?_) | refine CondP.nt (by assumption) (fun h9 => ?_) | refine CondP.nf (by assumption) (fun h9 => ?_)); (try simp only [h9]); clear h9) | ((first | (with_reducible apply CallG.plain1 [1, 2, 3] (c1)) | (with_reducible apply CallG.draw1 [1, 2, 3] (c1))); (focus ((try refine And.intro (leAs_of_eq rfl) ?_); (try refine And.intro (leOL_of_eq rfl) ?_); simp (maxSteps := 9999999) (disch := omega) only [go_sem, hr, hp, rk_ren, hlen, hat, htk, hk, hbe, k1, g5, g6]; first | done | (repeat' (first | rfl | (refine And.intro ?_ ?_))))); (focus (simp (maxSteps := 9999999) (disch := omega) only [go_sem, hr, hp, rk_ren, hlen, hat, htk, hk, hbe, k1, g5, g6]; rfl))) | ((first | (with_reducible apply CallG.plain1 [2, 133] (c2)) | (with_reducible apply CallG.draw1 [2, 133] (c2))); (focus ((try refine And.intro (leAs_of_eq rfl) ?_); (try refine And.intro (leOL_of_eq rfl) ?_); simp (maxSteps := 9999999) (disch := omega) only [go_sem, hr, hp, rk_ren, hlen, hat, htk, hk, hbe, k1, g5, g6]; first | done | (repeat' (first | rfl | (refine And.intro ?_ ?_))))); (focus (simp (maxSteps := 9999999) (disch := omega) only [go_sem, hr, hp, rk_ren, hlen, hat, htk, hk, hbe, k1, g5, g6]; rfl))) | ((first | (with_reducible apply CallG.plain1 [] (c0)) | (with_reducible apply CallG.draw1 [] (c0))); (focus ((try refine And.intro (leAs_of_eq rfl) ?_); (try refine And.intro (leOL_of_eq rfl) ?_); simp (maxSteps := 9999999) (disch := omega) only [go_sem, hr, hp, rk_ren, hlen, hat, htk, hk, hbe, k1, g5, g6]; first | done | (repeat' (first | rfl | (refine And.intro ?_ ?_))))); (focus (simp (maxSteps := 9999999) (disch := omega) only [go_sem, hr, hp, rk_ren, hlen, hat, htk, hk, hbe, k1, g5, g6]; rfl))) | ((first | (with_reducible apply CallG.plain1 [] (c3)) | (with_reducible apply CallG.draw1 [] (c3))); (focus ((try refine And.intro (leAs_of_eq rfl) ?_); (try refine And.intro (leOL_of_eq rfl) ?_); simp (maxSteps := 9999999) (disch := omega) only [go_sem, hr, hp, rk_ren, hlen, hat, htk, hk, hbe, k1, g5, g6]; first | done | (repeat' (first | rfl | (refine And.intro ?_ ?_))))); (focus (simp (maxSteps := 9999999) (disch := omega) only [go_sem, hr, hp, rk_ren, hlen, hat, htk, hk, hbe, k1, g5, g6]; rfl))) | ((first | (with_reducible apply CallG.plain1 [] (c4)) | (with_reducible apply CallG.draw1 [] (c4))); (focus ((try refine And.intro (leAs_of_eq rfl) ?_); (try refine And.intro (leOL_of_eq rfl) ?_); simp (maxSteps := 9999999) (disch := omega) only [go_sem, hr, hp, rk_ren, hlen, hat, htk, hk, hbe, k1, g5, g6]; first | done | (repeat' (first | rfl | (refine And.intro ?_ ?_))))); (focus (simp (maxSteps := 9999999) (disch := omega) only [go_sem, hr, hp, rk_ren, hlen, hat, htk, hk, hbe, k1, g5, g6]; rfl))) | ((first | (with_reducible apply CallG.plain1 [] (c5)) | (with_reducible apply CallG.draw1 [] (c5))); (focus ((try refine And.intro (leAs_of_eq rfl) ?_); (try refine And.intro (leOL_of_eq rfl) ?_); simp (maxSteps := 9999999) (disch := omega) only [go_sem, hr, hp, rk_ren, hlen, hat, htk, hk, hbe, k1, g5, g6]; first | done | (repeat' (first | rfl | (refine And.intro ?_ ?_))))); (focus (simp (maxSteps := 9999999) (disch := omega) only [go_sem, hr, hp, rk_ren, hlen, hat, htk, hk, hbe, k1, g5, g6]; rfl)))); (try simp (maxSteps := 9999999) (disch := omega) only [go_sem, hr, hp, rk_ren, hlen, hat, htk, hk, hbe, k1, g5, g6]); (try (refine And.intro ?_ ?_; (focus (first | omega | (simp only [go_sem]; done) | (simp; done) | (simp; omega) | assumption))))) | ((first | refine CondP.split (fun hif => ?_) (fun hif => ?_) | refine Runs.part (fun hif => ?_) (fun hif => ?_)) <;> ((try simp only [hif]); (try simp only [decide_eq_true_eq, decide_eq_false_iff_not, Bool.not_eq_true, Bool.not_eq_false, Bool.not_eq_true', Bool.not_eq_false', beq_iff_eq, bne_iff_ne, bne_eq_false_iff_eq, beq_eq_false_iff_ne, ne_eq, Bool.and_eq_true, Bool.or_eq_true, Bool.or_eq_false_iff] at hif); (try (have h9 : _ = true := hif; simp only [h9])); (try (have h9 : _ = false := hif; simp only [h9])); (try simp (maxSteps := 9999999) (disch := omega) only [go_sem, hr, hp, rk_ren, hlen, hat, htk, hk, hbe, k1, g5, g6]); (try (refine And.intro ?_ ?_; (focus (first | omega | (simp only [go_sem]; done) | (simp; done) | (simp; omega) | assumption)))); (try (exfalso; omega; done))))))
          (apply Back.to (i + 1, m') [0, 1, 2, 133, 4]; (focus ((try simp (maxSteps := 9999999) (disch := omega) only [go_sem, hr, hp, hn', hh]); first | done | omega)); rotate_left; (focus (simp (maxSteps := 9999999) (disch := omega) only [go_sem, hr, hp, hn', hh]; (try (repeat' (first | done | trivial | rfl | exact leAs_rfl _ | decide | (refine And.intro ?_ ?_) | (simp; done) | omega | (simp; decide)))))))
          exact ⟨by simp only; omega, hml, hg2⟩
    | false =>
      have c6 := of05_any x.e
      have c1 := bury_any k t2 ⟨4096, m⟩ x.e ⟨hg.rise, by simp only; omega⟩ (by simp only; omega) (fun h => hg.key _ (has_mem h))
      have hg2 := bury_gi hg x.e
      have hst : Ue.hasP' m key = true → Ue.hasP' (buryL k t2 m x.e) key = true → laterB (Ue.getP m key).st (Ue.getP (buryL k t2 m x.e) key).st = false := fun h _ => bury_st hg x.e key h
      have htl := bury_len k t2 m x.e
      simp only at c1
      generalize buryB k t2 m x.e = bb at *
      generalize buryL k t2 m x.e = m' at *
      have hml : m'.length ≤ i + 1 := by omega
      clear htl
      have c2 := Ue.tget_any ⟨4096, m'⟩ key ⟨hg2.rise, by simp only; omega⟩
      have c0 := to05_any (Ue.getP m key)
      have c3 := to05_any (Ue.getP m' key)
      have c4 := later_any (Ue.getP m key).st (Ue.getP m' key).st
      simp only at c2
      cases hh : Ue.hasP' m' key with
      | false =>
        rw [hh] at c2
        clear hst c4
        generalize hn' : Ue.getP m' key = nw at *
        generalize Ue.getP m key = was at *
        generalize Ue.hasP' m key = had at *
        (try simp (maxSteps := 9999999) (disch := omega) only [go_sem])
        (repeat' (first | refine AWpA.seq ?_ | refine AWpA.block ?_ | (with_reducible refine CondP.tt ?_) | (with_reducible refine CondP.ff ?_) | refine AWpA.condv (by simp (maxSteps := 9999999) (disch := omega) only [go_sem, hr, hp, rk_ren, hlen, hat, htk, hk, hbe, k1]; rfl) ?_ | ((first | (apply AWpA.region; (focus (simp (maxSteps := 9999999) (disch := omega) only [go_sem, hr, hp, rk_ren, hlen, hat, htk, hk, hbe, k1]; rfl))) | (apply AWpA.draw [1, 2, 3] [] follows; (focus (first | rfl | decide)); (focus (simp (maxSteps := 9999999) (disch := omega) only [go_sem, hr, hp, rk_ren, hlen, hat, htk, hk, hbe, k1]; rfl)); (focus (simp (maxSteps := 9999999) (disch := omega) only [go_sem, hr, hp, rk_ren, hlen, hat, htk, hk, hbe, k1]; first | done | trivial)); (focus (simp (maxSteps := 9999999) (disch := omega) only [go_sem, hr, hp, rk_ren, hlen, hat, htk, hk, hbe, k1]; rfl))) | (apply TailK.go; (focus (simp (maxSteps := 9999999) (disch := omega) only [go_sem, hr, hp, rk_ren, hlen, hat, htk, hk, hbe, k1]; rfl))) | refine AWpA.skip ?_ | refine AWpA.exit ?_ | refine AWpA.ret ?_ | (with_reducible refine ARoundsA.succ ?_) | ((first | refine Runs.kt (by assumption) (fun h9 => ?_) | refine Runs.kf (by assumption) (fun h9 => ?_) | refine Runs.nt (by assumption) (fun h9 => ?_) | refine Runs.nf (by assumption) (fun h9 => ?_) | refine CondP.ht (by assumption) (fun h9 => ?_) | refine CondP.hf (by assumption) (fun h9 => ?_) | refine CondP.nt (by assumption) (fun h9 => ?_) | refine CondP.nf (by assumption) (fun h9 => ?_)); (try simp only [h9]); clear h9) | ((first | (with_reducible apply CallG.plain1 [] (c6)) | (with_reducible apply CallG.draw1 [] (c6))); (focus ((try refine And.intro (leAs_of_eq rfl) ?_); (try refine And.intro (leOL_of_eq rfl) ?_); simp (maxSteps := 9999999) (disch := omega) only [go_sem, hr, hp, rk_ren, hlen, hat, htk, hk, hbe, k1]; first | done | (repeat' (first | rfl | (refine And.intro ?_ ?_))))); (focus (simp (maxSteps := 9999999) (disch := omega) only [go_sem, hr, hp, rk_ren, hlen, hat, htk, hk, hbe, k1]; rfl))) | ((first | (with_reducible apply CallG.plain1 [1, 2, 3] (c1)) | (with_reducible apply CallG.draw1 [1, 2, 3] (c1))); (focus ((try refine And.intro (leAs_of_eq rfl) ?_); (try refine And.intro (leOL_of_eq rfl) ?_); simp (maxSteps := 9999999) (disch := omega) only [go_sem, hr, hp, rk_ren, hlen, hat, htk, hk, hbe, k1]; first | done | (repeat' (first | rfl | (refine And.intro ?_ ?_))))); (focus (simp (maxSteps := 9999999) (disch := omega) only [go_sem, hr, hp, rk_ren, hlen, hat, htk, hk, hbe, k1]; rfl))) | ((first | (with_reducible apply CallG.plain1 [2, 181] (c2)) | (with_reducible apply CallG.draw1 [2, 181] (c2))); (focus ((try refine And.intro (leAs_of_eq rfl) ?_); (try refine And.intro (leOL_of_eq rfl) ?_); simp (maxSteps := 9999999) (disch := omega) only [go_sem, hr, hp, rk_ren, hlen, hat, htk, hk, hbe, k1]; first | done | (repeat' (first | rfl | (refine And.intro ?_ ?_))))); (focus (simp (maxSteps := 9999999) (disch := omega) only [go_sem, hr, hp, rk_ren, hlen, hat, htk, hk, hbe, k1]; rfl))) | ((first | (with_reducible apply CallG.plain1 [] (c0)) | (with_reducible apply CallG.draw1 [] (c0))); (focus ((try refine And.intro (leAs_of_eq rfl) ?_); (try refine And.intro (leOL_of_eq rfl) ?_); simp (maxSteps := 9999999) (disch := omega) only [go_sem, hr, hp, rk_ren, hlen, hat, htk, hk, hbe, k1]; first | done | (repeat' (first | rfl | (refine And.intro ?_ ?_))))); (focus (simp (maxSteps := 9999999) (disch := omega) only [go_sem, hr, hp, rk_ren, hlen, hat, htk, hk, hbe, k1]; rfl))) | ((first | (with_reducible apply CallG.plain1 [] (c3)) | (with_reducible apply CallG.draw1 [] (c3))); (focus ((try refine And.intro (leAs_of_eq rfl) ?_); (try refine And.intro (leOL_of_eq rfl) ?_); simp (maxSteps := 9999999) (disch := omega) only [go_sem, hr, hp, rk_ren, hlen, hat, htk, hk, hbe, k1]; first | done | (repeat' (first | rfl | (refine And.intro ?_ ?_))))); (focus (simp (maxSteps := 9999999) (disch := omega) only [go_sem, hr, hp, rk_ren, hlen, hat, htk, hk, hbe, k1]; rfl)))); (try simp (maxSteps := 9999999) (disch := omega) only [go_sem, hr, hp, rk_ren, hlen, hat, htk, hk, hbe, k1]); (try (refine And.intro ?_ ?_; (focus (first | omega | (simp only [go_sem]; done) | (simp; done) | (simp; omega) | assumption))))) | ((first | refine CondP.split (fun hif => ?_) (fun hif => ?_) | refine Runs.part (fun hif => ?_) (fun hif => ?_)) <;> ((try simp only [hif]); (try simp only [decide_eq_true_eq, decide_eq_false_iff_not, Bool.not_eq_true, Bool.not_eq_false, Bool.not_eq_true', Bool.not_eq_false', beq_iff_eq, bne_iff_ne, bne_eq_false_iff_eq, beq_eq_false_iff_ne, ne_eq, Bool.and_eq_true, Bool.or_eq_true, Bool.or_eq_false_iff] at hif); (try (have h9 : _ = true := hif; simp only [h9])); (try (have h9 : _ = false := hif; simp only [h9])); (try simp (maxSteps := 9999999) (disch := omega) only [go_sem, hr, hp, rk_ren, hlen, hat, htk, hk, hbe, k1]); (try (refine And.intro ?_ ?_; (focus (first | omega | (simp only [go_sem]; done) | (simp; done) | (simp; omega) | assumption)))); (try (exfalso; omega; done))))))
        (apply Back.to (i + 1, m') [0, 1, 2, 181, 4]; (focus ((try simp (maxSteps := 9999999) (disch := omega) only [go_sem, hr, hp, hn', hh]); first | done | omega)); rotate_left; (focus (simp (maxSteps := 9999999) (disch := omega) only [go_sem, hr, hp, hn', hh]; (try (repeat' (first | done | trivial | rfl | exact leAs_rfl _ | decide | (refine And.intro ?_ ?_) | (simp; done) | omega | (simp; decide)))))))
        exact ⟨by simp only; omega, hml, hg2⟩
      | true =>
        rw [hh] at c2
        have hmem := has_mem hh
        have q1 := hg2.key _ hmem
        have q2 := hg2.dead _ hmem
        have q3 := hg2.age _ hmem
        have q4 := hg2.keep _ hmem
        simp only at q1 q2 q3 q4
        have hst2 := fun h => hst h hh
        clear hst hmem
        generalize hn' : Ue.getP m' key = nw at *
        generalize Ue.getP m key = was at *
        generalize Ue.hasP' m key = had at *
        obtain ⟨nk, nv, nd, ns, na, nkeep, nage⟩ := nw
        simp only at q1 q2 q3 hst2 c4
        subst nk
        subst nd
        have c5 := rduty_any _ k hk12 q4.1
        rw [q4.2] at c5
        clear q4
        have g5 : (nage < 0) = False := eq_false (by omega)
        have g6 : (t2 ≤ nage) = False := eq_false (by omega)
        cases had with
        | false =>
          clear hst2 c4
          (try simp (maxSteps := 9999999) (disch := omega) only [go_sem])
          (repeat' (first | refine AWpA.seq ?_ | refine AWpA.block ?_ | (with_reducible refine CondP.tt ?_) | (with_reducible refine CondP.ff ?_) | refine AWpA.condv (by simp (maxSteps := 9999999) (disch := omega) only [go_sem, hr, hp, rk_ren, hlen, hat, htk, hk, hbe, k1, g5, g6]; rfl) ?_ | ((first | (apply AWpA.region; (focus (simp (maxSteps := 9999999) (disch := omega) only [go_sem, hr, hp, rk_ren, hlen, hat, htk, hk, hbe, k1, g5, g6]; rfl))) | (apply AWpA.draw [1, 2, 3] [] follows; (focus (first | rfl | decide)); (focus (simp (maxSteps := 9999999) (disch := omega) only [go_sem, hr, hp, rk_ren, hlen, hat, htk, hk, hbe, k1, g5, g6]; rfl)); (focus (simp (maxSteps := 9999999) (disch := omega) only [go_sem, hr, hp, rk_ren, hlen, hat, htk, hk, hbe, k1, g5, g6]; first | done | trivial)); (focus (simp (maxSteps := 9999999) (disch := omega) only [go_sem, hr, hp, rk_ren, hlen, hat, htk, hk, hbe, k1, g5, g6]; rfl))) | (apply TailK.go; (focus (simp (maxSteps := 9999999) (disch := omega) only [go_sem, hr, hp, rk_ren, hlen, hat, htk, hk, hbe, k1, g5, g6]; rfl))) | refine AWpA.skip ?_ | refine AWpA.exit ?_ | refine AWpA.ret ?_ | (with_reducible refine ARoundsA.succ ?_) | ((first | refine Runs.kt (by assumption) (fun h9 => ?_) | refine Runs.kf (by assumption) (fun h9 => ?_) | refine Runs.nt (by assumption) (fun h9 => ?_) | refine Runs.nf (by assumption) (fun h9 => ?_) | refine CondP.ht (by assumption) (fun h9 => ?_) | refine CondP.hf (by assumption) (fun h9 => ?_) | refine CondP.nt (by assumption) (fun h9 => ?_) | refine CondP.nf (by assumption) (fun h9 => ?_)); (try simp only [h9]); clear h9) | ((first | (with_reducible apply CallG.plain1 [] (c6)) | (with_reducible apply CallG.draw1 [] (c6))); (focus ((try refine And.intro (leAs_of_eq rfl) ?_); (try refine And.intro (leOL_of_eq rfl) ?_); simp (maxSteps := 9999999) (disch := omega) only [go_sem, hr, hp, rk_ren, hlen, hat, htk, hk, hbe, k1, g5, g6]; first | done | (repeat' (first | rfl | (refine And.intro ?_ ?_))))); (focus (simp (maxSteps := 9999999) (disch := omega) only [go_sem, hr, hp, rk_ren, hlen, hat, htk, hk, hbe, k1, g5, g6]; rfl))) | ((first | (with_reducible apply CallG.plain1 [1, 2, 3] (c1)) | (with_reducible apply CallG.draw1 [1, 2, 3] (c1))); (focus ((try refine And.intro (leAs_of_eq rfl) ?_); (try refine And.intro (leOL_of_eq rfl) ?_); simp (maxSteps := 9999999) (disch := omega) only [go_sem, hr, hp, rk_ren, hlen, hat, htk, hk, hbe, k1, g5, g6]; first | done | (repeat' (first | rfl | (refine And.intro ?_ ?_))))); (focus (simp (maxSteps := 9999999) (disch := omega) only [go_sem, hr, hp, rk_ren, hlen, hat, htk, hk, hbe, k1, g5, g6]; rfl))) | ((first | (with_reducible apply CallG.plain1 [2, 181] (c2)) | (with_reducible apply CallG.draw1 [2, 181] (c2))); (focus ((try refine And.intro (leAs_of_eq rfl) ?_); (try refine And.intro (leOL_of_eq rfl) ?_); simp (maxSteps := 9999999) (disch := omega) only [go_sem, hr, hp, rk_ren, hlen, hat, htk, hk, hbe, k1, g5, g6]; first | done | (repeat' (first | rfl | (refine And.intro ?_ ?_))))); (focus (simp (maxSteps := 9999999) (disch := omega) only [go_sem, hr, hp, rk_ren, hlen, hat, htk, hk, hbe, k1, g5, g6]; rfl))) | ((first | (with_reducible apply CallG.plain1 [] (c0)) | (with_reducible apply CallG.draw1 [] (c0))); (focus ((try refine And.intro (leAs_of_eq rfl) ?_); (try refine And.intro (leOL_of_eq rfl) ?_); simp (maxSteps := 9999999) (disch := omega) only [go_sem, hr, hp, rk_ren, hlen, hat, htk, hk, hbe, k1, g5, g6]; first | done | (repeat' (first | rfl | (refine And.intro ?_ ?_))))); (focus (simp (maxSteps := 9999999) (disch := omega) only [go_sem, hr, hp, rk_ren, hlen, hat, htk, hk, hbe, k1, g5, g6]; rfl))) | ((first | (with_reducible apply CallG.plain1 [] (c3)) | (with_reducible apply CallG.draw1 [] (c3))); (focus ((try refine And.intro (leAs_of_eq rfl) ?_); (try refine And.intro (leOL_of_eq rfl) ?_); simp (maxSteps := 9999999) (disch := omega) only [go_sem, hr, hp, rk_ren, hlen, hat, htk, hk, hbe, k1, g5, g6]; first | done | (repeat' (first | rfl | (refine And.intro ?_ ?_))))); (focus (simp (maxSteps := 9999999) (disch := omega) only [go_sem, hr, hp, rk_ren, hlen, hat, htk, hk, hbe, k1, g5, g6]; rfl))) | ((first | (with_reducible apply CallG.plain1 [] (c5)) | (with_reducible apply CallG.draw1 [] (c5))); (focus ((try refine And.intro (leAs_of_eq rfl) ?_); (try refine And.intro (leOL_of_eq rfl) ?_); simp (maxSteps := 9999999) (disch := omega) only [go_sem, hr, hp, rk_ren, hlen, hat, htk, hk, hbe, k1, g5, g6]; first | done | (repeat' (first | rfl | (refine And.intro ?_ ?_))))); (focus (simp (maxSteps := 9999999) (disch := omega) only [go_sem, hr, hp, rk_ren, hlen, hat, htk, hk, hbe, k1, g5, g6]; rfl)))); (try simp (maxSteps := 9999999) (disch := omega) only [go_sem, hr, hp, rk_ren, hlen, hat, htk, hk, hbe, k1, g5, g6]); (try (refine And.intro ?_ ?_; (focus (first | omega | (simp only [go_sem]; done) | (simp; done) | (simp; omega) | assumption))))) | ((first | refine CondP.split (fun hif => ?_) (fun hif => ?_) | refine Runs.part (fun hif => ?_) (fun hif => ?_)) <;> ((try simp only [hif]); (try simp only [decide_eq_true_eq, decide_eq_false_iff_not, Bool.not_eq_true, Bool.not_eq_false, Bool.not_eq_true', Bool.not_eq_false', beq_iff_eq, bne_iff_ne, bne_eq_false_iff_eq, beq_eq_false_iff_ne, ne_eq, Bool.and_eq_true, Bool.or_eq_true, Bool.or_eq_false_iff] at hif); (try (have h9 : _ = true := hif; simp only [h9])); (try (have h9 : _ = false := hif; simp only [h9])); (try simp (maxSteps := 9999999) (disch := omega) only [go_sem, hr, hp, rk_ren, hlen, hat, htk, hk, hbe, k1, g5, g6]); (try (refine And.intro ?_ ?_; (focus (first | omega | (simp only [go_sem]; done) | (simp; done) | (simp; omega) | assumption)))); (try (exfalso; omega; done))))))
          (apply Back.to (i + 1, m') [0, 1, 2, 181, 4]; (focus ((try simp (maxSteps := 9999999) (disch := omega) only [go_sem, hr, hp, hn', hh]); first | done | omega)); rotate_left; (focus (simp (maxSteps := 9999999) (disch := omega) only [go_sem, hr, hp, hn', hh]; (try (repeat' (first | done | trivial | rfl | exact leAs_rfl _ | decide | (refine And.intro ?_ ?_) | (simp; done) | omega | (simp; decide)))))))
          exact ⟨by simp only; omega, hml, hg2⟩
        | true =>
          rw [hst2 rfl] at c4
          clear hst2
          (try simp (maxSteps := 9999999) (disch := omega) only [go_sem])
          (repeat' (first | refine AWpA.seq ?_ | refine AWpA.block ?_ | (with_reducible refine CondP.tt ?_) | (with_reducible refine CondP.ff ?_) | refine AWpA.condv (by simp (maxSteps := 9999999) (disch := omega) only [go_sem, hr, hp, rk_ren, hlen, hat, htk, hk, hbe, k1, g5, g6]; rfl) ?_ | ((first | (apply AWpA.region; (focus (simp (maxSteps := 9999999) (disch := omega) only [go_sem, hr, hp, rk_ren, hlen, hat, htk, hk, hbe, k1, g5, g6]; rfl))) | (apply AWpA.draw [1, 2, 3] [] follows; (focus (first | rfl | decide)); (focus (simp (maxSteps := 9999999) (disch := omega) only [go_sem, hr, hp, rk_ren, hlen, hat, htk, hk, hbe, k1, g5, g6]; rfl)); (focus (simp (maxSteps := 9999999) (disch := omega) only [go_sem, hr, hp, rk_ren, hlen, hat, htk, hk, hbe, k1, g5, g6]; first | done | trivial)); (focus (simp (maxSteps := 9999999) (disch := omega) only [go_sem, hr, hp, rk_ren, hlen, hat, htk, hk, hbe, k1, g5, g6]; rfl))) | (apply TailK.go; (focus (simp (maxSteps := 9999999) (disch := omega) only [go_sem, hr, hp, rk_ren, hlen, hat, htk, hk, hbe, k1, g5, g6]; rfl))) | refine AWpA.skip ?_ | refine AWpA.exit ?_ | refine AWpA.ret ?_ | (with_reducible refine ARoundsA.succ ?_) | ((first | refine Runs.kt (by assumption) (fun h9 => ?_) | refine Runs.kf (by assumption) (fun h9 => ?_) | refine Runs.nt (by assumption) (fun h9 => ?_) | refine Runs.nf (by assumption) (fun h9 => ?_) | refine CondP.ht (by assumption) (fun h9 => ?_) | refine CondP.hf (by assumption) (fun h9 => ?_) | refine CondP.nt (by assumption) (fun h9 => ?_) | refine CondP.nf (by assumption) (fun h9 => ?_)); (try simp only [h9]); clear h9) | ((first | (with_reducible apply CallG.plain1 [] (c6)) | (with_reducible apply CallG.draw1 [] (c6))); (focus ((try refine And.intro (leAs_of_eq rfl) ?_); (try refine And.intro (leOL_of_eq rfl) ?_); simp (maxSteps := 9999999) (disch := omega) only [go_sem, hr, hp, rk_ren, hlen, hat, htk, hk, hbe, k1, g5, g6]; first | done | (repeat' (first | rfl | (refine And.intro ?_ ?_))))); (focus (simp (maxSteps := 9999999) (disch := omega) only [go_sem, hr, hp, rk_ren, hlen, hat, htk, hk, hbe, k1, g5, g6]; rfl))) | ((first | (with_reducible apply CallG.plain1 [1, 2, 3] (c1)) | (with_reducible apply CallG.draw1 [1, 2, 3] (c1))); (focus ((try refine And.intro (leAs_of_eq rfl) ?_); (try refine And.intro (leOL_of_eq rfl) ?_); simp (maxSteps := 9999999) (disch := omega) only [go_sem, hr, hp, rk_ren, hlen, hat, htk, hk, hbe, k1, g5, g6]; first | done | (repeat' (first | rfl | (refine And.intro ?_ ?_))))); (focus (simp (maxSteps := 9999999) (disch := omega) only [go_sem, hr, hp, rk_ren, hlen, hat, htk, hk, hbe, k1, g5, g6]; rfl))) | ((first | (with_reducible apply CallG.plain1 [2, 181] (c2)) | (with_reducible apply CallG.draw1 [2, 181] (c2))); (focus ((try refine And.intro (leAs_of_eq rfl) ?_); (try refine And.intro (leOL_of_eq rfl) ?_); simp (maxSteps := 9999999) (disch := omega) only [go_sem, hr, hp, rk_ren, hlen, hat, htk, hk, hbe, k1, g5, g6]; first | done | (repeat' (first | rfl | (refine And.intro ?_ ?_))))); (focus (simp (maxSteps := 9999999) (disch := omega) only [go_sem, hr, hp, rk_ren, hlen, hat, htk, hk, hbe, k1, g5, g6]; rfl))) | ((first | (with_reducible apply CallG.plain1 [] (c0)) | (with_reducible apply CallG.draw1 [] (c0))); (focus ((try refine And.intro (leAs_of_eq rfl) ?_); (try refine And.intro (leOL_of_eq rfl) ?_); simp (maxSteps := 9999999) (disch := omega) only [go_sem, hr, hp, rk_ren, hlen, hat, htk, hk, hbe, k1, g5, g6]; first | done | (repeat' (first | rfl | (refine And.intro ?_ ?_))))); (focus (simp (maxSteps := 9999999) (disch := omega) only [go_sem, hr, hp, rk_ren, hlen, hat, htk, hk, hbe, k1, g5, g6]; rfl))) | ((first | (with_reducible apply CallG.plain1 [] (c3)) | (with_reducible apply CallG.draw1 [] (c3))); (focus ((try refine And.intro (leAs_of_eq rfl) ?_); (try refine And.intro (leOL_of_eq rfl) ?_); simp (maxSteps := 9999999) (disch := omega) only [go_sem, hr, hp, rk_ren, hlen, hat, htk, hk, hbe, k1, g5, g6]; first | done | (repeat' (first | rfl | (refine And.intro ?_ ?_))))); (focus (simp (maxSteps := 9999999) (disch := omega) only [go_sem, hr, hp, rk_ren, hlen, hat, htk, hk, hbe, k1, g5, g6]; rfl))) | ((first | (with_reducible apply CallG.plain1 [] (c4)) | (with_reducible apply CallG.draw1 [] (c4))); (focus ((try refine And.intro (leAs_of_eq rfl) ?_); (try refine And.intro (leOL_of_eq rfl) ?_); simp (maxSteps := 9999999) (disch := omega) only [go_sem, hr, hp, rk_ren, hlen, hat, htk, hk, hbe, k1, g5, g6]; first | done | (repeat' (first | rfl | (refine And.intro ?_ ?_))))); (focus (simp (maxSteps := 9999999) (disch := omega) only [go_sem, hr, hp, rk_ren, hlen, hat, htk, hk, hbe, k1, g5, g6]; rfl))) | ((first | (with_reducible apply CallG.plain1 [] (c5)) | (with_reducible apply CallG.draw1 [] (c5))); (focus ((try refine And.intro (leAs_of_eq rfl) ?_); (try refine And.intro (leOL_of_eq rfl) ?_); simp (maxSteps := 9999999) (disch := omega) only [go_sem, hr, hp, rk_ren, hlen, hat, htk, hk, hbe, k1, g5, g6]; first | done | (repeat' (first | rfl | (refine And.intro ?_ ?_))))); (focus (simp (maxSteps := 9999999) (disch := omega) only [go_sem, hr, hp, rk_ren, hlen, hat, htk, hk, hbe, k1, g5, g6]; rfl)))); (try simp (maxSteps := 9999999) (disch := omega) only [go_sem, hr, hp, rk_ren, hlen, hat, htk, hk, hbe, k1, g5, g6]); (try (refine And.intro ?_ ?_; (focus (first | omega | (simp only [go_sem]; done) | (simp; done) | (simp; omega) | assumption))))) | ((first | refine CondP.split (fun hif => ?_) (fun hif => ?_) | refine Runs.part (fun hif => ?_) (fun hif => ?_)) <;> ((try simp only [hif]); (try simp only [decide_eq_true_eq, decide_eq_false_iff_not, Bool.not_eq_true, Bool.not_eq_false, Bool.not_eq_true', Bool.not_eq_false', beq_iff_eq, bne_iff_ne, bne_eq_false_iff_eq, beq_eq_false_iff_ne, ne_eq, Bool.and_eq_true, Bool.or_eq_true, Bool.or_eq_false_iff] at hif); (try (have h9 : _ = true := hif; simp only [h9])); (try (have h9 : _ = false := hif; simp only [h9])); (try simp (maxSteps := 9999999) (disch := omega) only [go_sem, hr, hp, rk_ren, hlen, hat, htk, hk, hbe, k1, g5, g6]); (try (refine And.intro ?_ ?_; (focus (first | omega | (simp only [go_sem]; done) | (simp; done) | (simp; omega) | assumption)))); (try (exfalso; omega; done))))))
          (apply Back.to (i + 1, m') [0, 1, 2, 181, 4]; (focus ((try simp (maxSteps := 9999999) (disch := omega) only [go_sem, hr, hp, hn', hh]); first | done | omega)); rotate_left; (focus (simp (maxSteps := 9999999) (disch := omega) only [go_sem, hr, hp, hn', hh]; (try (repeat' (first | done | trivial | rfl | exact leAs_rfl _ | decide | (refine And.intro ?_ ?_) | (simp; done) | omega | (simp; decide)))))))
          exact ⟨by simp only; omega, hml, hg2⟩
  · obtain rfl : i = l.length := by omega
    have k1 : ((l.length : Int) < (l.length : Int)) = False := eq_false (by omega)
    (try simp (maxSteps := 9999999) (disch := omega) only [go_sem])
    (repeat' (first | refine AWpA.seq ?_ | refine AWpA.block ?_ | (with_reducible refine CondP.tt ?_) | (with_reducible refine CondP.ff ?_) | refine AWpA.condv (by simp (maxSteps := 9999999) (disch := omega) only [go_sem, hr, hp, k1]; rfl) ?_ | ((first | (apply AWpA.region; (focus (simp (maxSteps := 9999999) (disch := omega) only [go_sem, hr, hp, k1]; rfl))) | (apply AWpA.draw [] [] follows; (focus (first | rfl | decide)); (focus (simp (maxSteps := 9999999) (disch := omega) only [go_sem, hr, hp, k1]; rfl)); (focus (simp (maxSteps := 9999999) (disch := omega) only [go_sem, hr, hp, k1]; first | done | trivial)); (focus (simp (maxSteps := 9999999) (disch := omega) only [go_sem, hr, hp, k1]; rfl))) | (apply TailK.go; (focus (simp (maxSteps := 9999999) (disch := omega) only [go_sem, hr, hp, k1]; rfl))) | refine AWpA.skip ?_ | refine AWpA.exit ?_ | refine AWpA.ret ?_ | (with_reducible refine ARoundsA.succ ?_) | ((first | refine Runs.kt (by assumption) (fun h9 => ?_) | refine Runs.kf (by assumption) (fun h9 => ?_) | refine Runs.nt (by assumption) (fun h9 => ?_) | refine Runs.nf (by assumption) (fun h9 => ?_) | refine CondP.ht (by assumption) (fun h9 => ?_) | refine CondP.hf (by assumption) (fun h9 => ?_) | refine CondP.nt (by assumption) (fun h9 => ?_) | refine CondP.nf (by assumption) (fun h9 => ?_)); (try simp only [h9]); clear h9)); (try simp (maxSteps := 9999999) (disch := omega) only [go_sem, hr, hp, k1]); (try (refine And.intro ?_ ?_; (focus (first | omega | (simp only [go_sem]; done) | (simp; done) | (simp; omega) | assumption))))) | ((first | refine CondP.split (fun hif => ?_) (fun hif => ?_) | refine Runs.part (fun hif => ?_) (fun hif => ?_)) <;> ((try simp only [hif]); (try simp only [decide_eq_true_eq, decide_eq_false_iff_not, Bool.not_eq_true, Bool.not_eq_false, Bool.not_eq_true', Bool.not_eq_false', beq_iff_eq, bne_iff_ne, bne_eq_false_iff_eq, beq_eq_false_iff_ne, ne_eq, Bool.and_eq_true, Bool.or_eq_true, Bool.or_eq_false_iff] at hif); (try (have h9 : _ = true := hif; simp only [h9])); (try (have h9 : _ = false := hif; simp only [h9])); (try simp (maxSteps := 9999999) (disch := omega) only [go_sem, hr, hp, k1]); (try (refine And.intro ?_ ?_; (focus (first | omega | (simp only [go_sem]; done) | (simp; done) | (simp; omega) | assumption)))); (try (exfalso; omega; done))))))
    (refine TopPost.of (by first | exact .inl rfl | exact .inr rfl) (by (try simp (maxSteps := 9999999) (disch := omega) only [go_sem]); rfl) ?_; (try simp (maxSteps := 9999999) (disch := omega) only [go_sem]); (try (first | trivial | decide | (simp; done))))
end Go.Proofs.Ytgjimlgofakbpaa
