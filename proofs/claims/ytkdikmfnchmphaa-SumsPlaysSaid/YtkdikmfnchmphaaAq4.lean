/- The walk of SumsPlays. -/
import Derived.Test.YtkdikmfnchmphaaAq3
namespace Go.Proofs.Ytkdikmfnchmphaa
set_option linter.unusedSimpArgs false
set_option linter.unusedVariables false
set_option maxHeartbeats 4000000
open Go Go.Am Go.RowKit Go.ChangeShapes Go.WideShapes Go.ChangeAt
open Go.ChangeMaps (open_string shut_string)
set_option maxRecDepth 100000
def St.rep (a : St) : List Value := (fun n : Int => [.int .i64 n]) a.c ++ (fun n : Int => [.int .i64 n]) a.s
structure St.ok (W : World) (a : St) : Prop where
  c : (fun n : Int => IntKind.i64.min ≤ n ∧ n ≤ IntKind.i64.max) a.c
  s : (fun n : Int => IntKind.i64.min ≤ n ∧ n ≤ IntKind.i64.max) a.s
set_option maxRecDepth 100000 in
theorem rd_St {H : Type} {enc : TypeId × Value → H} {W : World} {base : Nat} {held : Bool} : Rd enc Try.prog W base held 24 St.rep (St.ok W) := fun n cs x h => by
  obtain ⟨xs, n1, _, _, hlen, hx, hf⟩ := DataW.trod_struct Try.underlying24 h
  rw [show Try.prog.cellsOf 24 = 2 by kernel_rfl] at hlen
  have f0 : DataW.trod enc Try.prog W base (fun _ => true) held n1 3 ((cs.drop 0).take (Try.prog.cellsOf 3)) = xs[0]? := hf 0 _ rfl
  rw [show Try.prog.cellsOf 3 = 1 by kernel_rfl] at f0
  obtain ⟨y0, h0⟩ := at_some2 hx (by decide) f0
  obtain ⟨g0, a0, e0, w0⟩ := (rd_int Try.underlying3 : Rd _ _ _ _ _ _ (fun n : Int => [.int .i64 n]) (fun n : Int => IntKind.i64.min ≤ n ∧ n ≤ IntKind.i64.max)) _ _ _ h0
  have f1 : DataW.trod enc Try.prog W base (fun _ => true) held n1 3 ((cs.drop 1).take (Try.prog.cellsOf 3)) = xs[1]? := hf 1 _ rfl
  rw [show Try.prog.cellsOf 3 = 1 by kernel_rfl] at f1
  obtain ⟨y1, h1⟩ := at_some2 hx (by decide) f1
  obtain ⟨g1, a1, e1, w1⟩ := (rd_int Try.underlying3 : Rd _ _ _ _ _ _ (fun n : Int => [.int .i64 n]) (fun n : Int => IntKind.i64.min ≤ n ∧ n ≤ IntKind.i64.max)) _ _ _ h1
  match cs, hlen with
  | [c0, c1], _ =>
    simp [Sl.rep, St.rep] at e0 g0
    simp [Sl.rep, St.rep] at e1 g1
    exact ⟨by simp [*, Value.oneCell'], ⟨a0, a1⟩, by simp [Sl.rep, St.rep, *], ⟨w0, w1⟩⟩
def En.rep (a : En) : List Value := (fun s : ByteArray => [.string s]) a.key ++ (fun s : ByteArray => [.string s]) a.val ++ (fun b : Bool => [.bool b]) a.dead ++ (St.rep) a.st ++ (St.rep) a.act ++ (fun n : Int => [.int .i64 n]) a.keep ++ (fun n : Int => [.int .i64 n]) a.age
structure En.ok (W : World) (a : En) : Prop where
  key : (fun s : ByteArray => s.size ≤ maxLen) a.key
  val : (fun s : ByteArray => s.size ≤ maxLen) a.val
  dead : (fun _ : Bool => True) a.dead
  st : (St.ok W) a.st
  act : (St.ok W) a.act
  keep : (fun n : Int => IntKind.i64.min ≤ n ∧ n ≤ IntKind.i64.max) a.keep
  age : (fun n : Int => IntKind.i64.min ≤ n ∧ n ≤ IntKind.i64.max) a.age
set_option maxRecDepth 100000 in
theorem rd_En {H : Type} {enc : TypeId × Value → H} {W : World} {base : Nat} {held : Bool} : Rd enc Try.prog W base held 93 En.rep (En.ok W) := fun n cs x h => by
  obtain ⟨xs, n1, _, _, hlen, hx, hf⟩ := DataW.trod_struct Try.underlying93 h
  rw [show Try.prog.cellsOf 93 = 9 by kernel_rfl] at hlen
  have f0 : DataW.trod enc Try.prog W base (fun _ => true) held n1 9 ((cs.drop 0).take (Try.prog.cellsOf 9)) = xs[0]? := hf 0 _ rfl
  rw [show Try.prog.cellsOf 9 = 1 by kernel_rfl] at f0
  obtain ⟨y0, h0⟩ := at_some2 hx (by decide) f0
  obtain ⟨g0, a0, e0, w0⟩ := (rd_string Try.underlying9 : Rd _ _ _ _ _ _ (fun s : ByteArray => [.string s]) (fun s : ByteArray => s.size ≤ maxLen)) _ _ _ h0
  have f1 : DataW.trod enc Try.prog W base (fun _ => true) held n1 9 ((cs.drop 1).take (Try.prog.cellsOf 9)) = xs[1]? := hf 1 _ rfl
  rw [show Try.prog.cellsOf 9 = 1 by kernel_rfl] at f1
  obtain ⟨y1, h1⟩ := at_some2 hx (by decide) f1
  obtain ⟨g1, a1, e1, w1⟩ := (rd_string Try.underlying9 : Rd _ _ _ _ _ _ (fun s : ByteArray => [.string s]) (fun s : ByteArray => s.size ≤ maxLen)) _ _ _ h1
  have f2 : DataW.trod enc Try.prog W base (fun _ => true) held n1 4 ((cs.drop 2).take (Try.prog.cellsOf 4)) = xs[2]? := hf 2 _ rfl
  rw [show Try.prog.cellsOf 4 = 1 by kernel_rfl] at f2
  obtain ⟨y2, h2⟩ := at_some2 hx (by decide) f2
  obtain ⟨g2, a2, e2, w2⟩ := (rd_bool Try.underlying4 : Rd _ _ _ _ _ _ (fun b : Bool => [.bool b]) (fun _ : Bool => True)) _ _ _ h2
  have f3 : DataW.trod enc Try.prog W base (fun _ => true) held n1 24 ((cs.drop 3).take (Try.prog.cellsOf 24)) = xs[3]? := hf 3 _ rfl
  rw [show Try.prog.cellsOf 24 = 2 by kernel_rfl] at f3
  obtain ⟨y3, h3⟩ := at_some2 hx (by decide) f3
  obtain ⟨g3, a3, e3, w3⟩ := (rd_St : Rd _ _ _ _ _ _ (St.rep) (St.ok W)) _ _ _ h3
  have f4 : DataW.trod enc Try.prog W base (fun _ => true) held n1 24 ((cs.drop 5).take (Try.prog.cellsOf 24)) = xs[4]? := hf 4 _ rfl
  rw [show Try.prog.cellsOf 24 = 2 by kernel_rfl] at f4
  obtain ⟨y4, h4⟩ := at_some2 hx (by decide) f4
  obtain ⟨g4, a4, e4, w4⟩ := (rd_St : Rd _ _ _ _ _ _ (St.rep) (St.ok W)) _ _ _ h4
  have f5 : DataW.trod enc Try.prog W base (fun _ => true) held n1 3 ((cs.drop 7).take (Try.prog.cellsOf 3)) = xs[5]? := hf 5 _ rfl
  rw [show Try.prog.cellsOf 3 = 1 by kernel_rfl] at f5
  obtain ⟨y5, h5⟩ := at_some2 hx (by decide) f5
  obtain ⟨g5, a5, e5, w5⟩ := (rd_int Try.underlying3 : Rd _ _ _ _ _ _ (fun n : Int => [.int .i64 n]) (fun n : Int => IntKind.i64.min ≤ n ∧ n ≤ IntKind.i64.max)) _ _ _ h5
  have f6 : DataW.trod enc Try.prog W base (fun _ => true) held n1 3 ((cs.drop 8).take (Try.prog.cellsOf 3)) = xs[6]? := hf 6 _ rfl
  rw [show Try.prog.cellsOf 3 = 1 by kernel_rfl] at f6
  obtain ⟨y6, h6⟩ := at_some2 hx (by decide) f6
  obtain ⟨g6, a6, e6, w6⟩ := (rd_int Try.underlying3 : Rd _ _ _ _ _ _ (fun n : Int => [.int .i64 n]) (fun n : Int => IntKind.i64.min ≤ n ∧ n ≤ IntKind.i64.max)) _ _ _ h6
  match cs, hlen with
  | [c0, c1, c2, c3, c4, c5, c6, c7, c8], _ =>
    simp [Sl.rep, St.rep, En.rep] at e0 g0
    simp [Sl.rep, St.rep, En.rep] at e1 g1
    simp [Sl.rep, St.rep, En.rep] at e2 g2
    simp [Sl.rep, St.rep, En.rep] at e3 g3
    simp [Sl.rep, St.rep, En.rep] at e4 g4
    simp [Sl.rep, St.rep, En.rep] at e5 g5
    simp [Sl.rep, St.rep, En.rep] at e6 g6
    exact ⟨by simp [*, Value.oneCell'], ⟨a0, a1, a2, a3, a4, a5, a6⟩, by simp [Sl.rep, St.rep, En.rep, *], ⟨w0, w1, w2, w3, w4, w5, w6⟩⟩
structure AcS where
  kind : Int
  is : En
  was : En
def AcS.rep (a : AcS) : List Value := (fun n : Int => [.int .i64 n]) a.kind ++ (En.rep) a.is ++ (En.rep) a.was
structure AcS.ok (W : World) (a : AcS) : Prop where
  kind : (fun n : Int => IntKind.i64.min ≤ n ∧ n ≤ IntKind.i64.max) a.kind
  is : (En.ok W) a.is
  was : (En.ok W) a.was
set_option maxRecDepth 100000 in
theorem rd_AcS {H : Type} {enc : TypeId × Value → H} {W : World} {base : Nat} {held : Bool} : Rd enc Try.prog W base held 95 AcS.rep (AcS.ok W) := fun n cs x h => by
  obtain ⟨xs, n1, _, _, hlen, hx, hf⟩ := DataW.trod_struct Try.underlying95 h
  rw [show Try.prog.cellsOf 95 = 19 by kernel_rfl] at hlen
  have f0 : DataW.trod enc Try.prog W base (fun _ => true) held n1 3 ((cs.drop 0).take (Try.prog.cellsOf 3)) = xs[0]? := hf 0 _ rfl
  rw [show Try.prog.cellsOf 3 = 1 by kernel_rfl] at f0
  obtain ⟨y0, h0⟩ := at_some2 hx (by decide) f0
  obtain ⟨g0, a0, e0, w0⟩ := (rd_int Try.underlying3 : Rd _ _ _ _ _ _ (fun n : Int => [.int .i64 n]) (fun n : Int => IntKind.i64.min ≤ n ∧ n ≤ IntKind.i64.max)) _ _ _ h0
  have f1 : DataW.trod enc Try.prog W base (fun _ => true) held n1 93 ((cs.drop 1).take (Try.prog.cellsOf 93)) = xs[1]? := hf 1 _ rfl
  rw [show Try.prog.cellsOf 93 = 9 by kernel_rfl] at f1
  obtain ⟨y1, h1⟩ := at_some2 hx (by decide) f1
  obtain ⟨g1, a1, e1, w1⟩ := (rd_En : Rd _ _ _ _ _ _ (En.rep) (En.ok W)) _ _ _ h1
  have f2 : DataW.trod enc Try.prog W base (fun _ => true) held n1 93 ((cs.drop 10).take (Try.prog.cellsOf 93)) = xs[2]? := hf 2 _ rfl
  rw [show Try.prog.cellsOf 93 = 9 by kernel_rfl] at f2
  obtain ⟨y2, h2⟩ := at_some2 hx (by decide) f2
  obtain ⟨g2, a2, e2, w2⟩ := (rd_En : Rd _ _ _ _ _ _ (En.rep) (En.ok W)) _ _ _ h2
  match cs, hlen with
  | [c0, c1, c2, c3, c4, c5, c6, c7, c8, c9, c10, c11, c12, c13, c14, c15, c16, c17, c18], _ =>
    simp [Sl.rep, St.rep, En.rep, AcS.rep] at e0 g0
    simp [Sl.rep, St.rep, En.rep, AcS.rep] at e1 g1
    simp [Sl.rep, St.rep, En.rep, AcS.rep] at e2 g2
    exact ⟨by simp [*, Value.oneCell'], ⟨a0, a1, a2⟩, by simp [Sl.rep, St.rep, En.rep, AcS.rep, *], ⟨w0, w1, w2⟩⟩
abbrev AcC9 (a : AcS) : List AV := [I a.kind, Str a.is.key, Str a.is.val, Bo a.is.dead, I a.is.st.c, I a.is.st.s, I a.is.act.c, I a.is.act.s, I a.is.keep, I a.is.age, Str a.was.key, Str a.was.val, Bo a.was.dead, I a.was.st.c, I a.was.st.s, I a.was.act.c, I a.was.act.s, I a.was.keep, I a.was.age]
/- quidnunc/quidnunclaw09.SumsPlays -/
noncomputable def c10_1 : ACode := .region false [⟨some 2, .move, [.c (.val (.bool false))], none⟩] [] [] [0] false [] []
noncomputable def c10_4 : ACode := .region false [⟨some 8, .call 48, [], none⟩,
  ⟨some 9, .un .not, [.t 8], none⟩,
  ⟨some 10, .move, [.t 9], none⟩,
  ⟨some 11, .move, [.t 0], some (some 10, false)⟩,
  ⟨some 12, .len, [.t 11], some (some 10, false)⟩,
  ⟨some 13, .bin .gtr, [.t 12, .c (.val (.int .i64 40))], some (some 10, false)⟩,
  ⟨some 14, .pick, [.t 10, .c (.val (.bool true)), .t 13], none⟩] [] [] [0, 14] true [] []
noncomputable def c10_7 : ACode := .region false [⟨some 15, .call 48, [], none⟩,
  ⟨some 2, .move, [.t 15], none⟩] [] [] [2] true [] []
noncomputable def c10_6 : ACode := .seq c10_7 .ret
noncomputable def c10_5 : ACode := .cond (.t 14) c10_6 .skip
noncomputable def c10_3 : ACode := .seq c10_4 c10_5
noncomputable def c10_9 : ACode := .region false [⟨some 3, .alloc [(.int .u64 0)], [], none⟩] [] [] [0, 3] true [] []
noncomputable def c10_11 : ACode := .region false [⟨some 4, .move, [.c (.val (.int .u64 0))], none⟩] [] [] [0, 3, 4] false [] []
noncomputable def c10_14 : ACode := .region false [⟨some 16, .move, [.t 0], none⟩,
  ⟨some 17, .len, [.t 16], none⟩,
  ⟨some 18, .move, [.c (.val (.int .i64 0))], none⟩] [] [] [3, 4, 16, 17, 18] false [] []
noncomputable def c10_18 : ACode := .region false [⟨some 19, .bin .lss, [.t 18, .t 17], none⟩] [] [] [3, 4, 16, 17, 18, 19] false [] []
noncomputable def c10_20 : ACode := .cond (.t 19) .skip (.exit 0)
noncomputable def c10_24 : ACode := .region false [⟨some 20, .ixS 19, [.t 16, .t 18], none⟩,
  ⟨some 21, .load true 19, [.t 20], none⟩,
  ⟨some 6, .alloc [(.int .i64 0), (.string ⟨#[]⟩), (.string ⟨#[]⟩), (.bool false), (.int .i64 0), (.int .i64 0), (.int .i64 0), (.int .i64 0), (.int .i64 0), (.int .i64 0), (.string ⟨#[]⟩), (.string ⟨#[]⟩), (.bool false), (.int .i64 0), (.int .i64 0), (.int .i64 0), (.int .i64 0), (.int .i64 0), (.int .i64 0)], [], none⟩,
  ⟨none, .store 19, [.t 6, .t 21], none⟩] [] [] [3, 4, 6, 16, 17, 18] true [] []
noncomputable def c10_27 : ACode := .region false [⟨some 22, .addr 1, [.t 6], none⟩,
  ⟨some 23, .load true 9, [.t 22], none⟩,
  ⟨some 24, .call 49, [.t 23], none⟩,
  ⟨some 25, .un .not, [.t 24], none⟩,
  ⟨some 26, .move, [.t 25], none⟩,
  ⟨some 27, .addr 10, [.t 6], some (some 26, false)⟩,
  ⟨some 28, .load true 9, [.t 27], some (some 26, false)⟩,
  ⟨some 29, .call 49, [.t 28], some (some 26, false)⟩,
  ⟨some 30, .un .not, [.t 29], some (some 26, false)⟩,
  ⟨some 31, .pick, [.t 26, .c (.val (.bool true)), .t 30], none⟩] [] [] [3, 4, 6, 16, 17, 18, 31] true [] []
noncomputable def c10_30 : ACode := .region false [⟨some 2, .move, [.c (.val (.bool true))], none⟩] [] [] [2] false [] []
noncomputable def c10_29 : ACode := .seq c10_30 .ret
noncomputable def c10_28 : ACode := .cond (.t 31) c10_29 .skip
noncomputable def c10_26 : ACode := .seq c10_27 c10_28
noncomputable def c10_32 : ACode := .region false [⟨some 7, .move, [.c (.val (.int .u64 0))], none⟩] [] [] [3, 4, 6, 16, 17, 18] false [] []
noncomputable def c10_35 : ACode := .region false [⟨some 32, .addr 0, [.t 6], none⟩,
  ⟨some 33, .load false 1, [.t 32], none⟩] [] [] [3, 4, 6, 16, 17, 18, 33] false [] []
noncomputable def c10_38 : ACode := .region false [⟨some 44, .bin .eql, [.t 33, .c (.val (.int .i64 1))], none⟩,
  ⟨some 43, .move, [.t 44], none⟩] [] [] [3, 4, 6, 16, 17, 18, 33, 43] false [] []
noncomputable def c10_41 : ACode := .region false [⟨some 45, .move, [.t 4], none⟩,
  ⟨some 46, .addr 1, [.t 6], none⟩,
  ⟨some 47, .load true 9, [.t 46], none⟩,
  ⟨some 48, .call 50, [.t 47], none⟩,
  ⟨some 49, .bin .sub, [.t 45, .t 48], none⟩,
  ⟨some 4, .move, [.t 49], none⟩] [] [] [3, 4, 6, 16, 17, 18] true [] []
noncomputable def c10_42 : ACode := .region false [⟨some 50, .addr 1, [.t 6], none⟩,
  ⟨some 51, .load true 9, [.t 50], none⟩,
  ⟨some 52, .call 52, [.t 51], none⟩,
  ⟨some 53, .call 51, [.t 3, .t 52], none⟩,
  ⟨some 7, .move, [.t 53], none⟩] [] [] [3, 4, 7, 16, 17, 18] true [] []
noncomputable def c10_40 : ACode := .seq c10_41 c10_42
noncomputable def c10_44 : ACode := .region false [⟨some 55, .bin .eql, [.t 33, .c (.val (.int .i64 2))], none⟩,
  ⟨some 54, .move, [.t 55], none⟩] [] [] [3, 4, 6, 16, 17, 18, 54] false [] []
noncomputable def c10_47 : ACode := .region true [⟨some 56, .move, [.t 4], none⟩,
  ⟨some 57, .addr 10, [.t 6], none⟩,
  ⟨some 58, .load true 9, [.t 57], none⟩,
  ⟨some 59, .call 50, [.t 58], none⟩,
  ⟨some 60, .bin .sub, [.t 56, .t 59], none⟩,
  ⟨some 61, .addr 1, [.t 6], none⟩,
  ⟨some 62, .load true 9, [.t 61], none⟩,
  ⟨some 63, .call 50, [.t 62], none⟩,
  ⟨some 64, .bin .add, [.t 60, .t 63], none⟩,
  ⟨some 4, .move, [.t 64], none⟩] [] [] [3, 4, 6, 16, 17, 18] true [] []
noncomputable def c10_48 : ACode := .region true [⟨some 65, .addr 10, [.t 6], none⟩,
  ⟨some 66, .load true 9, [.t 65], none⟩,
  ⟨some 67, .call 52, [.t 66], none⟩,
  ⟨some 68, .addr 1, [.t 6], none⟩,
  ⟨some 69, .load true 9, [.t 68], none⟩,
  ⟨some 70, .call 52, [.t 69], none⟩,
  ⟨some 71, .call 53, [.t 3, .t 67, .t 70], none⟩,
  ⟨some 7, .move, [.t 71], none⟩] [] [] [3, 4, 7, 16, 17, 18] true [] []
noncomputable def c10_46 : ACode := .seq c10_47 c10_48
noncomputable def c10_50 : ACode := .region false [⟨some 34, .move, [.t 4], none⟩,
  ⟨some 35, .addr 1, [.t 6], none⟩,
  ⟨some 36, .load true 9, [.t 35], none⟩,
  ⟨some 37, .call 50, [.t 36], none⟩,
  ⟨some 38, .bin .add, [.t 34, .t 37], none⟩,
  ⟨some 4, .move, [.t 38], none⟩] [] [] [3, 4, 6, 16, 17, 18] true [] []
noncomputable def c10_51 : ACode := .region false [⟨some 39, .addr 1, [.t 6], none⟩,
  ⟨some 40, .load true 9, [.t 39], none⟩,
  ⟨some 41, .call 52, [.t 40], none⟩,
  ⟨some 42, .call 54, [.t 3, .t 41], none⟩,
  ⟨some 7, .move, [.t 42], none⟩] [] [] [3, 4, 7, 16, 17, 18] true [] []
noncomputable def c10_49 : ACode := .seq c10_50 c10_51
noncomputable def c10_45 : ACode := .cond (.t 54) c10_46 c10_49
noncomputable def c10_43 : ACode := .seq c10_44 c10_45
noncomputable def c10_39 : ACode := .cond (.t 43) c10_40 c10_43
noncomputable def c10_37 : ACode := .seq c10_38 c10_39
noncomputable def c10_36 : ACode := .block 2 c10_37
noncomputable def c10_34 : ACode := .seq c10_35 c10_36
noncomputable def c10_53 : ACode := .region false [⟨some 72, .move, [.t 7], none⟩,
  ⟨some 73, .move, [.t 4], none⟩,
  ⟨some 74, .bin .neq, [.t 72, .t 73], none⟩,
  ⟨some 75, .move, [.t 74], none⟩,
  ⟨some 76, .call 55, [.t 3], some (some 75, false)⟩,
  ⟨some 77, .move, [.t 4], some (some 75, false)⟩,
  ⟨some 78, .bin .neq, [.t 76, .t 77], some (some 75, false)⟩,
  ⟨some 79, .pick, [.t 75, .c (.val (.bool true)), .t 78], none⟩] [] [] [3, 4, 16, 17, 18, 79] true [] []
noncomputable def c10_56 : ACode := .region false [⟨some 2, .move, [.c (.val (.bool false))], none⟩] [] [] [2] false [] []
noncomputable def c10_55 : ACode := .seq c10_56 .ret
noncomputable def c10_54 : ACode := .cond (.t 79) c10_55 .skip
noncomputable def c10_52 : ACode := .seq c10_53 c10_54
noncomputable def c10_33 : ACode := .seq c10_34 c10_52
noncomputable def c10_31 : ACode := .seq c10_32 c10_33
noncomputable def c10_25 : ACode := .seq c10_26 c10_31
noncomputable def c10_23 : ACode := .seq c10_24 c10_25
noncomputable def c10_22 : ACode := .block 1 c10_23
noncomputable def c10_57 : ACode := .region false [⟨some 80, .bin .add, [.t 18, .c (.val (.int .i64 1))], none⟩,
  ⟨some 18, .move, [.t 80], none⟩] [] [] [3, 4, 16, 17, 18] false [] []
noncomputable def c10_21 : ACode := .seq c10_22 c10_57
noncomputable def c10_19 : ACode := .seq c10_20 c10_21
noncomputable def c10_17 : ACode := .seq c10_18 c10_19
noncomputable def c10_16 : ACode := .loop c10_17
noncomputable def c10_15 : ACode := .block 0 c10_16
noncomputable def c10_13 : ACode := .seq c10_14 c10_15
noncomputable def c10_59 : ACode := .region false [⟨some 2, .move, [.c (.val (.bool true))], none⟩] [] [] [2] false [] []
noncomputable def c10_58 : ACode := .seq c10_59 .ret
noncomputable def c10_12 : ACode := .seq c10_13 c10_58
noncomputable def c10_10 : ACode := .seq c10_11 c10_12
noncomputable def c10_8 : ACode := .seq c10_9 c10_10
noncomputable def c10_2 : ACode := .seq c10_3 c10_8
noncomputable def c10_0 : ACode := .seq c10_1 c10_2
noncomputable def code10 : Code := (Try.f10.body).getD .skip
theorem c10_ok : compC Try.prog 81 code10 = some (strip c10_0) := by kernel_rfl
theorem res10_ok : Try.f10.results.toList.mapM (resC Try.prog) = some [(2, none)] := by kernel_rfl
theorem splays_walk (W : World) (sl : Sl AcS) (hz : Sl.ok W 19 AcS.rep (AcS.ok W) sl) :
    Calls Try.prog 10 #[.slice sl.ad sl.l.length sl.cap] W fun e W' => e = .returned (.bool true) ∧ Below W.heap.size W W' := by
  obtain ⟨ad, off, cap, l⟩ := sl
  obtain ⟨hz, -, -⟩ := hz
  simp only at hz
  have hr : ∀ ρ, renL ρ (rowsC off AcC9 l) = rowsC off AcC9 l := fun ρ => rowsC_ren (fun ρ x => by simp [renL, ren]) ρ l
  by_cases h40 : 40 < l.length
  · have h1 : ((40 : Int) < (l.length : Int)) = True := eq_true (by omega)
    refine top_call c10_ok Try.func10 rfl Try.ntmps10 res10_ok [ .val (.slice ad l.length cap)] (by simp) (by (repeat' (first | exact VRs_nil' _ | exact VR_val' _ _ | (refine VRs_cons' ?_ ?_) | (refine VR_agg' (by first | rfl | assumption) ?_; first | assumption | simp [Value.oneCell', St.rep, En.rep, AcS.rep])))) ?_; try simp (maxSteps := 9999999) (disch := omega) only [go_sem]
    (repeat' (first | refine AWpA.seq ?_ | refine AWpA.block ?_ | (with_reducible refine CondP.tt ?_) | (with_reducible refine CondP.ff ?_) | refine AWpA.condv (by simp (maxSteps := 9999999) (disch := omega) only [go_sem, h1]; rfl) ?_ | ((first | (apply AWpA.region; (focus (simp (maxSteps := 9999999) (disch := omega) only [go_sem, h1]; rfl))) | (apply AWpA.draw [] follows; (focus (simp (maxSteps := 9999999) (disch := omega) only [go_sem, h1]; rfl)); (focus (simp (maxSteps := 9999999) (disch := omega) only [go_sem, h1]; first | done | trivial)); (focus (simp (maxSteps := 9999999) (disch := omega) only [go_sem, h1]; rfl))) | (apply TailK.go; (focus (simp (maxSteps := 9999999) (disch := omega) only [go_sem, h1]; rfl))) | refine AWpA.skip ?_ | refine AWpA.exit ?_ | refine AWpA.ret ?_ | (with_reducible refine ARoundsA.succ ?_) | ((first | refine Runs.kt (by assumption) (fun h9 => ?_) | refine Runs.kf (by assumption) (fun h9 => ?_) | refine Runs.nt (by assumption) (fun h9 => ?_) | refine Runs.nf (by assumption) (fun h9 => ?_) | refine CondP.ht (by assumption) (fun h9 => ?_) | refine CondP.hf (by assumption) (fun h9 => ?_) | refine CondP.nt (by assumption) (fun h9 => ?_) | refine CondP.nf (by assumption) (fun h9 => ?_)); (try simp only [h9]); clear h9) | ((first | (with_reducible apply CallG.plain1 [] (speaks09_any)) | (with_reducible apply CallG.draw1 [] (speaks09_any))); (focus ((try refine And.intro (leAs_of_eq rfl) ?_); (try refine And.intro (leOL_of_eq rfl) ?_); simp (maxSteps := 9999999) (disch := omega) only [go_sem, h1]; first | done | (repeat' (first | rfl | (refine And.intro ?_ ?_))))); (focus (simp (maxSteps := 9999999) (disch := omega) only [go_sem, h1]; rfl)))); (try simp (maxSteps := 9999999) (disch := omega) only [go_sem, h1]); (try (refine And.intro ?_ ?_; (focus (first | omega | (simp only [go_sem]; done) | (simp; done) | (simp; omega) | assumption))))) | ((first | refine CondP.split (fun hif => ?_) (fun hif => ?_) | refine Runs.part (fun hif => ?_) (fun hif => ?_)) <;> ((try simp only [hif]); (try simp only [decide_eq_true_eq, decide_eq_false_iff_not, Bool.not_eq_true, Bool.not_eq_false, Bool.not_eq_true', Bool.not_eq_false', beq_iff_eq, bne_iff_ne, bne_eq_false_iff_eq, beq_eq_false_iff_ne, ne_eq, Bool.and_eq_true, Bool.or_eq_true, Bool.or_eq_false_iff] at hif); (try (have h9 : _ = true := hif; simp only [h9])); (try (have h9 : _ = false := hif; simp only [h9])); (try simp (maxSteps := 9999999) (disch := omega) only [go_sem, h1]); (try (refine And.intro ?_ ?_; (focus (first | omega | (simp only [go_sem]; done) | (simp; done) | (simp; omega) | assumption)))); (try (exfalso; omega; done))))))
    (refine TopPost.of (by first | exact .inl rfl | exact .inr rfl) (by (try simp (maxSteps := 9999999) (disch := omega) only [go_sem]); rfl) ?_; (try simp (maxSteps := 9999999) (disch := omega) only [go_sem]); (try (first | trivial | decide | (simp; done))))
  have h1 : ((40 : Int) < (l.length : Int)) = False := eq_false (by omega)
  refine top_call c10_ok Try.func10 rfl Try.ntmps10 res10_ok [ .val (.slice ad l.length cap)] (by simp) (by (repeat' (first | exact VRs_nil' _ | exact VR_val' _ _ | (refine VRs_cons' ?_ ?_) | (refine VR_agg' (by first | rfl | assumption) ?_; first | assumption | simp [Value.oneCell', St.rep, En.rep, AcS.rep])))) ?_; try simp (maxSteps := 9999999) (disch := omega) only [go_sem]
  refine AWpA.thawT 0 AcC9 hz (fun x => by simp [AcS.rep, En.rep, St.rep]) rfl ?_
  have hw0 := w64_zero
  (repeat' (first | refine AWpA.seq ?_ | refine AWpA.block ?_ | (with_reducible refine CondP.tt ?_) | (with_reducible refine CondP.ff ?_) | refine AWpA.condv (by simp (maxSteps := 9999999) (disch := omega) only [go_sem, hr, h1]; rfl) ?_ | ((first | (apply AWpA.region; (focus (simp (maxSteps := 9999999) (disch := omega) only [go_sem, hr, h1]; rfl))) | (apply AWpA.draw [] follows; (focus (simp (maxSteps := 9999999) (disch := omega) only [go_sem, hr, h1]; rfl)); (focus (simp (maxSteps := 9999999) (disch := omega) only [go_sem, hr, h1]; first | done | trivial)); (focus (simp (maxSteps := 9999999) (disch := omega) only [go_sem, hr, h1]; rfl))) | (apply TailK.go; (focus (simp (maxSteps := 9999999) (disch := omega) only [go_sem, hr, h1]; rfl))) | refine AWpA.skip ?_ | refine AWpA.exit ?_ | refine AWpA.ret ?_ | (with_reducible refine ARoundsA.succ ?_) | ((first | refine Runs.kt (by assumption) (fun h9 => ?_) | refine Runs.kf (by assumption) (fun h9 => ?_) | refine Runs.nt (by assumption) (fun h9 => ?_) | refine Runs.nf (by assumption) (fun h9 => ?_) | refine CondP.ht (by assumption) (fun h9 => ?_) | refine CondP.hf (by assumption) (fun h9 => ?_) | refine CondP.nt (by assumption) (fun h9 => ?_) | refine CondP.nf (by assumption) (fun h9 => ?_)); (try simp only [h9]); clear h9) | ((first | (with_reducible apply CallG.plain1 [] (speaks09_any)) | (with_reducible apply CallG.draw1 [] (speaks09_any))); (focus ((try refine And.intro (leAs_of_eq rfl) ?_); (try refine And.intro (leOL_of_eq rfl) ?_); simp (maxSteps := 9999999) (disch := omega) only [go_sem, hr, h1]; first | done | (repeat' (first | rfl | (refine And.intro ?_ ?_))))); (focus (simp (maxSteps := 9999999) (disch := omega) only [go_sem, hr, h1]; rfl)))); (try simp (maxSteps := 9999999) (disch := omega) only [go_sem, hr, h1]); (try (refine And.intro ?_ ?_; (focus (first | omega | (simp only [go_sem]; done) | (simp; done) | (simp; omega) | assumption))))) | ((first | refine CondP.split (fun hif => ?_) (fun hif => ?_) | refine Runs.part (fun hif => ?_) (fun hif => ?_)) <;> ((try simp only [hif]); (try simp only [decide_eq_true_eq, decide_eq_false_iff_not, Bool.not_eq_true, Bool.not_eq_false, Bool.not_eq_true', Bool.not_eq_false', beq_iff_eq, bne_iff_ne, bne_eq_false_iff_eq, beq_eq_false_iff_ne, ne_eq, Bool.and_eq_true, Bool.or_eq_true, Bool.or_eq_false_iff] at hif); (try (have h9 : _ = true := hif; simp only [h9])); (try (have h9 : _ = false := hif; simp only [h9])); (try simp (maxSteps := 9999999) (disch := omega) only [go_sem, hr, h1]); (try (refine And.intro ?_ ?_; (focus (first | omega | (simp only [go_sem]; done) | (simp; done) | (simp; omega) | assumption)))); (try (exfalso; omega; done))))))
  (apply AWpA.loopL (fun a : Nat × Int => [(3, .ptr 1 0), (4, U64 (w64 a.2)), (16, .sl 0 off l.length 19 none), (17, I l.length), (18, I a.1)]) (fun a => [.cells true (rowsC off AcC9 l), .cells false [U64 (w64 a.2)]]) (fun a => l.length - a.1) (fun a => a.1 ≤ l.length) ((0, 0)) [0, _]; rotate_left; (focus (simp (maxSteps := 9999999) (disch := omega) only [go_sem, hr, hw0]; (try (repeat' (first | done | trivial | rfl | exact leAs_rfl _ | decide | (refine And.intro ?_ ?_) | (simp; done) | omega | (simp; decide)))))); rotate_right)
  · exact Nat.zero_le _
  rintro ⟨i, S⟩ hi
  (try simp only at hi)
  (try simp (maxSteps := 9999999) (disch := omega) only [go_sem])
  by_cases hin : i < l.length
  · have hlen : ∀ l : List AcS, (rowsC off AcC9 l).length = off + l.length * 19 := rowsC_len (fun _ => rfl)
    have hat := rowsC_at (off := off) (f := AcC9) (k := 19) (fun _ => rfl) l i hin
    have g1 : ((i : Int) < (l.length : Int)) = True := eq_true (by omega)
    generalize l[i] = a at hat
    obtain ⟨kd, x, y⟩ := a
    have s1 := short_any x
    have s2 := short_any y
    have h1 := rhash_any x
    have h2 := rhash_any y
    have o1 := of05_any x
    have o2 := of05_any y
    have c1 := sdrop_any S x
    have c2 := sturn_any S y x
    have c3 := sadd_any S x
    have v1 := svalue_any (S - hashE x)
    have v2 := svalue_any (S - hashE y + hashE x)
    have v3 := svalue_any (S + hashE x)
    generalize hashE x = hx at *
    generalize hashE y = hy at *
    cases hsx : shortB x
    · rw [hsx] at s1
      (repeat' (first | refine AWpA.seq ?_ | refine AWpA.block ?_ | (with_reducible refine CondP.tt ?_) | (with_reducible refine CondP.ff ?_) | refine AWpA.condv (by simp (maxSteps := 9999999) (disch := omega) only [go_sem, hr, hlen, hat, AcC9, g1]; rfl) ?_ | ((first | (apply AWpA.region; (focus (simp (maxSteps := 9999999) (disch := omega) only [go_sem, hr, hlen, hat, AcC9, g1]; rfl))) | (apply AWpA.draw [] follows; (focus (simp (maxSteps := 9999999) (disch := omega) only [go_sem, hr, hlen, hat, AcC9, g1]; rfl)); (focus (simp (maxSteps := 9999999) (disch := omega) only [go_sem, hr, hlen, hat, AcC9, g1]; first | done | trivial)); (focus (simp (maxSteps := 9999999) (disch := omega) only [go_sem, hr, hlen, hat, AcC9, g1]; rfl))) | (apply TailK.go; (focus (simp (maxSteps := 9999999) (disch := omega) only [go_sem, hr, hlen, hat, AcC9, g1]; rfl))) | refine AWpA.skip ?_ | refine AWpA.exit ?_ | refine AWpA.ret ?_ | (with_reducible refine ARoundsA.succ ?_) | ((first | refine Runs.kt (by assumption) (fun h9 => ?_) | refine Runs.kf (by assumption) (fun h9 => ?_) | refine Runs.nt (by assumption) (fun h9 => ?_) | refine Runs.nf (by assumption) (fun h9 => ?_) | refine CondP.ht (by assumption) (fun h9 => ?_) | refine CondP.hf (by assumption) (fun h9 => ?_) | refine CondP.nt (by assumption) (fun h9 => ?_) | refine CondP.nf (by assumption) (fun h9 => ?_)); (try simp only [h9]); clear h9) | ((first | (with_reducible apply CallG.plain1 [] (s1)) | (with_reducible apply CallG.draw1 [] (s1))); (focus ((try refine And.intro (leAs_of_eq rfl) ?_); (try refine And.intro (leOL_of_eq rfl) ?_); simp (maxSteps := 9999999) (disch := omega) only [go_sem, hr, hlen, hat, AcC9, g1]; first | done | (repeat' (first | rfl | (refine And.intro ?_ ?_))))); (focus (simp (maxSteps := 9999999) (disch := omega) only [go_sem, hr, hlen, hat, AcC9, g1]; rfl)))); (try simp (maxSteps := 9999999) (disch := omega) only [go_sem, hr, hlen, hat, AcC9, g1]); (try (refine And.intro ?_ ?_; (focus (first | omega | (simp only [go_sem]; done) | (simp; done) | (simp; omega) | assumption))))) | ((first | refine CondP.split (fun hif => ?_) (fun hif => ?_) | refine Runs.part (fun hif => ?_) (fun hif => ?_)) <;> ((try simp only [hif]); (try simp only [decide_eq_true_eq, decide_eq_false_iff_not, Bool.not_eq_true, Bool.not_eq_false, Bool.not_eq_true', Bool.not_eq_false', beq_iff_eq, bne_iff_ne, bne_eq_false_iff_eq, beq_eq_false_iff_ne, ne_eq, Bool.and_eq_true, Bool.or_eq_true, Bool.or_eq_false_iff] at hif); (try (have h9 : _ = true := hif; simp only [h9])); (try (have h9 : _ = false := hif; simp only [h9])); (try simp (maxSteps := 9999999) (disch := omega) only [go_sem, hr, hlen, hat, AcC9, g1]); (try (refine And.intro ?_ ?_; (focus (first | omega | (simp only [go_sem]; done) | (simp; done) | (simp; omega) | assumption)))); (try (exfalso; omega; done))))))
      (refine TopPost.of (by first | exact .inl rfl | exact .inr rfl) (by (try simp (maxSteps := 9999999) (disch := omega) only [go_sem, hr]); rfl) ?_; (try simp (maxSteps := 9999999) (disch := omega) only [go_sem, hr]); (try (first | trivial | decide | (simp; done))))
    rw [hsx] at s1
    cases hsy : shortB y
    · rw [hsy] at s2
      (repeat' (first | refine AWpA.seq ?_ | refine AWpA.block ?_ | (with_reducible refine CondP.tt ?_) | (with_reducible refine CondP.ff ?_) | refine AWpA.condv (by simp (maxSteps := 9999999) (disch := omega) only [go_sem, hr, hlen, hat, AcC9, g1]; rfl) ?_ | ((first | (apply AWpA.region; (focus (simp (maxSteps := 9999999) (disch := omega) only [go_sem, hr, hlen, hat, AcC9, g1]; rfl))) | (apply AWpA.draw [] follows; (focus (simp (maxSteps := 9999999) (disch := omega) only [go_sem, hr, hlen, hat, AcC9, g1]; rfl)); (focus (simp (maxSteps := 9999999) (disch := omega) only [go_sem, hr, hlen, hat, AcC9, g1]; first | done | trivial)); (focus (simp (maxSteps := 9999999) (disch := omega) only [go_sem, hr, hlen, hat, AcC9, g1]; rfl))) | (apply TailK.go; (focus (simp (maxSteps := 9999999) (disch := omega) only [go_sem, hr, hlen, hat, AcC9, g1]; rfl))) | refine AWpA.skip ?_ | refine AWpA.exit ?_ | refine AWpA.ret ?_ | (with_reducible refine ARoundsA.succ ?_) | ((first | refine Runs.kt (by assumption) (fun h9 => ?_) | refine Runs.kf (by assumption) (fun h9 => ?_) | refine Runs.nt (by assumption) (fun h9 => ?_) | refine Runs.nf (by assumption) (fun h9 => ?_) | refine CondP.ht (by assumption) (fun h9 => ?_) | refine CondP.hf (by assumption) (fun h9 => ?_) | refine CondP.nt (by assumption) (fun h9 => ?_) | refine CondP.nf (by assumption) (fun h9 => ?_)); (try simp only [h9]); clear h9) | ((first | (with_reducible apply CallG.plain1 [] (s1)) | (with_reducible apply CallG.draw1 [] (s1))); (focus ((try refine And.intro (leAs_of_eq rfl) ?_); (try refine And.intro (leOL_of_eq rfl) ?_); simp (maxSteps := 9999999) (disch := omega) only [go_sem, hr, hlen, hat, AcC9, g1]; first | done | (repeat' (first | rfl | (refine And.intro ?_ ?_))))); (focus (simp (maxSteps := 9999999) (disch := omega) only [go_sem, hr, hlen, hat, AcC9, g1]; rfl))) | ((first | (with_reducible apply CallG.plain1 [] (s2)) | (with_reducible apply CallG.draw1 [] (s2))); (focus ((try refine And.intro (leAs_of_eq rfl) ?_); (try refine And.intro (leOL_of_eq rfl) ?_); simp (maxSteps := 9999999) (disch := omega) only [go_sem, hr, hlen, hat, AcC9, g1]; first | done | (repeat' (first | rfl | (refine And.intro ?_ ?_))))); (focus (simp (maxSteps := 9999999) (disch := omega) only [go_sem, hr, hlen, hat, AcC9, g1]; rfl)))); (try simp (maxSteps := 9999999) (disch := omega) only [go_sem, hr, hlen, hat, AcC9, g1]); (try (refine And.intro ?_ ?_; (focus (first | omega | (simp only [go_sem]; done) | (simp; done) | (simp; omega) | assumption))))) | ((first | refine CondP.split (fun hif => ?_) (fun hif => ?_) | refine Runs.part (fun hif => ?_) (fun hif => ?_)) <;> ((try simp only [hif]); (try simp only [decide_eq_true_eq, decide_eq_false_iff_not, Bool.not_eq_true, Bool.not_eq_false, Bool.not_eq_true', Bool.not_eq_false', beq_iff_eq, bne_iff_ne, bne_eq_false_iff_eq, beq_eq_false_iff_ne, ne_eq, Bool.and_eq_true, Bool.or_eq_true, Bool.or_eq_false_iff] at hif); (try (have h9 : _ = true := hif; simp only [h9])); (try (have h9 : _ = false := hif; simp only [h9])); (try simp (maxSteps := 9999999) (disch := omega) only [go_sem, hr, hlen, hat, AcC9, g1]); (try (refine And.intro ?_ ?_; (focus (first | omega | (simp only [go_sem]; done) | (simp; done) | (simp; omega) | assumption)))); (try (exfalso; omega; done))))))
      (refine TopPost.of (by first | exact .inl rfl | exact .inr rfl) (by (try simp (maxSteps := 9999999) (disch := omega) only [go_sem, hr]); rfl) ?_; (try simp (maxSteps := 9999999) (disch := omega) only [go_sem, hr]); (try (first | trivial | decide | (simp; done))))
    rw [hsy] at s2
    by_cases k1 : kd = 1
    · have g2 : (kd == 1) = true := by simp [k1]
      (repeat' (first | refine AWpA.seq ?_ | refine AWpA.block ?_ | (with_reducible refine CondP.tt ?_) | (with_reducible refine CondP.ff ?_) | refine AWpA.condv (by simp (maxSteps := 9999999) (disch := omega) only [go_sem, hr, hlen, hat, AcC9, g1, g2, w64_sub]; rfl) ?_ | ((first | (apply AWpA.region; (focus (simp (maxSteps := 9999999) (disch := omega) only [go_sem, hr, hlen, hat, AcC9, g1, g2, w64_sub]; rfl))) | (apply AWpA.draw [1] follows; (focus (simp (maxSteps := 9999999) (disch := omega) only [go_sem, hr, hlen, hat, AcC9, g1, g2, w64_sub]; rfl)); (focus (simp (maxSteps := 9999999) (disch := omega) only [go_sem, hr, hlen, hat, AcC9, g1, g2, w64_sub]; first | done | trivial)); (focus (simp (maxSteps := 9999999) (disch := omega) only [go_sem, hr, hlen, hat, AcC9, g1, g2, w64_sub]; rfl))) | (apply TailK.go; (focus (simp (maxSteps := 9999999) (disch := omega) only [go_sem, hr, hlen, hat, AcC9, g1, g2, w64_sub]; rfl))) | refine AWpA.skip ?_ | refine AWpA.exit ?_ | refine AWpA.ret ?_ | (with_reducible refine ARoundsA.succ ?_) | ((first | refine Runs.kt (by assumption) (fun h9 => ?_) | refine Runs.kf (by assumption) (fun h9 => ?_) | refine Runs.nt (by assumption) (fun h9 => ?_) | refine Runs.nf (by assumption) (fun h9 => ?_) | refine CondP.ht (by assumption) (fun h9 => ?_) | refine CondP.hf (by assumption) (fun h9 => ?_) | refine CondP.nt (by assumption) (fun h9 => ?_) | refine CondP.nf (by assumption) (fun h9 => ?_)); (try simp only [h9]); clear h9) | ((first | (with_reducible apply CallG.plain1 [] (s1)) | (with_reducible apply CallG.draw1 [] (s1))); (focus ((try refine And.intro (leAs_of_eq rfl) ?_); (try refine And.intro (leOL_of_eq rfl) ?_); simp (maxSteps := 9999999) (disch := omega) only [go_sem, hr, hlen, hat, AcC9, g1, g2, w64_sub]; first | done | (repeat' (first | rfl | (refine And.intro ?_ ?_))))); (focus (simp (maxSteps := 9999999) (disch := omega) only [go_sem, hr, hlen, hat, AcC9, g1, g2, w64_sub]; rfl))) | ((first | (with_reducible apply CallG.plain1 [] (s2)) | (with_reducible apply CallG.draw1 [] (s2))); (focus ((try refine And.intro (leAs_of_eq rfl) ?_); (try refine And.intro (leOL_of_eq rfl) ?_); simp (maxSteps := 9999999) (disch := omega) only [go_sem, hr, hlen, hat, AcC9, g1, g2, w64_sub]; first | done | (repeat' (first | rfl | (refine And.intro ?_ ?_))))); (focus (simp (maxSteps := 9999999) (disch := omega) only [go_sem, hr, hlen, hat, AcC9, g1, g2, w64_sub]; rfl))) | ((first | (with_reducible apply CallG.plain1 [] (h1)) | (with_reducible apply CallG.draw1 [] (h1))); (focus ((try refine And.intro (leAs_of_eq rfl) ?_); (try refine And.intro (leOL_of_eq rfl) ?_); simp (maxSteps := 9999999) (disch := omega) only [go_sem, hr, hlen, hat, AcC9, g1, g2, w64_sub]; first | done | (repeat' (first | rfl | (refine And.intro ?_ ?_))))); (focus (simp (maxSteps := 9999999) (disch := omega) only [go_sem, hr, hlen, hat, AcC9, g1, g2, w64_sub]; rfl))) | ((first | (with_reducible apply CallG.plain1 [] (o1)) | (with_reducible apply CallG.draw1 [] (o1))); (focus ((try refine And.intro (leAs_of_eq rfl) ?_); (try refine And.intro (leOL_of_eq rfl) ?_); simp (maxSteps := 9999999) (disch := omega) only [go_sem, hr, hlen, hat, AcC9, g1, g2, w64_sub]; first | done | (repeat' (first | rfl | (refine And.intro ?_ ?_))))); (focus (simp (maxSteps := 9999999) (disch := omega) only [go_sem, hr, hlen, hat, AcC9, g1, g2, w64_sub]; rfl))) | ((first | (with_reducible apply CallG.plain1 [1] (c1)) | (with_reducible apply CallG.draw1 [1] (c1))); (focus ((try refine And.intro (leAs_of_eq rfl) ?_); (try refine And.intro (leOL_of_eq rfl) ?_); simp (maxSteps := 9999999) (disch := omega) only [go_sem, hr, hlen, hat, AcC9, g1, g2, w64_sub]; first | done | (repeat' (first | rfl | (refine And.intro ?_ ?_))))); (focus (simp (maxSteps := 9999999) (disch := omega) only [go_sem, hr, hlen, hat, AcC9, g1, g2, w64_sub]; rfl))) | ((first | (with_reducible apply CallG.plain1 [1] (v1)) | (with_reducible apply CallG.draw1 [1] (v1))); (focus ((try refine And.intro (leAs_of_eq rfl) ?_); (try refine And.intro (leOL_of_eq rfl) ?_); simp (maxSteps := 9999999) (disch := omega) only [go_sem, hr, hlen, hat, AcC9, g1, g2, w64_sub]; first | done | (repeat' (first | rfl | (refine And.intro ?_ ?_))))); (focus (simp (maxSteps := 9999999) (disch := omega) only [go_sem, hr, hlen, hat, AcC9, g1, g2, w64_sub]; rfl)))); (try simp (maxSteps := 9999999) (disch := omega) only [go_sem, hr, hlen, hat, AcC9, g1, g2, w64_sub]); (try (refine And.intro ?_ ?_; (focus (first | omega | (simp only [go_sem]; done) | (simp; done) | (simp; omega) | assumption))))) | ((first | refine CondP.split (fun hif => ?_) (fun hif => ?_) | refine Runs.part (fun hif => ?_) (fun hif => ?_)) <;> ((try simp only [hif]); (try simp only [decide_eq_true_eq, decide_eq_false_iff_not, Bool.not_eq_true, Bool.not_eq_false, Bool.not_eq_true', Bool.not_eq_false', beq_iff_eq, bne_iff_ne, bne_eq_false_iff_eq, beq_eq_false_iff_ne, ne_eq, Bool.and_eq_true, Bool.or_eq_true, Bool.or_eq_false_iff] at hif); (try (have h9 : _ = true := hif; simp only [h9])); (try (have h9 : _ = false := hif; simp only [h9])); (try simp (maxSteps := 9999999) (disch := omega) only [go_sem, hr, hlen, hat, AcC9, g1, g2, w64_sub]); (try (refine And.intro ?_ ?_; (focus (first | omega | (simp only [go_sem]; done) | (simp; done) | (simp; omega) | assumption)))); (try (exfalso; omega; done))))))
      (apply Back.to (i + 1, S - hx) [0, 1]; (focus ((try simp (maxSteps := 9999999) (disch := omega) only [go_sem, hr]); first | done | omega)); rotate_left; (focus (simp (maxSteps := 9999999) (disch := omega) only [go_sem, hr]; (try (repeat' (first | done | trivial | rfl | exact leAs_rfl _ | decide | (refine And.intro ?_ ?_) | (simp; done) | omega | (simp; decide)))))))
      exact (by simp only; omega)
    · have g2 : (kd == 1) = false := by simp [k1]
      by_cases k2 : kd = 2
      · have g3 : (kd == 2) = true := by simp [k2]
        (repeat' (first | refine AWpA.seq ?_ | refine AWpA.block ?_ | (with_reducible refine CondP.tt ?_) | (with_reducible refine CondP.ff ?_) | refine AWpA.condv (by simp (maxSteps := 9999999) (disch := omega) only [go_sem, hr, hlen, hat, AcC9, g1, g2, g3, w64_sub, w64_add]; rfl) ?_ | ((first | (apply AWpA.region; (focus (simp (maxSteps := 9999999) (disch := omega) only [go_sem, hr, hlen, hat, AcC9, g1, g2, g3, w64_sub, w64_add]; rfl))) | (apply AWpA.draw [1] follows; (focus (simp (maxSteps := 9999999) (disch := omega) only [go_sem, hr, hlen, hat, AcC9, g1, g2, g3, w64_sub, w64_add]; rfl)); (focus (simp (maxSteps := 9999999) (disch := omega) only [go_sem, hr, hlen, hat, AcC9, g1, g2, g3, w64_sub, w64_add]; first | done | trivial)); (focus (simp (maxSteps := 9999999) (disch := omega) only [go_sem, hr, hlen, hat, AcC9, g1, g2, g3, w64_sub, w64_add]; rfl))) | (apply TailK.go; (focus (simp (maxSteps := 9999999) (disch := omega) only [go_sem, hr, hlen, hat, AcC9, g1, g2, g3, w64_sub, w64_add]; rfl))) | refine AWpA.skip ?_ | refine AWpA.exit ?_ | refine AWpA.ret ?_ | (with_reducible refine ARoundsA.succ ?_) | ((first | refine Runs.kt (by assumption) (fun h9 => ?_) | refine Runs.kf (by assumption) (fun h9 => ?_) | refine Runs.nt (by assumption) (fun h9 => ?_) | refine Runs.nf (by assumption) (fun h9 => ?_) | refine CondP.ht (by assumption) (fun h9 => ?_) | refine CondP.hf (by assumption) (fun h9 => ?_) | refine CondP.nt (by assumption) (fun h9 => ?_) | refine CondP.nf (by assumption) (fun h9 => ?_)); (try simp only [h9]); clear h9) | ((first | (with_reducible apply CallG.plain1 [] (s1)) | (with_reducible apply CallG.draw1 [] (s1))); (focus ((try refine And.intro (leAs_of_eq rfl) ?_); (try refine And.intro (leOL_of_eq rfl) ?_); simp (maxSteps := 9999999) (disch := omega) only [go_sem, hr, hlen, hat, AcC9, g1, g2, g3, w64_sub, w64_add]; first | done | (repeat' (first | rfl | (refine And.intro ?_ ?_))))); (focus (simp (maxSteps := 9999999) (disch := omega) only [go_sem, hr, hlen, hat, AcC9, g1, g2, g3, w64_sub, w64_add]; rfl))) | ((first | (with_reducible apply CallG.plain1 [] (s2)) | (with_reducible apply CallG.draw1 [] (s2))); (focus ((try refine And.intro (leAs_of_eq rfl) ?_); (try refine And.intro (leOL_of_eq rfl) ?_); simp (maxSteps := 9999999) (disch := omega) only [go_sem, hr, hlen, hat, AcC9, g1, g2, g3, w64_sub, w64_add]; first | done | (repeat' (first | rfl | (refine And.intro ?_ ?_))))); (focus (simp (maxSteps := 9999999) (disch := omega) only [go_sem, hr, hlen, hat, AcC9, g1, g2, g3, w64_sub, w64_add]; rfl))) | ((first | (with_reducible apply CallG.plain1 [] (h1)) | (with_reducible apply CallG.draw1 [] (h1))); (focus ((try refine And.intro (leAs_of_eq rfl) ?_); (try refine And.intro (leOL_of_eq rfl) ?_); simp (maxSteps := 9999999) (disch := omega) only [go_sem, hr, hlen, hat, AcC9, g1, g2, g3, w64_sub, w64_add]; first | done | (repeat' (first | rfl | (refine And.intro ?_ ?_))))); (focus (simp (maxSteps := 9999999) (disch := omega) only [go_sem, hr, hlen, hat, AcC9, g1, g2, g3, w64_sub, w64_add]; rfl))) | ((first | (with_reducible apply CallG.plain1 [] (h2)) | (with_reducible apply CallG.draw1 [] (h2))); (focus ((try refine And.intro (leAs_of_eq rfl) ?_); (try refine And.intro (leOL_of_eq rfl) ?_); simp (maxSteps := 9999999) (disch := omega) only [go_sem, hr, hlen, hat, AcC9, g1, g2, g3, w64_sub, w64_add]; first | done | (repeat' (first | rfl | (refine And.intro ?_ ?_))))); (focus (simp (maxSteps := 9999999) (disch := omega) only [go_sem, hr, hlen, hat, AcC9, g1, g2, g3, w64_sub, w64_add]; rfl))) | ((first | (with_reducible apply CallG.plain1 [] (o1)) | (with_reducible apply CallG.draw1 [] (o1))); (focus ((try refine And.intro (leAs_of_eq rfl) ?_); (try refine And.intro (leOL_of_eq rfl) ?_); simp (maxSteps := 9999999) (disch := omega) only [go_sem, hr, hlen, hat, AcC9, g1, g2, g3, w64_sub, w64_add]; first | done | (repeat' (first | rfl | (refine And.intro ?_ ?_))))); (focus (simp (maxSteps := 9999999) (disch := omega) only [go_sem, hr, hlen, hat, AcC9, g1, g2, g3, w64_sub, w64_add]; rfl))) | ((first | (with_reducible apply CallG.plain1 [] (o2)) | (with_reducible apply CallG.draw1 [] (o2))); (focus ((try refine And.intro (leAs_of_eq rfl) ?_); (try refine And.intro (leOL_of_eq rfl) ?_); simp (maxSteps := 9999999) (disch := omega) only [go_sem, hr, hlen, hat, AcC9, g1, g2, g3, w64_sub, w64_add]; first | done | (repeat' (first | rfl | (refine And.intro ?_ ?_))))); (focus (simp (maxSteps := 9999999) (disch := omega) only [go_sem, hr, hlen, hat, AcC9, g1, g2, g3, w64_sub, w64_add]; rfl))) | ((first | (with_reducible apply CallG.plain1 [1] (c2)) | (with_reducible apply CallG.draw1 [1] (c2))); (focus ((try refine And.intro (leAs_of_eq rfl) ?_); (try refine And.intro (leOL_of_eq rfl) ?_); simp (maxSteps := 9999999) (disch := omega) only [go_sem, hr, hlen, hat, AcC9, g1, g2, g3, w64_sub, w64_add]; first | done | (repeat' (first | rfl | (refine And.intro ?_ ?_))))); (focus (simp (maxSteps := 9999999) (disch := omega) only [go_sem, hr, hlen, hat, AcC9, g1, g2, g3, w64_sub, w64_add]; rfl))) | ((first | (with_reducible apply CallG.plain1 [1] (v2)) | (with_reducible apply CallG.draw1 [1] (v2))); (focus ((try refine And.intro (leAs_of_eq rfl) ?_); (try refine And.intro (leOL_of_eq rfl) ?_); simp (maxSteps := 9999999) (disch := omega) only [go_sem, hr, hlen, hat, AcC9, g1, g2, g3, w64_sub, w64_add]; first | done | (repeat' (first | rfl | (refine And.intro ?_ ?_))))); (focus (simp (maxSteps := 9999999) (disch := omega) only [go_sem, hr, hlen, hat, AcC9, g1, g2, g3, w64_sub, w64_add]; rfl)))); (try simp (maxSteps := 9999999) (disch := omega) only [go_sem, hr, hlen, hat, AcC9, g1, g2, g3, w64_sub, w64_add]); (try (refine And.intro ?_ ?_; (focus (first | omega | (simp only [go_sem]; done) | (simp; done) | (simp; omega) | assumption))))) | ((first | refine CondP.split (fun hif => ?_) (fun hif => ?_) | refine Runs.part (fun hif => ?_) (fun hif => ?_)) <;> ((try simp only [hif]); (try simp only [decide_eq_true_eq, decide_eq_false_iff_not, Bool.not_eq_true, Bool.not_eq_false, Bool.not_eq_true', Bool.not_eq_false', beq_iff_eq, bne_iff_ne, bne_eq_false_iff_eq, beq_eq_false_iff_ne, ne_eq, Bool.and_eq_true, Bool.or_eq_true, Bool.or_eq_false_iff] at hif); (try (have h9 : _ = true := hif; simp only [h9])); (try (have h9 : _ = false := hif; simp only [h9])); (try simp (maxSteps := 9999999) (disch := omega) only [go_sem, hr, hlen, hat, AcC9, g1, g2, g3, w64_sub, w64_add]); (try (refine And.intro ?_ ?_; (focus (first | omega | (simp only [go_sem]; done) | (simp; done) | (simp; omega) | assumption)))); (try (exfalso; omega; done))))))
        (apply Back.to (i + 1, S - hy + hx) [0, 1]; (focus ((try simp (maxSteps := 9999999) (disch := omega) only [go_sem, hr]); first | done | omega)); rotate_left; (focus (simp (maxSteps := 9999999) (disch := omega) only [go_sem, hr]; (try (repeat' (first | done | trivial | rfl | exact leAs_rfl _ | decide | (refine And.intro ?_ ?_) | (simp; done) | omega | (simp; decide)))))))
        exact (by simp only; omega)
      · have g3 : (kd == 2) = false := by simp [k2]
        (repeat' (first | refine AWpA.seq ?_ | refine AWpA.block ?_ | (with_reducible refine CondP.tt ?_) | (with_reducible refine CondP.ff ?_) | refine AWpA.condv (by simp (maxSteps := 9999999) (disch := omega) only [go_sem, hr, hlen, hat, AcC9, g1, g2, g3, w64_add]; rfl) ?_ | ((first | (apply AWpA.region; (focus (simp (maxSteps := 9999999) (disch := omega) only [go_sem, hr, hlen, hat, AcC9, g1, g2, g3, w64_add]; rfl))) | (apply AWpA.draw [1] follows; (focus (simp (maxSteps := 9999999) (disch := omega) only [go_sem, hr, hlen, hat, AcC9, g1, g2, g3, w64_add]; rfl)); (focus (simp (maxSteps := 9999999) (disch := omega) only [go_sem, hr, hlen, hat, AcC9, g1, g2, g3, w64_add]; first | done | trivial)); (focus (simp (maxSteps := 9999999) (disch := omega) only [go_sem, hr, hlen, hat, AcC9, g1, g2, g3, w64_add]; rfl))) | (apply TailK.go; (focus (simp (maxSteps := 9999999) (disch := omega) only [go_sem, hr, hlen, hat, AcC9, g1, g2, g3, w64_add]; rfl))) | refine AWpA.skip ?_ | refine AWpA.exit ?_ | refine AWpA.ret ?_ | (with_reducible refine ARoundsA.succ ?_) | ((first | refine Runs.kt (by assumption) (fun h9 => ?_) | refine Runs.kf (by assumption) (fun h9 => ?_) | refine Runs.nt (by assumption) (fun h9 => ?_) | refine Runs.nf (by assumption) (fun h9 => ?_) | refine CondP.ht (by assumption) (fun h9 => ?_) | refine CondP.hf (by assumption) (fun h9 => ?_) | refine CondP.nt (by assumption) (fun h9 => ?_) | refine CondP.nf (by assumption) (fun h9 => ?_)); (try simp only [h9]); clear h9) | ((first | (with_reducible apply CallG.plain1 [] (s1)) | (with_reducible apply CallG.draw1 [] (s1))); (focus ((try refine And.intro (leAs_of_eq rfl) ?_); (try refine And.intro (leOL_of_eq rfl) ?_); simp (maxSteps := 9999999) (disch := omega) only [go_sem, hr, hlen, hat, AcC9, g1, g2, g3, w64_add]; first | done | (repeat' (first | rfl | (refine And.intro ?_ ?_))))); (focus (simp (maxSteps := 9999999) (disch := omega) only [go_sem, hr, hlen, hat, AcC9, g1, g2, g3, w64_add]; rfl))) | ((first | (with_reducible apply CallG.plain1 [] (s2)) | (with_reducible apply CallG.draw1 [] (s2))); (focus ((try refine And.intro (leAs_of_eq rfl) ?_); (try refine And.intro (leOL_of_eq rfl) ?_); simp (maxSteps := 9999999) (disch := omega) only [go_sem, hr, hlen, hat, AcC9, g1, g2, g3, w64_add]; first | done | (repeat' (first | rfl | (refine And.intro ?_ ?_))))); (focus (simp (maxSteps := 9999999) (disch := omega) only [go_sem, hr, hlen, hat, AcC9, g1, g2, g3, w64_add]; rfl))) | ((first | (with_reducible apply CallG.plain1 [] (h1)) | (with_reducible apply CallG.draw1 [] (h1))); (focus ((try refine And.intro (leAs_of_eq rfl) ?_); (try refine And.intro (leOL_of_eq rfl) ?_); simp (maxSteps := 9999999) (disch := omega) only [go_sem, hr, hlen, hat, AcC9, g1, g2, g3, w64_add]; first | done | (repeat' (first | rfl | (refine And.intro ?_ ?_))))); (focus (simp (maxSteps := 9999999) (disch := omega) only [go_sem, hr, hlen, hat, AcC9, g1, g2, g3, w64_add]; rfl))) | ((first | (with_reducible apply CallG.plain1 [] (o1)) | (with_reducible apply CallG.draw1 [] (o1))); (focus ((try refine And.intro (leAs_of_eq rfl) ?_); (try refine And.intro (leOL_of_eq rfl) ?_); simp (maxSteps := 9999999) (disch := omega) only [go_sem, hr, hlen, hat, AcC9, g1, g2, g3, w64_add]; first | done | (repeat' (first | rfl | (refine And.intro ?_ ?_))))); (focus (simp (maxSteps := 9999999) (disch := omega) only [go_sem, hr, hlen, hat, AcC9, g1, g2, g3, w64_add]; rfl))) | ((first | (with_reducible apply CallG.plain1 [1] (c3)) | (with_reducible apply CallG.draw1 [1] (c3))); (focus ((try refine And.intro (leAs_of_eq rfl) ?_); (try refine And.intro (leOL_of_eq rfl) ?_); simp (maxSteps := 9999999) (disch := omega) only [go_sem, hr, hlen, hat, AcC9, g1, g2, g3, w64_add]; first | done | (repeat' (first | rfl | (refine And.intro ?_ ?_))))); (focus (simp (maxSteps := 9999999) (disch := omega) only [go_sem, hr, hlen, hat, AcC9, g1, g2, g3, w64_add]; rfl))) | ((first | (with_reducible apply CallG.plain1 [1] (v3)) | (with_reducible apply CallG.draw1 [1] (v3))); (focus ((try refine And.intro (leAs_of_eq rfl) ?_); (try refine And.intro (leOL_of_eq rfl) ?_); simp (maxSteps := 9999999) (disch := omega) only [go_sem, hr, hlen, hat, AcC9, g1, g2, g3, w64_add]; first | done | (repeat' (first | rfl | (refine And.intro ?_ ?_))))); (focus (simp (maxSteps := 9999999) (disch := omega) only [go_sem, hr, hlen, hat, AcC9, g1, g2, g3, w64_add]; rfl)))); (try simp (maxSteps := 9999999) (disch := omega) only [go_sem, hr, hlen, hat, AcC9, g1, g2, g3, w64_add]); (try (refine And.intro ?_ ?_; (focus (first | omega | (simp only [go_sem]; done) | (simp; done) | (simp; omega) | assumption))))) | ((first | refine CondP.split (fun hif => ?_) (fun hif => ?_) | refine Runs.part (fun hif => ?_) (fun hif => ?_)) <;> ((try simp only [hif]); (try simp only [decide_eq_true_eq, decide_eq_false_iff_not, Bool.not_eq_true, Bool.not_eq_false, Bool.not_eq_true', Bool.not_eq_false', beq_iff_eq, bne_iff_ne, bne_eq_false_iff_eq, beq_eq_false_iff_ne, ne_eq, Bool.and_eq_true, Bool.or_eq_true, Bool.or_eq_false_iff] at hif); (try (have h9 : _ = true := hif; simp only [h9])); (try (have h9 : _ = false := hif; simp only [h9])); (try simp (maxSteps := 9999999) (disch := omega) only [go_sem, hr, hlen, hat, AcC9, g1, g2, g3, w64_add]); (try (refine And.intro ?_ ?_; (focus (first | omega | (simp only [go_sem]; done) | (simp; done) | (simp; omega) | assumption)))); (try (exfalso; omega; done))))))
        (apply Back.to (i + 1, S + hx) [0, 1]; (focus ((try simp (maxSteps := 9999999) (disch := omega) only [go_sem, hr]); first | done | omega)); rotate_left; (focus (simp (maxSteps := 9999999) (disch := omega) only [go_sem, hr]; (try (repeat' (first | done | trivial | rfl | exact leAs_rfl _ | decide | (refine And.intro ?_ ?_) | (simp; done) | omega | (simp; decide)))))))
        exact (by simp only; omega)
  · obtain rfl : i = l.length := by omega
    have g1 : ((l.length : Int) < (l.length : Int)) = False := eq_false (by omega)
    (repeat' (first | refine AWpA.seq ?_ | refine AWpA.block ?_ | (with_reducible refine CondP.tt ?_) | (with_reducible refine CondP.ff ?_) | refine AWpA.condv (by simp (maxSteps := 9999999) (disch := omega) only [go_sem, hr, g1]; rfl) ?_ | ((first | (apply AWpA.region; (focus (simp (maxSteps := 9999999) (disch := omega) only [go_sem, hr, g1]; rfl))) | (apply AWpA.draw [] follows; (focus (simp (maxSteps := 9999999) (disch := omega) only [go_sem, hr, g1]; rfl)); (focus (simp (maxSteps := 9999999) (disch := omega) only [go_sem, hr, g1]; first | done | trivial)); (focus (simp (maxSteps := 9999999) (disch := omega) only [go_sem, hr, g1]; rfl))) | (apply TailK.go; (focus (simp (maxSteps := 9999999) (disch := omega) only [go_sem, hr, g1]; rfl))) | refine AWpA.skip ?_ | refine AWpA.exit ?_ | refine AWpA.ret ?_ | (with_reducible refine ARoundsA.succ ?_) | ((first | refine Runs.kt (by assumption) (fun h9 => ?_) | refine Runs.kf (by assumption) (fun h9 => ?_) | refine Runs.nt (by assumption) (fun h9 => ?_) | refine Runs.nf (by assumption) (fun h9 => ?_) | refine CondP.ht (by assumption) (fun h9 => ?_) | refine CondP.hf (by assumption) (fun h9 => ?_) | refine CondP.nt (by assumption) (fun h9 => ?_) | refine CondP.nf (by assumption) (fun h9 => ?_)); (try simp only [h9]); clear h9)); (try simp (maxSteps := 9999999) (disch := omega) only [go_sem, hr, g1]); (try (refine And.intro ?_ ?_; (focus (first | omega | (simp only [go_sem]; done) | (simp; done) | (simp; omega) | assumption))))) | ((first | refine CondP.split (fun hif => ?_) (fun hif => ?_) | refine Runs.part (fun hif => ?_) (fun hif => ?_)) <;> ((try simp only [hif]); (try simp only [decide_eq_true_eq, decide_eq_false_iff_not, Bool.not_eq_true, Bool.not_eq_false, Bool.not_eq_true', Bool.not_eq_false', beq_iff_eq, bne_iff_ne, bne_eq_false_iff_eq, beq_eq_false_iff_ne, ne_eq, Bool.and_eq_true, Bool.or_eq_true, Bool.or_eq_false_iff] at hif); (try (have h9 : _ = true := hif; simp only [h9])); (try (have h9 : _ = false := hif; simp only [h9])); (try simp (maxSteps := 9999999) (disch := omega) only [go_sem, hr, g1]); (try (refine And.intro ?_ ?_; (focus (first | omega | (simp only [go_sem]; done) | (simp; done) | (simp; omega) | assumption)))); (try (exfalso; omega; done))))))
    (refine TopPost.of (by first | exact .inl rfl | exact .inr rfl) (by (try simp (maxSteps := 9999999) (disch := omega) only [go_sem, hr]); rfl) ?_; (try simp (maxSteps := 9999999) (disch := omega) only [go_sem, hr]); (try (first | trivial | decide | (simp; done))))
end Go.Proofs.Ytkdikmfnchmphaa
