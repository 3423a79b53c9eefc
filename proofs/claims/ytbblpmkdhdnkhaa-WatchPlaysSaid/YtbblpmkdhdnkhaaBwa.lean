/- The walk of WatchPlays. -/
import Derived.Test.YtbblpmkdhdnkhaaBw9
namespace Go.Proofs.Ytbblpmkdhdnkhaa
set_option linter.unusedSimpArgs false
set_option linter.unusedVariables false
set_option maxHeartbeats 4000000
open Go Go.Am Go.RowKit Go.ChangeShapes Go.WideShapes Go.ChangeAt
set_option maxRecDepth 100000
def St.rep (a : St) : List Value := (fun n : Int => [.int .i64 n]) a.c ++ (fun n : Int => [.int .i64 n]) a.s
structure St.ok (W : World) (a : St) : Prop where
  c : (fun n : Int => IntKind.i64.min ≤ n ∧ n ≤ IntKind.i64.max) a.c
  s : (fun n : Int => IntKind.i64.min ≤ n ∧ n ≤ IntKind.i64.max) a.s
set_option maxRecDepth 100000 in
theorem rd_St {H : Type} {enc : TypeId × Value → H} {W : World} {base : Nat} {held : Bool} : Rd enc Try.prog W base held 27 St.rep (St.ok W) := fun n cs x h => by
  obtain ⟨xs, n1, _, _, hlen, hx, hf⟩ := DataW.trod_struct Try.underlying27 h
  rw [show Try.prog.cellsOf 27 = 2 by kernel_rfl] at hlen
  have f0 : DataW.trod enc Try.prog W base (fun _ => true) held n1 3 ((cs.drop 0).take (Try.prog.cellsOf 3)) = xs[0]? := hf 0 _ rfl
  rw [show Try.prog.cellsOf 3 = 1 by kernel_rfl] at f0
  obtain ⟨y0, h0⟩ := at_some2 hx (by decide) f0
  obtain ⟨g0, a0, e0, w0⟩ := (rd_int Try.underlying3 : Rd _ _ _ _ _ _ (fun n : Int => [.int .i64 n]) (fun n : Int => IntKind.i64.min ≤ n ∧ n ≤ IntKind.i64.max)) _ _ _ h0
  have f1 : DataW.trod enc Try.prog W base (fun _ => true) held n1 3 ((cs.drop 1).take (Try.prog.cellsOf 3)) = xs[1]? := hf 1 _ rfl
  rw [show Try.prog.cellsOf 3 = 1 by kernel_rfl] at f1
  obtain ⟨y1, h1⟩ := at_some2 hx (by decide) f1
  obtain ⟨g1, a1, e1, w1⟩ := (rd_int Try.underlying3 : Rd _ _ _ _ _ _ (fun n : Int => [.int .i64 n]) (fun n : Int => IntKind.i64.min ≤ n ∧ n ≤ IntKind.i64.max)) _ _ _ h1
  match cs, hlen with
  | [c0, c1], _ =>
    simp [Sl.rep, St.rep] at e0 g0
    simp [Sl.rep, St.rep] at e1 g1
    exact ⟨by simp [*, Value.oneCell'], ⟨a0, a1⟩, by simp [Sl.rep, St.rep, *], ⟨w0, w1⟩⟩
def En.rep (a : En) : List Value := (fun s : ByteArray => [.string s]) a.key ++ (fun s : ByteArray => [.string s]) a.val ++ (fun b : Bool => [.bool b]) a.dead ++ (St.rep) a.st ++ (St.rep) a.act ++ (fun n : Int => [.int .i64 n]) a.keep ++ (fun n : Int => [.int .i64 n]) a.age
structure En.ok (W : World) (a : En) : Prop where
  key : (fun s : ByteArray => s.size ≤ maxLen) a.key
  val : (fun s : ByteArray => s.size ≤ maxLen) a.val
  dead : (fun _ : Bool => True) a.dead
  st : (St.ok W) a.st
  act : (St.ok W) a.act
  keep : (fun n : Int => IntKind.i64.min ≤ n ∧ n ≤ IntKind.i64.max) a.keep
  age : (fun n : Int => IntKind.i64.min ≤ n ∧ n ≤ IntKind.i64.max) a.age
set_option maxRecDepth 100000 in
theorem rd_En {H : Type} {enc : TypeId × Value → H} {W : World} {base : Nat} {held : Bool} : Rd enc Try.prog W base held 29 En.rep (En.ok W) := fun n cs x h => by
  obtain ⟨xs, n1, _, _, hlen, hx, hf⟩ := DataW.trod_struct Try.underlying29 h
  rw [show Try.prog.cellsOf 29 = 9 by kernel_rfl] at hlen
  have f0 : DataW.trod enc Try.prog W base (fun _ => true) held n1 9 ((cs.drop 0).take (Try.prog.cellsOf 9)) = xs[0]? := hf 0 _ rfl
  rw [show Try.prog.cellsOf 9 = 1 by kernel_rfl] at f0
  obtain ⟨y0, h0⟩ := at_some2 hx (by decide) f0
  obtain ⟨g0, a0, e0, w0⟩ := (rd_string Try.underlying9 : Rd _ _ _ _ _ _ (fun s : ByteArray => [.string s]) (fun s : ByteArray => s.size ≤ maxLen)) _ _ _ h0
  have f1 : DataW.trod enc Try.prog W base (fun _ => true) held n1 9 ((cs.drop 1).take (Try.prog.cellsOf 9)) = xs[1]? := hf 1 _ rfl
  rw [show Try.prog.cellsOf 9 = 1 by kernel_rfl] at f1
  obtain ⟨y1, h1⟩ := at_some2 hx (by decide) f1
  obtain ⟨g1, a1, e1, w1⟩ := (rd_string Try.underlying9 : Rd _ _ _ _ _ _ (fun s : ByteArray => [.string s]) (fun s : ByteArray => s.size ≤ maxLen)) _ _ _ h1
  have f2 : DataW.trod enc Try.prog W base (fun _ => true) held n1 4 ((cs.drop 2).take (Try.prog.cellsOf 4)) = xs[2]? := hf 2 _ rfl
  rw [show Try.prog.cellsOf 4 = 1 by kernel_rfl] at f2
  obtain ⟨y2, h2⟩ := at_some2 hx (by decide) f2
  obtain ⟨g2, a2, e2, w2⟩ := (rd_bool Try.underlying4 : Rd _ _ _ _ _ _ (fun b : Bool => [.bool b]) (fun _ : Bool => True)) _ _ _ h2
  have f3 : DataW.trod enc Try.prog W base (fun _ => true) held n1 27 ((cs.drop 3).take (Try.prog.cellsOf 27)) = xs[3]? := hf 3 _ rfl
  rw [show Try.prog.cellsOf 27 = 2 by kernel_rfl] at f3
  obtain ⟨y3, h3⟩ := at_some2 hx (by decide) f3
  obtain ⟨g3, a3, e3, w3⟩ := (rd_St : Rd _ _ _ _ _ _ (St.rep) (St.ok W)) _ _ _ h3
  have f4 : DataW.trod enc Try.prog W base (fun _ => true) held n1 27 ((cs.drop 5).take (Try.prog.cellsOf 27)) = xs[4]? := hf 4 _ rfl
  rw [show Try.prog.cellsOf 27 = 2 by kernel_rfl] at f4
  obtain ⟨y4, h4⟩ := at_some2 hx (by decide) f4
  obtain ⟨g4, a4, e4, w4⟩ := (rd_St : Rd _ _ _ _ _ _ (St.rep) (St.ok W)) _ _ _ h4
  have f5 : DataW.trod enc Try.prog W base (fun _ => true) held n1 3 ((cs.drop 7).take (Try.prog.cellsOf 3)) = xs[5]? := hf 5 _ rfl
  rw [show Try.prog.cellsOf 3 = 1 by kernel_rfl] at f5
  obtain ⟨y5, h5⟩ := at_some2 hx (by decide) f5
  obtain ⟨g5, a5, e5, w5⟩ := (rd_int Try.underlying3 : Rd _ _ _ _ _ _ (fun n : Int => [.int .i64 n]) (fun n : Int => IntKind.i64.min ≤ n ∧ n ≤ IntKind.i64.max)) _ _ _ h5
  have f6 : DataW.trod enc Try.prog W base (fun _ => true) held n1 3 ((cs.drop 8).take (Try.prog.cellsOf 3)) = xs[6]? := hf 6 _ rfl
  rw [show Try.prog.cellsOf 3 = 1 by kernel_rfl] at f6
  obtain ⟨y6, h6⟩ := at_some2 hx (by decide) f6
  obtain ⟨g6, a6, e6, w6⟩ := (rd_int Try.underlying3 : Rd _ _ _ _ _ _ (fun n : Int => [.int .i64 n]) (fun n : Int => IntKind.i64.min ≤ n ∧ n ≤ IntKind.i64.max)) _ _ _ h6
  match cs, hlen with
  | [c0, c1, c2, c3, c4, c5, c6, c7, c8], _ =>
    simp [Sl.rep, St.rep, En.rep] at e0 g0
    simp [Sl.rep, St.rep, En.rep] at e1 g1
    simp [Sl.rep, St.rep, En.rep] at e2 g2
    simp [Sl.rep, St.rep, En.rep] at e3 g3
    simp [Sl.rep, St.rep, En.rep] at e4 g4
    simp [Sl.rep, St.rep, En.rep] at e5 g5
    simp [Sl.rep, St.rep, En.rep] at e6 g6
    exact ⟨by simp [*, Value.oneCell'], ⟨a0, a1, a2, a3, a4, a5, a6⟩, by simp [Sl.rep, St.rep, En.rep, *], ⟨w0, w1, w2, w3, w4, w5, w6⟩⟩
def Up.rep (a : Up) : List Value := (En.rep) a.e ++ (fun b : Bool => [.bool b]) a.sure
structure Up.ok (W : World) (a : Up) : Prop where
  e : (En.ok W) a.e
  sure : (fun _ : Bool => True) a.sure
set_option maxRecDepth 100000 in
theorem rd_Up {H : Type} {enc : TypeId × Value → H} {W : World} {base : Nat} {held : Bool} : Rd enc Try.prog W base held 31 Up.rep (Up.ok W) := fun n cs x h => by
  obtain ⟨xs, n1, _, _, hlen, hx, hf⟩ := DataW.trod_struct Try.underlying31 h
  rw [show Try.prog.cellsOf 31 = 10 by kernel_rfl] at hlen
  have f0 : DataW.trod enc Try.prog W base (fun _ => true) held n1 29 ((cs.drop 0).take (Try.prog.cellsOf 29)) = xs[0]? := hf 0 _ rfl
  rw [show Try.prog.cellsOf 29 = 9 by kernel_rfl] at f0
  obtain ⟨y0, h0⟩ := at_some2 hx (by decide) f0
  obtain ⟨g0, a0, e0, w0⟩ := (rd_En : Rd _ _ _ _ _ _ (En.rep) (En.ok W)) _ _ _ h0
  have f1 : DataW.trod enc Try.prog W base (fun _ => true) held n1 4 ((cs.drop 9).take (Try.prog.cellsOf 4)) = xs[1]? := hf 1 _ rfl
  rw [show Try.prog.cellsOf 4 = 1 by kernel_rfl] at f1
  obtain ⟨y1, h1⟩ := at_some2 hx (by decide) f1
  obtain ⟨g1, a1, e1, w1⟩ := (rd_bool Try.underlying4 : Rd _ _ _ _ _ _ (fun b : Bool => [.bool b]) (fun _ : Bool => True)) _ _ _ h1
  match cs, hlen with
  | [c0, c1, c2, c3, c4, c5, c6, c7, c8, c9], _ =>
    simp [Sl.rep, St.rep, En.rep, Up.rep] at e0 g0
    simp [Sl.rep, St.rep, En.rep, Up.rep] at e1 g1
    exact ⟨by simp [*, Value.oneCell'], ⟨a0, a1⟩, by simp [Sl.rep, St.rep, En.rep, Up.rep, *], ⟨w0, w1⟩⟩
structure Lk where
  see : Bool
  up : Up
  table : Sl (En)
def Lk.rep (a : Lk) : List Value := (fun b : Bool => [.bool b]) a.see ++ (Up.rep) a.up ++ (fun s : Sl (En) => s.rep) a.table
structure Lk.ok (W : World) (a : Lk) : Prop where
  see : (fun _ : Bool => True) a.see
  up : (Up.ok W) a.up
  table : (Sl.ok W 9 (En.rep) (En.ok W)) a.table
set_option maxRecDepth 100000 in
theorem rd_Lk {H : Type} {enc : TypeId × Value → H} {W : World} {base : Nat} {held : Bool} : Rd enc Try.prog W base held 48 Lk.rep (Lk.ok W) := fun n cs x h => by
  obtain ⟨xs, n1, _, _, hlen, hx, hf⟩ := DataW.trod_struct Try.underlying48 h
  rw [show Try.prog.cellsOf 48 = 12 by kernel_rfl] at hlen
  have f0 : DataW.trod enc Try.prog W base (fun _ => true) held n1 4 ((cs.drop 0).take (Try.prog.cellsOf 4)) = xs[0]? := hf 0 _ rfl
  rw [show Try.prog.cellsOf 4 = 1 by kernel_rfl] at f0
  obtain ⟨y0, h0⟩ := at_some2 hx (by decide) f0
  obtain ⟨g0, a0, e0, w0⟩ := (rd_bool Try.underlying4 : Rd _ _ _ _ _ _ (fun b : Bool => [.bool b]) (fun _ : Bool => True)) _ _ _ h0
  have f1 : DataW.trod enc Try.prog W base (fun _ => true) held n1 31 ((cs.drop 1).take (Try.prog.cellsOf 31)) = xs[1]? := hf 1 _ rfl
  rw [show Try.prog.cellsOf 31 = 10 by kernel_rfl] at f1
  obtain ⟨y1, h1⟩ := at_some2 hx (by decide) f1
  obtain ⟨g1, a1, e1, w1⟩ := (rd_Up : Rd _ _ _ _ _ _ (Up.rep) (Up.ok W)) _ _ _ h1
  have f2 : DataW.trod enc Try.prog W base (fun _ => true) held n1 22 ((cs.drop 11).take (Try.prog.cellsOf 22)) = xs[2]? := hf 2 _ rfl
  rw [show Try.prog.cellsOf 22 = 1 by kernel_rfl] at f2
  obtain ⟨y2, h2⟩ := at_some2 hx (by decide) f2
  obtain ⟨g2, a2, e2, w2⟩ := (rd_slice Try.underlying22 (show Try.prog.cellsOf 29 = 9 by kernel_rfl) (by decide) (rd_En) : Rd _ _ _ _ _ _ (fun s : Sl (En) => s.rep) (Sl.ok W 9 (En.rep) (En.ok W))) _ _ _ h2
  match cs, hlen with
  | [c0, c1, c2, c3, c4, c5, c6, c7, c8, c9, c10, c11], _ =>
    simp [Sl.rep, St.rep, En.rep, Up.rep, Lk.rep] at e0 g0
    simp [Sl.rep, St.rep, En.rep, Up.rep, Lk.rep] at e1 g1
    simp [Sl.rep, St.rep, En.rep, Up.rep, Lk.rep] at e2 g2
    exact ⟨by simp [*, Value.oneCell'], ⟨a0, a1, a2⟩, by simp [Sl.rep, St.rep, En.rep, Up.rep, Lk.rep, *], ⟨w0, w1, w2⟩⟩
abbrev LkL (x : Lk) : List AV := [Bo x.see, Str x.up.e.key, Str x.up.e.val, Bo x.up.e.dead, I x.up.e.st.c, I x.up.e.st.s, I x.up.e.act.c, I x.up.e.act.s, I x.up.e.keep, I x.up.e.age, Bo x.up.sure, .val (.slice x.table.ad x.table.l.length x.table.cap)]
structure Ws where
  seen : Int
  ups : List Up
  last : List En
  mo : Nat
/- quidnunc/quidnunclaw26.WatchPlays -/
noncomputable def c4_1 : ACode := .region false [⟨some 4, .move, [.c (.val (.bool false))], none⟩] [] [] [0, 1] false [] []
noncomputable def c4_4 : ACode := .region false [⟨some 11, .call 8, [], none⟩,
  ⟨some 12, .un .not, [.t 11], none⟩,
  ⟨some 13, .move, [.t 12], none⟩,
  ⟨some 14, .move, [.t 1], some (some 13, false)⟩,
  ⟨some 15, .len, [.t 14], some (some 13, false)⟩,
  ⟨some 16, .bin .gtr, [.t 15, .c (.val (.int .i64 30))], some (some 13, false)⟩,
  ⟨some 17, .pick, [.t 13, .c (.val (.bool true)), .t 16], none⟩] [] [] [0, 1, 17] true [] []
noncomputable def c4_7 : ACode := .region false [⟨some 18, .call 8, [], none⟩,
  ⟨some 4, .move, [.t 18], none⟩] [] [] [4] true [] []
noncomputable def c4_6 : ACode := .seq c4_7 .ret
noncomputable def c4_5 : ACode := .cond (.t 17) c4_6 .skip
noncomputable def c4_3 : ACode := .seq c4_4 c4_5
noncomputable def c4_9 : ACode := .region false [⟨some 19, .move, [.t 0], none⟩,
  ⟨some 20, .call 17, [.t 19], none⟩,
  ⟨some 5, .move, [.t 20], none⟩] [] [] [0, 1, 5] true [] []
noncomputable def c4_11 : ACode := .region false [⟨some 21, .move, [.t 0], none⟩,
  ⟨some 22, .build [(.int .i64 0), (.int .i64 0), (.slice none 0 0), (.slice none 0 0)] [(0, 1)], [.t 21], none⟩,
  ⟨some 6, .alloc [(.int .i64 0), (.int .i64 0), (.slice none 0 0), (.slice none 0 0)], [], none⟩,
  ⟨none, .store 4, [.t 6, .t 22], none⟩] [] [] [1, 5, 6] true [] []
noncomputable def c4_14 : ACode := .region false [⟨some 23, .move, [.t 5], none⟩,
  ⟨some 24, .eqP false, [.t 23, .c (.val (.pointer none))], none⟩] [] [] [1, 5, 6, 24] false [] []
noncomputable def c4_17 : ACode := .region false [⟨some 4, .move, [.c (.val (.bool false))], none⟩] [] [] [4] false [] []
noncomputable def c4_16 : ACode := .seq c4_17 .ret
noncomputable def c4_15 : ACode := .cond (.t 24) c4_16 .skip
noncomputable def c4_13 : ACode := .seq c4_14 c4_15
noncomputable def c4_20 : ACode := .region false [⟨some 25, .move, [.t 1], none⟩,
  ⟨some 26, .len, [.t 25], none⟩,
  ⟨some 27, .move, [.c (.val (.int .i64 0))], none⟩] [] [] [5, 6, 25, 26, 27] false [] []
noncomputable def c4_24 : ACode := .region false [⟨some 28, .bin .lss, [.t 27, .t 26], none⟩] [] [] [5, 6, 25, 26, 27, 28] false [] []
noncomputable def c4_26 : ACode := .cond (.t 28) .skip (.exit 0)
noncomputable def c4_30 : ACode := .region false [⟨some 29, .ixS 12, [.t 25, .t 27], none⟩,
  ⟨some 30, .load true 12, [.t 29], none⟩,
  ⟨some 8, .alloc [(.bool false), (.string ⟨#[]⟩), (.string ⟨#[]⟩), (.bool false), (.int .i64 0), (.int .i64 0), (.int .i64 0), (.int .i64 0), (.int .i64 0), (.int .i64 0), (.bool false), (.slice none 0 0)], [], none⟩,
  ⟨none, .store 12, [.t 8, .t 30], none⟩] [] [] [5, 6, 8, 25, 26, 27] true [] []
noncomputable def c4_33 : ACode := .region false [⟨some 31, .addr 11, [.t 8], none⟩,
  ⟨some 32, .load false 1, [.t 31], none⟩,
  ⟨some 33, .len, [.t 32], none⟩,
  ⟨some 34, .bin .gtr, [.t 33, .c (.val (.int .i64 12))], none⟩,
  ⟨some 35, .move, [.t 34], none⟩,
  ⟨some 36, .addr 11, [.t 8], some (some 35, false)⟩,
  ⟨some 37, .load false 1, [.t 36], some (some 35, false)⟩,
  ⟨some 38, .call 9, [.t 37], some (some 35, false)⟩,
  ⟨some 39, .un .not, [.t 38], some (some 35, false)⟩,
  ⟨some 40, .pick, [.t 35, .c (.val (.bool true)), .t 39], none⟩,
  ⟨some 41, .move, [.t 40], none⟩,
  ⟨some 42, .addr 1, [.t 8], some (some 41, false)⟩,
  ⟨some 43, .addr 0, [.t 42], some (some 41, false)⟩,
  ⟨some 44, .load true 9, [.t 43], some (some 41, false)⟩,
  ⟨some 45, .call 10, [.t 44], some (some 41, false)⟩,
  ⟨some 46, .un .not, [.t 45], some (some 41, false)⟩,
  ⟨some 47, .pick, [.t 41, .c (.val (.bool true)), .t 46], none⟩] [] [] [5, 6, 8, 25, 26, 27, 47] true [] []
noncomputable def c4_36 : ACode := .region false [⟨some 4, .move, [.c (.val (.bool true))], none⟩] [] [] [4] false [] []
noncomputable def c4_35 : ACode := .seq c4_36 .ret
noncomputable def c4_34 : ACode := .cond (.t 47) c4_35 .skip
noncomputable def c4_32 : ACode := .seq c4_33 c4_34
noncomputable def c4_39 : ACode := .region false [⟨some 48, .addr 0, [.t 8], none⟩,
  ⟨some 49, .load false 1, [.t 48], none⟩,
  ⟨some 50, .un .not, [.t 49], none⟩] [] [] [5, 6, 8, 25, 26, 27, 50] false [] []
noncomputable def c4_42 : ACode := .region true [⟨some 51, .move, [.t 5], none⟩,
  ⟨some 52, .addr 1, [.t 8], none⟩,
  ⟨some 53, .addr 0, [.t 52], none⟩,
  ⟨some 54, .load true 9, [.t 53], none⟩,
  ⟨some 55, .call 19, [.t 54], none⟩,
  ⟨some 56, .addr 1, [.t 8], none⟩,
  ⟨some 57, .addr 9, [.t 56], none⟩,
  ⟨some 58, .load false 1, [.t 57], none⟩,
  ⟨some 59, .build [(.string ⟨#[]⟩), (.string ⟨#[]⟩), (.bool false), (.int .i64 0), (.int .i64 0), (.int .i64 0), (.int .i64 0), (.int .i64 0), (.int .i64 0), (.bool false)] [(0, 9), (9, 1)], [.t 55, .t 58], none⟩,
  ⟨some 60, .call 18, [.t 51, .t 59], none⟩] [] [] [5, 6, 8, 25, 26, 27] true [] []
noncomputable def c4_43 : ACode := .region false [⟨some 61, .addr 2, [.t 6], none⟩,
  ⟨some 62, .load false 1, [.t 61], none⟩,
  ⟨some 63, .addr 1, [.t 8], none⟩,
  ⟨some 64, .load true 10, [.t 63], none⟩,
  ⟨some 65, .buildSl 10 1 [(.string ⟨#[]⟩), (.string ⟨#[]⟩), (.bool false), (.int .i64 0), (.int .i64 0), (.int .i64 0), (.int .i64 0), (.int .i64 0), (.int .i64 0), (.bool false)] [(0, 10)], [.t 64], none⟩,
  ⟨some 66, .append 10 96 false, [.t 62, .t 65], none⟩,
  ⟨some 67, .addr 2, [.t 6], none⟩,
  ⟨none, .store 1, [.t 67, .t 66], none⟩] [] [] [5, 6, 25, 26, 27] true [] []
noncomputable def c4_41 : ACode := .seq c4_42 c4_43
noncomputable def c4_45 : ACode := .region false [⟨some 69, .load true 4, [.t 6], none⟩,
  ⟨some 70, .addr 11, [.t 8], none⟩,
  ⟨some 71, .load false 1, [.t 70], none⟩,
  ⟨some 72, .call 20, [.t 69, .t 71], none⟩,
  ⟨some 68, .move, [.t 72], none⟩,
  ⟨some 73, .ext 0, [.t 68], none⟩,
  ⟨some 74, .ext 1, [.t 68], none⟩,
  ⟨some 9, .alloc [(.int .i64 0), (.int .i64 0), (.slice none 0 0), (.slice none 0 0)], [], none⟩,
  ⟨none, .store 4, [.t 9, .t 73], none⟩,
  ⟨some 10, .move, [.t 74], none⟩] [] [] [5, 6, 8, 9, 10, 25, 26, 27] true [] []
noncomputable def c4_47 : ACode := .region false [⟨some 75, .load true 4, [.t 9], none⟩,
  ⟨none, .store 4, [.t 6, .t 75], none⟩] [] [] [5, 6, 8, 10, 25, 26, 27] true [] []
noncomputable def c4_49 : ACode := .region false [⟨some 76, .move, [.t 5], none⟩,
  ⟨some 77, .addr 11, [.t 8], none⟩,
  ⟨some 78, .load false 1, [.t 77], none⟩,
  ⟨some 79, .call 12, [.t 78], none⟩,
  ⟨some 80, .call 21, [.t 76, .t 79], none⟩,
  ⟨some 81, .move, [.t 10], none⟩,
  ⟨some 82, .bin .neq, [.t 80, .t 81], none⟩] [] [] [5, 6, 25, 26, 27, 82] true [] []
noncomputable def c4_52 : ACode := .region false [⟨some 4, .move, [.c (.val (.bool false))], none⟩] [] [] [4] false [] []
noncomputable def c4_51 : ACode := .seq c4_52 .ret
noncomputable def c4_50 : ACode := .cond (.t 82) c4_51 .skip
noncomputable def c4_48 : ACode := .seq c4_49 c4_50
noncomputable def c4_46 : ACode := .seq c4_47 c4_48
noncomputable def c4_44 : ACode := .seq c4_45 c4_46
noncomputable def c4_40 : ACode := .cond (.t 50) c4_41 c4_44
noncomputable def c4_38 : ACode := .seq c4_39 c4_40
noncomputable def c4_54 : ACode := .region true [⟨some 83, .move, [.t 5], none⟩,
  ⟨some 84, .call 22, [.t 83], none⟩,
  ⟨some 85, .addr 1, [.t 6], none⟩,
  ⟨some 86, .load false 1, [.t 85], none⟩,
  ⟨some 87, .bin .neq, [.t 84, .t 86], none⟩] [] [] [5, 6, 25, 26, 27, 87] true [] []
noncomputable def c4_57 : ACode := .region false [⟨some 4, .move, [.c (.val (.bool false))], none⟩] [] [] [4] false [] []
noncomputable def c4_56 : ACode := .seq c4_57 .ret
noncomputable def c4_55 : ACode := .cond (.t 87) c4_56 .skip
noncomputable def c4_53 : ACode := .seq c4_54 c4_55
noncomputable def c4_37 : ACode := .seq c4_38 c4_53
noncomputable def c4_31 : ACode := .seq c4_32 c4_37
noncomputable def c4_29 : ACode := .seq c4_30 c4_31
noncomputable def c4_28 : ACode := .block 1 c4_29
noncomputable def c4_58 : ACode := .region false [⟨some 88, .bin .add, [.t 27, .c (.val (.int .i64 1))], none⟩,
  ⟨some 27, .move, [.t 88], none⟩] [] [] [5, 6, 25, 26, 27] false [] []
noncomputable def c4_27 : ACode := .seq c4_28 c4_58
noncomputable def c4_25 : ACode := .seq c4_26 c4_27
noncomputable def c4_23 : ACode := .seq c4_24 c4_25
noncomputable def c4_22 : ACode := .loop c4_23
noncomputable def c4_21 : ACode := .block 0 c4_22
noncomputable def c4_19 : ACode := .seq c4_20 c4_21
noncomputable def c4_60 : ACode := .region false [⟨some 4, .move, [.c (.val (.bool true))], none⟩] [] [] [4] false [] []
noncomputable def c4_59 : ACode := .seq c4_60 .ret
noncomputable def c4_18 : ACode := .seq c4_19 c4_59
noncomputable def c4_12 : ACode := .seq c4_13 c4_18
noncomputable def c4_10 : ACode := .seq c4_11 c4_12
noncomputable def c4_8 : ACode := .seq c4_9 c4_10
noncomputable def c4_2 : ACode := .seq c4_3 c4_8
noncomputable def c4_0 : ACode := .seq c4_1 c4_2
noncomputable def code4 : Code := (Try.f4.body).getD .skip
theorem c4_ok : compC Try.prog 89 code4 = some (strip c4_0) := by kernel_rfl
theorem res4_ok : Try.f4.results.toList.mapM (resC Try.prog) = some [(4, none)] := by kernel_rfl
theorem watchPlays_walk (W : World) (site : Int) (sl : Sl Lk) (hz : Sl.ok W 12 Lk.rep (Lk.ok W) sl) :
    Calls Try.prog 4 #[.int .i64 site, .slice sl.ad sl.l.length sl.cap] W fun e W' => e = .returned (.bool true) ∧ Below W.heap.size W W' := by
  obtain ⟨ad, off, cap, l⟩ := sl
  obtain ⟨hz, hall, hl⟩ := hz
  have hl : l.length ≤ 9223372036854775807 := by simpa [maxLen] using hl
  simp only at hz hall
  have hrl : ∀ ρ, renL ρ (rowsC off LkL l) = rowsC off LkL l := fun ρ => rowsC_ren (fun ρ x => by simp [renL, ren]) ρ l
  have hL : (rowsC off LkL l).length = off + l.length * 12 := rowsC_len (f := LkL) (k := 12) (fun _ => rfl) l
  have sp := speaks26_any
  by_cases h30 : (30 : Int) < (l.length : Int)
  · have g1 : ((30 : Int) < (l.length : Int)) = True := eq_true h30
    refine top_call c4_ok Try.func4 rfl Try.ntmps4 res4_ok [ .val (.int .i64 site), .val (.slice ad l.length cap)] (by simp) (by (repeat' (first | exact VRs_nil' _ | exact VR_val' _ _ | (refine VRs_cons' ?_ ?_) | (refine VR_agg' (by first | rfl | assumption) ?_; first | assumption | simp [Value.oneCell', St.rep, En.rep, Up.rep, Lk.rep])))) ?_; try simp (maxSteps := 9999999) (disch := omega) only [go_sem]
    refine AWpA.thawT 1 LkL hz (fun x => by simp [Lk.rep, Up.rep, En.rep, St.rep, Sl.rep]) rfl ?_
    (repeat' (first | refine AWpA.seq ?_ | refine AWpA.block ?_ | (with_reducible refine CondP.tt ?_) | (with_reducible refine CondP.ff ?_) | refine AWpA.condv (by simp (maxSteps := 9999999) (disch := omega) only [go_sem, hrl, g1]; rfl) ?_ | ((first | (apply AWpA.region; (focus (simp (maxSteps := 9999999) (disch := omega) only [go_sem, hrl, g1]; rfl))) | (apply AWpA.draw [] [] follows; (focus (first | rfl | decide)); (focus (simp (maxSteps := 9999999) (disch := omega) only [go_sem, hrl, g1]; rfl)); (focus (simp (maxSteps := 9999999) (disch := omega) only [go_sem, hrl, g1]; first | done | trivial)); (focus (simp (maxSteps := 9999999) (disch := omega) only [go_sem, hrl, g1]; rfl))) | (apply TailK.go; (focus (simp (maxSteps := 9999999) (disch := omega) only [go_sem, hrl, g1]; rfl))) | refine AWpA.skip ?_ | refine AWpA.exit ?_ | refine AWpA.ret ?_ | (with_reducible refine ARoundsA.succ ?_) | ((first | refine Runs.kt (by assumption) (fun h9 => ?_) | refine Runs.kf (by assumption) (fun h9 => ?_) | refine Runs.nt (by assumption) (fun h9 => ?_) | refine Runs.nf (by assumption) (fun h9 => ?_) | refine CondP.ht (by assumption) (fun h9 => ?_) | refine CondP.hf (by assumption) (fun h9 => ?_) | refine CondP.nt (by assumption) (fun h9 => ?_) | refine CondP.nf (by assumption) (fun h9 => ?_)); (try simp only [h9]); clear h9) | ((first | (with_reducible apply CallG.plain1 [] (sp)) | (with_reducible apply CallG.draw1 [] (sp))); (focus ((try refine And.intro (leAs_of_eq rfl) ?_); (try refine And.intro (leOL_of_eq rfl) ?_); simp (maxSteps := 9999999) (disch := omega) only [go_sem, hrl, g1]; first | done | (repeat' (first | rfl | (refine And.intro ?_ ?_))))); (focus (simp (maxSteps := 9999999) (disch := omega) only [go_sem, hrl, g1]; rfl)))); (try simp (maxSteps := 9999999) (disch := omega) only [go_sem, hrl, g1]); (try (refine And.intro ?_ ?_; (focus (first | omega | (simp only [go_sem]; done) | (simp; done) | (simp; omega) | assumption))))) | ((first | refine CondP.split (fun hif => ?_) (fun hif => ?_) | refine Runs.part (fun hif => ?_) (fun hif => ?_)) <;> ((try simp only [hif]); (try simp only [decide_eq_true_eq, decide_eq_false_iff_not, Bool.not_eq_true, Bool.not_eq_false, Bool.not_eq_true', Bool.not_eq_false', beq_iff_eq, bne_iff_ne, bne_eq_false_iff_eq, beq_eq_false_iff_ne, ne_eq, Bool.and_eq_true, Bool.or_eq_true, Bool.or_eq_false_iff] at hif); (try (have h9 : _ = true := hif; simp only [h9])); (try (have h9 : _ = false := hif; simp only [h9])); (try simp (maxSteps := 9999999) (disch := omega) only [go_sem, hrl, g1]); (try (refine And.intro ?_ ?_; (focus (first | omega | (simp only [go_sem]; done) | (simp; done) | (simp; omega) | assumption)))); (try (exfalso; omega; done))))))
    (refine TopPost.of (by first | exact .inl rfl | exact .inr rfl) (by (try simp (maxSteps := 9999999) (disch := omega) only [go_sem]); rfl) ?_; (try simp (maxSteps := 9999999) (disch := omega) only [go_sem]); (try (first | trivial | decide | (simp; done))))
  have g1 : ((30 : Int) < (l.length : Int)) = False := eq_false h30
  have hr := re_ren
  have hu := ru_ren 0
  have n1 := wnew_any site
  refine top_call c4_ok Try.func4 rfl Try.ntmps4 res4_ok [ .val (.int .i64 site), .val (.slice ad l.length cap)] (by simp) (by (repeat' (first | exact VRs_nil' _ | exact VR_val' _ _ | (refine VRs_cons' ?_ ?_) | (refine VR_agg' (by first | rfl | assumption) ?_; first | assumption | simp [Value.oneCell', St.rep, En.rep, Up.rep, Lk.rep])))) ?_; try simp (maxSteps := 9999999) (disch := omega) only [go_sem]
  refine AWpA.thawT 1 LkL hz (fun x => by simp [Lk.rep, Up.rep, En.rep, St.rep, Sl.rep]) rfl ?_
  refine AWpA.dummy ?_
  refine AWpA.dummy ?_
  refine AWpA.dummy ?_
  (repeat' (first | refine AWpA.seq ?_ | refine AWpA.block ?_ | (with_reducible refine CondP.tt ?_) | (with_reducible refine CondP.ff ?_) | refine AWpA.condv (by simp (maxSteps := 9999999) (disch := omega) only [go_sem, hrl, g1]; rfl) ?_ | ((first | (apply AWpA.region; (focus (simp (maxSteps := 9999999) (disch := omega) only [go_sem, hrl, g1]; rfl))) | (apply AWpA.draw [] [] follows; (focus (first | rfl | decide)); (focus (simp (maxSteps := 9999999) (disch := omega) only [go_sem, hrl, g1]; rfl)); (focus (simp (maxSteps := 9999999) (disch := omega) only [go_sem, hrl, g1]; first | done | trivial)); (focus (simp (maxSteps := 9999999) (disch := omega) only [go_sem, hrl, g1]; rfl))) | (apply TailK.go; (focus (simp (maxSteps := 9999999) (disch := omega) only [go_sem, hrl, g1]; rfl))) | refine AWpA.skip ?_ | refine AWpA.exit ?_ | refine AWpA.ret ?_ | (with_reducible refine ARoundsA.succ ?_) | ((first | refine Runs.kt (by assumption) (fun h9 => ?_) | refine Runs.kf (by assumption) (fun h9 => ?_) | refine Runs.nt (by assumption) (fun h9 => ?_) | refine Runs.nf (by assumption) (fun h9 => ?_) | refine CondP.ht (by assumption) (fun h9 => ?_) | refine CondP.hf (by assumption) (fun h9 => ?_) | refine CondP.nt (by assumption) (fun h9 => ?_) | refine CondP.nf (by assumption) (fun h9 => ?_)); (try simp only [h9]); clear h9) | ((first | (with_reducible apply CallG.plain1 [] (sp)) | (with_reducible apply CallG.draw1 [] (sp))); (focus ((try refine And.intro (leAs_of_eq rfl) ?_); (try refine And.intro (leOL_of_eq rfl) ?_); simp (maxSteps := 9999999) (disch := omega) only [go_sem, hrl, g1]; first | done | (repeat' (first | rfl | (refine And.intro ?_ ?_))))); (focus (simp (maxSteps := 9999999) (disch := omega) only [go_sem, hrl, g1]; rfl))) | ((first | (with_reducible apply CallG.plain1 [] (n1)) | (with_reducible apply CallG.draw1 [] (n1))); (focus ((try refine And.intro (leAs_of_eq rfl) ?_); (try refine And.intro (leOL_of_eq rfl) ?_); simp (maxSteps := 9999999) (disch := omega) only [go_sem, hrl, g1]; first | done | (repeat' (first | rfl | (refine And.intro ?_ ?_))))); (focus (simp (maxSteps := 9999999) (disch := omega) only [go_sem, hrl, g1]; rfl)))); (try simp (maxSteps := 9999999) (disch := omega) only [go_sem, hrl, g1]); (try (refine And.intro ?_ ?_; (focus (first | omega | (simp only [go_sem]; done) | (simp; done) | (simp; omega) | assumption))))) | ((first | refine CondP.split (fun hif => ?_) (fun hif => ?_) | refine Runs.part (fun hif => ?_) (fun hif => ?_)) <;> ((try simp only [hif]); (try simp only [decide_eq_true_eq, decide_eq_false_iff_not, Bool.not_eq_true, Bool.not_eq_false, Bool.not_eq_true', Bool.not_eq_false', beq_iff_eq, bne_iff_ne, bne_eq_false_iff_eq, beq_eq_false_iff_ne, ne_eq, Bool.and_eq_true, Bool.or_eq_true, Bool.or_eq_false_iff] at hif); (try (have h9 : _ = true := hif; simp only [h9])); (try (have h9 : _ = false := hif; simp only [h9])); (try simp (maxSteps := 9999999) (disch := omega) only [go_sem, hrl, g1]); (try (refine And.intro ?_ ?_; (focus (first | omega | (simp only [go_sem]; done) | (simp; done) | (simp; omega) | assumption)))); (try (exfalso; omega; done))))))
  have hz0 : Fz W none ([] : List En).length 0 9 0 (([] : List En).flatMap En.rep) := .inl ⟨rfl, rfl, rfl, rfl⟩
  refine AWpA.thawO 212 3 EnL hz0 (fun x => by simp [En.rep, St.rep]) rfl rfl rfl ?_
  (try simp (maxSteps := 9999999) (disch := omega) only [go_sem])
  (apply AWpA.loopL (fun p : Nat × Ws => [(5, .ptr 1 0), (6, .ptr 4 0), (25, .sl 0 off l.length 12 none), (26, I l.length), (27, I p.1)]) (fun p => [.cells true (rowsC off LkL l), WO 2 3 site p.2.seen p.2.ups p.2.last, .cells false (Ru 0 p.2.ups), .cells false (Re 0 p.2.last), .cells false [I site, I p.2.seen, .sl 5 0 p.2.ups.length 10 none, .sl 6 p.2.mo p.2.last.length 9 none], .cells false (Ru 0 p.2.ups), .cells true (Re p.2.mo p.2.last)]) (fun p => l.length - p.1) (fun p => p.1 ≤ l.length ∧ 0 ≤ p.2.seen ∧ p.2.seen ≤ p.1 ∧ p.2.ups.length ≤ p.1 ∧ p.2.last.length ≤ 40) ((0, ⟨0, [], [], 0⟩)) [0, _, 1, 2, 212, 3, 324]; rotate_left; (focus (simp (maxSteps := 9999999) (disch := omega) only [go_sem, hrl, hu, hr, ru_nil, re_nil]; (try (repeat' (first | done | trivial | rfl | exact leAs_rfl _ | decide | (refine And.intro ?_ ?_) | (simp; done) | omega | (simp; decide)))))); rotate_right)
  · refine ⟨Nat.zero_le _, by simp, by simp, by simp, by simp⟩
  rintro ⟨i, seen, ups, last, mo⟩ ⟨hi, hs0, hs1, hul, hll⟩
  (try simp only at hi hs0 hs1 hul hll)
  by_cases hin : i < l.length
  · have k1 : ((i : Int) < (l.length : Int)) = True := eq_true (by omega)
    have hat : ((rowsC off LkL l).drop (off + i * 12)).take 12 = LkL l[i] := rowsC_at (f := LkL) (k := 12) (fun _ => rfl) l i hin
    have hao := hall _ (List.getElem_mem hin)
    generalize l[i] = a at *
    obtain ⟨see, u, ⟨tad, to', tcap, T⟩⟩ := a
    have hzp := hao.table.fz
    simp only at hzp
    clear hao
    by_cases h12 : (12 : Int) < (T.length : Int)
    · have g2 : ((12 : Int) < (T.length : Int)) = True := eq_true h12
      (try simp (maxSteps := 9999999) (disch := omega) only [go_sem])
      (repeat' (first | (refine AWpA.thawO 55 11 EnL hzp (fun x => by simp [En.rep, St.rep]) rfl rfl rfl ?_; (try simp only [List.set_cons_zero, List.set_cons_succ]); (try simp (maxSteps := 9999999) (disch := omega) only [go_sem, hrl, hr, hu, hL, k1, hat, g2])) | refine AWpA.seq ?_ | refine AWpA.block ?_ | (with_reducible refine CondP.tt ?_) | (with_reducible refine CondP.ff ?_) | refine AWpA.condv (by simp (maxSteps := 9999999) (disch := omega) only [go_sem, hrl, hr, hu, hL, k1, hat, g2]; rfl) ?_ | ((first | (apply AWpA.region; (focus (simp (maxSteps := 9999999) (disch := omega) only [go_sem, hrl, hr, hu, hL, k1, hat, g2]; rfl))) | (apply AWpA.draw [] [] follows; (focus (first | rfl | decide)); (focus (simp (maxSteps := 9999999) (disch := omega) only [go_sem, hrl, hr, hu, hL, k1, hat, g2]; rfl)); (focus (simp (maxSteps := 9999999) (disch := omega) only [go_sem, hrl, hr, hu, hL, k1, hat, g2]; first | done | trivial)); (focus (simp (maxSteps := 9999999) (disch := omega) only [go_sem, hrl, hr, hu, hL, k1, hat, g2]; rfl))) | (apply TailK.go; (focus (simp (maxSteps := 9999999) (disch := omega) only [go_sem, hrl, hr, hu, hL, k1, hat, g2]; rfl))) | refine AWpA.skip ?_ | refine AWpA.exit ?_ | refine AWpA.ret ?_ | (with_reducible refine ARoundsA.succ ?_) | ((first | refine Runs.kt (by assumption) (fun h9 => ?_) | refine Runs.kf (by assumption) (fun h9 => ?_) | refine Runs.nt (by assumption) (fun h9 => ?_) | refine Runs.nf (by assumption) (fun h9 => ?_) | refine CondP.ht (by assumption) (fun h9 => ?_) | refine CondP.hf (by assumption) (fun h9 => ?_) | refine CondP.nt (by assumption) (fun h9 => ?_) | refine CondP.nf (by assumption) (fun h9 => ?_)); (try simp only [h9]); clear h9)); (try simp (maxSteps := 9999999) (disch := omega) only [go_sem, hrl, hr, hu, hL, k1, hat, g2]); (try (refine And.intro ?_ ?_; (focus (first | omega | (simp only [go_sem]; done) | (simp; done) | (simp; omega) | assumption))))) | ((first | refine CondP.split (fun hif => ?_) (fun hif => ?_) | refine Runs.part (fun hif => ?_) (fun hif => ?_)) <;> ((try simp only [hif]); (try simp only [decide_eq_true_eq, decide_eq_false_iff_not, Bool.not_eq_true, Bool.not_eq_false, Bool.not_eq_true', Bool.not_eq_false', beq_iff_eq, bne_iff_ne, bne_eq_false_iff_eq, beq_eq_false_iff_ne, ne_eq, Bool.and_eq_true, Bool.or_eq_true, Bool.or_eq_false_iff] at hif); (try (have h9 : _ = true := hif; simp only [h9])); (try (have h9 : _ = false := hif; simp only [h9])); (try simp (maxSteps := 9999999) (disch := omega) only [go_sem, hrl, hr, hu, hL, k1, hat, g2]); (try (refine And.intro ?_ ?_; (focus (first | omega | (simp only [go_sem]; done) | (simp; done) | (simp; omega) | assumption)))); (try (exfalso; omega; done))))))
      (refine TopPost.of (by first | exact .inl rfl | exact .inr rfl) (by (try simp (maxSteps := 9999999) (disch := omega) only [go_sem]); rfl) ?_; (try simp (maxSteps := 9999999) (disch := omega) only [go_sem]); (try (first | trivial | decide | (simp; done))))
    · have g2 : ((12 : Int) < (T.length : Int)) = False := eq_false h12
      have hT : T.length ≤ 12 := by omega
      have c1 := few26_any to' T (by omega)
      cases hfw : fewW T with
      | false =>
        rw [hfw] at c1
        (try simp (maxSteps := 9999999) (disch := omega) only [go_sem])
        (repeat' (first | (refine AWpA.thawO 55 11 EnL hzp (fun x => by simp [En.rep, St.rep]) rfl rfl rfl ?_; (try simp only [List.set_cons_zero, List.set_cons_succ]); (try simp (maxSteps := 9999999) (disch := omega) only [go_sem, hrl, hr, hu, hL, k1, hat, g2])) | refine AWpA.seq ?_ | refine AWpA.block ?_ | (with_reducible refine CondP.tt ?_) | (with_reducible refine CondP.ff ?_) | refine AWpA.condv (by simp (maxSteps := 9999999) (disch := omega) only [go_sem, hrl, hr, hu, hL, k1, hat, g2]; rfl) ?_ | ((first | (apply AWpA.region; (focus (simp (maxSteps := 9999999) (disch := omega) only [go_sem, hrl, hr, hu, hL, k1, hat, g2]; rfl))) | (apply AWpA.draw [] [] follows; (focus (first | rfl | decide)); (focus (simp (maxSteps := 9999999) (disch := omega) only [go_sem, hrl, hr, hu, hL, k1, hat, g2]; rfl)); (focus (simp (maxSteps := 9999999) (disch := omega) only [go_sem, hrl, hr, hu, hL, k1, hat, g2]; first | done | trivial)); (focus (simp (maxSteps := 9999999) (disch := omega) only [go_sem, hrl, hr, hu, hL, k1, hat, g2]; rfl))) | (apply TailK.go; (focus (simp (maxSteps := 9999999) (disch := omega) only [go_sem, hrl, hr, hu, hL, k1, hat, g2]; rfl))) | refine AWpA.skip ?_ | refine AWpA.exit ?_ | refine AWpA.ret ?_ | (with_reducible refine ARoundsA.succ ?_) | ((first | refine Runs.kt (by assumption) (fun h9 => ?_) | refine Runs.kf (by assumption) (fun h9 => ?_) | refine Runs.nt (by assumption) (fun h9 => ?_) | refine Runs.nf (by assumption) (fun h9 => ?_) | refine CondP.ht (by assumption) (fun h9 => ?_) | refine CondP.hf (by assumption) (fun h9 => ?_) | refine CondP.nt (by assumption) (fun h9 => ?_) | refine CondP.nf (by assumption) (fun h9 => ?_)); (try simp only [h9]); clear h9) | ((first | (with_reducible apply CallG.plain1 [87] (c1)) | (with_reducible apply CallG.draw1 [87] (c1))); (focus ((try refine And.intro (leAs_of_eq rfl) ?_); (try refine And.intro (leOL_of_eq rfl) ?_); simp (maxSteps := 9999999) (disch := omega) only [go_sem, hrl, hr, hu, hL, k1, hat, g2]; first | done | (repeat' (first | rfl | (refine And.intro ?_ ?_))))); (focus (simp (maxSteps := 9999999) (disch := omega) only [go_sem, hrl, hr, hu, hL, k1, hat, g2]; rfl)))); (try simp (maxSteps := 9999999) (disch := omega) only [go_sem, hrl, hr, hu, hL, k1, hat, g2]); (try (refine And.intro ?_ ?_; (focus (first | omega | (simp only [go_sem]; done) | (simp; done) | (simp; omega) | assumption))))) | ((first | refine CondP.split (fun hif => ?_) (fun hif => ?_) | refine Runs.part (fun hif => ?_) (fun hif => ?_)) <;> ((try simp only [hif]); (try simp only [decide_eq_true_eq, decide_eq_false_iff_not, Bool.not_eq_true, Bool.not_eq_false, Bool.not_eq_true', Bool.not_eq_false', beq_iff_eq, bne_iff_ne, bne_eq_false_iff_eq, beq_eq_false_iff_ne, ne_eq, Bool.and_eq_true, Bool.or_eq_true, Bool.or_eq_false_iff] at hif); (try (have h9 : _ = true := hif; simp only [h9])); (try (have h9 : _ = false := hif; simp only [h9])); (try simp (maxSteps := 9999999) (disch := omega) only [go_sem, hrl, hr, hu, hL, k1, hat, g2]); (try (refine And.intro ?_ ?_; (focus (first | omega | (simp only [go_sem]; done) | (simp; done) | (simp; omega) | assumption)))); (try (exfalso; omega; done))))))
        (refine TopPost.of (by first | exact .inl rfl | exact .inr rfl) (by (try simp (maxSteps := 9999999) (disch := omega) only [go_sem]); rfl) ?_; (try simp (maxSteps := 9999999) (disch := omega) only [go_sem]); (try (first | trivial | decide | (simp; done))))
      | true =>
        rw [hfw] at c1
        have c2 := short_any u.e
        cases hsh : shortB u.e with
        | false =>
          rw [hsh] at c2
          (try simp (maxSteps := 9999999) (disch := omega) only [go_sem])
          (repeat' (first | (refine AWpA.thawO 55 11 EnL hzp (fun x => by simp [En.rep, St.rep]) rfl rfl rfl ?_; (try simp only [List.set_cons_zero, List.set_cons_succ]); (try simp (maxSteps := 9999999) (disch := omega) only [go_sem, hrl, hr, hu, hL, k1, hat, g2])) | refine AWpA.seq ?_ | refine AWpA.block ?_ | (with_reducible refine CondP.tt ?_) | (with_reducible refine CondP.ff ?_) | refine AWpA.condv (by simp (maxSteps := 9999999) (disch := omega) only [go_sem, hrl, hr, hu, hL, k1, hat, g2]; rfl) ?_ | ((first | (apply AWpA.region; (focus (simp (maxSteps := 9999999) (disch := omega) only [go_sem, hrl, hr, hu, hL, k1, hat, g2]; rfl))) | (apply AWpA.draw [] [] follows; (focus (first | rfl | decide)); (focus (simp (maxSteps := 9999999) (disch := omega) only [go_sem, hrl, hr, hu, hL, k1, hat, g2]; rfl)); (focus (simp (maxSteps := 9999999) (disch := omega) only [go_sem, hrl, hr, hu, hL, k1, hat, g2]; first | done | trivial)); (focus (simp (maxSteps := 9999999) (disch := omega) only [go_sem, hrl, hr, hu, hL, k1, hat, g2]; rfl))) | (apply TailK.go; (focus (simp (maxSteps := 9999999) (disch := omega) only [go_sem, hrl, hr, hu, hL, k1, hat, g2]; rfl))) | refine AWpA.skip ?_ | refine AWpA.exit ?_ | refine AWpA.ret ?_ | (with_reducible refine ARoundsA.succ ?_) | ((first | refine Runs.kt (by assumption) (fun h9 => ?_) | refine Runs.kf (by assumption) (fun h9 => ?_) | refine Runs.nt (by assumption) (fun h9 => ?_) | refine Runs.nf (by assumption) (fun h9 => ?_) | refine CondP.ht (by assumption) (fun h9 => ?_) | refine CondP.hf (by assumption) (fun h9 => ?_) | refine CondP.nt (by assumption) (fun h9 => ?_) | refine CondP.nf (by assumption) (fun h9 => ?_)); (try simp only [h9]); clear h9) | ((first | (with_reducible apply CallG.plain1 [87] (c1)) | (with_reducible apply CallG.draw1 [87] (c1))); (focus ((try refine And.intro (leAs_of_eq rfl) ?_); (try refine And.intro (leOL_of_eq rfl) ?_); simp (maxSteps := 9999999) (disch := omega) only [go_sem, hrl, hr, hu, hL, k1, hat, g2]; first | done | (repeat' (first | rfl | (refine And.intro ?_ ?_))))); (focus (simp (maxSteps := 9999999) (disch := omega) only [go_sem, hrl, hr, hu, hL, k1, hat, g2]; rfl))) | ((first | (with_reducible apply CallG.plain1 [] (c2)) | (with_reducible apply CallG.draw1 [] (c2))); (focus ((try refine And.intro (leAs_of_eq rfl) ?_); (try refine And.intro (leOL_of_eq rfl) ?_); simp (maxSteps := 9999999) (disch := omega) only [go_sem, hrl, hr, hu, hL, k1, hat, g2]; first | done | (repeat' (first | rfl | (refine And.intro ?_ ?_))))); (focus (simp (maxSteps := 9999999) (disch := omega) only [go_sem, hrl, hr, hu, hL, k1, hat, g2]; rfl)))); (try simp (maxSteps := 9999999) (disch := omega) only [go_sem, hrl, hr, hu, hL, k1, hat, g2]); (try (refine And.intro ?_ ?_; (focus (first | omega | (simp only [go_sem]; done) | (simp; done) | (simp; omega) | assumption))))) | ((first | refine CondP.split (fun hif => ?_) (fun hif => ?_) | refine Runs.part (fun hif => ?_) (fun hif => ?_)) <;> ((try simp only [hif]); (try simp only [decide_eq_true_eq, decide_eq_false_iff_not, Bool.not_eq_true, Bool.not_eq_false, Bool.not_eq_true', Bool.not_eq_false', beq_iff_eq, bne_iff_ne, bne_eq_false_iff_eq, beq_eq_false_iff_ne, ne_eq, Bool.and_eq_true, Bool.or_eq_true, Bool.or_eq_false_iff] at hif); (try (have h9 : _ = true := hif; simp only [h9])); (try (have h9 : _ = false := hif; simp only [h9])); (try simp (maxSteps := 9999999) (disch := omega) only [go_sem, hrl, hr, hu, hL, k1, hat, g2]); (try (refine And.intro ?_ ?_; (focus (first | omega | (simp only [go_sem]; done) | (simp; done) | (simp; omega) | assumption)))); (try (exfalso; omega; done))))))
          (refine TopPost.of (by first | exact .inl rfl | exact .inr rfl) (by (try simp (maxSteps := 9999999) (disch := omega) only [go_sem]); rfl) ?_; (try simp (maxSteps := 9999999) (disch := omega) only [go_sem]); (try (first | trivial | decide | (simp; done))))
        | true =>
          rw [hsh] at c2
          clear hfw hsh
          cases see with
          | false =>
            have o1 := of05_any u.e
            have c3 := wrote_any site seen ups last u (by omega)
            have c4 := seen_any site seen (ups ++ [u]) last
            have hLu := ru_len 0 ups
            have hfu := ru_all ups (n := ups.length * 10) rfl
            have hp := ru_app ups [u]
            rw [ru_one] at hp
            (try simp (maxSteps := 9999999) (disch := omega) only [go_sem])
            (repeat' (first | (refine AWpA.thawO 55 11 EnL hzp (fun x => by simp [En.rep, St.rep]) rfl rfl rfl ?_; (try simp only [List.set_cons_zero, List.set_cons_succ]); (try simp (maxSteps := 9999999) (disch := omega) only [go_sem, hrl, hr, hu, hL, hLu, k1, hat, g2])) | refine AWpA.seq ?_ | refine AWpA.block ?_ | (with_reducible refine CondP.tt ?_) | (with_reducible refine CondP.ff ?_) | refine AWpA.condv (by simp (maxSteps := 9999999) (disch := omega) only [go_sem, hrl, hr, hu, hL, hLu, k1, hat, g2]; rfl) ?_ | ((first | (apply AWpA.region; (focus (simp (maxSteps := 9999999) (disch := omega) only [go_sem, hrl, hr, hu, hL, hLu, k1, hat, g2]; rfl))) | (apply AWpA.draw [1, 2] [] follows; (focus (first | rfl | decide)); (focus (simp (maxSteps := 9999999) (disch := omega) only [go_sem, hrl, hr, hu, hL, hLu, k1, hat, g2]; rfl)); (focus (simp (maxSteps := 9999999) (disch := omega) only [go_sem, hrl, hr, hu, hL, hLu, k1, hat, g2]; first | done | trivial)); (focus (simp (maxSteps := 9999999) (disch := omega) only [go_sem, hrl, hr, hu, hL, hLu, k1, hat, g2]; rfl))) | (apply TailK.go; (focus (simp (maxSteps := 9999999) (disch := omega) only [go_sem, hrl, hr, hu, hL, hLu, k1, hat, g2]; rfl))) | refine AWpA.skip ?_ | refine AWpA.exit ?_ | refine AWpA.ret ?_ | (with_reducible refine ARoundsA.succ ?_) | ((first | refine Runs.kt (by assumption) (fun h9 => ?_) | refine Runs.kf (by assumption) (fun h9 => ?_) | refine Runs.nt (by assumption) (fun h9 => ?_) | refine Runs.nf (by assumption) (fun h9 => ?_) | refine CondP.ht (by assumption) (fun h9 => ?_) | refine CondP.hf (by assumption) (fun h9 => ?_) | refine CondP.nt (by assumption) (fun h9 => ?_) | refine CondP.nf (by assumption) (fun h9 => ?_)); (try simp only [h9]); clear h9) | ((first | (with_reducible apply CallG.plain1 [87] (c1)) | (with_reducible apply CallG.draw1 [87] (c1))); (focus ((try refine And.intro (leAs_of_eq rfl) ?_); (try refine And.intro (leOL_of_eq rfl) ?_); simp (maxSteps := 9999999) (disch := omega) only [go_sem, hrl, hr, hu, hL, hLu, k1, hat, g2]; first | done | (repeat' (first | rfl | (refine And.intro ?_ ?_))))); (focus (simp (maxSteps := 9999999) (disch := omega) only [go_sem, hrl, hr, hu, hL, hLu, k1, hat, g2]; rfl))) | ((first | (with_reducible apply CallG.plain1 [] (c2)) | (with_reducible apply CallG.draw1 [] (c2))); (focus ((try refine And.intro (leAs_of_eq rfl) ?_); (try refine And.intro (leOL_of_eq rfl) ?_); simp (maxSteps := 9999999) (disch := omega) only [go_sem, hrl, hr, hu, hL, hLu, k1, hat, g2]; first | done | (repeat' (first | rfl | (refine And.intro ?_ ?_))))); (focus (simp (maxSteps := 9999999) (disch := omega) only [go_sem, hrl, hr, hu, hL, hLu, k1, hat, g2]; rfl))) | ((first | (with_reducible apply CallG.plain1 [] (o1)) | (with_reducible apply CallG.draw1 [] (o1))); (focus ((try refine And.intro (leAs_of_eq rfl) ?_); (try refine And.intro (leOL_of_eq rfl) ?_); simp (maxSteps := 9999999) (disch := omega) only [go_sem, hrl, hr, hu, hL, hLu, k1, hat, g2]; first | done | (repeat' (first | rfl | (refine And.intro ?_ ?_))))); (focus (simp (maxSteps := 9999999) (disch := omega) only [go_sem, hrl, hr, hu, hL, hLu, k1, hat, g2]; rfl))) | ((first | (with_reducible apply CallG.plain1 [1, 2, 3] (c3)) | (with_reducible apply CallG.draw1 [1, 2, 3] (c3))); (focus ((try refine And.intro (leAs_of_eq rfl) ?_); (try refine And.intro (leOL_of_eq rfl) ?_); simp (maxSteps := 9999999) (disch := omega) only [go_sem, hrl, hr, hu, hL, hLu, k1, hat, g2]; first | done | (repeat' (first | rfl | (refine And.intro ?_ ?_))))); (focus (simp (maxSteps := 9999999) (disch := omega) only [go_sem, hrl, hr, hu, hL, hLu, k1, hat, g2]; rfl))) | ((first | (with_reducible apply CallG.plain1 [1, 552, 3] (c4)) | (with_reducible apply CallG.draw1 [1, 552, 3] (c4))); (focus ((try refine And.intro (leAs_of_eq rfl) ?_); (try refine And.intro (leOL_of_eq rfl) ?_); simp (maxSteps := 9999999) (disch := omega) only [go_sem, hrl, hr, hu, hL, hLu, k1, hat, g2]; first | done | (repeat' (first | rfl | (refine And.intro ?_ ?_))))); (focus (simp (maxSteps := 9999999) (disch := omega) only [go_sem, hrl, hr, hu, hL, hLu, k1, hat, g2]; rfl)))); (try simp (maxSteps := 9999999) (disch := omega) only [go_sem, hrl, hr, hu, hL, hLu, k1, hat, g2]); (try (refine And.intro ?_ ?_; (focus (first | omega | (simp only [go_sem]; done) | (simp; done) | (simp; omega) | assumption))))) | ((first | refine CondP.split (fun hif => ?_) (fun hif => ?_) | refine Runs.part (fun hif => ?_) (fun hif => ?_)) <;> ((try simp only [hif]); (try simp only [decide_eq_true_eq, decide_eq_false_iff_not, Bool.not_eq_true, Bool.not_eq_false, Bool.not_eq_true', Bool.not_eq_false', beq_iff_eq, bne_iff_ne, bne_eq_false_iff_eq, beq_eq_false_iff_ne, ne_eq, Bool.and_eq_true, Bool.or_eq_true, Bool.or_eq_false_iff] at hif); (try (have h9 : _ = true := hif; simp only [h9])); (try (have h9 : _ = false := hif; simp only [h9])); (try simp (maxSteps := 9999999) (disch := omega) only [go_sem, hrl, hr, hu, hL, hLu, k1, hat, g2]); (try (refine And.intro ?_ ?_; (focus (first | omega | (simp only [go_sem]; done) | (simp; done) | (simp; omega) | assumption)))); (try (exfalso; omega; done))))))
            (apply Back.to (i + 1, ⟨seen, ups ++ [u], last, mo⟩) [0, 1, 552, 3, 4, 648, 6]; (focus ((try simp (maxSteps := 9999999) (disch := omega) only [go_sem, hrl, hr, hu, hfu, hp, renL_append, List.length_append, List.length_singleton]); first | done | omega)); rotate_left; (focus (simp (maxSteps := 9999999) (disch := omega) only [go_sem, hrl, hr, hu, hfu, hp, renL_append, List.length_append, List.length_singleton]; (try (repeat' (first | done | trivial | rfl | exact leAs_rfl _ | decide | (refine And.intro ?_ ?_) | (simp; done) | omega | (simp; decide)))))))
            exact ⟨by simp only; omega, hs0, by simp only; omega, by simp; omega, hll⟩
          | true =>
            have c3 := rsee_any site seen ⟨hs0, by omega⟩ ups mo to' last T (by omega) (by omega) (by omega)
            have c4 := wsee_any site seen ⟨hs0, by omega⟩ ups last T (by omega) (by omega) (by omega)
            have c5 := ofs_any to' T (by omega)
            generalize seeC site ups last T = c at *
            by_cases hc : c = 0
            · rw [if_pos hc, if_pos hc] at c3
              rw [if_pos hc, if_pos hc] at c4
              have c6 := seen_any site (seen + 1) ups T
              clear hc
              (try simp (maxSteps := 9999999) (disch := omega) only [go_sem])
              (repeat' (first | (refine AWpA.thawO 55 11 EnL hzp (fun x => by simp [En.rep, St.rep]) rfl rfl rfl ?_; (try simp only [List.set_cons_zero, List.set_cons_succ]); (try simp (maxSteps := 9999999) (disch := omega) only [go_sem, hrl, hr, hu, hL, k1, hat, g2])) | refine AWpA.seq ?_ | refine AWpA.block ?_ | (with_reducible refine CondP.tt ?_) | (with_reducible refine CondP.ff ?_) | refine AWpA.condv (by simp (maxSteps := 9999999) (disch := omega) only [go_sem, hrl, hr, hu, hL, k1, hat, g2]; rfl) ?_ | ((first | (apply AWpA.region; (focus (simp (maxSteps := 9999999) (disch := omega) only [go_sem, hrl, hr, hu, hL, k1, hat, g2]; rfl))) | (apply AWpA.draw [] [] follows; (focus (first | rfl | decide)); (focus (simp (maxSteps := 9999999) (disch := omega) only [go_sem, hrl, hr, hu, hL, k1, hat, g2]; rfl)); (focus (simp (maxSteps := 9999999) (disch := omega) only [go_sem, hrl, hr, hu, hL, k1, hat, g2]; first | done | trivial)); (focus (simp (maxSteps := 9999999) (disch := omega) only [go_sem, hrl, hr, hu, hL, k1, hat, g2]; rfl))) | (apply TailK.go; (focus (simp (maxSteps := 9999999) (disch := omega) only [go_sem, hrl, hr, hu, hL, k1, hat, g2]; rfl))) | refine AWpA.skip ?_ | refine AWpA.exit ?_ | refine AWpA.ret ?_ | (with_reducible refine ARoundsA.succ ?_) | ((first | refine Runs.kt (by assumption) (fun h9 => ?_) | refine Runs.kf (by assumption) (fun h9 => ?_) | refine Runs.nt (by assumption) (fun h9 => ?_) | refine Runs.nf (by assumption) (fun h9 => ?_) | refine CondP.ht (by assumption) (fun h9 => ?_) | refine CondP.hf (by assumption) (fun h9 => ?_) | refine CondP.nt (by assumption) (fun h9 => ?_) | refine CondP.nf (by assumption) (fun h9 => ?_)); (try simp only [h9]); clear h9) | ((first | (with_reducible apply CallG.plain1 [87] (c1)) | (with_reducible apply CallG.draw1 [87] (c1))); (focus ((try refine And.intro (leAs_of_eq rfl) ?_); (try refine And.intro (leOL_of_eq rfl) ?_); simp (maxSteps := 9999999) (disch := omega) only [go_sem, hrl, hr, hu, hL, k1, hat, g2]; first | done | (repeat' (first | rfl | (refine And.intro ?_ ?_))))); (focus (simp (maxSteps := 9999999) (disch := omega) only [go_sem, hrl, hr, hu, hL, k1, hat, g2]; rfl))) | ((first | (with_reducible apply CallG.plain1 [] (c2)) | (with_reducible apply CallG.draw1 [] (c2))); (focus ((try refine And.intro (leAs_of_eq rfl) ?_); (try refine And.intro (leOL_of_eq rfl) ?_); simp (maxSteps := 9999999) (disch := omega) only [go_sem, hrl, hr, hu, hL, k1, hat, g2]; first | done | (repeat' (first | rfl | (refine And.intro ?_ ?_))))); (focus (simp (maxSteps := 9999999) (disch := omega) only [go_sem, hrl, hr, hu, hL, k1, hat, g2]; rfl))) | ((first | (with_reducible apply CallG.plain1 [5, 6, 87] (c3)) | (with_reducible apply CallG.draw1 [5, 6, 87] (c3))); (focus ((try refine And.intro (leAs_of_eq rfl) ?_); (try refine And.intro (leOL_of_eq rfl) ?_); simp (maxSteps := 9999999) (disch := omega) only [go_sem, hrl, hr, hu, hL, k1, hat, g2]; first | done | (repeat' (first | rfl | (refine And.intro ?_ ?_))))); (focus (simp (maxSteps := 9999999) (disch := omega) only [go_sem, hrl, hr, hu, hL, k1, hat, g2]; rfl))) | ((first | (with_reducible apply CallG.plain1 [87] (c5)) | (with_reducible apply CallG.draw1 [87] (c5))); (focus ((try refine And.intro (leAs_of_eq rfl) ?_); (try refine And.intro (leOL_of_eq rfl) ?_); simp (maxSteps := 9999999) (disch := omega) only [go_sem, hrl, hr, hu, hL, k1, hat, g2]; first | done | (repeat' (first | rfl | (refine And.intro ?_ ?_))))); (focus (simp (maxSteps := 9999999) (disch := omega) only [go_sem, hrl, hr, hu, hL, k1, hat, g2]; rfl))) | ((first | (with_reducible apply CallG.plain1 [1, 2, 3, 648] (c4)) | (with_reducible apply CallG.draw1 [1, 2, 3, 648] (c4))); (focus ((try refine And.intro (leAs_of_eq rfl) ?_); (try refine And.intro (leOL_of_eq rfl) ?_); simp (maxSteps := 9999999) (disch := omega) only [go_sem, hrl, hr, hu, hL, k1, hat, g2]; first | done | (repeat' (first | rfl | (refine And.intro ?_ ?_))))); (focus (simp (maxSteps := 9999999) (disch := omega) only [go_sem, hrl, hr, hu, hL, k1, hat, g2]; rfl))) | ((first | (with_reducible apply CallG.plain1 [1, 2, 664] (c6)) | (with_reducible apply CallG.draw1 [1, 2, 664] (c6))); (focus ((try refine And.intro (leAs_of_eq rfl) ?_); (try refine And.intro (leOL_of_eq rfl) ?_); simp (maxSteps := 9999999) (disch := omega) only [go_sem, hrl, hr, hu, hL, k1, hat, g2]; first | done | (repeat' (first | rfl | (refine And.intro ?_ ?_))))); (focus (simp (maxSteps := 9999999) (disch := omega) only [go_sem, hrl, hr, hu, hL, k1, hat, g2]; rfl)))); (try simp (maxSteps := 9999999) (disch := omega) only [go_sem, hrl, hr, hu, hL, k1, hat, g2]); (try (refine And.intro ?_ ?_; (focus (first | omega | (simp only [go_sem]; done) | (simp; done) | (simp; omega) | assumption))))) | ((first | refine CondP.split (fun hif => ?_) (fun hif => ?_) | refine Runs.part (fun hif => ?_) (fun hif => ?_)) <;> ((try simp only [hif]); (try simp only [decide_eq_true_eq, decide_eq_false_iff_not, Bool.not_eq_true, Bool.not_eq_false, Bool.not_eq_true', Bool.not_eq_false', beq_iff_eq, bne_iff_ne, bne_eq_false_iff_eq, beq_eq_false_iff_ne, ne_eq, Bool.and_eq_true, Bool.or_eq_true, Bool.or_eq_false_iff] at hif); (try (have h9 : _ = true := hif; simp only [h9])); (try (have h9 : _ = false := hif; simp only [h9])); (try simp (maxSteps := 9999999) (disch := omega) only [go_sem, hrl, hr, hu, hL, k1, hat, g2]); (try (refine And.intro ?_ ?_; (focus (first | omega | (simp only [go_sem]; done) | (simp; done) | (simp; omega) | assumption)))); (try (exfalso; omega; done))))))
              (apply Back.to (i + 1, ⟨seen + 1, ups, T, to'⟩) [0, 1, 2, 664, 4, 5, 87]; (focus ((try simp (maxSteps := 9999999) (disch := omega) only [go_sem, hrl, hr, hu]); first | done | omega)); rotate_left; (focus (simp (maxSteps := 9999999) (disch := omega) only [go_sem, hrl, hr, hu]; (try (repeat' (first | done | trivial | rfl | exact leAs_rfl _ | decide | (refine And.intro ?_ ?_) | (simp; done) | omega | (simp; decide)))))))
              exact ⟨by simp only; omega, by simp only; omega, by simp only; omega, by simp only; omega, by simp only; omega⟩
            · rw [if_neg hc, if_neg hc] at c3
              rw [if_neg hc, if_neg hc] at c4
              have c6 := seen_any site seen ups last
              clear hc
              (try simp (maxSteps := 9999999) (disch := omega) only [go_sem])
              (repeat' (first | (refine AWpA.thawO 55 11 EnL hzp (fun x => by simp [En.rep, St.rep]) rfl rfl rfl ?_; (try simp only [List.set_cons_zero, List.set_cons_succ]); (try simp (maxSteps := 9999999) (disch := omega) only [go_sem, hrl, hr, hu, hL, k1, hat, g2])) | refine AWpA.seq ?_ | refine AWpA.block ?_ | (with_reducible refine CondP.tt ?_) | (with_reducible refine CondP.ff ?_) | refine AWpA.condv (by simp (maxSteps := 9999999) (disch := omega) only [go_sem, hrl, hr, hu, hL, k1, hat, g2]; rfl) ?_ | ((first | (apply AWpA.region; (focus (simp (maxSteps := 9999999) (disch := omega) only [go_sem, hrl, hr, hu, hL, k1, hat, g2]; rfl))) | (apply AWpA.draw [] [] follows; (focus (first | rfl | decide)); (focus (simp (maxSteps := 9999999) (disch := omega) only [go_sem, hrl, hr, hu, hL, k1, hat, g2]; rfl)); (focus (simp (maxSteps := 9999999) (disch := omega) only [go_sem, hrl, hr, hu, hL, k1, hat, g2]; first | done | trivial)); (focus (simp (maxSteps := 9999999) (disch := omega) only [go_sem, hrl, hr, hu, hL, k1, hat, g2]; rfl))) | (apply TailK.go; (focus (simp (maxSteps := 9999999) (disch := omega) only [go_sem, hrl, hr, hu, hL, k1, hat, g2]; rfl))) | refine AWpA.skip ?_ | refine AWpA.exit ?_ | refine AWpA.ret ?_ | (with_reducible refine ARoundsA.succ ?_) | ((first | refine Runs.kt (by assumption) (fun h9 => ?_) | refine Runs.kf (by assumption) (fun h9 => ?_) | refine Runs.nt (by assumption) (fun h9 => ?_) | refine Runs.nf (by assumption) (fun h9 => ?_) | refine CondP.ht (by assumption) (fun h9 => ?_) | refine CondP.hf (by assumption) (fun h9 => ?_) | refine CondP.nt (by assumption) (fun h9 => ?_) | refine CondP.nf (by assumption) (fun h9 => ?_)); (try simp only [h9]); clear h9) | ((first | (with_reducible apply CallG.plain1 [87] (c1)) | (with_reducible apply CallG.draw1 [87] (c1))); (focus ((try refine And.intro (leAs_of_eq rfl) ?_); (try refine And.intro (leOL_of_eq rfl) ?_); simp (maxSteps := 9999999) (disch := omega) only [go_sem, hrl, hr, hu, hL, k1, hat, g2]; first | done | (repeat' (first | rfl | (refine And.intro ?_ ?_))))); (focus (simp (maxSteps := 9999999) (disch := omega) only [go_sem, hrl, hr, hu, hL, k1, hat, g2]; rfl))) | ((first | (with_reducible apply CallG.plain1 [] (c2)) | (with_reducible apply CallG.draw1 [] (c2))); (focus ((try refine And.intro (leAs_of_eq rfl) ?_); (try refine And.intro (leOL_of_eq rfl) ?_); simp (maxSteps := 9999999) (disch := omega) only [go_sem, hrl, hr, hu, hL, k1, hat, g2]; first | done | (repeat' (first | rfl | (refine And.intro ?_ ?_))))); (focus (simp (maxSteps := 9999999) (disch := omega) only [go_sem, hrl, hr, hu, hL, k1, hat, g2]; rfl))) | ((first | (with_reducible apply CallG.plain1 [5, 6, 87] (c3)) | (with_reducible apply CallG.draw1 [5, 6, 87] (c3))); (focus ((try refine And.intro (leAs_of_eq rfl) ?_); (try refine And.intro (leOL_of_eq rfl) ?_); simp (maxSteps := 9999999) (disch := omega) only [go_sem, hrl, hr, hu, hL, k1, hat, g2]; first | done | (repeat' (first | rfl | (refine And.intro ?_ ?_))))); (focus (simp (maxSteps := 9999999) (disch := omega) only [go_sem, hrl, hr, hu, hL, k1, hat, g2]; rfl))) | ((first | (with_reducible apply CallG.plain1 [87] (c5)) | (with_reducible apply CallG.draw1 [87] (c5))); (focus ((try refine And.intro (leAs_of_eq rfl) ?_); (try refine And.intro (leOL_of_eq rfl) ?_); simp (maxSteps := 9999999) (disch := omega) only [go_sem, hrl, hr, hu, hL, k1, hat, g2]; first | done | (repeat' (first | rfl | (refine And.intro ?_ ?_))))); (focus (simp (maxSteps := 9999999) (disch := omega) only [go_sem, hrl, hr, hu, hL, k1, hat, g2]; rfl))) | ((first | (with_reducible apply CallG.plain1 [1, 2, 3, 648] (c4)) | (with_reducible apply CallG.draw1 [1, 2, 3, 648] (c4))); (focus ((try refine And.intro (leAs_of_eq rfl) ?_); (try refine And.intro (leOL_of_eq rfl) ?_); simp (maxSteps := 9999999) (disch := omega) only [go_sem, hrl, hr, hu, hL, k1, hat, g2]; first | done | (repeat' (first | rfl | (refine And.intro ?_ ?_))))); (focus (simp (maxSteps := 9999999) (disch := omega) only [go_sem, hrl, hr, hu, hL, k1, hat, g2]; rfl))) | ((first | (with_reducible apply CallG.plain1 [1, 2, 664] (c6)) | (with_reducible apply CallG.draw1 [1, 2, 664] (c6))); (focus ((try refine And.intro (leAs_of_eq rfl) ?_); (try refine And.intro (leOL_of_eq rfl) ?_); simp (maxSteps := 9999999) (disch := omega) only [go_sem, hrl, hr, hu, hL, k1, hat, g2]; first | done | (repeat' (first | rfl | (refine And.intro ?_ ?_))))); (focus (simp (maxSteps := 9999999) (disch := omega) only [go_sem, hrl, hr, hu, hL, k1, hat, g2]; rfl)))); (try simp (maxSteps := 9999999) (disch := omega) only [go_sem, hrl, hr, hu, hL, k1, hat, g2]); (try (refine And.intro ?_ ?_; (focus (first | omega | (simp only [go_sem]; done) | (simp; done) | (simp; omega) | assumption))))) | ((first | refine CondP.split (fun hif => ?_) (fun hif => ?_) | refine Runs.part (fun hif => ?_) (fun hif => ?_)) <;> ((try simp only [hif]); (try simp only [decide_eq_true_eq, decide_eq_false_iff_not, Bool.not_eq_true, Bool.not_eq_false, Bool.not_eq_true', Bool.not_eq_false', beq_iff_eq, bne_iff_ne, bne_eq_false_iff_eq, beq_eq_false_iff_ne, ne_eq, Bool.and_eq_true, Bool.or_eq_true, Bool.or_eq_false_iff] at hif); (try (have h9 : _ = true := hif; simp only [h9])); (try (have h9 : _ = false := hif; simp only [h9])); (try simp (maxSteps := 9999999) (disch := omega) only [go_sem, hrl, hr, hu, hL, k1, hat, g2]); (try (refine And.intro ?_ ?_; (focus (first | omega | (simp only [go_sem]; done) | (simp; done) | (simp; omega) | assumption)))); (try (exfalso; omega; done))))))
              (apply Back.to (i + 1, ⟨seen, ups, last, mo⟩) [0, 1, 2, 664, 4, 5, 6]; (focus ((try simp (maxSteps := 9999999) (disch := omega) only [go_sem, hrl, hr, hu]); first | done | omega)); rotate_left; (focus (simp (maxSteps := 9999999) (disch := omega) only [go_sem, hrl, hr, hu]; (try (repeat' (first | done | trivial | rfl | exact leAs_rfl _ | decide | (refine And.intro ?_ ?_) | (simp; done) | omega | (simp; decide)))))))
              exact ⟨by simp only; omega, hs0, by simp only; omega, by simp only; omega, hll⟩
  · obtain rfl : i = l.length := by omega
    have k1 : ((l.length : Int) < (l.length : Int)) = False := eq_false (by omega)
    (try simp (maxSteps := 9999999) (disch := omega) only [go_sem])
    (repeat' (first | refine AWpA.seq ?_ | refine AWpA.block ?_ | (with_reducible refine CondP.tt ?_) | (with_reducible refine CondP.ff ?_) | refine AWpA.condv (by simp (maxSteps := 9999999) (disch := omega) only [go_sem, hrl, k1]; rfl) ?_ | ((first | (apply AWpA.region; (focus (simp (maxSteps := 9999999) (disch := omega) only [go_sem, hrl, k1]; rfl))) | (apply AWpA.draw [] [] follows; (focus (first | rfl | decide)); (focus (simp (maxSteps := 9999999) (disch := omega) only [go_sem, hrl, k1]; rfl)); (focus (simp (maxSteps := 9999999) (disch := omega) only [go_sem, hrl, k1]; first | done | trivial)); (focus (simp (maxSteps := 9999999) (disch := omega) only [go_sem, hrl, k1]; rfl))) | (apply TailK.go; (focus (simp (maxSteps := 9999999) (disch := omega) only [go_sem, hrl, k1]; rfl))) | refine AWpA.skip ?_ | refine AWpA.exit ?_ | refine AWpA.ret ?_ | (with_reducible refine ARoundsA.succ ?_) | ((first | refine Runs.kt (by assumption) (fun h9 => ?_) | refine Runs.kf (by assumption) (fun h9 => ?_) | refine Runs.nt (by assumption) (fun h9 => ?_) | refine Runs.nf (by assumption) (fun h9 => ?_) | refine CondP.ht (by assumption) (fun h9 => ?_) | refine CondP.hf (by assumption) (fun h9 => ?_) | refine CondP.nt (by assumption) (fun h9 => ?_) | refine CondP.nf (by assumption) (fun h9 => ?_)); (try simp only [h9]); clear h9)); (try simp (maxSteps := 9999999) (disch := omega) only [go_sem, hrl, k1]); (try (refine And.intro ?_ ?_; (focus (first | omega | (simp only [go_sem]; done) | (simp; done) | (simp; omega) | assumption))))) | ((first | refine CondP.split (fun hif => ?_) (fun hif => ?_) | refine Runs.part (fun hif => ?_) (fun hif => ?_)) <;> ((try simp only [hif]); (try simp only [decide_eq_true_eq, decide_eq_false_iff_not, Bool.not_eq_true, Bool.not_eq_false, Bool.not_eq_true', Bool.not_eq_false', beq_iff_eq, bne_iff_ne, bne_eq_false_iff_eq, beq_eq_false_iff_ne, ne_eq, Bool.and_eq_true, Bool.or_eq_true, Bool.or_eq_false_iff] at hif); (try (have h9 : _ = true := hif; simp only [h9])); (try (have h9 : _ = false := hif; simp only [h9])); (try simp (maxSteps := 9999999) (disch := omega) only [go_sem, hrl, k1]); (try (refine And.intro ?_ ?_; (focus (first | omega | (simp only [go_sem]; done) | (simp; done) | (simp; omega) | assumption)))); (try (exfalso; omega; done))))))
    (refine TopPost.of (by first | exact .inl rfl | exact .inr rfl) (by (try simp (maxSteps := 9999999) (disch := omega) only [go_sem]); rfl) ?_; (try simp (maxSteps := 9999999) (disch := omega) only [go_sem]); (try (first | trivial | decide | (simp; done))))
end Go.Proofs.Ytbblpmkdhdnkhaa
