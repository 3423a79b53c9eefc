/- The walk of WatchBoth. -/
import Derived.Test.YtbblpmkdhdnkhaaWma
import Derived.Test.YtbblpmkdhdnkhaaBw9
import Derived.Test.YtbblpmkdhdnkhaaSo3
import Derived.Test.YtbblpmkdhdnkhaaAb
namespace Go.Proofs.Ytbblpmkdhdnkhaa
set_option linter.unusedSimpArgs false
set_option linter.unusedVariables false
set_option maxHeartbeats 4000000
open Go Go.Am Go.RowKit Go.ChangeShapes Go.WideShapes Go.ChangeAt
set_option maxRecDepth 100000
set_option maxHeartbeats 4000000
def St.rep (a : St) : List Value := (fun n : Int => [.int .i64 n]) a.c ++ (fun n : Int => [.int .i64 n]) a.s
structure St.ok (W : World) (a : St) : Prop where
  c : (fun n : Int => IntKind.i64.min ≤ n ∧ n ≤ IntKind.i64.max) a.c
  s : (fun n : Int => IntKind.i64.min ≤ n ∧ n ≤ IntKind.i64.max) a.s
set_option maxRecDepth 100000 in
theorem rd_St {H : Type} {enc : TypeId × Value → H} {W : World} {base : Nat} {held : Bool} : Rd enc Try.prog W base held 27 St.rep (St.ok W) := fun n cs x h => by
  obtain ⟨xs, n1, _, _, hlen, hx, hf⟩ := DataW.trod_struct Try.underlying27 h
  rw [show Try.prog.cellsOf 27 = 2 by kernel_rfl] at hlen
  have f0 : DataW.trod enc Try.prog W base (fun _ => true) held n1 3 ((cs.drop 0).take (Try.prog.cellsOf 3)) = xs[0]? := hf 0 _ rfl
  rw [show Try.prog.cellsOf 3 = 1 by kernel_rfl] at f0
  obtain ⟨y0, h0⟩ := at_some2 hx (by decide) f0
  obtain ⟨g0, a0, e0, w0⟩ := (rd_int Try.underlying3 : Rd _ _ _ _ _ _ (fun n : Int => [.int .i64 n]) (fun n : Int => IntKind.i64.min ≤ n ∧ n ≤ IntKind.i64.max)) _ _ _ h0
  have f1 : DataW.trod enc Try.prog W base (fun _ => true) held n1 3 ((cs.drop 1).take (Try.prog.cellsOf 3)) = xs[1]? := hf 1 _ rfl
  rw [show Try.prog.cellsOf 3 = 1 by kernel_rfl] at f1
  obtain ⟨y1, h1⟩ := at_some2 hx (by decide) f1
  obtain ⟨g1, a1, e1, w1⟩ := (rd_int Try.underlying3 : Rd _ _ _ _ _ _ (fun n : Int => [.int .i64 n]) (fun n : Int => IntKind.i64.min ≤ n ∧ n ≤ IntKind.i64.max)) _ _ _ h1
  match cs, hlen with
  | [c0, c1], _ =>
    simp [Sl.rep, St.rep] at e0 g0
    simp [Sl.rep, St.rep] at e1 g1
    exact ⟨by simp [*, Value.oneCell'], ⟨a0, a1⟩, by simp [Sl.rep, St.rep, *], ⟨w0, w1⟩⟩
def En.rep (a : En) : List Value := (fun s : ByteArray => [.string s]) a.key ++ (fun s : ByteArray => [.string s]) a.val ++ (fun b : Bool => [.bool b]) a.dead ++ (St.rep) a.st ++ (St.rep) a.act ++ (fun n : Int => [.int .i64 n]) a.keep ++ (fun n : Int => [.int .i64 n]) a.age
structure En.ok (W : World) (a : En) : Prop where
  key : (fun s : ByteArray => s.size ≤ maxLen) a.key
  val : (fun s : ByteArray => s.size ≤ maxLen) a.val
  dead : (fun _ : Bool => True) a.dead
  st : (St.ok W) a.st
  act : (St.ok W) a.act
  keep : (fun n : Int => IntKind.i64.min ≤ n ∧ n ≤ IntKind.i64.max) a.keep
  age : (fun n : Int => IntKind.i64.min ≤ n ∧ n ≤ IntKind.i64.max) a.age
set_option maxRecDepth 100000 in
theorem rd_En {H : Type} {enc : TypeId × Value → H} {W : World} {base : Nat} {held : Bool} : Rd enc Try.prog W base held 29 En.rep (En.ok W) := fun n cs x h => by
  obtain ⟨xs, n1, _, _, hlen, hx, hf⟩ := DataW.trod_struct Try.underlying29 h
  rw [show Try.prog.cellsOf 29 = 9 by kernel_rfl] at hlen
  have f0 : DataW.trod enc Try.prog W base (fun _ => true) held n1 9 ((cs.drop 0).take (Try.prog.cellsOf 9)) = xs[0]? := hf 0 _ rfl
  rw [show Try.prog.cellsOf 9 = 1 by kernel_rfl] at f0
  obtain ⟨y0, h0⟩ := at_some2 hx (by decide) f0
  obtain ⟨g0, a0, e0, w0⟩ := (rd_string Try.underlying9 : Rd _ _ _ _ _ _ (fun s : ByteArray => [.string s]) (fun s : ByteArray => s.size ≤ maxLen)) _ _ _ h0
  have f1 : DataW.trod enc Try.prog W base (fun _ => true) held n1 9 ((cs.drop 1).take (Try.prog.cellsOf 9)) = xs[1]? := hf 1 _ rfl
  rw [show Try.prog.cellsOf 9 = 1 by kernel_rfl] at f1
  obtain ⟨y1, h1⟩ := at_some2 hx (by decide) f1
  obtain ⟨g1, a1, e1, w1⟩ := (rd_string Try.underlying9 : Rd _ _ _ _ _ _ (fun s : ByteArray => [.string s]) (fun s : ByteArray => s.size ≤ maxLen)) _ _ _ h1
  have f2 : DataW.trod enc Try.prog W base (fun _ => true) held n1 4 ((cs.drop 2).take (Try.prog.cellsOf 4)) = xs[2]? := hf 2 _ rfl
  rw [show Try.prog.cellsOf 4 = 1 by kernel_rfl] at f2
  obtain ⟨y2, h2⟩ := at_some2 hx (by decide) f2
  obtain ⟨g2, a2, e2, w2⟩ := (rd_bool Try.underlying4 : Rd _ _ _ _ _ _ (fun b : Bool => [.bool b]) (fun _ : Bool => True)) _ _ _ h2
  have f3 : DataW.trod enc Try.prog W base (fun _ => true) held n1 27 ((cs.drop 3).take (Try.prog.cellsOf 27)) = xs[3]? := hf 3 _ rfl
  rw [show Try.prog.cellsOf 27 = 2 by kernel_rfl] at f3
  obtain ⟨y3, h3⟩ := at_some2 hx (by decide) f3
  obtain ⟨g3, a3, e3, w3⟩ := (rd_St : Rd _ _ _ _ _ _ (St.rep) (St.ok W)) _ _ _ h3
  have f4 : DataW.trod enc Try.prog W base (fun _ => true) held n1 27 ((cs.drop 5).take (Try.prog.cellsOf 27)) = xs[4]? := hf 4 _ rfl
  rw [show Try.prog.cellsOf 27 = 2 by kernel_rfl] at f4
  obtain ⟨y4, h4⟩ := at_some2 hx (by decide) f4
  obtain ⟨g4, a4, e4, w4⟩ := (rd_St : Rd _ _ _ _ _ _ (St.rep) (St.ok W)) _ _ _ h4
  have f5 : DataW.trod enc Try.prog W base (fun _ => true) held n1 3 ((cs.drop 7).take (Try.prog.cellsOf 3)) = xs[5]? := hf 5 _ rfl
  rw [show Try.prog.cellsOf 3 = 1 by kernel_rfl] at f5
  obtain ⟨y5, h5⟩ := at_some2 hx (by decide) f5
  obtain ⟨g5, a5, e5, w5⟩ := (rd_int Try.underlying3 : Rd _ _ _ _ _ _ (fun n : Int => [.int .i64 n]) (fun n : Int => IntKind.i64.min ≤ n ∧ n ≤ IntKind.i64.max)) _ _ _ h5
  have f6 : DataW.trod enc Try.prog W base (fun _ => true) held n1 3 ((cs.drop 8).take (Try.prog.cellsOf 3)) = xs[6]? := hf 6 _ rfl
  rw [show Try.prog.cellsOf 3 = 1 by kernel_rfl] at f6
  obtain ⟨y6, h6⟩ := at_some2 hx (by decide) f6
  obtain ⟨g6, a6, e6, w6⟩ := (rd_int Try.underlying3 : Rd _ _ _ _ _ _ (fun n : Int => [.int .i64 n]) (fun n : Int => IntKind.i64.min ≤ n ∧ n ≤ IntKind.i64.max)) _ _ _ h6
  match cs, hlen with
  | [c0, c1, c2, c3, c4, c5, c6, c7, c8], _ =>
    simp [Sl.rep, St.rep, En.rep] at e0 g0
    simp [Sl.rep, St.rep, En.rep] at e1 g1
    simp [Sl.rep, St.rep, En.rep] at e2 g2
    simp [Sl.rep, St.rep, En.rep] at e3 g3
    simp [Sl.rep, St.rep, En.rep] at e4 g4
    simp [Sl.rep, St.rep, En.rep] at e5 g5
    simp [Sl.rep, St.rep, En.rep] at e6 g6
    exact ⟨by simp [*, Value.oneCell'], ⟨a0, a1, a2, a3, a4, a5, a6⟩, by simp [Sl.rep, St.rep, En.rep, *], ⟨w0, w1, w2, w3, w4, w5, w6⟩⟩
/- quidnunc/quidnunclaw26.WatchBoth -/
noncomputable def c7_1 : ACode := .region false [⟨some 4, .move, [.c (.val (.bool false))], none⟩] [] [] [0, 1] false [] []
noncomputable def c7_4 : ACode := .region false [⟨some 13, .call 8, [], none⟩,
  ⟨some 14, .un .not, [.t 13], none⟩,
  ⟨some 15, .move, [.t 14], none⟩,
  ⟨some 16, .move, [.t 0], some (some 15, false)⟩,
  ⟨some 17, .call 9, [.t 16], some (some 15, false)⟩,
  ⟨some 18, .un .not, [.t 17], some (some 15, false)⟩,
  ⟨some 19, .pick, [.t 15, .c (.val (.bool true)), .t 18], none⟩,
  ⟨some 20, .move, [.t 19], none⟩,
  ⟨some 21, .move, [.t 0], some (some 20, false)⟩,
  ⟨some 22, .len, [.t 21], some (some 20, false)⟩,
  ⟨some 23, .bin .gtr, [.t 22, .c (.val (.int .i64 30))], some (some 20, false)⟩,
  ⟨some 24, .pick, [.t 20, .c (.val (.bool true)), .t 23], none⟩] [] [] [0, 1, 24] true [] []
noncomputable def c7_7 : ACode := .region false [⟨some 25, .call 8, [], none⟩,
  ⟨some 4, .move, [.t 25], none⟩] [] [] [4] true [] []
noncomputable def c7_6 : ACode := .seq c7_7 .ret
noncomputable def c7_5 : ACode := .cond (.t 24) c7_6 .skip
noncomputable def c7_3 : ACode := .seq c7_4 c7_5
noncomputable def c7_9 : ACode := .region false [⟨some 26, .move, [.t 1], none⟩,
  ⟨some 27, .call 17, [.t 26], none⟩,
  ⟨some 5, .move, [.t 27], none⟩] [] [] [0, 1, 5] true [] []
noncomputable def c7_12 : ACode := .region false [⟨some 28, .move, [.t 5], none⟩,
  ⟨some 29, .eqP false, [.t 28, .c (.val (.pointer none))], none⟩] [] [] [0, 1, 5, 29] false [] []
noncomputable def c7_15 : ACode := .region false [⟨some 4, .move, [.c (.val (.bool false))], none⟩] [] [] [4] false [] []
noncomputable def c7_14 : ACode := .seq c7_15 .ret
noncomputable def c7_13 : ACode := .cond (.t 29) c7_14 .skip
noncomputable def c7_11 : ACode := .seq c7_12 c7_13
noncomputable def c7_17 : ACode := .region false [⟨some 6, .move, [.c (.val (.slice none 0 0))], none⟩] [] [] [0, 1, 5, 6] false [] []
noncomputable def c7_20 : ACode := .region false [⟨some 30, .move, [.t 0], none⟩,
  ⟨some 31, .len, [.t 30], none⟩,
  ⟨some 32, .move, [.c (.val (.int .i64 0))], none⟩] [] [] [0, 1, 5, 6, 30, 31, 32] false [] []
noncomputable def c7_24 : ACode := .region false [⟨some 33, .bin .lss, [.t 32, .t 31], none⟩] [] [] [0, 1, 5, 6, 30, 31, 32, 33] false [] []
noncomputable def c7_26 : ACode := .cond (.t 33) .skip (.exit 0)
noncomputable def c7_30 : ACode := .region false [⟨some 34, .ixS 9, [.t 30, .t 32], none⟩,
  ⟨some 35, .load true 9, [.t 34], none⟩,
  ⟨some 8, .alloc [(.string ⟨#[]⟩), (.string ⟨#[]⟩), (.bool false), (.int .i64 0), (.int .i64 0), (.int .i64 0), (.int .i64 0), (.int .i64 0), (.int .i64 0)], [], none⟩,
  ⟨none, .store 9, [.t 8, .t 35], none⟩] [] [] [0, 1, 5, 6, 8, 30, 31, 32] true [] []
noncomputable def c7_32 : ACode := .region false [⟨some 36, .load true 9, [.t 8], none⟩,
  ⟨some 37, .call 19, [.t 36], none⟩,
  ⟨some 38, .build [(.string ⟨#[]⟩), (.string ⟨#[]⟩), (.bool false), (.int .i64 0), (.int .i64 0), (.int .i64 0), (.int .i64 0), (.int .i64 0), (.int .i64 0), (.bool false)] [(0, 9), (9, 1)], [.t 37, .c (.val (.bool true))], none⟩,
  ⟨some 9, .alloc [(.string ⟨#[]⟩), (.string ⟨#[]⟩), (.bool false), (.int .i64 0), (.int .i64 0), (.int .i64 0), (.int .i64 0), (.int .i64 0), (.int .i64 0), (.bool false)], [], none⟩,
  ⟨none, .store 10, [.t 9, .t 38], none⟩] [] [] [0, 1, 5, 6, 9, 30, 31, 32] true [] []
noncomputable def c7_34 : ACode := .region false [⟨some 39, .move, [.t 6], none⟩,
  ⟨some 40, .load true 10, [.t 9], none⟩,
  ⟨some 41, .buildSl 10 1 [(.string ⟨#[]⟩), (.string ⟨#[]⟩), (.bool false), (.int .i64 0), (.int .i64 0), (.int .i64 0), (.int .i64 0), (.int .i64 0), (.int .i64 0), (.bool false)] [(0, 10)], [.t 40], none⟩,
  ⟨some 42, .append 10 96 false, [.t 39, .t 41], none⟩,
  ⟨some 6, .move, [.t 42], none⟩] [] [] [0, 1, 5, 6, 9, 30, 31, 32] true [] []
noncomputable def c7_35 : ACode := .region false [⟨some 43, .move, [.t 5], none⟩,
  ⟨some 44, .load true 10, [.t 9], none⟩,
  ⟨some 45, .call 18, [.t 43, .t 44], none⟩] [] [] [0, 1, 5, 6, 30, 31, 32] true [] []
noncomputable def c7_33 : ACode := .seq c7_34 c7_35
noncomputable def c7_31 : ACode := .seq c7_32 c7_33
noncomputable def c7_29 : ACode := .seq c7_30 c7_31
noncomputable def c7_28 : ACode := .block 1 c7_29
noncomputable def c7_36 : ACode := .region false [⟨some 46, .bin .add, [.t 32, .c (.val (.int .i64 1))], none⟩,
  ⟨some 32, .move, [.t 46], none⟩] [] [] [0, 1, 5, 6, 30, 31, 32] false [] []
noncomputable def c7_27 : ACode := .seq c7_28 c7_36
noncomputable def c7_25 : ACode := .seq c7_26 c7_27
noncomputable def c7_23 : ACode := .seq c7_24 c7_25
noncomputable def c7_22 : ACode := .loop c7_23
noncomputable def c7_21 : ACode := .block 0 c7_22
noncomputable def c7_19 : ACode := .seq c7_20 c7_21
noncomputable def c7_38 : ACode := .region false [⟨some 47, .move, [.t 0], none⟩,
  ⟨some 48, .call 12, [.t 47], none⟩,
  ⟨some 49, .call 23, [.t 48], none⟩,
  ⟨some 10, .move, [.t 49], none⟩] [] [] [1, 5, 6, 10] true [] []
noncomputable def c7_41 : ACode := .region false [⟨some 50, .move, [.t 10], none⟩,
  ⟨some 51, .move, [.t 6], none⟩,
  ⟨some 52, .call 11, [.t 50, .t 51], none⟩,
  ⟨some 53, .bin .neq, [.t 52, .c (.val (.int .i64 (-1)))], none⟩,
  ⟨some 54, .move, [.t 53], none⟩,
  ⟨some 55, .move, [.t 10], some (some 54, false)⟩,
  ⟨some 56, .move, [.t 1], some (some 54, false)⟩,
  ⟨some 57, .move, [.t 6], some (some 54, false)⟩,
  ⟨some 58, .call 15, [.t 55, .t 56, .t 57], some (some 54, false)⟩,
  ⟨some 59, .bin .neq, [.t 58, .c (.val (.int .i64 (-1)))], some (some 54, false)⟩,
  ⟨some 60, .pick, [.t 54, .c (.val (.bool true)), .t 59], none⟩,
  ⟨some 61, .move, [.t 60], none⟩,
  ⟨some 62, .move, [.t 5], some (some 61, false)⟩,
  ⟨some 63, .move, [.t 10], some (some 61, false)⟩,
  ⟨some 64, .call 21, [.t 62, .t 63], some (some 61, false)⟩,
  ⟨some 65, .bin .neq, [.t 64, .c (.val (.int .i64 0))], some (some 61, false)⟩,
  ⟨some 66, .pick, [.t 61, .c (.val (.bool true)), .t 65], none⟩,
  ⟨some 67, .move, [.t 66], none⟩,
  ⟨some 68, .move, [.t 5], some (some 67, false)⟩,
  ⟨some 69, .move, [.t 10], some (some 67, false)⟩,
  ⟨some 70, .call 21, [.t 68, .t 69], some (some 67, false)⟩,
  ⟨some 71, .bin .neq, [.t 70, .c (.val (.int .i64 0))], some (some 67, false)⟩,
  ⟨some 72, .pick, [.t 67, .c (.val (.bool true)), .t 71], none⟩,
  ⟨some 73, .move, [.t 72], none⟩,
  ⟨some 74, .move, [.t 5], some (some 73, false)⟩,
  ⟨some 75, .call 22, [.t 74], some (some 73, false)⟩,
  ⟨some 76, .bin .neq, [.t 75, .c (.val (.int .i64 2))], some (some 73, false)⟩,
  ⟨some 77, .pick, [.t 73, .c (.val (.bool true)), .t 76], none⟩] [] [] [10, 77] true [] []
noncomputable def c7_44 : ACode := .region false [⟨some 4, .move, [.c (.val (.bool false))], none⟩] [] [] [4] false [] []
noncomputable def c7_43 : ACode := .seq c7_44 .ret
noncomputable def c7_42 : ACode := .cond (.t 77) c7_43 .skip
noncomputable def c7_40 : ACode := .seq c7_41 c7_42
noncomputable def c7_46 : ACode := .region false [⟨some 79, .move, [.t 10], none⟩,
  ⟨some 80, .call 25, [.t 79, .c (.val (.slice none 0 0))], none⟩,
  ⟨some 78, .move, [.t 80], none⟩,
  ⟨some 81, .ext 0, [.t 78], none⟩,
  ⟨some 82, .ext 1, [.t 78], none⟩,
  ⟨some 11, .move, [.t 81], none⟩,
  ⟨some 12, .move, [.t 82], none⟩] [] [] [10, 12] true [] []
noncomputable def c7_48 : ACode := .region false [⟨some 83, .move, [.t 12], none⟩,
  ⟨some 84, .move, [.t 10], none⟩,
  ⟨some 85, .len, [.t 84], none⟩,
  ⟨some 86, .bin .gtr, [.t 85, .c (.val (.int .i64 0))], none⟩,
  ⟨some 87, .eqB false, [.t 83, .t 86], none⟩,
  ⟨some 88, .move, [.t 87], none⟩,
  ⟨some 89, .move, [.t 10], some (some 88, true)⟩,
  ⟨some 90, .move, [.t 10], some (some 88, true)⟩,
  ⟨some 91, .call 23, [.t 90], some (some 88, true)⟩,
  ⟨some 92, .call 24, [.t 89, .t 91], some (some 88, true)⟩,
  ⟨some 93, .pick, [.t 88, .t 92, .c (.val (.bool false))], none⟩,
  ⟨some 4, .move, [.t 93], none⟩] [] [] [4] true [] []
noncomputable def c7_47 : ACode := .seq c7_48 .ret
noncomputable def c7_45 : ACode := .seq c7_46 c7_47
noncomputable def c7_39 : ACode := .seq c7_40 c7_45
noncomputable def c7_37 : ACode := .seq c7_38 c7_39
noncomputable def c7_18 : ACode := .seq c7_19 c7_37
noncomputable def c7_16 : ACode := .seq c7_17 c7_18
noncomputable def c7_10 : ACode := .seq c7_11 c7_16
noncomputable def c7_8 : ACode := .seq c7_9 c7_10
noncomputable def c7_2 : ACode := .seq c7_3 c7_8
noncomputable def c7_0 : ACode := .seq c7_1 c7_2
noncomputable def code7 : Code := (Try.f7.body).getD .skip
theorem c7_ok : compC Try.prog 94 code7 = some (strip c7_0) := by kernel_rfl
theorem res7_ok : Try.f7.results.toList.mapM (resC Try.prog) = some [(4, none)] := by kernel_rfl
/-- All as sure updates. -/
def upsE (l : List En) : List Up := l.map fun e => ⟨e, true⟩
theorem ups_len (l : List En) : (upsE l).length = l.length := List.length_map ..
theorem ups_put (l : List En) (i : Nat) (h : i < l.length) : upsE (l.take (i + 1)) = upsE (l.take i) ++ [⟨l[i], true⟩] := by
  unfold upsE
  rw [List.take_add_one, List.getElem?_eq_getElem h, List.map_append]
  rfl
theorem strange_no (l : List En) : strangeI (mapE l) (upsE l) = -1 := idxI_none fun x hx => by
  rw [Bool.not_eq_false']
  exact List.any_eq_true.2 ⟨⟨x, true⟩, List.mem_map_of_mem (map_mem hx), decide_eq_true rfl⟩
theorem short_no (l : List En) (site : Int) : shortI (mapE l) site (upsE l) = -1 := idxI_none fun u hu => by
  obtain ⟨e, he, rfl⟩ := List.mem_map.1 hu
  obtain ⟨z, h1, h2⟩ := bs_has he
  obtain ⟨-, h3⟩ := bs_mem h1
  obtain ⟨j, hj, h4, h5⟩ := first_has (rise_nd (map_rise l)) ((mem_map l z).2 (by rw [h3]; exact h1))
  rw [h3] at h4
  have h6 : (if firstK (mapE l) e.key = -1 then true else match (mapE l)[(firstK (mapE l) e.key).toNat]? with | some x => laterB e.st x.st | none => true) = false := by
    rw [if_neg (by rw [h4]; omega), h4, show ((j : Int)).toNat = j by omega, List.getElem?_eq_getElem hj, h5]
    exact nw_later e z h2
  have h7 : shortP (mapE l) site ⟨e, true⟩ = (true && (decide (e.st.s = site) && (if firstK (mapE l) e.key = -1 then true else match (mapE l)[(firstK (mapE l) e.key).toNat]? with | some x => laterB e.st x.st | none => true))) := rfl
  rw [h7, h6, Bool.and_false, Bool.and_false]
theorem ris_map (l : List En) : risB (mapE l) = true := risB_all fun i hi => List.pairwise_iff_getElem.1 (map_rise l) i (i + 1) (by omega) hi (by omega)
theorem see_ok (l last : List En) (site : Int) (h : fellI last (mapE l) = -1) : seeC site (upsE l) last (mapE l) = 0 := by
  unfold seeC
  rw [ris_map, strange_no, short_no, if_neg (by decide), if_neg (by decide), if_neg (by decide), if_pos h]
theorem fell_nil (T : List En) : ∃ k, fellR T [] = .tup [Str k, Bo (decide (0 < T.length))] := by
  cases T with
  | nil => exact ⟨_, fellR_no rfl⟩
  | cons x T =>
    refine ⟨_, fellR_at (i := 0) (by simp) (idxI_at (i := 0) (by simp) (fun q _ h => by omega) ?_)⟩
    rfl
theorem watchBoth_walk (W : World) (sl : Sl En) (site : Int) (hz : Sl.ok W 9 En.rep (En.ok W) sl) :
    Calls Try.prog 7 #[.slice sl.ad sl.l.length sl.cap, .int .i64 site] W fun e W' => e = .returned (.bool true) ∧ Below W.heap.size W W' := by
  obtain ⟨ad, o, cap, l⟩ := sl
  obtain ⟨hz, -, hl⟩ := hz
  have hl : l.length ≤ 9223372036854775807 := by simpa [maxLen] using hl
  simp only at hz
  have hr := re_ren
  have hu := ru_ren 0
  have hf := few26_any o l hl
  have sp := speaks26_any
  refine top_call c7_ok Try.func7 rfl Try.ntmps7 res7_ok [ .val (.slice ad l.length cap), .val (.int .i64 site)] (by simp) (by (repeat' (first | exact VRs_nil' _ | exact VR_val' _ _ | (refine VRs_cons' ?_ ?_) | (refine VR_agg' (by first | rfl | assumption) ?_; first | assumption | simp [Value.oneCell', St.rep, En.rep])))) ?_; try simp (maxSteps := 9999999) (disch := omega) only [go_sem]
  refine AWpA.thawT 0 EnL hz (fun x => by simp [En.rep, St.rep]) rfl ?_
  clear hz
  cases hs : fewW l with
  | false =>
    rw [hs] at hf
    (have k9 := And.intro @hr (k0); (repeat' (first | refine AWpA.seq ?_ | refine AWpA.block ?_ | (with_reducible refine CondP.tt ?_) | (with_reducible refine CondP.ff ?_) | refine AWpA.cg ?_ | ((first | refine AWpA.rg ?_ | refine AWpA.dg [] [] follows ?_ | refine TailK.tg ?_ | refine AWpA.skip ?_ | refine AWpA.exit ?_ | refine AWpA.ret ?_ | (with_reducible refine ARoundsA.succ ?_) | ((first | refine Runs.gkt (fun h9 => ?_) | refine Runs.gkf (fun h9 => ?_) | refine Runs.gnt (fun h9 => ?_) | refine Runs.gnf (fun h9 => ?_) | refine CondP.gt (fun h9 => ?_) | refine CondP.gf (fun h9 => ?_) | refine CondP.gnt (fun h9 => ?_) | refine CondP.gnf (fun h9 => ?_)); (try simp only [h9]); clear h9) | refine CallG.pg [] (sp) ?_ | refine CallG.pg [0] (hf) ?_ | refine CallG.dg [] (sp) ?_ | refine CallG.dg [0] (hf) ?_); (try simp (maxSteps := 9999999) (disch := omega) only [go_sem, k9]); (try refine cnd ?_)) | ((first | refine CondP.split (fun hif => ?_) (fun hif => ?_) | refine Runs.part (fun hif => ?_) (fun hif => ?_)) <;> ((try simp only [hif]); (try simp only [BL] at hif); (try (have h9 : _ = true := hif; simp only [h9])); (try (have h9 : _ = false := hif; simp only [h9])); (try simp (maxSteps := 9999999) (disch := omega) only [go_sem, k9]); (try refine cnd ?_); (try (exfalso; omega; done)))))); (all_goals (try clear k9)))
    (refine TopPost.of (by first | exact .inl rfl | exact .inr rfl) (by (try simp (maxSteps := 9999999) (disch := omega) only [go_sem]); rfl) ?_; (try simp (maxSteps := 9999999) (disch := omega) only [go_sem]); (try (first | trivial | decide | (simp; done))))
  | true =>
  rw [hs] at hf
  by_cases h30 : (30 : Int) < (l.length : Int)
  · have g1 : ((30 : Int) < (l.length : Int)) = True := eq_true h30
    (have k9 := And.intro @hr (And.intro @g1 (k0)); (repeat' (first | refine AWpA.seq ?_ | refine AWpA.block ?_ | (with_reducible refine CondP.tt ?_) | (with_reducible refine CondP.ff ?_) | refine AWpA.cg ?_ | ((first | refine AWpA.rg ?_ | refine AWpA.dg [] [] follows ?_ | refine TailK.tg ?_ | refine AWpA.skip ?_ | refine AWpA.exit ?_ | refine AWpA.ret ?_ | (with_reducible refine ARoundsA.succ ?_) | ((first | refine Runs.gkt (fun h9 => ?_) | refine Runs.gkf (fun h9 => ?_) | refine Runs.gnt (fun h9 => ?_) | refine Runs.gnf (fun h9 => ?_) | refine CondP.gt (fun h9 => ?_) | refine CondP.gf (fun h9 => ?_) | refine CondP.gnt (fun h9 => ?_) | refine CondP.gnf (fun h9 => ?_)); (try simp only [h9]); clear h9) | refine CallG.pg [] (sp) ?_ | refine CallG.pg [0] (hf) ?_ | refine CallG.dg [] (sp) ?_ | refine CallG.dg [0] (hf) ?_); (try simp (maxSteps := 9999999) (disch := omega) only [go_sem, k9]); (try refine cnd ?_)) | ((first | refine CondP.split (fun hif => ?_) (fun hif => ?_) | refine Runs.part (fun hif => ?_) (fun hif => ?_)) <;> ((try simp only [hif]); (try simp only [BL] at hif); (try (have h9 : _ = true := hif; simp only [h9])); (try (have h9 : _ = false := hif; simp only [h9])); (try simp (maxSteps := 9999999) (disch := omega) only [go_sem, k9]); (try refine cnd ?_); (try (exfalso; omega; done)))))); (all_goals (try clear k9)))
    (refine TopPost.of (by first | exact .inl rfl | exact .inr rfl) (by (try simp (maxSteps := 9999999) (disch := omega) only [go_sem]); rfl) ?_; (try simp (maxSteps := 9999999) (disch := omega) only [go_sem]); (try (first | trivial | decide | (simp; done))))
  have g1 : ((30 : Int) < (l.length : Int)) = False := eq_false h30
  clear hs hl
  have hl30 : l.length ≤ 30 := by omega
  have n1 := wnew_any site
  refine AWpA.dummy ?_
  refine AWpA.dummy ?_
  refine AWpA.dummy ?_
  (have k9 := And.intro @hr (And.intro @g1 (k0)); (repeat' (first | refine AWpA.seq ?_ | refine AWpA.block ?_ | (with_reducible refine CondP.tt ?_) | (with_reducible refine CondP.ff ?_) | refine AWpA.cg ?_ | ((first | refine AWpA.rg ?_ | refine AWpA.dg [] [] follows ?_ | refine TailK.tg ?_ | refine AWpA.skip ?_ | refine AWpA.exit ?_ | refine AWpA.ret ?_ | (with_reducible refine ARoundsA.succ ?_) | ((first | refine Runs.gkt (fun h9 => ?_) | refine Runs.gkf (fun h9 => ?_) | refine Runs.gnt (fun h9 => ?_) | refine Runs.gnf (fun h9 => ?_) | refine CondP.gt (fun h9 => ?_) | refine CondP.gf (fun h9 => ?_) | refine CondP.gnt (fun h9 => ?_) | refine CondP.gnf (fun h9 => ?_)); (try simp only [h9]); clear h9) | refine CallG.pg [] (sp) ?_ | refine CallG.pg [0] (hf) ?_ | refine CallG.pg [] (n1) ?_ | refine CallG.dg [] (sp) ?_ | refine CallG.dg [0] (hf) ?_ | refine CallG.dg [] (n1) ?_); (try simp (maxSteps := 9999999) (disch := omega) only [go_sem, k9]); (try refine cnd ?_)) | ((first | refine CondP.split (fun hif => ?_) (fun hif => ?_) | refine Runs.part (fun hif => ?_) (fun hif => ?_)) <;> ((try simp only [hif]); (try simp only [BL] at hif); (try (have h9 : _ = true := hif; simp only [h9])); (try (have h9 : _ = false := hif; simp only [h9])); (try simp (maxSteps := 9999999) (disch := omega) only [go_sem, k9]); (try refine cnd ?_); (try (exfalso; omega; done)))))); (all_goals (try clear k9)))
  (apply AWpA.loopL (fun i : Nat => [(0, .sl 0 o l.length 9 none), (1, I site), (5, .ptr 1 0), (6, .sl 4 0 i 10 none), (30, .sl 0 o l.length 9 none), (31, I l.length), (32, I i)]) (fun i => [.cells true (Re o l), WO 2 3 site 0 (upsE (l.take i)) [], .cells false (Ru 0 (upsE (l.take i))), .cells false (Re 0 []), .cells false (Ru 0 (upsE (l.take i)))]) (fun i => l.length - i) (fun i => i ≤ l.length) (0) [0, _, 1, 2, 3]; rotate_left; (focus (simp (maxSteps := 9999999) (disch := omega) only [go_sem, hr, hu, upsE, List.take_zero, List.map_nil, List.length_nil, ru_nil, re_nil]; (try (repeat' (first | done | trivial | rfl | exact leAs_rfl _ | decide | (refine And.intro ?_ ?_) | (simp; done) | omega | (simp; decide)))))); rotate_right)
  · exact Nat.zero_le _
  rintro i hi
  (try simp only at hi)
  have hul : (upsE (l.take i)).length = i := by rw [ups_len, List.length_take]; omega
  have hLu := ru_len 0 (upsE (l.take i))
  rw [hul] at hLu
  by_cases hin : i < l.length
  · have g2 : ((i : Int) < (l.length : Int)) = True := eq_true (by omega)
    have hat := re_at o l i hin
    have hL := re_len o l
    have hput := ups_put l i hin
    generalize l[i] = x at *
    have c1 := wrote_any site 0 (upsE (l.take i)) [] ⟨x, true⟩ (by omega)
    have o1 := of05_any x
    have hfu := ru_all (upsE (l.take i)) (n := i * 10) (by rw [hul])
    have hp := ru_app (upsE (l.take i)) [⟨x, true⟩]
    rw [ru_one] at hp
    generalize upsE (l.take i) = U at *
    (try simp (maxSteps := 9999999) (disch := omega) only [go_sem])
    (have k9 := And.intro @hr (And.intro @hu (And.intro @hL (And.intro @hLu (And.intro @g2 (And.intro @hat (k0)))))); (repeat' (first | refine AWpA.seq ?_ | refine AWpA.block ?_ | (with_reducible refine CondP.tt ?_) | (with_reducible refine CondP.ff ?_) | refine AWpA.cg ?_ | ((first | refine AWpA.rg ?_ | refine AWpA.dg [1, 2] [] follows ?_ | refine TailK.tg ?_ | refine AWpA.skip ?_ | refine AWpA.exit ?_ | refine AWpA.ret ?_ | (with_reducible refine ARoundsA.succ ?_) | ((first | refine Runs.gkt (fun h9 => ?_) | refine Runs.gkf (fun h9 => ?_) | refine Runs.gnt (fun h9 => ?_) | refine Runs.gnf (fun h9 => ?_) | refine CondP.gt (fun h9 => ?_) | refine CondP.gf (fun h9 => ?_) | refine CondP.gnt (fun h9 => ?_) | refine CondP.gnf (fun h9 => ?_)); (try simp only [h9]); clear h9) | refine CallG.pg [] (o1) ?_ | refine CallG.pg [1, 2, 3] (c1) ?_ | refine CallG.dg [] (o1) ?_ | refine CallG.dg [1, 2, 3] (c1) ?_); (try simp (maxSteps := 9999999) (disch := omega) only [go_sem, k9]); (try refine cnd ?_)) | ((first | refine CondP.split (fun hif => ?_) (fun hif => ?_) | refine Runs.part (fun hif => ?_) (fun hif => ?_)) <;> ((try simp only [hif]); (try simp only [BL] at hif); (try (have h9 : _ = true := hif; simp only [h9])); (try (have h9 : _ = false := hif; simp only [h9])); (try simp (maxSteps := 9999999) (disch := omega) only [go_sem, k9]); (try refine cnd ?_); (try (exfalso; omega; done)))))); (all_goals (try clear k9)))
    (apply Back.to (i + 1) [0, 1, 277, 3, 213]; (focus ((try simp (maxSteps := 9999999) (disch := omega) only [go_sem, hr, hu, hput, hul, hp, hfu, renL_append, List.length_append, List.length_singleton]); first | done | omega)); rotate_left; (focus (simp (maxSteps := 9999999) (disch := omega) only [go_sem, hr, hu, hput, hul, hp, hfu, renL_append, List.length_append, List.length_singleton]; (try (repeat' (first | done | trivial | rfl | exact leAs_rfl _ | decide | (refine And.intro ?_ ?_) | (simp; done) | omega | (simp; decide)))))))
    omega
  · obtain rfl : i = l.length := by omega
    have g2 : ((l.length : Int) < (l.length : Int)) = False := eq_false (by omega)
    rw [List.take_length] at hul hLu ⊢
    have hT := map_len l
    have o1 := ofs_any o l (by omega)
    have m1 := watchmap_any 0 l (by omega)
    have s1 := strange_any (mapE l) (upsE l) (by omega) (by omega)
    rw [strange_no] at s1
    have s2 := wshort_any (mapE l) site (upsE l) (by omega) (by omega)
    rw [short_no] at s2
    have w1 := wsee_any site 0 (by omega) (upsE l) [] (mapE l) (by omega) (by simp) (by omega)
    rw [see_ok l [] site rfl] at w1
    have w2 := wsee_any site 1 (by omega) (upsE l) (mapE l) (mapE l) (by omega) (by omega) (by omega)
    rw [see_ok l (mapE l) site (fell_self l)] at w2
    simp only [if_true, Int.zero_add, Int.reduceAdd] at w1 w2
    have n2 := seen_any site 2 (upsE l) (mapE l)
    have f1 := fell_any 0 (mapE l) [] (by omega) (by simp)
    obtain ⟨k, hk⟩ := fell_nil (mapE l)
    rw [hk] at f1
    have m2 := watchmap_any 0 (mapE l) (by omega)
    rw [map_map] at m2
    have a1 := alike_any 0 0 (mapE l) (mapE l) (by omega) (by omega)
    rw [alike_self] at a1
    rw [hul] at s1 s2
    clear hk
    generalize mapE l = T at *
    generalize upsE l = U at *
    have hb : decide ((0 : Int) < (T.length : Int)) = decide (0 < T.length) := by simp
    generalize decide (0 < T.length) = b at *
    refine AWpA.dummy ?_
    (try simp (maxSteps := 9999999) (disch := omega) only [go_sem])
    cases b
    all_goals
      (have k9 := And.intro @hr (And.intro @hu (And.intro @g2 (And.intro @hb (k0)))); (repeat' (first | refine AWpA.seq ?_ | refine AWpA.block ?_ | (with_reducible refine CondP.tt ?_) | (with_reducible refine CondP.ff ?_) | refine AWpA.cg ?_ | ((first | refine AWpA.rg ?_ | refine AWpA.dg [] [] follows ?_ | refine TailK.tg ?_ | refine AWpA.skip ?_ | refine AWpA.exit ?_ | refine AWpA.ret ?_ | (with_reducible refine ARoundsA.succ ?_) | ((first | refine Runs.gkt (fun h9 => ?_) | refine Runs.gkf (fun h9 => ?_) | refine Runs.gnt (fun h9 => ?_) | refine Runs.gnf (fun h9 => ?_) | refine CondP.gt (fun h9 => ?_) | refine CondP.gf (fun h9 => ?_) | refine CondP.gnt (fun h9 => ?_) | refine CondP.gnf (fun h9 => ?_)); (try simp only [h9]); clear h9) | refine CallG.pg [0] (o1) ?_ | refine CallG.pg [38] (m1) ?_ | refine CallG.pg [55, 4] (s1) ?_ | refine CallG.pg [55, 4] (s2) ?_ | refine CallG.pg [1, 2, 3, 55] (w1) ?_ | refine CallG.pg [1, 2, 310, 55] (w2) ?_ | refine CallG.pg [1, 2, 406] (n2) ?_ | refine CallG.pg [55, 5] (f1) ?_ | refine CallG.pg [55] (m2) ?_ | refine CallG.pg [55, 775] (a1) ?_ | refine CallG.dg [0] (o1) ?_ | refine CallG.dg [38] (m1) ?_ | refine CallG.dg [55, 4] (s1) ?_ | refine CallG.dg [55, 4] (s2) ?_ | refine CallG.dg [1, 2, 3, 55] (w1) ?_ | refine CallG.dg [1, 2, 310, 55] (w2) ?_ | refine CallG.dg [1, 2, 406] (n2) ?_ | refine CallG.dg [55, 5] (f1) ?_ | refine CallG.dg [55] (m2) ?_ | refine CallG.dg [55, 775] (a1) ?_); (try simp (maxSteps := 9999999) (disch := omega) only [go_sem, k9]); (try refine cnd ?_)) | ((first | refine CondP.split (fun hif => ?_) (fun hif => ?_) | refine Runs.part (fun hif => ?_) (fun hif => ?_)) <;> ((try simp only [hif]); (try simp only [BL] at hif); (try (have h9 : _ = true := hif; simp only [h9])); (try (have h9 : _ = false := hif; simp only [h9])); (try simp (maxSteps := 9999999) (disch := omega) only [go_sem, k9]); (try refine cnd ?_); (try (exfalso; omega; done)))))); (all_goals (try clear k9)))
      all_goals (refine TopPost.of (by first | exact .inl rfl | exact .inr rfl) (by (try simp (maxSteps := 9999999) (disch := omega) only [go_sem]); rfl) ?_; (try simp (maxSteps := 9999999) (disch := omega) only [go_sem]); (try (first | trivial | decide | (simp; done))))
end Go.Proofs.Ytbblpmkdhdnkhaa
