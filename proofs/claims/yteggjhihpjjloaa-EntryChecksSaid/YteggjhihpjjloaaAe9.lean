/- The walk of EntryChecks. -/
import Derived.Test.YteggjhihpjjloaaAe8
import Derived.Test.YteggjhihpjjloaaAb
namespace Go.Proofs.Yteggjhihpjjloaa
set_option linter.unusedSimpArgs false
set_option linter.unusedVariables false
set_option maxHeartbeats 4000000
open Go Go.Am Go.RowKit Go.ChangeShapes Go.WideShapes Go.ChangeAt
set_option maxRecDepth 100000
def St.rep (a : St) : List Value := (fun n : Int => [.int .i64 n]) a.c ++ (fun n : Int => [.int .i64 n]) a.s
structure St.ok (W : World) (a : St) : Prop where
  c : (fun n : Int => IntKind.i64.min ≤ n ∧ n ≤ IntKind.i64.max) a.c
  s : (fun n : Int => IntKind.i64.min ≤ n ∧ n ≤ IntKind.i64.max) a.s
set_option maxRecDepth 100000 in
theorem rd_St {H : Type} {enc : TypeId × Value → H} {W : World} {base : Nat} {held : Bool} : Rd enc Try.prog W base held 71 St.rep (St.ok W) := fun n cs x h => by
  obtain ⟨xs, n1, _, _, hlen, hx, hf⟩ := DataW.trod_struct Try.underlying71 h
  rw [show Try.prog.cellsOf 71 = 2 by kernel_rfl] at hlen
  have f0 : DataW.trod enc Try.prog W base (fun _ => true) held n1 3 ((cs.drop 0).take (Try.prog.cellsOf 3)) = xs[0]? := hf 0 _ rfl
  rw [show Try.prog.cellsOf 3 = 1 by kernel_rfl] at f0
  obtain ⟨y0, h0⟩ := at_some2 hx (by decide) f0
  obtain ⟨g0, a0, e0, w0⟩ := (rd_int Try.underlying3 : Rd _ _ _ _ _ _ (fun n : Int => [.int .i64 n]) (fun n : Int => IntKind.i64.min ≤ n ∧ n ≤ IntKind.i64.max)) _ _ _ h0
  have f1 : DataW.trod enc Try.prog W base (fun _ => true) held n1 3 ((cs.drop 1).take (Try.prog.cellsOf 3)) = xs[1]? := hf 1 _ rfl
  rw [show Try.prog.cellsOf 3 = 1 by kernel_rfl] at f1
  obtain ⟨y1, h1⟩ := at_some2 hx (by decide) f1
  obtain ⟨g1, a1, e1, w1⟩ := (rd_int Try.underlying3 : Rd _ _ _ _ _ _ (fun n : Int => [.int .i64 n]) (fun n : Int => IntKind.i64.min ≤ n ∧ n ≤ IntKind.i64.max)) _ _ _ h1
  match cs, hlen with
  | [c0, c1], _ =>
    simp [Sl.rep, St.rep] at e0 g0
    simp [Sl.rep, St.rep] at e1 g1
    exact ⟨by simp [*, Value.oneCell'], ⟨a0, a1⟩, by simp [Sl.rep, St.rep, *], ⟨w0, w1⟩⟩
def En.rep (a : En) : List Value := (fun s : ByteArray => [.string s]) a.key ++ (fun s : ByteArray => [.string s]) a.val ++ (fun b : Bool => [.bool b]) a.dead ++ (St.rep) a.st ++ (St.rep) a.act ++ (fun n : Int => [.int .i64 n]) a.keep ++ (fun n : Int => [.int .i64 n]) a.age
structure En.ok (W : World) (a : En) : Prop where
  key : (fun s : ByteArray => s.size ≤ maxLen) a.key
  val : (fun s : ByteArray => s.size ≤ maxLen) a.val
  dead : (fun _ : Bool => True) a.dead
  st : (St.ok W) a.st
  act : (St.ok W) a.act
  keep : (fun n : Int => IntKind.i64.min ≤ n ∧ n ≤ IntKind.i64.max) a.keep
  age : (fun n : Int => IntKind.i64.min ≤ n ∧ n ≤ IntKind.i64.max) a.age
set_option maxRecDepth 100000 in
theorem rd_En {H : Type} {enc : TypeId × Value → H} {W : World} {base : Nat} {held : Bool} : Rd enc Try.prog W base held 73 En.rep (En.ok W) := fun n cs x h => by
  obtain ⟨xs, n1, _, _, hlen, hx, hf⟩ := DataW.trod_struct Try.underlying73 h
  rw [show Try.prog.cellsOf 73 = 9 by kernel_rfl] at hlen
  have f0 : DataW.trod enc Try.prog W base (fun _ => true) held n1 9 ((cs.drop 0).take (Try.prog.cellsOf 9)) = xs[0]? := hf 0 _ rfl
  rw [show Try.prog.cellsOf 9 = 1 by kernel_rfl] at f0
  obtain ⟨y0, h0⟩ := at_some2 hx (by decide) f0
  obtain ⟨g0, a0, e0, w0⟩ := (rd_string Try.underlying9 : Rd _ _ _ _ _ _ (fun s : ByteArray => [.string s]) (fun s : ByteArray => s.size ≤ maxLen)) _ _ _ h0
  have f1 : DataW.trod enc Try.prog W base (fun _ => true) held n1 9 ((cs.drop 1).take (Try.prog.cellsOf 9)) = xs[1]? := hf 1 _ rfl
  rw [show Try.prog.cellsOf 9 = 1 by kernel_rfl] at f1
  obtain ⟨y1, h1⟩ := at_some2 hx (by decide) f1
  obtain ⟨g1, a1, e1, w1⟩ := (rd_string Try.underlying9 : Rd _ _ _ _ _ _ (fun s : ByteArray => [.string s]) (fun s : ByteArray => s.size ≤ maxLen)) _ _ _ h1
  have f2 : DataW.trod enc Try.prog W base (fun _ => true) held n1 4 ((cs.drop 2).take (Try.prog.cellsOf 4)) = xs[2]? := hf 2 _ rfl
  rw [show Try.prog.cellsOf 4 = 1 by kernel_rfl] at f2
  obtain ⟨y2, h2⟩ := at_some2 hx (by decide) f2
  obtain ⟨g2, a2, e2, w2⟩ := (rd_bool Try.underlying4 : Rd _ _ _ _ _ _ (fun b : Bool => [.bool b]) (fun _ : Bool => True)) _ _ _ h2
  have f3 : DataW.trod enc Try.prog W base (fun _ => true) held n1 71 ((cs.drop 3).take (Try.prog.cellsOf 71)) = xs[3]? := hf 3 _ rfl
  rw [show Try.prog.cellsOf 71 = 2 by kernel_rfl] at f3
  obtain ⟨y3, h3⟩ := at_some2 hx (by decide) f3
  obtain ⟨g3, a3, e3, w3⟩ := (rd_St : Rd _ _ _ _ _ _ (St.rep) (St.ok W)) _ _ _ h3
  have f4 : DataW.trod enc Try.prog W base (fun _ => true) held n1 71 ((cs.drop 5).take (Try.prog.cellsOf 71)) = xs[4]? := hf 4 _ rfl
  rw [show Try.prog.cellsOf 71 = 2 by kernel_rfl] at f4
  obtain ⟨y4, h4⟩ := at_some2 hx (by decide) f4
  obtain ⟨g4, a4, e4, w4⟩ := (rd_St : Rd _ _ _ _ _ _ (St.rep) (St.ok W)) _ _ _ h4
  have f5 : DataW.trod enc Try.prog W base (fun _ => true) held n1 3 ((cs.drop 7).take (Try.prog.cellsOf 3)) = xs[5]? := hf 5 _ rfl
  rw [show Try.prog.cellsOf 3 = 1 by kernel_rfl] at f5
  obtain ⟨y5, h5⟩ := at_some2 hx (by decide) f5
  obtain ⟨g5, a5, e5, w5⟩ := (rd_int Try.underlying3 : Rd _ _ _ _ _ _ (fun n : Int => [.int .i64 n]) (fun n : Int => IntKind.i64.min ≤ n ∧ n ≤ IntKind.i64.max)) _ _ _ h5
  have f6 : DataW.trod enc Try.prog W base (fun _ => true) held n1 3 ((cs.drop 8).take (Try.prog.cellsOf 3)) = xs[6]? := hf 6 _ rfl
  rw [show Try.prog.cellsOf 3 = 1 by kernel_rfl] at f6
  obtain ⟨y6, h6⟩ := at_some2 hx (by decide) f6
  obtain ⟨g6, a6, e6, w6⟩ := (rd_int Try.underlying3 : Rd _ _ _ _ _ _ (fun n : Int => [.int .i64 n]) (fun n : Int => IntKind.i64.min ≤ n ∧ n ≤ IntKind.i64.max)) _ _ _ h6
  match cs, hlen with
  | [c0, c1, c2, c3, c4, c5, c6, c7, c8], _ =>
    simp [Sl.rep, St.rep, En.rep] at e0 g0
    simp [Sl.rep, St.rep, En.rep] at e1 g1
    simp [Sl.rep, St.rep, En.rep] at e2 g2
    simp [Sl.rep, St.rep, En.rep] at e3 g3
    simp [Sl.rep, St.rep, En.rep] at e4 g4
    simp [Sl.rep, St.rep, En.rep] at e5 g5
    simp [Sl.rep, St.rep, En.rep] at e6 g6
    exact ⟨by simp [*, Value.oneCell'], ⟨a0, a1, a2, a3, a4, a5, a6⟩, by simp [Sl.rep, St.rep, En.rep, *], ⟨w0, w1, w2, w3, w4, w5, w6⟩⟩
/- quidnunc/quidnunclaw05.EntryChecks -/
noncomputable def c14_1 : ACode := .region false [⟨some 2, .box 0, [.t 0], none⟩,
  ⟨some 3, .box 0, [.t 1], none⟩,
  ⟨some 4, .move, [.c (.val (.bool false))], none⟩] [] [] [2, 3] true [] []
noncomputable def c14_4 : ACode := .region false [⟨some 11, .call 44, [], none⟩,
  ⟨some 12, .un .not, [.t 11], none⟩,
  ⟨some 13, .move, [.t 12], none⟩,
  ⟨some 14, .load true 9, [.t 2], some (some 13, false)⟩,
  ⟨some 15, .call 45, [.t 14], some (some 13, false)⟩,
  ⟨some 16, .un .not, [.t 15], some (some 13, false)⟩,
  ⟨some 17, .pick, [.t 13, .c (.val (.bool true)), .t 16], none⟩,
  ⟨some 18, .move, [.t 17], none⟩,
  ⟨some 19, .load true 9, [.t 3], some (some 18, false)⟩,
  ⟨some 20, .call 45, [.t 19], some (some 18, false)⟩,
  ⟨some 21, .un .not, [.t 20], some (some 18, false)⟩,
  ⟨some 22, .pick, [.t 18, .c (.val (.bool true)), .t 21], none⟩] [] [] [2, 3, 22] true [] []
noncomputable def c14_7 : ACode := .region false [⟨some 23, .call 44, [], none⟩,
  ⟨some 4, .move, [.t 23], none⟩] [] [] [4] true [] []
noncomputable def c14_6 : ACode := .seq c14_7 .ret
noncomputable def c14_5 : ACode := .cond (.t 22) c14_6 .skip
noncomputable def c14_3 : ACode := .seq c14_4 c14_5
noncomputable def c14_9 : ACode := .region false [⟨some 24, .load true 9, [.t 2], none⟩,
  ⟨some 25, .call 49, [.t 24], none⟩,
  ⟨some 5, .move, [.t 25], none⟩] [] [] [2, 3, 5] true [] []
noncomputable def c14_11 : ACode := .region false [⟨some 27, .load true 9, [.t 2], none⟩,
  ⟨some 28, .call 47, [.t 27], none⟩,
  ⟨some 29, .call 77, [.t 28], none⟩,
  ⟨some 26, .move, [.t 29], none⟩,
  ⟨some 30, .ext 0, [.t 26], none⟩,
  ⟨some 31, .ext 1, [.t 26], none⟩,
  ⟨some 6, .move, [.t 30], none⟩,
  ⟨some 7, .move, [.t 31], none⟩] [] [] [2, 3, 5, 6, 7] true [] []
noncomputable def c14_14 : ACode := .region true [⟨some 32, .load true 9, [.t 2], none⟩,
  ⟨some 33, .call 47, [.t 32], none⟩,
  ⟨some 34, .call 78, [.t 33], none⟩,
  ⟨some 35, .move, [.t 5], none⟩,
  ⟨some 36, .bin .neq, [.t 34, .t 35], none⟩,
  ⟨some 37, .move, [.t 36], none⟩,
  ⟨some 38, .move, [.t 7], some (some 37, false)⟩,
  ⟨some 39, .move, [.t 5], some (some 37, false)⟩,
  ⟨some 40, .bin .neq, [.t 38, .t 39], some (some 37, false)⟩,
  ⟨some 41, .pick, [.t 37, .c (.val (.bool true)), .t 40], none⟩,
  ⟨some 42, .move, [.t 41], none⟩,
  ⟨some 43, .load true 9, [.t 2], some (some 42, false)⟩,
  ⟨some 44, .call 47, [.t 43], some (some 42, false)⟩,
  ⟨some 45, .load true 9, [.t 3], some (some 42, false)⟩,
  ⟨some 46, .call 47, [.t 45], some (some 42, false)⟩,
  ⟨some 47, .call 51, [.t 44, .t 46], some (some 42, false)⟩,
  ⟨some 48, .load true 9, [.t 2], some (some 42, false)⟩,
  ⟨some 49, .load true 9, [.t 3], some (some 42, false)⟩,
  ⟨some 50, .call 79, [.t 48, .t 49], some (some 42, false)⟩,
  ⟨some 51, .eqB true, [.t 47, .t 50], some (some 42, false)⟩,
  ⟨some 52, .pick, [.t 42, .c (.val (.bool true)), .t 51], none⟩,
  ⟨some 53, .move, [.t 52], none⟩,
  ⟨some 54, .load true 9, [.t 2], some (some 53, false)⟩,
  ⟨some 55, .call 47, [.t 54], some (some 53, false)⟩,
  ⟨some 56, .load true 9, [.t 3], some (some 53, false)⟩,
  ⟨some 57, .call 47, [.t 56], some (some 53, false)⟩,
  ⟨some 58, .call 80, [.t 55, .t 57], some (some 53, false)⟩,
  ⟨some 59, .load true 9, [.t 2], some (some 53, false)⟩,
  ⟨some 60, .load true 9, [.t 3], some (some 53, false)⟩,
  ⟨some 61, .call 81, [.t 59, .t 60], some (some 53, false)⟩,
  ⟨some 62, .eqB true, [.t 58, .t 61], some (some 53, false)⟩,
  ⟨some 63, .pick, [.t 53, .c (.val (.bool true)), .t 62], none⟩] [] [] [2, 5, 6, 63] true [] []
noncomputable def c14_17 : ACode := .region false [⟨some 4, .move, [.c (.val (.bool false))], none⟩] [] [] [4] false [] []
noncomputable def c14_16 : ACode := .seq c14_17 .ret
noncomputable def c14_15 : ACode := .cond (.t 63) c14_16 .skip
noncomputable def c14_13 : ACode := .seq c14_14 c14_15
noncomputable def c14_20 : ACode := .region true [⟨some 64, .load true 9, [.t 2], none⟩,
  ⟨some 65, .call 47, [.t 64], none⟩,
  ⟨some 66, .call 82, [.t 65], none⟩,
  ⟨some 67, .addr 5, [.t 2], none⟩,
  ⟨some 68, .load true 2, [.t 67], none⟩,
  ⟨some 69, .call 48, [.t 68], none⟩,
  ⟨some 70, .addr 0, [.t 2], none⟩,
  ⟨some 71, .load false 1, [.t 70], none⟩,
  ⟨some 72, .build [(.int .i64 0), (.int .i64 0), (.string ⟨#[]⟩)] [(0, 2), (2, 1)], [.t 69, .t 71], none⟩,
  ⟨some 73, .eqA true [(0, 0), (1, 0), (2, 1)], [.t 66, .t 72], none⟩] [] [] [2, 5, 6, 73] true [] []
noncomputable def c14_23 : ACode := .region false [⟨some 4, .move, [.c (.val (.bool false))], none⟩] [] [] [4] false [] []
noncomputable def c14_22 : ACode := .seq c14_23 .ret
noncomputable def c14_21 : ACode := .cond (.t 73) c14_22 .skip
noncomputable def c14_19 : ACode := .seq c14_20 c14_21
noncomputable def c14_26 : ACode := .region false [⟨some 74, .move, [.t 5], none⟩,
  ⟨some 75, .bin .neq, [.t 74, .c (.val (.int .i64 0))], none⟩] [] [] [2, 6, 75] false [] []
noncomputable def c14_29 : ACode := .region false [⟨some 76, .move, [.t 6], none⟩,
  ⟨some 77, .len, [.t 76], none⟩,
  ⟨some 78, .bin .eql, [.t 77, .c (.val (.int .i64 0))], none⟩,
  ⟨some 4, .move, [.t 78], none⟩] [] [] [4] false [] []
noncomputable def c14_28 : ACode := .seq c14_29 .ret
noncomputable def c14_27 : ACode := .cond (.t 75) c14_28 .skip
noncomputable def c14_25 : ACode := .seq c14_26 c14_27
noncomputable def c14_31 : ACode := .region false [⟨some 8, .alloc [(.slice none 0 0), (.int .i64 0)], [], none⟩] [] [] [2, 6, 8] true [] []
noncomputable def c14_33 : ACode := .region false [⟨some 79, .load true 9, [.t 2], none⟩,
  ⟨some 80, .call 47, [.t 79], none⟩,
  ⟨some 81, .call 83, [.t 8, .t 80], none⟩] [] [] [2, 6, 8] true [] []
noncomputable def c14_35 : ACode := .region false [⟨some 83, .move, [.t 6], none⟩,
  ⟨some 84, .call 73, [.t 83], none⟩,
  ⟨some 82, .move, [.t 84], none⟩,
  ⟨some 85, .ext 0, [.t 82], none⟩,
  ⟨some 86, .ext 1, [.t 82], none⟩,
  ⟨some 9, .alloc [(.string ⟨#[]⟩), (.string ⟨#[]⟩), (.bool false), (.int .i64 0), (.int .i64 0), (.int .i64 0), (.int .i64 0), (.int .i64 0), (.int .i64 0)], [], none⟩,
  ⟨none, .store 9, [.t 9, .t 85], none⟩,
  ⟨some 10, .move, [.t 86], none⟩] [] [] [2, 6, 8, 9, 10] true [] []
noncomputable def c14_37 : ACode := .region true [⟨some 87, .move, [.t 6], none⟩,
  ⟨some 88, .toStr, [.t 87], none⟩,
  ⟨some 89, .load true 9, [.t 2], none⟩,
  ⟨some 90, .call 84, [.t 89], none⟩,
  ⟨some 91, .toStr, [.t 90], none⟩,
  ⟨some 92, .bin .eql, [.t 88, .t 91], none⟩,
  ⟨some 93, .move, [.t 92], none⟩,
  ⟨some 94, .call 43, [.t 8], some (some 93, true)⟩,
  ⟨some 95, .toStr, [.t 94], some (some 93, true)⟩,
  ⟨some 96, .move, [.t 6], some (some 93, true)⟩,
  ⟨some 97, .toStr, [.t 96], some (some 93, true)⟩,
  ⟨some 98, .bin .eql, [.t 95, .t 97], some (some 93, true)⟩,
  ⟨some 99, .pick, [.t 93, .t 98, .c (.val (.bool false))], none⟩,
  ⟨some 100, .move, [.t 99], none⟩,
  ⟨some 101, .move, [.t 10], some (some 100, true)⟩,
  ⟨some 102, .bin .eql, [.t 101, .c (.val (.int .i64 0))], some (some 100, true)⟩,
  ⟨some 103, .pick, [.t 100, .t 102, .c (.val (.bool false))], none⟩,
  ⟨some 104, .move, [.t 103], none⟩,
  ⟨some 105, .load true 9, [.t 9], some (some 104, true)⟩,
  ⟨some 106, .call 50, [.t 105], some (some 104, true)⟩,
  ⟨some 107, .load true 9, [.t 2], some (some 104, true)⟩,
  ⟨some 108, .eqA false [(0, 1), (1, 1), (2, 2), (3, 0), (4, 0), (5, 0), (6, 0), (7, 0), (8, 0)], [.t 106, .t 107], some (some 104, true)⟩,
  ⟨some 109, .pick, [.t 104, .t 108, .c (.val (.bool false))], none⟩,
  ⟨some 4, .move, [.t 109], none⟩] [4, 8] [] [4] true [] []
noncomputable def c14_36 : ACode := .seq c14_37 .ret
noncomputable def c14_34 : ACode := .seq c14_35 c14_36
noncomputable def c14_32 : ACode := .seq c14_33 c14_34
noncomputable def c14_30 : ACode := .seq c14_31 c14_32
noncomputable def c14_24 : ACode := .seq c14_25 c14_30
noncomputable def c14_18 : ACode := .seq c14_19 c14_24
noncomputable def c14_12 : ACode := .seq c14_13 c14_18
noncomputable def c14_10 : ACode := .seq c14_11 c14_12
noncomputable def c14_8 : ACode := .seq c14_9 c14_10
noncomputable def c14_2 : ACode := .seq c14_3 c14_8
noncomputable def c14_0 : ACode := .seq c14_1 c14_2
noncomputable def code14 : Code := (Try.f14.body).getD .skip
theorem c14_ok : compC Try.prog 110 code14 = some (strip c14_0) := by kernel_rfl
theorem res14_ok : Try.f14.results.toList.mapM (resC Try.prog) = some [(4, none)] := by kernel_rfl
theorem echecks_walk (W : World) (a b : En) :
    Calls Try.prog 14 #[.agg a.rep.toArray, .agg b.rep.toArray] W fun e W' => e = .returned (.bool true) ∧ Below W.heap.size W W' := by
  have hen := encode_any a
  have hck := check_any a
  have hrc := rcheck_any a
  by_cases h : checkI a = 0
  · have e1 : encL a = enB a := by unfold encL; rw [h]; rfl
    have hk := check_ok h
    have hln := enB_len a
    have hlay := lay_any a h [] (by simp)
    obtain ⟨hd1, hd2⟩ := dec_enB h
    have hdec := edec_any (Seg.all (enB a) (by omega)) (enB_bytes h)
    have hby := bytes_any (enB a) 0 (by omega)
    have hrb := rbytes_any a h
    rw [hd1, hd2] at hdec
    rw [h, e1] at hen
    rw [h] at hck hrc
    simp only [List.nil_append, List.length_nil, bA_nil] at hlay
    clear hd1 hd2 hk hln e1 h
    generalize enB a = B at *
    refine top_call c14_ok Try.func14 rfl Try.ntmps14 res14_ok [ EnA a, EnA b] (by simp) (by (repeat' (first | exact VRs_nil' _ | exact VR_val' _ _ | (refine VRs_cons' ?_ ?_) | (refine VR_agg' rfl ?_; simp [Value.oneCell', St.rep, En.rep])))) ?_; try simp (maxSteps := 9999999) (disch := omega) only [go_sem]
    refine AWpA.dummy ?_
    (repeat' (first | refine AWpA.seq ?_ | refine AWpA.block ?_ | (with_reducible refine CondP.tt ?_) | (with_reducible refine CondP.ff ?_) | refine AWpA.condv (by simp (maxSteps := 9999999) (disch := omega) only [go_sem]; rfl) ?_ | ((first | (apply AWpA.region; (focus (simp (maxSteps := 9999999) (disch := omega) only [go_sem]; rfl))) | (apply AWpA.draw [] follows; (focus (simp (maxSteps := 9999999) (disch := omega) only [go_sem]; rfl)); (focus (simp (maxSteps := 9999999) (disch := omega) only [go_sem]; first | done | trivial)); (focus (simp (maxSteps := 9999999) (disch := omega) only [go_sem]; rfl))) | (apply TailK.go; (focus (simp (maxSteps := 9999999) (disch := omega) only [go_sem]; rfl))) | refine AWpA.skip ?_ | refine AWpA.exit ?_ | refine AWpA.ret ?_ | (with_reducible refine ARoundsA.succ ?_) | ((first | refine Runs.kt (by assumption) (fun h9 => ?_) | refine Runs.kf (by assumption) (fun h9 => ?_) | refine Runs.nt (by assumption) (fun h9 => ?_) | refine Runs.nf (by assumption) (fun h9 => ?_) | refine CondP.ht (by assumption) (fun h9 => ?_) | refine CondP.hf (by assumption) (fun h9 => ?_) | refine CondP.nt (by assumption) (fun h9 => ?_) | refine CondP.nf (by assumption) (fun h9 => ?_)); (try simp only [h9]); clear h9) | ((first | (with_reducible apply CallG.plain1 [] (short_any a)) | (with_reducible apply CallG.draw1 [] (short_any a))); (focus ((try refine And.intro (leAs_of_eq rfl) ?_); (try refine And.intro (leOL_of_eq rfl) ?_); simp (maxSteps := 9999999) (disch := omega) only [go_sem]; first | done | (repeat' (first | rfl | (refine And.intro ?_ ?_))))); (focus (simp (maxSteps := 9999999) (disch := omega) only [go_sem]; rfl))) | ((first | (with_reducible apply CallG.plain1 [] (short_any b)) | (with_reducible apply CallG.draw1 [] (short_any b))); (focus ((try refine And.intro (leAs_of_eq rfl) ?_); (try refine And.intro (leOL_of_eq rfl) ?_); simp (maxSteps := 9999999) (disch := omega) only [go_sem]; first | done | (repeat' (first | rfl | (refine And.intro ?_ ?_))))); (focus (simp (maxSteps := 9999999) (disch := omega) only [go_sem]; rfl))) | ((first | (with_reducible apply CallG.plain1 [] (of05_any a)) | (with_reducible apply CallG.draw1 [] (of05_any a))); (focus ((try refine And.intro (leAs_of_eq rfl) ?_); (try refine And.intro (leOL_of_eq rfl) ?_); simp (maxSteps := 9999999) (disch := omega) only [go_sem]; first | done | (repeat' (first | rfl | (refine And.intro ?_ ?_))))); (focus (simp (maxSteps := 9999999) (disch := omega) only [go_sem]; rfl))) | ((first | (with_reducible apply CallG.plain1 [] (of05_any b)) | (with_reducible apply CallG.draw1 [] (of05_any b))); (focus ((try refine And.intro (leAs_of_eq rfl) ?_); (try refine And.intro (leOL_of_eq rfl) ?_); simp (maxSteps := 9999999) (disch := omega) only [go_sem]; first | done | (repeat' (first | rfl | (refine And.intro ?_ ?_))))); (focus (simp (maxSteps := 9999999) (disch := omega) only [go_sem]; rfl))) | ((first | (with_reducible apply CallG.plain1 [1121, 1169] (hby)) | (with_reducible apply CallG.draw1 [1121, 1169] (hby))); (focus ((try refine And.intro (leAs_of_eq rfl) ?_); (try refine And.intro (leOL_of_eq rfl) ?_); simp (maxSteps := 9999999) (disch := omega) only [go_sem]; first | done | (repeat' (first | rfl | (refine And.intro ?_ ?_))))); (focus (simp (maxSteps := 9999999) (disch := omega) only [go_sem]; rfl))) | ((first | (with_reducible apply CallG.plain1 [] (speaks05)) | (with_reducible apply CallG.plain1 [] (hrc)) | (with_reducible apply CallG.plain1 [] (hck)) | (with_reducible apply CallG.plain1 [] (hen)) | (with_reducible apply CallG.plain1 [] (newer_any a b)) | (with_reducible apply CallG.plain1 [] (rnewer_any a b)) | (with_reducible apply CallG.plain1 [] (alike_any a b)) | (with_reducible apply CallG.plain1 [] (ralike_any a b)) | (with_reducible apply CallG.plain1 [] (mark_any a)) | (with_reducible apply CallG.plain1 [] (of04_any a.act)) | (with_reducible apply CallG.plain1 [_, 0] (hlay)) | (with_reducible apply CallG.plain1 [_] (hdec)) | (with_reducible apply CallG.plain1 [] (hrb)) | (with_reducible apply CallG.plain1 [] (to05_any a)) | (with_reducible apply CallG.draw1 [] (speaks05)) | (with_reducible apply CallG.draw1 [] (hrc)) | (with_reducible apply CallG.draw1 [] (hck)) | (with_reducible apply CallG.draw1 [] (hen)) | (with_reducible apply CallG.draw1 [] (newer_any a b)) | (with_reducible apply CallG.draw1 [] (rnewer_any a b)) | (with_reducible apply CallG.draw1 [] (alike_any a b)) | (with_reducible apply CallG.draw1 [] (ralike_any a b)) | (with_reducible apply CallG.draw1 [] (mark_any a)) | (with_reducible apply CallG.draw1 [] (of04_any a.act)) | (with_reducible apply CallG.draw1 [_, 0] (hlay)) | (with_reducible apply CallG.draw1 [_] (hdec)) | (with_reducible apply CallG.draw1 [] (hrb)) | (with_reducible apply CallG.draw1 [] (to05_any a))); (focus ((try refine And.intro (leAs_of_eq rfl) ?_); (try refine And.intro (leOL_of_eq rfl) ?_); simp (maxSteps := 9999999) (disch := omega) only [go_sem]; first | done | (repeat' (first | rfl | (refine And.intro ?_ ?_))))); (focus (simp (maxSteps := 9999999) (disch := omega) only [go_sem]; rfl)))); (try simp (maxSteps := 9999999) (disch := omega) only [go_sem]); (try (refine And.intro ?_ ?_; (focus (first | omega | (simp only [go_sem]; done) | (simp; done) | (simp; omega) | assumption))))) | ((first | refine CondP.split (fun hif => ?_) (fun hif => ?_) | refine Runs.part (fun hif => ?_) (fun hif => ?_)) <;> ((try simp only [hif]); (try simp only [decide_eq_true_eq, decide_eq_false_iff_not, Bool.not_eq_true, Bool.not_eq_false, Bool.not_eq_true', Bool.not_eq_false', beq_iff_eq, bne_iff_ne, bne_eq_false_iff_eq, beq_eq_false_iff_ne, ne_eq, Bool.and_eq_true, Bool.or_eq_true, Bool.or_eq_false_iff] at hif); (try (have h9 : _ = true := hif; simp only [h9])); (try (have h9 : _ = false := hif; simp only [h9])); (try simp (maxSteps := 9999999) (disch := omega) only [go_sem]); (try (refine And.intro ?_ ?_; (focus (first | omega | (simp only [go_sem]; done) | (simp; done) | (simp; omega) | assumption)))); (try (exfalso; omega; done))))))
    all_goals (refine TopPost.of (by first | exact .inl rfl | exact .inr rfl) (by (try simp (maxSteps := 9999999) (disch := omega) only [go_sem]); rfl) ?_; (try simp (maxSteps := 9999999) (disch := omega) only [go_sem]); (try (first | trivial | decide | (simp; done))))
  · have e1 : encL a = [] := by
      unfold encL
      rw [show (checkI a == 0) = false by simpa using h]
      rfl
    rw [e1] at hen
    generalize checkI a = ck at *
    simp only [List.length_nil, bA_nil] at hen
    clear e1
    refine top_call c14_ok Try.func14 rfl Try.ntmps14 res14_ok [ EnA a, EnA b] (by simp) (by (repeat' (first | exact VRs_nil' _ | exact VR_val' _ _ | (refine VRs_cons' ?_ ?_) | (refine VR_agg' rfl ?_; simp [Value.oneCell', St.rep, En.rep])))) ?_; try simp (maxSteps := 9999999) (disch := omega) only [go_sem]
    (repeat' (first | refine AWpA.seq ?_ | refine AWpA.block ?_ | (with_reducible refine CondP.tt ?_) | (with_reducible refine CondP.ff ?_) | refine AWpA.condv (by simp (maxSteps := 9999999) (disch := omega) only [go_sem, h]; rfl) ?_ | ((first | (apply AWpA.region; (focus (simp (maxSteps := 9999999) (disch := omega) only [go_sem, h]; rfl))) | (apply AWpA.draw [] follows; (focus (simp (maxSteps := 9999999) (disch := omega) only [go_sem, h]; rfl)); (focus (simp (maxSteps := 9999999) (disch := omega) only [go_sem, h]; first | done | trivial)); (focus (simp (maxSteps := 9999999) (disch := omega) only [go_sem, h]; rfl))) | (apply TailK.go; (focus (simp (maxSteps := 9999999) (disch := omega) only [go_sem, h]; rfl))) | refine AWpA.skip ?_ | refine AWpA.exit ?_ | refine AWpA.ret ?_ | (with_reducible refine ARoundsA.succ ?_) | ((first | refine Runs.kt (by assumption) (fun h9 => ?_) | refine Runs.kf (by assumption) (fun h9 => ?_) | refine Runs.nt (by assumption) (fun h9 => ?_) | refine Runs.nf (by assumption) (fun h9 => ?_) | refine CondP.ht (by assumption) (fun h9 => ?_) | refine CondP.hf (by assumption) (fun h9 => ?_) | refine CondP.nt (by assumption) (fun h9 => ?_) | refine CondP.nf (by assumption) (fun h9 => ?_)); (try simp only [h9]); clear h9) | ((first | (with_reducible apply CallG.plain1 [] (short_any a)) | (with_reducible apply CallG.draw1 [] (short_any a))); (focus ((try refine And.intro (leAs_of_eq rfl) ?_); (try refine And.intro (leOL_of_eq rfl) ?_); simp (maxSteps := 9999999) (disch := omega) only [go_sem, h]; first | done | (repeat' (first | rfl | (refine And.intro ?_ ?_))))); (focus (simp (maxSteps := 9999999) (disch := omega) only [go_sem, h]; rfl))) | ((first | (with_reducible apply CallG.plain1 [] (short_any b)) | (with_reducible apply CallG.draw1 [] (short_any b))); (focus ((try refine And.intro (leAs_of_eq rfl) ?_); (try refine And.intro (leOL_of_eq rfl) ?_); simp (maxSteps := 9999999) (disch := omega) only [go_sem, h]; first | done | (repeat' (first | rfl | (refine And.intro ?_ ?_))))); (focus (simp (maxSteps := 9999999) (disch := omega) only [go_sem, h]; rfl))) | ((first | (with_reducible apply CallG.plain1 [] (of05_any a)) | (with_reducible apply CallG.draw1 [] (of05_any a))); (focus ((try refine And.intro (leAs_of_eq rfl) ?_); (try refine And.intro (leOL_of_eq rfl) ?_); simp (maxSteps := 9999999) (disch := omega) only [go_sem, h]; first | done | (repeat' (first | rfl | (refine And.intro ?_ ?_))))); (focus (simp (maxSteps := 9999999) (disch := omega) only [go_sem, h]; rfl))) | ((first | (with_reducible apply CallG.plain1 [] (of05_any b)) | (with_reducible apply CallG.draw1 [] (of05_any b))); (focus ((try refine And.intro (leAs_of_eq rfl) ?_); (try refine And.intro (leOL_of_eq rfl) ?_); simp (maxSteps := 9999999) (disch := omega) only [go_sem, h]; first | done | (repeat' (first | rfl | (refine And.intro ?_ ?_))))); (focus (simp (maxSteps := 9999999) (disch := omega) only [go_sem, h]; rfl))) | ((first | (with_reducible apply CallG.plain1 [] (speaks05)) | (with_reducible apply CallG.plain1 [] (hrc)) | (with_reducible apply CallG.plain1 [] (hck)) | (with_reducible apply CallG.plain1 [] (hen)) | (with_reducible apply CallG.plain1 [] (newer_any a b)) | (with_reducible apply CallG.plain1 [] (rnewer_any a b)) | (with_reducible apply CallG.plain1 [] (alike_any a b)) | (with_reducible apply CallG.plain1 [] (ralike_any a b)) | (with_reducible apply CallG.plain1 [] (mark_any a)) | (with_reducible apply CallG.plain1 [] (of04_any a.act)) | (with_reducible apply CallG.draw1 [] (speaks05)) | (with_reducible apply CallG.draw1 [] (hrc)) | (with_reducible apply CallG.draw1 [] (hck)) | (with_reducible apply CallG.draw1 [] (hen)) | (with_reducible apply CallG.draw1 [] (newer_any a b)) | (with_reducible apply CallG.draw1 [] (rnewer_any a b)) | (with_reducible apply CallG.draw1 [] (alike_any a b)) | (with_reducible apply CallG.draw1 [] (ralike_any a b)) | (with_reducible apply CallG.draw1 [] (mark_any a)) | (with_reducible apply CallG.draw1 [] (of04_any a.act))); (focus ((try refine And.intro (leAs_of_eq rfl) ?_); (try refine And.intro (leOL_of_eq rfl) ?_); simp (maxSteps := 9999999) (disch := omega) only [go_sem, h]; first | done | (repeat' (first | rfl | (refine And.intro ?_ ?_))))); (focus (simp (maxSteps := 9999999) (disch := omega) only [go_sem, h]; rfl)))); (try simp (maxSteps := 9999999) (disch := omega) only [go_sem, h]); (try (refine And.intro ?_ ?_; (focus (first | omega | (simp only [go_sem]; done) | (simp; done) | (simp; omega) | assumption))))) | ((first | refine CondP.split (fun hif => ?_) (fun hif => ?_) | refine Runs.part (fun hif => ?_) (fun hif => ?_)) <;> ((try simp only [hif]); (try simp only [decide_eq_true_eq, decide_eq_false_iff_not, Bool.not_eq_true, Bool.not_eq_false, Bool.not_eq_true', Bool.not_eq_false', beq_iff_eq, bne_iff_ne, bne_eq_false_iff_eq, beq_eq_false_iff_ne, ne_eq, Bool.and_eq_true, Bool.or_eq_true, Bool.or_eq_false_iff] at hif); (try (have h9 : _ = true := hif; simp only [h9])); (try (have h9 : _ = false := hif; simp only [h9])); (try simp (maxSteps := 9999999) (disch := omega) only [go_sem, h]); (try (refine And.intro ?_ ?_; (focus (first | omega | (simp only [go_sem]; done) | (simp; done) | (simp; omega) | assumption)))); (try (exfalso; omega; done))))))
    all_goals (refine TopPost.of (by first | exact .inl rfl | exact .inr rfl) (by (try simp (maxSteps := 9999999) (disch := omega) only [go_sem]); rfl) ?_; (try simp (maxSteps := 9999999) (disch := omega) only [go_sem]); (try (first | trivial | decide | (simp; done))))
end Go.Proofs.Yteggjhihpjjloaa
