/- EntryOrders holds: of any three versions that are newer, one than the other, the first is newer than the last; of two unlike ones one is newer. No condition. -/
import Derived.Test.YtjcjmeeajkdlhaaAc8
namespace Go.Proofs.Ytjcjmeeajkdlhaa
set_option linter.unusedSimpArgs false
set_option linter.unusedVariables false
set_option maxHeartbeats 4000000
open Go Go.Am Go.RowKit Go.ChangeShapes Go.WideShapes Go.ChangeAt
open Go.ChangeMaps (open_string shut_string)
set_option maxRecDepth 100000
def St.rep (a : St) : List Value := (fun n : Int => [.int .i64 n]) a.c ++ (fun n : Int => [.int .i64 n]) a.s
structure St.ok (W : World) (a : St) : Prop where
  c : (fun n : Int => IntKind.i64.min ≤ n ∧ n ≤ IntKind.i64.max) a.c
  s : (fun n : Int => IntKind.i64.min ≤ n ∧ n ≤ IntKind.i64.max) a.s
set_option maxRecDepth 100000 in
theorem rd_St {H : Type} {enc : TypeId × Value → H} {W : World} {base : Nat} {held : Bool} : Rd enc Try.prog W base held 23 St.rep (St.ok W) := fun n cs x h => by
  obtain ⟨xs, n1, _, _, hlen, hx, hf⟩ := DataW.trod_struct Try.underlying23 h
  rw [show Try.prog.cellsOf 23 = 2 by kernel_rfl] at hlen
  have f0 : DataW.trod enc Try.prog W base (fun _ => true) held n1 3 ((cs.drop 0).take (Try.prog.cellsOf 3)) = xs[0]? := hf 0 _ rfl
  rw [show Try.prog.cellsOf 3 = 1 by kernel_rfl] at f0
  obtain ⟨y0, h0⟩ := at_some2 hx (by decide) f0
  obtain ⟨g0, a0, e0, w0⟩ := (rd_int Try.underlying3 : Rd _ _ _ _ _ _ (fun n : Int => [.int .i64 n]) (fun n : Int => IntKind.i64.min ≤ n ∧ n ≤ IntKind.i64.max)) _ _ _ h0
  have f1 : DataW.trod enc Try.prog W base (fun _ => true) held n1 3 ((cs.drop 1).take (Try.prog.cellsOf 3)) = xs[1]? := hf 1 _ rfl
  rw [show Try.prog.cellsOf 3 = 1 by kernel_rfl] at f1
  obtain ⟨y1, h1⟩ := at_some2 hx (by decide) f1
  obtain ⟨g1, a1, e1, w1⟩ := (rd_int Try.underlying3 : Rd _ _ _ _ _ _ (fun n : Int => [.int .i64 n]) (fun n : Int => IntKind.i64.min ≤ n ∧ n ≤ IntKind.i64.max)) _ _ _ h1
  match cs, hlen with
  | [c0, c1], _ =>
    simp [Sl.rep, St.rep] at e0 g0
    simp [Sl.rep, St.rep] at e1 g1
    exact ⟨by simp [*, Value.oneCell'], ⟨a0, a1⟩, by simp [Sl.rep, St.rep, *], ⟨w0, w1⟩⟩
def En.rep (a : En) : List Value := (fun s : ByteArray => [.string s]) a.key ++ (fun s : ByteArray => [.string s]) a.val ++ (fun b : Bool => [.bool b]) a.dead ++ (St.rep) a.st ++ (St.rep) a.act ++ (fun n : Int => [.int .i64 n]) a.keep ++ (fun n : Int => [.int .i64 n]) a.age
structure En.ok (W : World) (a : En) : Prop where
  key : (fun s : ByteArray => s.size ≤ maxLen) a.key
  val : (fun s : ByteArray => s.size ≤ maxLen) a.val
  dead : (fun _ : Bool => True) a.dead
  st : (St.ok W) a.st
  act : (St.ok W) a.act
  keep : (fun n : Int => IntKind.i64.min ≤ n ∧ n ≤ IntKind.i64.max) a.keep
  age : (fun n : Int => IntKind.i64.min ≤ n ∧ n ≤ IntKind.i64.max) a.age
set_option maxRecDepth 100000 in
theorem rd_En {H : Type} {enc : TypeId × Value → H} {W : World} {base : Nat} {held : Bool} : Rd enc Try.prog W base held 25 En.rep (En.ok W) := fun n cs x h => by
  obtain ⟨xs, n1, _, _, hlen, hx, hf⟩ := DataW.trod_struct Try.underlying25 h
  rw [show Try.prog.cellsOf 25 = 9 by kernel_rfl] at hlen
  have f0 : DataW.trod enc Try.prog W base (fun _ => true) held n1 9 ((cs.drop 0).take (Try.prog.cellsOf 9)) = xs[0]? := hf 0 _ rfl
  rw [show Try.prog.cellsOf 9 = 1 by kernel_rfl] at f0
  obtain ⟨y0, h0⟩ := at_some2 hx (by decide) f0
  obtain ⟨g0, a0, e0, w0⟩ := (rd_string Try.underlying9 : Rd _ _ _ _ _ _ (fun s : ByteArray => [.string s]) (fun s : ByteArray => s.size ≤ maxLen)) _ _ _ h0
  have f1 : DataW.trod enc Try.prog W base (fun _ => true) held n1 9 ((cs.drop 1).take (Try.prog.cellsOf 9)) = xs[1]? := hf 1 _ rfl
  rw [show Try.prog.cellsOf 9 = 1 by kernel_rfl] at f1
  obtain ⟨y1, h1⟩ := at_some2 hx (by decide) f1
  obtain ⟨g1, a1, e1, w1⟩ := (rd_string Try.underlying9 : Rd _ _ _ _ _ _ (fun s : ByteArray => [.string s]) (fun s : ByteArray => s.size ≤ maxLen)) _ _ _ h1
  have f2 : DataW.trod enc Try.prog W base (fun _ => true) held n1 4 ((cs.drop 2).take (Try.prog.cellsOf 4)) = xs[2]? := hf 2 _ rfl
  rw [show Try.prog.cellsOf 4 = 1 by kernel_rfl] at f2
  obtain ⟨y2, h2⟩ := at_some2 hx (by decide) f2
  obtain ⟨g2, a2, e2, w2⟩ := (rd_bool Try.underlying4 : Rd _ _ _ _ _ _ (fun b : Bool => [.bool b]) (fun _ : Bool => True)) _ _ _ h2
  have f3 : DataW.trod enc Try.prog W base (fun _ => true) held n1 23 ((cs.drop 3).take (Try.prog.cellsOf 23)) = xs[3]? := hf 3 _ rfl
  rw [show Try.prog.cellsOf 23 = 2 by kernel_rfl] at f3
  obtain ⟨y3, h3⟩ := at_some2 hx (by decide) f3
  obtain ⟨g3, a3, e3, w3⟩ := (rd_St : Rd _ _ _ _ _ _ (St.rep) (St.ok W)) _ _ _ h3
  have f4 : DataW.trod enc Try.prog W base (fun _ => true) held n1 23 ((cs.drop 5).take (Try.prog.cellsOf 23)) = xs[4]? := hf 4 _ rfl
  rw [show Try.prog.cellsOf 23 = 2 by kernel_rfl] at f4
  obtain ⟨y4, h4⟩ := at_some2 hx (by decide) f4
  obtain ⟨g4, a4, e4, w4⟩ := (rd_St : Rd _ _ _ _ _ _ (St.rep) (St.ok W)) _ _ _ h4
  have f5 : DataW.trod enc Try.prog W base (fun _ => true) held n1 3 ((cs.drop 7).take (Try.prog.cellsOf 3)) = xs[5]? := hf 5 _ rfl
  rw [show Try.prog.cellsOf 3 = 1 by kernel_rfl] at f5
  obtain ⟨y5, h5⟩ := at_some2 hx (by decide) f5
  obtain ⟨g5, a5, e5, w5⟩ := (rd_int Try.underlying3 : Rd _ _ _ _ _ _ (fun n : Int => [.int .i64 n]) (fun n : Int => IntKind.i64.min ≤ n ∧ n ≤ IntKind.i64.max)) _ _ _ h5
  have f6 : DataW.trod enc Try.prog W base (fun _ => true) held n1 3 ((cs.drop 8).take (Try.prog.cellsOf 3)) = xs[6]? := hf 6 _ rfl
  rw [show Try.prog.cellsOf 3 = 1 by kernel_rfl] at f6
  obtain ⟨y6, h6⟩ := at_some2 hx (by decide) f6
  obtain ⟨g6, a6, e6, w6⟩ := (rd_int Try.underlying3 : Rd _ _ _ _ _ _ (fun n : Int => [.int .i64 n]) (fun n : Int => IntKind.i64.min ≤ n ∧ n ≤ IntKind.i64.max)) _ _ _ h6
  match cs, hlen with
  | [c0, c1, c2, c3, c4, c5, c6, c7, c8], _ =>
    simp [Sl.rep, St.rep, En.rep] at e0 g0
    simp [Sl.rep, St.rep, En.rep] at e1 g1
    simp [Sl.rep, St.rep, En.rep] at e2 g2
    simp [Sl.rep, St.rep, En.rep] at e3 g3
    simp [Sl.rep, St.rep, En.rep] at e4 g4
    simp [Sl.rep, St.rep, En.rep] at e5 g5
    simp [Sl.rep, St.rep, En.rep] at e6 g6
    exact ⟨by simp [*, Value.oneCell'], ⟨a0, a1, a2, a3, a4, a5, a6⟩, by simp [Sl.rep, St.rep, En.rep, *], ⟨w0, w1, w2, w3, w4, w5, w6⟩⟩
theorem newer_irr (a : En) : newerB a a = false := by unfold newerB eqSt laterB; grind
theorem newer_asym (a b : En) : newerB a b = true → newerB b a = false := by unfold newerB eqSt laterB; grind
theorem newer_trans (a b c : En) : newerB a b = true → newerB b c = true → newerB a c = true := by unfold newerB eqSt laterB; grind
theorem newer_tot (a b : En) : (eqSt a.st b.st = false ∨ eqSt a.act b.act = false) → newerB a b = false → newerB b a = true := by unfold newerB eqSt laterB; grind
/- quidnunc/quidnunclaw05.EntryOrders -/
noncomputable def c9_1 : ACode := .region false [⟨some 3, .box 0, [.t 0], none⟩,
  ⟨some 4, .box 0, [.t 1], none⟩,
  ⟨some 5, .box 0, [.t 2], none⟩,
  ⟨some 6, .move, [.c (.val (.bool false))], none⟩] [] [3, 4, 5] true []
noncomputable def c9_4 : ACode := .region false [⟨some 10, .call 15, [], none⟩,
  ⟨some 11, .un .not, [.t 10], none⟩,
  ⟨some 12, .move, [.t 11], none⟩,
  ⟨some 13, .load true 9, [.t 3], some (some 12, false)⟩,
  ⟨some 14, .call 48, [.t 13], some (some 12, false)⟩,
  ⟨some 15, .un .not, [.t 14], some (some 12, false)⟩,
  ⟨some 16, .pick, [.t 12, .c (.val (.bool true)), .t 15], none⟩,
  ⟨some 17, .move, [.t 16], none⟩,
  ⟨some 18, .load true 9, [.t 4], some (some 17, false)⟩,
  ⟨some 19, .call 48, [.t 18], some (some 17, false)⟩,
  ⟨some 20, .un .not, [.t 19], some (some 17, false)⟩,
  ⟨some 21, .pick, [.t 17, .c (.val (.bool true)), .t 20], none⟩,
  ⟨some 22, .move, [.t 21], none⟩,
  ⟨some 23, .load true 9, [.t 5], some (some 22, false)⟩,
  ⟨some 24, .call 48, [.t 23], some (some 22, false)⟩,
  ⟨some 25, .un .not, [.t 24], some (some 22, false)⟩,
  ⟨some 26, .pick, [.t 22, .c (.val (.bool true)), .t 25], none⟩] [] [3, 4, 5, 26] true []
noncomputable def c9_7 : ACode := .region false [⟨some 27, .call 15, [], none⟩,
  ⟨some 6, .move, [.t 27], none⟩] [] [6] true []
noncomputable def c9_6 : ACode := .seq c9_7 .ret
noncomputable def c9_5 : ACode := .cond (.t 26) c9_6 .skip
noncomputable def c9_3 : ACode := .seq c9_4 c9_5
noncomputable def c9_9 : ACode := .region true [⟨some 28, .load true 9, [.t 3], none⟩,
  ⟨some 29, .call 20, [.t 28], none⟩,
  ⟨some 30, .load true 9, [.t 4], none⟩,
  ⟨some 31, .call 20, [.t 30], none⟩,
  ⟨some 32, .load true 9, [.t 5], none⟩,
  ⟨some 33, .call 20, [.t 32], none⟩,
  ⟨some 7, .alloc [(.string ⟨#[]⟩), (.string ⟨#[]⟩), (.bool false), (.int .i64 0), (.int .i64 0), (.int .i64 0), (.int .i64 0), (.int .i64 0), (.int .i64 0)], [], none⟩,
  ⟨some 8, .alloc [(.string ⟨#[]⟩), (.string ⟨#[]⟩), (.bool false), (.int .i64 0), (.int .i64 0), (.int .i64 0), (.int .i64 0), (.int .i64 0), (.int .i64 0)], [], none⟩,
  ⟨some 9, .alloc [(.string ⟨#[]⟩), (.string ⟨#[]⟩), (.bool false), (.int .i64 0), (.int .i64 0), (.int .i64 0), (.int .i64 0), (.int .i64 0), (.int .i64 0)], [], none⟩,
  ⟨none, .store 9, [.t 7, .t 29], none⟩,
  ⟨none, .store 9, [.t 8, .t 31], none⟩,
  ⟨none, .store 9, [.t 9, .t 33], none⟩] [(1, 6), (1, 7), (1, 8), (3, 6), (3, 7), (3, 8), (5, 6), (5, 7), (5, 8)] [3, 4, 7, 8, 9] true []
noncomputable def c9_12 : ACode := .region false [⟨some 34, .load true 9, [.t 7], none⟩,
  ⟨some 35, .load true 9, [.t 8], none⟩,
  ⟨some 36, .call 49, [.t 34, .t 35], none⟩,
  ⟨some 37, .move, [.t 36], none⟩,
  ⟨some 38, .load true 9, [.t 8], some (some 37, true)⟩,
  ⟨some 39, .load true 9, [.t 7], some (some 37, true)⟩,
  ⟨some 40, .call 49, [.t 38, .t 39], some (some 37, true)⟩,
  ⟨some 41, .pick, [.t 37, .t 40, .c (.val (.bool false))], none⟩,
  ⟨some 42, .move, [.t 41], none⟩,
  ⟨some 43, .load true 9, [.t 7], some (some 42, false)⟩,
  ⟨some 44, .load true 9, [.t 7], some (some 42, false)⟩,
  ⟨some 45, .call 49, [.t 43, .t 44], some (some 42, false)⟩,
  ⟨some 46, .pick, [.t 42, .c (.val (.bool true)), .t 45], none⟩] [] [3, 4, 7, 8, 9, 46] true []
noncomputable def c9_15 : ACode := .region false [⟨some 6, .move, [.c (.val (.bool false))], none⟩] [] [6] false []
noncomputable def c9_14 : ACode := .seq c9_15 .ret
noncomputable def c9_13 : ACode := .cond (.t 46) c9_14 .skip
noncomputable def c9_11 : ACode := .seq c9_12 c9_13
noncomputable def c9_18 : ACode := .region false [⟨some 47, .load true 9, [.t 7], none⟩,
  ⟨some 48, .load true 9, [.t 8], none⟩,
  ⟨some 49, .call 49, [.t 47, .t 48], none⟩,
  ⟨some 50, .move, [.t 49], none⟩,
  ⟨some 51, .load true 9, [.t 8], some (some 50, true)⟩,
  ⟨some 52, .load true 9, [.t 9], some (some 50, true)⟩,
  ⟨some 53, .call 49, [.t 51, .t 52], some (some 50, true)⟩,
  ⟨some 54, .pick, [.t 50, .t 53, .c (.val (.bool false))], none⟩,
  ⟨some 55, .move, [.t 54], none⟩,
  ⟨some 56, .load true 9, [.t 7], some (some 55, true)⟩,
  ⟨some 57, .load true 9, [.t 9], some (some 55, true)⟩,
  ⟨some 58, .call 49, [.t 56, .t 57], some (some 55, true)⟩,
  ⟨some 59, .un .not, [.t 58], some (some 55, true)⟩,
  ⟨some 60, .pick, [.t 55, .t 59, .c (.val (.bool false))], none⟩] [] [3, 4, 7, 8, 60] true []
noncomputable def c9_21 : ACode := .region false [⟨some 6, .move, [.c (.val (.bool false))], none⟩] [] [6] false []
noncomputable def c9_20 : ACode := .seq c9_21 .ret
noncomputable def c9_19 : ACode := .cond (.t 60) c9_20 .skip
noncomputable def c9_17 : ACode := .seq c9_18 c9_19
noncomputable def c9_23 : ACode := .region false [⟨some 61, .addr 3, [.t 3], none⟩,
  ⟨some 62, .load true 2, [.t 61], none⟩,
  ⟨some 63, .addr 3, [.t 4], none⟩,
  ⟨some 64, .load true 2, [.t 63], none⟩,
  ⟨some 65, .eqA false [(0, 0), (1, 0)], [.t 62, .t 64], none⟩,
  ⟨some 66, .move, [.t 65], none⟩,
  ⟨some 67, .addr 5, [.t 3], some (some 66, true)⟩,
  ⟨some 68, .load true 2, [.t 67], some (some 66, true)⟩,
  ⟨some 69, .addr 5, [.t 4], some (some 66, true)⟩,
  ⟨some 70, .load true 2, [.t 69], some (some 66, true)⟩,
  ⟨some 71, .eqA false [(0, 0), (1, 0)], [.t 68, .t 70], some (some 66, true)⟩,
  ⟨some 72, .pick, [.t 66, .t 71, .c (.val (.bool false))], none⟩,
  ⟨some 73, .move, [.t 72], none⟩,
  ⟨some 74, .load true 9, [.t 7], some (some 73, false)⟩,
  ⟨some 75, .load true 9, [.t 8], some (some 73, false)⟩,
  ⟨some 76, .call 49, [.t 74, .t 75], some (some 73, false)⟩,
  ⟨some 77, .pick, [.t 73, .c (.val (.bool true)), .t 76], none⟩,
  ⟨some 78, .move, [.t 77], none⟩,
  ⟨some 79, .load true 9, [.t 8], some (some 78, false)⟩,
  ⟨some 80, .load true 9, [.t 7], some (some 78, false)⟩,
  ⟨some 81, .call 49, [.t 79, .t 80], some (some 78, false)⟩,
  ⟨some 82, .pick, [.t 78, .c (.val (.bool true)), .t 81], none⟩,
  ⟨some 6, .move, [.t 82], none⟩] [] [6] true []
noncomputable def c9_22 : ACode := .seq c9_23 .ret
noncomputable def c9_16 : ACode := .seq c9_17 c9_22
noncomputable def c9_10 : ACode := .seq c9_11 c9_16
noncomputable def c9_8 : ACode := .seq c9_9 c9_10
noncomputable def c9_2 : ACode := .seq c9_3 c9_8
noncomputable def c9_0 : ACode := .seq c9_1 c9_2
noncomputable def code9 : Code := (Try.f9.body).getD .skip
theorem c9_ok : compC Try.prog 83 code9 = some (strip c9_0) := by kernel_rfl
theorem res9_ok : Try.f9.results.toList.mapM (resC Try.prog) = some [(6, none)] := by kernel_rfl
theorem eorders_walk (W : World) (a b c : En) :
    Calls Try.prog 9 #[.agg a.rep.toArray, .agg b.rep.toArray, .agg c.rep.toArray] W fun e W' => e = .returned (.bool true) ∧ Below W.heap.size W W' := by
  refine top_call c9_ok Try.func9 rfl Try.ntmps9 res9_ok [ EnA a, EnA b, EnA c] (by simp) (by (repeat' (first | exact VRs_nil' _ | exact VR_val' _ _ | (refine VRs_cons' ?_ ?_) | (refine VR_agg' rfl ?_; simp [Value.oneCell', St.rep, En.rep])))) ?_; try simp (maxSteps := 9999999) (disch := omega) only [go_sem, Nat.reduceAdd, Nat.reduceMul, Nat.reduceSub, Nat.reduceLT, Nat.reduceLeDiff, Nat.reduceEqDiff, Int.reduceLT, Int.reduceLE, Int.reduceAdd, Int.reduceSub, Int.reduceNeg, Int.reduceToNat, Int.reduceEq, Int.reduceBEq, Int.reduceBNe, Int.reduceMul, reduceCtorEq]
  (repeat' (first | (refine AWpA.seq ?_) | (apply AWpA.region; (focus (simp (maxSteps := 9999999) (disch := omega) only [go_sem, Nat.reduceAdd, Nat.reduceMul, Nat.reduceSub, Nat.reduceLT, Nat.reduceLeDiff, Nat.reduceEqDiff, Int.reduceLT, Int.reduceLE, Int.reduceAdd, Int.reduceSub, Int.reduceNeg, Int.reduceToNat, Int.reduceEq, Int.reduceBEq, Int.reduceBNe, Int.reduceMul, reduceCtorEq, newer_irr]; rfl)); (try simp (maxSteps := 9999999) (disch := omega) only [go_sem, Nat.reduceAdd, Nat.reduceMul, Nat.reduceSub, Nat.reduceLT, Nat.reduceLeDiff, Nat.reduceEqDiff, Int.reduceLT, Int.reduceLE, Int.reduceAdd, Int.reduceSub, Int.reduceNeg, Int.reduceToNat, Int.reduceEq, Int.reduceBEq, Int.reduceBNe, Int.reduceMul, reduceCtorEq, newer_irr]); (try (refine And.intro ?_ ?_; (focus (first | omega | (simp only [go_sem]; done) | (simp; done) | (simp; omega) | assumption))))) | (apply AWpA.draw [] follows; (focus (simp (maxSteps := 9999999) (disch := omega) only [go_sem, Nat.reduceAdd, Nat.reduceMul, Nat.reduceSub, Nat.reduceLT, Nat.reduceLeDiff, Nat.reduceEqDiff, Int.reduceLT, Int.reduceLE, Int.reduceAdd, Int.reduceSub, Int.reduceNeg, Int.reduceToNat, Int.reduceEq, Int.reduceBEq, Int.reduceBNe, Int.reduceMul, reduceCtorEq, newer_irr]; rfl)); (focus (simp (maxSteps := 9999999) (disch := omega) only [go_sem, Nat.reduceAdd, Nat.reduceMul, Nat.reduceSub, Nat.reduceLT, Nat.reduceLeDiff, Nat.reduceEqDiff, Int.reduceLT, Int.reduceLE, Int.reduceAdd, Int.reduceSub, Int.reduceNeg, Int.reduceToNat, Int.reduceEq, Int.reduceBEq, Int.reduceBNe, Int.reduceMul, reduceCtorEq, newer_irr]; first | done | trivial)); (focus (simp (maxSteps := 9999999) (disch := omega) only [go_sem, Nat.reduceAdd, Nat.reduceMul, Nat.reduceSub, Nat.reduceLT, Nat.reduceLeDiff, Nat.reduceEqDiff, Int.reduceLT, Int.reduceLE, Int.reduceAdd, Int.reduceSub, Int.reduceNeg, Int.reduceToNat, Int.reduceEq, Int.reduceBEq, Int.reduceBNe, Int.reduceMul, reduceCtorEq, newer_irr]; rfl)); (try simp (maxSteps := 9999999) (disch := omega) only [go_sem, Nat.reduceAdd, Nat.reduceMul, Nat.reduceSub, Nat.reduceLT, Nat.reduceLeDiff, Nat.reduceEqDiff, Int.reduceLT, Int.reduceLE, Int.reduceAdd, Int.reduceSub, Int.reduceNeg, Int.reduceToNat, Int.reduceEq, Int.reduceBEq, Int.reduceBNe, Int.reduceMul, reduceCtorEq, newer_irr]); (try (refine And.intro ?_ ?_; (focus (first | omega | (simp only [go_sem]; done) | (simp; done) | (simp; omega) | assumption))))) | (refine AWpA.condv (by simp (maxSteps := 9999999) (disch := omega) only [go_sem, Nat.reduceAdd, Nat.reduceMul, Nat.reduceSub, Nat.reduceLT, Nat.reduceLeDiff, Nat.reduceEqDiff, Int.reduceLT, Int.reduceLE, Int.reduceAdd, Int.reduceSub, Int.reduceNeg, Int.reduceToNat, Int.reduceEq, Int.reduceBEq, Int.reduceBNe, Int.reduceMul, reduceCtorEq, newer_irr]; rfl) ?_; (first | (with_reducible refine CondP.tt ?_) | (with_reducible refine CondP.ff ?_) | ((first | refine CondP.ht (by assumption) (fun h9 => ?_) | refine CondP.hf (by assumption) (fun h9 => ?_) | refine CondP.nt (by assumption) (fun h9 => ?_) | refine CondP.nf (by assumption) (fun h9 => ?_)); (try simp only [h9]); clear h9) | (refine CondP.split (fun hif => ?_) (fun hif => ?_) <;> ((try simp only [hif]); (try simp only [decide_eq_true_eq, decide_eq_false_iff_not, Bool.not_eq_true, Bool.not_eq_false, Bool.not_eq_true', Bool.not_eq_false', beq_iff_eq, bne_iff_ne, bne_eq_false_iff_eq, beq_eq_false_iff_ne, ne_eq, Bool.and_eq_true, Bool.or_eq_true, Bool.or_eq_false_iff] at hif); (try (have h9 : _ = true := hif; simp only [h9])); (try (have h9 : _ = false := hif; simp only [h9])); (try simp (maxSteps := 9999999) (disch := omega) only [go_sem, Nat.reduceAdd, Nat.reduceMul, Nat.reduceSub, Nat.reduceLT, Nat.reduceLeDiff, Nat.reduceEqDiff, Int.reduceLT, Int.reduceLE, Int.reduceAdd, Int.reduceSub, Int.reduceNeg, Int.reduceToNat, Int.reduceEq, Int.reduceBEq, Int.reduceBNe, Int.reduceMul, reduceCtorEq, newer_irr]); (try (refine And.intro ?_ ?_; (focus (first | omega | (simp only [go_sem]; done) | (simp; done) | (simp; omega) | assumption)))); (try (exfalso; omega; done)))))) | (refine AWpA.block ?_) | ((first | refine AWpA.skip ?_ | refine AWpA.exit ?_ | refine AWpA.ret ?_ | (with_reducible refine ARoundsA.succ ?_)); (try simp (maxSteps := 9999999) (disch := omega) only [go_sem, Nat.reduceAdd, Nat.reduceMul, Nat.reduceSub, Nat.reduceLT, Nat.reduceLeDiff, Nat.reduceEqDiff, Int.reduceLT, Int.reduceLE, Int.reduceAdd, Int.reduceSub, Int.reduceNeg, Int.reduceToNat, Int.reduceEq, Int.reduceBEq, Int.reduceBNe, Int.reduceMul, reduceCtorEq, newer_irr])) | ((first | refine Runs.kt (by assumption) (fun h9 => ?_) | refine Runs.kf (by assumption) (fun h9 => ?_) | refine Runs.nt (by assumption) (fun h9 => ?_) | refine Runs.nf (by assumption) (fun h9 => ?_)); (try simp only [h9]); clear h9; (try simp (maxSteps := 9999999) (disch := omega) only [go_sem, Nat.reduceAdd, Nat.reduceMul, Nat.reduceSub, Nat.reduceLT, Nat.reduceLeDiff, Nat.reduceEqDiff, Int.reduceLT, Int.reduceLE, Int.reduceAdd, Int.reduceSub, Int.reduceNeg, Int.reduceToNat, Int.reduceEq, Int.reduceBEq, Int.reduceBNe, Int.reduceMul, reduceCtorEq, newer_irr]); (try (refine And.intro ?_ ?_; (focus (first | omega | (simp only [go_sem]; done) | (simp; done) | (simp; omega) | assumption))))) | (refine Runs.part (fun hif => ?_) (fun hif => ?_) <;> ((try simp only [hif]); (try simp only [decide_eq_true_eq, decide_eq_false_iff_not, Bool.not_eq_true, Bool.not_eq_false, Bool.not_eq_true', Bool.not_eq_false', beq_iff_eq, bne_iff_ne, bne_eq_false_iff_eq, beq_eq_false_iff_ne, ne_eq, Bool.and_eq_true, Bool.or_eq_true, Bool.or_eq_false_iff] at hif); (try (have h9 : _ = true := hif; simp only [h9])); (try (have h9 : _ = false := hif; simp only [h9])); (try simp (maxSteps := 9999999) (disch := omega) only [go_sem, Nat.reduceAdd, Nat.reduceMul, Nat.reduceSub, Nat.reduceLT, Nat.reduceLeDiff, Nat.reduceEqDiff, Int.reduceLT, Int.reduceLE, Int.reduceAdd, Int.reduceSub, Int.reduceNeg, Int.reduceToNat, Int.reduceEq, Int.reduceBEq, Int.reduceBNe, Int.reduceMul, reduceCtorEq, newer_irr]); (try (refine And.intro ?_ ?_; (focus (first | omega | (simp only [go_sem]; done) | (simp; done) | (simp; omega) | assumption)))); (try (exfalso; omega; done)))) | ((first | (with_reducible apply CallG.plain1 [] (speaks05)) | (with_reducible apply CallG.plain1 [] (short_any _)) | (with_reducible apply CallG.plain1 [] (of05_any _)) | (with_reducible apply CallG.plain1 [] (newer_any _ _)) | (with_reducible apply CallG.draw1 [] (speaks05)) | (with_reducible apply CallG.draw1 [] (short_any _)) | (with_reducible apply CallG.draw1 [] (of05_any _)) | (with_reducible apply CallG.draw1 [] (newer_any _ _))); (focus ((try refine And.intro (leAs_of_eq rfl) ?_); (try refine And.intro (leOL_of_eq rfl) ?_); simp (maxSteps := 9999999) (disch := omega) only [go_sem, Nat.reduceAdd, Nat.reduceMul, Nat.reduceSub, Nat.reduceLT, Nat.reduceLeDiff, Nat.reduceEqDiff, Int.reduceLT, Int.reduceLE, Int.reduceAdd, Int.reduceSub, Int.reduceNeg, Int.reduceToNat, Int.reduceEq, Int.reduceBEq, Int.reduceBNe, Int.reduceMul, reduceCtorEq, newer_irr]; first | done | (repeat' (first | rfl | (refine And.intro ?_ ?_))))); (focus (simp (maxSteps := 9999999) (disch := omega) only [go_sem, Nat.reduceAdd, Nat.reduceMul, Nat.reduceSub, Nat.reduceLT, Nat.reduceLeDiff, Nat.reduceEqDiff, Int.reduceLT, Int.reduceLE, Int.reduceAdd, Int.reduceSub, Int.reduceNeg, Int.reduceToNat, Int.reduceEq, Int.reduceBEq, Int.reduceBNe, Int.reduceMul, reduceCtorEq, newer_irr]; rfl)); (try simp (maxSteps := 9999999) (disch := omega) only [go_sem, Nat.reduceAdd, Nat.reduceMul, Nat.reduceSub, Nat.reduceLT, Nat.reduceLeDiff, Nat.reduceEqDiff, Int.reduceLT, Int.reduceLE, Int.reduceAdd, Int.reduceSub, Int.reduceNeg, Int.reduceToNat, Int.reduceEq, Int.reduceBEq, Int.reduceBNe, Int.reduceMul, reduceCtorEq, newer_irr]); (try (refine And.intro ?_ ?_; (focus (first | omega | (simp only [go_sem]; done) | (simp; done) | (simp; omega) | assumption)))))))
  all_goals first
    | ((refine TopPost.of (by first | exact .inl rfl | exact .inr rfl) (by simp (maxSteps := 9999999) (disch := omega) only [go_sem, Nat.reduceAdd, Nat.reduceMul, Nat.reduceSub, Nat.reduceLT, Nat.reduceLeDiff, Nat.reduceEqDiff, Int.reduceLT, Int.reduceLE, Int.reduceAdd, Int.reduceSub, Int.reduceNeg, Int.reduceToNat, Int.reduceEq, Int.reduceBEq, Int.reduceBNe, Int.reduceMul, reduceCtorEq]; rfl) ?_; simp (maxSteps := 9999999) (disch := omega) only [go_sem, Nat.reduceAdd, Nat.reduceMul, Nat.reduceSub, Nat.reduceLT, Nat.reduceLeDiff, Nat.reduceEqDiff, Int.reduceLT, Int.reduceLE, Int.reduceAdd, Int.reduceSub, Int.reduceNeg, Int.reduceToNat, Int.reduceEq, Int.reduceBEq, Int.reduceBNe, Int.reduceMul, reduceCtorEq]; (try (first | trivial | decide | (simp; done)))); done)
    | (exfalso; have h1 := newer_asym a b; have h2 := newer_trans a b c; simp_all; done)
    | (have h3 := newer_tot a b; simp [eqSt, *] at h3; (refine TopPost.of (by first | exact .inl rfl | exact .inr rfl) (by simp (maxSteps := 9999999) (disch := omega) only [go_sem, Nat.reduceAdd, Nat.reduceMul, Nat.reduceSub, Nat.reduceLT, Nat.reduceLeDiff, Nat.reduceEqDiff, Int.reduceLT, Int.reduceLE, Int.reduceAdd, Int.reduceSub, Int.reduceNeg, Int.reduceToNat, Int.reduceEq, Int.reduceBEq, Int.reduceBNe, Int.reduceMul, reduceCtorEq, h3]; rfl) ?_; simp (maxSteps := 9999999) (disch := omega) only [go_sem, Nat.reduceAdd, Nat.reduceMul, Nat.reduceSub, Nat.reduceLT, Nat.reduceLeDiff, Nat.reduceEqDiff, Int.reduceLT, Int.reduceLE, Int.reduceAdd, Int.reduceSub, Int.reduceNeg, Int.reduceToNat, Int.reduceEq, Int.reduceBEq, Int.reduceBNe, Int.reduceMul, reduceCtorEq, h3]; (try (first | trivial | decide | (simp; done)))); done)
    | trace_state
set_option maxRecDepth 100000 in
theorem lifted_entryOrders (os : Os) (started : os.Started) (H : Type) (enc : TypeId × Value → H) :
    ReturnsInHanded {} Try.checked os 9 .any (Rows.entryOrdersSpec.pre6 enc Try.prog Try.f9 Rows.entryOrdersRow.domain false) (Rows.entryOrdersSpec.post enc Try.prog Try.f9 false true false false) := by
  refine returnsInHanded_of_change (C := Try.checked) (by kernel_rfl) started (by kernel_rfl) Try.func9
    (ChangeSpec.witness6 (enc := enc) (C := Try.checked) false ⟨#[], #[.agg #[.string ByteArray.empty, .string ByteArray.empty, .bool false, .int .i64 0, .int .i64 0, .int .i64 0, .int .i64 0, .int .i64 0, .int .i64 0], .agg #[.string ByteArray.empty, .string ByteArray.empty, .bool false, .int .i64 0, .int .i64 0, .int .i64 0, .int .i64 0, .int .i64 0, .int .i64 0], .agg #[.string ByteArray.empty, .string ByteArray.empty, .bool false, .int .i64 0, .int .i64 0, .int .i64 0, .int .i64 0, .int .i64 0, .int .i64 0]], []⟩ 8 (by kernel_rfl) (by kernel_rfl) (by kernel_rfl) (by kernel_rfl)) ?_
  intro W base args ds gs before hval0 hW hcnd _
  have hval : ∀ (j : Nat) t v, Try.f9.params[j]? = some t → args[j]? = some v → Value.okWide Try.prog W .any base t v := hval0
  have hW' := hW
  obtain ⟨p, q, hA0, hV, rfl, hfz, hnd⟩ := hW
  have hA : DataW.TrodAll enc Try.prog W 0 (fun _ => true) true Try.f9.params.toList args.toList ds p := hA0
  rw [Try.params9] at hA hval
  obtain ⟨v0, vs0, d0, ds0, p0, q0, hargs, rfl, rfl, h0, r0⟩ := trodAll_cons hA
  obtain ⟨v1, vs1, d1, ds1, p1, q1, rfl, rfl, rfl, h1, r1⟩ := trodAll_cons r0
  obtain ⟨v2, vs2, d2, ds2, p2, q2, rfl, rfl, rfl, h2, r2⟩ := trodAll_cons r1
  obtain ⟨rfl, rfl, rfl⟩ := trodAll_nil r2
  obtain rfl : args = #[v0, v1, v2] := by cases args; simp_all
  obtain ⟨rfl, rfl⟩ := trodVars_none hV
  have lt0 : ∀ x ∈ p0, x.block < W.heap.size := by obtain ⟨m, hm⟩ := h0; exact DataW.trod_lt m _ _ _ hm
  have k0 := h0
  obtain ⟨a0, e0, w0, z0⟩ := rd_open (rd_En) h0
  obtain ⟨n0, rfl, -⟩ := okWide_struct Try.underlying25 (hval 0 25 v0 rfl rfl)
  obtain rfl : n0 = (En.rep a0).toArray := by apply Array.ext'; simpa [Value.cells] using e0
  clear e0
  have lt1 : ∀ x ∈ p1, x.block < W.heap.size := by obtain ⟨m, hm⟩ := h1; exact DataW.trod_lt m _ _ _ hm
  have k1 := h1
  obtain ⟨a1, e1, w1, z1⟩ := rd_open (rd_En) h1
  obtain ⟨n1, rfl, -⟩ := okWide_struct Try.underlying25 (hval 1 25 v1 rfl rfl)
  obtain rfl : n1 = (En.rep a1).toArray := by apply Array.ext'; simpa [Value.cells] using e1
  clear e1
  have lt2 : ∀ x ∈ p2, x.block < W.heap.size := by obtain ⟨m, hm⟩ := h2; exact DataW.trod_lt m _ _ _ hm
  have k2 := h2
  obtain ⟨a2, e2, w2, z2⟩ := rd_open (rd_En) h2
  obtain ⟨n2, rfl, -⟩ := okWide_struct Try.underlying25 (hval 2 25 v2 rfl rfl)
  obtain rfl : n2 = (En.rep a2).toArray := by apply Array.ext'; simpa [Value.cells] using e2
  clear e2
  clear hA0 hval0
  refine (eorders_walk W a0 a1 a2).mono fun r W' ⟨he, bel⟩ => ?_
  subst he
  exact ⟨_, rfl, _, _, _, [], _, [], hW', trodAll_mk1 (shut_bool Try.underlying4 _), (trodAll_cons_mk (Below.trod (show laidOutB Try.prog = true by kernel_rfl) (by kernel_rfl) (of_decide_eq_true (by kernel_rfl)) k0 bel lt0) (trodAll_cons_mk (Below.trod (show laidOutB Try.prog = true by kernel_rfl) (by kernel_rfl) (of_decide_eq_true (by kernel_rfl)) k1 bel lt1) (trodAll_cons_mk (Below.trod (show laidOutB Try.prog = true by kernel_rfl) (by kernel_rfl) (of_decide_eq_true (by kernel_rfl)) k2 bel lt2) trodAll_mk0))), rfl, bel.frame _, fun h => by cases h⟩

theorem entryOrders_holds : Rows.EntryOrdersSaid :=
  OpenClaim.holds_of_wide 9 Try.f9 rfl rfl rfl rfl rfl rfl rfl ⟨rfl, rfl, rfl, rfl, rfl⟩ rfl rfl rfl rfl rfl (by kernel_rfl) Try.func9 (by kernel_rfl)
    (of_decide_eq_true (by kernel_rfl)) (by unfold Func.isWrapper; first | (rw [if_pos (by decide +kernel)]; kernel_rfl) | (rw [if_neg (by decide +kernel)]; exact ⟨rfl, rfl⟩))
    (fun os started H enc _ => lifted_entryOrders os started H enc)
#print axioms entryOrders_holds
end Go.Proofs.Ytjcjmeeajkdlhaa
