/- The walk of FrameTells. -/
import Derived.Test.YthbpdmlbfnjoiaaAf6
namespace Go.Proofs.Ythbpdmlbfnjoiaa
set_option linter.unusedSimpArgs false
set_option linter.unusedVariables false
set_option maxHeartbeats 4000000
open Go Go.Am Go.RowKit Go.ChangeShapes Go.WideShapes Go.ChangeAt Go.Crc
set_option maxRecDepth 100000
structure FrS where
  fr : Int
  too : Int
  kd : Int
  bd : Sl (Int)
def FrS.rep (a : FrS) : List Value := (fun n : Int => [.int .i64 n]) a.fr ++ (fun n : Int => [.int .i64 n]) a.too ++ (fun n : Int => [.int .i64 n]) a.kd ++ (fun s : Sl (Int) => s.rep) a.bd
structure FrS.ok (W : World) (a : FrS) : Prop where
  fr : (fun n : Int => IntKind.i64.min ≤ n ∧ n ≤ IntKind.i64.max) a.fr
  too : (fun n : Int => IntKind.i64.min ≤ n ∧ n ≤ IntKind.i64.max) a.too
  kd : (fun n : Int => IntKind.i64.min ≤ n ∧ n ≤ IntKind.i64.max) a.kd
  bd : (Sl.ok W 1 (fun n : Int => [.int .u8 n]) (fun n : Int => IntKind.u8.min ≤ n ∧ n ≤ IntKind.u8.max)) a.bd
set_option maxRecDepth 100000 in
theorem rd_FrS {H : Type} {enc : TypeId × Value → H} {W : World} {base : Nat} {held : Bool} : Rd enc Try.prog W base held 46 FrS.rep (FrS.ok W) := fun n cs x h => by
  obtain ⟨xs, n1, _, _, hlen, hx, hf⟩ := DataW.trod_struct Try.underlying46 h
  rw [show Try.prog.cellsOf 46 = 4 by kernel_rfl] at hlen
  have f0 : DataW.trod enc Try.prog W base (fun _ => true) held n1 3 ((cs.drop 0).take (Try.prog.cellsOf 3)) = xs[0]? := hf 0 _ rfl
  rw [show Try.prog.cellsOf 3 = 1 by kernel_rfl] at f0
  obtain ⟨y0, h0⟩ := at_some2 hx (by decide) f0
  obtain ⟨g0, a0, e0, w0⟩ := (rd_int Try.underlying3 : Rd _ _ _ _ _ _ (fun n : Int => [.int .i64 n]) (fun n : Int => IntKind.i64.min ≤ n ∧ n ≤ IntKind.i64.max)) _ _ _ h0
  have f1 : DataW.trod enc Try.prog W base (fun _ => true) held n1 3 ((cs.drop 1).take (Try.prog.cellsOf 3)) = xs[1]? := hf 1 _ rfl
  rw [show Try.prog.cellsOf 3 = 1 by kernel_rfl] at f1
  obtain ⟨y1, h1⟩ := at_some2 hx (by decide) f1
  obtain ⟨g1, a1, e1, w1⟩ := (rd_int Try.underlying3 : Rd _ _ _ _ _ _ (fun n : Int => [.int .i64 n]) (fun n : Int => IntKind.i64.min ≤ n ∧ n ≤ IntKind.i64.max)) _ _ _ h1
  have f2 : DataW.trod enc Try.prog W base (fun _ => true) held n1 3 ((cs.drop 2).take (Try.prog.cellsOf 3)) = xs[2]? := hf 2 _ rfl
  rw [show Try.prog.cellsOf 3 = 1 by kernel_rfl] at f2
  obtain ⟨y2, h2⟩ := at_some2 hx (by decide) f2
  obtain ⟨g2, a2, e2, w2⟩ := (rd_int Try.underlying3 : Rd _ _ _ _ _ _ (fun n : Int => [.int .i64 n]) (fun n : Int => IntKind.i64.min ≤ n ∧ n ≤ IntKind.i64.max)) _ _ _ h2
  have f3 : DataW.trod enc Try.prog W base (fun _ => true) held n1 22 ((cs.drop 3).take (Try.prog.cellsOf 22)) = xs[3]? := hf 3 _ rfl
  rw [show Try.prog.cellsOf 22 = 1 by kernel_rfl] at f3
  obtain ⟨y3, h3⟩ := at_some2 hx (by decide) f3
  obtain ⟨g3, a3, e3, w3⟩ := (rd_slice Try.underlying22 (show Try.prog.cellsOf 5 = 1 by kernel_rfl) (by decide) (rd_int Try.underlying5) : Rd _ _ _ _ _ _ (fun s : Sl (Int) => s.rep) (Sl.ok W 1 (fun n : Int => [.int .u8 n]) (fun n : Int => IntKind.u8.min ≤ n ∧ n ≤ IntKind.u8.max))) _ _ _ h3
  match cs, hlen with
  | [c0, c1, c2, c3], _ =>
    simp [Sl.rep, FrS.rep] at e0 g0
    simp [Sl.rep, FrS.rep] at e1 g1
    simp [Sl.rep, FrS.rep] at e2 g2
    simp [Sl.rep, FrS.rep] at e3 g3
    exact ⟨by simp [*, Value.oneCell'], ⟨a0, a1, a2, a3⟩, by simp [Sl.rep, FrS.rep, *], ⟨w0, w1, w2, w3⟩⟩
/-- What was encoded is decoded as it was. -/
theorem fd_enc {f t k : Int} {l : List Int} (h : chkF f t k l.length = 0) : fdE (frB f t k l) = 0 ∧ (fA (frB f t k l)).getD 0 0 = f ∧ (fA (frB f t k l)).getD 1 0 = t ∧ (fA (frB f t k l)).getD 2 0 = k ∧ fB (frB f t k l) = l := by
  have hl : (frB f t k l).length = l.length + 9 := by unfold frB; rw [mkd_length, List.length_append, frH_len]; omega
  have ha : fA (frB f t k l) = frH f t k l.length ++ l := by
    unfold fA
    rw [hl, show l.length + 9 - 4 = (frH f t k l.length ++ l).length by rw [List.length_append, frH_len]; omega]
    unfold frB mkd
    rw [List.take_left]
  have hb : fB (frB f t k l) = l := by unfold fB; rw [ha]; rfl
  have h0 : (fA (frB f t k l)).getD 0 0 = f := by rw [ha]; rfl
  have h1 : (fA (frB f t k l)).getD 1 0 = t := by rw [ha]; rfl
  have h2 : (fA (frB f t k l)).getD 2 0 = k := by rw [ha]; rfl
  refine ⟨?_, h0, h1, h2, hb⟩
  have hm : mkdB (frB f t k l) = true := mkdB_mkd _
  have hn : fN (frB f t k l) = (((frB f t k l).length - 9 : Nat) : Int) := by
    unfold fN
    rw [ha, hl]
    show ((l.length % 256 : Nat) : Int) + 256 * ((l.length / 256 : Nat) : Int) = _
    omega
  unfold fdE
  rw [if_neg (by omega), if_neg (by rw [hm]; simp), h0, h1, h2, show (frB f t k l).length - 9 = l.length by omega, if_pos]
  exact ⟨by rw [hn]; congr 1; omega, h⟩
/- quidnunc/quidnunclaw03.FrameTells -/
noncomputable def c6_1 : ACode := .region false [⟨some 2, .box 0, [.t 0], none⟩,
  ⟨some 3, .box 0, [.t 1], none⟩,
  ⟨some 4, .move, [.c (.val (.bool false))], none⟩] [] [] [2, 3] true [] []
noncomputable def c6_4 : ACode := .region false [⟨some 11, .call 13, [], none⟩,
  ⟨some 12, .un .not, [.t 11], none⟩,
  ⟨some 13, .move, [.t 12], none⟩,
  ⟨some 14, .addr 3, [.t 2], some (some 13, false)⟩,
  ⟨some 15, .load false 1, [.t 14], some (some 13, false)⟩,
  ⟨some 16, .len, [.t 15], some (some 13, false)⟩,
  ⟨some 17, .bin .gtr, [.t 16, .c (.val (.int .i64 1100))], some (some 13, false)⟩,
  ⟨some 18, .pick, [.t 13, .c (.val (.bool true)), .t 17], none⟩,
  ⟨some 19, .move, [.t 18], none⟩,
  ⟨some 20, .addr 3, [.t 3], some (some 19, false)⟩,
  ⟨some 21, .load false 1, [.t 20], some (some 19, false)⟩,
  ⟨some 22, .len, [.t 21], some (some 19, false)⟩,
  ⟨some 23, .bin .gtr, [.t 22, .c (.val (.int .i64 1100))], some (some 19, false)⟩,
  ⟨some 24, .pick, [.t 19, .c (.val (.bool true)), .t 23], none⟩] [] [] [2, 3, 24] true [] []
noncomputable def c6_7 : ACode := .region false [⟨some 25, .call 13, [], none⟩,
  ⟨some 4, .move, [.t 25], none⟩] [] [] [4] true [] []
noncomputable def c6_6 : ACode := .seq c6_7 .ret
noncomputable def c6_5 : ACode := .cond (.t 24) c6_6 .skip
noncomputable def c6_3 : ACode := .seq c6_4 c6_5
noncomputable def c6_9 : ACode := .region false [⟨some 5, .alloc [(.int .u32 0), (.int .i32 0), (.int .u32 0), (.int .u32 0), (.int .u32 0), (.int .u32 0), (.int .u32 0), (.int .u32 0), (.int .u32 0), (.int .u32 0), (.int .u32 0), (.int .u32 0), (.int .u32 0), (.int .u32 0), (.int .u32 0), (.int .u32 0), (.int .u32 0), (.int .u32 0), (.int .u32 0), (.int .u32 0), (.int .u32 0), (.int .u32 0), (.int .u32 0), (.int .u32 0), (.int .u32 0), (.int .u32 0), (.int .u32 0), (.int .u32 0), (.int .u32 0), (.int .u32 0), (.int .u32 0), (.int .u32 0), (.int .u32 0), (.int .u32 0), (.int .u32 0), (.int .u32 0), (.int .u32 0), (.int .u32 0), (.int .u32 0), (.int .u32 0), (.int .u32 0), (.int .u32 0), (.int .u32 0), (.int .u32 0), (.int .u32 0), (.int .u32 0), (.int .u32 0), (.int .u32 0), (.int .u32 0), (.int .u32 0), (.int .u32 0), (.int .u32 0), (.int .u32 0), (.int .u32 0), (.int .u32 0), (.int .u32 0), (.int .u32 0), (.int .u32 0), (.int .u32 0), (.int .u32 0), (.int .u32 0), (.int .u32 0), (.int .u32 0), (.int .u32 0), (.int .u32 0), (.int .u32 0), (.int .u32 0), (.int .u32 0), (.int .u32 0), (.int .u32 0), (.int .u32 0), (.int .u32 0), (.int .u32 0), (.int .u32 0), (.int .u32 0), (.int .u32 0), (.int .u32 0), (.int .u32 0), (.int .u32 0), (.int .u32 0), (.int .u32 0), (.int .u32 0), (.int .u32 0), (.int .u32 0), (.int .u32 0), (.int .u32 0), (.int .u32 0), (.int .u32 0), (.int .u32 0), (.int .u32 0), (.int .u32 0), (.int .u32 0), (.int .u32 0), (.int .u32 0), (.int .u32 0), (.int .u32 0), (.int .u32 0), (.int .u32 0), (.int .u32 0), (.int .u32 0), (.int .u32 0), (.int .u32 0), (.int .u32 0), (.int .u32 0), (.int .u32 0), (.int .u32 0), (.int .u32 0), (.int .u32 0), (.int .u32 0), (.int .u32 0), (.int .u32 0), (.int .u32 0), (.int .u32 0), (.int .u32 0), (.int .u32 0), (.int .u32 0), (.int .u32 0), (.int .u32 0), (.int .u32 0), (.int .u32 0), (.int .u32 0), (.int .u32 0), (.int .u32 0), (.int .u32 0), (.int .u32 0), (.int .u32 0), (.int .u32 0), (.int .u32 0), (.int .u32 0), (.int .u32 0), (.int .u32 0), (.int .u32 0), (.int .u32 0), (.int .u32 0), (.int .u32 0), (.int .u32 0), (.int .u32 0), (.int .u32 0), (.int .u32 0), (.int .u32 0), (.int .u32 0), (.int .u32 0), (.int .u32 0), (.int .u32 0), (.int .u32 0), (.int .u32 0), (.int .u32 0), (.int .u32 0), (.int .u32 0), (.int .u32 0), (.int .u32 0), (.int .u32 0), (.int .u32 0), (.int .u32 0), (.int .u32 0), (.int .u32 0), (.int .u32 0), (.int .u32 0), (.int .u32 0), (.int .u32 0), (.int .u32 0), (.int .u32 0), (.int .u32 0), (.int .u32 0), (.int .u32 0), (.int .u32 0), (.int .u32 0), (.int .u32 0), (.int .u32 0), (.int .u32 0), (.int .u32 0), (.int .u32 0), (.int .u32 0), (.int .u32 0), (.int .u32 0), (.int .u32 0), (.int .u32 0), (.int .u32 0), (.int .u32 0), (.int .u32 0), (.int .u32 0), (.int .u32 0), (.int .u32 0), (.int .u32 0), (.int .u32 0), (.int .u32 0), (.int .u32 0), (.int .u32 0), (.int .u32 0), (.int .u32 0), (.int .u32 0), (.int .u32 0), (.int .u32 0), (.int .u32 0), (.int .u32 0), (.int .u32 0), (.int .u32 0), (.int .u32 0), (.int .u32 0), (.int .u32 0), (.int .u32 0), (.int .u32 0), (.int .u32 0), (.int .u32 0), (.int .u32 0), (.int .u32 0), (.int .u32 0), (.int .u32 0), (.int .u32 0), (.int .u32 0), (.int .u32 0), (.int .u32 0), (.int .u32 0), (.int .u32 0), (.int .u32 0), (.int .u32 0), (.int .u32 0), (.int .u32 0), (.int .u32 0), (.int .u32 0), (.int .u32 0), (.int .u32 0), (.int .u32 0), (.int .u32 0), (.int .u32 0), (.int .u32 0), (.int .u32 0), (.int .u32 0), (.int .u32 0), (.int .u32 0), (.int .u32 0), (.int .u32 0), (.int .u32 0), (.int .u32 0), (.int .u32 0), (.int .u32 0), (.int .u32 0), (.int .u32 0), (.int .u32 0), (.int .u32 0), (.int .u32 0), (.int .u32 0), (.int .u32 0), (.int .u32 0), (.int .u32 0), (.int .u32 0), (.int .u32 0), (.int .u32 0), (.int .u32 0), (.int .u32 0), (.int .u32 0), (.int .u32 0), (.int .u32 0), (.int .u32 0), (.int .u32 0), (.int .u32 0), (.int .u32 0), (.int .u32 0), (.int .u32 0)], [], none⟩] [] [] [2, 3, 5] true [] []
noncomputable def c6_11 : ACode := .region false [⟨some 26, .load true 4, [.t 2], none⟩,
  ⟨some 27, .call 18, [.t 26], none⟩,
  ⟨some 6, .move, [.t 27], none⟩] [] [] [2, 3, 5, 6] true [] []
noncomputable def c6_13 : ACode := .region false [⟨some 29, .load true 4, [.t 2], none⟩,
  ⟨some 30, .call 19, [.t 29], none⟩,
  ⟨some 31, .call 17, [.t 5, .t 30], none⟩,
  ⟨some 28, .move, [.t 31], none⟩,
  ⟨some 32, .ext 0, [.t 28], none⟩,
  ⟨some 33, .ext 1, [.t 28], none⟩,
  ⟨some 7, .move, [.t 32], none⟩,
  ⟨some 8, .move, [.t 33], none⟩] [] [] [2, 3, 5, 6, 7, 8] true [] []
noncomputable def c6_16 : ACode := .region true [⟨some 34, .load true 4, [.t 2], none⟩,
  ⟨some 35, .call 19, [.t 34], none⟩,
  ⟨some 36, .call 21, [.t 35], none⟩,
  ⟨some 37, .move, [.t 6], none⟩,
  ⟨some 38, .bin .neq, [.t 36, .t 37], none⟩,
  ⟨some 39, .move, [.t 38], none⟩,
  ⟨some 40, .move, [.t 8], some (some 39, false)⟩,
  ⟨some 41, .move, [.t 6], some (some 39, false)⟩,
  ⟨some 42, .bin .neq, [.t 40, .t 41], some (some 39, false)⟩,
  ⟨some 43, .pick, [.t 39, .c (.val (.bool true)), .t 42], none⟩,
  ⟨some 44, .move, [.t 43], none⟩,
  ⟨some 45, .load true 4, [.t 2], some (some 44, false)⟩,
  ⟨some 46, .call 19, [.t 45], some (some 44, false)⟩,
  ⟨some 47, .load true 4, [.t 3], some (some 44, false)⟩,
  ⟨some 48, .call 19, [.t 47], some (some 44, false)⟩,
  ⟨some 49, .call 22, [.t 46, .t 48], some (some 44, false)⟩,
  ⟨some 50, .load true 4, [.t 2], some (some 44, false)⟩,
  ⟨some 51, .load true 4, [.t 3], some (some 44, false)⟩,
  ⟨some 52, .call 20, [.t 50, .t 51], some (some 44, false)⟩,
  ⟨some 53, .eqB true, [.t 49, .t 52], some (some 44, false)⟩,
  ⟨some 54, .pick, [.t 44, .c (.val (.bool true)), .t 53], none⟩] [] [] [2, 5, 6, 7, 54] true [] []
noncomputable def c6_19 : ACode := .region false [⟨some 4, .move, [.c (.val (.bool false))], none⟩] [] [] [4] false [] []
noncomputable def c6_18 : ACode := .seq c6_19 .ret
noncomputable def c6_17 : ACode := .cond (.t 54) c6_18 .skip
noncomputable def c6_15 : ACode := .seq c6_16 c6_17
noncomputable def c6_22 : ACode := .region false [⟨some 55, .move, [.t 6], none⟩,
  ⟨some 56, .bin .neq, [.t 55, .c (.val (.int .i64 0))], none⟩] [] [] [2, 5, 7, 56] false [] []
noncomputable def c6_25 : ACode := .region false [⟨some 57, .move, [.t 7], none⟩,
  ⟨some 58, .len, [.t 57], none⟩,
  ⟨some 59, .bin .eql, [.t 58, .c (.val (.int .i64 0))], none⟩,
  ⟨some 4, .move, [.t 59], none⟩] [] [] [4] false [] []
noncomputable def c6_24 : ACode := .seq c6_25 .ret
noncomputable def c6_23 : ACode := .cond (.t 56) c6_24 .skip
noncomputable def c6_21 : ACode := .seq c6_22 c6_23
noncomputable def c6_27 : ACode := .region false [⟨some 61, .move, [.t 7], none⟩,
  ⟨some 62, .call 14, [.t 5, .t 61], none⟩,
  ⟨some 60, .move, [.t 62], none⟩,
  ⟨some 63, .ext 0, [.t 60], none⟩,
  ⟨some 64, .ext 1, [.t 60], none⟩,
  ⟨some 9, .alloc [(.int .i64 0), (.int .i64 0), (.int .i64 0), (.slice none 0 0)], [], none⟩,
  ⟨none, .store 4, [.t 9, .t 63], none⟩,
  ⟨some 10, .move, [.t 64], none⟩] [] [] [2, 7, 9, 10] true [] []
noncomputable def c6_29 : ACode := .region true [⟨some 65, .move, [.t 7], none⟩,
  ⟨some 66, .toStr, [.t 65], none⟩,
  ⟨some 67, .load true 4, [.t 2], none⟩,
  ⟨some 68, .call 23, [.t 67], none⟩,
  ⟨some 69, .toStr, [.t 68], none⟩,
  ⟨some 70, .bin .eql, [.t 66, .t 69], none⟩,
  ⟨some 71, .move, [.t 70], none⟩,
  ⟨some 72, .move, [.t 10], some (some 71, true)⟩,
  ⟨some 73, .bin .eql, [.t 72, .c (.val (.int .i64 0))], some (some 71, true)⟩,
  ⟨some 74, .pick, [.t 71, .t 73, .c (.val (.bool false))], none⟩,
  ⟨some 75, .move, [.t 74], none⟩,
  ⟨some 76, .load true 4, [.t 9], some (some 75, true)⟩,
  ⟨some 77, .load true 4, [.t 2], some (some 75, true)⟩,
  ⟨some 78, .call 16, [.t 76, .t 77], some (some 75, true)⟩,
  ⟨some 79, .pick, [.t 75, .t 78, .c (.val (.bool false))], none⟩,
  ⟨some 4, .move, [.t 79], none⟩] [4] [] [4] true [] []
noncomputable def c6_28 : ACode := .seq c6_29 .ret
noncomputable def c6_26 : ACode := .seq c6_27 c6_28
noncomputable def c6_20 : ACode := .seq c6_21 c6_26
noncomputable def c6_14 : ACode := .seq c6_15 c6_20
noncomputable def c6_12 : ACode := .seq c6_13 c6_14
noncomputable def c6_10 : ACode := .seq c6_11 c6_12
noncomputable def c6_8 : ACode := .seq c6_9 c6_10
noncomputable def c6_2 : ACode := .seq c6_3 c6_8
noncomputable def c6_0 : ACode := .seq c6_1 c6_2
noncomputable def code6 : Code := (Try.f6.body).getD .skip
theorem c6_ok : compC Try.prog 80 code6 = some (strip c6_0) := by kernel_rfl
theorem res6_ok : Try.f6.results.toList.mapM (resC Try.prog) = some [(4, none)] := by kernel_rfl
theorem ftells_walk (W : World) (x y : FrS) (hx : x.ok W) (hy : y.ok W) :
    Calls Try.prog 6 #[.agg (x.rep).toArray, .agg (y.rep).toArray] W fun e W' => e = .returned (.bool true) ∧ Below W.heap.size W W' := by
  obtain ⟨f, t, k, ⟨ad, off, cap, l⟩⟩ := x
  obtain ⟨f', t', k', ⟨ad', off', cap', l'⟩⟩ := y
  obtain ⟨-, -, -, hx4⟩ := hx
  obtain ⟨-, -, -, hy4⟩ := hy
  have hz := hx4.fz
  have hz' := hy4.fz
  have hb : ∀ x ∈ l, 0 ≤ x ∧ x ≤ 255 := hx4.all
  have hb' : ∀ x ∈ l', 0 ≤ x ∧ x ≤ 255 := hy4.all
  simp only at hz hz'
  by_cases hs : l.length ≤ 1100 ∧ l'.length ≤ 1100
  case neg =>
    refine top_call c6_ok Try.func6 rfl Try.ntmps6 res6_ok [ .agg [I f, I t, I k, .val (.slice ad l.length cap)], .agg [I f', I t', I k', .val (.slice ad' l'.length cap')]] (by simp) (by (repeat' (first | exact VRs_nil' _ | exact VR_val' _ _ | (refine VRs_cons' ?_ ?_) | (refine VR_agg' (by first | rfl | assumption) ?_; first | assumption | simp [Value.oneCell', FrS.rep])))) ?_; try simp (maxSteps := 9999999) (disch := omega) only [go_sem]
    (repeat' (first | refine AWpA.seq ?_ | refine AWpA.block ?_ | (with_reducible refine CondP.tt ?_) | (with_reducible refine CondP.ff ?_) | refine AWpA.condv (by simp (maxSteps := 9999999) (disch := omega) only [go_sem]; rfl) ?_ | ((first | (apply AWpA.region; (focus (simp (maxSteps := 9999999) (disch := omega) only [go_sem]; rfl))) | (apply AWpA.draw [] follows; (focus (simp (maxSteps := 9999999) (disch := omega) only [go_sem]; rfl)); (focus (simp (maxSteps := 9999999) (disch := omega) only [go_sem]; first | done | trivial)); (focus (simp (maxSteps := 9999999) (disch := omega) only [go_sem]; rfl))) | (apply TailK.go; (focus (simp (maxSteps := 9999999) (disch := omega) only [go_sem]; rfl))) | refine AWpA.skip ?_ | refine AWpA.exit ?_ | refine AWpA.ret ?_ | (with_reducible refine ARoundsA.succ ?_) | ((first | refine Runs.kt (by assumption) (fun h9 => ?_) | refine Runs.kf (by assumption) (fun h9 => ?_) | refine Runs.nt (by assumption) (fun h9 => ?_) | refine Runs.nf (by assumption) (fun h9 => ?_) | refine CondP.ht (by assumption) (fun h9 => ?_) | refine CondP.hf (by assumption) (fun h9 => ?_) | refine CondP.nt (by assumption) (fun h9 => ?_) | refine CondP.nf (by assumption) (fun h9 => ?_)); (try simp only [h9]); clear h9) | ((first | (with_reducible apply CallG.plain1 [] (speaks03_any)) | (with_reducible apply CallG.draw1 [] (speaks03_any))); (focus ((try refine And.intro (leAs_of_eq rfl) ?_); (try refine And.intro (leOL_of_eq rfl) ?_); simp (maxSteps := 9999999) (disch := omega) only [go_sem]; first | done | (repeat' (first | rfl | (refine And.intro ?_ ?_))))); (focus (simp (maxSteps := 9999999) (disch := omega) only [go_sem]; rfl)))); (try simp (maxSteps := 9999999) (disch := omega) only [go_sem]); (try (refine And.intro ?_ ?_; (focus (first | omega | (simp only [go_sem]; done) | (simp; done) | (simp; omega) | assumption))))) | ((first | refine CondP.split (fun hif => ?_) (fun hif => ?_) | refine Runs.part (fun hif => ?_) (fun hif => ?_)) <;> ((try simp only [hif]); (try simp only [decide_eq_true_eq, decide_eq_false_iff_not, Bool.not_eq_true, Bool.not_eq_false, Bool.not_eq_true', Bool.not_eq_false', beq_iff_eq, bne_iff_ne, bne_eq_false_iff_eq, beq_eq_false_iff_ne, ne_eq, Bool.and_eq_true, Bool.or_eq_true, Bool.or_eq_false_iff] at hif); (try (have h9 : _ = true := hif; simp only [h9])); (try (have h9 : _ = false := hif; simp only [h9])); (try simp (maxSteps := 9999999) (disch := omega) only [go_sem]); (try (refine And.intro ?_ ?_; (focus (first | omega | (simp only [go_sem]; done) | (simp; done) | (simp; omega) | assumption)))); (try (exfalso; omega; done))))))
    all_goals (refine TopPost.of (by first | exact .inl rfl | exact .inr rfl) (by (try simp (maxSteps := 9999999) (disch := omega) only [go_sem]); rfl) ?_; (try simp (maxSteps := 9999999) (disch := omega) only [go_sem]); (try (first | trivial | decide | (simp; done))))
  have h1 : (1100 < (l.length : Int)) = False := eq_false (by omega)
  have h2 : (1100 < (l'.length : Int)) = False := eq_false (by omega)
  have sg := Seg.rows (off := off) (l := l) (by omega)
  have sg' := Seg.rows (off := off') (l := l') (by omega)
  refine top_call c6_ok Try.func6 rfl Try.ntmps6 res6_ok [ .agg [I f, I t, I k, .val (.slice ad l.length cap)], .agg [I f', I t', I k', .val (.slice ad' l'.length cap')]] (by simp) (by (repeat' (first | exact VRs_nil' _ | exact VR_val' _ _ | (refine VRs_cons' ?_ ?_) | (refine VR_agg' (by first | rfl | assumption) ?_; first | assumption | simp [Value.oneCell', FrS.rep])))) ?_; try simp (maxSteps := 9999999) (disch := omega) only [go_sem]
  refine AWpA.thawA 0 3 (fun n : Int => [.val (.int .u8 n)]) hz (fun _ => rfl) rfl rfl ?_
  refine AWpA.thawA 1 3 (fun n : Int => [.val (.int .u8 n)]) hz' (fun _ => rfl) rfl rfl ?_
  generalize rowsC off (fun n : Int => [.val (.int .u8 n)]) l = P at sg
  generalize rowsC off' (fun n : Int => [.val (.int .u8 n)]) l' = P' at sg'
  simp only [List.set_cons_zero, List.set_cons_succ]
  have c1 := rfcheck_any sg f t k
  have c2 := fcheck_any sg f t k
  have c3 := of_any sg f t k
  have c4 := of_any sg' f' t' k'
  have c5 := fsame_any sg sg' hb hb' f t k f' t' k'
  have c6 := rsame_any sg sg' hb hb' f t k f' t' k'
  by_cases hk : chkF f t k l.length = 0
  · rw [hk] at c1 c2
    have c7 := fenc_ok false sg hb f t k hk
    obtain ⟨e1, e2, e3, e4, e5⟩ := fd_enc hk
    have hfl : (frB f t k l).length = l.length + 9 := by unfold frB; rw [mkd_length, List.length_append, frH_len]; omega
    have hfb : ∀ x ∈ frB f t k l, 0 ≤ x ∧ x ≤ 255 := mkd_bytes (frH_bytes hk hb)
    have c8 := (fdec_any true (Seg.all (frB f t k l) (by omega)) hfb).2 e1
    rw [e2, e3, e4, e5, hfl, Nat.add_sub_cancel] at c8
    have c9 := rfenc_ok sg hb f t k hk
    have c10 := is_any (Seg.all l (by omega)) sg hb hb f t k f t k
    rw [sameB_self] at c10
    generalize sameB f t k l f' t' k' l' = b at *
    have htk : (frB f t k l).take (l.length + 9) = frB f t k l := List.take_of_length_le (by omega)
    clear e1 e2 e3 e4 e5 hk
    generalize frB f t k l = B at *
    (try simp (maxSteps := 9999999) (disch := omega) only [go_sem])
    (repeat' (first | refine AWpA.seq ?_ | refine AWpA.block ?_ | (with_reducible refine CondP.tt ?_) | (with_reducible refine CondP.ff ?_) | refine AWpA.condv (by simp (maxSteps := 9999999) (disch := omega) only [go_sem, h1, h2, sg.ren, sg'.ren, tb_ren, tb_lit, bA_ren, hfl, htk]; rfl) ?_ | ((first | (apply AWpA.region; (focus (simp (maxSteps := 9999999) (disch := omega) only [go_sem, h1, h2, sg.ren, sg'.ren, tb_ren, tb_lit, bA_ren, hfl, htk]; rfl))) | (apply AWpA.draw [] follows; (focus (simp (maxSteps := 9999999) (disch := omega) only [go_sem, h1, h2, sg.ren, sg'.ren, tb_ren, tb_lit, bA_ren, hfl, htk]; rfl)); (focus (simp (maxSteps := 9999999) (disch := omega) only [go_sem, h1, h2, sg.ren, sg'.ren, tb_ren, tb_lit, bA_ren, hfl, htk]; first | done | trivial)); (focus (simp (maxSteps := 9999999) (disch := omega) only [go_sem, h1, h2, sg.ren, sg'.ren, tb_ren, tb_lit, bA_ren, hfl, htk]; rfl))) | (apply TailK.go; (focus (simp (maxSteps := 9999999) (disch := omega) only [go_sem, h1, h2, sg.ren, sg'.ren, tb_ren, tb_lit, bA_ren, hfl, htk]; rfl))) | refine AWpA.skip ?_ | refine AWpA.exit ?_ | refine AWpA.ret ?_ | (with_reducible refine ARoundsA.succ ?_) | ((first | refine Runs.kt (by assumption) (fun h9 => ?_) | refine Runs.kf (by assumption) (fun h9 => ?_) | refine Runs.nt (by assumption) (fun h9 => ?_) | refine Runs.nf (by assumption) (fun h9 => ?_) | refine CondP.ht (by assumption) (fun h9 => ?_) | refine CondP.hf (by assumption) (fun h9 => ?_) | refine CondP.nt (by assumption) (fun h9 => ?_) | refine CondP.nf (by assumption) (fun h9 => ?_)); (try simp only [h9]); clear h9) | ((first | (with_reducible apply CallG.plain1 [0] (c1)) | (with_reducible apply CallG.draw1 [0] (c1))); (focus ((try refine And.intro (leAs_of_eq rfl) ?_); (try refine And.intro (leOL_of_eq rfl) ?_); simp (maxSteps := 9999999) (disch := omega) only [go_sem, h1, h2, sg.ren, sg'.ren, tb_ren, tb_lit, bA_ren, hfl, htk]; first | done | (repeat' (first | rfl | (refine And.intro ?_ ?_))))); (focus (simp (maxSteps := 9999999) (disch := omega) only [go_sem, h1, h2, sg.ren, sg'.ren, tb_ren, tb_lit, bA_ren, hfl, htk]; rfl))) | ((first | (with_reducible apply CallG.plain1 [0] (c2)) | (with_reducible apply CallG.draw1 [0] (c2))); (focus ((try refine And.intro (leAs_of_eq rfl) ?_); (try refine And.intro (leOL_of_eq rfl) ?_); simp (maxSteps := 9999999) (disch := omega) only [go_sem, h1, h2, sg.ren, sg'.ren, tb_ren, tb_lit, bA_ren, hfl, htk]; first | done | (repeat' (first | rfl | (refine And.intro ?_ ?_))))); (focus (simp (maxSteps := 9999999) (disch := omega) only [go_sem, h1, h2, sg.ren, sg'.ren, tb_ren, tb_lit, bA_ren, hfl, htk]; rfl))) | ((first | (with_reducible apply CallG.plain1 [0] (c3)) | (with_reducible apply CallG.draw1 [0] (c3))); (focus ((try refine And.intro (leAs_of_eq rfl) ?_); (try refine And.intro (leOL_of_eq rfl) ?_); simp (maxSteps := 9999999) (disch := omega) only [go_sem, h1, h2, sg.ren, sg'.ren, tb_ren, tb_lit, bA_ren, hfl, htk]; first | done | (repeat' (first | rfl | (refine And.intro ?_ ?_))))); (focus (simp (maxSteps := 9999999) (disch := omega) only [go_sem, h1, h2, sg.ren, sg'.ren, tb_ren, tb_lit, bA_ren, hfl, htk]; rfl))) | ((first | (with_reducible apply CallG.plain1 [1] (c4)) | (with_reducible apply CallG.draw1 [1] (c4))); (focus ((try refine And.intro (leAs_of_eq rfl) ?_); (try refine And.intro (leOL_of_eq rfl) ?_); simp (maxSteps := 9999999) (disch := omega) only [go_sem, h1, h2, sg.ren, sg'.ren, tb_ren, tb_lit, bA_ren, hfl, htk]; first | done | (repeat' (first | rfl | (refine And.intro ?_ ?_))))); (focus (simp (maxSteps := 9999999) (disch := omega) only [go_sem, h1, h2, sg.ren, sg'.ren, tb_ren, tb_lit, bA_ren, hfl, htk]; rfl))) | ((first | (with_reducible apply CallG.plain1 [0, 1] (c5)) | (with_reducible apply CallG.draw1 [0, 1] (c5))); (focus ((try refine And.intro (leAs_of_eq rfl) ?_); (try refine And.intro (leOL_of_eq rfl) ?_); simp (maxSteps := 9999999) (disch := omega) only [go_sem, h1, h2, sg.ren, sg'.ren, tb_ren, tb_lit, bA_ren, hfl, htk]; first | done | (repeat' (first | rfl | (refine And.intro ?_ ?_))))); (focus (simp (maxSteps := 9999999) (disch := omega) only [go_sem, h1, h2, sg.ren, sg'.ren, tb_ren, tb_lit, bA_ren, hfl, htk]; rfl))) | ((first | (with_reducible apply CallG.plain1 [0, 1] (c6)) | (with_reducible apply CallG.draw1 [0, 1] (c6))); (focus ((try refine And.intro (leAs_of_eq rfl) ?_); (try refine And.intro (leOL_of_eq rfl) ?_); simp (maxSteps := 9999999) (disch := omega) only [go_sem, h1, h2, sg.ren, sg'.ren, tb_ren, tb_lit, bA_ren, hfl, htk]; first | done | (repeat' (first | rfl | (refine And.intro ?_ ?_))))); (focus (simp (maxSteps := 9999999) (disch := omega) only [go_sem, h1, h2, sg.ren, sg'.ren, tb_ren, tb_lit, bA_ren, hfl, htk]; rfl))) | ((first | (with_reducible apply CallG.plain1 [274, 0] (c7)) | (with_reducible apply CallG.draw1 [274, 0] (c7))); (focus ((try refine And.intro (leAs_of_eq rfl) ?_); (try refine And.intro (leOL_of_eq rfl) ?_); simp (maxSteps := 9999999) (disch := omega) only [go_sem, h1, h2, sg.ren, sg'.ren, tb_ren, tb_lit, bA_ren, hfl, htk]; first | done | (repeat' (first | rfl | (refine And.intro ?_ ?_))))); (focus (simp (maxSteps := 9999999) (disch := omega) only [go_sem, h1, h2, sg.ren, sg'.ren, tb_ren, tb_lit, bA_ren, hfl, htk]; rfl))) | ((first | (with_reducible apply CallG.plain1 [274, 370] (c8)) | (with_reducible apply CallG.draw1 [274, 370] (c8))); (focus ((try refine And.intro (leAs_of_eq rfl) ?_); (try refine And.intro (leOL_of_eq rfl) ?_); simp (maxSteps := 9999999) (disch := omega) only [go_sem, h1, h2, sg.ren, sg'.ren, tb_ren, tb_lit, bA_ren, hfl, htk]; first | done | (repeat' (first | rfl | (refine And.intro ?_ ?_))))); (focus (simp (maxSteps := 9999999) (disch := omega) only [go_sem, h1, h2, sg.ren, sg'.ren, tb_ren, tb_lit, bA_ren, hfl, htk]; rfl))) | ((first | (with_reducible apply CallG.plain1 [0] (c9)) | (with_reducible apply CallG.draw1 [0] (c9))); (focus ((try refine And.intro (leAs_of_eq rfl) ?_); (try refine And.intro (leOL_of_eq rfl) ?_); simp (maxSteps := 9999999) (disch := omega) only [go_sem, h1, h2, sg.ren, sg'.ren, tb_ren, tb_lit, bA_ren, hfl, htk]; first | done | (repeat' (first | rfl | (refine And.intro ?_ ?_))))); (focus (simp (maxSteps := 9999999) (disch := omega) only [go_sem, h1, h2, sg.ren, sg'.ren, tb_ren, tb_lit, bA_ren, hfl, htk]; rfl))) | ((first | (with_reducible apply CallG.plain1 [850, 0] (c10)) | (with_reducible apply CallG.draw1 [850, 0] (c10))); (focus ((try refine And.intro (leAs_of_eq rfl) ?_); (try refine And.intro (leOL_of_eq rfl) ?_); simp (maxSteps := 9999999) (disch := omega) only [go_sem, h1, h2, sg.ren, sg'.ren, tb_ren, tb_lit, bA_ren, hfl, htk]; first | done | (repeat' (first | rfl | (refine And.intro ?_ ?_))))); (focus (simp (maxSteps := 9999999) (disch := omega) only [go_sem, h1, h2, sg.ren, sg'.ren, tb_ren, tb_lit, bA_ren, hfl, htk]; rfl))) | ((first | (with_reducible apply CallG.plain1 [] (speaks03_any)) | (with_reducible apply CallG.draw1 [] (speaks03_any))); (focus ((try refine And.intro (leAs_of_eq rfl) ?_); (try refine And.intro (leOL_of_eq rfl) ?_); simp (maxSteps := 9999999) (disch := omega) only [go_sem, h1, h2, sg.ren, sg'.ren, tb_ren, tb_lit, bA_ren, hfl, htk]; first | done | (repeat' (first | rfl | (refine And.intro ?_ ?_))))); (focus (simp (maxSteps := 9999999) (disch := omega) only [go_sem, h1, h2, sg.ren, sg'.ren, tb_ren, tb_lit, bA_ren, hfl, htk]; rfl)))); (try simp (maxSteps := 9999999) (disch := omega) only [go_sem, h1, h2, sg.ren, sg'.ren, tb_ren, tb_lit, bA_ren, hfl, htk]); (try (refine And.intro ?_ ?_; (focus (first | omega | (simp only [go_sem]; done) | (simp; done) | (simp; omega) | assumption))))) | ((first | refine CondP.split (fun hif => ?_) (fun hif => ?_) | refine Runs.part (fun hif => ?_) (fun hif => ?_)) <;> ((try simp only [hif]); (try simp only [decide_eq_true_eq, decide_eq_false_iff_not, Bool.not_eq_true, Bool.not_eq_false, Bool.not_eq_true', Bool.not_eq_false', beq_iff_eq, bne_iff_ne, bne_eq_false_iff_eq, beq_eq_false_iff_ne, ne_eq, Bool.and_eq_true, Bool.or_eq_true, Bool.or_eq_false_iff] at hif); (try (have h9 : _ = true := hif; simp only [h9])); (try (have h9 : _ = false := hif; simp only [h9])); (try simp (maxSteps := 9999999) (disch := omega) only [go_sem, h1, h2, sg.ren, sg'.ren, tb_ren, tb_lit, bA_ren, hfl, htk]); (try (refine And.intro ?_ ?_; (focus (first | omega | (simp only [go_sem]; done) | (simp; done) | (simp; omega) | assumption)))); (try (exfalso; omega; done))))))
    (refine TopPost.of (by first | exact .inl rfl | exact .inr rfl) (by (try simp (maxSteps := 9999999) (disch := omega) only [go_sem]); rfl) ?_; (try simp (maxSteps := 9999999) (disch := omega) only [go_sem]); (try (first | trivial | decide | (simp; done))))
  · have c7 := fenc_no false sg f t k hk
    have g1 : (chkF f t k l.length != 0) = true := by rw [bne_iff_ne]; exact hk
    generalize chkF f t k l.length = c at *
    generalize sameB f t k l f' t' k' l' = b at *
    (try simp (maxSteps := 9999999) (disch := omega) only [go_sem])
    (repeat' (first | refine AWpA.seq ?_ | refine AWpA.block ?_ | (with_reducible refine CondP.tt ?_) | (with_reducible refine CondP.ff ?_) | refine AWpA.condv (by simp (maxSteps := 9999999) (disch := omega) only [go_sem, h1, h2, sg.ren, sg'.ren, tb_ren, tb_lit, bA_ren, g1]; rfl) ?_ | ((first | (apply AWpA.region; (focus (simp (maxSteps := 9999999) (disch := omega) only [go_sem, h1, h2, sg.ren, sg'.ren, tb_ren, tb_lit, bA_ren, g1]; rfl))) | (apply AWpA.draw [] follows; (focus (simp (maxSteps := 9999999) (disch := omega) only [go_sem, h1, h2, sg.ren, sg'.ren, tb_ren, tb_lit, bA_ren, g1]; rfl)); (focus (simp (maxSteps := 9999999) (disch := omega) only [go_sem, h1, h2, sg.ren, sg'.ren, tb_ren, tb_lit, bA_ren, g1]; first | done | trivial)); (focus (simp (maxSteps := 9999999) (disch := omega) only [go_sem, h1, h2, sg.ren, sg'.ren, tb_ren, tb_lit, bA_ren, g1]; rfl))) | (apply TailK.go; (focus (simp (maxSteps := 9999999) (disch := omega) only [go_sem, h1, h2, sg.ren, sg'.ren, tb_ren, tb_lit, bA_ren, g1]; rfl))) | refine AWpA.skip ?_ | refine AWpA.exit ?_ | refine AWpA.ret ?_ | (with_reducible refine ARoundsA.succ ?_) | ((first | refine Runs.kt (by assumption) (fun h9 => ?_) | refine Runs.kf (by assumption) (fun h9 => ?_) | refine Runs.nt (by assumption) (fun h9 => ?_) | refine Runs.nf (by assumption) (fun h9 => ?_) | refine CondP.ht (by assumption) (fun h9 => ?_) | refine CondP.hf (by assumption) (fun h9 => ?_) | refine CondP.nt (by assumption) (fun h9 => ?_) | refine CondP.nf (by assumption) (fun h9 => ?_)); (try simp only [h9]); clear h9) | ((first | (with_reducible apply CallG.plain1 [0] (c1)) | (with_reducible apply CallG.draw1 [0] (c1))); (focus ((try refine And.intro (leAs_of_eq rfl) ?_); (try refine And.intro (leOL_of_eq rfl) ?_); simp (maxSteps := 9999999) (disch := omega) only [go_sem, h1, h2, sg.ren, sg'.ren, tb_ren, tb_lit, bA_ren, g1]; first | done | (repeat' (first | rfl | (refine And.intro ?_ ?_))))); (focus (simp (maxSteps := 9999999) (disch := omega) only [go_sem, h1, h2, sg.ren, sg'.ren, tb_ren, tb_lit, bA_ren, g1]; rfl))) | ((first | (with_reducible apply CallG.plain1 [0] (c2)) | (with_reducible apply CallG.draw1 [0] (c2))); (focus ((try refine And.intro (leAs_of_eq rfl) ?_); (try refine And.intro (leOL_of_eq rfl) ?_); simp (maxSteps := 9999999) (disch := omega) only [go_sem, h1, h2, sg.ren, sg'.ren, tb_ren, tb_lit, bA_ren, g1]; first | done | (repeat' (first | rfl | (refine And.intro ?_ ?_))))); (focus (simp (maxSteps := 9999999) (disch := omega) only [go_sem, h1, h2, sg.ren, sg'.ren, tb_ren, tb_lit, bA_ren, g1]; rfl))) | ((first | (with_reducible apply CallG.plain1 [0] (c3)) | (with_reducible apply CallG.draw1 [0] (c3))); (focus ((try refine And.intro (leAs_of_eq rfl) ?_); (try refine And.intro (leOL_of_eq rfl) ?_); simp (maxSteps := 9999999) (disch := omega) only [go_sem, h1, h2, sg.ren, sg'.ren, tb_ren, tb_lit, bA_ren, g1]; first | done | (repeat' (first | rfl | (refine And.intro ?_ ?_))))); (focus (simp (maxSteps := 9999999) (disch := omega) only [go_sem, h1, h2, sg.ren, sg'.ren, tb_ren, tb_lit, bA_ren, g1]; rfl))) | ((first | (with_reducible apply CallG.plain1 [1] (c4)) | (with_reducible apply CallG.draw1 [1] (c4))); (focus ((try refine And.intro (leAs_of_eq rfl) ?_); (try refine And.intro (leOL_of_eq rfl) ?_); simp (maxSteps := 9999999) (disch := omega) only [go_sem, h1, h2, sg.ren, sg'.ren, tb_ren, tb_lit, bA_ren, g1]; first | done | (repeat' (first | rfl | (refine And.intro ?_ ?_))))); (focus (simp (maxSteps := 9999999) (disch := omega) only [go_sem, h1, h2, sg.ren, sg'.ren, tb_ren, tb_lit, bA_ren, g1]; rfl))) | ((first | (with_reducible apply CallG.plain1 [0, 1] (c5)) | (with_reducible apply CallG.draw1 [0, 1] (c5))); (focus ((try refine And.intro (leAs_of_eq rfl) ?_); (try refine And.intro (leOL_of_eq rfl) ?_); simp (maxSteps := 9999999) (disch := omega) only [go_sem, h1, h2, sg.ren, sg'.ren, tb_ren, tb_lit, bA_ren, g1]; first | done | (repeat' (first | rfl | (refine And.intro ?_ ?_))))); (focus (simp (maxSteps := 9999999) (disch := omega) only [go_sem, h1, h2, sg.ren, sg'.ren, tb_ren, tb_lit, bA_ren, g1]; rfl))) | ((first | (with_reducible apply CallG.plain1 [0, 1] (c6)) | (with_reducible apply CallG.draw1 [0, 1] (c6))); (focus ((try refine And.intro (leAs_of_eq rfl) ?_); (try refine And.intro (leOL_of_eq rfl) ?_); simp (maxSteps := 9999999) (disch := omega) only [go_sem, h1, h2, sg.ren, sg'.ren, tb_ren, tb_lit, bA_ren, g1]; first | done | (repeat' (first | rfl | (refine And.intro ?_ ?_))))); (focus (simp (maxSteps := 9999999) (disch := omega) only [go_sem, h1, h2, sg.ren, sg'.ren, tb_ren, tb_lit, bA_ren, g1]; rfl))) | ((first | (with_reducible apply CallG.plain1 [274, 0] (c7)) | (with_reducible apply CallG.draw1 [274, 0] (c7))); (focus ((try refine And.intro (leAs_of_eq rfl) ?_); (try refine And.intro (leOL_of_eq rfl) ?_); simp (maxSteps := 9999999) (disch := omega) only [go_sem, h1, h2, sg.ren, sg'.ren, tb_ren, tb_lit, bA_ren, g1]; first | done | (repeat' (first | rfl | (refine And.intro ?_ ?_))))); (focus (simp (maxSteps := 9999999) (disch := omega) only [go_sem, h1, h2, sg.ren, sg'.ren, tb_ren, tb_lit, bA_ren, g1]; rfl))) | ((first | (with_reducible apply CallG.plain1 [] (speaks03_any)) | (with_reducible apply CallG.draw1 [] (speaks03_any))); (focus ((try refine And.intro (leAs_of_eq rfl) ?_); (try refine And.intro (leOL_of_eq rfl) ?_); simp (maxSteps := 9999999) (disch := omega) only [go_sem, h1, h2, sg.ren, sg'.ren, tb_ren, tb_lit, bA_ren, g1]; first | done | (repeat' (first | rfl | (refine And.intro ?_ ?_))))); (focus (simp (maxSteps := 9999999) (disch := omega) only [go_sem, h1, h2, sg.ren, sg'.ren, tb_ren, tb_lit, bA_ren, g1]; rfl)))); (try simp (maxSteps := 9999999) (disch := omega) only [go_sem, h1, h2, sg.ren, sg'.ren, tb_ren, tb_lit, bA_ren, g1]); (try (refine And.intro ?_ ?_; (focus (first | omega | (simp only [go_sem]; done) | (simp; done) | (simp; omega) | assumption))))) | ((first | refine CondP.split (fun hif => ?_) (fun hif => ?_) | refine Runs.part (fun hif => ?_) (fun hif => ?_)) <;> ((try simp only [hif]); (try simp only [decide_eq_true_eq, decide_eq_false_iff_not, Bool.not_eq_true, Bool.not_eq_false, Bool.not_eq_true', Bool.not_eq_false', beq_iff_eq, bne_iff_ne, bne_eq_false_iff_eq, beq_eq_false_iff_ne, ne_eq, Bool.and_eq_true, Bool.or_eq_true, Bool.or_eq_false_iff] at hif); (try (have h9 : _ = true := hif; simp only [h9])); (try (have h9 : _ = false := hif; simp only [h9])); (try simp (maxSteps := 9999999) (disch := omega) only [go_sem, h1, h2, sg.ren, sg'.ren, tb_ren, tb_lit, bA_ren, g1]); (try (refine And.intro ?_ ?_; (focus (first | omega | (simp only [go_sem]; done) | (simp; done) | (simp; omega) | assumption)))); (try (exfalso; omega; done))))))
    (refine TopPost.of (by first | exact .inl rfl | exact .inr rfl) (by (try simp (maxSteps := 9999999) (disch := omega) only [go_sem]); rfl) ?_; (try simp (maxSteps := 9999999) (disch := omega) only [go_sem]); (try (first | trivial | decide | (simp; done))))
end Go.Proofs.Ythbpdmlbfnjoiaa
