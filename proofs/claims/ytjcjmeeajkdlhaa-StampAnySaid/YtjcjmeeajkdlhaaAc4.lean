/- StampClocks holds: whatever a clock begins with, sees, and is asked for, it tells what the document says. No condition. -/
import Derived.Test.YtjcjmeeajkdlhaaAc3
import Derived.Test.YtjcjmeeajkdlhaaEg4
namespace Go.Proofs.Ytjcjmeeajkdlhaa
set_option linter.unusedSimpArgs false
set_option linter.unusedVariables false
set_option maxHeartbeats 4000000
open Go Go.Am Go.RowKit Go.ChangeShapes Go.WideShapes Go.ChangeAt
open Go.ChangeMaps (open_string shut_string)
set_option maxRecDepth 100000
/-- An act: is a stamp asked for; else the one that is seen. -/
structure Ac where
  next : Bool
  see : St
def St.rep (a : St) : List Value := (fun n : Int => [.int .i64 n]) a.c ++ (fun n : Int => [.int .i64 n]) a.s
structure St.ok (W : World) (a : St) : Prop where
  c : (fun n : Int => IntKind.i64.min ≤ n ∧ n ≤ IntKind.i64.max) a.c
  s : (fun n : Int => IntKind.i64.min ≤ n ∧ n ≤ IntKind.i64.max) a.s
set_option maxRecDepth 100000 in
theorem rd_St {H : Type} {enc : TypeId × Value → H} {W : World} {base : Nat} {held : Bool} : Rd enc Try.prog W base held 23 St.rep (St.ok W) := fun n cs x h => by
  obtain ⟨xs, n1, _, _, hlen, hx, hf⟩ := DataW.trod_struct Try.underlying23 h
  rw [show Try.prog.cellsOf 23 = 2 by kernel_rfl] at hlen
  have f0 : DataW.trod enc Try.prog W base (fun _ => true) held n1 3 ((cs.drop 0).take (Try.prog.cellsOf 3)) = xs[0]? := hf 0 _ rfl
  rw [show Try.prog.cellsOf 3 = 1 by kernel_rfl] at f0
  obtain ⟨y0, h0⟩ := at_some2 hx (by decide) f0
  obtain ⟨g0, a0, e0, w0⟩ := (rd_int Try.underlying3 : Rd _ _ _ _ _ _ (fun n : Int => [.int .i64 n]) (fun n : Int => IntKind.i64.min ≤ n ∧ n ≤ IntKind.i64.max)) _ _ _ h0
  have f1 : DataW.trod enc Try.prog W base (fun _ => true) held n1 3 ((cs.drop 1).take (Try.prog.cellsOf 3)) = xs[1]? := hf 1 _ rfl
  rw [show Try.prog.cellsOf 3 = 1 by kernel_rfl] at f1
  obtain ⟨y1, h1⟩ := at_some2 hx (by decide) f1
  obtain ⟨g1, a1, e1, w1⟩ := (rd_int Try.underlying3 : Rd _ _ _ _ _ _ (fun n : Int => [.int .i64 n]) (fun n : Int => IntKind.i64.min ≤ n ∧ n ≤ IntKind.i64.max)) _ _ _ h1
  match cs, hlen with
  | [c0, c1], _ =>
    simp [Sl.rep, St.rep] at e0 g0
    simp [Sl.rep, St.rep] at e1 g1
    exact ⟨by simp [*, Value.oneCell'], ⟨a0, a1⟩, by simp [Sl.rep, St.rep, *], ⟨w0, w1⟩⟩
def Ac.rep (a : Ac) : List Value := (fun b : Bool => [.bool b]) a.next ++ (St.rep) a.see
structure Ac.ok (W : World) (a : Ac) : Prop where
  next : (fun _ : Bool => True) a.next
  see : (St.ok W) a.see
set_option maxRecDepth 100000 in
theorem rd_Ac {H : Type} {enc : TypeId × Value → H} {W : World} {base : Nat} {held : Bool} : Rd enc Try.prog W base held 68 Ac.rep (Ac.ok W) := fun n cs x h => by
  obtain ⟨xs, n1, _, _, hlen, hx, hf⟩ := DataW.trod_struct Try.underlying68 h
  rw [show Try.prog.cellsOf 68 = 3 by kernel_rfl] at hlen
  have f0 : DataW.trod enc Try.prog W base (fun _ => true) held n1 4 ((cs.drop 0).take (Try.prog.cellsOf 4)) = xs[0]? := hf 0 _ rfl
  rw [show Try.prog.cellsOf 4 = 1 by kernel_rfl] at f0
  obtain ⟨y0, h0⟩ := at_some2 hx (by decide) f0
  obtain ⟨g0, a0, e0, w0⟩ := (rd_bool Try.underlying4 : Rd _ _ _ _ _ _ (fun b : Bool => [.bool b]) (fun _ : Bool => True)) _ _ _ h0
  have f1 : DataW.trod enc Try.prog W base (fun _ => true) held n1 23 ((cs.drop 1).take (Try.prog.cellsOf 23)) = xs[1]? := hf 1 _ rfl
  rw [show Try.prog.cellsOf 23 = 2 by kernel_rfl] at f1
  obtain ⟨y1, h1⟩ := at_some2 hx (by decide) f1
  obtain ⟨g1, a1, e1, w1⟩ := (rd_St : Rd _ _ _ _ _ _ (St.rep) (St.ok W)) _ _ _ h1
  match cs, hlen with
  | [c0, c1, c2], _ =>
    simp [Sl.rep, St.rep, Ac.rep] at e0 g0
    simp [Sl.rep, St.rep, Ac.rep] at e1 g1
    exact ⟨by simp [*, Value.oneCell'], ⟨a0, a1⟩, by simp [Sl.rep, St.rep, Ac.rep, *], ⟨w0, w1⟩⟩
abbrev AcC (a : Ac) : List AV := [Bo a.next, I a.see.c, I a.see.s]
theorem nextC_le {n : Int} (h : 0 ≤ n) (h' : n ≤ 4294967295) : 0 ≤ nextC n ∧ nextC n ≤ 4294967295 := by
  unfold nextC; split <;> omega
theorem seeC_le {n : Int} (t : St) (h : 0 ≤ n) (h' : n ≤ 4294967295) : 0 ≤ seeC n t ∧ seeC n t ≤ 4294967295 := by
  unfold seeC
  split
  · rename_i h1
    simp [seeB, goodB] at h1
    omega
  · exact ⟨h, h'⟩
/- quidnunc/quidnunclaw04.StampClocks -/
noncomputable def c8_1 : ACode := .region false [⟨some 6, .move, [.c (.val (.bool false))], none⟩] [] [] [0, 1, 2] false [] []
noncomputable def c8_4 : ACode := .region false [⟨some 20, .call 35, [], none⟩,
  ⟨some 21, .un .not, [.t 20], none⟩,
  ⟨some 22, .move, [.t 21], none⟩,
  ⟨some 23, .move, [.t 2], some (some 22, false)⟩,
  ⟨some 24, .len, [.t 23], some (some 22, false)⟩,
  ⟨some 25, .bin .gtr, [.t 24, .c (.val (.int .i64 60))], some (some 22, false)⟩,
  ⟨some 26, .pick, [.t 22, .c (.val (.bool true)), .t 25], none⟩] [] [] [0, 1, 2, 26] true [] []
noncomputable def c8_7 : ACode := .region false [⟨some 27, .call 35, [], none⟩,
  ⟨some 6, .move, [.t 27], none⟩] [] [] [6] true [] []
noncomputable def c8_6 : ACode := .seq c8_7 .ret
noncomputable def c8_5 : ACode := .cond (.t 26) c8_6 .skip
noncomputable def c8_3 : ACode := .seq c8_4 c8_5
noncomputable def c8_9 : ACode := .region false [⟨some 29, .move, [.t 0], none⟩,
  ⟨some 30, .move, [.t 1], none⟩,
  ⟨some 31, .call 36, [.t 29, .t 30], none⟩,
  ⟨some 28, .move, [.t 31], none⟩,
  ⟨some 32, .ext 0, [.t 28], none⟩,
  ⟨some 33, .ext 1, [.t 28], none⟩,
  ⟨some 7, .move, [.t 32], none⟩,
  ⟨some 8, .move, [.t 33], none⟩] [] [] [0, 1, 2, 7, 8] true [] []
noncomputable def c8_11 : ACode := .region false [⟨some 35, .move, [.t 0], none⟩,
  ⟨some 36, .move, [.t 1], none⟩,
  ⟨some 37, .call 44, [.t 35, .t 36], none⟩,
  ⟨some 34, .move, [.t 37], none⟩,
  ⟨some 38, .ext 0, [.t 34], none⟩,
  ⟨some 39, .ext 1, [.t 34], none⟩,
  ⟨some 9, .alloc [(.int .i64 0), (.int .i64 0)], [], none⟩,
  ⟨none, .store 2, [.t 9, .t 38], none⟩,
  ⟨some 10, .move, [.t 39], none⟩] [] [] [0, 2, 7, 8, 9, 10] true [] []
noncomputable def c8_14 : ACode := .region false [⟨some 40, .move, [.t 8], none⟩,
  ⟨some 41, .move, [.t 10], none⟩,
  ⟨some 42, .bin .neq, [.t 40, .t 41], none⟩,
  ⟨some 43, .move, [.t 42], none⟩,
  ⟨some 44, .move, [.t 7], some (some 43, false)⟩,
  ⟨some 45, .eqP true, [.t 44, .c (.val (.pointer none))], some (some 43, false)⟩,
  ⟨some 46, .move, [.t 10], some (some 43, false)⟩,
  ⟨some 47, .bin .eql, [.t 46, .c (.val (.int .i64 0))], some (some 43, false)⟩,
  ⟨some 48, .eqB true, [.t 45, .t 47], some (some 43, false)⟩,
  ⟨some 49, .pick, [.t 43, .c (.val (.bool true)), .t 48], none⟩] [] [] [0, 2, 7, 9, 49] false [] []
noncomputable def c8_17 : ACode := .region false [⟨some 6, .move, [.c (.val (.bool false))], none⟩] [] [] [6] false [] []
noncomputable def c8_16 : ACode := .seq c8_17 .ret
noncomputable def c8_15 : ACode := .cond (.t 49) c8_16 .skip
noncomputable def c8_13 : ACode := .seq c8_14 c8_15
noncomputable def c8_20 : ACode := .region false [⟨some 50, .move, [.t 7], none⟩,
  ⟨some 51, .eqP false, [.t 50, .c (.val (.pointer none))], none⟩] [] [] [0, 2, 7, 9, 51] false [] []
noncomputable def c8_23 : ACode := .region false [⟨some 6, .move, [.c (.val (.bool true))], none⟩] [] [] [6] false [] []
noncomputable def c8_22 : ACode := .seq c8_23 .ret
noncomputable def c8_21 : ACode := .cond (.t 51) c8_22 .skip
noncomputable def c8_19 : ACode := .seq c8_20 c8_21
noncomputable def c8_26 : ACode := .region false [⟨some 52, .move, [.t 2], none⟩,
  ⟨some 53, .len, [.t 52], none⟩,
  ⟨some 54, .move, [.c (.val (.int .i64 0))], none⟩] [] [] [0, 7, 9, 52, 53, 54] false [] []
noncomputable def c8_30 : ACode := .region false [⟨some 55, .bin .lss, [.t 54, .t 53], none⟩] [] [] [0, 7, 9, 52, 53, 54, 55] false [] []
noncomputable def c8_32 : ACode := .cond (.t 55) .skip (.exit 0)
noncomputable def c8_36 : ACode := .region false [⟨some 56, .ixS 3, [.t 52, .t 54], none⟩,
  ⟨some 57, .load true 3, [.t 56], none⟩,
  ⟨some 12, .alloc [(.bool false), (.int .i64 0), (.int .i64 0)], [], none⟩,
  ⟨none, .store 3, [.t 12, .t 57], none⟩] [] [] [0, 7, 9, 12, 52, 53, 54] true [] []
noncomputable def c8_39 : ACode := .region false [⟨some 58, .addr 0, [.t 12], none⟩,
  ⟨some 59, .load false 1, [.t 58], none⟩] [] [] [0, 7, 9, 12, 52, 53, 54, 59] false [] []
noncomputable def c8_42 : ACode := .region false [⟨some 61, .move, [.t 7], none⟩,
  ⟨some 62, .call 41, [.t 61], none⟩,
  ⟨some 60, .move, [.t 62], none⟩,
  ⟨some 63, .ext 0, [.t 60], none⟩,
  ⟨some 64, .ext 1, [.t 60], none⟩,
  ⟨some 13, .alloc [(.int .i64 0), (.int .i64 0)], [], none⟩,
  ⟨none, .store 2, [.t 13, .t 63], none⟩,
  ⟨some 14, .move, [.t 64], none⟩] [] [] [0, 7, 9, 13, 14, 52, 53, 54] true [] []
noncomputable def c8_44 : ACode := .region false [⟨some 66, .load true 2, [.t 9], none⟩,
  ⟨some 67, .call 45, [.t 66], none⟩,
  ⟨some 65, .move, [.t 67], none⟩,
  ⟨some 68, .ext 0, [.t 65], none⟩,
  ⟨some 69, .ext 1, [.t 65], none⟩,
  ⟨some 70, .ext 2, [.t 65], none⟩,
  ⟨some 15, .alloc [(.int .i64 0), (.int .i64 0)], [], none⟩,
  ⟨some 16, .alloc [(.int .i64 0), (.int .i64 0)], [], none⟩,
  ⟨none, .store 2, [.t 15, .t 68], none⟩,
  ⟨none, .store 2, [.t 16, .t 69], none⟩,
  ⟨some 17, .move, [.t 70], none⟩] [] [] [0, 7, 9, 13, 14, 15, 16, 17, 52, 53, 54] true [] []
noncomputable def c8_46 : ACode := .region false [⟨some 71, .load true 2, [.t 15], none⟩,
  ⟨none, .store 2, [.t 9, .t 71], none⟩] [] [] [0, 7, 9, 13, 14, 16, 17, 52, 53, 54] true [] []
noncomputable def c8_48 : ACode := .region true [⟨some 72, .load true 2, [.t 13], none⟩,
  ⟨some 73, .call 43, [.t 72], none⟩,
  ⟨some 74, .load true 2, [.t 16], none⟩,
  ⟨some 75, .eqA true [(0, 0), (1, 0)], [.t 73, .t 74], none⟩,
  ⟨some 76, .move, [.t 75], none⟩,
  ⟨some 77, .move, [.t 14], some (some 76, false)⟩,
  ⟨some 78, .move, [.t 17], some (some 76, false)⟩,
  ⟨some 79, .bin .neq, [.t 77, .t 78], some (some 76, false)⟩,
  ⟨some 80, .pick, [.t 76, .c (.val (.bool true)), .t 79], none⟩] [] [] [0, 7, 9, 52, 53, 54, 80] true [] []
noncomputable def c8_51 : ACode := .region false [⟨some 6, .move, [.c (.val (.bool false))], none⟩] [] [] [6] false [] []
noncomputable def c8_50 : ACode := .seq c8_51 .ret
noncomputable def c8_49 : ACode := .cond (.t 80) c8_50 .skip
noncomputable def c8_47 : ACode := .seq c8_48 c8_49
noncomputable def c8_45 : ACode := .seq c8_46 c8_47
noncomputable def c8_43 : ACode := .seq c8_44 c8_45
noncomputable def c8_41 : ACode := .seq c8_42 c8_43
noncomputable def c8_53 : ACode := .region false [⟨some 82, .load true 2, [.t 9], none⟩,
  ⟨some 83, .addr 1, [.t 12], none⟩,
  ⟨some 84, .load true 2, [.t 83], none⟩,
  ⟨some 85, .call 46, [.t 82, .t 84], none⟩,
  ⟨some 81, .move, [.t 85], none⟩,
  ⟨some 86, .ext 0, [.t 81], none⟩,
  ⟨some 87, .ext 1, [.t 81], none⟩,
  ⟨some 18, .alloc [(.int .i64 0), (.int .i64 0)], [], none⟩,
  ⟨none, .store 2, [.t 18, .t 86], none⟩,
  ⟨some 19, .move, [.t 87], none⟩] [] [] [0, 7, 9, 12, 18, 19, 52, 53, 54] true [] []
noncomputable def c8_55 : ACode := .region false [⟨some 88, .load true 2, [.t 18], none⟩,
  ⟨none, .store 2, [.t 9, .t 88], none⟩] [] [] [0, 7, 9, 12, 19, 52, 53, 54] true [] []
noncomputable def c8_57 : ACode := .region false [⟨some 89, .move, [.t 7], none⟩,
  ⟨some 90, .addr 1, [.t 12], none⟩,
  ⟨some 91, .load true 2, [.t 90], none⟩,
  ⟨some 92, .call 38, [.t 91], none⟩,
  ⟨some 93, .call 37, [.t 89, .t 92], none⟩,
  ⟨some 94, .move, [.t 19], none⟩,
  ⟨some 95, .eqB true, [.t 93, .t 94], none⟩] [] [] [0, 7, 9, 52, 53, 54, 95] true [] []
noncomputable def c8_60 : ACode := .region false [⟨some 6, .move, [.c (.val (.bool false))], none⟩] [] [] [6] false [] []
noncomputable def c8_59 : ACode := .seq c8_60 .ret
noncomputable def c8_58 : ACode := .cond (.t 95) c8_59 .skip
noncomputable def c8_56 : ACode := .seq c8_57 c8_58
noncomputable def c8_54 : ACode := .seq c8_55 c8_56
noncomputable def c8_52 : ACode := .seq c8_53 c8_54
noncomputable def c8_40 : ACode := .cond (.t 59) c8_41 c8_52
noncomputable def c8_38 : ACode := .seq c8_39 c8_40
noncomputable def c8_62 : ACode := .region true [⟨some 96, .move, [.t 7], none⟩,
  ⟨some 97, .call 42, [.t 96], none⟩,
  ⟨some 98, .addr 1, [.t 9], none⟩,
  ⟨some 99, .load false 1, [.t 98], none⟩,
  ⟨some 100, .bin .neq, [.t 97, .t 99], none⟩,
  ⟨some 101, .move, [.t 100], none⟩,
  ⟨some 102, .move, [.t 7], some (some 101, false)⟩,
  ⟨some 103, .call 47, [.t 102], some (some 101, false)⟩,
  ⟨some 104, .move, [.t 0], some (some 101, false)⟩,
  ⟨some 105, .bin .neq, [.t 103, .t 104], some (some 101, false)⟩,
  ⟨some 106, .pick, [.t 101, .c (.val (.bool true)), .t 105], none⟩] [] [] [0, 7, 9, 52, 53, 54, 106] true [] []
noncomputable def c8_65 : ACode := .region false [⟨some 6, .move, [.c (.val (.bool false))], none⟩] [] [] [6] false [] []
noncomputable def c8_64 : ACode := .seq c8_65 .ret
noncomputable def c8_63 : ACode := .cond (.t 106) c8_64 .skip
noncomputable def c8_61 : ACode := .seq c8_62 c8_63
noncomputable def c8_37 : ACode := .seq c8_38 c8_61
noncomputable def c8_35 : ACode := .seq c8_36 c8_37
noncomputable def c8_34 : ACode := .block 1 c8_35
noncomputable def c8_66 : ACode := .region false [⟨some 107, .bin .add, [.t 54, .c (.val (.int .i64 1))], none⟩,
  ⟨some 54, .move, [.t 107], none⟩] [] [] [0, 7, 9, 52, 53, 54] false [] []
noncomputable def c8_33 : ACode := .seq c8_34 c8_66
noncomputable def c8_31 : ACode := .seq c8_32 c8_33
noncomputable def c8_29 : ACode := .seq c8_30 c8_31
noncomputable def c8_28 : ACode := .loop c8_29
noncomputable def c8_27 : ACode := .block 0 c8_28
noncomputable def c8_25 : ACode := .seq c8_26 c8_27
noncomputable def c8_68 : ACode := .region false [⟨some 6, .move, [.c (.val (.bool true))], none⟩] [] [] [6] false [] []
noncomputable def c8_67 : ACode := .seq c8_68 .ret
noncomputable def c8_24 : ACode := .seq c8_25 c8_67
noncomputable def c8_18 : ACode := .seq c8_19 c8_24
noncomputable def c8_12 : ACode := .seq c8_13 c8_18
noncomputable def c8_10 : ACode := .seq c8_11 c8_12
noncomputable def c8_8 : ACode := .seq c8_9 c8_10
noncomputable def c8_2 : ACode := .seq c8_3 c8_8
noncomputable def c8_0 : ACode := .seq c8_1 c8_2
noncomputable def code8 : Code := (Try.f8.body).getD .skip
theorem c8_ok : compC Try.prog 108 code8 = some (strip c8_0) := by kernel_rfl
theorem res8_ok : Try.f8.results.toList.mapM (resC Try.prog) = some [(6, none)] := by kernel_rfl
theorem clocks_walk (W : World) (site f : Int) (sl : Sl Ac) (hz : Sl.ok W 3 Ac.rep (Ac.ok W) sl) :
    Calls Try.prog 8 #[.int .i64 site, .int .i64 f, .slice sl.ad sl.l.length sl.cap] W fun e W' => e = .returned (.bool true) ∧ Below W.heap.size W W' := by
  obtain ⟨ad, off, cap, l⟩ := sl
  obtain ⟨hz, -, -⟩ := hz
  simp only at hz
  have hr : ∀ ρ, renL ρ (rowsC off AcC l) = rowsC off AcC l := fun ρ => rowsC_ren (fun ρ x => by simp [renL, ren]) ρ l
  refine top_call c8_ok Try.func8 rfl Try.ntmps8 res8_ok [ I site, I f, .val (.slice ad l.length cap)] (by simp) (by (repeat' (first | exact VRs_nil' _ | exact VR_val' _ _ | (refine VRs_cons' ?_ ?_) | (refine VR_agg' (by first | rfl | assumption) ?_; first | assumption | simp [Value.oneCell', St.rep, Ac.rep])))) ?_; try simp (maxSteps := 9999999) (disch := omega) only [go_sem]
  refine AWpA.thawT 2 AcC hz (fun x => by simp [Ac.rep, St.rep]) rfl ?_
  by_cases h60 : 60 < l.length
  · (repeat' (first | refine AWpA.seq ?_ | refine AWpA.block ?_ | (with_reducible refine CondP.tt ?_) | (with_reducible refine CondP.ff ?_) | refine AWpA.condv (by simp (maxSteps := 9999999) (disch := omega) only [go_sem, hr]; rfl) ?_ | ((first | (apply AWpA.region; (focus (simp (maxSteps := 9999999) (disch := omega) only [go_sem, hr]; rfl))) | (apply AWpA.draw [] [] follows; (focus (first | rfl | decide)); (focus (simp (maxSteps := 9999999) (disch := omega) only [go_sem, hr]; rfl)); (focus (simp (maxSteps := 9999999) (disch := omega) only [go_sem, hr]; first | done | trivial)); (focus (simp (maxSteps := 9999999) (disch := omega) only [go_sem, hr]; rfl))) | (apply TailK.go; (focus (simp (maxSteps := 9999999) (disch := omega) only [go_sem, hr]; rfl))) | refine AWpA.skip ?_ | refine AWpA.exit ?_ | refine AWpA.ret ?_ | (with_reducible refine ARoundsA.succ ?_) | ((first | refine Runs.kt (by assumption) (fun h9 => ?_) | refine Runs.kf (by assumption) (fun h9 => ?_) | refine Runs.nt (by assumption) (fun h9 => ?_) | refine Runs.nf (by assumption) (fun h9 => ?_) | refine CondP.ht (by assumption) (fun h9 => ?_) | refine CondP.hf (by assumption) (fun h9 => ?_) | refine CondP.nt (by assumption) (fun h9 => ?_) | refine CondP.nf (by assumption) (fun h9 => ?_)); (try simp only [h9]); clear h9) | ((first | (with_reducible apply CallG.plain1 [] (speaks04)) | (with_reducible apply CallG.draw1 [] (speaks04))); (focus ((try refine And.intro (leAs_of_eq rfl) ?_); (try refine And.intro (leOL_of_eq rfl) ?_); simp (maxSteps := 9999999) (disch := omega) only [go_sem, hr]; first | done | (repeat' (first | rfl | (refine And.intro ?_ ?_))))); (focus (simp (maxSteps := 9999999) (disch := omega) only [go_sem, hr]; rfl)))); (try simp (maxSteps := 9999999) (disch := omega) only [go_sem, hr]); (try (refine And.intro ?_ ?_; (focus (first | omega | (simp only [go_sem]; done) | (simp; done) | (simp; omega) | assumption))))) | ((first | refine CondP.split (fun hif => ?_) (fun hif => ?_) | refine Runs.part (fun hif => ?_) (fun hif => ?_)) <;> ((try simp only [hif]); (try simp only [decide_eq_true_eq, decide_eq_false_iff_not, Bool.not_eq_true, Bool.not_eq_false, Bool.not_eq_true', Bool.not_eq_false', beq_iff_eq, bne_iff_ne, bne_eq_false_iff_eq, beq_eq_false_iff_ne, ne_eq, Bool.and_eq_true, Bool.or_eq_true, Bool.or_eq_false_iff] at hif); (try (have h9 : _ = true := hif; simp only [h9])); (try (have h9 : _ = false := hif; simp only [h9])); (try simp (maxSteps := 9999999) (disch := omega) only [go_sem, hr]); (try (refine And.intro ?_ ?_; (focus (first | omega | (simp only [go_sem]; done) | (simp; done) | (simp; omega) | assumption)))); (try (exfalso; omega; done))))))
    (refine TopPost.of (by first | exact .inl rfl | exact .inr rfl) (by (try simp (maxSteps := 9999999) (disch := omega) only [go_sem, hr]); rfl) ?_; (try simp (maxSteps := 9999999) (disch := omega) only [go_sem, hr]); (try (first | trivial | decide | (simp; done))))
  by_cases hs : siteB site = true
  · by_cases hf : 0 ≤ f ∧ f ≤ 4294967295
    · have h1 : 0 ≤ site ∧ site < 12 := by simpa [siteB] using hs
      have e1 : rnewE site f = 0 := by simp [rnewE, hs, hf]
      have e2 : rnewS site f = site := by simp [rnewS, e1]
      have e3 : rnewC site f = f := by simp [rnewC, e1]
      (repeat' (first | refine AWpA.seq ?_ | refine AWpA.block ?_ | (with_reducible refine CondP.tt ?_) | (with_reducible refine CondP.ff ?_) | refine AWpA.condv (by simp (maxSteps := 9999999) (disch := omega) only [go_sem, hr, e1, e2, e3]; rfl) ?_ | ((first | (apply AWpA.region; (focus (simp (maxSteps := 9999999) (disch := omega) only [go_sem, hr, e1, e2, e3]; rfl))) | (apply AWpA.draw [] [] follows; (focus (first | rfl | decide)); (focus (simp (maxSteps := 9999999) (disch := omega) only [go_sem, hr, e1, e2, e3]; rfl)); (focus (simp (maxSteps := 9999999) (disch := omega) only [go_sem, hr, e1, e2, e3]; first | done | trivial)); (focus (simp (maxSteps := 9999999) (disch := omega) only [go_sem, hr, e1, e2, e3]; rfl))) | (apply TailK.go; (focus (simp (maxSteps := 9999999) (disch := omega) only [go_sem, hr, e1, e2, e3]; rfl))) | refine AWpA.skip ?_ | refine AWpA.exit ?_ | refine AWpA.ret ?_ | (with_reducible refine ARoundsA.succ ?_) | ((first | refine Runs.kt (by assumption) (fun h9 => ?_) | refine Runs.kf (by assumption) (fun h9 => ?_) | refine Runs.nt (by assumption) (fun h9 => ?_) | refine Runs.nf (by assumption) (fun h9 => ?_) | refine CondP.ht (by assumption) (fun h9 => ?_) | refine CondP.hf (by assumption) (fun h9 => ?_) | refine CondP.nt (by assumption) (fun h9 => ?_) | refine CondP.nf (by assumption) (fun h9 => ?_)); (try simp only [h9]); clear h9) | ((first | (with_reducible apply CallG.plain1 [] (speaks04)) | (with_reducible apply CallG.plain1 [] (new_ok site f h1.1 h1.2 hf.1 hf.2)) | (with_reducible apply CallG.plain1 [] (rnew_any _ _)) | (with_reducible apply CallG.draw1 [] (speaks04)) | (with_reducible apply CallG.draw1 [] (new_ok site f h1.1 h1.2 hf.1 hf.2)) | (with_reducible apply CallG.draw1 [] (rnew_any _ _))); (focus ((try refine And.intro (leAs_of_eq rfl) ?_); (try refine And.intro (leOL_of_eq rfl) ?_); simp (maxSteps := 9999999) (disch := omega) only [go_sem, hr, e1, e2, e3]; first | done | (repeat' (first | rfl | (refine And.intro ?_ ?_))))); (focus (simp (maxSteps := 9999999) (disch := omega) only [go_sem, hr, e1, e2, e3]; rfl)))); (try simp (maxSteps := 9999999) (disch := omega) only [go_sem, hr, e1, e2, e3]); (try (refine And.intro ?_ ?_; (focus (first | omega | (simp only [go_sem]; done) | (simp; done) | (simp; omega) | assumption))))) | ((first | refine CondP.split (fun hif => ?_) (fun hif => ?_) | refine Runs.part (fun hif => ?_) (fun hif => ?_)) <;> ((try simp only [hif]); (try simp only [decide_eq_true_eq, decide_eq_false_iff_not, Bool.not_eq_true, Bool.not_eq_false, Bool.not_eq_true', Bool.not_eq_false', beq_iff_eq, bne_iff_ne, bne_eq_false_iff_eq, beq_eq_false_iff_ne, ne_eq, Bool.and_eq_true, Bool.or_eq_true, Bool.or_eq_false_iff] at hif); (try (have h9 : _ = true := hif; simp only [h9])); (try (have h9 : _ = false := hif; simp only [h9])); (try simp (maxSteps := 9999999) (disch := omega) only [go_sem, hr, e1, e2, e3]); (try (refine And.intro ?_ ?_; (focus (first | omega | (simp only [go_sem]; done) | (simp; done) | (simp; omega) | assumption)))); (try (exfalso; omega; done))))))
      (apply AWpA.loopL (fun a : Nat × Int => [(0, I site), (7, .ptr 1 0), (9, .ptr 2 0), (52, .sl 0 off l.length 3 none), (53, I l.length), (54, I a.1)]) (fun a => [.cells true (rowsC off AcC l), Clk a.2 site, .cells false [I site, I a.2]]) (fun a => l.length - a.1) (fun a => a.1 ≤ l.length ∧ 0 ≤ a.2 ∧ a.2 ≤ 4294967295) ((0, f)) [0, 161, 353]; rotate_left; (focus (simp (maxSteps := 9999999) (disch := omega) only [go_sem, hr]; (try (repeat' (first | done | trivial | rfl | exact leAs_rfl _ | decide | (refine And.intro ?_ ?_) | (simp; done) | omega | (simp; decide)))))); rotate_right)
      · exact ⟨by simp, hf.1, hf.2⟩
      rintro ⟨k, n⟩ ⟨hk, hn, hn'⟩
      simp only [] at hk hn hn'
      (try simp (maxSteps := 9999999) (disch := omega) only [go_sem])
      by_cases hkl : k < l.length
      · have hlen : ∀ l : List Ac, (rowsC off AcC l).length = off + l.length * 3 := rowsC_len (fun _ => rfl)
        have hat := rowsC_at (off := off) (f := AcC) (k := 3) (fun _ => rfl) l k hkl
        generalize l[k] = a at hat
        (repeat' (first | refine AWpA.seq ?_ | refine AWpA.block ?_ | (with_reducible refine CondP.tt ?_) | (with_reducible refine CondP.ff ?_) | refine AWpA.condv (by simp (maxSteps := 9999999) (disch := omega) only [go_sem, hr, hlen, hat, AcC]; rfl) ?_ | ((first | (apply AWpA.region; (focus (simp (maxSteps := 9999999) (disch := omega) only [go_sem, hr, hlen, hat, AcC]; rfl))) | (apply AWpA.draw [1] [] follows; (focus (first | rfl | decide)); (focus (simp (maxSteps := 9999999) (disch := omega) only [go_sem, hr, hlen, hat, AcC]; rfl)); (focus (simp (maxSteps := 9999999) (disch := omega) only [go_sem, hr, hlen, hat, AcC]; first | done | trivial)); (focus (simp (maxSteps := 9999999) (disch := omega) only [go_sem, hr, hlen, hat, AcC]; rfl))) | (apply TailK.go; (focus (simp (maxSteps := 9999999) (disch := omega) only [go_sem, hr, hlen, hat, AcC]; rfl))) | refine AWpA.skip ?_ | refine AWpA.exit ?_ | refine AWpA.ret ?_ | (with_reducible refine ARoundsA.succ ?_) | ((first | refine Runs.kt (by assumption) (fun h9 => ?_) | refine Runs.kf (by assumption) (fun h9 => ?_) | refine Runs.nt (by assumption) (fun h9 => ?_) | refine Runs.nf (by assumption) (fun h9 => ?_) | refine CondP.ht (by assumption) (fun h9 => ?_) | refine CondP.hf (by assumption) (fun h9 => ?_) | refine CondP.nt (by assumption) (fun h9 => ?_) | refine CondP.nf (by assumption) (fun h9 => ?_)); (try simp only [h9]); clear h9) | ((first | (with_reducible apply CallG.plain1 [_] (next_any n site hn hn')) | (with_reducible apply CallG.plain1 [] (rnext_any n site hn hn')) | (with_reducible apply CallG.plain1 [] (to04_any (nextT n site))) | (with_reducible apply CallG.plain1 [_] (now_any _ site)) | (with_reducible apply CallG.plain1 [_] (csite_any _ site)) | (with_reducible apply CallG.plain1 [] (rsee_any n site a.see)) | (with_reducible apply CallG.plain1 [] (of04_any a.see)) | (with_reducible apply CallG.plain1 [_] (see_any n site a.see)) | (with_reducible apply CallG.draw1 [_] (next_any n site hn hn')) | (with_reducible apply CallG.draw1 [] (rnext_any n site hn hn')) | (with_reducible apply CallG.draw1 [] (to04_any (nextT n site))) | (with_reducible apply CallG.draw1 [_] (now_any _ site)) | (with_reducible apply CallG.draw1 [_] (csite_any _ site)) | (with_reducible apply CallG.draw1 [] (rsee_any n site a.see)) | (with_reducible apply CallG.draw1 [] (of04_any a.see)) | (with_reducible apply CallG.draw1 [_] (see_any n site a.see))); (focus ((try refine And.intro (leAs_of_eq rfl) ?_); (try refine And.intro (leOL_of_eq rfl) ?_); simp (maxSteps := 9999999) (disch := omega) only [go_sem, hr, hlen, hat, AcC]; first | done | (repeat' (first | rfl | (refine And.intro ?_ ?_))))); (focus (simp (maxSteps := 9999999) (disch := omega) only [go_sem, hr, hlen, hat, AcC]; rfl)))); (try simp (maxSteps := 9999999) (disch := omega) only [go_sem, hr, hlen, hat, AcC]); (try (refine And.intro ?_ ?_; (focus (first | omega | (simp only [go_sem]; done) | (simp; done) | (simp; omega) | assumption))))) | ((first | refine CondP.split (fun hif => ?_) (fun hif => ?_) | refine Runs.part (fun hif => ?_) (fun hif => ?_)) <;> ((try simp only [hif]); (try simp only [decide_eq_true_eq, decide_eq_false_iff_not, Bool.not_eq_true, Bool.not_eq_false, Bool.not_eq_true', Bool.not_eq_false', beq_iff_eq, bne_iff_ne, bne_eq_false_iff_eq, beq_eq_false_iff_ne, ne_eq, Bool.and_eq_true, Bool.or_eq_true, Bool.or_eq_false_iff] at hif); (try (have h9 : _ = true := hif; simp only [h9])); (try (have h9 : _ = false := hif; simp only [h9])); (try simp (maxSteps := 9999999) (disch := omega) only [go_sem, hr, hlen, hat, AcC]); (try (refine And.intro ?_ ?_; (focus (first | omega | (simp only [go_sem]; done) | (simp; done) | (simp; omega) | assumption)))); (try (exfalso; omega; done))))))
        all_goals (try (simp at hif; done))
        · (apply Back.to (k + 1, nextC n) [0, 1, 2]; (focus ((try simp (maxSteps := 9999999) (disch := omega) only [go_sem, hr]); first | done | omega)); rotate_left; (focus (simp (maxSteps := 9999999) (disch := omega) only [go_sem, hr]; (try (repeat' (first | done | trivial | rfl | exact leAs_rfl _ | decide | (refine And.intro ?_ ?_) | (simp; done) | omega | (simp; decide)))))))
          exact ⟨by omega, nextC_le hn hn'⟩
        · (apply Back.to (k + 1, seeC n a.see) [0, 1, 2]; (focus ((try simp (maxSteps := 9999999) (disch := omega) only [go_sem, hr]); first | done | omega)); rotate_left; (focus (simp (maxSteps := 9999999) (disch := omega) only [go_sem, hr]; (try (repeat' (first | done | trivial | rfl | exact leAs_rfl _ | decide | (refine And.intro ?_ ?_) | (simp; done) | omega | (simp; decide)))))))
          exact ⟨by omega, seeC_le a.see hn hn'⟩
      · (repeat' (first | refine AWpA.seq ?_ | refine AWpA.block ?_ | (with_reducible refine CondP.tt ?_) | (with_reducible refine CondP.ff ?_) | refine AWpA.condv (by simp (maxSteps := 9999999) (disch := omega) only [go_sem, hr]; rfl) ?_ | ((first | (apply AWpA.region; (focus (simp (maxSteps := 9999999) (disch := omega) only [go_sem, hr]; rfl))) | (apply AWpA.draw [1] [] follows; (focus (first | rfl | decide)); (focus (simp (maxSteps := 9999999) (disch := omega) only [go_sem, hr]; rfl)); (focus (simp (maxSteps := 9999999) (disch := omega) only [go_sem, hr]; first | done | trivial)); (focus (simp (maxSteps := 9999999) (disch := omega) only [go_sem, hr]; rfl))) | (apply TailK.go; (focus (simp (maxSteps := 9999999) (disch := omega) only [go_sem, hr]; rfl))) | refine AWpA.skip ?_ | refine AWpA.exit ?_ | refine AWpA.ret ?_ | (with_reducible refine ARoundsA.succ ?_) | ((first | refine Runs.kt (by assumption) (fun h9 => ?_) | refine Runs.kf (by assumption) (fun h9 => ?_) | refine Runs.nt (by assumption) (fun h9 => ?_) | refine Runs.nf (by assumption) (fun h9 => ?_) | refine CondP.ht (by assumption) (fun h9 => ?_) | refine CondP.hf (by assumption) (fun h9 => ?_) | refine CondP.nt (by assumption) (fun h9 => ?_) | refine CondP.nf (by assumption) (fun h9 => ?_)); (try simp only [h9]); clear h9)); (try simp (maxSteps := 9999999) (disch := omega) only [go_sem, hr]); (try (refine And.intro ?_ ?_; (focus (first | omega | (simp only [go_sem]; done) | (simp; done) | (simp; omega) | assumption))))) | ((first | refine CondP.split (fun hif => ?_) (fun hif => ?_) | refine Runs.part (fun hif => ?_) (fun hif => ?_)) <;> ((try simp only [hif]); (try simp only [decide_eq_true_eq, decide_eq_false_iff_not, Bool.not_eq_true, Bool.not_eq_false, Bool.not_eq_true', Bool.not_eq_false', beq_iff_eq, bne_iff_ne, bne_eq_false_iff_eq, beq_eq_false_iff_ne, ne_eq, Bool.and_eq_true, Bool.or_eq_true, Bool.or_eq_false_iff] at hif); (try (have h9 : _ = true := hif; simp only [h9])); (try (have h9 : _ = false := hif; simp only [h9])); (try simp (maxSteps := 9999999) (disch := omega) only [go_sem, hr]); (try (refine And.intro ?_ ?_; (focus (first | omega | (simp only [go_sem]; done) | (simp; done) | (simp; omega) | assumption)))); (try (exfalso; omega; done))))))
        (refine TopPost.of (by first | exact .inl rfl | exact .inr rfl) (by (try simp (maxSteps := 9999999) (disch := omega) only [go_sem, hr]); rfl) ?_; (try simp (maxSteps := 9999999) (disch := omega) only [go_sem, hr]); (try (first | trivial | decide | (simp; done))))
    · have e1 : rnewE site f = 2 := by simp [rnewE, hs, hf]
      have h1 : 0 ≤ site ∧ site < 12 := by simpa [siteB] using hs
      (repeat' (first | refine AWpA.seq ?_ | refine AWpA.block ?_ | (with_reducible refine CondP.tt ?_) | (with_reducible refine CondP.ff ?_) | refine AWpA.condv (by simp (maxSteps := 9999999) (disch := omega) only [go_sem, hr, e1]; rfl) ?_ | ((first | (apply AWpA.region; (focus (simp (maxSteps := 9999999) (disch := omega) only [go_sem, hr, e1]; rfl))) | (apply AWpA.draw [] [] follows; (focus (first | rfl | decide)); (focus (simp (maxSteps := 9999999) (disch := omega) only [go_sem, hr, e1]; rfl)); (focus (simp (maxSteps := 9999999) (disch := omega) only [go_sem, hr, e1]; first | done | trivial)); (focus (simp (maxSteps := 9999999) (disch := omega) only [go_sem, hr, e1]; rfl))) | (apply TailK.go; (focus (simp (maxSteps := 9999999) (disch := omega) only [go_sem, hr, e1]; rfl))) | refine AWpA.skip ?_ | refine AWpA.exit ?_ | refine AWpA.ret ?_ | (with_reducible refine ARoundsA.succ ?_) | ((first | refine Runs.kt (by assumption) (fun h9 => ?_) | refine Runs.kf (by assumption) (fun h9 => ?_) | refine Runs.nt (by assumption) (fun h9 => ?_) | refine Runs.nf (by assumption) (fun h9 => ?_) | refine CondP.ht (by assumption) (fun h9 => ?_) | refine CondP.hf (by assumption) (fun h9 => ?_) | refine CondP.nt (by assumption) (fun h9 => ?_) | refine CondP.nf (by assumption) (fun h9 => ?_)); (try simp only [h9]); clear h9) | ((first | (with_reducible apply CallG.plain1 [] (speaks04)) | (with_reducible apply CallG.plain1 [] (new_from site f h1.1 h1.2 (by omega))) | (with_reducible apply CallG.plain1 [] (rnew_any _ _)) | (with_reducible apply CallG.draw1 [] (speaks04)) | (with_reducible apply CallG.draw1 [] (new_from site f h1.1 h1.2 (by omega))) | (with_reducible apply CallG.draw1 [] (rnew_any _ _))); (focus ((try refine And.intro (leAs_of_eq rfl) ?_); (try refine And.intro (leOL_of_eq rfl) ?_); simp (maxSteps := 9999999) (disch := omega) only [go_sem, hr, e1]; first | done | (repeat' (first | rfl | (refine And.intro ?_ ?_))))); (focus (simp (maxSteps := 9999999) (disch := omega) only [go_sem, hr, e1]; rfl)))); (try simp (maxSteps := 9999999) (disch := omega) only [go_sem, hr, e1]); (try (refine And.intro ?_ ?_; (focus (first | omega | (simp only [go_sem]; done) | (simp; done) | (simp; omega) | assumption))))) | ((first | refine CondP.split (fun hif => ?_) (fun hif => ?_) | refine Runs.part (fun hif => ?_) (fun hif => ?_)) <;> ((try simp only [hif]); (try simp only [decide_eq_true_eq, decide_eq_false_iff_not, Bool.not_eq_true, Bool.not_eq_false, Bool.not_eq_true', Bool.not_eq_false', beq_iff_eq, bne_iff_ne, bne_eq_false_iff_eq, beq_eq_false_iff_ne, ne_eq, Bool.and_eq_true, Bool.or_eq_true, Bool.or_eq_false_iff] at hif); (try (have h9 : _ = true := hif; simp only [h9])); (try (have h9 : _ = false := hif; simp only [h9])); (try simp (maxSteps := 9999999) (disch := omega) only [go_sem, hr, e1]); (try (refine And.intro ?_ ?_; (focus (first | omega | (simp only [go_sem]; done) | (simp; done) | (simp; omega) | assumption)))); (try (exfalso; omega; done))))))
      all_goals (refine TopPost.of (by first | exact .inl rfl | exact .inr rfl) (by (try simp (maxSteps := 9999999) (disch := omega) only [go_sem, hr]); rfl) ?_; (try simp (maxSteps := 9999999) (disch := omega) only [go_sem, hr]); (try (first | trivial | decide | (simp; done))))
  · have e1 : rnewE site f = 1 := by simp [rnewE, hs]
    have h1 : site < 0 ∨ 12 ≤ site := by simp [siteB] at hs; omega
    (repeat' (first | refine AWpA.seq ?_ | refine AWpA.block ?_ | (with_reducible refine CondP.tt ?_) | (with_reducible refine CondP.ff ?_) | refine AWpA.condv (by simp (maxSteps := 9999999) (disch := omega) only [go_sem, hr, e1]; rfl) ?_ | ((first | (apply AWpA.region; (focus (simp (maxSteps := 9999999) (disch := omega) only [go_sem, hr, e1]; rfl))) | (apply AWpA.draw [] [] follows; (focus (first | rfl | decide)); (focus (simp (maxSteps := 9999999) (disch := omega) only [go_sem, hr, e1]; rfl)); (focus (simp (maxSteps := 9999999) (disch := omega) only [go_sem, hr, e1]; first | done | trivial)); (focus (simp (maxSteps := 9999999) (disch := omega) only [go_sem, hr, e1]; rfl))) | (apply TailK.go; (focus (simp (maxSteps := 9999999) (disch := omega) only [go_sem, hr, e1]; rfl))) | refine AWpA.skip ?_ | refine AWpA.exit ?_ | refine AWpA.ret ?_ | (with_reducible refine ARoundsA.succ ?_) | ((first | refine Runs.kt (by assumption) (fun h9 => ?_) | refine Runs.kf (by assumption) (fun h9 => ?_) | refine Runs.nt (by assumption) (fun h9 => ?_) | refine Runs.nf (by assumption) (fun h9 => ?_) | refine CondP.ht (by assumption) (fun h9 => ?_) | refine CondP.hf (by assumption) (fun h9 => ?_) | refine CondP.nt (by assumption) (fun h9 => ?_) | refine CondP.nf (by assumption) (fun h9 => ?_)); (try simp only [h9]); clear h9) | ((first | (with_reducible apply CallG.plain1 [] (speaks04)) | (with_reducible apply CallG.plain1 [] (new_site site f h1)) | (with_reducible apply CallG.plain1 [] (rnew_any _ _)) | (with_reducible apply CallG.draw1 [] (speaks04)) | (with_reducible apply CallG.draw1 [] (new_site site f h1)) | (with_reducible apply CallG.draw1 [] (rnew_any _ _))); (focus ((try refine And.intro (leAs_of_eq rfl) ?_); (try refine And.intro (leOL_of_eq rfl) ?_); simp (maxSteps := 9999999) (disch := omega) only [go_sem, hr, e1]; first | done | (repeat' (first | rfl | (refine And.intro ?_ ?_))))); (focus (simp (maxSteps := 9999999) (disch := omega) only [go_sem, hr, e1]; rfl)))); (try simp (maxSteps := 9999999) (disch := omega) only [go_sem, hr, e1]); (try (refine And.intro ?_ ?_; (focus (first | omega | (simp only [go_sem]; done) | (simp; done) | (simp; omega) | assumption))))) | ((first | refine CondP.split (fun hif => ?_) (fun hif => ?_) | refine Runs.part (fun hif => ?_) (fun hif => ?_)) <;> ((try simp only [hif]); (try simp only [decide_eq_true_eq, decide_eq_false_iff_not, Bool.not_eq_true, Bool.not_eq_false, Bool.not_eq_true', Bool.not_eq_false', beq_iff_eq, bne_iff_ne, bne_eq_false_iff_eq, beq_eq_false_iff_ne, ne_eq, Bool.and_eq_true, Bool.or_eq_true, Bool.or_eq_false_iff] at hif); (try (have h9 : _ = true := hif; simp only [h9])); (try (have h9 : _ = false := hif; simp only [h9])); (try simp (maxSteps := 9999999) (disch := omega) only [go_sem, hr, e1]); (try (refine And.intro ?_ ?_; (focus (first | omega | (simp only [go_sem]; done) | (simp; done) | (simp; omega) | assumption)))); (try (exfalso; omega; done))))))
    all_goals (refine TopPost.of (by first | exact .inl rfl | exact .inr rfl) (by (try simp (maxSteps := 9999999) (disch := omega) only [go_sem, hr]); rfl) ?_; (try simp (maxSteps := 9999999) (disch := omega) only [go_sem, hr]); (try (first | trivial | decide | (simp; done))))
set_option maxRecDepth 100000 in
theorem lifted_stampClocks (os : Os) (started : os.Started) (H : Type) (enc : TypeId × Value → H) :
    ReturnsInHanded {} Try.checked os 8 .any (Rows.stampClocksSpec.pre6 enc Try.prog Try.f8 Rows.stampClocksRow.domain false) (Rows.stampClocksSpec.post enc Try.prog Try.f8 false true false false) := by
  refine returnsInHanded_of_change (C := Try.checked) (by kernel_rfl) started (by kernel_rfl) Try.func8
    (ChangeSpec.witness6 (enc := enc) (C := Try.checked) false ⟨#[], #[.int .i64 0, .int .i64 0, .slice none 0 0], []⟩ 8 (by kernel_rfl) (by kernel_rfl) (by kernel_rfl) (by kernel_rfl)) ?_
  intro W base args ds gs before hval0 hW hcnd _
  have hval : ∀ (j : Nat) t v, Try.f8.params[j]? = some t → args[j]? = some v → Value.okWide Try.prog W .any base t v := hval0
  have hW' := hW
  obtain ⟨p, q, hA0, hV, rfl, hfz, hnd⟩ := hW
  have hA : DataW.TrodAll enc Try.prog W 0 (fun _ => true) true Try.f8.params.toList args.toList ds p := hA0
  rw [Try.params8] at hA hval
  obtain ⟨v0, vs0, d0, ds0, p0, q0, hargs, rfl, rfl, h0, r0⟩ := trodAll_cons hA
  obtain ⟨v1, vs1, d1, ds1, p1, q1, rfl, rfl, rfl, h1, r1⟩ := trodAll_cons r0
  obtain ⟨v2, vs2, d2, ds2, p2, q2, rfl, rfl, rfl, h2, r2⟩ := trodAll_cons r1
  obtain ⟨rfl, rfl, rfl⟩ := trodAll_nil r2
  obtain rfl : args = #[v0, v1, v2] := by cases args; simp_all
  obtain ⟨rfl, rfl⟩ := trodVars_none hV
  have lt0 : ∀ x ∈ p0, x.block < W.heap.size := by obtain ⟨m, hm⟩ := h0; exact DataW.trod_lt m _ _ _ hm
  have k0 := h0
  obtain ⟨a0, e0, w0, z0⟩ := rd_open (rd_int Try.underlying3) h0
  obtain ⟨n0, rfl⟩ := okWide_int Try.underlying3 (hval 0 3 v0 rfl rfl)
  obtain rfl : a0 = n0 := by simp [Value.cells] at e0; exact e0.symm
  clear e0
  have lt1 : ∀ x ∈ p1, x.block < W.heap.size := by obtain ⟨m, hm⟩ := h1; exact DataW.trod_lt m _ _ _ hm
  have k1 := h1
  obtain ⟨a1, e1, w1, z1⟩ := rd_open (rd_int Try.underlying3) h1
  obtain ⟨n1, rfl⟩ := okWide_int Try.underlying3 (hval 1 3 v1 rfl rfl)
  obtain rfl : a1 = n1 := by simp [Value.cells] at e1; exact e1.symm
  clear e1
  have lt2 : ∀ x ∈ p2, x.block < W.heap.size := by obtain ⟨m, hm⟩ := h2; exact DataW.trod_lt m _ _ _ hm
  have k2 := h2
  obtain ⟨a2, e2, w2, z2⟩ := rd_open (rd_slice Try.underlying63 (show Try.prog.cellsOf 68 = 3 by kernel_rfl) (by decide) (rd_Ac)) h2
  obtain ⟨n2a, n2b, n2c, rfl⟩ := okWide_slice Try.underlying63 (hval 2 63 v2 rfl rfl)
  obtain ⟨rfl, rfl, rfl⟩ : n2a = a2.ad ∧ n2b = a2.l.length ∧ n2c = a2.cap := by simpa [Value.cells, Sl.rep] using e2
  clear e2
  clear hA0 hval0
  refine (clocks_walk W a0 a1 a2 w2).mono fun r W' ⟨he, bel⟩ => ?_
  subst he
  exact ⟨_, rfl, _, _, _, [], _, [], hW', trodAll_mk1 (shut_bool Try.underlying4 _), (trodAll_cons_mk (Below.trod (show laidOutB Try.prog = true by kernel_rfl) (by kernel_rfl) (of_decide_eq_true (by kernel_rfl)) k0 bel lt0) (trodAll_cons_mk (Below.trod (show laidOutB Try.prog = true by kernel_rfl) (by kernel_rfl) (of_decide_eq_true (by kernel_rfl)) k1 bel lt1) (trodAll_cons_mk (Below.trod (show laidOutB Try.prog = true by kernel_rfl) (by kernel_rfl) (of_decide_eq_true (by kernel_rfl)) k2 bel lt2) trodAll_mk0))), rfl, bel.frame _, fun h => by cases h⟩

theorem stampClocks_holds : Rows.StampClocksSaid :=
  OpenClaim.holds_of_wide 8 Try.f8 rfl rfl rfl rfl rfl rfl rfl ⟨rfl, rfl, rfl, rfl, rfl⟩ rfl rfl rfl rfl rfl (by kernel_rfl) Try.func8 (by kernel_rfl)
    (of_decide_eq_true (by kernel_rfl)) (by unfold Func.isWrapper; first | (rw [if_pos (by decide +kernel)]; kernel_rfl) | (rw [if_neg (by decide +kernel)]; exact ⟨rfl, rfl⟩))
    (fun os started H enc _ => lifted_stampClocks os started H enc)
#print axioms stampClocks_holds
end Go.Proofs.Ytjcjmeeajkdlhaa
