/- The walk of SeenPlays. -/
import Derived.Test.YtjcjmeeajkdlhaaAn4
namespace Go.Proofs.Ytjcjmeeajkdlhaa
set_option linter.unusedSimpArgs false
set_option linter.unusedVariables false
set_option maxHeartbeats 4000000
open Go Go.Am Go.RowKit Go.ChangeShapes Go.WideShapes Go.ChangeAt
set_option maxRecDepth 100000
def St.rep (a : St) : List Value := (fun n : Int => [.int .i64 n]) a.c ++ (fun n : Int => [.int .i64 n]) a.s
structure St.ok (W : World) (a : St) : Prop where
  c : (fun n : Int => IntKind.i64.min ≤ n ∧ n ≤ IntKind.i64.max) a.c
  s : (fun n : Int => IntKind.i64.min ≤ n ∧ n ≤ IntKind.i64.max) a.s
set_option maxRecDepth 100000 in
theorem rd_St {H : Type} {enc : TypeId × Value → H} {W : World} {base : Nat} {held : Bool} : Rd enc Try.prog W base held 23 St.rep (St.ok W) := fun n cs x h => by
  obtain ⟨xs, n1, _, _, hlen, hx, hf⟩ := DataW.trod_struct Try.underlying23 h
  rw [show Try.prog.cellsOf 23 = 2 by kernel_rfl] at hlen
  have f0 : DataW.trod enc Try.prog W base (fun _ => true) held n1 3 ((cs.drop 0).take (Try.prog.cellsOf 3)) = xs[0]? := hf 0 _ rfl
  rw [show Try.prog.cellsOf 3 = 1 by kernel_rfl] at f0
  obtain ⟨y0, h0⟩ := at_some2 hx (by decide) f0
  obtain ⟨g0, a0, e0, w0⟩ := (rd_int Try.underlying3 : Rd _ _ _ _ _ _ (fun n : Int => [.int .i64 n]) (fun n : Int => IntKind.i64.min ≤ n ∧ n ≤ IntKind.i64.max)) _ _ _ h0
  have f1 : DataW.trod enc Try.prog W base (fun _ => true) held n1 3 ((cs.drop 1).take (Try.prog.cellsOf 3)) = xs[1]? := hf 1 _ rfl
  rw [show Try.prog.cellsOf 3 = 1 by kernel_rfl] at f1
  obtain ⟨y1, h1⟩ := at_some2 hx (by decide) f1
  obtain ⟨g1, a1, e1, w1⟩ := (rd_int Try.underlying3 : Rd _ _ _ _ _ _ (fun n : Int => [.int .i64 n]) (fun n : Int => IntKind.i64.min ≤ n ∧ n ≤ IntKind.i64.max)) _ _ _ h1
  match cs, hlen with
  | [c0, c1], _ =>
    simp [Sl.rep, St.rep] at e0 g0
    simp [Sl.rep, St.rep] at e1 g1
    exact ⟨by simp [*, Value.oneCell'], ⟨a0, a1⟩, by simp [Sl.rep, St.rep, *], ⟨w0, w1⟩⟩
def Mk.rep (a : Mk) : List Value := (St.rep) a.act ++ (fun s : ByteArray => [.string s]) a.key
structure Mk.ok (W : World) (a : Mk) : Prop where
  act : (St.ok W) a.act
  key : (fun s : ByteArray => s.size ≤ maxLen) a.key
set_option maxRecDepth 100000 in
theorem rd_Mk {H : Type} {enc : TypeId × Value → H} {W : World} {base : Nat} {held : Bool} : Rd enc Try.prog W base held 38 Mk.rep (Mk.ok W) := fun n cs x h => by
  obtain ⟨xs, n1, _, _, hlen, hx, hf⟩ := DataW.trod_struct Try.underlying38 h
  rw [show Try.prog.cellsOf 38 = 3 by kernel_rfl] at hlen
  have f0 : DataW.trod enc Try.prog W base (fun _ => true) held n1 23 ((cs.drop 0).take (Try.prog.cellsOf 23)) = xs[0]? := hf 0 _ rfl
  rw [show Try.prog.cellsOf 23 = 2 by kernel_rfl] at f0
  obtain ⟨y0, h0⟩ := at_some2 hx (by decide) f0
  obtain ⟨g0, a0, e0, w0⟩ := (rd_St : Rd _ _ _ _ _ _ (St.rep) (St.ok W)) _ _ _ h0
  have f1 : DataW.trod enc Try.prog W base (fun _ => true) held n1 9 ((cs.drop 2).take (Try.prog.cellsOf 9)) = xs[1]? := hf 1 _ rfl
  rw [show Try.prog.cellsOf 9 = 1 by kernel_rfl] at f1
  obtain ⟨y1, h1⟩ := at_some2 hx (by decide) f1
  obtain ⟨g1, a1, e1, w1⟩ := (rd_string Try.underlying9 : Rd _ _ _ _ _ _ (fun s : ByteArray => [.string s]) (fun s : ByteArray => s.size ≤ maxLen)) _ _ _ h1
  match cs, hlen with
  | [c0, c1, c2], _ =>
    simp [Sl.rep, St.rep, Mk.rep] at e0 g0
    simp [Sl.rep, St.rep, Mk.rep] at e1 g1
    exact ⟨by simp [*, Value.oneCell'], ⟨a0, a1⟩, by simp [Sl.rep, St.rep, Mk.rep, *], ⟨w0, w1⟩⟩
theorem addS_doc {s : Sn} (h : s.ok) (m : Mk) : allS (addS s m) = addD s.room (allS s) m := addS_all h m
/- quidnunc/quidnunclaw18.SeenPlays -/
noncomputable def c4_1 : ACode := .region false [⟨some 5, .box 0, [.t 2], none⟩,
  ⟨some 6, .move, [.c (.val (.bool false))], none⟩] [] [] [0, 1, 5] true [] []
noncomputable def c4_4 : ACode := .region false [⟨some 15, .call 22, [], none⟩,
  ⟨some 16, .un .not, [.t 15], none⟩,
  ⟨some 17, .move, [.t 16], none⟩,
  ⟨some 18, .move, [.t 1], some (some 17, false)⟩,
  ⟨some 19, .call 23, [.t 18], some (some 17, false)⟩,
  ⟨some 20, .un .not, [.t 19], some (some 17, false)⟩,
  ⟨some 21, .pick, [.t 17, .c (.val (.bool true)), .t 20], none⟩,
  ⟨some 22, .move, [.t 21], none⟩,
  ⟨some 23, .addr 2, [.t 5], some (some 22, false)⟩,
  ⟨some 24, .load false 1, [.t 23], some (some 22, false)⟩,
  ⟨some 25, .lenStr, [.t 24], some (some 22, false)⟩,
  ⟨some 26, .bin .gtr, [.t 25, .c (.val (.int .i64 40))], some (some 22, false)⟩,
  ⟨some 27, .pick, [.t 22, .c (.val (.bool true)), .t 26], none⟩] [] [] [0, 1, 5, 27] true [] []
noncomputable def c4_7 : ACode := .region false [⟨some 28, .call 22, [], none⟩,
  ⟨some 6, .move, [.t 28], none⟩] [] [] [6] true [] []
noncomputable def c4_6 : ACode := .seq c4_7 .ret
noncomputable def c4_5 : ACode := .cond (.t 27) c4_6 .skip
noncomputable def c4_3 : ACode := .seq c4_4 c4_5
noncomputable def c4_9 : ACode := .region false [⟨some 30, .move, [.t 0], none⟩,
  ⟨some 31, .call 24, [.t 30], none⟩,
  ⟨some 29, .move, [.t 31], none⟩,
  ⟨some 32, .ext 0, [.t 29], none⟩,
  ⟨some 33, .ext 1, [.t 29], none⟩,
  ⟨some 7, .move, [.t 32], none⟩,
  ⟨some 8, .move, [.t 33], none⟩] [] [] [0, 1, 5, 7, 8] true [] []
noncomputable def c4_11 : ACode := .region false [⟨some 35, .move, [.t 0], none⟩,
  ⟨some 36, .call 25, [.t 35], none⟩,
  ⟨some 34, .move, [.t 36], none⟩,
  ⟨some 37, .ext 0, [.t 34], none⟩,
  ⟨some 38, .ext 1, [.t 34], none⟩,
  ⟨some 9, .alloc [(.int .i64 0), (.slice none 0 0)], [], none⟩,
  ⟨none, .store 2, [.t 9, .t 37], none⟩,
  ⟨some 10, .move, [.t 38], none⟩] [] [] [1, 5, 7, 8, 9, 10] true [] []
noncomputable def c4_14 : ACode := .region false [⟨some 39, .move, [.t 8], none⟩,
  ⟨some 40, .move, [.t 10], none⟩,
  ⟨some 41, .bin .neq, [.t 39, .t 40], none⟩,
  ⟨some 42, .move, [.t 41], none⟩,
  ⟨some 43, .move, [.t 7], some (some 42, false)⟩,
  ⟨some 44, .eqP true, [.t 43, .c (.val (.pointer none))], some (some 42, false)⟩,
  ⟨some 45, .move, [.t 10], some (some 42, false)⟩,
  ⟨some 46, .bin .eql, [.t 45, .c (.val (.int .i64 0))], some (some 42, false)⟩,
  ⟨some 47, .eqB true, [.t 44, .t 46], some (some 42, false)⟩,
  ⟨some 48, .pick, [.t 42, .c (.val (.bool true)), .t 47], none⟩] [] [] [1, 5, 7, 9, 48] false [] []
noncomputable def c4_17 : ACode := .region false [⟨some 6, .move, [.c (.val (.bool false))], none⟩] [] [] [6] false [] []
noncomputable def c4_16 : ACode := .seq c4_17 .ret
noncomputable def c4_15 : ACode := .cond (.t 48) c4_16 .skip
noncomputable def c4_13 : ACode := .seq c4_14 c4_15
noncomputable def c4_20 : ACode := .region false [⟨some 49, .move, [.t 7], none⟩,
  ⟨some 50, .eqP false, [.t 49, .c (.val (.pointer none))], none⟩] [] [] [1, 5, 7, 9, 50] false [] []
noncomputable def c4_23 : ACode := .region false [⟨some 6, .move, [.c (.val (.bool true))], none⟩] [] [] [6] false [] []
noncomputable def c4_22 : ACode := .seq c4_23 .ret
noncomputable def c4_21 : ACode := .cond (.t 50) c4_22 .skip
noncomputable def c4_19 : ACode := .seq c4_20 c4_21
noncomputable def c4_26 : ACode := .region false [⟨some 51, .move, [.t 1], none⟩,
  ⟨some 52, .len, [.t 51], none⟩,
  ⟨some 53, .move, [.c (.val (.int .i64 0))], none⟩] [] [] [5, 7, 9, 51, 52, 53] false [] []
noncomputable def c4_30 : ACode := .region false [⟨some 54, .bin .lss, [.t 53, .t 52], none⟩] [] [] [5, 7, 9, 51, 52, 53, 54] false [] []
noncomputable def c4_32 : ACode := .cond (.t 54) .skip (.exit 0)
noncomputable def c4_36 : ACode := .region false [⟨some 55, .ixS 3, [.t 51, .t 53], none⟩,
  ⟨some 56, .load true 3, [.t 55], none⟩,
  ⟨some 12, .alloc [(.int .i64 0), (.int .i64 0), (.string ⟨#[]⟩)], [], none⟩,
  ⟨none, .store 3, [.t 12, .t 56], none⟩] [] [] [5, 7, 9, 12, 51, 52, 53] true [] []
noncomputable def c4_38 : ACode := .region false [⟨some 58, .load true 2, [.t 9], none⟩,
  ⟨some 59, .load true 3, [.t 12], none⟩,
  ⟨some 60, .call 26, [.t 58, .t 59], none⟩,
  ⟨some 57, .move, [.t 60], none⟩,
  ⟨some 61, .ext 0, [.t 57], none⟩,
  ⟨some 62, .ext 1, [.t 57], none⟩,
  ⟨some 13, .alloc [(.int .i64 0), (.slice none 0 0)], [], none⟩,
  ⟨none, .store 2, [.t 13, .t 61], none⟩,
  ⟨some 14, .move, [.t 62], none⟩] [] [] [5, 7, 9, 12, 13, 14, 51, 52, 53] true [] []
noncomputable def c4_40 : ACode := .region false [⟨some 63, .load true 2, [.t 13], none⟩,
  ⟨none, .store 2, [.t 9, .t 63], none⟩] [] [] [5, 7, 9, 12, 14, 51, 52, 53] true [] []
noncomputable def c4_42 : ACode := .region true [⟨some 64, .move, [.t 7], none⟩,
  ⟨some 65, .load true 3, [.t 12], none⟩,
  ⟨some 66, .call 28, [.t 65], none⟩,
  ⟨some 67, .call 27, [.t 64, .t 66], none⟩,
  ⟨some 68, .move, [.t 14], none⟩,
  ⟨some 69, .eqB true, [.t 67, .t 68], none⟩,
  ⟨some 70, .move, [.t 69], none⟩,
  ⟨some 71, .move, [.t 7], some (some 70, false)⟩,
  ⟨some 72, .call 29, [.t 71], some (some 70, false)⟩,
  ⟨some 73, .addr 1, [.t 9], some (some 70, false)⟩,
  ⟨some 74, .load false 1, [.t 73], some (some 70, false)⟩,
  ⟨some 75, .len, [.t 74], some (some 70, false)⟩,
  ⟨some 76, .bin .neq, [.t 72, .t 75], some (some 70, false)⟩,
  ⟨some 77, .pick, [.t 70, .c (.val (.bool true)), .t 76], none⟩,
  ⟨some 78, .move, [.t 77], none⟩,
  ⟨some 79, .move, [.t 7], some (some 78, false)⟩,
  ⟨some 80, .load true 3, [.t 5], some (some 78, false)⟩,
  ⟨some 81, .call 28, [.t 80], some (some 78, false)⟩,
  ⟨some 82, .call 30, [.t 79, .t 81], some (some 78, false)⟩,
  ⟨some 83, .load true 2, [.t 9], some (some 78, false)⟩,
  ⟨some 84, .load true 3, [.t 5], some (some 78, false)⟩,
  ⟨some 85, .call 31, [.t 83, .t 84], some (some 78, false)⟩,
  ⟨some 86, .eqB true, [.t 82, .t 85], some (some 78, false)⟩,
  ⟨some 87, .pick, [.t 78, .c (.val (.bool true)), .t 86], none⟩,
  ⟨some 88, .move, [.t 87], none⟩,
  ⟨some 89, .move, [.t 7], some (some 88, false)⟩,
  ⟨some 90, .call 34, [.t 89], some (some 88, false)⟩,
  ⟨some 91, .call 33, [.t 90], some (some 88, false)⟩,
  ⟨some 92, .addr 1, [.t 9], some (some 88, false)⟩,
  ⟨some 93, .load false 1, [.t 92], some (some 88, false)⟩,
  ⟨some 94, .call 32, [.t 91, .t 93], some (some 88, false)⟩,
  ⟨some 95, .un .not, [.t 94], some (some 88, false)⟩,
  ⟨some 96, .pick, [.t 88, .c (.val (.bool true)), .t 95], none⟩] [] [] [5, 7, 9, 51, 52, 53, 96] true [] []
noncomputable def c4_45 : ACode := .region false [⟨some 6, .move, [.c (.val (.bool false))], none⟩] [] [] [6] false [] []
noncomputable def c4_44 : ACode := .seq c4_45 .ret
noncomputable def c4_43 : ACode := .cond (.t 96) c4_44 .skip
noncomputable def c4_41 : ACode := .seq c4_42 c4_43
noncomputable def c4_39 : ACode := .seq c4_40 c4_41
noncomputable def c4_37 : ACode := .seq c4_38 c4_39
noncomputable def c4_35 : ACode := .seq c4_36 c4_37
noncomputable def c4_34 : ACode := .block 1 c4_35
noncomputable def c4_46 : ACode := .region false [⟨some 97, .bin .add, [.t 53, .c (.val (.int .i64 1))], none⟩,
  ⟨some 53, .move, [.t 97], none⟩] [] [] [5, 7, 9, 51, 52, 53] false [] []
noncomputable def c4_33 : ACode := .seq c4_34 c4_46
noncomputable def c4_31 : ACode := .seq c4_32 c4_33
noncomputable def c4_29 : ACode := .seq c4_30 c4_31
noncomputable def c4_28 : ACode := .loop c4_29
noncomputable def c4_27 : ACode := .block 0 c4_28
noncomputable def c4_25 : ACode := .seq c4_26 c4_27
noncomputable def c4_48 : ACode := .region false [⟨some 6, .move, [.c (.val (.bool true))], none⟩] [] [] [6] false [] []
noncomputable def c4_47 : ACode := .seq c4_48 .ret
noncomputable def c4_24 : ACode := .seq c4_25 c4_47
noncomputable def c4_18 : ACode := .seq c4_19 c4_24
noncomputable def c4_12 : ACode := .seq c4_13 c4_18
noncomputable def c4_10 : ACode := .seq c4_11 c4_12
noncomputable def c4_8 : ACode := .seq c4_9 c4_10
noncomputable def c4_2 : ACode := .seq c4_3 c4_8
noncomputable def c4_0 : ACode := .seq c4_1 c4_2
noncomputable def code4 : Code := (Try.f4.body).getD .skip
theorem c4_ok : compC Try.prog 98 code4 = some (strip c4_0) := by kernel_rfl
theorem res4_ok : Try.f4.results.toList.mapM (resC Try.prog) = some [(6, none)] := by kernel_rfl
theorem seenPlays_walk (W : World) (room : Int) (sl : Sl Mk) (ask : Mk) (hz : Sl.ok W 3 Mk.rep (Mk.ok W) sl) :
    Calls Try.prog 4 #[.int .i64 room, .slice sl.ad sl.l.length sl.cap, .agg (Mk.rep ask).toArray] W fun e W' => e = .returned (.bool true) ∧ Below W.heap.size W W' := by
  obtain ⟨ad, off, cap, l⟩ := sl
  obtain ⟨hz, -, hl⟩ := hz
  have hl : l.length ≤ 9223372036854775807 := by simpa [maxLen] using hl
  simp only at hz
  have hr := rm_ren off l
  have hlen := rm_len off l
  have hsh := short18_any off l hl
  have hv : MkG ask = .agg ((Mk.rep ask).map .val) := by simp [Mk.rep, St.rep]
  have hone : ∀ x ∈ Mk.rep ask, x.oneCell' = true := by simp [Mk.rep, St.rep, Value.oneCell']
  by_cases hbad : shortL l = false ∨ 40 < ask.key.size
  · cases hs : shortL l with
    | false =>
      rw [hs] at hsh
      refine top_call c4_ok Try.func4 rfl Try.ntmps4 res4_ok [ .val (.int .i64 room), .val (.slice ad l.length cap), MkG ask] (by simp) (by (repeat' (first | exact VRs_nil' _ | exact VR_val' _ _ | (refine VRs_cons' ?_ ?_) | (refine VR_agg' (by first | rfl | assumption) ?_; first | assumption | simp [Value.oneCell', St.rep, Mk.rep])))) ?_; try simp (maxSteps := 9999999) (disch := omega) only [go_sem]
      refine AWpA.thawT 1 MkL hz (fun x => by simp [Mk.rep, St.rep]) rfl ?_
      (repeat' (first | refine AWpA.seq ?_ | refine AWpA.block ?_ | (with_reducible refine CondP.tt ?_) | (with_reducible refine CondP.ff ?_) | refine AWpA.condv (by simp (maxSteps := 9999999) (disch := omega) only [go_sem, hr]; rfl) ?_ | ((first | (apply AWpA.region; (focus (simp (maxSteps := 9999999) (disch := omega) only [go_sem, hr]; rfl))) | (apply AWpA.draw [] [] follows; (focus (first | rfl | decide)); (focus (simp (maxSteps := 9999999) (disch := omega) only [go_sem, hr]; rfl)); (focus (simp (maxSteps := 9999999) (disch := omega) only [go_sem, hr]; first | done | trivial)); (focus (simp (maxSteps := 9999999) (disch := omega) only [go_sem, hr]; rfl))) | (apply TailK.go; (focus (simp (maxSteps := 9999999) (disch := omega) only [go_sem, hr]; rfl))) | refine AWpA.skip ?_ | refine AWpA.exit ?_ | refine AWpA.ret ?_ | (with_reducible refine ARoundsA.succ ?_) | ((first | refine Runs.kt (by assumption) (fun h9 => ?_) | refine Runs.kf (by assumption) (fun h9 => ?_) | refine Runs.nt (by assumption) (fun h9 => ?_) | refine Runs.nf (by assumption) (fun h9 => ?_) | refine CondP.ht (by assumption) (fun h9 => ?_) | refine CondP.hf (by assumption) (fun h9 => ?_) | refine CondP.nt (by assumption) (fun h9 => ?_) | refine CondP.nf (by assumption) (fun h9 => ?_)); (try simp only [h9]); clear h9) | ((first | (with_reducible apply CallG.plain1 [] (speaks18)) | (with_reducible apply CallG.plain1 [0] (hsh)) | (with_reducible apply CallG.draw1 [] (speaks18)) | (with_reducible apply CallG.draw1 [0] (hsh))); (focus ((try refine And.intro (leAs_of_eq rfl) ?_); (try refine And.intro (leOL_of_eq rfl) ?_); simp (maxSteps := 9999999) (disch := omega) only [go_sem, hr]; first | done | (repeat' (first | rfl | (refine And.intro ?_ ?_))))); (focus (simp (maxSteps := 9999999) (disch := omega) only [go_sem, hr]; rfl)))); (try simp (maxSteps := 9999999) (disch := omega) only [go_sem, hr]); (try (refine And.intro ?_ ?_; (focus (first | omega | (simp only [go_sem]; done) | (simp; done) | (simp; omega) | assumption))))) | ((first | refine CondP.split (fun hif => ?_) (fun hif => ?_) | refine Runs.part (fun hif => ?_) (fun hif => ?_)) <;> ((try simp only [hif]); (try simp only [decide_eq_true_eq, decide_eq_false_iff_not, Bool.not_eq_true, Bool.not_eq_false, Bool.not_eq_true', Bool.not_eq_false', beq_iff_eq, bne_iff_ne, bne_eq_false_iff_eq, beq_eq_false_iff_ne, ne_eq, Bool.and_eq_true, Bool.or_eq_true, Bool.or_eq_false_iff] at hif); (try (have h9 : _ = true := hif; simp only [h9])); (try (have h9 : _ = false := hif; simp only [h9])); (try simp (maxSteps := 9999999) (disch := omega) only [go_sem, hr]); (try (refine And.intro ?_ ?_; (focus (first | omega | (simp only [go_sem]; done) | (simp; done) | (simp; omega) | assumption)))); (try (exfalso; omega; done))))))
      (refine TopPost.of (by first | exact .inl rfl | exact .inr rfl) (by (try simp (maxSteps := 9999999) (disch := omega) only [go_sem]); rfl) ?_; (try simp (maxSteps := 9999999) (disch := omega) only [go_sem]); (try (first | trivial | decide | (simp; done))))
    | true =>
      rw [hs] at hsh
      have g1 : ((40 : Int) < (ask.key.size : Int)) = True := eq_true (by simp [hs] at hbad; omega)
      refine top_call c4_ok Try.func4 rfl Try.ntmps4 res4_ok [ .val (.int .i64 room), .val (.slice ad l.length cap), MkG ask] (by simp) (by (repeat' (first | exact VRs_nil' _ | exact VR_val' _ _ | (refine VRs_cons' ?_ ?_) | (refine VR_agg' (by first | rfl | assumption) ?_; first | assumption | simp [Value.oneCell', St.rep, Mk.rep])))) ?_; try simp (maxSteps := 9999999) (disch := omega) only [go_sem]
      refine AWpA.thawT 1 MkL hz (fun x => by simp [Mk.rep, St.rep]) rfl ?_
      (repeat' (first | refine AWpA.seq ?_ | refine AWpA.block ?_ | (with_reducible refine CondP.tt ?_) | (with_reducible refine CondP.ff ?_) | refine AWpA.condv (by simp (maxSteps := 9999999) (disch := omega) only [go_sem, hr, g1]; rfl) ?_ | ((first | (apply AWpA.region; (focus (simp (maxSteps := 9999999) (disch := omega) only [go_sem, hr, g1]; rfl))) | (apply AWpA.draw [] [] follows; (focus (first | rfl | decide)); (focus (simp (maxSteps := 9999999) (disch := omega) only [go_sem, hr, g1]; rfl)); (focus (simp (maxSteps := 9999999) (disch := omega) only [go_sem, hr, g1]; first | done | trivial)); (focus (simp (maxSteps := 9999999) (disch := omega) only [go_sem, hr, g1]; rfl))) | (apply TailK.go; (focus (simp (maxSteps := 9999999) (disch := omega) only [go_sem, hr, g1]; rfl))) | refine AWpA.skip ?_ | refine AWpA.exit ?_ | refine AWpA.ret ?_ | (with_reducible refine ARoundsA.succ ?_) | ((first | refine Runs.kt (by assumption) (fun h9 => ?_) | refine Runs.kf (by assumption) (fun h9 => ?_) | refine Runs.nt (by assumption) (fun h9 => ?_) | refine Runs.nf (by assumption) (fun h9 => ?_) | refine CondP.ht (by assumption) (fun h9 => ?_) | refine CondP.hf (by assumption) (fun h9 => ?_) | refine CondP.nt (by assumption) (fun h9 => ?_) | refine CondP.nf (by assumption) (fun h9 => ?_)); (try simp only [h9]); clear h9) | ((first | (with_reducible apply CallG.plain1 [] (speaks18)) | (with_reducible apply CallG.plain1 [0] (hsh)) | (with_reducible apply CallG.draw1 [] (speaks18)) | (with_reducible apply CallG.draw1 [0] (hsh))); (focus ((try refine And.intro (leAs_of_eq rfl) ?_); (try refine And.intro (leOL_of_eq rfl) ?_); simp (maxSteps := 9999999) (disch := omega) only [go_sem, hr, g1]; first | done | (repeat' (first | rfl | (refine And.intro ?_ ?_))))); (focus (simp (maxSteps := 9999999) (disch := omega) only [go_sem, hr, g1]; rfl)))); (try simp (maxSteps := 9999999) (disch := omega) only [go_sem, hr, g1]); (try (refine And.intro ?_ ?_; (focus (first | omega | (simp only [go_sem]; done) | (simp; done) | (simp; omega) | assumption))))) | ((first | refine CondP.split (fun hif => ?_) (fun hif => ?_) | refine Runs.part (fun hif => ?_) (fun hif => ?_)) <;> ((try simp only [hif]); (try simp only [decide_eq_true_eq, decide_eq_false_iff_not, Bool.not_eq_true, Bool.not_eq_false, Bool.not_eq_true', Bool.not_eq_false', beq_iff_eq, bne_iff_ne, bne_eq_false_iff_eq, beq_eq_false_iff_ne, ne_eq, Bool.and_eq_true, Bool.or_eq_true, Bool.or_eq_false_iff] at hif); (try (have h9 : _ = true := hif; simp only [h9])); (try (have h9 : _ = false := hif; simp only [h9])); (try simp (maxSteps := 9999999) (disch := omega) only [go_sem, hr, g1]); (try (refine And.intro ?_ ?_; (focus (first | omega | (simp only [go_sem]; done) | (simp; done) | (simp; omega) | assumption)))); (try (exfalso; omega; done))))))
      (refine TopPost.of (by first | exact .inl rfl | exact .inr rfl) (by (try simp (maxSteps := 9999999) (disch := omega) only [go_sem]); rfl) ?_; (try simp (maxSteps := 9999999) (disch := omega) only [go_sem]); (try (first | trivial | decide | (simp; done))))
  have hs : shortL l = true := by cases h : shortL l <;> simp_all
  have g1 : ((40 : Int) < (ask.key.size : Int)) = False := eq_false (by simp [hs] at hbad; omega)
  rw [hs] at hsh
  have h80 : l.length ≤ 80 := by simp [shortL] at hs; exact hs.2
  by_cases hroom : 1 ≤ room ∧ room ≤ 1024
  rotate_left
  · have n1 := snew_no room hroom
    have n2 := rnew_no room hroom
    refine top_call c4_ok Try.func4 rfl Try.ntmps4 res4_ok [ .val (.int .i64 room), .val (.slice ad l.length cap), MkG ask] (by simp) (by (repeat' (first | exact VRs_nil' _ | exact VR_val' _ _ | (refine VRs_cons' ?_ ?_) | (refine VR_agg' (by first | rfl | assumption) ?_; first | assumption | simp [Value.oneCell', St.rep, Mk.rep])))) ?_; try simp (maxSteps := 9999999) (disch := omega) only [go_sem]
    refine AWpA.thawT 1 MkL hz (fun x => by simp [Mk.rep, St.rep]) rfl ?_
    (repeat' (first | refine AWpA.seq ?_ | refine AWpA.block ?_ | (with_reducible refine CondP.tt ?_) | (with_reducible refine CondP.ff ?_) | refine AWpA.condv (by simp (maxSteps := 9999999) (disch := omega) only [go_sem, hr, g1]; rfl) ?_ | ((first | (apply AWpA.region; (focus (simp (maxSteps := 9999999) (disch := omega) only [go_sem, hr, g1]; rfl))) | (apply AWpA.draw [] [] follows; (focus (first | rfl | decide)); (focus (simp (maxSteps := 9999999) (disch := omega) only [go_sem, hr, g1]; rfl)); (focus (simp (maxSteps := 9999999) (disch := omega) only [go_sem, hr, g1]; first | done | trivial)); (focus (simp (maxSteps := 9999999) (disch := omega) only [go_sem, hr, g1]; rfl))) | (apply TailK.go; (focus (simp (maxSteps := 9999999) (disch := omega) only [go_sem, hr, g1]; rfl))) | refine AWpA.skip ?_ | refine AWpA.exit ?_ | refine AWpA.ret ?_ | (with_reducible refine ARoundsA.succ ?_) | ((first | refine Runs.kt (by assumption) (fun h9 => ?_) | refine Runs.kf (by assumption) (fun h9 => ?_) | refine Runs.nt (by assumption) (fun h9 => ?_) | refine Runs.nf (by assumption) (fun h9 => ?_) | refine CondP.ht (by assumption) (fun h9 => ?_) | refine CondP.hf (by assumption) (fun h9 => ?_) | refine CondP.nt (by assumption) (fun h9 => ?_) | refine CondP.nf (by assumption) (fun h9 => ?_)); (try simp only [h9]); clear h9) | ((first | (with_reducible apply CallG.plain1 [] (speaks18)) | (with_reducible apply CallG.plain1 [0] (hsh)) | (with_reducible apply CallG.plain1 [] (n1)) | (with_reducible apply CallG.plain1 [] (n2)) | (with_reducible apply CallG.draw1 [] (speaks18)) | (with_reducible apply CallG.draw1 [0] (hsh)) | (with_reducible apply CallG.draw1 [] (n1)) | (with_reducible apply CallG.draw1 [] (n2))); (focus ((try refine And.intro (leAs_of_eq rfl) ?_); (try refine And.intro (leOL_of_eq rfl) ?_); simp (maxSteps := 9999999) (disch := omega) only [go_sem, hr, g1]; first | done | (repeat' (first | rfl | (refine And.intro ?_ ?_))))); (focus (simp (maxSteps := 9999999) (disch := omega) only [go_sem, hr, g1]; rfl)))); (try simp (maxSteps := 9999999) (disch := omega) only [go_sem, hr, g1]); (try (refine And.intro ?_ ?_; (focus (first | omega | (simp only [go_sem]; done) | (simp; done) | (simp; omega) | assumption))))) | ((first | refine CondP.split (fun hif => ?_) (fun hif => ?_) | refine Runs.part (fun hif => ?_) (fun hif => ?_)) <;> ((try simp only [hif]); (try simp only [decide_eq_true_eq, decide_eq_false_iff_not, Bool.not_eq_true, Bool.not_eq_false, Bool.not_eq_true', Bool.not_eq_false', beq_iff_eq, bne_iff_ne, bne_eq_false_iff_eq, beq_eq_false_iff_ne, ne_eq, Bool.and_eq_true, Bool.or_eq_true, Bool.or_eq_false_iff] at hif); (try (have h9 : _ = true := hif; simp only [h9])); (try (have h9 : _ = false := hif; simp only [h9])); (try simp (maxSteps := 9999999) (disch := omega) only [go_sem, hr, g1]); (try (refine And.intro ?_ ?_; (focus (first | omega | (simp only [go_sem]; done) | (simp; done) | (simp; omega) | assumption)))); (try (exfalso; omega; done))))))
    (refine TopPost.of (by first | exact .inl rfl | exact .inr rfl) (by (try simp (maxSteps := 9999999) (disch := omega) only [go_sem]); rfl) ?_; (try simp (maxSteps := 9999999) (disch := omega) only [go_sem]); (try (first | trivial | decide | (simp; done))))
  obtain ⟨n, rfl⟩ : ∃ n : Nat, room = (n : Int) := ⟨room.toNat, by omega⟩
  have n1 := snew_ok n (by omega) (by omega)
  have n2 := rnew_ok (n : Int) (by omega)
  have h1n : 1 ≤ n := by omega
  have h2n : n ≤ 1024 := by omega
  clear hbad hs
  have q0 : newS n = ⟨n, [], 0, []⟩ := rfl
  refine top_call c4_ok Try.func4 rfl Try.ntmps4 res4_ok [ .val (.int .i64 (n : Int)), .val (.slice ad l.length cap), MkG ask] (by simp) (by (repeat' (first | exact VRs_nil' _ | exact VR_val' _ _ | (refine VRs_cons' ?_ ?_) | (refine VR_agg' (by first | rfl | assumption) ?_; first | assumption | simp [Value.oneCell', St.rep, Mk.rep])))) ?_; try simp (maxSteps := 9999999) (disch := omega) only [go_sem]
  refine AWpA.thawT 1 MkL hz (fun x => by simp [Mk.rep, St.rep]) rfl ?_
  refine AWpA.dummy ?_
  (repeat' (first | refine AWpA.seq ?_ | refine AWpA.block ?_ | (with_reducible refine CondP.tt ?_) | (with_reducible refine CondP.ff ?_) | refine AWpA.condv (by simp (maxSteps := 9999999) (disch := omega) only [go_sem, hr, g1, ringC_ren]; rfl) ?_ | ((first | (apply AWpA.region; (focus (simp (maxSteps := 9999999) (disch := omega) only [go_sem, hr, g1, ringC_ren]; rfl))) | (apply AWpA.draw [] [] follows; (focus (first | rfl | decide)); (focus (simp (maxSteps := 9999999) (disch := omega) only [go_sem, hr, g1, ringC_ren]; rfl)); (focus (simp (maxSteps := 9999999) (disch := omega) only [go_sem, hr, g1, ringC_ren]; first | done | trivial)); (focus (simp (maxSteps := 9999999) (disch := omega) only [go_sem, hr, g1, ringC_ren]; rfl))) | (apply TailK.go; (focus (simp (maxSteps := 9999999) (disch := omega) only [go_sem, hr, g1, ringC_ren]; rfl))) | refine AWpA.skip ?_ | refine AWpA.exit ?_ | refine AWpA.ret ?_ | (with_reducible refine ARoundsA.succ ?_) | ((first | refine Runs.kt (by assumption) (fun h9 => ?_) | refine Runs.kf (by assumption) (fun h9 => ?_) | refine Runs.nt (by assumption) (fun h9 => ?_) | refine Runs.nf (by assumption) (fun h9 => ?_) | refine CondP.ht (by assumption) (fun h9 => ?_) | refine CondP.hf (by assumption) (fun h9 => ?_) | refine CondP.nt (by assumption) (fun h9 => ?_) | refine CondP.nf (by assumption) (fun h9 => ?_)); (try simp only [h9]); clear h9) | ((first | (with_reducible apply CallG.plain1 [] (speaks18)) | (with_reducible apply CallG.plain1 [0] (hsh)) | (with_reducible apply CallG.plain1 [] (n1)) | (with_reducible apply CallG.plain1 [] (n2)) | (with_reducible apply CallG.draw1 [] (speaks18)) | (with_reducible apply CallG.draw1 [0] (hsh)) | (with_reducible apply CallG.draw1 [] (n1)) | (with_reducible apply CallG.draw1 [] (n2))); (focus ((try refine And.intro (leAs_of_eq rfl) ?_); (try refine And.intro (leOL_of_eq rfl) ?_); simp (maxSteps := 9999999) (disch := omega) only [go_sem, hr, g1, ringC_ren]; first | done | (repeat' (first | rfl | (refine And.intro ?_ ?_))))); (focus (simp (maxSteps := 9999999) (disch := omega) only [go_sem, hr, g1, ringC_ren]; rfl)))); (try simp (maxSteps := 9999999) (disch := omega) only [go_sem, hr, g1, ringC_ren]); (try (refine And.intro ?_ ?_; (focus (first | omega | (simp only [go_sem]; done) | (simp; done) | (simp; omega) | assumption))))) | ((first | refine CondP.split (fun hif => ?_) (fun hif => ?_) | refine Runs.part (fun hif => ?_) (fun hif => ?_)) <;> ((try simp only [hif]); (try simp only [decide_eq_true_eq, decide_eq_false_iff_not, Bool.not_eq_true, Bool.not_eq_false, Bool.not_eq_true', Bool.not_eq_false', beq_iff_eq, bne_iff_ne, bne_eq_false_iff_eq, beq_eq_false_iff_ne, ne_eq, Bool.and_eq_true, Bool.or_eq_true, Bool.or_eq_false_iff] at hif); (try (have h9 : _ = true := hif; simp only [h9])); (try (have h9 : _ = false := hif; simp only [h9])); (try simp (maxSteps := 9999999) (disch := omega) only [go_sem, hr, g1, ringC_ren]); (try (refine And.intro ?_ ?_; (focus (first | omega | (simp only [go_sem]; done) | (simp; done) | (simp; omega) | assumption)))); (try (exfalso; omega; done))))))
  (apply AWpA.loopL (fun p : Nat × Sn × Nat => [(5, .ptr 1 0), (7, .ptr 2 0), (9, .ptr 5 0), (51, .sl 0 off l.length 3 none), (52, I l.length), (53, I p.1)]) (fun p => [.cells true (Rm off l), .cells false (MkL ask), SnO 3 4 false p.2.1, .cells false (ringC p.2.1), .map false (EsM p.2.1.mp), .cells false [I n, .sl 6 p.2.2 (allS p.2.1).length 3 none], .cells false (Rm p.2.2 (allS p.2.1))]) (fun p => l.length - p.1) (fun p => p.1 ≤ l.length ∧ p.2.1.ok ∧ p.2.1.room = n) ((0, newS n, 0)) [0, _, _, _, _, _, 1]; rotate_left; (focus (simp (maxSteps := 9999999) (disch := omega) only [go_sem, hr, rm_nil, ringC_ren, es_ren]; (try (repeat' (first | done | trivial | rfl | exact leAs_rfl _ | decide | (refine And.intro ?_ ?_) | (simp; done) | omega | (simp; decide)))))); rotate_right)
  · exact ⟨Nat.zero_le _, newS_ok h1n h2n, rfl⟩
  rintro ⟨i, s, o⟩ ⟨hi, hok, hrm⟩
  (try simp only at hi hok hrm)
  by_cases hin : i < l.length
  · have k1 : ((i : Int) < (l.length : Int)) = True := eq_true (by omega)
    have hat := rm_at off l i hin
    generalize l[i] = x at *
    have hdoc := addS_doc hok x
    have hok2 := addS_ok hok x
    have hrm2 : (addS s x).room = n := by rw [addS_room, hrm]
    have c1 := of10_any x
    have c2 := sadd_any hok x
    have c3 := slen_any (addS s x)
    have c4 := of10_any ask
    have c5 := shas_ok hok2 ask
    have c7 := sall_any hok2
    have hal := allS_len (addS s x)
    have hlb : (addS s x).ring.length ≤ 1024 := by have := hok2.len; omega
    have c8 := tos_any 0 (allS (addS s x)) (by omega)
    have hmem : decide (ask ∈ (addS s x).ring) = decide (ask ∈ allS (addS s x)) := by simp only [allS_mem]
    rw [hmem] at c5
    rw [hal] at c8 c7
    have hD := allS_len s
    have hDb := hok.len
    by_cases hx : x ∈ s.ring
    · have e : addS s x = s := by unfold addS; rw [if_pos hx]
      rw [decide_eq_true hx, Bool.not_true] at c2
      have r1 := radd_has (n : Int) o (allS s) x (by omega) ((allS_mem s x).2 hx)
      have r2 := rhas_any (n : Int) o (allS s) ask (by omega)
      have r3 := same10_any 0 o (allS s) (allS s) (by omega) (by omega)
      rw [decide_eq_true rfl, hD] at r3
      rw [hD] at r1 r2
      clear hdoc
      generalize addS s x = s2 at *
      subst e
      rw [hD]
      generalize decide (ask ∈ allS s2) = bq at *
      (try simp (maxSteps := 9999999) (disch := omega) only [go_sem])
      (repeat' (first | refine AWpA.seq ?_ | refine AWpA.block ?_ | (with_reducible refine CondP.tt ?_) | (with_reducible refine CondP.ff ?_) | refine AWpA.condv (by simp (maxSteps := 9999999) (disch := omega) only [go_sem, hr, k1, hlen, hat, ringC_ren, es_ren, rm_ren]; rfl) ?_ | ((first | (apply AWpA.region; (focus (simp (maxSteps := 9999999) (disch := omega) only [go_sem, hr, k1, hlen, hat, ringC_ren, es_ren, rm_ren]; rfl))) | (apply AWpA.draw [2, 3, 4] [] follows; (focus (first | rfl | decide)); (focus (simp (maxSteps := 9999999) (disch := omega) only [go_sem, hr, k1, hlen, hat, ringC_ren, es_ren, rm_ren]; rfl)); (focus (simp (maxSteps := 9999999) (disch := omega) only [go_sem, hr, k1, hlen, hat, ringC_ren, es_ren, rm_ren]; first | done | trivial)); (focus (simp (maxSteps := 9999999) (disch := omega) only [go_sem, hr, k1, hlen, hat, ringC_ren, es_ren, rm_ren]; rfl))) | (apply TailK.go; (focus (simp (maxSteps := 9999999) (disch := omega) only [go_sem, hr, k1, hlen, hat, ringC_ren, es_ren, rm_ren]; rfl))) | refine AWpA.skip ?_ | refine AWpA.exit ?_ | refine AWpA.ret ?_ | (with_reducible refine ARoundsA.succ ?_) | ((first | refine Runs.kt (by assumption) (fun h9 => ?_) | refine Runs.kf (by assumption) (fun h9 => ?_) | refine Runs.nt (by assumption) (fun h9 => ?_) | refine Runs.nf (by assumption) (fun h9 => ?_) | refine CondP.ht (by assumption) (fun h9 => ?_) | refine CondP.hf (by assumption) (fun h9 => ?_) | refine CondP.nt (by assumption) (fun h9 => ?_) | refine CondP.nf (by assumption) (fun h9 => ?_)); (try simp only [h9]); clear h9) | ((first | (with_reducible apply CallG.plain1 [6] (r1)) | (with_reducible apply CallG.draw1 [6] (r1))); (focus ((try refine And.intro (leAs_of_eq rfl) ?_); (try refine And.intro (leOL_of_eq rfl) ?_); simp (maxSteps := 9999999) (disch := omega) only [go_sem, hr, k1, hlen, hat, ringC_ren, es_ren, rm_ren]; first | done | (repeat' (first | rfl | (refine And.intro ?_ ?_))))); (focus (simp (maxSteps := 9999999) (disch := omega) only [go_sem, hr, k1, hlen, hat, ringC_ren, es_ren, rm_ren]; rfl))) | ((first | (with_reducible apply CallG.plain1 [] (c1)) | (with_reducible apply CallG.draw1 [] (c1))); (focus ((try refine And.intro (leAs_of_eq rfl) ?_); (try refine And.intro (leOL_of_eq rfl) ?_); simp (maxSteps := 9999999) (disch := omega) only [go_sem, hr, k1, hlen, hat, ringC_ren, es_ren, rm_ren]; first | done | (repeat' (first | rfl | (refine And.intro ?_ ?_))))); (focus (simp (maxSteps := 9999999) (disch := omega) only [go_sem, hr, k1, hlen, hat, ringC_ren, es_ren, rm_ren]; rfl))) | ((first | (with_reducible apply CallG.plain1 [2, 3, 4] (c2)) | (with_reducible apply CallG.draw1 [2, 3, 4] (c2))); (focus ((try refine And.intro (leAs_of_eq rfl) ?_); (try refine And.intro (leOL_of_eq rfl) ?_); simp (maxSteps := 9999999) (disch := omega) only [go_sem, hr, k1, hlen, hat, ringC_ren, es_ren, rm_ren]; first | done | (repeat' (first | rfl | (refine And.intro ?_ ?_))))); (focus (simp (maxSteps := 9999999) (disch := omega) only [go_sem, hr, k1, hlen, hat, ringC_ren, es_ren, rm_ren]; rfl))) | ((first | (with_reducible apply CallG.plain1 [2, 3, 4] (c3)) | (with_reducible apply CallG.draw1 [2, 3, 4] (c3))); (focus ((try refine And.intro (leAs_of_eq rfl) ?_); (try refine And.intro (leOL_of_eq rfl) ?_); simp (maxSteps := 9999999) (disch := omega) only [go_sem, hr, k1, hlen, hat, ringC_ren, es_ren, rm_ren]; first | done | (repeat' (first | rfl | (refine And.intro ?_ ?_))))); (focus (simp (maxSteps := 9999999) (disch := omega) only [go_sem, hr, k1, hlen, hat, ringC_ren, es_ren, rm_ren]; rfl))) | ((first | (with_reducible apply CallG.plain1 [] (c4)) | (with_reducible apply CallG.draw1 [] (c4))); (focus ((try refine And.intro (leAs_of_eq rfl) ?_); (try refine And.intro (leOL_of_eq rfl) ?_); simp (maxSteps := 9999999) (disch := omega) only [go_sem, hr, k1, hlen, hat, ringC_ren, es_ren, rm_ren]; first | done | (repeat' (first | rfl | (refine And.intro ?_ ?_))))); (focus (simp (maxSteps := 9999999) (disch := omega) only [go_sem, hr, k1, hlen, hat, ringC_ren, es_ren, rm_ren]; rfl))) | ((first | (with_reducible apply CallG.plain1 [2, 4] (c5)) | (with_reducible apply CallG.draw1 [2, 4] (c5))); (focus ((try refine And.intro (leAs_of_eq rfl) ?_); (try refine And.intro (leOL_of_eq rfl) ?_); simp (maxSteps := 9999999) (disch := omega) only [go_sem, hr, k1, hlen, hat, ringC_ren, es_ren, rm_ren]; first | done | (repeat' (first | rfl | (refine And.intro ?_ ?_))))); (focus (simp (maxSteps := 9999999) (disch := omega) only [go_sem, hr, k1, hlen, hat, ringC_ren, es_ren, rm_ren]; rfl))) | ((first | (with_reducible apply CallG.plain1 [6] (r2)) | (with_reducible apply CallG.draw1 [6] (r2))); (focus ((try refine And.intro (leAs_of_eq rfl) ?_); (try refine And.intro (leOL_of_eq rfl) ?_); simp (maxSteps := 9999999) (disch := omega) only [go_sem, hr, k1, hlen, hat, ringC_ren, es_ren, rm_ren]; first | done | (repeat' (first | rfl | (refine And.intro ?_ ?_))))); (focus (simp (maxSteps := 9999999) (disch := omega) only [go_sem, hr, k1, hlen, hat, ringC_ren, es_ren, rm_ren]; rfl))) | ((first | (with_reducible apply CallG.plain1 [2, 3, 4] (c7)) | (with_reducible apply CallG.draw1 [2, 3, 4] (c7))); (focus ((try refine And.intro (leAs_of_eq rfl) ?_); (try refine And.intro (leOL_of_eq rfl) ?_); simp (maxSteps := 9999999) (disch := omega) only [go_sem, hr, k1, hlen, hat, ringC_ren, es_ren, rm_ren]; first | done | (repeat' (first | rfl | (refine And.intro ?_ ?_))))); (focus (simp (maxSteps := 9999999) (disch := omega) only [go_sem, hr, k1, hlen, hat, ringC_ren, es_ren, rm_ren]; rfl))) | ((first | (with_reducible apply CallG.plain1 [679] (c8)) | (with_reducible apply CallG.draw1 [679] (c8))); (focus ((try refine And.intro (leAs_of_eq rfl) ?_); (try refine And.intro (leOL_of_eq rfl) ?_); simp (maxSteps := 9999999) (disch := omega) only [go_sem, hr, k1, hlen, hat, ringC_ren, es_ren, rm_ren]; first | done | (repeat' (first | rfl | (refine And.intro ?_ ?_))))); (focus (simp (maxSteps := 9999999) (disch := omega) only [go_sem, hr, k1, hlen, hat, ringC_ren, es_ren, rm_ren]; rfl))) | ((first | (with_reducible apply CallG.plain1 [695, 6] (r3)) | (with_reducible apply CallG.draw1 [695, 6] (r3))); (focus ((try refine And.intro (leAs_of_eq rfl) ?_); (try refine And.intro (leOL_of_eq rfl) ?_); simp (maxSteps := 9999999) (disch := omega) only [go_sem, hr, k1, hlen, hat, ringC_ren, es_ren, rm_ren]; first | done | (repeat' (first | rfl | (refine And.intro ?_ ?_))))); (focus (simp (maxSteps := 9999999) (disch := omega) only [go_sem, hr, k1, hlen, hat, ringC_ren, es_ren, rm_ren]; rfl)))); (try simp (maxSteps := 9999999) (disch := omega) only [go_sem, hr, k1, hlen, hat, ringC_ren, es_ren, rm_ren]); (try (refine And.intro ?_ ?_; (focus (first | omega | (simp only [go_sem]; done) | (simp; done) | (simp; omega) | assumption))))) | ((first | refine CondP.split (fun hif => ?_) (fun hif => ?_) | refine Runs.part (fun hif => ?_) (fun hif => ?_)) <;> ((try simp only [hif]); (try simp only [decide_eq_true_eq, decide_eq_false_iff_not, Bool.not_eq_true, Bool.not_eq_false, Bool.not_eq_true', Bool.not_eq_false', beq_iff_eq, bne_iff_ne, bne_eq_false_iff_eq, beq_eq_false_iff_ne, ne_eq, Bool.and_eq_true, Bool.or_eq_true, Bool.or_eq_false_iff] at hif); (try (have h9 : _ = true := hif; simp only [h9])); (try (have h9 : _ = false := hif; simp only [h9])); (try simp (maxSteps := 9999999) (disch := omega) only [go_sem, hr, k1, hlen, hat, ringC_ren, es_ren, rm_ren]); (try (refine And.intro ?_ ?_; (focus (first | omega | (simp only [go_sem]; done) | (simp; done) | (simp; omega) | assumption)))); (try (exfalso; omega; done))))))
      (apply Back.to (i + 1, s2, o) [0, 1, 2, 3, 4, 5, 6]; (focus ((try simp (maxSteps := 9999999) (disch := omega) only [go_sem, hr, ringC_ren, es_ren, rm_ren, allS_len]); first | done | omega)); rotate_left; (focus (simp (maxSteps := 9999999) (disch := omega) only [go_sem, hr, ringC_ren, es_ren, rm_ren, allS_len]; (try (repeat' (first | done | trivial | rfl | exact leAs_rfl _ | decide | (refine And.intro ?_ ?_) | (simp; done) | omega | (simp; decide)))))))
      exact ⟨by simp only; omega, hok, hrm⟩
    · rw [decide_eq_false hx, Bool.not_false] at c2
      obtain ⟨o2, r1⟩ := radd_new n o (allS s) x (by omega) h1n h2n (fun e => hx ((allS_mem s x).1 e))
      rw [← hrm, ← hdoc, hrm] at r1
      have r2 := rhas_any (n : Int) o2 (allS (addS s x)) ask (by omega)
      have r3 := same10_any 0 o2 (allS (addS s x)) (allS (addS s x)) (by omega) (by omega)
      rw [decide_eq_true rfl, hal] at r3
      rw [hD, hal] at r1
      rw [hal] at r2
      rw [hD]
      generalize decide (ask ∈ allS (addS s x)) = bq at *
      (try simp (maxSteps := 9999999) (disch := omega) only [go_sem])
      (repeat' (first | refine AWpA.seq ?_ | refine AWpA.block ?_ | (with_reducible refine CondP.tt ?_) | (with_reducible refine CondP.ff ?_) | refine AWpA.condv (by simp (maxSteps := 9999999) (disch := omega) only [go_sem, hr, k1, hlen, hat, ringC_ren, es_ren, rm_ren]; rfl) ?_ | ((first | (apply AWpA.region; (focus (simp (maxSteps := 9999999) (disch := omega) only [go_sem, hr, k1, hlen, hat, ringC_ren, es_ren, rm_ren]; rfl))) | (apply AWpA.draw [2, 3, 4] [] follows; (focus (first | rfl | decide)); (focus (simp (maxSteps := 9999999) (disch := omega) only [go_sem, hr, k1, hlen, hat, ringC_ren, es_ren, rm_ren]; rfl)); (focus (simp (maxSteps := 9999999) (disch := omega) only [go_sem, hr, k1, hlen, hat, ringC_ren, es_ren, rm_ren]; first | done | trivial)); (focus (simp (maxSteps := 9999999) (disch := omega) only [go_sem, hr, k1, hlen, hat, ringC_ren, es_ren, rm_ren]; rfl))) | (apply TailK.go; (focus (simp (maxSteps := 9999999) (disch := omega) only [go_sem, hr, k1, hlen, hat, ringC_ren, es_ren, rm_ren]; rfl))) | refine AWpA.skip ?_ | refine AWpA.exit ?_ | refine AWpA.ret ?_ | (with_reducible refine ARoundsA.succ ?_) | ((first | refine Runs.kt (by assumption) (fun h9 => ?_) | refine Runs.kf (by assumption) (fun h9 => ?_) | refine Runs.nt (by assumption) (fun h9 => ?_) | refine Runs.nf (by assumption) (fun h9 => ?_) | refine CondP.ht (by assumption) (fun h9 => ?_) | refine CondP.hf (by assumption) (fun h9 => ?_) | refine CondP.nt (by assumption) (fun h9 => ?_) | refine CondP.nf (by assumption) (fun h9 => ?_)); (try simp only [h9]); clear h9) | ((first | (with_reducible apply CallG.plain1 [6] (r1)) | (with_reducible apply CallG.draw1 [6] (r1))); (focus ((try refine And.intro (leAs_of_eq rfl) ?_); (try refine And.intro (leOL_of_eq rfl) ?_); simp (maxSteps := 9999999) (disch := omega) only [go_sem, hr, k1, hlen, hat, ringC_ren, es_ren, rm_ren]; first | done | (repeat' (first | rfl | (refine And.intro ?_ ?_))))); (focus (simp (maxSteps := 9999999) (disch := omega) only [go_sem, hr, k1, hlen, hat, ringC_ren, es_ren, rm_ren]; rfl))) | ((first | (with_reducible apply CallG.plain1 [] (c1)) | (with_reducible apply CallG.draw1 [] (c1))); (focus ((try refine And.intro (leAs_of_eq rfl) ?_); (try refine And.intro (leOL_of_eq rfl) ?_); simp (maxSteps := 9999999) (disch := omega) only [go_sem, hr, k1, hlen, hat, ringC_ren, es_ren, rm_ren]; first | done | (repeat' (first | rfl | (refine And.intro ?_ ?_))))); (focus (simp (maxSteps := 9999999) (disch := omega) only [go_sem, hr, k1, hlen, hat, ringC_ren, es_ren, rm_ren]; rfl))) | ((first | (with_reducible apply CallG.plain1 [2, 3, 4] (c2)) | (with_reducible apply CallG.draw1 [2, 3, 4] (c2))); (focus ((try refine And.intro (leAs_of_eq rfl) ?_); (try refine And.intro (leOL_of_eq rfl) ?_); simp (maxSteps := 9999999) (disch := omega) only [go_sem, hr, k1, hlen, hat, ringC_ren, es_ren, rm_ren]; first | done | (repeat' (first | rfl | (refine And.intro ?_ ?_))))); (focus (simp (maxSteps := 9999999) (disch := omega) only [go_sem, hr, k1, hlen, hat, ringC_ren, es_ren, rm_ren]; rfl))) | ((first | (with_reducible apply CallG.plain1 [2, 3, 4] (c3)) | (with_reducible apply CallG.draw1 [2, 3, 4] (c3))); (focus ((try refine And.intro (leAs_of_eq rfl) ?_); (try refine And.intro (leOL_of_eq rfl) ?_); simp (maxSteps := 9999999) (disch := omega) only [go_sem, hr, k1, hlen, hat, ringC_ren, es_ren, rm_ren]; first | done | (repeat' (first | rfl | (refine And.intro ?_ ?_))))); (focus (simp (maxSteps := 9999999) (disch := omega) only [go_sem, hr, k1, hlen, hat, ringC_ren, es_ren, rm_ren]; rfl))) | ((first | (with_reducible apply CallG.plain1 [] (c4)) | (with_reducible apply CallG.draw1 [] (c4))); (focus ((try refine And.intro (leAs_of_eq rfl) ?_); (try refine And.intro (leOL_of_eq rfl) ?_); simp (maxSteps := 9999999) (disch := omega) only [go_sem, hr, k1, hlen, hat, ringC_ren, es_ren, rm_ren]; first | done | (repeat' (first | rfl | (refine And.intro ?_ ?_))))); (focus (simp (maxSteps := 9999999) (disch := omega) only [go_sem, hr, k1, hlen, hat, ringC_ren, es_ren, rm_ren]; rfl))) | ((first | (with_reducible apply CallG.plain1 [2, 4] (c5)) | (with_reducible apply CallG.draw1 [2, 4] (c5))); (focus ((try refine And.intro (leAs_of_eq rfl) ?_); (try refine And.intro (leOL_of_eq rfl) ?_); simp (maxSteps := 9999999) (disch := omega) only [go_sem, hr, k1, hlen, hat, ringC_ren, es_ren, rm_ren]; first | done | (repeat' (first | rfl | (refine And.intro ?_ ?_))))); (focus (simp (maxSteps := 9999999) (disch := omega) only [go_sem, hr, k1, hlen, hat, ringC_ren, es_ren, rm_ren]; rfl))) | ((first | (with_reducible apply CallG.plain1 [119] (r2)) | (with_reducible apply CallG.draw1 [119] (r2))); (focus ((try refine And.intro (leAs_of_eq rfl) ?_); (try refine And.intro (leOL_of_eq rfl) ?_); simp (maxSteps := 9999999) (disch := omega) only [go_sem, hr, k1, hlen, hat, ringC_ren, es_ren, rm_ren]; first | done | (repeat' (first | rfl | (refine And.intro ?_ ?_))))); (focus (simp (maxSteps := 9999999) (disch := omega) only [go_sem, hr, k1, hlen, hat, ringC_ren, es_ren, rm_ren]; rfl))) | ((first | (with_reducible apply CallG.plain1 [2, 3, 4] (c7)) | (with_reducible apply CallG.draw1 [2, 3, 4] (c7))); (focus ((try refine And.intro (leAs_of_eq rfl) ?_); (try refine And.intro (leOL_of_eq rfl) ?_); simp (maxSteps := 9999999) (disch := omega) only [go_sem, hr, k1, hlen, hat, ringC_ren, es_ren, rm_ren]; first | done | (repeat' (first | rfl | (refine And.intro ?_ ?_))))); (focus (simp (maxSteps := 9999999) (disch := omega) only [go_sem, hr, k1, hlen, hat, ringC_ren, es_ren, rm_ren]; rfl))) | ((first | (with_reducible apply CallG.plain1 [679] (c8)) | (with_reducible apply CallG.draw1 [679] (c8))); (focus ((try refine And.intro (leAs_of_eq rfl) ?_); (try refine And.intro (leOL_of_eq rfl) ?_); simp (maxSteps := 9999999) (disch := omega) only [go_sem, hr, k1, hlen, hat, ringC_ren, es_ren, rm_ren]; first | done | (repeat' (first | rfl | (refine And.intro ?_ ?_))))); (focus (simp (maxSteps := 9999999) (disch := omega) only [go_sem, hr, k1, hlen, hat, ringC_ren, es_ren, rm_ren]; rfl))) | ((first | (with_reducible apply CallG.plain1 [695, 119] (r3)) | (with_reducible apply CallG.draw1 [695, 119] (r3))); (focus ((try refine And.intro (leAs_of_eq rfl) ?_); (try refine And.intro (leOL_of_eq rfl) ?_); simp (maxSteps := 9999999) (disch := omega) only [go_sem, hr, k1, hlen, hat, ringC_ren, es_ren, rm_ren]; first | done | (repeat' (first | rfl | (refine And.intro ?_ ?_))))); (focus (simp (maxSteps := 9999999) (disch := omega) only [go_sem, hr, k1, hlen, hat, ringC_ren, es_ren, rm_ren]; rfl)))); (try simp (maxSteps := 9999999) (disch := omega) only [go_sem, hr, k1, hlen, hat, ringC_ren, es_ren, rm_ren]); (try (refine And.intro ?_ ?_; (focus (first | omega | (simp only [go_sem]; done) | (simp; done) | (simp; omega) | assumption))))) | ((first | refine CondP.split (fun hif => ?_) (fun hif => ?_) | refine Runs.part (fun hif => ?_) (fun hif => ?_)) <;> ((try simp only [hif]); (try simp only [decide_eq_true_eq, decide_eq_false_iff_not, Bool.not_eq_true, Bool.not_eq_false, Bool.not_eq_true', Bool.not_eq_false', beq_iff_eq, bne_iff_ne, bne_eq_false_iff_eq, beq_eq_false_iff_ne, ne_eq, Bool.and_eq_true, Bool.or_eq_true, Bool.or_eq_false_iff] at hif); (try (have h9 : _ = true := hif; simp only [h9])); (try (have h9 : _ = false := hif; simp only [h9])); (try simp (maxSteps := 9999999) (disch := omega) only [go_sem, hr, k1, hlen, hat, ringC_ren, es_ren, rm_ren]); (try (refine And.intro ?_ ?_; (focus (first | omega | (simp only [go_sem]; done) | (simp; done) | (simp; omega) | assumption)))); (try (exfalso; omega; done))))))
      (apply Back.to (i + 1, addS s x, o2) [0, 1, 2, 3, 4, 5, 119]; (focus ((try simp (maxSteps := 9999999) (disch := omega) only [go_sem, hr, ringC_ren, es_ren, rm_ren, allS_len]); first | done | omega)); rotate_left; (focus (simp (maxSteps := 9999999) (disch := omega) only [go_sem, hr, ringC_ren, es_ren, rm_ren, allS_len]; (try (repeat' (first | done | trivial | rfl | exact leAs_rfl _ | decide | (refine And.intro ?_ ?_) | (simp; done) | omega | (simp; decide)))))))
      exact ⟨by simp only; omega, hok2, hrm2⟩
  · obtain rfl : i = l.length := by omega
    have k1 : ((l.length : Int) < (l.length : Int)) = False := eq_false (by omega)
    (try simp (maxSteps := 9999999) (disch := omega) only [go_sem])
    (repeat' (first | refine AWpA.seq ?_ | refine AWpA.block ?_ | (with_reducible refine CondP.tt ?_) | (with_reducible refine CondP.ff ?_) | refine AWpA.condv (by simp (maxSteps := 9999999) (disch := omega) only [go_sem, hr, k1]; rfl) ?_ | ((first | (apply AWpA.region; (focus (simp (maxSteps := 9999999) (disch := omega) only [go_sem, hr, k1]; rfl))) | (apply AWpA.draw [] [] follows; (focus (first | rfl | decide)); (focus (simp (maxSteps := 9999999) (disch := omega) only [go_sem, hr, k1]; rfl)); (focus (simp (maxSteps := 9999999) (disch := omega) only [go_sem, hr, k1]; first | done | trivial)); (focus (simp (maxSteps := 9999999) (disch := omega) only [go_sem, hr, k1]; rfl))) | (apply TailK.go; (focus (simp (maxSteps := 9999999) (disch := omega) only [go_sem, hr, k1]; rfl))) | refine AWpA.skip ?_ | refine AWpA.exit ?_ | refine AWpA.ret ?_ | (with_reducible refine ARoundsA.succ ?_) | ((first | refine Runs.kt (by assumption) (fun h9 => ?_) | refine Runs.kf (by assumption) (fun h9 => ?_) | refine Runs.nt (by assumption) (fun h9 => ?_) | refine Runs.nf (by assumption) (fun h9 => ?_) | refine CondP.ht (by assumption) (fun h9 => ?_) | refine CondP.hf (by assumption) (fun h9 => ?_) | refine CondP.nt (by assumption) (fun h9 => ?_) | refine CondP.nf (by assumption) (fun h9 => ?_)); (try simp only [h9]); clear h9)); (try simp (maxSteps := 9999999) (disch := omega) only [go_sem, hr, k1]); (try (refine And.intro ?_ ?_; (focus (first | omega | (simp only [go_sem]; done) | (simp; done) | (simp; omega) | assumption))))) | ((first | refine CondP.split (fun hif => ?_) (fun hif => ?_) | refine Runs.part (fun hif => ?_) (fun hif => ?_)) <;> ((try simp only [hif]); (try simp only [decide_eq_true_eq, decide_eq_false_iff_not, Bool.not_eq_true, Bool.not_eq_false, Bool.not_eq_true', Bool.not_eq_false', beq_iff_eq, bne_iff_ne, bne_eq_false_iff_eq, beq_eq_false_iff_ne, ne_eq, Bool.and_eq_true, Bool.or_eq_true, Bool.or_eq_false_iff] at hif); (try (have h9 : _ = true := hif; simp only [h9])); (try (have h9 : _ = false := hif; simp only [h9])); (try simp (maxSteps := 9999999) (disch := omega) only [go_sem, hr, k1]); (try (refine And.intro ?_ ?_; (focus (first | omega | (simp only [go_sem]; done) | (simp; done) | (simp; omega) | assumption)))); (try (exfalso; omega; done))))))
    (refine TopPost.of (by first | exact .inl rfl | exact .inr rfl) (by (try simp (maxSteps := 9999999) (disch := omega) only [go_sem]); rfl) ?_; (try simp (maxSteps := 9999999) (disch := omega) only [go_sem]); (try (first | trivial | decide | (simp; done))))
end Go.Proofs.Ytjcjmeeajkdlhaa
