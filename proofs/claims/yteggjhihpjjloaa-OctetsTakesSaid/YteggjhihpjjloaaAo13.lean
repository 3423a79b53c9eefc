/- OctetsTakes holds: whatever is taken from any bytes, what is told, what is left, and the first error, are the document's. No condition. -/
import Derived.Test.YteggjhihpjjloaaAo12
import Derived.Test.YteggjhihpjjloaaAb
namespace Go.Proofs.Yteggjhihpjjloaa
set_option linter.unusedSimpArgs false
set_option linter.unusedVariables false
set_option maxHeartbeats 4000000
open Go Go.Am Go.RowKit Go.ChangeShapes Go.WideShapes Go.ChangeAt
set_option maxRecDepth 100000
theorem rawA_le {e n left : Int} {a m : Nat} (h : a ≤ m) (hl : left = ((m - a : Nat) : Int)) : rawA e n left a ≤ m := by
  cases ho : rawOk e n left with
  | true =>
    obtain ⟨-, h1, h2, -, h3, -⟩ := rawOk_yes ho
    rw [h3]; omega
  | false => rw [(rawOk_no ho).2.1]; exact h
theorem rawC_le {L : List Int} {n : Int} {c : Cu} (h : c.a ≤ L.length) : (rawC L n c).a ≤ L.length := rawA_le h rfl
theorem numC_le {L : List Int} {n : Int} {c : Cu} (h : c.a ≤ L.length) : (numC L n c).a ≤ L.length := by
  unfold numC
  cases wideB n
  · exact h
  · exact rawC_le h
theorem flagC_le {L : List Int} {c : Cu} (h : c.a ≤ L.length) : (flagC L c).a ≤ L.length := by
  unfold flagC
  cases ho : rawOk c.e 1 (c.left L) with
  | true =>
    obtain ⟨-, h1, h2, -⟩ := rawOk_yes ho
    cases decide (1 < L.getD c.a 0)
    · simp only [cond_true, cond_false]; simp only [Cu.left] at h2; omega
    · exact h
  | false => exact h
theorem textC_le {L : List Int} {m : Int} {c : Cu} (hb : bytesB L) (h : c.a ≤ L.length) : (textC L m c).a ≤ L.length := by
  unfold textC
  cases ho : rawOk c.e 1 (c.left L) with
  | true =>
    obtain ⟨-, h1, h2, -⟩ := rawOk_yes ho
    cases decide (m < L.getD c.a 0)
    · cases h3 : decide (1 + L.getD c.a 0 ≤ c.left L)
      · exact h
      · simp only [Cu.left] at h2
        simp only [Cu.left, decide_eq_true_eq] at h3
        have hr := hb (L.getD c.a 0) (by rw [getD_get (by omega)]; exact List.getElem_mem _)
        simp only [cond_true, cond_false]
        omega
    · exact h
  | false => exact h
theorem rerr_any (err : Int) : ACall Try.prog 71 [.ptr 0 0] [.cells true [I err, .any]] (Det (I err) [.cells true [I err, .any]]) := by
  refine ACall.startA c71_ok Try.func71 rfl Try.ntmps71 (by kernel_rfl) res71_ok rfl rfl rfl ?_; simp (maxSteps := 9999999) (disch := omega) only [go_sem]
  (repeat' (first | refine AWpA.seq ?_ | refine AWpA.block ?_ | (with_reducible refine CondP.tt ?_) | (with_reducible refine CondP.ff ?_) | refine AWpA.condv (by simp (maxSteps := 9999999) (disch := omega) only [go_sem]; rfl) ?_ | ((first | (apply AWpA.region; (focus (simp (maxSteps := 9999999) (disch := omega) only [go_sem]; rfl))) | (apply AWpA.draw [] follows; (focus (simp (maxSteps := 9999999) (disch := omega) only [go_sem]; rfl)); (focus (simp (maxSteps := 9999999) (disch := omega) only [go_sem]; first | done | trivial)); (focus (simp (maxSteps := 9999999) (disch := omega) only [go_sem]; rfl))) | (apply TailK.go; (focus (simp (maxSteps := 9999999) (disch := omega) only [go_sem]; rfl))) | refine AWpA.skip ?_ | refine AWpA.exit ?_ | refine AWpA.ret ?_ | (with_reducible refine ARoundsA.succ ?_) | ((first | refine Runs.kt (by assumption) (fun h9 => ?_) | refine Runs.kf (by assumption) (fun h9 => ?_) | refine Runs.nt (by assumption) (fun h9 => ?_) | refine Runs.nf (by assumption) (fun h9 => ?_) | refine CondP.ht (by assumption) (fun h9 => ?_) | refine CondP.hf (by assumption) (fun h9 => ?_) | refine CondP.nt (by assumption) (fun h9 => ?_) | refine CondP.nf (by assumption) (fun h9 => ?_)); (try simp only [h9]); clear h9)); (try simp (maxSteps := 9999999) (disch := omega) only [go_sem]); (try (refine And.intro ?_ ?_; (focus (first | omega | (simp only [go_sem]; done) | (simp; done) | (simp; omega) | assumption))))) | ((first | refine CondP.split (fun hif => ?_) (fun hif => ?_) | refine Runs.part (fun hif => ?_) (fun hif => ?_)) <;> ((try simp only [hif]); (try simp only [decide_eq_true_eq, decide_eq_false_iff_not, Bool.not_eq_true, Bool.not_eq_false, Bool.not_eq_true', Bool.not_eq_false', beq_iff_eq, bne_iff_ne, bne_eq_false_iff_eq, beq_eq_false_iff_ne, ne_eq, Bool.and_eq_true, Bool.or_eq_true, Bool.or_eq_false_iff] at hif); (try (have h9 : _ = true := hif; simp only [h9])); (try (have h9 : _ = false := hif; simp only [h9])); (try simp (maxSteps := 9999999) (disch := omega) only [go_sem]); (try (refine And.intro ?_ ?_; (focus (first | omega | (simp only [go_sem]; done) | (simp; done) | (simp; omega) | assumption)))); (try (exfalso; omega; done))))))
  (apply Ret.det [0]; (focus (first | exact .inl rfl | exact .inr rfl)); (focus (simp (maxSteps := 9999999) (disch := omega) only [go_sem]; rfl)); (simp (maxSteps := 9999999) (disch := omega) only [go_sem]; (try (repeat' (first | done | trivial | rfl | exact leAs_rfl _ | decide | (refine And.intro ?_ ?_) | (simp; done) | omega | (simp; decide))))))
structure Tk where
  k : Int
  n : Int
def Tk.rep (a : Tk) : List Value := (fun n : Int => [.int .i64 n]) a.k ++ (fun n : Int => [.int .i64 n]) a.n
structure Tk.ok (W : World) (a : Tk) : Prop where
  k : (fun n : Int => IntKind.i64.min ≤ n ∧ n ≤ IntKind.i64.max) a.k
  n : (fun n : Int => IntKind.i64.min ≤ n ∧ n ≤ IntKind.i64.max) a.n
set_option maxRecDepth 100000 in
theorem rd_Tk {H : Type} {enc : TypeId × Value → H} {W : World} {base : Nat} {held : Bool} : Rd enc Try.prog W base held 106 Tk.rep (Tk.ok W) := fun n cs x h => by
  obtain ⟨xs, n1, _, _, hlen, hx, hf⟩ := DataW.trod_struct Try.underlying106 h
  rw [show Try.prog.cellsOf 106 = 2 by kernel_rfl] at hlen
  have f0 : DataW.trod enc Try.prog W base (fun _ => true) held n1 3 ((cs.drop 0).take (Try.prog.cellsOf 3)) = xs[0]? := hf 0 _ rfl
  rw [show Try.prog.cellsOf 3 = 1 by kernel_rfl] at f0
  obtain ⟨y0, h0⟩ := at_some2 hx (by decide) f0
  obtain ⟨g0, a0, e0, w0⟩ := (rd_int Try.underlying3 : Rd _ _ _ _ _ _ (fun n : Int => [.int .i64 n]) (fun n : Int => IntKind.i64.min ≤ n ∧ n ≤ IntKind.i64.max)) _ _ _ h0
  have f1 : DataW.trod enc Try.prog W base (fun _ => true) held n1 3 ((cs.drop 1).take (Try.prog.cellsOf 3)) = xs[1]? := hf 1 _ rfl
  rw [show Try.prog.cellsOf 3 = 1 by kernel_rfl] at f1
  obtain ⟨y1, h1⟩ := at_some2 hx (by decide) f1
  obtain ⟨g1, a1, e1, w1⟩ := (rd_int Try.underlying3 : Rd _ _ _ _ _ _ (fun n : Int => [.int .i64 n]) (fun n : Int => IntKind.i64.min ≤ n ∧ n ≤ IntKind.i64.max)) _ _ _ h1
  match cs, hlen with
  | [c0, c1], _ =>
    simp [Sl.rep, Tk.rep] at e0 g0
    simp [Sl.rep, Tk.rep] at e1 g1
    exact ⟨by simp [*, Value.oneCell'], ⟨a0, a1⟩, by simp [Sl.rep, Tk.rep, *], ⟨w0, w1⟩⟩
abbrev TkC (t : Tk) : List AV := [I t.k, I t.n]
/- quidnunc/quidnunclaw01.OctetsTakes -/
noncomputable def c10_1 : ACode := .region false [⟨some 4, .move, [.c (.val (.bool false))], none⟩] [] [] [0, 1] false [] []
noncomputable def c10_4 : ACode := .region false [⟨some 17, .call 33, [], none⟩,
  ⟨some 18, .un .not, [.t 17], none⟩,
  ⟨some 19, .move, [.t 18], none⟩,
  ⟨some 20, .move, [.t 0], some (some 19, false)⟩,
  ⟨some 21, .len, [.t 20], some (some 19, false)⟩,
  ⟨some 22, .bin .gtr, [.t 21, .c (.val (.int .i64 600))], some (some 19, false)⟩,
  ⟨some 23, .pick, [.t 19, .c (.val (.bool true)), .t 22], none⟩,
  ⟨some 24, .move, [.t 23], none⟩,
  ⟨some 25, .move, [.t 1], some (some 24, false)⟩,
  ⟨some 26, .len, [.t 25], some (some 24, false)⟩,
  ⟨some 27, .bin .gtr, [.t 26, .c (.val (.int .i64 40))], some (some 24, false)⟩,
  ⟨some 28, .pick, [.t 24, .c (.val (.bool true)), .t 27], none⟩] [] [] [0, 1, 28] true [] []
noncomputable def c10_7 : ACode := .region false [⟨some 29, .call 33, [], none⟩,
  ⟨some 4, .move, [.t 29], none⟩] [] [] [4] true [] []
noncomputable def c10_6 : ACode := .seq c10_7 .ret
noncomputable def c10_5 : ACode := .cond (.t 28) c10_6 .skip
noncomputable def c10_3 : ACode := .seq c10_4 c10_5
noncomputable def c10_9 : ACode := .region false [⟨some 30, .move, [.t 0], none⟩,
  ⟨some 31, .call 57, [.t 30], none⟩,
  ⟨some 5, .move, [.t 31], none⟩] [] [] [0, 1, 5] true [] []
noncomputable def c10_12 : ACode := .region false [⟨some 32, .move, [.t 5], none⟩,
  ⟨some 33, .eqP false, [.t 32, .c (.val (.pointer none))], none⟩] [] [] [0, 1, 5, 33] false [] []
noncomputable def c10_15 : ACode := .region false [⟨some 4, .move, [.c (.val (.bool false))], none⟩] [] [] [4] false [] []
noncomputable def c10_14 : ACode := .seq c10_15 .ret
noncomputable def c10_13 : ACode := .cond (.t 33) c10_14 .skip
noncomputable def c10_11 : ACode := .seq c10_12 c10_13
noncomputable def c10_17 : ACode := .region false [⟨some 34, .move, [.t 0], none⟩,
  ⟨some 35, .build [(.slice none 0 0), (.int .i64 0), (.int .i64 0)] [(0, 1)], [.t 34], none⟩,
  ⟨some 6, .alloc [(.slice none 0 0), (.int .i64 0), (.int .i64 0)], [], none⟩,
  ⟨none, .store 3, [.t 6, .t 35], none⟩] [] [] [0, 1, 5, 6] true [] []
noncomputable def c10_20 : ACode := .region false [⟨some 36, .move, [.t 1], none⟩,
  ⟨some 37, .len, [.t 36], none⟩,
  ⟨some 38, .move, [.c (.val (.int .i64 0))], none⟩] [] [] [0, 5, 6, 36, 37, 38] false [] []
noncomputable def c10_24 : ACode := .region false [⟨some 39, .bin .lss, [.t 38, .t 37], none⟩] [] [] [0, 5, 6, 36, 37, 38, 39] false [] []
noncomputable def c10_26 : ACode := .cond (.t 39) .skip (.exit 0)
noncomputable def c10_30 : ACode := .region false [⟨some 40, .ixS 2, [.t 36, .t 38], none⟩,
  ⟨some 41, .load true 2, [.t 40], none⟩,
  ⟨some 8, .alloc [(.int .i64 0), (.int .i64 0)], [], none⟩,
  ⟨none, .store 2, [.t 8, .t 41], none⟩] [] [] [0, 5, 6, 8, 36, 37, 38] true [] []
noncomputable def c10_33 : ACode := .region false [⟨some 42, .addr 0, [.t 8], none⟩,
  ⟨some 43, .load false 1, [.t 42], none⟩] [] [] [0, 5, 6, 8, 36, 37, 38, 43] false [] []
noncomputable def c10_36 : ACode := .region false [⟨some 52, .bin .eql, [.t 43, .c (.val (.int .i64 0))], none⟩,
  ⟨some 51, .move, [.t 52], none⟩] [] [] [0, 5, 6, 8, 36, 37, 38, 43, 51] false [] []
noncomputable def c10_39 : ACode := .region false [⟨some 54, .load true 3, [.t 6], none⟩,
  ⟨some 55, .addr 1, [.t 8], none⟩,
  ⟨some 56, .load false 1, [.t 55], none⟩,
  ⟨some 57, .call 61, [.t 54, .t 56], none⟩,
  ⟨some 53, .move, [.t 57], none⟩,
  ⟨some 58, .ext 0, [.t 53], none⟩,
  ⟨some 59, .ext 1, [.t 53], none⟩,
  ⟨some 9, .alloc [(.slice none 0 0), (.int .i64 0), (.int .i64 0)], [], none⟩,
  ⟨none, .store 3, [.t 9, .t 58], none⟩,
  ⟨some 10, .move, [.t 59], none⟩] [] [] [0, 5, 6, 8, 9, 10, 36, 37, 38] true [] []
noncomputable def c10_41 : ACode := .region false [⟨some 60, .load true 3, [.t 9], none⟩,
  ⟨none, .store 3, [.t 6, .t 60], none⟩] [] [] [0, 5, 6, 8, 10, 36, 37, 38] true [] []
noncomputable def c10_43 : ACode := .region false [⟨some 61, .move, [.t 5], none⟩,
  ⟨some 62, .addr 1, [.t 8], none⟩,
  ⟨some 63, .load false 1, [.t 62], none⟩,
  ⟨some 64, .call 62, [.t 61, .t 63], none⟩,
  ⟨some 65, .move, [.t 10], none⟩,
  ⟨some 66, .bin .neq, [.t 64, .t 65], none⟩] [] [] [0, 5, 6, 36, 37, 38, 66] true [] []
noncomputable def c10_46 : ACode := .region false [⟨some 4, .move, [.c (.val (.bool false))], none⟩] [] [] [4] false [] []
noncomputable def c10_45 : ACode := .seq c10_46 .ret
noncomputable def c10_44 : ACode := .cond (.t 66) c10_45 .skip
noncomputable def c10_42 : ACode := .seq c10_43 c10_44
noncomputable def c10_40 : ACode := .seq c10_41 c10_42
noncomputable def c10_38 : ACode := .seq c10_39 c10_40
noncomputable def c10_48 : ACode := .region false [⟨some 68, .bin .eql, [.t 43, .c (.val (.int .i64 1))], none⟩,
  ⟨some 67, .move, [.t 68], none⟩] [] [] [0, 5, 6, 8, 36, 37, 38, 43, 67] false [] []
noncomputable def c10_51 : ACode := .region false [⟨some 70, .load true 3, [.t 6], none⟩,
  ⟨some 71, .call 63, [.t 70], none⟩,
  ⟨some 69, .move, [.t 71], none⟩,
  ⟨some 72, .ext 0, [.t 69], none⟩,
  ⟨some 73, .ext 1, [.t 69], none⟩,
  ⟨some 11, .alloc [(.slice none 0 0), (.int .i64 0), (.int .i64 0)], [], none⟩,
  ⟨none, .store 3, [.t 11, .t 72], none⟩,
  ⟨some 12, .move, [.t 73], none⟩] [] [] [0, 5, 6, 11, 12, 36, 37, 38] true [] []
noncomputable def c10_53 : ACode := .region false [⟨some 74, .load true 3, [.t 11], none⟩,
  ⟨none, .store 3, [.t 6, .t 74], none⟩] [] [] [0, 5, 6, 12, 36, 37, 38] true [] []
noncomputable def c10_55 : ACode := .region false [⟨some 75, .move, [.t 5], none⟩,
  ⟨some 76, .call 64, [.t 75], none⟩,
  ⟨some 77, .move, [.t 12], none⟩,
  ⟨some 78, .eqB true, [.t 76, .t 77], none⟩] [] [] [0, 5, 6, 36, 37, 38, 78] true [] []
noncomputable def c10_58 : ACode := .region false [⟨some 4, .move, [.c (.val (.bool false))], none⟩] [] [] [4] false [] []
noncomputable def c10_57 : ACode := .seq c10_58 .ret
noncomputable def c10_56 : ACode := .cond (.t 78) c10_57 .skip
noncomputable def c10_54 : ACode := .seq c10_55 c10_56
noncomputable def c10_52 : ACode := .seq c10_53 c10_54
noncomputable def c10_50 : ACode := .seq c10_51 c10_52
noncomputable def c10_60 : ACode := .region false [⟨some 80, .bin .eql, [.t 43, .c (.val (.int .i64 2))], none⟩,
  ⟨some 79, .move, [.t 80], none⟩] [] [] [0, 5, 6, 8, 36, 37, 38, 43, 79] false [] []
noncomputable def c10_63 : ACode := .region false [⟨some 82, .load true 3, [.t 6], none⟩,
  ⟨some 83, .addr 1, [.t 8], none⟩,
  ⟨some 84, .load false 1, [.t 83], none⟩,
  ⟨some 85, .call 65, [.t 82, .t 84], none⟩,
  ⟨some 81, .move, [.t 85], none⟩,
  ⟨some 86, .ext 0, [.t 81], none⟩,
  ⟨some 87, .ext 1, [.t 81], none⟩,
  ⟨some 13, .alloc [(.slice none 0 0), (.int .i64 0), (.int .i64 0)], [], none⟩,
  ⟨none, .store 3, [.t 13, .t 86], none⟩,
  ⟨some 14, .move, [.t 87], none⟩] [] [] [0, 5, 6, 8, 13, 14, 36, 37, 38] true [] []
noncomputable def c10_65 : ACode := .region false [⟨some 88, .load true 3, [.t 13], none⟩,
  ⟨none, .store 3, [.t 6, .t 88], none⟩] [] [] [0, 5, 6, 8, 14, 36, 37, 38] true [] []
noncomputable def c10_67 : ACode := .region false [⟨some 89, .move, [.t 5], none⟩,
  ⟨some 90, .addr 1, [.t 8], none⟩,
  ⟨some 91, .load false 1, [.t 90], none⟩,
  ⟨some 92, .call 66, [.t 89, .t 91], none⟩,
  ⟨some 93, .move, [.t 14], none⟩,
  ⟨some 94, .bin .neq, [.t 92, .t 93], none⟩] [] [] [0, 5, 6, 36, 37, 38, 94] true [] []
noncomputable def c10_70 : ACode := .region false [⟨some 4, .move, [.c (.val (.bool false))], none⟩] [] [] [4] false [] []
noncomputable def c10_69 : ACode := .seq c10_70 .ret
noncomputable def c10_68 : ACode := .cond (.t 94) c10_69 .skip
noncomputable def c10_66 : ACode := .seq c10_67 c10_68
noncomputable def c10_64 : ACode := .seq c10_65 c10_66
noncomputable def c10_62 : ACode := .seq c10_63 c10_64
noncomputable def c10_72 : ACode := .region false [⟨some 96, .bin .eql, [.t 43, .c (.val (.int .i64 3))], none⟩,
  ⟨some 95, .move, [.t 96], none⟩] [] [] [0, 5, 6, 8, 36, 37, 38, 43, 95] false [] []
noncomputable def c10_75 : ACode := .region false [⟨some 98, .load true 3, [.t 6], none⟩,
  ⟨some 99, .addr 1, [.t 8], none⟩,
  ⟨some 100, .load false 1, [.t 99], none⟩,
  ⟨some 101, .call 67, [.t 98, .t 100], none⟩,
  ⟨some 97, .move, [.t 101], none⟩,
  ⟨some 102, .ext 0, [.t 97], none⟩,
  ⟨some 103, .ext 1, [.t 97], none⟩,
  ⟨some 15, .alloc [(.slice none 0 0), (.int .i64 0), (.int .i64 0)], [], none⟩,
  ⟨none, .store 3, [.t 15, .t 102], none⟩,
  ⟨some 16, .move, [.t 103], none⟩] [] [] [0, 5, 6, 8, 15, 16, 36, 37, 38] true [] []
noncomputable def c10_77 : ACode := .region false [⟨some 104, .load true 3, [.t 15], none⟩,
  ⟨none, .store 3, [.t 6, .t 104], none⟩] [] [] [0, 5, 6, 8, 16, 36, 37, 38] true [] []
noncomputable def c10_79 : ACode := .region false [⟨some 105, .move, [.t 5], none⟩,
  ⟨some 106, .addr 1, [.t 8], none⟩,
  ⟨some 107, .load false 1, [.t 106], none⟩,
  ⟨some 108, .call 58, [.t 105, .t 107], none⟩,
  ⟨some 109, .move, [.t 16], none⟩,
  ⟨some 110, .call 42, [.t 108, .t 109], none⟩,
  ⟨some 111, .un .not, [.t 110], none⟩] [] [] [0, 5, 6, 36, 37, 38, 111] true [] []
noncomputable def c10_82 : ACode := .region false [⟨some 4, .move, [.c (.val (.bool false))], none⟩] [] [] [4] false [] []
noncomputable def c10_81 : ACode := .seq c10_82 .ret
noncomputable def c10_80 : ACode := .cond (.t 111) c10_81 .skip
noncomputable def c10_78 : ACode := .seq c10_79 c10_80
noncomputable def c10_76 : ACode := .seq c10_77 c10_78
noncomputable def c10_74 : ACode := .seq c10_75 c10_76
noncomputable def c10_84 : ACode := .region false [⟨some 113, .bin .eql, [.t 43, .c (.val (.int .i64 4))], none⟩,
  ⟨some 112, .move, [.t 113], none⟩] [] [] [0, 5, 6, 8, 36, 37, 38, 112] false [] []
noncomputable def c10_87 : ACode := .region true [⟨some 114, .move, [.t 5], none⟩,
  ⟨some 115, .nilChk, [.t 114], none⟩,
  ⟨some 116, .addr 0, [.t 115], none⟩,
  ⟨some 117, .addr 1, [.t 8], none⟩,
  ⟨some 118, .load false 1, [.t 117], none⟩,
  ⟨some 119, .call 68, [.t 116, .t 118], none⟩] [] [] [0, 5, 6, 8, 36, 37, 38] true [] []
noncomputable def c10_89 : ACode := .region false [⟨some 120, .addr 2, [.t 6], none⟩,
  ⟨some 121, .load false 1, [.t 120], none⟩,
  ⟨some 122, .bin .eql, [.t 121, .c (.val (.int .i64 0))], none⟩] [] [] [0, 5, 6, 8, 36, 37, 38, 122] false [] []
noncomputable def c10_91 : ACode := .region false [⟨some 123, .addr 1, [.t 8], none⟩,
  ⟨some 124, .load false 1, [.t 123], none⟩,
  ⟨some 125, .addr 2, [.t 6], none⟩,
  ⟨none, .store 1, [.t 125, .t 124], none⟩] [] [] [0, 5, 6, 36, 37, 38] true [] []
noncomputable def c10_90 : ACode := .cond (.t 122) c10_91 .skip
noncomputable def c10_88 : ACode := .seq c10_89 c10_90
noncomputable def c10_86 : ACode := .seq c10_87 c10_88
noncomputable def c10_93 : ACode := .region false [⟨some 44, .load true 3, [.t 6], none⟩,
  ⟨some 45, .call 69, [.t 44], none⟩,
  ⟨none, .store 3, [.t 6, .t 45], none⟩] [] [] [0, 5, 6, 36, 37, 38] true [] []
noncomputable def c10_95 : ACode := .region true [⟨some 46, .move, [.t 5], none⟩,
  ⟨some 47, .call 70, [.t 46], none⟩,
  ⟨some 48, .addr 2, [.t 6], none⟩,
  ⟨some 49, .load false 1, [.t 48], none⟩,
  ⟨some 50, .bin .neq, [.t 47, .t 49], none⟩] [] [] [0, 5, 6, 36, 37, 38, 50] true [] []
noncomputable def c10_98 : ACode := .region false [⟨some 4, .move, [.c (.val (.bool false))], none⟩] [] [] [4] false [] []
noncomputable def c10_97 : ACode := .seq c10_98 .ret
noncomputable def c10_96 : ACode := .cond (.t 50) c10_97 .skip
noncomputable def c10_94 : ACode := .seq c10_95 c10_96
noncomputable def c10_92 : ACode := .seq c10_93 c10_94
noncomputable def c10_85 : ACode := .cond (.t 112) c10_86 c10_92
noncomputable def c10_83 : ACode := .seq c10_84 c10_85
noncomputable def c10_73 : ACode := .cond (.t 95) c10_74 c10_83
noncomputable def c10_71 : ACode := .seq c10_72 c10_73
noncomputable def c10_61 : ACode := .cond (.t 79) c10_62 c10_71
noncomputable def c10_59 : ACode := .seq c10_60 c10_61
noncomputable def c10_49 : ACode := .cond (.t 67) c10_50 c10_59
noncomputable def c10_47 : ACode := .seq c10_48 c10_49
noncomputable def c10_37 : ACode := .cond (.t 51) c10_38 c10_47
noncomputable def c10_35 : ACode := .seq c10_36 c10_37
noncomputable def c10_34 : ACode := .block 2 c10_35
noncomputable def c10_32 : ACode := .seq c10_33 c10_34
noncomputable def c10_100 : ACode := .region true [⟨some 126, .move, [.t 5], none⟩,
  ⟨some 127, .nilChk, [.t 126], none⟩,
  ⟨some 128, .addr 0, [.t 127], none⟩,
  ⟨some 129, .call 71, [.t 128], none⟩,
  ⟨some 130, .addr 2, [.t 6], none⟩,
  ⟨some 131, .load false 1, [.t 130], none⟩,
  ⟨some 132, .bin .neq, [.t 129, .t 131], none⟩,
  ⟨some 133, .move, [.t 132], none⟩,
  ⟨some 134, .move, [.t 5], some (some 133, false)⟩,
  ⟨some 135, .call 72, [.t 134], some (some 133, false)⟩,
  ⟨some 136, .move, [.t 0], some (some 133, false)⟩,
  ⟨some 137, .len, [.t 136], some (some 133, false)⟩,
  ⟨some 138, .addr 1, [.t 6], some (some 133, false)⟩,
  ⟨some 139, .load false 1, [.t 138], some (some 133, false)⟩,
  ⟨some 140, .bin .sub, [.t 137, .t 139], some (some 133, false)⟩,
  ⟨some 141, .bin .neq, [.t 135, .t 140], some (some 133, false)⟩,
  ⟨some 142, .pick, [.t 133, .c (.val (.bool true)), .t 141], none⟩] [] [] [0, 5, 6, 36, 37, 38, 142] true [] []
noncomputable def c10_103 : ACode := .region false [⟨some 4, .move, [.c (.val (.bool false))], none⟩] [] [] [4] false [] []
noncomputable def c10_102 : ACode := .seq c10_103 .ret
noncomputable def c10_101 : ACode := .cond (.t 142) c10_102 .skip
noncomputable def c10_99 : ACode := .seq c10_100 c10_101
noncomputable def c10_31 : ACode := .seq c10_32 c10_99
noncomputable def c10_29 : ACode := .seq c10_30 c10_31
noncomputable def c10_28 : ACode := .block 1 c10_29
noncomputable def c10_104 : ACode := .region false [⟨some 143, .bin .add, [.t 38, .c (.val (.int .i64 1))], none⟩,
  ⟨some 38, .move, [.t 143], none⟩] [] [] [0, 5, 6, 36, 37, 38] false [] []
noncomputable def c10_27 : ACode := .seq c10_28 c10_104
noncomputable def c10_25 : ACode := .seq c10_26 c10_27
noncomputable def c10_23 : ACode := .seq c10_24 c10_25
noncomputable def c10_22 : ACode := .loop c10_23
noncomputable def c10_21 : ACode := .block 0 c10_22
noncomputable def c10_19 : ACode := .seq c10_20 c10_21
noncomputable def c10_106 : ACode := .region false [⟨some 4, .move, [.c (.val (.bool true))], none⟩] [] [] [4] false [] []
noncomputable def c10_105 : ACode := .seq c10_106 .ret
noncomputable def c10_18 : ACode := .seq c10_19 c10_105
noncomputable def c10_16 : ACode := .seq c10_17 c10_18
noncomputable def c10_10 : ACode := .seq c10_11 c10_16
noncomputable def c10_8 : ACode := .seq c10_9 c10_10
noncomputable def c10_2 : ACode := .seq c10_3 c10_8
noncomputable def c10_0 : ACode := .seq c10_1 c10_2
noncomputable def code10 : Code := (Try.f10.body).getD .skip
theorem c10_ok : compC Try.prog 144 code10 = some (strip c10_0) := by kernel_rfl
theorem res10_ok : Try.f10.results.toList.mapM (resC Try.prog) = some [(4, none)] := by kernel_rfl
theorem takes_walk (W : World) (b : Sl Int) (tl : Sl Tk) (hb : b.ok W 1 (fun n : Int => [.int .u8 n]) (fun n : Int => IntKind.u8.min ≤ n ∧ n ≤ IntKind.u8.max)) (ht : tl.ok W 2 Tk.rep (Tk.ok W)) :
    Calls Try.prog 10 #[.slice b.ad b.l.length b.cap, .slice tl.ad tl.l.length tl.cap] W fun e W' => e = .returned (.bool true) ∧ Below W.heap.size W W' := by
  obtain ⟨ad, off, cap, L⟩ := b
  obtain ⟨ad2, off2, cap2, ts⟩ := tl
  have hz := hb.fz
  have hall := hb.all
  have hz2 := ht.fz
  simp only at hz hall hz2
  have hby : bytesB L := hall
  have hr2 : ∀ ρ, renL ρ (rowsC off2 TkC ts) = rowsC off2 TkC ts := fun ρ => rowsC_ren (fun ρ x => by simp [renL, ren]) ρ ts
  by_cases h600 : 600 < L.length
  · have h1 : ((600 : Int) < (L.length : Int)) = True := eq_true (by omega)
    refine top_call c10_ok Try.func10 rfl Try.ntmps10 res10_ok [ .val (.slice ad L.length cap), .val (.slice ad2 ts.length cap2)] (by simp) (by (repeat' (first | exact VRs_nil' _ | exact VR_val' _ _ | (refine VRs_cons' ?_ ?_) | (refine VR_agg' rfl ?_; simp [Value.oneCell', Tk.rep])))) ?_; try simp (maxSteps := 9999999) (disch := omega) only [go_sem]
    (repeat' (first | refine AWpA.seq ?_ | refine AWpA.block ?_ | (with_reducible refine CondP.tt ?_) | (with_reducible refine CondP.ff ?_) | refine AWpA.condv (by simp (maxSteps := 9999999) (disch := omega) only [go_sem, h1]; rfl) ?_ | ((first | (apply AWpA.region; (focus (simp (maxSteps := 9999999) (disch := omega) only [go_sem, h1]; rfl))) | (apply AWpA.draw [] follows; (focus (simp (maxSteps := 9999999) (disch := omega) only [go_sem, h1]; rfl)); (focus (simp (maxSteps := 9999999) (disch := omega) only [go_sem, h1]; first | done | trivial)); (focus (simp (maxSteps := 9999999) (disch := omega) only [go_sem, h1]; rfl))) | (apply TailK.go; (focus (simp (maxSteps := 9999999) (disch := omega) only [go_sem, h1]; rfl))) | refine AWpA.skip ?_ | refine AWpA.exit ?_ | refine AWpA.ret ?_ | (with_reducible refine ARoundsA.succ ?_) | ((first | refine Runs.kt (by assumption) (fun h9 => ?_) | refine Runs.kf (by assumption) (fun h9 => ?_) | refine Runs.nt (by assumption) (fun h9 => ?_) | refine Runs.nf (by assumption) (fun h9 => ?_) | refine CondP.ht (by assumption) (fun h9 => ?_) | refine CondP.hf (by assumption) (fun h9 => ?_) | refine CondP.nt (by assumption) (fun h9 => ?_) | refine CondP.nf (by assumption) (fun h9 => ?_)); (try simp only [h9]); clear h9) | ((first | (with_reducible apply CallG.plain1 [] (speaks_any)) | (with_reducible apply CallG.draw1 [] (speaks_any))); (focus ((try refine And.intro (leAs_of_eq rfl) ?_); (try refine And.intro (leOL_of_eq rfl) ?_); simp (maxSteps := 9999999) (disch := omega) only [go_sem, h1]; first | done | (repeat' (first | rfl | (refine And.intro ?_ ?_))))); (focus (simp (maxSteps := 9999999) (disch := omega) only [go_sem, h1]; rfl)))); (try simp (maxSteps := 9999999) (disch := omega) only [go_sem, h1]); (try (refine And.intro ?_ ?_; (focus (first | omega | (simp only [go_sem]; done) | (simp; done) | (simp; omega) | assumption))))) | ((first | refine CondP.split (fun hif => ?_) (fun hif => ?_) | refine Runs.part (fun hif => ?_) (fun hif => ?_)) <;> ((try simp only [hif]); (try simp only [decide_eq_true_eq, decide_eq_false_iff_not, Bool.not_eq_true, Bool.not_eq_false, Bool.not_eq_true', Bool.not_eq_false', beq_iff_eq, bne_iff_ne, bne_eq_false_iff_eq, beq_eq_false_iff_ne, ne_eq, Bool.and_eq_true, Bool.or_eq_true, Bool.or_eq_false_iff] at hif); (try (have h9 : _ = true := hif; simp only [h9])); (try (have h9 : _ = false := hif; simp only [h9])); (try simp (maxSteps := 9999999) (disch := omega) only [go_sem, h1]); (try (refine And.intro ?_ ?_; (focus (first | omega | (simp only [go_sem]; done) | (simp; done) | (simp; omega) | assumption)))); (try (exfalso; omega; done))))))
    (refine TopPost.of (by first | exact .inl rfl | exact .inr rfl) (by simp (maxSteps := 9999999) (disch := omega) only [go_sem]; rfl) ?_; simp (maxSteps := 9999999) (disch := omega) only [go_sem]; (try (first | trivial | decide | (simp; done))))
  by_cases h40 : 40 < ts.length
  · have h1 : ((600 : Int) < (L.length : Int)) = False := eq_false (by omega)
    have h2 : ((40 : Int) < (ts.length : Int)) = True := eq_true (by omega)
    refine top_call c10_ok Try.func10 rfl Try.ntmps10 res10_ok [ .val (.slice ad L.length cap), .val (.slice ad2 ts.length cap2)] (by simp) (by (repeat' (first | exact VRs_nil' _ | exact VR_val' _ _ | (refine VRs_cons' ?_ ?_) | (refine VR_agg' rfl ?_; simp [Value.oneCell', Tk.rep])))) ?_; try simp (maxSteps := 9999999) (disch := omega) only [go_sem]
    (repeat' (first | refine AWpA.seq ?_ | refine AWpA.block ?_ | (with_reducible refine CondP.tt ?_) | (with_reducible refine CondP.ff ?_) | refine AWpA.condv (by simp (maxSteps := 9999999) (disch := omega) only [go_sem, h1, h2]; rfl) ?_ | ((first | (apply AWpA.region; (focus (simp (maxSteps := 9999999) (disch := omega) only [go_sem, h1, h2]; rfl))) | (apply AWpA.draw [] follows; (focus (simp (maxSteps := 9999999) (disch := omega) only [go_sem, h1, h2]; rfl)); (focus (simp (maxSteps := 9999999) (disch := omega) only [go_sem, h1, h2]; first | done | trivial)); (focus (simp (maxSteps := 9999999) (disch := omega) only [go_sem, h1, h2]; rfl))) | (apply TailK.go; (focus (simp (maxSteps := 9999999) (disch := omega) only [go_sem, h1, h2]; rfl))) | refine AWpA.skip ?_ | refine AWpA.exit ?_ | refine AWpA.ret ?_ | (with_reducible refine ARoundsA.succ ?_) | ((first | refine Runs.kt (by assumption) (fun h9 => ?_) | refine Runs.kf (by assumption) (fun h9 => ?_) | refine Runs.nt (by assumption) (fun h9 => ?_) | refine Runs.nf (by assumption) (fun h9 => ?_) | refine CondP.ht (by assumption) (fun h9 => ?_) | refine CondP.hf (by assumption) (fun h9 => ?_) | refine CondP.nt (by assumption) (fun h9 => ?_) | refine CondP.nf (by assumption) (fun h9 => ?_)); (try simp only [h9]); clear h9) | ((first | (with_reducible apply CallG.plain1 [] (speaks_any)) | (with_reducible apply CallG.draw1 [] (speaks_any))); (focus ((try refine And.intro (leAs_of_eq rfl) ?_); (try refine And.intro (leOL_of_eq rfl) ?_); simp (maxSteps := 9999999) (disch := omega) only [go_sem, h1, h2]; first | done | (repeat' (first | rfl | (refine And.intro ?_ ?_))))); (focus (simp (maxSteps := 9999999) (disch := omega) only [go_sem, h1, h2]; rfl)))); (try simp (maxSteps := 9999999) (disch := omega) only [go_sem, h1, h2]); (try (refine And.intro ?_ ?_; (focus (first | omega | (simp only [go_sem]; done) | (simp; done) | (simp; omega) | assumption))))) | ((first | refine CondP.split (fun hif => ?_) (fun hif => ?_) | refine Runs.part (fun hif => ?_) (fun hif => ?_)) <;> ((try simp only [hif]); (try simp only [decide_eq_true_eq, decide_eq_false_iff_not, Bool.not_eq_true, Bool.not_eq_false, Bool.not_eq_true', Bool.not_eq_false', beq_iff_eq, bne_iff_ne, bne_eq_false_iff_eq, beq_eq_false_iff_ne, ne_eq, Bool.and_eq_true, Bool.or_eq_true, Bool.or_eq_false_iff] at hif); (try (have h9 : _ = true := hif; simp only [h9])); (try (have h9 : _ = false := hif; simp only [h9])); (try simp (maxSteps := 9999999) (disch := omega) only [go_sem, h1, h2]); (try (refine And.intro ?_ ?_; (focus (first | omega | (simp only [go_sem]; done) | (simp; done) | (simp; omega) | assumption)))); (try (exfalso; omega; done))))))
    (refine TopPost.of (by first | exact .inl rfl | exact .inr rfl) (by simp (maxSteps := 9999999) (disch := omega) only [go_sem]; rfl) ?_; simp (maxSteps := 9999999) (disch := omega) only [go_sem]; (try (first | trivial | decide | (simp; done))))
  have h1 : ((600 : Int) < (L.length : Int)) = False := eq_false (by omega)
  have h2 : ((40 : Int) < (ts.length : Int)) = False := eq_false (by omega)
  have s := Seg.rows (off := off) (l := L) (by omega)
  refine top_call c10_ok Try.func10 rfl Try.ntmps10 res10_ok [ .val (.slice ad L.length cap), .val (.slice ad2 ts.length cap2)] (by simp) (by (repeat' (first | exact VRs_nil' _ | exact VR_val' _ _ | (refine VRs_cons' ?_ ?_) | (refine VR_agg' rfl ?_; simp [Value.oneCell', Tk.rep])))) ?_; try simp (maxSteps := 9999999) (disch := omega) only [go_sem]
  refine AWpA.thawT 0 (fun n : Int => [.val (.int .u8 n)]) hz (fun _ => rfl) rfl ?_
  refine AWpA.thawT 1 TkC hz2 (fun x => by simp [Tk.rep]) rfl ?_
  generalize hP : rowsC off (fun n : Int => [.val (.int .u8 n)]) L = P at s
  have hle := s.le
  have hL : L.length ≤ 1099511627776 := by omega
  (repeat' (first | refine AWpA.seq ?_ | refine AWpA.block ?_ | (with_reducible refine CondP.tt ?_) | (with_reducible refine CondP.ff ?_) | refine AWpA.condv (by simp (maxSteps := 9999999) (disch := omega) only [go_sem, h1, h2, hr2, s.ren, s.seg, s.noAny]; rfl) ?_ | ((first | (apply AWpA.region; (focus (simp (maxSteps := 9999999) (disch := omega) only [go_sem, h1, h2, hr2, s.ren, s.seg, s.noAny]; rfl))) | (apply AWpA.draw [] follows; (focus (simp (maxSteps := 9999999) (disch := omega) only [go_sem, h1, h2, hr2, s.ren, s.seg, s.noAny]; rfl)); (focus (simp (maxSteps := 9999999) (disch := omega) only [go_sem, h1, h2, hr2, s.ren, s.seg, s.noAny]; first | done | trivial)); (focus (simp (maxSteps := 9999999) (disch := omega) only [go_sem, h1, h2, hr2, s.ren, s.seg, s.noAny]; rfl))) | (apply TailK.go; (focus (simp (maxSteps := 9999999) (disch := omega) only [go_sem, h1, h2, hr2, s.ren, s.seg, s.noAny]; rfl))) | refine AWpA.skip ?_ | refine AWpA.exit ?_ | refine AWpA.ret ?_ | (with_reducible refine ARoundsA.succ ?_) | ((first | refine Runs.kt (by assumption) (fun h9 => ?_) | refine Runs.kf (by assumption) (fun h9 => ?_) | refine Runs.nt (by assumption) (fun h9 => ?_) | refine Runs.nf (by assumption) (fun h9 => ?_) | refine CondP.ht (by assumption) (fun h9 => ?_) | refine CondP.hf (by assumption) (fun h9 => ?_) | refine CondP.nt (by assumption) (fun h9 => ?_) | refine CondP.nf (by assumption) (fun h9 => ?_)); (try simp only [h9]); clear h9) | ((first | (with_reducible apply CallG.plain1 [] (speaks_any)) | (with_reducible apply CallG.plain1 [0] (read_any s)) | (with_reducible apply CallG.draw1 [] (speaks_any)) | (with_reducible apply CallG.draw1 [0] (read_any s))); (focus ((try refine And.intro (leAs_of_eq rfl) ?_); (try refine And.intro (leOL_of_eq rfl) ?_); simp (maxSteps := 9999999) (disch := omega) only [go_sem, h1, h2, hr2, s.ren, s.seg, s.noAny]; first | done | (repeat' (first | rfl | (refine And.intro ?_ ?_))))); (focus (simp (maxSteps := 9999999) (disch := omega) only [go_sem, h1, h2, hr2, s.ren, s.seg, s.noAny]; rfl)))); (try simp (maxSteps := 9999999) (disch := omega) only [go_sem, h1, h2, hr2, s.ren, s.seg, s.noAny]); (try (refine And.intro ?_ ?_; (focus (first | omega | (simp only [go_sem]; done) | (simp; done) | (simp; omega) | assumption))))) | ((first | refine CondP.split (fun hif => ?_) (fun hif => ?_) | refine Runs.part (fun hif => ?_) (fun hif => ?_)) <;> ((try simp only [hif]); (try simp only [decide_eq_true_eq, decide_eq_false_iff_not, Bool.not_eq_true, Bool.not_eq_false, Bool.not_eq_true', Bool.not_eq_false', beq_iff_eq, bne_iff_ne, bne_eq_false_iff_eq, beq_eq_false_iff_ne, ne_eq, Bool.and_eq_true, Bool.or_eq_true, Bool.or_eq_false_iff] at hif); (try (have h9 : _ = true := hif; simp only [h9])); (try (have h9 : _ = false := hif; simp only [h9])); (try simp (maxSteps := 9999999) (disch := omega) only [go_sem, h1, h2, hr2, s.ren, s.seg, s.noAny]); (try (refine And.intro ?_ ?_; (focus (first | omega | (simp only [go_sem]; done) | (simp; done) | (simp; omega) | assumption)))); (try (exfalso; omega; done))))))
  (apply AWpA.loopL (fun k : Nat × Cu => [(0, .sl 0 off L.length 1 none), (5, .ptr 2 0), (6, .ptr 4 0), (36, .sl 1 off2 ts.length 2 none), (37, I ts.length), (38, I k.1)]) (fun k => [.cells true P, .cells true (rowsC off2 TkC ts), RdO 3 k.2.a L.length k.2.e, .cells false (bA L), .cells false [.sl 0 off L.length 1 none, I (k.2.a : Int), I k.2.e]]) (fun k => ts.length - k.1) (fun k => k.1 ≤ ts.length ∧ k.2.a ≤ L.length) ((0, ⟨0, 0⟩)) [0, 1, _, _, _]; rotate_left; (focus (simp (maxSteps := 9999999) (disch := omega) only [go_sem, s.ren, hr2]; (try (repeat' (first | done | trivial | rfl | exact leAs_rfl _ | decide | (refine And.intro ?_ ?_) | (simp; done) | omega | (simp; decide)))))); rotate_right)
  · exact ⟨Nat.zero_le _, Nat.zero_le _⟩
  rintro ⟨i, c⟩ ⟨hi, ha⟩
  simp only at hi ha
  by_cases hil : i < ts.length
  · have hlen : ∀ l : List Tk, (rowsC off2 TkC l).length = off2 + l.length * 2 := rowsC_len (fun _ => rfl)
    have hat := rowsC_at (off := off2) (f := TkC) (k := 2) (fun _ => rfl) ts i hil
    generalize ts[i] = t at hat
    have g1 : ((i : Int) < (ts.length : Int)) = True := eq_true (by omega)
    have hraw := rraw_any c.a L ha hL c.e t.n
    have hcraw := craw_any s c.a ha c.e t.n
    have hsame := same_any (Seg.all (rawL c.e t.n (L.length - c.a : Nat) c.a L) (by unfold rawL; cases rawOk c.e t.n (L.length - c.a : Nat) <;> simp <;> omega)) (s.sub (e := c.e) (n := t.n) (a := c.a) ha)
    rw [ba_self] at hsame
    have sub : ∀ a : Nat, a ≤ L.length → (L.length : Int) - (a : Int) = ((L.length - a : Nat) : Int) := fun a h => by omega
    have s1 := sub _ (numC_le (n := t.n) ha)
    have s2 := sub _ (flagC_le ha)
    have s3 := sub _ (textC_le (m := t.n) hby ha)
    have s4 := sub _ (rawC_le (n := t.n) ha)
    have s5 := sub _ ha
    have s6 : (doneC L c).a = c.a := rfl
    simp only [rawC, Cu.left] at s4
    have f0 : c.e = 0 → failI c.e t.n = t.n := fun h => by simp [failI, h]
    have f1 : ¬ c.e = 0 → failI c.e t.n = c.e := fun h => by simp [failI, h]
    simp (maxSteps := 9999999) (disch := omega) only [go_sem]
    (repeat' (first | refine AWpA.seq ?_ | refine AWpA.block ?_ | (with_reducible refine CondP.tt ?_) | (with_reducible refine CondP.ff ?_) | refine AWpA.condv (by simp (maxSteps := 9999999) (disch := omega) only [go_sem, g1, hlen, hat, TkC, s.ren, hr2, s1, s2, s3, s4, s5, s6]; rfl) ?_ | ((first | (apply AWpA.region; (focus (simp (maxSteps := 9999999) (disch := omega) only [go_sem, g1, hlen, hat, TkC, s.ren, hr2, s1, s2, s3, s4, s5, s6]; rfl))) | (apply AWpA.draw [2] follows; (focus (simp (maxSteps := 9999999) (disch := omega) only [go_sem, g1, hlen, hat, TkC, s.ren, hr2, s1, s2, s3, s4, s5, s6]; rfl)); (focus (simp (maxSteps := 9999999) (disch := omega) only [go_sem, g1, hlen, hat, TkC, s.ren, hr2, s1, s2, s3, s4, s5, s6]; first | done | trivial)); (focus (simp (maxSteps := 9999999) (disch := omega) only [go_sem, g1, hlen, hat, TkC, s.ren, hr2, s1, s2, s3, s4, s5, s6]; rfl))) | (apply TailK.go; (focus (simp (maxSteps := 9999999) (disch := omega) only [go_sem, g1, hlen, hat, TkC, s.ren, hr2, s1, s2, s3, s4, s5, s6]; rfl))) | refine AWpA.skip ?_ | refine AWpA.exit ?_ | refine AWpA.ret ?_ | (with_reducible refine ARoundsA.succ ?_) | ((first | refine Runs.kt (by assumption) (fun h9 => ?_) | refine Runs.kf (by assumption) (fun h9 => ?_) | refine Runs.nt (by assumption) (fun h9 => ?_) | refine Runs.nf (by assumption) (fun h9 => ?_) | refine CondP.ht (by assumption) (fun h9 => ?_) | refine CondP.hf (by assumption) (fun h9 => ?_) | refine CondP.nt (by assumption) (fun h9 => ?_) | refine CondP.nf (by assumption) (fun h9 => ?_)); (try simp only [h9]); clear h9) | ((first | (with_reducible apply CallG.plain1 [0] (ctake_any s hby c ha t.n)) | (with_reducible apply CallG.plain1 [2, 3] (rnum_any hL hby c ha t.n)) | (with_reducible apply CallG.plain1 [0] (cflag_any s c ha)) | (with_reducible apply CallG.plain1 [2, 3] (rflag_any hL c ha)) | (with_reducible apply CallG.plain1 [0] (ctext_any s hby c ha t.n)) | (with_reducible apply CallG.plain1 [2, 3] (rtext_any hL hby c ha t.n)) | (with_reducible apply CallG.plain1 [0] (hcraw)) | (with_reducible apply CallG.plain1 [2, 3] (hraw)) | (with_reducible apply CallG.plain1 [2, 3] (rfail_r c.a L c.e t.n)) | (with_reducible apply CallG.plain1 [0] (cdone_any s c ha)) | (with_reducible apply CallG.plain1 [2, 3] (rdone_any L c)) | (with_reducible apply CallG.plain1 [2] (rerr_any _)) | (with_reducible apply CallG.plain1 [2, 3] (left_any _ L 0)) | (with_reducible apply CallG.plain1 [_, _] (hsame)) | (with_reducible apply CallG.draw1 [0] (ctake_any s hby c ha t.n)) | (with_reducible apply CallG.draw1 [2, 3] (rnum_any hL hby c ha t.n)) | (with_reducible apply CallG.draw1 [0] (cflag_any s c ha)) | (with_reducible apply CallG.draw1 [2, 3] (rflag_any hL c ha)) | (with_reducible apply CallG.draw1 [0] (ctext_any s hby c ha t.n)) | (with_reducible apply CallG.draw1 [2, 3] (rtext_any hL hby c ha t.n)) | (with_reducible apply CallG.draw1 [0] (hcraw)) | (with_reducible apply CallG.draw1 [2, 3] (hraw)) | (with_reducible apply CallG.draw1 [2, 3] (rfail_r c.a L c.e t.n)) | (with_reducible apply CallG.draw1 [0] (cdone_any s c ha)) | (with_reducible apply CallG.draw1 [2, 3] (rdone_any L c)) | (with_reducible apply CallG.draw1 [2] (rerr_any _)) | (with_reducible apply CallG.draw1 [2, 3] (left_any _ L 0)) | (with_reducible apply CallG.draw1 [_, _] (hsame))); (focus ((try refine And.intro (leAs_of_eq rfl) ?_); (try refine And.intro (leOL_of_eq rfl) ?_); simp (maxSteps := 9999999) (disch := omega) only [go_sem, g1, hlen, hat, TkC, s.ren, hr2, s1, s2, s3, s4, s5, s6]; first | done | (repeat' (first | rfl | (refine And.intro ?_ ?_))))); (focus (simp (maxSteps := 9999999) (disch := omega) only [go_sem, g1, hlen, hat, TkC, s.ren, hr2, s1, s2, s3, s4, s5, s6]; rfl)))); (try simp (maxSteps := 9999999) (disch := omega) only [go_sem, g1, hlen, hat, TkC, s.ren, hr2, s1, s2, s3, s4, s5, s6]); (try (refine And.intro ?_ ?_; (focus (first | omega | (simp only [go_sem]; done) | (simp; done) | (simp; omega) | assumption))))) | ((first | refine CondP.split (fun hif => ?_) (fun hif => ?_) | refine Runs.part (fun hif => ?_) (fun hif => ?_)) <;> ((try simp only [hif]); (try simp only [decide_eq_true_eq, decide_eq_false_iff_not, Bool.not_eq_true, Bool.not_eq_false, Bool.not_eq_true', Bool.not_eq_false', beq_iff_eq, bne_iff_ne, bne_eq_false_iff_eq, beq_eq_false_iff_ne, ne_eq, Bool.and_eq_true, Bool.or_eq_true, Bool.or_eq_false_iff] at hif); (try (have h9 : _ = true := hif; simp only [h9])); (try (have h9 : _ = false := hif; simp only [h9])); (try simp (maxSteps := 9999999) (disch := omega) only [go_sem, g1, hlen, hat, TkC, s.ren, hr2, s1, s2, s3, s4, s5, s6]); (try (refine And.intro ?_ ?_; (focus (first | omega | (simp only [go_sem]; done) | (simp; done) | (simp; omega) | assumption)))); (try (exfalso; omega; done))))))
    · (apply Back.to (i + 1, numC L t.n c) [0, 1, 2, 3, 4]; (focus ((try simp (maxSteps := 9999999) (disch := omega) only [go_sem, s.ren, hr2]); first | done | omega)); rotate_left; (focus (simp (maxSteps := 9999999) (disch := omega) only [go_sem, s.ren, hr2]; (try (repeat' (first | done | trivial | rfl | exact leAs_rfl _ | decide | (refine And.intro ?_ ?_) | (simp; done) | omega | (simp; decide)))))))
      exact ⟨hil, numC_le ha⟩
    · (apply Back.to (i + 1, flagC L c) [0, 1, 2, 3, 4]; (focus ((try simp (maxSteps := 9999999) (disch := omega) only [go_sem, s.ren, hr2]); first | done | omega)); rotate_left; (focus (simp (maxSteps := 9999999) (disch := omega) only [go_sem, s.ren, hr2]; (try (repeat' (first | done | trivial | rfl | exact leAs_rfl _ | decide | (refine And.intro ?_ ?_) | (simp; done) | omega | (simp; decide)))))))
      exact ⟨hil, flagC_le ha⟩
    · (apply Back.to (i + 1, textC L t.n c) [0, 1, 2, 3, 4]; (focus ((try simp (maxSteps := 9999999) (disch := omega) only [go_sem, s.ren, hr2]); first | done | omega)); rotate_left; (focus (simp (maxSteps := 9999999) (disch := omega) only [go_sem, s.ren, hr2]; (try (repeat' (first | done | trivial | rfl | exact leAs_rfl _ | decide | (refine And.intro ?_ ?_) | (simp; done) | omega | (simp; decide)))))))
      exact ⟨hil, textC_le hby ha⟩
    · (apply Back.to (i + 1, rawC L t.n c) [0, 1, 2, 3, 4]; (focus ((try simp (maxSteps := 9999999) (disch := omega) only [go_sem, s.ren, hr2, rawC]); first | done | omega)); rotate_left; (focus (simp (maxSteps := 9999999) (disch := omega) only [go_sem, s.ren, hr2, rawC]; (try (repeat' (first | done | trivial | rfl | exact leAs_rfl _ | decide | (refine And.intro ?_ ?_) | (simp; done) | omega | (simp; decide)))))))
      exact ⟨hil, rawC_le ha⟩
    · (apply Back.to (i + 1, ⟨c.a, t.n⟩) [0, 1, 2, 3, 4]; (focus ((try simp (maxSteps := 9999999) (disch := omega) only [go_sem, s.ren, hr2, hif]); first | done | omega)); rotate_left; (focus (simp (maxSteps := 9999999) (disch := omega) only [go_sem, s.ren, hr2, hif]; (try (repeat' (first | done | trivial | rfl | exact leAs_rfl _ | decide | (refine And.intro ?_ ?_) | (simp; done) | omega | (simp; decide)))))))
      all_goals (first | exact ⟨hil, ha⟩ | rw [hif])
    · (apply Back.to (i + 1, c) [0, 1, 2, 3, 4]; (focus ((try simp (maxSteps := 9999999) (disch := omega) only [go_sem, s.ren, hr2, hif]); first | done | omega)); rotate_left; (focus (simp (maxSteps := 9999999) (disch := omega) only [go_sem, s.ren, hr2, hif]; (try (repeat' (first | done | trivial | rfl | exact leAs_rfl _ | decide | (refine And.intro ?_ ?_) | (simp; done) | omega | (simp; decide)))))))
      all_goals (first | exact ⟨hil, ha⟩ | rw [hif])
    · (apply Back.to (i + 1, doneC L c) [0, 1, 2, 3, 4]; (focus ((try simp (maxSteps := 9999999) (disch := omega) only [go_sem, s.ren, hr2]); first | done | omega)); rotate_left; (focus (simp (maxSteps := 9999999) (disch := omega) only [go_sem, s.ren, hr2]; (try (repeat' (first | done | trivial | rfl | exact leAs_rfl _ | decide | (refine And.intro ?_ ?_) | (simp; done) | omega | (simp; decide)))))))
      exact ⟨hil, ha⟩
  · have e : i = ts.length := by omega
    subst e
    simp (maxSteps := 9999999) (disch := omega) only [go_sem]
    (repeat' (first | refine AWpA.seq ?_ | refine AWpA.block ?_ | (with_reducible refine CondP.tt ?_) | (with_reducible refine CondP.ff ?_) | refine AWpA.condv (by simp (maxSteps := 9999999) (disch := omega) only [go_sem]; rfl) ?_ | ((first | (apply AWpA.region; (focus (simp (maxSteps := 9999999) (disch := omega) only [go_sem]; rfl))) | (apply AWpA.draw [] follows; (focus (simp (maxSteps := 9999999) (disch := omega) only [go_sem]; rfl)); (focus (simp (maxSteps := 9999999) (disch := omega) only [go_sem]; first | done | trivial)); (focus (simp (maxSteps := 9999999) (disch := omega) only [go_sem]; rfl))) | (apply TailK.go; (focus (simp (maxSteps := 9999999) (disch := omega) only [go_sem]; rfl))) | refine AWpA.skip ?_ | refine AWpA.exit ?_ | refine AWpA.ret ?_ | (with_reducible refine ARoundsA.succ ?_) | ((first | refine Runs.kt (by assumption) (fun h9 => ?_) | refine Runs.kf (by assumption) (fun h9 => ?_) | refine Runs.nt (by assumption) (fun h9 => ?_) | refine Runs.nf (by assumption) (fun h9 => ?_) | refine CondP.ht (by assumption) (fun h9 => ?_) | refine CondP.hf (by assumption) (fun h9 => ?_) | refine CondP.nt (by assumption) (fun h9 => ?_) | refine CondP.nf (by assumption) (fun h9 => ?_)); (try simp only [h9]); clear h9)); (try simp (maxSteps := 9999999) (disch := omega) only [go_sem]); (try (refine And.intro ?_ ?_; (focus (first | omega | (simp only [go_sem]; done) | (simp; done) | (simp; omega) | assumption))))) | ((first | refine CondP.split (fun hif => ?_) (fun hif => ?_) | refine Runs.part (fun hif => ?_) (fun hif => ?_)) <;> ((try simp only [hif]); (try simp only [decide_eq_true_eq, decide_eq_false_iff_not, Bool.not_eq_true, Bool.not_eq_false, Bool.not_eq_true', Bool.not_eq_false', beq_iff_eq, bne_iff_ne, bne_eq_false_iff_eq, beq_eq_false_iff_ne, ne_eq, Bool.and_eq_true, Bool.or_eq_true, Bool.or_eq_false_iff] at hif); (try (have h9 : _ = true := hif; simp only [h9])); (try (have h9 : _ = false := hif; simp only [h9])); (try simp (maxSteps := 9999999) (disch := omega) only [go_sem]); (try (refine And.intro ?_ ?_; (focus (first | omega | (simp only [go_sem]; done) | (simp; done) | (simp; omega) | assumption)))); (try (exfalso; omega; done))))))
    all_goals (refine TopPost.of (by first | exact .inl rfl | exact .inr rfl) (by simp (maxSteps := 9999999) (disch := omega) only [go_sem]; rfl) ?_; simp (maxSteps := 9999999) (disch := omega) only [go_sem]; (try (first | trivial | decide | (simp; done))))
set_option maxRecDepth 100000 in
theorem lifted_octetsTakes (os : Os) (started : os.Started) (H : Type) (enc : TypeId × Value → H) :
    ReturnsInHanded {} Try.checked os 10 .any (Rows.octetsTakesSpec.pre6 enc Try.prog Try.f10 Rows.octetsTakesRow.domain false) (Rows.octetsTakesSpec.post enc Try.prog Try.f10 false true false false) := by
  refine returnsInHanded_of_change (C := Try.checked) (by kernel_rfl) started (by kernel_rfl) Try.func10
    (ChangeSpec.witness6 (enc := enc) (C := Try.checked) false ⟨#[], #[.slice none 0 0, .slice none 0 0], []⟩ 8 (by kernel_rfl) (by kernel_rfl) (by kernel_rfl) (by kernel_rfl)) ?_
  intro W base args ds gs before hval0 hW hcnd _
  have hval : ∀ (j : Nat) t v, Try.f10.params[j]? = some t → args[j]? = some v → Value.okWide Try.prog W .any base t v := hval0
  have hW' := hW
  obtain ⟨p, q, hA0, hV, rfl, hfz, hnd⟩ := hW
  have hA : DataW.TrodAll enc Try.prog W 0 (fun _ => true) true Try.f10.params.toList args.toList ds p := hA0
  rw [Try.params10] at hA hval
  obtain ⟨v0, vs0, d0, ds0, p0, q0, hargs, rfl, rfl, h0, r0⟩ := trodAll_cons hA
  obtain ⟨v1, vs1, d1, ds1, p1, q1, rfl, rfl, rfl, h1, r1⟩ := trodAll_cons r0
  obtain ⟨rfl, rfl, rfl⟩ := trodAll_nil r1
  obtain rfl : args = #[v0, v1] := by cases args; simp_all
  obtain ⟨rfl, rfl⟩ := trodVars_none hV
  have lt0 : ∀ x ∈ p0, x.block < W.heap.size := by obtain ⟨m, hm⟩ := h0; exact DataW.trod_lt m _ _ _ hm
  have k0 := h0
  obtain ⟨a0, e0, w0, z0⟩ := rd_open (rd_slice Try.underlying51 (show Try.prog.cellsOf 5 = 1 by kernel_rfl) (by decide) (rd_int Try.underlying5)) h0
  obtain ⟨n0a, n0b, n0c, rfl⟩ := okWide_slice Try.underlying51 (hval 0 51 v0 rfl rfl)
  obtain ⟨rfl, rfl, rfl⟩ : n0a = a0.ad ∧ n0b = a0.l.length ∧ n0c = a0.cap := by simpa [Value.cells, Sl.rep] using e0
  clear e0
  have lt1 : ∀ x ∈ p1, x.block < W.heap.size := by obtain ⟨m, hm⟩ := h1; exact DataW.trod_lt m _ _ _ hm
  have k1 := h1
  obtain ⟨a1, e1, w1, z1⟩ := rd_open (rd_slice Try.underlying102 (show Try.prog.cellsOf 106 = 2 by kernel_rfl) (by decide) (rd_Tk)) h1
  obtain ⟨n1a, n1b, n1c, rfl⟩ := okWide_slice Try.underlying102 (hval 1 102 v1 rfl rfl)
  obtain ⟨rfl, rfl, rfl⟩ : n1a = a1.ad ∧ n1b = a1.l.length ∧ n1c = a1.cap := by simpa [Value.cells, Sl.rep] using e1
  clear e1
  clear hA0 hval0
  refine (takes_walk W a0 a1 w0 w1).mono fun r W' ⟨he, bel⟩ => ?_
  subst he
  exact ⟨_, rfl, _, _, _, [], _, [], hW', trodAll_mk1 (shut_bool Try.underlying4 _), (trodAll_cons_mk (Below.trod (show laidOutB Try.prog = true by kernel_rfl) (by kernel_rfl) (of_decide_eq_true (by kernel_rfl)) k0 bel lt0) (trodAll_cons_mk (Below.trod (show laidOutB Try.prog = true by kernel_rfl) (by kernel_rfl) (of_decide_eq_true (by kernel_rfl)) k1 bel lt1) trodAll_mk0)), rfl, bel.frame _, fun h => by cases h⟩

theorem octetsTakes_holds : Rows.OctetsTakesSaid :=
  OpenClaim.holds_of_wide 10 Try.f10 rfl rfl rfl rfl rfl rfl rfl ⟨rfl, rfl, rfl, rfl, rfl⟩ rfl rfl rfl rfl rfl (by kernel_rfl) Try.func10 (by kernel_rfl)
    (of_decide_eq_true (by kernel_rfl)) (by unfold Func.isWrapper; first | (rw [if_pos (by decide +kernel)]; kernel_rfl) | (rw [if_neg (by decide +kernel)]; exact ⟨rfl, rfl⟩))
    (fun os started H enc _ => lifted_octetsTakes os started H enc)
#print axioms octetsTakes_holds
end Go.Proofs.Yteggjhihpjjloaa
