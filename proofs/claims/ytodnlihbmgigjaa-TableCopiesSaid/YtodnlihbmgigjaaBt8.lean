/- Contracts: the example; are acts few? -/
import Derived.Test.YtodnlihbmgigjaaBt7
namespace Go.Proofs.Ytodnlihbmgigjaa
set_option linter.unusedSimpArgs false
set_option linter.unusedVariables false
set_option maxHeartbeats 4000000
open Go Go.Am Go.RowKit
set_option maxRecDepth 100000
/- quidnunc/quidnunclaw08.speaks -/
noncomputable def c7_1 : ACode := .region false [⟨some 0, .move, [.c (.val (.bool false))], none⟩] [] [] [] false [] []
noncomputable def c7_3 : ACode := .region false [⟨some 5, .call 14, [.c (.val (.int .i64 4))], none⟩,
  ⟨some 4, .move, [.t 5], none⟩,
  ⟨some 6, .ext 0, [.t 4], none⟩,
  ⟨some 7, .ext 1, [.t 4], none⟩,
  ⟨some 1, .move, [.t 6], none⟩,
  ⟨some 2, .move, [.t 7], none⟩] [] [] [1, 2] true [] []
noncomputable def c7_6 : ACode := .region false [⟨some 8, .move, [.t 2], none⟩,
  ⟨some 9, .bin .neq, [.t 8, .c (.val (.int .i64 0))], none⟩,
  ⟨some 10, .move, [.t 9], none⟩,
  ⟨some 11, .move, [.t 1], some (some 10, false)⟩,
  ⟨some 12, .eqP false, [.t 11, .c (.val (.pointer none))], some (some 10, false)⟩,
  ⟨some 13, .pick, [.t 10, .c (.val (.bool true)), .t 12], none⟩,
  ⟨some 14, .move, [.t 13], none⟩,
  ⟨some 15, .move, [.t 1], some (some 14, false)⟩,
  ⟨some 16, .call 15, [.t 15, .c (.val (.string ⟨#[98]⟩)), .c (.val (.int .i64 2))], some (some 14, false)⟩,
  ⟨some 17, .bin .neq, [.t 16, .c (.val (.int .i64 0))], some (some 14, false)⟩,
  ⟨some 18, .pick, [.t 14, .c (.val (.bool true)), .t 17], none⟩,
  ⟨some 19, .move, [.t 18], none⟩,
  ⟨some 20, .move, [.t 1], some (some 19, false)⟩,
  ⟨some 21, .call 15, [.t 20, .c (.val (.string ⟨#[97]⟩)), .c (.val (.int .i64 1))], some (some 19, false)⟩,
  ⟨some 22, .bin .neq, [.t 21, .c (.val (.int .i64 0))], some (some 19, false)⟩,
  ⟨some 23, .pick, [.t 19, .c (.val (.bool true)), .t 22], none⟩] [] [] [1, 23] true [] []
noncomputable def c7_9 : ACode := .region false [⟨some 0, .move, [.c (.val (.bool false))], none⟩] [] [] [0] false [] []
noncomputable def c7_8 : ACode := .seq c7_9 .ret
noncomputable def c7_7 : ACode := .cond (.t 23) c7_8 .skip
noncomputable def c7_5 : ACode := .seq c7_6 c7_7
noncomputable def c7_11 : ACode := .region false [⟨some 24, .move, [.t 1], none⟩,
  ⟨some 25, .call 16, [.t 24, .c (.val (.string ⟨#[]⟩)), .c (.val (.int .i64 9))], none⟩,
  ⟨some 3, .move, [.t 25], none⟩] [] [] [3] true [] []
noncomputable def c7_13 : ACode := .region false [⟨some 26, .move, [.t 3], none⟩,
  ⟨some 27, .len, [.t 26], none⟩,
  ⟨some 28, .bin .eql, [.t 27, .c (.val (.int .i64 2))], none⟩,
  ⟨some 29, .move, [.t 28], none⟩,
  ⟨some 30, .move, [.t 3], some (some 29, true)⟩,
  ⟨some 31, .ixS 2, [.t 30, .c (.val (.int .i64 0))], some (some 29, true)⟩,
  ⟨some 32, .load true 2, [.t 31], some (some 29, true)⟩,
  ⟨some 33, .build [(.string ⟨#[]⟩), (.int .i64 0)] [(0, 1), (1, 1)], [.c (.val (.string ⟨#[97]⟩)), .c (.val (.int .i64 1))], some (some 29, true)⟩,
  ⟨some 34, .eqA false [(0, 1), (1, 0)], [.t 32, .t 33], some (some 29, true)⟩,
  ⟨some 35, .pick, [.t 29, .t 34, .c (.val (.bool false))], none⟩,
  ⟨some 36, .move, [.t 35], none⟩,
  ⟨some 37, .move, [.t 3], some (some 36, true)⟩,
  ⟨some 38, .ixS 2, [.t 37, .c (.val (.int .i64 1))], some (some 36, true)⟩,
  ⟨some 39, .load true 2, [.t 38], some (some 36, true)⟩,
  ⟨some 40, .build [(.string ⟨#[]⟩), (.int .i64 0)] [(0, 1), (1, 1)], [.c (.val (.string ⟨#[98]⟩)), .c (.val (.int .i64 2))], some (some 36, true)⟩,
  ⟨some 41, .eqA false [(0, 1), (1, 0)], [.t 39, .t 40], some (some 36, true)⟩,
  ⟨some 42, .pick, [.t 36, .t 41, .c (.val (.bool false))], none⟩,
  ⟨some 0, .move, [.t 42], none⟩] [] [] [0] false [] []
noncomputable def c7_12 : ACode := .seq c7_13 .ret
noncomputable def c7_10 : ACode := .seq c7_11 c7_12
noncomputable def c7_4 : ACode := .seq c7_5 c7_10
noncomputable def c7_2 : ACode := .seq c7_3 c7_4
noncomputable def c7_0 : ACode := .seq c7_1 c7_2
noncomputable def code7 : Code := (Try.f7.body).getD .skip
theorem c7_ok : compC Try.prog 43 code7 = some (strip c7_0) := by kernel_rfl
theorem res7_ok : Try.f7.results.toList.mapM (resC Try.prog) = some [(0, none)] := by kernel_rfl
/- quidnunc/quidnunclaw08.few -/
noncomputable def c19_1 : ACode := .region false [⟨some 2, .move, [.c (.val (.bool false))], none⟩] [] [] [0] false [] []
noncomputable def c19_4 : ACode := .region false [⟨some 5, .move, [.t 0], none⟩,
  ⟨some 6, .len, [.t 5], none⟩,
  ⟨some 7, .move, [.c (.val (.int .i64 0))], none⟩] [] [] [0, 5, 6, 7] false [] []
noncomputable def c19_8 : ACode := .region false [⟨some 8, .bin .lss, [.t 7, .t 6], none⟩] [] [] [0, 5, 6, 7, 8] false [] []
noncomputable def c19_10 : ACode := .cond (.t 8) .skip (.exit 0)
noncomputable def c19_14 : ACode := .region false [⟨some 9, .ixS 5, [.t 5, .t 7], none⟩,
  ⟨some 10, .load true 5, [.t 9], none⟩,
  ⟨some 4, .alloc [(.int .i64 0), (.int .i64 0), (.string ⟨#[]⟩), (.string ⟨#[]⟩), (.int .i64 0)], [], none⟩,
  ⟨none, .store 5, [.t 4, .t 10], none⟩] [] [] [0, 4, 5, 6, 7] true [] []
noncomputable def c19_16 : ACode := .region false [⟨some 11, .addr 2, [.t 4], none⟩,
  ⟨some 12, .load false 1, [.t 11], none⟩,
  ⟨some 13, .lenStr, [.t 12], none⟩,
  ⟨some 14, .bin .gtr, [.t 13, .c (.val (.int .i64 40))], none⟩,
  ⟨some 15, .move, [.t 14], none⟩,
  ⟨some 16, .addr 3, [.t 4], some (some 15, false)⟩,
  ⟨some 17, .load false 1, [.t 16], some (some 15, false)⟩,
  ⟨some 18, .lenStr, [.t 17], some (some 15, false)⟩,
  ⟨some 19, .bin .gtr, [.t 18, .c (.val (.int .i64 40))], some (some 15, false)⟩,
  ⟨some 20, .pick, [.t 15, .c (.val (.bool true)), .t 19], none⟩] [] [] [0, 5, 6, 7, 20] false [] []
noncomputable def c19_19 : ACode := .region false [⟨some 2, .move, [.c (.val (.bool false))], none⟩] [] [] [2] false [] []
noncomputable def c19_18 : ACode := .seq c19_19 .ret
noncomputable def c19_17 : ACode := .cond (.t 20) c19_18 .skip
noncomputable def c19_15 : ACode := .seq c19_16 c19_17
noncomputable def c19_13 : ACode := .seq c19_14 c19_15
noncomputable def c19_12 : ACode := .block 1 c19_13
noncomputable def c19_20 : ACode := .region false [⟨some 21, .bin .add, [.t 7, .c (.val (.int .i64 1))], none⟩,
  ⟨some 7, .move, [.t 21], none⟩] [] [] [0, 5, 6, 7] false [] []
noncomputable def c19_11 : ACode := .seq c19_12 c19_20
noncomputable def c19_9 : ACode := .seq c19_10 c19_11
noncomputable def c19_7 : ACode := .seq c19_8 c19_9
noncomputable def c19_6 : ACode := .loop c19_7
noncomputable def c19_5 : ACode := .block 0 c19_6
noncomputable def c19_3 : ACode := .seq c19_4 c19_5
noncomputable def c19_22 : ACode := .region false [⟨some 22, .move, [.t 0], none⟩,
  ⟨some 23, .len, [.t 22], none⟩,
  ⟨some 24, .bin .leq, [.t 23, .c (.val (.int .i64 60))], none⟩,
  ⟨some 2, .move, [.t 24], none⟩] [] [] [2] false [] []
noncomputable def c19_21 : ACode := .seq c19_22 .ret
noncomputable def c19_2 : ACode := .seq c19_3 c19_21
noncomputable def c19_0 : ACode := .seq c19_1 c19_2
noncomputable def code19 : Code := (Try.f19.body).getD .skip
theorem c19_ok : compC Try.prog 25 code19 = some (strip c19_0) := by kernel_rfl
theorem res19_ok : Try.f19.results.toList.mapM (resC Try.prog) = some [(2, none)] := by kernel_rfl
theorem ltK_ba : ltK ⟨#[98]⟩ ⟨#[97]⟩ = false := by
  unfold ltK
  have h1 : (⟨#[98]⟩ : ByteArray).toList = [98] := by rw [ByteArray.toList, ByteArray.toList.loop, if_pos (by decide), ByteArray.toList.loop, if_neg (by decide)]; rfl
  have h2 : (⟨#[97]⟩ : ByteArray).toList = [97] := by rw [ByteArray.toList, ByteArray.toList.loop, if_pos (by decide), ByteArray.toList.loop, if_neg (by decide)]; rfl
  rw [h1, h2]
  decide
theorem sp_1 : putT ⟨4, []⟩ ⟨#[98]⟩ 2 = ⟨4, [⟨⟨#[98]⟩, 2⟩]⟩ := rfl
theorem sp_e1 : putE ⟨4, []⟩ ⟨#[98]⟩ = 0 := rfl
theorem sp_r : rankP [⟨⟨#[98]⟩, 2⟩] ⟨#[97]⟩ = 0 := by simp [rankP, List.takeWhile_cons, ltK_ba]
theorem sp_h : hasP' [⟨⟨#[98]⟩, 2⟩] ⟨#[97]⟩ = false := by unfold hasP'; rw [sp_r]; rfl
theorem sp_2 : putT ⟨4, [⟨⟨#[98]⟩, 2⟩]⟩ ⟨#[97]⟩ 1 = ⟨4, [⟨⟨#[97]⟩, 1⟩, ⟨⟨#[98]⟩, 2⟩]⟩ := by unfold putT putP; simp only [sp_h, sp_r]; rfl
theorem sp_e2 : putE ⟨4, [⟨⟨#[98]⟩, 2⟩]⟩ ⟨#[97]⟩ = 0 := by unfold putE; simp only [sp_h]; rfl
theorem ltK_ab : ltK ⟨#[97]⟩ ⟨#[98]⟩ = true := by
  cases e : ltK ⟨#[97]⟩ ⟨#[98]⟩ with
  | true => rfl
  | false => exact absurd (congrArg (fun b => b.data) (ltK_tri e ltK_ba)) (by decide)
theorem sp_rise : Rise [⟨⟨#[97]⟩, 1⟩, ⟨⟨#[98]⟩, 2⟩] := by
  unfold Rise
  simp [ltK_ab]
theorem sp_scan : scanP [⟨⟨#[97]⟩, 1⟩, ⟨⟨#[98]⟩, 2⟩] ⟨#[]⟩ 9 = [⟨⟨#[97]⟩, 1⟩, ⟨⟨#[98]⟩, 2⟩] := by
  have h : rankP [⟨⟨#[97]⟩, 1⟩, ⟨⟨#[98]⟩, 2⟩] ⟨#[]⟩ = 0 := by simp [rankP, List.takeWhile_cons, ltK_nil]
  unfold scanP
  rw [h]
  rfl
theorem speaks_any : ACall Try.prog 7 [] [] (Det (Bo true) []) := by
  have c := tnew_ok 4 (by decide)
  have d := tput_any ⟨4, []⟩ ⟨#[98]⟩ 2 ⟨List.Pairwise.nil, by decide⟩
  rw [sp_1, sp_e1] at d
  have e := tput_any ⟨4, [⟨⟨#[98]⟩, 2⟩]⟩ ⟨#[97]⟩ 1 ⟨List.pairwise_singleton _ _, by simp⟩
  rw [sp_2, sp_e2] at e
  have f := tscan_any ⟨4, [⟨⟨#[97]⟩, 1⟩, ⟨⟨#[98]⟩, 2⟩]⟩ ⟨#[]⟩ 9 ⟨sp_rise, by simp⟩
  rw [sp_scan] at f
  have hbe : ∀ x : ByteArray, (x == x) = true := fun x => (_root_.Go.MapKept.bytes_beq _ _).2 rfl
  refine ACall.startA c7_ok Try.func7 rfl Try.ntmps7 (by kernel_rfl) res7_ok rfl rfl rfl ?_; simp (maxSteps := 9999999) (disch := omega) only [go_sem]
  refine AWpA.dummy ?_
  (have k9 := And.intro @hbe (And.intro @rp_nil (And.intro @rp_cons (k0))); (repeat' (first | refine AWpA.seq ?_ | refine AWpA.block ?_ | (with_reducible refine CondP.tt ?_) | (with_reducible refine CondP.ff ?_) | refine AWpA.cg ?_ | ((first | refine AWpA.rg ?_ | refine AWpA.dg [] [] follows ?_ | refine TailK.tg ?_ | refine AWpA.skip ?_ | refine AWpA.exit ?_ | refine AWpA.ret ?_ | (with_reducible refine ARoundsA.succ ?_) | ((first | refine Runs.gkt (fun h9 => ?_) | refine Runs.gkf (fun h9 => ?_) | refine Runs.gnt (fun h9 => ?_) | refine Runs.gnf (fun h9 => ?_) | refine CondP.gt (fun h9 => ?_) | refine CondP.gf (fun h9 => ?_) | refine CondP.gnt (fun h9 => ?_) | refine CondP.gnf (fun h9 => ?_)); (try simp only [h9]); clear h9) | refine CallG.pg [] (c) ?_ | refine CallG.pg [17, 0] (d) ?_ | refine CallG.pg [17, 241] (e) ?_ | refine CallG.pg [17, 321] (f) ?_ | refine CallG.dg [] (c) ?_ | refine CallG.dg [17, 0] (d) ?_ | refine CallG.dg [17, 241] (e) ?_ | refine CallG.dg [17, 321] (f) ?_); (try simp (maxSteps := 9999999) (disch := omega) only [go_sem, k9]); (try refine cnd ?_)) | ((first | refine CondP.split (fun hif => ?_) (fun hif => ?_) | refine Runs.part (fun hif => ?_) (fun hif => ?_)) <;> ((try simp only [hif]); (try simp only [BL] at hif); (try (have h9 : _ = true := hif; simp only [h9])); (try (have h9 : _ = false := hif; simp only [h9])); (try simp (maxSteps := 9999999) (disch := omega) only [go_sem, k9]); (try refine cnd ?_); (try (exfalso; omega; done)))))); (all_goals (try clear k9)))
  (apply Ret.det []; (focus (first | exact .inl rfl | exact .inr rfl)); (focus (simp (maxSteps := 9999999) (disch := omega) only [go_sem]; rfl)); (simp (maxSteps := 9999999) (disch := omega) only [go_sem]; (try (repeat' (first | done | trivial | rfl | exact leAs_rfl _ | decide | (refine And.intro ?_ ?_) | (simp; done) | omega | (simp; decide))))))
/-- An act. -/
structure Ca8 where
  kind : Int
  v : Int
  key : ByteArray
  frm : ByteArray
  n : Int
abbrev CaL (a : Ca8) : List AV := [I a.kind, I a.v, .val (.string a.key), .val (.string a.frm), I a.n]
def okA (a : Ca8) : Bool := decide ((a.key.size : Int) ≤ 40) && decide ((a.frm.size : Int) ≤ 40)
def fewB (l : List Ca8) : Bool := l.all okA && decide (l.length ≤ 60)
theorem few_any (off : Nat) (l : List Ca8) (hl : l.length ≤ 9223372036854775807) : ACall Try.prog 19 [.sl 0 off l.length 5 none] [.cells true (rowsC off CaL l)] (Det (Bo (fewB l)) [.cells true (rowsC off CaL l)]) := by
  have hr : ∀ ρ, renL ρ (rowsC off CaL l) = rowsC off CaL l := fun ρ => rowsC_ren (fun ρ x => by simp [renL, ren]) ρ l
  have hL : (rowsC off CaL l).length = off + l.length * 5 := rowsC_len (f := CaL) (k := 5) (fun _ => rfl) l
  refine ACall.startA c19_ok Try.func19 rfl Try.ntmps19 (by kernel_rfl) res19_ok rfl rfl rfl ?_; simp (maxSteps := 9999999) (disch := omega) only [go_sem]
  (have k9 := And.intro @hr (k0); (repeat' (first | refine AWpA.seq ?_ | refine AWpA.block ?_ | (with_reducible refine CondP.tt ?_) | (with_reducible refine CondP.ff ?_) | refine AWpA.cg ?_ | ((first | refine AWpA.rg ?_ | refine AWpA.dg [] [] follows ?_ | refine TailK.tg ?_ | refine AWpA.skip ?_ | refine AWpA.exit ?_ | refine AWpA.ret ?_ | (with_reducible refine ARoundsA.succ ?_) | ((first | refine Runs.gkt (fun h9 => ?_) | refine Runs.gkf (fun h9 => ?_) | refine Runs.gnt (fun h9 => ?_) | refine Runs.gnf (fun h9 => ?_) | refine CondP.gt (fun h9 => ?_) | refine CondP.gf (fun h9 => ?_) | refine CondP.gnt (fun h9 => ?_) | refine CondP.gnf (fun h9 => ?_)); (try simp only [h9]); clear h9)); (try simp (maxSteps := 9999999) (disch := omega) only [go_sem, k9]); (try refine cnd ?_)) | ((first | refine CondP.split (fun hif => ?_) (fun hif => ?_) | refine Runs.part (fun hif => ?_) (fun hif => ?_)) <;> ((try simp only [hif]); (try simp only [BL] at hif); (try (have h9 : _ = true := hif; simp only [h9])); (try (have h9 : _ = false := hif; simp only [h9])); (try simp (maxSteps := 9999999) (disch := omega) only [go_sem, k9]); (try refine cnd ?_); (try (exfalso; omega; done)))))); (all_goals (try clear k9)))
  (apply AWpA.loopL (fun i : Nat => [(0, .sl 0 off l.length 5 none), (5, .sl 0 off l.length 5 none), (6, I l.length), (7, I i)]) (fun i => [.cells true (rowsC off CaL l)]) (fun i => l.length - i) (fun i => i ≤ l.length ∧ ∀ q (h : q < l.length), q < i → okA l[q] = true) (0) [0]; rotate_left; (focus (simp (maxSteps := 9999999) (disch := omega) only [go_sem, hr]; (try (repeat' (first | done | trivial | rfl | exact leAs_rfl _ | decide | (refine And.intro ?_ ?_) | (simp; done) | omega | (simp; decide)))))); rotate_right)
  · exact ⟨Nat.zero_le _, fun q h hq => by omega⟩
  rintro i ⟨hi, hq⟩
  (try simp only at hi hq)
  by_cases hil : i < l.length
  · have g1 : ((i : Int) < (l.length : Int)) = True := eq_true (by omega)
    have hat : ((rowsC off CaL l).drop (off + i * 5)).take 5 = CaL l[i] := rowsC_at (f := CaL) (k := 5) (fun _ => rfl) l i hil
    have hna : okA l[i] = false → fewB l = false := fun h => by
      unfold fewB
      have : l.all okA = false := List.all_eq_false.2 ⟨l[i], List.getElem_mem hil, by simp [h]⟩
      rw [this]; rfl
    have hqn : okA l[i] = true → ∀ q (h : q < l.length), q < i + 1 → okA l[q] = true := fun h q hl hq' => by
      rcases Nat.lt_or_eq_of_le (Nat.le_of_lt_succ hq') with h' | rfl
      · exact hq q hl h'
      · exact h
    clear hq
    generalize l[i] = x at *
    by_cases h1 : (40 : Int) < x.key.size
    · rw [hna (by unfold okA; rw [decide_eq_false (by omega)]; rfl)]
      have g2 : ((40 : Int) < x.key.size) = True := eq_true h1
      clear hna hqn
      (try simp (maxSteps := 9999999) (disch := omega) only [go_sem])
      (have k9 := And.intro @hr (And.intro @hL (And.intro @g1 (And.intro @g2 (And.intro @hat (k0))))); (repeat' (first | refine AWpA.seq ?_ | refine AWpA.block ?_ | (with_reducible refine CondP.tt ?_) | (with_reducible refine CondP.ff ?_) | refine AWpA.cg ?_ | ((first | refine AWpA.rg ?_ | refine AWpA.dg [] [] follows ?_ | refine TailK.tg ?_ | refine AWpA.skip ?_ | refine AWpA.exit ?_ | refine AWpA.ret ?_ | (with_reducible refine ARoundsA.succ ?_) | ((first | refine Runs.gkt (fun h9 => ?_) | refine Runs.gkf (fun h9 => ?_) | refine Runs.gnt (fun h9 => ?_) | refine Runs.gnf (fun h9 => ?_) | refine CondP.gt (fun h9 => ?_) | refine CondP.gf (fun h9 => ?_) | refine CondP.gnt (fun h9 => ?_) | refine CondP.gnf (fun h9 => ?_)); (try simp only [h9]); clear h9)); (try simp (maxSteps := 9999999) (disch := omega) only [go_sem, k9]); (try refine cnd ?_)) | ((first | refine CondP.split (fun hif => ?_) (fun hif => ?_) | refine Runs.part (fun hif => ?_) (fun hif => ?_)) <;> ((try simp only [hif]); (try simp only [BL] at hif); (try (have h9 : _ = true := hif; simp only [h9])); (try (have h9 : _ = false := hif; simp only [h9])); (try simp (maxSteps := 9999999) (disch := omega) only [go_sem, k9]); (try refine cnd ?_); (try (exfalso; omega; done)))))); (all_goals (try clear k9)))
      (apply Ret.det [0]; (focus (first | exact .inl rfl | exact .inr rfl)); (focus (simp (maxSteps := 9999999) (disch := omega) only [go_sem, hr]; rfl)); (simp (maxSteps := 9999999) (disch := omega) only [go_sem, hr]; (try (repeat' (first | done | trivial | rfl | exact leAs_rfl _ | decide | (refine And.intro ?_ ?_) | (simp; done) | omega | (simp; decide))))))
    · have g2 : ((40 : Int) < x.key.size) = False := eq_false h1
      by_cases h2 : (40 : Int) < x.frm.size
      · rw [hna (by unfold okA; rw [decide_eq_true (show (x.key.size : Int) ≤ 40 by omega), decide_eq_false (by omega)]; rfl)]
        have g3 : ((40 : Int) < x.frm.size) = True := eq_true h2
        clear hna hqn
        (try simp (maxSteps := 9999999) (disch := omega) only [go_sem])
        (have k9 := And.intro @hr (And.intro @hL (And.intro @g1 (And.intro @g2 (And.intro @g3 (And.intro @hat (k0)))))); (repeat' (first | refine AWpA.seq ?_ | refine AWpA.block ?_ | (with_reducible refine CondP.tt ?_) | (with_reducible refine CondP.ff ?_) | refine AWpA.cg ?_ | ((first | refine AWpA.rg ?_ | refine AWpA.dg [] [] follows ?_ | refine TailK.tg ?_ | refine AWpA.skip ?_ | refine AWpA.exit ?_ | refine AWpA.ret ?_ | (with_reducible refine ARoundsA.succ ?_) | ((first | refine Runs.gkt (fun h9 => ?_) | refine Runs.gkf (fun h9 => ?_) | refine Runs.gnt (fun h9 => ?_) | refine Runs.gnf (fun h9 => ?_) | refine CondP.gt (fun h9 => ?_) | refine CondP.gf (fun h9 => ?_) | refine CondP.gnt (fun h9 => ?_) | refine CondP.gnf (fun h9 => ?_)); (try simp only [h9]); clear h9)); (try simp (maxSteps := 9999999) (disch := omega) only [go_sem, k9]); (try refine cnd ?_)) | ((first | refine CondP.split (fun hif => ?_) (fun hif => ?_) | refine Runs.part (fun hif => ?_) (fun hif => ?_)) <;> ((try simp only [hif]); (try simp only [BL] at hif); (try (have h9 : _ = true := hif; simp only [h9])); (try (have h9 : _ = false := hif; simp only [h9])); (try simp (maxSteps := 9999999) (disch := omega) only [go_sem, k9]); (try refine cnd ?_); (try (exfalso; omega; done)))))); (all_goals (try clear k9)))
        (apply Ret.det [0]; (focus (first | exact .inl rfl | exact .inr rfl)); (focus (simp (maxSteps := 9999999) (disch := omega) only [go_sem, hr]; rfl)); (simp (maxSteps := 9999999) (disch := omega) only [go_sem, hr]; (try (repeat' (first | done | trivial | rfl | exact leAs_rfl _ | decide | (refine And.intro ?_ ?_) | (simp; done) | omega | (simp; decide))))))
      · have g3 : ((40 : Int) < x.frm.size) = False := eq_false h2
        have hqn := hqn (by unfold okA; rw [decide_eq_true (show (x.key.size : Int) ≤ 40 by omega), decide_eq_true (show (x.frm.size : Int) ≤ 40 by omega)]; rfl)
        clear hna
        (try simp (maxSteps := 9999999) (disch := omega) only [go_sem])
        (have k9 := And.intro @hr (And.intro @hL (And.intro @g1 (And.intro @g2 (And.intro @g3 (And.intro @hat (k0)))))); (repeat' (first | refine AWpA.seq ?_ | refine AWpA.block ?_ | (with_reducible refine CondP.tt ?_) | (with_reducible refine CondP.ff ?_) | refine AWpA.cg ?_ | ((first | refine AWpA.rg ?_ | refine AWpA.dg [] [] follows ?_ | refine TailK.tg ?_ | refine AWpA.skip ?_ | refine AWpA.exit ?_ | refine AWpA.ret ?_ | (with_reducible refine ARoundsA.succ ?_) | ((first | refine Runs.gkt (fun h9 => ?_) | refine Runs.gkf (fun h9 => ?_) | refine Runs.gnt (fun h9 => ?_) | refine Runs.gnf (fun h9 => ?_) | refine CondP.gt (fun h9 => ?_) | refine CondP.gf (fun h9 => ?_) | refine CondP.gnt (fun h9 => ?_) | refine CondP.gnf (fun h9 => ?_)); (try simp only [h9]); clear h9)); (try simp (maxSteps := 9999999) (disch := omega) only [go_sem, k9]); (try refine cnd ?_)) | ((first | refine CondP.split (fun hif => ?_) (fun hif => ?_) | refine Runs.part (fun hif => ?_) (fun hif => ?_)) <;> ((try simp only [hif]); (try simp only [BL] at hif); (try (have h9 : _ = true := hif; simp only [h9])); (try (have h9 : _ = false := hif; simp only [h9])); (try simp (maxSteps := 9999999) (disch := omega) only [go_sem, k9]); (try refine cnd ?_); (try (exfalso; omega; done)))))); (all_goals (try clear k9)))
        (apply Back.to (i + 1) [0]; (focus ((try simp (maxSteps := 9999999) (disch := omega) only [go_sem, hr]); first | done | omega)); rotate_left; (focus (simp (maxSteps := 9999999) (disch := omega) only [go_sem, hr]; (try (repeat' (first | done | trivial | rfl | exact leAs_rfl _ | decide | (refine And.intro ?_ ?_) | (simp; done) | omega | (simp; decide)))))))
        exact ⟨by omega, hqn⟩
  · obtain rfl : i = l.length := by omega
    have g1 : ((l.length : Int) < (l.length : Int)) = False := eq_false (by omega)
    have hall : l.all okA = true := List.all_eq_true.2 fun x hx => by
      obtain ⟨q, hql, rfl⟩ := List.getElem_of_mem hx
      exact hq q hql hql
    have hf : fewB l = decide ((l.length : Int) ≤ 60) := by unfold fewB; rw [hall, Bool.true_and]; congr 1; simp; omega
    rw [hf]
    clear hq
    (try simp (maxSteps := 9999999) (disch := omega) only [go_sem])
    (have k9 := And.intro @hr (And.intro @hL (And.intro @g1 (k0))); (repeat' (first | refine AWpA.seq ?_ | refine AWpA.block ?_ | (with_reducible refine CondP.tt ?_) | (with_reducible refine CondP.ff ?_) | refine AWpA.cg ?_ | ((first | refine AWpA.rg ?_ | refine AWpA.dg [] [] follows ?_ | refine TailK.tg ?_ | refine AWpA.skip ?_ | refine AWpA.exit ?_ | refine AWpA.ret ?_ | (with_reducible refine ARoundsA.succ ?_) | ((first | refine Runs.gkt (fun h9 => ?_) | refine Runs.gkf (fun h9 => ?_) | refine Runs.gnt (fun h9 => ?_) | refine Runs.gnf (fun h9 => ?_) | refine CondP.gt (fun h9 => ?_) | refine CondP.gf (fun h9 => ?_) | refine CondP.gnt (fun h9 => ?_) | refine CondP.gnf (fun h9 => ?_)); (try simp only [h9]); clear h9)); (try simp (maxSteps := 9999999) (disch := omega) only [go_sem, k9]); (try refine cnd ?_)) | ((first | refine CondP.split (fun hif => ?_) (fun hif => ?_) | refine Runs.part (fun hif => ?_) (fun hif => ?_)) <;> ((try simp only [hif]); (try simp only [BL] at hif); (try (have h9 : _ = true := hif; simp only [h9])); (try (have h9 : _ = false := hif; simp only [h9])); (try simp (maxSteps := 9999999) (disch := omega) only [go_sem, k9]); (try refine cnd ?_); (try (exfalso; omega; done)))))); (all_goals (try clear k9)))
    (apply Ret.det [0]; (focus (first | exact .inl rfl | exact .inr rfl)); (focus (simp (maxSteps := 9999999) (disch := omega) only [go_sem, hr]; rfl)); (simp (maxSteps := 9999999) (disch := omega) only [go_sem, hr]; (try (repeat' (first | done | trivial | rfl | exact leAs_rfl _ | decide | (refine And.intro ?_ ?_) | (simp; done) | omega | (simp; decide))))))
end Go.Proofs.Ytodnlihbmgigjaa
