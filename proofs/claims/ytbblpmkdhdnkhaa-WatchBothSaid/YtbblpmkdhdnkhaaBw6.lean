/- Contracts: the example of chapter 26; few entries; a document's entries and updates as the program's. -/
import Derived.Test.YtbblpmkdhdnkhaaBw5
namespace Go.Proofs.Ytbblpmkdhdnkhaa
set_option linter.unusedSimpArgs false
set_option linter.unusedVariables false
set_option maxHeartbeats 4000000
open Go Go.Am Go.RowKit
set_option maxRecDepth 100000
/- quidnunc/quidnunclaw26.speaks -/
noncomputable def c8_1 : ACode := .region false [⟨some 0, .move, [.c (.val (.bool false))], none⟩] [] [] [] false [] []
noncomputable def c8_3 : ACode := .region false [⟨some 7, .build [(.int .i64 0), (.int .i64 0)] [(0, 1)], [.c (.val (.int .i64 1))], none⟩,
  ⟨some 8, .build [(.string ⟨#[]⟩), (.string ⟨#[]⟩), (.bool false), (.int .i64 0), (.int .i64 0), (.int .i64 0), (.int .i64 0), (.int .i64 0), (.int .i64 0)] [(0, 1), (1, 1), (3, 2)], [.c (.val (.string ⟨#[107]⟩)), .c (.val (.string ⟨#[49]⟩)), .t 7], none⟩,
  ⟨some 1, .alloc [(.string ⟨#[]⟩), (.string ⟨#[]⟩), (.bool false), (.int .i64 0), (.int .i64 0), (.int .i64 0), (.int .i64 0), (.int .i64 0), (.int .i64 0)], [], none⟩,
  ⟨none, .store 9, [.t 1, .t 8], none⟩] [] [] [1] true [] []
noncomputable def c8_5 : ACode := .region false [⟨some 9, .build [(.string ⟨#[]⟩), (.string ⟨#[]⟩), (.bool false), (.int .i64 0), (.int .i64 0), (.int .i64 0), (.int .i64 0), (.int .i64 0), (.int .i64 0)] [(0, 1), (1, 1)], [.c (.val (.string ⟨#[107]⟩)), .c (.val (.string ⟨#[48]⟩))], none⟩,
  ⟨some 2, .alloc [(.string ⟨#[]⟩), (.string ⟨#[]⟩), (.bool false), (.int .i64 0), (.int .i64 0), (.int .i64 0), (.int .i64 0), (.int .i64 0), (.int .i64 0)], [], none⟩,
  ⟨none, .store 9, [.t 2, .t 9], none⟩] [] [] [1, 2] true [] []
noncomputable def c8_7 : ACode := .region false [⟨some 11, .load true 9, [.t 1], none⟩,
  ⟨some 12, .buildSl 9 1 [(.string ⟨#[]⟩), (.string ⟨#[]⟩), (.bool false), (.int .i64 0), (.int .i64 0), (.int .i64 0), (.int .i64 0), (.int .i64 0), (.int .i64 0)] [(0, 9)], [.t 11], none⟩,
  ⟨some 13, .load true 9, [.t 2], none⟩,
  ⟨some 14, .buildSl 9 1 [(.string ⟨#[]⟩), (.string ⟨#[]⟩), (.bool false), (.int .i64 0), (.int .i64 0), (.int .i64 0), (.int .i64 0), (.int .i64 0), (.int .i64 0)] [(0, 9)], [.t 13], none⟩,
  ⟨some 15, .call 25, [.t 12, .t 14], none⟩,
  ⟨some 10, .move, [.t 15], none⟩,
  ⟨some 16, .ext 0, [.t 10], none⟩,
  ⟨some 17, .ext 1, [.t 10], none⟩,
  ⟨some 3, .move, [.t 16], none⟩,
  ⟨some 4, .move, [.t 17], none⟩] [] [] [1, 2, 3, 4] true [] []
noncomputable def c8_9 : ACode := .region false [⟨some 19, .load true 9, [.t 2], none⟩,
  ⟨some 20, .buildSl 9 1 [(.string ⟨#[]⟩), (.string ⟨#[]⟩), (.bool false), (.int .i64 0), (.int .i64 0), (.int .i64 0), (.int .i64 0), (.int .i64 0), (.int .i64 0)] [(0, 9)], [.t 19], none⟩,
  ⟨some 21, .load true 9, [.t 1], none⟩,
  ⟨some 22, .buildSl 9 1 [(.string ⟨#[]⟩), (.string ⟨#[]⟩), (.bool false), (.int .i64 0), (.int .i64 0), (.int .i64 0), (.int .i64 0), (.int .i64 0), (.int .i64 0)] [(0, 9)], [.t 21], none⟩,
  ⟨some 23, .call 25, [.t 20, .t 22], none⟩,
  ⟨some 18, .move, [.t 23], none⟩,
  ⟨some 24, .ext 0, [.t 18], none⟩,
  ⟨some 25, .ext 1, [.t 18], none⟩,
  ⟨some 5, .move, [.t 24], none⟩,
  ⟨some 6, .move, [.t 25], none⟩] [] [] [3, 4, 6] true [] []
noncomputable def c8_11 : ACode := .region false [⟨some 26, .move, [.t 4], none⟩,
  ⟨some 27, .move, [.t 26], none⟩,
  ⟨some 28, .move, [.t 3], some (some 27, true)⟩,
  ⟨some 29, .bin .eql, [.t 28, .c (.val (.string ⟨#[107]⟩))], some (some 27, true)⟩,
  ⟨some 30, .pick, [.t 27, .t 29, .c (.val (.bool false))], none⟩,
  ⟨some 31, .move, [.t 30], none⟩,
  ⟨some 32, .move, [.t 6], some (some 31, true)⟩,
  ⟨some 33, .un .not, [.t 32], some (some 31, true)⟩,
  ⟨some 34, .pick, [.t 31, .t 33, .c (.val (.bool false))], none⟩,
  ⟨some 0, .move, [.t 34], none⟩] [] [] [0] false [] []
noncomputable def c8_10 : ACode := .seq c8_11 .ret
noncomputable def c8_8 : ACode := .seq c8_9 c8_10
noncomputable def c8_6 : ACode := .seq c8_7 c8_8
noncomputable def c8_4 : ACode := .seq c8_5 c8_6
noncomputable def c8_2 : ACode := .seq c8_3 c8_4
noncomputable def c8_0 : ACode := .seq c8_1 c8_2
noncomputable def code8 : Code := (Try.f8.body).getD .skip
theorem c8_ok : compC Try.prog 35 code8 = some (strip c8_0) := by kernel_rfl
theorem res8_ok : Try.f8.results.toList.mapM (resC Try.prog) = some [(0, none)] := by kernel_rfl
/- quidnunc/quidnunclaw26.few -/
noncomputable def c9_1 : ACode := .region false [⟨some 2, .move, [.c (.val (.bool false))], none⟩] [] [] [0] false [] []
noncomputable def c9_4 : ACode := .region false [⟨some 5, .move, [.t 0], none⟩,
  ⟨some 6, .len, [.t 5], none⟩,
  ⟨some 7, .move, [.c (.val (.int .i64 0))], none⟩] [] [] [0, 5, 6, 7] false [] []
noncomputable def c9_8 : ACode := .region false [⟨some 8, .bin .lss, [.t 7, .t 6], none⟩] [] [] [0, 5, 6, 7, 8] false [] []
noncomputable def c9_10 : ACode := .cond (.t 8) .skip (.exit 0)
noncomputable def c9_14 : ACode := .region false [⟨some 9, .ixS 9, [.t 5, .t 7], none⟩,
  ⟨some 10, .load true 9, [.t 9], none⟩,
  ⟨some 4, .alloc [(.string ⟨#[]⟩), (.string ⟨#[]⟩), (.bool false), (.int .i64 0), (.int .i64 0), (.int .i64 0), (.int .i64 0), (.int .i64 0), (.int .i64 0)], [], none⟩,
  ⟨none, .store 9, [.t 4, .t 10], none⟩] [] [] [0, 4, 5, 6, 7] true [] []
noncomputable def c9_16 : ACode := .region false [⟨some 11, .load true 9, [.t 4], none⟩,
  ⟨some 12, .call 10, [.t 11], none⟩,
  ⟨some 13, .un .not, [.t 12], none⟩] [] [] [0, 5, 6, 7, 13] true [] []
noncomputable def c9_19 : ACode := .region false [⟨some 2, .move, [.c (.val (.bool false))], none⟩] [] [] [2] false [] []
noncomputable def c9_18 : ACode := .seq c9_19 .ret
noncomputable def c9_17 : ACode := .cond (.t 13) c9_18 .skip
noncomputable def c9_15 : ACode := .seq c9_16 c9_17
noncomputable def c9_13 : ACode := .seq c9_14 c9_15
noncomputable def c9_12 : ACode := .block 1 c9_13
noncomputable def c9_20 : ACode := .region false [⟨some 14, .bin .add, [.t 7, .c (.val (.int .i64 1))], none⟩,
  ⟨some 7, .move, [.t 14], none⟩] [] [] [0, 5, 6, 7] false [] []
noncomputable def c9_11 : ACode := .seq c9_12 c9_20
noncomputable def c9_9 : ACode := .seq c9_10 c9_11
noncomputable def c9_7 : ACode := .seq c9_8 c9_9
noncomputable def c9_6 : ACode := .loop c9_7
noncomputable def c9_5 : ACode := .block 0 c9_6
noncomputable def c9_3 : ACode := .seq c9_4 c9_5
noncomputable def c9_22 : ACode := .region false [⟨some 15, .move, [.t 0], none⟩,
  ⟨some 16, .len, [.t 15], none⟩,
  ⟨some 17, .bin .leq, [.t 16, .c (.val (.int .i64 40))], none⟩,
  ⟨some 2, .move, [.t 17], none⟩] [] [] [2] false [] []
noncomputable def c9_21 : ACode := .seq c9_22 .ret
noncomputable def c9_2 : ACode := .seq c9_3 c9_21
noncomputable def c9_0 : ACode := .seq c9_1 c9_2
noncomputable def code9 : Code := (Try.f9.body).getD .skip
theorem c9_ok : compC Try.prog 18 code9 = some (strip c9_0) := by kernel_rfl
theorem res9_ok : Try.f9.results.toList.mapM (resC Try.prog) = some [(2, none)] := by kernel_rfl
/- quidnunc/quidnunclaw26.Ofs -/
noncomputable def c12_1 : ACode := .region false [⟨some 2, .move, [.c (.val (.slice none 0 0))], none⟩] [] [] [0] false [] []
noncomputable def c12_3 : ACode := .region false [⟨some 3, .move, [.c (.val (.slice none 0 0))], none⟩] [] [] [0, 3] false [] []
noncomputable def c12_6 : ACode := .region false [⟨some 6, .move, [.t 0], none⟩,
  ⟨some 7, .len, [.t 6], none⟩,
  ⟨some 8, .move, [.c (.val (.int .i64 0))], none⟩] [] [] [3, 6, 7, 8] false [] []
noncomputable def c12_10 : ACode := .region false [⟨some 9, .bin .lss, [.t 8, .t 7], none⟩] [] [] [3, 6, 7, 8, 9] false [] []
noncomputable def c12_12 : ACode := .cond (.t 9) .skip (.exit 0)
noncomputable def c12_16 : ACode := .region false [⟨some 10, .ixS 9, [.t 6, .t 8], none⟩,
  ⟨some 11, .load true 9, [.t 10], none⟩,
  ⟨some 5, .alloc [(.string ⟨#[]⟩), (.string ⟨#[]⟩), (.bool false), (.int .i64 0), (.int .i64 0), (.int .i64 0), (.int .i64 0), (.int .i64 0), (.int .i64 0)], [], none⟩,
  ⟨none, .store 9, [.t 5, .t 11], none⟩] [] [] [3, 5, 6, 7, 8] true [] []
noncomputable def c12_17 : ACode := .region false [⟨some 12, .move, [.t 3], none⟩,
  ⟨some 13, .load true 9, [.t 5], none⟩,
  ⟨some 14, .call 19, [.t 13], none⟩,
  ⟨some 15, .buildSl 9 1 [(.string ⟨#[]⟩), (.string ⟨#[]⟩), (.bool false), (.int .i64 0), (.int .i64 0), (.int .i64 0), (.int .i64 0), (.int .i64 0), (.int .i64 0)] [(0, 9)], [.t 14], none⟩,
  ⟨some 16, .append 9 88 false, [.t 12, .t 15], none⟩,
  ⟨some 3, .move, [.t 16], none⟩] [] [] [3, 6, 7, 8] true [] []
noncomputable def c12_15 : ACode := .seq c12_16 c12_17
noncomputable def c12_14 : ACode := .block 1 c12_15
noncomputable def c12_18 : ACode := .region false [⟨some 17, .bin .add, [.t 8, .c (.val (.int .i64 1))], none⟩,
  ⟨some 8, .move, [.t 17], none⟩] [] [] [3, 6, 7, 8] false [] []
noncomputable def c12_13 : ACode := .seq c12_14 c12_18
noncomputable def c12_11 : ACode := .seq c12_12 c12_13
noncomputable def c12_9 : ACode := .seq c12_10 c12_11
noncomputable def c12_8 : ACode := .loop c12_9
noncomputable def c12_7 : ACode := .block 0 c12_8
noncomputable def c12_5 : ACode := .seq c12_6 c12_7
noncomputable def c12_20 : ACode := .region false [⟨some 18, .move, [.t 3], none⟩,
  ⟨some 2, .move, [.t 18], none⟩] [] [] [2] false [] []
noncomputable def c12_19 : ACode := .seq c12_20 .ret
noncomputable def c12_4 : ACode := .seq c12_5 c12_19
noncomputable def c12_2 : ACode := .seq c12_3 c12_4
noncomputable def c12_0 : ACode := .seq c12_1 c12_2
noncomputable def code12 : Code := (Try.f12.body).getD .skip
theorem c12_ok : compC Try.prog 19 code12 = some (strip c12_0) := by kernel_rfl
theorem res12_ok : Try.f12.results.toList.mapM (resC Try.prog) = some [(2, none)] := by kernel_rfl
/- quidnunc/quidnunclaw26.updates -/
noncomputable def c13_1 : ACode := .region false [⟨some 2, .move, [.c (.val (.slice none 0 0))], none⟩] [] [] [0] false [] []
noncomputable def c13_3 : ACode := .region false [⟨some 3, .move, [.c (.val (.slice none 0 0))], none⟩] [] [] [0, 3] false [] []
noncomputable def c13_6 : ACode := .region false [⟨some 6, .move, [.t 0], none⟩,
  ⟨some 7, .len, [.t 6], none⟩,
  ⟨some 8, .move, [.c (.val (.int .i64 0))], none⟩] [] [] [3, 6, 7, 8] false [] []
noncomputable def c13_10 : ACode := .region false [⟨some 9, .bin .lss, [.t 8, .t 7], none⟩] [] [] [3, 6, 7, 8, 9] false [] []
noncomputable def c13_12 : ACode := .cond (.t 9) .skip (.exit 0)
noncomputable def c13_16 : ACode := .region false [⟨some 10, .ixS 10, [.t 6, .t 8], none⟩,
  ⟨some 11, .load true 10, [.t 10], none⟩,
  ⟨some 5, .alloc [(.string ⟨#[]⟩), (.string ⟨#[]⟩), (.bool false), (.int .i64 0), (.int .i64 0), (.int .i64 0), (.int .i64 0), (.int .i64 0), (.int .i64 0), (.bool false)], [], none⟩,
  ⟨none, .store 10, [.t 5, .t 11], none⟩] [] [] [3, 5, 6, 7, 8] true [] []
noncomputable def c13_17 : ACode := .region true [⟨some 12, .move, [.t 3], none⟩,
  ⟨some 13, .addr 0, [.t 5], none⟩,
  ⟨some 14, .load true 9, [.t 13], none⟩,
  ⟨some 15, .call 19, [.t 14], none⟩,
  ⟨some 16, .addr 9, [.t 5], none⟩,
  ⟨some 17, .load false 1, [.t 16], none⟩,
  ⟨some 18, .build [(.string ⟨#[]⟩), (.string ⟨#[]⟩), (.bool false), (.int .i64 0), (.int .i64 0), (.int .i64 0), (.int .i64 0), (.int .i64 0), (.int .i64 0), (.bool false)] [(0, 9), (9, 1)], [.t 15, .t 17], none⟩,
  ⟨some 19, .buildSl 10 1 [(.string ⟨#[]⟩), (.string ⟨#[]⟩), (.bool false), (.int .i64 0), (.int .i64 0), (.int .i64 0), (.int .i64 0), (.int .i64 0), (.int .i64 0), (.bool false)] [(0, 10)], [.t 18], none⟩,
  ⟨some 20, .append 10 96 false, [.t 12, .t 19], none⟩,
  ⟨some 3, .move, [.t 20], none⟩] [] [] [3, 6, 7, 8] true [3] []
noncomputable def c13_15 : ACode := .seq c13_16 c13_17
noncomputable def c13_14 : ACode := .block 1 c13_15
noncomputable def c13_18 : ACode := .region false [⟨some 21, .bin .add, [.t 8, .c (.val (.int .i64 1))], none⟩,
  ⟨some 8, .move, [.t 21], none⟩] [] [] [3, 6, 7, 8] false [] []
noncomputable def c13_13 : ACode := .seq c13_14 c13_18
noncomputable def c13_11 : ACode := .seq c13_12 c13_13
noncomputable def c13_9 : ACode := .seq c13_10 c13_11
noncomputable def c13_8 : ACode := .loop c13_9
noncomputable def c13_7 : ACode := .block 0 c13_8
noncomputable def c13_5 : ACode := .seq c13_6 c13_7
noncomputable def c13_20 : ACode := .region false [⟨some 22, .move, [.t 3], none⟩,
  ⟨some 2, .move, [.t 22], none⟩] [] [] [2] false [] []
noncomputable def c13_19 : ACode := .seq c13_20 .ret
noncomputable def c13_4 : ACode := .seq c13_5 c13_19
noncomputable def c13_2 : ACode := .seq c13_3 c13_4
noncomputable def c13_0 : ACode := .seq c13_1 c13_2
noncomputable def code13 : Code := (Try.f13.body).getD .skip
theorem c13_ok : compC Try.prog 23 code13 = some (strip c13_0) := by kernel_rfl
theorem res13_ok : Try.f13.results.toList.mapM (resC Try.prog) = some [(2, none)] := by kernel_rfl
def spN : En := ⟨⟨#[107]⟩, ⟨#[49]⟩, false, ⟨1, 0⟩, ⟨0, 0⟩, 0, 0⟩
def spO : En := ⟨⟨#[107]⟩, ⟨#[48]⟩, false, ⟨0, 0⟩, ⟨0, 0⟩, 0, 0⟩
theorem spw_1 : fellR [spN] [spO] = .tup [Str ⟨#[107]⟩, Bo true] := fellR_at (was := [spN]) (is := [spO]) (i := 0) (by decide) (by decide)
theorem spw_2 : fellR [spO] [spN] = .tup [Str ⟨#[]⟩, Bo false] := fellR_no (by decide)
theorem speaks26_any : ACall Try.prog 8 [] [] (Det (Bo true) []) := by
  have c1 := fell_any 0 [spN] [spO] (by decide) (by decide)
  have c2 := fell_any 0 [spO] [spN] (by decide) (by decide)
  rw [spw_1] at c1
  rw [spw_2] at c2
  rw [re_one, re_one] at c1 c2
  simp only [spN, spO] at c1 c2
  have hbe : ∀ x : ByteArray, (x == x) = true := fun x => (_root_.Go.MapKept.bytes_beq _ _).2 rfl
  refine ACall.startA c8_ok Try.func8 rfl Try.ntmps8 (by kernel_rfl) res8_ok rfl rfl rfl ?_; simp (maxSteps := 9999999) (disch := omega) only [go_sem]
  (have k9 := And.intro @hbe (k0); (repeat' (first | refine AWpA.seq ?_ | refine AWpA.block ?_ | (with_reducible refine CondP.tt ?_) | (with_reducible refine CondP.ff ?_) | refine AWpA.cg ?_ | ((first | refine AWpA.rg ?_ | refine AWpA.dg [] [] follows ?_ | refine TailK.tg ?_ | refine AWpA.skip ?_ | refine AWpA.exit ?_ | refine AWpA.ret ?_ | (with_reducible refine ARoundsA.succ ?_) | ((first | refine Runs.gkt (fun h9 => ?_) | refine Runs.gkf (fun h9 => ?_) | refine Runs.gnt (fun h9 => ?_) | refine Runs.gnf (fun h9 => ?_) | refine CondP.gt (fun h9 => ?_) | refine CondP.gf (fun h9 => ?_) | refine CondP.gnt (fun h9 => ?_) | refine CondP.gnf (fun h9 => ?_)); (try simp only [h9]); clear h9) | refine CallG.pg [_, _] (c1) ?_ | refine CallG.pg [_, _] (c2) ?_ | refine CallG.dg [_, _] (c1) ?_ | refine CallG.dg [_, _] (c2) ?_); (try simp (maxSteps := 9999999) (disch := omega) only [go_sem, k9]); (try refine cnd ?_)) | ((first | refine CondP.split (fun hif => ?_) (fun hif => ?_) | refine Runs.part (fun hif => ?_) (fun hif => ?_)) <;> ((try simp only [hif]); (try simp only [BL] at hif); (try (have h9 : _ = true := hif; simp only [h9])); (try (have h9 : _ = false := hif; simp only [h9])); (try simp (maxSteps := 9999999) (disch := omega) only [go_sem, k9]); (try refine cnd ?_); (try (exfalso; omega; done)))))); (all_goals (try clear k9)))
  (apply Ret.det []; (focus (first | exact .inl rfl | exact .inr rfl)); (focus (simp (maxSteps := 9999999) (disch := omega) only [go_sem]; rfl)); (simp (maxSteps := 9999999) (disch := omega) only [go_sem]; (try (repeat' (first | done | trivial | rfl | exact leAs_rfl _ | decide | (refine And.intro ?_ ?_) | (simp; done) | omega | (simp; decide))))))
def fewW (l : List En) : Bool := l.all shortB && decide (l.length ≤ 40)
theorem shortW_some {l : List En} {i : Nat} (h : i < l.length) (hs : shortB l[i] = false) : l.all shortB = false := by
  rw [List.all_eq_false]
  exact ⟨l[i], List.getElem_mem h, by simp [hs]⟩
theorem few26_any (off : Nat) (l : List En) (hl : l.length ≤ 9223372036854775807) : ACall Try.prog 9 [.sl 0 off l.length 9 none] [.cells true (Re off l)] (Det (Bo (fewW l)) [.cells true (Re off l)]) := by
  have hr := re_ren off l
  have hlen := re_len off l
  refine ACall.startA c9_ok Try.func9 rfl Try.ntmps9 (by kernel_rfl) res9_ok rfl rfl rfl ?_; simp (maxSteps := 9999999) (disch := omega) only [go_sem]
  (have k9 := And.intro @hr (k0); (repeat' (first | refine AWpA.seq ?_ | refine AWpA.block ?_ | (with_reducible refine CondP.tt ?_) | (with_reducible refine CondP.ff ?_) | refine AWpA.cg ?_ | ((first | refine AWpA.rg ?_ | refine AWpA.dg [] [] follows ?_ | refine TailK.tg ?_ | refine AWpA.skip ?_ | refine AWpA.exit ?_ | refine AWpA.ret ?_ | (with_reducible refine ARoundsA.succ ?_) | ((first | refine Runs.gkt (fun h9 => ?_) | refine Runs.gkf (fun h9 => ?_) | refine Runs.gnt (fun h9 => ?_) | refine Runs.gnf (fun h9 => ?_) | refine CondP.gt (fun h9 => ?_) | refine CondP.gf (fun h9 => ?_) | refine CondP.gnt (fun h9 => ?_) | refine CondP.gnf (fun h9 => ?_)); (try simp only [h9]); clear h9)); (try simp (maxSteps := 9999999) (disch := omega) only [go_sem, k9]); (try refine cnd ?_)) | ((first | refine CondP.split (fun hif => ?_) (fun hif => ?_) | refine Runs.part (fun hif => ?_) (fun hif => ?_)) <;> ((try simp only [hif]); (try simp only [BL] at hif); (try (have h9 : _ = true := hif; simp only [h9])); (try (have h9 : _ = false := hif; simp only [h9])); (try simp (maxSteps := 9999999) (disch := omega) only [go_sem, k9]); (try refine cnd ?_); (try (exfalso; omega; done)))))); (all_goals (try clear k9)))
  (apply AWpA.loopL (fun i : Nat => [(0, .sl 0 off l.length 9 none), (5, .sl 0 off l.length 9 none), (6, I l.length), (7, I i)]) (fun i => [.cells true (Re off l)]) (fun i => l.length - i) (fun i => i ≤ l.length ∧ (l.take i).all shortB = true) (0) [0]; rotate_left; (focus (simp (maxSteps := 9999999) (disch := omega) only [go_sem, hr]; (try (repeat' (first | done | trivial | rfl | exact leAs_rfl _ | decide | (refine And.intro ?_ ?_) | (simp; done) | omega | (simp; decide)))))); rotate_right)
  · exact ⟨Nat.zero_le _, rfl⟩
  rintro i ⟨hi, ha⟩
  (try simp only at hi ha)
  by_cases hin : i < l.length
  · have g1 : ((i : Int) < (l.length : Int)) = True := eq_true (by omega)
    have hat := re_at off l i hin
    have s1 := short_any l[i]
    cases hs : shortB l[i]
    · have e : fewW l = false := by unfold fewW; rw [shortW_some hin hs]; rfl
      rw [hs] at s1
      rw [e]
      generalize l[i] = x at *
      (try simp (maxSteps := 9999999) (disch := omega) only [go_sem])
      (have k9 := And.intro @hr (And.intro @hlen (And.intro @hat (And.intro @g1 (k0)))); (repeat' (first | refine AWpA.seq ?_ | refine AWpA.block ?_ | (with_reducible refine CondP.tt ?_) | (with_reducible refine CondP.ff ?_) | refine AWpA.cg ?_ | ((first | refine AWpA.rg ?_ | refine AWpA.dg [] [] follows ?_ | refine TailK.tg ?_ | refine AWpA.skip ?_ | refine AWpA.exit ?_ | refine AWpA.ret ?_ | (with_reducible refine ARoundsA.succ ?_) | ((first | refine Runs.gkt (fun h9 => ?_) | refine Runs.gkf (fun h9 => ?_) | refine Runs.gnt (fun h9 => ?_) | refine Runs.gnf (fun h9 => ?_) | refine CondP.gt (fun h9 => ?_) | refine CondP.gf (fun h9 => ?_) | refine CondP.gnt (fun h9 => ?_) | refine CondP.gnf (fun h9 => ?_)); (try simp only [h9]); clear h9) | refine CallG.pg [] (s1) ?_ | refine CallG.dg [] (s1) ?_); (try simp (maxSteps := 9999999) (disch := omega) only [go_sem, k9]); (try refine cnd ?_)) | ((first | refine CondP.split (fun hif => ?_) (fun hif => ?_) | refine Runs.part (fun hif => ?_) (fun hif => ?_)) <;> ((try simp only [hif]); (try simp only [BL] at hif); (try (have h9 : _ = true := hif; simp only [h9])); (try (have h9 : _ = false := hif; simp only [h9])); (try simp (maxSteps := 9999999) (disch := omega) only [go_sem, k9]); (try refine cnd ?_); (try (exfalso; omega; done)))))); (all_goals (try clear k9)))
      (apply Ret.det [0]; (focus (first | exact .inl rfl | exact .inr rfl)); (focus (simp (maxSteps := 9999999) (disch := omega) only [go_sem, hr]; rfl)); (simp (maxSteps := 9999999) (disch := omega) only [go_sem, hr]; (try (repeat' (first | done | trivial | rfl | exact leAs_rfl _ | decide | (refine And.intro ?_ ?_) | (simp; done) | omega | (simp; decide))))))
    · have ha2 : (l.take (i + 1)).all shortB = true := by
        rw [List.take_add_one, List.getElem?_eq_getElem hin, List.all_append, ha]; simp [hs]
      rw [hs] at s1
      generalize l[i] = x at *
      (try simp (maxSteps := 9999999) (disch := omega) only [go_sem])
      (have k9 := And.intro @hr (And.intro @hlen (And.intro @hat (And.intro @g1 (k0)))); (repeat' (first | refine AWpA.seq ?_ | refine AWpA.block ?_ | (with_reducible refine CondP.tt ?_) | (with_reducible refine CondP.ff ?_) | refine AWpA.cg ?_ | ((first | refine AWpA.rg ?_ | refine AWpA.dg [] [] follows ?_ | refine TailK.tg ?_ | refine AWpA.skip ?_ | refine AWpA.exit ?_ | refine AWpA.ret ?_ | (with_reducible refine ARoundsA.succ ?_) | ((first | refine Runs.gkt (fun h9 => ?_) | refine Runs.gkf (fun h9 => ?_) | refine Runs.gnt (fun h9 => ?_) | refine Runs.gnf (fun h9 => ?_) | refine CondP.gt (fun h9 => ?_) | refine CondP.gf (fun h9 => ?_) | refine CondP.gnt (fun h9 => ?_) | refine CondP.gnf (fun h9 => ?_)); (try simp only [h9]); clear h9) | refine CallG.pg [] (s1) ?_ | refine CallG.dg [] (s1) ?_); (try simp (maxSteps := 9999999) (disch := omega) only [go_sem, k9]); (try refine cnd ?_)) | ((first | refine CondP.split (fun hif => ?_) (fun hif => ?_) | refine Runs.part (fun hif => ?_) (fun hif => ?_)) <;> ((try simp only [hif]); (try simp only [BL] at hif); (try (have h9 : _ = true := hif; simp only [h9])); (try (have h9 : _ = false := hif; simp only [h9])); (try simp (maxSteps := 9999999) (disch := omega) only [go_sem, k9]); (try refine cnd ?_); (try (exfalso; omega; done)))))); (all_goals (try clear k9)))
      (apply Back.to (i + 1) [0]; (focus ((try simp (maxSteps := 9999999) (disch := omega) only [go_sem, hr]); first | done | omega)); rotate_left; (focus (simp (maxSteps := 9999999) (disch := omega) only [go_sem, hr]; (try (repeat' (first | done | trivial | rfl | exact leAs_rfl _ | decide | (refine And.intro ?_ ?_) | (simp; done) | omega | (simp; decide)))))))
      exact ⟨by omega, ha2⟩
  · obtain rfl : i = l.length := by omega
    rw [List.take_length] at ha
    have g1 : ((l.length : Int) < (l.length : Int)) = False := eq_false (by omega)
    by_cases h40 : l.length ≤ 40
    · have e : fewW l = true := by unfold fewW; rw [ha, decide_eq_true h40]; rfl
      have g2 : ((l.length : Int) ≤ 40) = True := eq_true (by omega)
      rw [e]
      (try simp (maxSteps := 9999999) (disch := omega) only [go_sem])
      (have k9 := And.intro @hr (And.intro @g1 (And.intro @g2 (k0))); (repeat' (first | refine AWpA.seq ?_ | refine AWpA.block ?_ | (with_reducible refine CondP.tt ?_) | (with_reducible refine CondP.ff ?_) | refine AWpA.cg ?_ | ((first | refine AWpA.rg ?_ | refine AWpA.dg [] [] follows ?_ | refine TailK.tg ?_ | refine AWpA.skip ?_ | refine AWpA.exit ?_ | refine AWpA.ret ?_ | (with_reducible refine ARoundsA.succ ?_) | ((first | refine Runs.gkt (fun h9 => ?_) | refine Runs.gkf (fun h9 => ?_) | refine Runs.gnt (fun h9 => ?_) | refine Runs.gnf (fun h9 => ?_) | refine CondP.gt (fun h9 => ?_) | refine CondP.gf (fun h9 => ?_) | refine CondP.gnt (fun h9 => ?_) | refine CondP.gnf (fun h9 => ?_)); (try simp only [h9]); clear h9)); (try simp (maxSteps := 9999999) (disch := omega) only [go_sem, k9]); (try refine cnd ?_)) | ((first | refine CondP.split (fun hif => ?_) (fun hif => ?_) | refine Runs.part (fun hif => ?_) (fun hif => ?_)) <;> ((try simp only [hif]); (try simp only [BL] at hif); (try (have h9 : _ = true := hif; simp only [h9])); (try (have h9 : _ = false := hif; simp only [h9])); (try simp (maxSteps := 9999999) (disch := omega) only [go_sem, k9]); (try refine cnd ?_); (try (exfalso; omega; done)))))); (all_goals (try clear k9)))
      (apply Ret.det [0]; (focus (first | exact .inl rfl | exact .inr rfl)); (focus (simp (maxSteps := 9999999) (disch := omega) only [go_sem, hr]; rfl)); (simp (maxSteps := 9999999) (disch := omega) only [go_sem, hr]; (try (repeat' (first | done | trivial | rfl | exact leAs_rfl _ | decide | (refine And.intro ?_ ?_) | (simp; done) | omega | (simp; decide))))))
    · have e : fewW l = false := by unfold fewW; rw [ha, decide_eq_false h40]; rfl
      have g2 : ((l.length : Int) ≤ 40) = False := eq_false (by omega)
      rw [e]
      (try simp (maxSteps := 9999999) (disch := omega) only [go_sem])
      (have k9 := And.intro @hr (And.intro @g1 (And.intro @g2 (k0))); (repeat' (first | refine AWpA.seq ?_ | refine AWpA.block ?_ | (with_reducible refine CondP.tt ?_) | (with_reducible refine CondP.ff ?_) | refine AWpA.cg ?_ | ((first | refine AWpA.rg ?_ | refine AWpA.dg [] [] follows ?_ | refine TailK.tg ?_ | refine AWpA.skip ?_ | refine AWpA.exit ?_ | refine AWpA.ret ?_ | (with_reducible refine ARoundsA.succ ?_) | ((first | refine Runs.gkt (fun h9 => ?_) | refine Runs.gkf (fun h9 => ?_) | refine Runs.gnt (fun h9 => ?_) | refine Runs.gnf (fun h9 => ?_) | refine CondP.gt (fun h9 => ?_) | refine CondP.gf (fun h9 => ?_) | refine CondP.gnt (fun h9 => ?_) | refine CondP.gnf (fun h9 => ?_)); (try simp only [h9]); clear h9)); (try simp (maxSteps := 9999999) (disch := omega) only [go_sem, k9]); (try refine cnd ?_)) | ((first | refine CondP.split (fun hif => ?_) (fun hif => ?_) | refine Runs.part (fun hif => ?_) (fun hif => ?_)) <;> ((try simp only [hif]); (try simp only [BL] at hif); (try (have h9 : _ = true := hif; simp only [h9])); (try (have h9 : _ = false := hif; simp only [h9])); (try simp (maxSteps := 9999999) (disch := omega) only [go_sem, k9]); (try refine cnd ?_); (try (exfalso; omega; done)))))); (all_goals (try clear k9)))
      (apply Ret.det [0]; (focus (first | exact .inl rfl | exact .inr rfl)); (focus (simp (maxSteps := 9999999) (disch := omega) only [go_sem, hr]; rfl)); (simp (maxSteps := 9999999) (disch := omega) only [go_sem, hr]; (try (repeat' (first | done | trivial | rfl | exact leAs_rfl _ | decide | (refine And.intro ?_ ?_) | (simp; done) | omega | (simp; decide))))))
theorem ofs_any (off : Nat) (l : List En) (hl : l.length ≤ 1099511627776) : ACall Try.prog 12 [.sl 0 off l.length 9 none] [.cells true (Re off l)] (Det (.sl 1 0 l.length 9 none) [.cells true (Re off l), .cells false (Re 0 l)]) := by
  have hr := re_ren
  have hlen := re_len off l
  refine ACall.startA c12_ok Try.func12 rfl Try.ntmps12 (by kernel_rfl) res12_ok rfl rfl rfl ?_; simp (maxSteps := 9999999) (disch := omega) only [go_sem]
  refine AWpA.dummy ?_
  (have k9 := And.intro @hr (k0); (repeat' (first | refine AWpA.seq ?_ | refine AWpA.block ?_ | (with_reducible refine CondP.tt ?_) | (with_reducible refine CondP.ff ?_) | refine AWpA.cg ?_ | ((first | refine AWpA.rg ?_ | refine AWpA.dg [] [] follows ?_ | refine TailK.tg ?_ | refine AWpA.skip ?_ | refine AWpA.exit ?_ | refine AWpA.ret ?_ | (with_reducible refine ARoundsA.succ ?_) | ((first | refine Runs.gkt (fun h9 => ?_) | refine Runs.gkf (fun h9 => ?_) | refine Runs.gnt (fun h9 => ?_) | refine Runs.gnf (fun h9 => ?_) | refine CondP.gt (fun h9 => ?_) | refine CondP.gf (fun h9 => ?_) | refine CondP.gnt (fun h9 => ?_) | refine CondP.gnf (fun h9 => ?_)); (try simp only [h9]); clear h9)); (try simp (maxSteps := 9999999) (disch := omega) only [go_sem, k9]); (try refine cnd ?_)) | ((first | refine CondP.split (fun hif => ?_) (fun hif => ?_) | refine Runs.part (fun hif => ?_) (fun hif => ?_)) <;> ((try simp only [hif]); (try simp only [BL] at hif); (try (have h9 : _ = true := hif; simp only [h9])); (try (have h9 : _ = false := hif; simp only [h9])); (try simp (maxSteps := 9999999) (disch := omega) only [go_sem, k9]); (try refine cnd ?_); (try (exfalso; omega; done)))))); (all_goals (try clear k9)))
  (apply AWpA.loopL (fun i : Nat => [(3, .sl 1 0 i 9 none), (6, .sl 0 off l.length 9 none), (7, I l.length), (8, I i)]) (fun i => [.cells true (Re off l), .cells false (Re 0 (l.take i))]) (fun i => l.length - i) (fun i => i ≤ l.length) (0) [0, 1]; rotate_left; (focus (simp (maxSteps := 9999999) (disch := omega) only [go_sem, hr, re_nil, List.take_zero]; (try (repeat' (first | done | trivial | rfl | exact leAs_rfl _ | decide | (refine And.intro ?_ ?_) | (simp; done) | omega | (simp; decide)))))); rotate_right)
  · exact Nat.zero_le _
  rintro i hi
  (try simp only at hi)
  by_cases hin : i < l.length
  · have g1 : ((i : Int) < (l.length : Int)) = True := eq_true (by omega)
    have hat := re_at off l i hin
    have hp := re_put l i hin
    have hl2 := re_len 0 (l.take i)
    rw [List.length_take, Nat.min_eq_left hi] at hl2
    have hfu := re_all (l.take i) (n := i * 9) (by rw [List.length_take, Nat.min_eq_left hi])
    have o1 := of05_any l[i]
    generalize l[i] = e at *
    (try simp (maxSteps := 9999999) (disch := omega) only [go_sem])
    (have k9 := And.intro @hr (And.intro @hlen (And.intro @hat (And.intro @g1 (And.intro @hl2 (k0))))); (repeat' (first | refine AWpA.seq ?_ | refine AWpA.block ?_ | (with_reducible refine CondP.tt ?_) | (with_reducible refine CondP.ff ?_) | refine AWpA.cg ?_ | ((first | refine AWpA.rg ?_ | refine AWpA.dg [] [] follows ?_ | refine TailK.tg ?_ | refine AWpA.skip ?_ | refine AWpA.exit ?_ | refine AWpA.ret ?_ | (with_reducible refine ARoundsA.succ ?_) | ((first | refine Runs.gkt (fun h9 => ?_) | refine Runs.gkf (fun h9 => ?_) | refine Runs.gnt (fun h9 => ?_) | refine Runs.gnf (fun h9 => ?_) | refine CondP.gt (fun h9 => ?_) | refine CondP.gf (fun h9 => ?_) | refine CondP.gnt (fun h9 => ?_) | refine CondP.gnf (fun h9 => ?_)); (try simp only [h9]); clear h9) | refine CallG.pg [] (o1) ?_ | refine CallG.dg [] (o1) ?_); (try simp (maxSteps := 9999999) (disch := omega) only [go_sem, k9]); (try refine cnd ?_)) | ((first | refine CondP.split (fun hif => ?_) (fun hif => ?_) | refine Runs.part (fun hif => ?_) (fun hif => ?_)) <;> ((try simp only [hif]); (try simp only [BL] at hif); (try (have h9 : _ = true := hif; simp only [h9])); (try (have h9 : _ = false := hif; simp only [h9])); (try simp (maxSteps := 9999999) (disch := omega) only [go_sem, k9]); (try refine cnd ?_); (try (exfalso; omega; done)))))); (all_goals (try clear k9)))
    (apply Back.to (i + 1) [0, _]; (focus ((try simp (maxSteps := 9999999) (disch := omega) only [go_sem, hfu, hp, hr, renL_append]); first | done | omega)); rotate_left; (focus (simp (maxSteps := 9999999) (disch := omega) only [go_sem, hfu, hp, hr, renL_append]; (try (repeat' (first | done | trivial | rfl | exact leAs_rfl _ | decide | (refine And.intro ?_ ?_) | (simp; done) | omega | (simp; decide)))))))
    omega
  · obtain rfl : i = l.length := by omega
    have g1 : ((l.length : Int) < (l.length : Int)) = False := eq_false (by omega)
    rw [List.take_length]
    (try simp (maxSteps := 9999999) (disch := omega) only [go_sem])
    (have k9 := And.intro @hr (And.intro @g1 (k0)); (repeat' (first | refine AWpA.seq ?_ | refine AWpA.block ?_ | (with_reducible refine CondP.tt ?_) | (with_reducible refine CondP.ff ?_) | refine AWpA.cg ?_ | ((first | refine AWpA.rg ?_ | refine AWpA.dg [] [] follows ?_ | refine TailK.tg ?_ | refine AWpA.skip ?_ | refine AWpA.exit ?_ | refine AWpA.ret ?_ | (with_reducible refine ARoundsA.succ ?_) | ((first | refine Runs.gkt (fun h9 => ?_) | refine Runs.gkf (fun h9 => ?_) | refine Runs.gnt (fun h9 => ?_) | refine Runs.gnf (fun h9 => ?_) | refine CondP.gt (fun h9 => ?_) | refine CondP.gf (fun h9 => ?_) | refine CondP.gnt (fun h9 => ?_) | refine CondP.gnf (fun h9 => ?_)); (try simp only [h9]); clear h9)); (try simp (maxSteps := 9999999) (disch := omega) only [go_sem, k9]); (try refine cnd ?_)) | ((first | refine CondP.split (fun hif => ?_) (fun hif => ?_) | refine Runs.part (fun hif => ?_) (fun hif => ?_)) <;> ((try simp only [hif]); (try simp only [BL] at hif); (try (have h9 : _ = true := hif; simp only [h9])); (try (have h9 : _ = false := hif; simp only [h9])); (try simp (maxSteps := 9999999) (disch := omega) only [go_sem, k9]); (try refine cnd ?_); (try (exfalso; omega; done)))))); (all_goals (try clear k9)))
    (apply Ret.det [0, 1]; (focus (first | exact .inl rfl | exact .inr rfl)); (focus (simp (maxSteps := 9999999) (disch := omega) only [go_sem, hr]; rfl)); (simp (maxSteps := 9999999) (disch := omega) only [go_sem, hr]; (try (repeat' (first | done | trivial | rfl | exact leAs_rfl _ | decide | (refine And.intro ?_ ?_) | (simp; done) | omega | (simp; decide))))))
theorem updates_any (off : Nat) (l : List Up) (hl : l.length ≤ 1099511627776) : ACall Try.prog 13 [.sl 0 off l.length 10 none] [.cells true (Ru off l)] (Det (.sl 1 0 l.length 10 none) [.cells true (Ru off l), .cells false (Ru 0 l)]) := by
  have hr := ru_ren
  have hlen := ru_len off l
  refine ACall.startA c13_ok Try.func13 rfl Try.ntmps13 (by kernel_rfl) res13_ok rfl rfl rfl ?_; simp (maxSteps := 9999999) (disch := omega) only [go_sem]
  refine AWpA.dummy ?_
  (have k9 := And.intro @hr (k0); (repeat' (first | refine AWpA.seq ?_ | refine AWpA.block ?_ | (with_reducible refine CondP.tt ?_) | (with_reducible refine CondP.ff ?_) | refine AWpA.cg ?_ | ((first | refine AWpA.rg ?_ | refine AWpA.dg [] [] follows ?_ | refine TailK.tg ?_ | refine AWpA.skip ?_ | refine AWpA.exit ?_ | refine AWpA.ret ?_ | (with_reducible refine ARoundsA.succ ?_) | ((first | refine Runs.gkt (fun h9 => ?_) | refine Runs.gkf (fun h9 => ?_) | refine Runs.gnt (fun h9 => ?_) | refine Runs.gnf (fun h9 => ?_) | refine CondP.gt (fun h9 => ?_) | refine CondP.gf (fun h9 => ?_) | refine CondP.gnt (fun h9 => ?_) | refine CondP.gnf (fun h9 => ?_)); (try simp only [h9]); clear h9)); (try simp (maxSteps := 9999999) (disch := omega) only [go_sem, k9]); (try refine cnd ?_)) | ((first | refine CondP.split (fun hif => ?_) (fun hif => ?_) | refine Runs.part (fun hif => ?_) (fun hif => ?_)) <;> ((try simp only [hif]); (try simp only [BL] at hif); (try (have h9 : _ = true := hif; simp only [h9])); (try (have h9 : _ = false := hif; simp only [h9])); (try simp (maxSteps := 9999999) (disch := omega) only [go_sem, k9]); (try refine cnd ?_); (try (exfalso; omega; done)))))); (all_goals (try clear k9)))
  (apply AWpA.loopL (fun i : Nat => [(3, .sl 1 0 i 10 none), (6, .sl 0 off l.length 10 none), (7, I l.length), (8, I i)]) (fun i => [.cells true (Ru off l), .cells false (Ru 0 (l.take i))]) (fun i => l.length - i) (fun i => i ≤ l.length) (0) [0, 1]; rotate_left; (focus (simp (maxSteps := 9999999) (disch := omega) only [go_sem, hr, ru_nil, List.take_zero]; (try (repeat' (first | done | trivial | rfl | exact leAs_rfl _ | decide | (refine And.intro ?_ ?_) | (simp; done) | omega | (simp; decide)))))); rotate_right)
  · exact Nat.zero_le _
  rintro i hi
  (try simp only at hi)
  by_cases hin : i < l.length
  · have g1 : ((i : Int) < (l.length : Int)) = True := eq_true (by omega)
    have hat := ru_at off l i hin
    have hp := ru_put l i hin
    have hl2 := ru_len 0 (l.take i)
    rw [List.length_take, Nat.min_eq_left hi] at hl2
    have hfu := ru_all (l.take i) (n := i * 10) (by rw [List.length_take, Nat.min_eq_left hi])
    have o1 := of05_any l[i].e
    generalize l[i] = u at *
    (try simp (maxSteps := 9999999) (disch := omega) only [go_sem])
    (have k9 := And.intro @hr (And.intro @hlen (And.intro @hat (And.intro @g1 (And.intro @hl2 (k0))))); (repeat' (first | refine AWpA.seq ?_ | refine AWpA.block ?_ | (with_reducible refine CondP.tt ?_) | (with_reducible refine CondP.ff ?_) | refine AWpA.cg ?_ | ((first | refine AWpA.rg ?_ | refine AWpA.dg [] [] follows ?_ | refine TailK.tg ?_ | refine AWpA.skip ?_ | refine AWpA.exit ?_ | refine AWpA.ret ?_ | (with_reducible refine ARoundsA.succ ?_) | ((first | refine Runs.gkt (fun h9 => ?_) | refine Runs.gkf (fun h9 => ?_) | refine Runs.gnt (fun h9 => ?_) | refine Runs.gnf (fun h9 => ?_) | refine CondP.gt (fun h9 => ?_) | refine CondP.gf (fun h9 => ?_) | refine CondP.gnt (fun h9 => ?_) | refine CondP.gnf (fun h9 => ?_)); (try simp only [h9]); clear h9) | refine CallG.pg [] (o1) ?_ | refine CallG.dg [] (o1) ?_); (try simp (maxSteps := 9999999) (disch := omega) only [go_sem, k9]); (try refine cnd ?_)) | ((first | refine CondP.split (fun hif => ?_) (fun hif => ?_) | refine Runs.part (fun hif => ?_) (fun hif => ?_)) <;> ((try simp only [hif]); (try simp only [BL] at hif); (try (have h9 : _ = true := hif; simp only [h9])); (try (have h9 : _ = false := hif; simp only [h9])); (try simp (maxSteps := 9999999) (disch := omega) only [go_sem, k9]); (try refine cnd ?_); (try (exfalso; omega; done)))))); (all_goals (try clear k9)))
    (apply Back.to (i + 1) [0, _]; (focus ((try simp (maxSteps := 9999999) (disch := omega) only [go_sem, hfu, hp, hr, renL_append]); first | done | omega)); rotate_left; (focus (simp (maxSteps := 9999999) (disch := omega) only [go_sem, hfu, hp, hr, renL_append]; (try (repeat' (first | done | trivial | rfl | exact leAs_rfl _ | decide | (refine And.intro ?_ ?_) | (simp; done) | omega | (simp; decide)))))))
    omega
  · obtain rfl : i = l.length := by omega
    have g1 : ((l.length : Int) < (l.length : Int)) = False := eq_false (by omega)
    rw [List.take_length]
    (try simp (maxSteps := 9999999) (disch := omega) only [go_sem])
    (have k9 := And.intro @hr (And.intro @g1 (k0)); (repeat' (first | refine AWpA.seq ?_ | refine AWpA.block ?_ | (with_reducible refine CondP.tt ?_) | (with_reducible refine CondP.ff ?_) | refine AWpA.cg ?_ | ((first | refine AWpA.rg ?_ | refine AWpA.dg [] [] follows ?_ | refine TailK.tg ?_ | refine AWpA.skip ?_ | refine AWpA.exit ?_ | refine AWpA.ret ?_ | (with_reducible refine ARoundsA.succ ?_) | ((first | refine Runs.gkt (fun h9 => ?_) | refine Runs.gkf (fun h9 => ?_) | refine Runs.gnt (fun h9 => ?_) | refine Runs.gnf (fun h9 => ?_) | refine CondP.gt (fun h9 => ?_) | refine CondP.gf (fun h9 => ?_) | refine CondP.gnt (fun h9 => ?_) | refine CondP.gnf (fun h9 => ?_)); (try simp only [h9]); clear h9)); (try simp (maxSteps := 9999999) (disch := omega) only [go_sem, k9]); (try refine cnd ?_)) | ((first | refine CondP.split (fun hif => ?_) (fun hif => ?_) | refine Runs.part (fun hif => ?_) (fun hif => ?_)) <;> ((try simp only [hif]); (try simp only [BL] at hif); (try (have h9 : _ = true := hif; simp only [h9])); (try (have h9 : _ = false := hif; simp only [h9])); (try simp (maxSteps := 9999999) (disch := omega) only [go_sem, k9]); (try refine cnd ?_); (try (exfalso; omega; done)))))); (all_goals (try clear k9)))
    (apply Ret.det [0, 1]; (focus (first | exact .inl rfl | exact .inr rfl)); (focus (simp (maxSteps := 9999999) (disch := omega) only [go_sem, hr]; rfl)); (simp (maxSteps := 9999999) (disch := omega) only [go_sem, hr]; (try (repeat' (first | done | trivial | rfl | exact leAs_rfl _ | decide | (refine And.intro ?_ ?_) | (simp; done) | omega | (simp; decide))))))
end Go.Proofs.Ytbblpmkdhdnkhaa
