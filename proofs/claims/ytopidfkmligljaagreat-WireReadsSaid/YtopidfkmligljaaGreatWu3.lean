/- Contract: the law's example. -/
import Derived.Test.YtopidfkmligljaaGreatWr3
namespace Go.Proofs.YtopidfkmligljaaGreat
noncomputable section
set_option linter.unusedSimpArgs false
set_option linter.unusedVariables false
set_option maxHeartbeats 4000000
open Go Go.Am Go.RowKit
set_option maxRecDepth 100000
set_option maxHeartbeats 8000000
/- quidnunc/quidnunclaw16.speaks -/
def c7_1 : ACode := .region false [⟨some 0, .move, [.c (.val (.bool false))], none⟩] [] [] [] false [] []
def c7_3 : ACode := .region false [⟨some 4, .buildSl 1 2 [(.int .i64 0)] [(0, 1), (1, 1)], [.c (.val (.int .i64 3)), .c (.val (.int .i64 7))], none⟩,
  ⟨some 5, .build [(.int .i64 0), (.int .i64 0), (.int .i64 0), (.bool false), (.slice none 0 0), (.int .i64 0), (.int .u64 0), (.int .i64 0), (.int .i64 0), (.string ⟨#[]⟩), (.slice none 0 0), (.slice none 0 0)] [(0, 1), (4, 1)], [.c (.val (.int .i64 8)), .t 4], none⟩,
  ⟨some 6, .call 12, [.t 5], none⟩,
  ⟨some 3, .move, [.t 6], none⟩,
  ⟨some 7, .ext 0, [.t 3], none⟩,
  ⟨some 8, .ext 1, [.t 3], none⟩,
  ⟨some 1, .move, [.t 7], none⟩,
  ⟨some 2, .move, [.t 8], none⟩] [] [] [1, 2] true [] []
def c7_5 : ACode := .region false [⟨some 9, .move, [.t 2], none⟩,
  ⟨some 10, .bin .eql, [.t 9, .c (.val (.int .i64 0))], none⟩,
  ⟨some 11, .move, [.t 10], none⟩,
  ⟨some 12, .move, [.t 1], some (some 11, true)⟩,
  ⟨some 13, .toStr, [.t 12], some (some 11, true)⟩,
  ⟨some 14, .bin .eql, [.t 13, .c (.val (.string ⟨#[2, 3, 7]⟩))], some (some 11, true)⟩,
  ⟨some 15, .pick, [.t 11, .t 14, .c (.val (.bool false))], none⟩,
  ⟨some 0, .move, [.t 15], none⟩] [] [] [0] false [] []
def c7_4 : ACode := .seq c7_5 .ret
def c7_2 : ACode := .seq c7_3 c7_4
def c7_0 : ACode := .seq c7_1 c7_2
def code7 : Code := (Tryz.f7.body).getD .skip
theorem c7_ok : compC Tryz.prog 16 code7 = some (strip c7_0) := by kernel_rfl
theorem res7_ok : Tryz.f7.results.toList.mapM (resC Tryz.prog) = some [(0, none)] := by kernel_rfl
def spM : Wm := ⟨8, 0, 0, false, [3, 7], 0, 0, noMk, [], []⟩
theorem spM_good : goodW spM = 0 := by decide +kernel
theorem spM_enc : encW spM = [2, 3, 7] := by decide +kernel
theorem speaks16 : ACall Tryz.prog 7 [] [] (Det (Bo true) []) := by
  have c := wencode_any spM 0 0 0 (by decide) ⟨by decide, by decide⟩
  rw [spM_good, spM_enc] at c
  have h1 : Ri 0 spM.peers = [I 3, I 7] := rfl
  have h2 : Rm 0 spM.marks = [] := rfl
  have h3 : Re 0 spM.ents = [] := rfl
  have h4 : bA [2, 3, 7] = [U8 2, U8 3, U8 7] := rfl
  rw [h1, h2, h3, h4] at c
  simp only [spM, List.length_cons, List.length_nil, Nat.reduceAdd] at c
  have h5 : ((⟨(toB [2, 3, 7]).toArray⟩ : ByteArray) == ⟨#[2, 3, 7]⟩) = true := by decide +kernel
  refine ACall.startA c7_ok Tryz.func7 rfl Tryz.ntmps7 (by kernel_rfl) res7_ok rfl rfl rfl ?_; simp (maxSteps := 9999999) (disch := omega) only [go_sem]
  refine AWpA.dummy ?_
  refine AWpA.dummy ?_
  (have k9 := And.intro @h5 (k0); (repeat' (first | refine AWpA.seq ?_ | refine AWpA.block ?_ | (with_reducible refine CondP.tt ?_) | (with_reducible refine CondP.ff ?_) | refine AWpA.cg ?_ | ((first | refine AWpA.rg ?_ | refine AWpA.dg [] [] follows ?_ | refine TailK.tg ?_ | refine AWpA.skip ?_ | refine AWpA.exit ?_ | refine AWpA.ret ?_ | (with_reducible refine ARoundsA.succ ?_) | ((first | refine Runs.gkt (fun h9 => ?_) | refine Runs.gkf (fun h9 => ?_) | refine Runs.gnt (fun h9 => ?_) | refine Runs.gnf (fun h9 => ?_) | refine CondP.gt (fun h9 => ?_) | refine CondP.gf (fun h9 => ?_) | refine CondP.gnt (fun h9 => ?_) | refine CondP.gnf (fun h9 => ?_)); (try simp only [h9]); clear h9) | refine CallG.pg [18, 0, 1] (c) ?_ | refine CallG.dg [18, 0, 1] (c) ?_); (try simp (maxSteps := 9999999) (disch := omega) only [go_sem, k9]); (try refine cnd ?_)) | ((first | refine CondP.split (fun hif => ?_) (fun hif => ?_) | refine Runs.part (fun hif => ?_) (fun hif => ?_)) <;> ((try simp only [hif]); (try simp only [BL] at hif); (try (have h9 : _ = true := hif; simp only [h9])); (try (have h9 : _ = false := hif; simp only [h9])); (try simp (maxSteps := 9999999) (disch := omega) only [go_sem, k9]); (try refine cnd ?_); (try (exfalso; omega; done)))))); (all_goals (try clear k9)))
  all_goals (apply Ret.det []; (focus (first | exact .inl rfl | exact .inr rfl)); (focus (simp (maxSteps := 9999999) (disch := omega) only [go_sem]; rfl)); (simp (maxSteps := 9999999) (disch := omega) only [go_sem]; (try (repeat' (first | done | trivial | rfl | exact leAs_rfl _ | decide | (refine And.intro ?_ ?_) | (simp; done) | omega | (simp; decide))))))
end
end Go.Proofs.YtopidfkmligljaaGreat
