/- Own theory, no program in sight: the order of texts. -/
import Derived.Test.YtodnlihbmgigjaaAc0
import Derived.Test.YtodnlihbmgigjaaEg4
namespace Go.Am
set_option linter.unusedSimpArgs false
set_option linter.unusedVariables false
set_option maxHeartbeats 4000000
open Go Go.RowKit
theorem bl_irr : ∀ l : List UInt8, Op.bytesLess l l = false
  | [] => rfl
  | a :: l => by
    simp only [Op.bytesLess, bl_irr l, Bool.and_false, Bool.or_false, decide_eq_false_iff_not]
    exact UInt8.lt_irrefl a
theorem bl_cons (a b : UInt8) (x y : List UInt8) : Op.bytesLess (a :: x) (b :: y) = true ↔ a.toNat < b.toNat ∨ (a = b ∧ Op.bytesLess x y = true) := by
  simp only [Op.bytesLess, Bool.or_eq_true, decide_eq_true_eq, Bool.and_eq_true, beq_iff_eq, UInt8.lt_iff_toNat_lt]
theorem bl_trans : ∀ {x y z : List UInt8}, Op.bytesLess x y = true → Op.bytesLess y z = true → Op.bytesLess x z = true
  | _, [], _, h, _ => by cases ‹List UInt8› <;> simp [Op.bytesLess] at h
  | _, _ :: _, [], _, k => by simp [Op.bytesLess] at k
  | [], _ :: _, _ :: _, _, _ => rfl
  | a :: x, b :: y, c :: z, h, k => by
    rw [bl_cons] at h k ⊢
    rcases h with h | ⟨rfl, h⟩
    · rcases k with k | ⟨rfl, _⟩
      · exact .inl (by omega)
      · exact .inl h
    · rcases k with k | ⟨rfl, k⟩
      · exact .inl k
      · exact .inr ⟨rfl, bl_trans h k⟩
theorem bl_tri : ∀ {x y : List UInt8}, Op.bytesLess x y = false → Op.bytesLess y x = false → x = y
  | [], [], _, _ => rfl
  | [], _ :: _, h, _ => by simp [Op.bytesLess] at h
  | _ :: _, [], _, k => by simp [Op.bytesLess] at k
  | a :: x, b :: y, h, k => by
    have h' : ¬ (a.toNat < b.toNat ∨ (a = b ∧ Op.bytesLess x y = true)) := fun e => by rw [(bl_cons a b x y).2 e] at h; cases h
    have k' : ¬ (b.toNat < a.toNat ∨ (b = a ∧ Op.bytesLess y x = true)) := fun e => by rw [(bl_cons b a y x).2 e] at k; cases k
    simp only [not_or, not_and] at h' k'
    have e : a = b := UInt8.toNat_inj.1 (by omega)
    subst e
    have := bl_tri (x := x) (y := y) (by simpa using h'.2 rfl) (by simpa using k'.2 rfl)
    rw [this]
/-- One text is ahead of another one. -/
def ltK (a b : ByteArray) : Bool := Op.bytesLess a.toList b.toList
theorem ltK_def (a b : ByteArray) : Op.bytesLess a.toList b.toList = ltK a b := rfl
theorem ltK_irr (a : ByteArray) : ltK a a = false := bl_irr _
theorem ltK_trans {a b c : ByteArray} (h : ltK a b = true) (k : ltK b c = true) : ltK a c = true := bl_trans h k
theorem ba_toList {a b : ByteArray} (h : a.toList = b.toList) : a = b := by
  rw [← ba_iff, beq_toListBytes, h]
  simp
theorem ltK_tri {a b : ByteArray} (h : ltK a b = false) (k : ltK b a = false) : a = b := ba_toList (bl_tri h k)
theorem ltK_asym {a b : ByteArray} (h : ltK a b = true) : ltK b a = false := by
  cases e : ltK b a with
  | false => rfl
  | true => have := ltK_trans h e; rw [ltK_irr] at this; cases this
theorem ltK_neg {a b c : ByteArray} (h : ltK a b = false) (k : ltK b c = false) : ltK a c = false := by
  cases e : ltK a c with
  | false => rfl
  | true =>
    exfalso
    cases e2 : ltK c b with
    | true => have := ltK_trans e e2; rw [h] at this; cases this
    | false => have := ltK_tri k e2; subst this; rw [h] at e; cases e
attribute [irreducible] ltK
end Go.Am
namespace Go.Proofs.Ytodnlihbmgigjaa
open Go Go.Am Go.RowKit
set_option maxRecDepth 100000
set_option linter.unusedSimpArgs false
attribute [go_sem] ltK_def
def cmpK (a b : ByteArray) : Int := if ltK a b = true then -1 else if ltK b a = true then 1 else 0
theorem cmpK_lt (a b : ByteArray) : cmpK a b < 0 ↔ ltK a b = true := by
  unfold cmpK; split
  · simp [*]
  · split <;> simp [*]
theorem cmpK_eq (a b : ByteArray) : cmpK a b = 0 ↔ a = b := by
  unfold cmpK
  split
  · rename_i h
    refine ⟨fun e => (by cases e), fun e => ?_⟩
    subst e; rw [ltK_irr] at h; cases h
  · split
    · rename_i h k
      refine ⟨fun e => (by cases e), fun e => ?_⟩
      subst e; rw [ltK_irr] at k; cases k
    · rename_i h k
      exact ⟨fun _ => ltK_tri (by simpa using h) (by simpa using k), fun _ => rfl⟩
/- cmp.isNaN[string] -/
noncomputable def c52_1 : ACode := .region false [⟨some 2, .move, [.c (.val (.bool false))], none⟩] [] [] [0] false [] []
noncomputable def c52_3 : ACode := .region false [⟨some 3, .move, [.t 0], none⟩,
  ⟨some 4, .move, [.t 0], none⟩,
  ⟨some 5, .bin .neq, [.t 3, .t 4], none⟩,
  ⟨some 2, .move, [.t 5], none⟩] [] [] [2] false [] []
noncomputable def c52_2 : ACode := .seq c52_3 .ret
noncomputable def c52_0 : ACode := .seq c52_1 c52_2
noncomputable def code52 : Code := (Try.f52.body).getD .skip
theorem c52_ok : compC Try.prog 6 code52 = some (strip c52_0) := by kernel_rfl
theorem res52_ok : Try.f52.results.toList.mapM (resC Try.prog) = some [(2, none)] := by kernel_rfl
/- cmp.Compare[string] -/
noncomputable def c44_1 : ACode := .region false [⟨some 4, .move, [.c (.val (.int .i64 0))], none⟩] [] [] [0, 1] false [] []
noncomputable def c44_3 : ACode := .region false [⟨some 7, .move, [.t 0], none⟩,
  ⟨some 8, .call 52, [.t 7], none⟩,
  ⟨some 5, .move, [.t 8], none⟩] [] [] [0, 1, 5] true [] []
noncomputable def c44_5 : ACode := .region false [⟨some 9, .move, [.t 1], none⟩,
  ⟨some 10, .call 52, [.t 9], none⟩,
  ⟨some 6, .move, [.t 10], none⟩] [] [] [0, 1, 5, 6] true [] []
noncomputable def c44_8 : ACode := .region false [⟨some 11, .move, [.t 5], none⟩] [] [] [0, 1, 6, 11] false [] []
noncomputable def c44_12 : ACode := .region false [⟨some 12, .move, [.t 6], none⟩] [] [] [12] false [] []
noncomputable def c44_15 : ACode := .region false [⟨some 4, .move, [.c (.val (.int .i64 0))], none⟩] [] [] [4] false [] []
noncomputable def c44_14 : ACode := .seq c44_15 .ret
noncomputable def c44_13 : ACode := .cond (.t 12) c44_14 .skip
noncomputable def c44_11 : ACode := .seq c44_12 c44_13
noncomputable def c44_17 : ACode := .region false [⟨some 4, .move, [.c (.val (.int .i64 (-1)))], none⟩] [] [] [4] false [] []
noncomputable def c44_16 : ACode := .seq c44_17 .ret
noncomputable def c44_10 : ACode := .seq c44_11 c44_16
noncomputable def c44_9 : ACode := .cond (.t 11) c44_10 .skip
noncomputable def c44_7 : ACode := .seq c44_8 c44_9
noncomputable def c44_20 : ACode := .region false [⟨some 13, .move, [.t 6], none⟩] [] [] [0, 1, 13] false [] []
noncomputable def c44_23 : ACode := .region false [⟨some 4, .move, [.c (.val (.int .i64 1))], none⟩] [] [] [4] false [] []
noncomputable def c44_22 : ACode := .seq c44_23 .ret
noncomputable def c44_21 : ACode := .cond (.t 13) c44_22 .skip
noncomputable def c44_19 : ACode := .seq c44_20 c44_21
noncomputable def c44_26 : ACode := .region false [⟨some 14, .move, [.t 0], none⟩,
  ⟨some 15, .move, [.t 1], none⟩,
  ⟨some 16, .bin .lss, [.t 14, .t 15], none⟩] [] [] [0, 1, 16] false [] []
noncomputable def c44_29 : ACode := .region false [⟨some 4, .move, [.c (.val (.int .i64 (-1)))], none⟩] [] [] [4] false [] []
noncomputable def c44_28 : ACode := .seq c44_29 .ret
noncomputable def c44_27 : ACode := .cond (.t 16) c44_28 .skip
noncomputable def c44_25 : ACode := .seq c44_26 c44_27
noncomputable def c44_32 : ACode := .region false [⟨some 17, .move, [.t 0], none⟩,
  ⟨some 18, .move, [.t 1], none⟩,
  ⟨some 19, .bin .gtr, [.t 17, .t 18], none⟩] [] [] [19] false [] []
noncomputable def c44_35 : ACode := .region false [⟨some 4, .move, [.c (.val (.int .i64 1))], none⟩] [] [] [4] false [] []
noncomputable def c44_34 : ACode := .seq c44_35 .ret
noncomputable def c44_33 : ACode := .cond (.t 19) c44_34 .skip
noncomputable def c44_31 : ACode := .seq c44_32 c44_33
noncomputable def c44_37 : ACode := .region false [⟨some 4, .move, [.c (.val (.int .i64 0))], none⟩] [] [] [4] false [] []
noncomputable def c44_36 : ACode := .seq c44_37 .ret
noncomputable def c44_30 : ACode := .seq c44_31 c44_36
noncomputable def c44_24 : ACode := .seq c44_25 c44_30
noncomputable def c44_18 : ACode := .seq c44_19 c44_24
noncomputable def c44_6 : ACode := .seq c44_7 c44_18
noncomputable def c44_4 : ACode := .seq c44_5 c44_6
noncomputable def c44_2 : ACode := .seq c44_3 c44_4
noncomputable def c44_0 : ACode := .seq c44_1 c44_2
noncomputable def code44 : Code := (Try.f44.body).getD .skip
theorem c44_ok : compC Try.prog 20 code44 = some (strip c44_0) := by kernel_rfl
theorem res44_ok : Try.f44.results.toList.mapM (resC Try.prog) = some [(4, none)] := by kernel_rfl
theorem isNaNS_any (a : ByteArray) : ACall Try.prog 52 [.val (.string a)] [] (Det (Bo false) []) := by
  refine ACall.startA c52_ok Try.func52 rfl Try.ntmps52 (by kernel_rfl) res52_ok rfl rfl rfl ?_; simp (maxSteps := 9999999) (disch := omega) only [go_sem]
  (have k9 := k0; (repeat' (first | refine AWpA.seq ?_ | refine AWpA.block ?_ | (with_reducible refine CondP.tt ?_) | (with_reducible refine CondP.ff ?_) | refine AWpA.cg ?_ | ((first | refine AWpA.rg ?_ | refine AWpA.dg [] [] follows ?_ | refine TailK.tg ?_ | refine AWpA.skip ?_ | refine AWpA.exit ?_ | refine AWpA.ret ?_ | (with_reducible refine ARoundsA.succ ?_) | ((first | refine Runs.gkt (fun h9 => ?_) | refine Runs.gkf (fun h9 => ?_) | refine Runs.gnt (fun h9 => ?_) | refine Runs.gnf (fun h9 => ?_) | refine CondP.gt (fun h9 => ?_) | refine CondP.gf (fun h9 => ?_) | refine CondP.gnt (fun h9 => ?_) | refine CondP.gnf (fun h9 => ?_)); (try simp only [h9]); clear h9)); (try simp (maxSteps := 9999999) (disch := omega) only [go_sem, k9]); (try refine cnd ?_)) | ((first | refine CondP.split (fun hif => ?_) (fun hif => ?_) | refine Runs.part (fun hif => ?_) (fun hif => ?_)) <;> ((try simp only [hif]); (try simp only [BL] at hif); (try (have h9 : _ = true := hif; simp only [h9])); (try (have h9 : _ = false := hif; simp only [h9])); (try simp (maxSteps := 9999999) (disch := omega) only [go_sem, k9]); (try refine cnd ?_); (try (exfalso; omega; done)))))); (all_goals (try clear k9)))
  (apply Ret.det []; (focus (first | exact .inl rfl | exact .inr rfl)); (focus (simp (maxSteps := 9999999) (disch := omega) only [go_sem]; rfl)); (simp (maxSteps := 9999999) (disch := omega) only [go_sem]; (try (repeat' (first | done | trivial | rfl | exact leAs_rfl _ | decide | (refine And.intro ?_ ?_) | (simp; done) | omega | (simp; decide))))))
theorem cmpS_any (a b : ByteArray) : ACall Try.prog 44 [.val (.string a), .val (.string b)] [] (Det (I (cmpK a b)) []) := by
  have hg : (!(ltK a b || a == b)) = (!ltK a b && ltK b a) := by
    cases h : ltK a b with
    | true => rfl
    | false =>
      cases k : ltK b a with
      | true =>
        have : (a == b) = false := by
          cases e : (a == b) with
          | false => rfl
          | true => rw [(ba_iff a b).1 e, ltK_irr] at k; cases k
        rw [this]; rfl
      | false => rw [ltK_tri h k]; simp [ba_refl]
  have c1 := isNaNS_any a
  have c2 := isNaNS_any b
  cases h : ltK a b with
  | true =>
    have e : cmpK a b = -1 := by simp [cmpK, h]
    rw [e]
    clear hg
    refine ACall.startA c44_ok Try.func44 rfl Try.ntmps44 (by kernel_rfl) res44_ok rfl rfl rfl ?_; simp (maxSteps := 9999999) (disch := omega) only [go_sem]
    (have k9 := And.intro @h (k0); (repeat' (first | refine AWpA.seq ?_ | refine AWpA.block ?_ | (with_reducible refine CondP.tt ?_) | (with_reducible refine CondP.ff ?_) | refine AWpA.cg ?_ | ((first | refine AWpA.rg ?_ | refine AWpA.dg [] [] follows ?_ | refine TailK.tg ?_ | refine AWpA.skip ?_ | refine AWpA.exit ?_ | refine AWpA.ret ?_ | (with_reducible refine ARoundsA.succ ?_) | ((first | refine Runs.gkt (fun h9 => ?_) | refine Runs.gkf (fun h9 => ?_) | refine Runs.gnt (fun h9 => ?_) | refine Runs.gnf (fun h9 => ?_) | refine CondP.gt (fun h9 => ?_) | refine CondP.gf (fun h9 => ?_) | refine CondP.gnt (fun h9 => ?_) | refine CondP.gnf (fun h9 => ?_)); (try simp only [h9]); clear h9) | refine CallG.pg [] (c1) ?_ | refine CallG.pg [] (c2) ?_ | refine CallG.dg [] (c1) ?_ | refine CallG.dg [] (c2) ?_); (try simp (maxSteps := 9999999) (disch := omega) only [go_sem, k9]); (try refine cnd ?_)) | ((first | refine CondP.split (fun hif => ?_) (fun hif => ?_) | refine Runs.part (fun hif => ?_) (fun hif => ?_)) <;> ((try simp only [hif]); (try simp only [BL] at hif); (try (have h9 : _ = true := hif; simp only [h9])); (try (have h9 : _ = false := hif; simp only [h9])); (try simp (maxSteps := 9999999) (disch := omega) only [go_sem, k9]); (try refine cnd ?_); (try (exfalso; omega; done)))))); (all_goals (try clear k9)))
    (apply Ret.det []; (focus (first | exact .inl rfl | exact .inr rfl)); (focus (simp (maxSteps := 9999999) (disch := omega) only [go_sem]; rfl)); (simp (maxSteps := 9999999) (disch := omega) only [go_sem]; (try (repeat' (first | done | trivial | rfl | exact leAs_rfl _ | decide | (refine And.intro ?_ ?_) | (simp; done) | omega | (simp; decide))))))
  | false =>
    rw [h] at hg
    cases k : ltK b a with
    | true =>
      have e : cmpK a b = 1 := by simp [cmpK, h, k]
      rw [e]
      rw [k] at hg
      refine ACall.startA c44_ok Try.func44 rfl Try.ntmps44 (by kernel_rfl) res44_ok rfl rfl rfl ?_; simp (maxSteps := 9999999) (disch := omega) only [go_sem]
      (have k9 := And.intro @h (And.intro @hg (k0)); (repeat' (first | refine AWpA.seq ?_ | refine AWpA.block ?_ | (with_reducible refine CondP.tt ?_) | (with_reducible refine CondP.ff ?_) | refine AWpA.cg ?_ | ((first | refine AWpA.rg ?_ | refine AWpA.dg [] [] follows ?_ | refine TailK.tg ?_ | refine AWpA.skip ?_ | refine AWpA.exit ?_ | refine AWpA.ret ?_ | (with_reducible refine ARoundsA.succ ?_) | ((first | refine Runs.gkt (fun h9 => ?_) | refine Runs.gkf (fun h9 => ?_) | refine Runs.gnt (fun h9 => ?_) | refine Runs.gnf (fun h9 => ?_) | refine CondP.gt (fun h9 => ?_) | refine CondP.gf (fun h9 => ?_) | refine CondP.gnt (fun h9 => ?_) | refine CondP.gnf (fun h9 => ?_)); (try simp only [h9]); clear h9) | refine CallG.pg [] (c1) ?_ | refine CallG.pg [] (c2) ?_ | refine CallG.dg [] (c1) ?_ | refine CallG.dg [] (c2) ?_); (try simp (maxSteps := 9999999) (disch := omega) only [go_sem, k9]); (try refine cnd ?_)) | ((first | refine CondP.split (fun hif => ?_) (fun hif => ?_) | refine Runs.part (fun hif => ?_) (fun hif => ?_)) <;> ((try simp only [hif]); (try simp only [BL] at hif); (try (have h9 : _ = true := hif; simp only [h9])); (try (have h9 : _ = false := hif; simp only [h9])); (try simp (maxSteps := 9999999) (disch := omega) only [go_sem, k9]); (try refine cnd ?_); (try (exfalso; omega; done)))))); (all_goals (try clear k9)))
      (apply Ret.det []; (focus (first | exact .inl rfl | exact .inr rfl)); (focus (simp (maxSteps := 9999999) (disch := omega) only [go_sem]; rfl)); (simp (maxSteps := 9999999) (disch := omega) only [go_sem]; (try (repeat' (first | done | trivial | rfl | exact leAs_rfl _ | decide | (refine And.intro ?_ ?_) | (simp; done) | omega | (simp; decide))))))
    | false =>
      have e : cmpK a b = 0 := by simp [cmpK, h, k]
      rw [e]
      rw [k] at hg
      refine ACall.startA c44_ok Try.func44 rfl Try.ntmps44 (by kernel_rfl) res44_ok rfl rfl rfl ?_; simp (maxSteps := 9999999) (disch := omega) only [go_sem]
      (have k9 := And.intro @h (And.intro @hg (k0)); (repeat' (first | refine AWpA.seq ?_ | refine AWpA.block ?_ | (with_reducible refine CondP.tt ?_) | (with_reducible refine CondP.ff ?_) | refine AWpA.cg ?_ | ((first | refine AWpA.rg ?_ | refine AWpA.dg [] [] follows ?_ | refine TailK.tg ?_ | refine AWpA.skip ?_ | refine AWpA.exit ?_ | refine AWpA.ret ?_ | (with_reducible refine ARoundsA.succ ?_) | ((first | refine Runs.gkt (fun h9 => ?_) | refine Runs.gkf (fun h9 => ?_) | refine Runs.gnt (fun h9 => ?_) | refine Runs.gnf (fun h9 => ?_) | refine CondP.gt (fun h9 => ?_) | refine CondP.gf (fun h9 => ?_) | refine CondP.gnt (fun h9 => ?_) | refine CondP.gnf (fun h9 => ?_)); (try simp only [h9]); clear h9) | refine CallG.pg [] (c1) ?_ | refine CallG.pg [] (c2) ?_ | refine CallG.dg [] (c1) ?_ | refine CallG.dg [] (c2) ?_); (try simp (maxSteps := 9999999) (disch := omega) only [go_sem, k9]); (try refine cnd ?_)) | ((first | refine CondP.split (fun hif => ?_) (fun hif => ?_) | refine Runs.part (fun hif => ?_) (fun hif => ?_)) <;> ((try simp only [hif]); (try simp only [BL] at hif); (try (have h9 : _ = true := hif; simp only [h9])); (try (have h9 : _ = false := hif; simp only [h9])); (try simp (maxSteps := 9999999) (disch := omega) only [go_sem, k9]); (try refine cnd ?_); (try (exfalso; omega; done)))))); (all_goals (try clear k9)))
      (apply Ret.det []; (focus (first | exact .inl rfl | exact .inr rfl)); (focus (simp (maxSteps := 9999999) (disch := omega) only [go_sem]; rfl)); (simp (maxSteps := 9999999) (disch := omega) only [go_sem]; (try (repeat' (first | done | trivial | rfl | exact leAs_rfl _ | decide | (refine And.intro ?_ ?_) | (simp; done) | omega | (simp; decide))))))
end Go.Proofs.Ytodnlihbmgigjaa
