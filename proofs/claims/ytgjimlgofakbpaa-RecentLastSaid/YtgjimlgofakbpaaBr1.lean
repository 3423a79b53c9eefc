/- Marks, the latest first: plain laws; contracts: compared, looked up. -/
import Derived.Test.YtgjimlgofakbpaaBs
import Derived.Test.YtgjimlgofakbpaaAn1
namespace Go.Proofs.Ytgjimlgofakbpaa
set_option linter.unusedSimpArgs false
set_option linter.unusedVariables false
set_option maxHeartbeats 4000000
open Go Go.Am Go.RowKit
set_option maxRecDepth 100000
theorem rm_take (l : List Mk) (i : Nat) {n : Nat} (h : n = i * 3) (hi : i ≤ l.length) : (Rm 0 l).take n = Rm 0 (l.take i) := by
  have e : Rm 0 l = Rm 0 (l.take i) ++ Rm 0 (l.drop i) := by rw [← rm_app, List.take_append_drop]
  have hl := rm_len 0 (l.take i)
  rw [List.length_take, Nat.min_eq_left hi] at hl
  rw [e, List.take_append_of_le_length (by omega), List.take_of_length_le (by omega)]
theorem rm_drop (l : List Mk) (i : Nat) {n : Nat} (h : n = i * 3) (hi : i ≤ l.length) : (Rm 0 l).drop n = Rm 0 (l.drop i) := by
  have e : Rm 0 l = Rm 0 (l.take i) ++ Rm 0 (l.drop i) := by rw [← rm_app, List.take_append_drop]
  have hl := rm_len 0 (l.take i)
  rw [List.length_take, Nat.min_eq_left hi] at hl
  rw [e, show n = (Rm 0 (l.take i)).length by omega, List.drop_left]
theorem cmpS_neg (a b : St) : cmpS b a < 0 ↔ laterB a b = true := by
  unfold cmpS laterB cmpI orI
  grind
theorem cmpS_pos (a b : St) : 0 < cmpS a b ↔ laterB a b = true := by
  unfold cmpS laterB cmpI orI
  grind
theorem cmpS_zero (a b : St) : cmpS a b = 0 ↔ a = b := by
  obtain ⟨a1, a2⟩ := a
  obtain ⟨b1, b2⟩ := b
  simp only [St.mk.injEq]
  unfold cmpS cmpI orI
  grind
theorem cmpK_pos (a b : ByteArray) : 0 < cmpK a b ↔ ltK b a = true := by
  unfold cmpK
  split
  · rename_i h
    rw [ltK_asym h]; simp
  · split <;> simp [*]
theorem cmpK_le (a b : ByteArray) : -1 ≤ cmpK a b ∧ cmpK a b ≤ 1 := by
  unfold cmpK
  split
  · simp
  · split <;> simp
theorem cmpS_le1 (a b : St) : -1 ≤ cmpS a b ∧ cmpS a b ≤ 1 := by
  unfold cmpS cmpI orI
  grind
/-- Which of two marks is the later one. -/
def cmpM (a b : Mk) : Int := orI (cmpS a.act b.act) (cmpK a.key b.key)
instance : DecidableEq St := fun a b => decidable_of_iff (a.c = b.c ∧ a.s = b.s) (by cases a; cases b; simp)
def latM (a b : Mk) : Bool := if a.act = b.act then ltK b.key a.key else laterB a.act b.act
theorem cmpM_neg (a b : Mk) : cmpM b a < 0 ↔ latM a b = true := by
  unfold cmpM latM orI
  by_cases h : a.act = b.act
  · rw [if_pos ((cmpS_zero _ _).2 h.symm), if_pos h]
    exact cmpK_lt _ _
  · rw [if_neg (fun e => h ((cmpS_zero _ _).1 e).symm), if_neg h]
    exact cmpS_neg _ _
theorem cmpM_pos (a b : Mk) : 0 < cmpM a b ↔ latM a b = true := by
  unfold cmpM latM orI
  by_cases h : a.act = b.act
  · rw [if_pos ((cmpS_zero _ _).2 h), if_pos h]
    exact cmpK_pos _ _
  · rw [if_neg (fun e => h ((cmpS_zero _ _).1 e)), if_neg h]
    exact cmpS_pos _ _
theorem cmpM_le (a b : Mk) : -1 ≤ cmpM a b ∧ cmpM a b ≤ 1 := by
  have := cmpS_le1 a.act b.act
  have := cmpK_le a.key b.key
  unfold cmpM orI
  split <;> omega
theorem cmpM_eq (a b : Mk) : cmpM a b = 0 ↔ a = b := by
  obtain ⟨a1, a2⟩ := a
  obtain ⟨b1, b2⟩ := b
  unfold cmpM orI
  simp only [Mk.mk.injEq]
  by_cases h : a1 = b1
  · rw [if_pos ((cmpS_zero _ _).2 h), cmpK_eq]; simp [h]
  · rw [if_neg (fun e => h ((cmpS_zero _ _).1 e))]
    constructor
    · intro e; exact absurd ((cmpS_zero _ _).1 e) h
    · intro e; exact absurd e.1 h
theorem latM_irr (a : Mk) : latM a a = false := by simp [latM, ltK_irr]
theorem laterB_irr (a : St) : laterB a a = false := by simp [laterB]
theorem later_trans' {a b c : St} (h : laterB a b = true) (k : laterB b c = true) : laterB a c = true := by
  unfold laterB at *
  split at h <;> split at k <;> split <;> simp_all <;> omega
theorem latM_trans {a b c : Mk} (h : latM a b = true) (k : latM b c = true) : latM a c = true := by
  obtain ⟨a1, a2⟩ := a
  obtain ⟨b1, b2⟩ := b
  obtain ⟨c1, c2⟩ := c
  unfold latM at *
  simp only at *
  by_cases h1 : a1 = b1
  · subst h1
    rw [if_pos rfl] at h
    by_cases h2 : a1 = c1
    · rw [if_pos h2] at k ⊢; exact ltK_trans k h
    · rw [if_neg h2] at k ⊢; exact k
  · rw [if_neg h1] at h
    by_cases h2 : b1 = c1
    · subst h2; rw [if_neg h1]; exact h
    · rw [if_neg h2] at k
      have := later_trans' h k
      by_cases h3 : a1 = c1
      · subst h3; rw [laterB_irr] at this; cases this
      · rw [if_neg h3]; exact this
theorem latM_asym {a b : Mk} (h : latM a b = true) : latM b a = false := by
  cases e : latM b a with
  | false => rfl
  | true => have := latM_trans h e; rw [latM_irr] at this; cases this
theorem latM_tri {a b : Mk} (h : latM a b = false) (k : latM b a = false) : a = b := by
  rw [← cmpM_eq]
  have h1 : ¬ 0 < cmpM a b := fun e => by rw [(cmpM_pos a b).1 e] at h; cases h
  have h2 : ¬ cmpM a b < 0 := fun e => by rw [(cmpM_neg b a).1 e] at k; cases k
  omega
attribute [irreducible] latM cmpM
/-- Marks, the latest first. -/
def RiseM (l : List Mk) : Prop := l.Pairwise fun a b => latM a b = true
theorem RiseM.lt {l : List Mk} (h : RiseM l) {i j : Nat} (hi : i < l.length) (hj : j < l.length) (hij : i < j) : latM l[i] l[j] = true := List.pairwise_iff_getElem.1 h i j hi hj hij
/-- How many are later than a mark; is it there? -/
def rankM (l : List Mk) (k : Mk) : Nat := (l.takeWhile fun p => latM p k).length
def hasM (l : List Mk) (k : Mk) : Bool := match l[rankM l k]? with | some p => decide (p = k) | none => false
theorem rankM_le (l : List Mk) (k : Mk) : rankM l k ≤ l.length := (List.takeWhile_sublist _).length_le
theorem rankM_eq : ∀ {l : List Mk} {k : Mk} {i : Nat}, i ≤ l.length → (∀ q (h : q < l.length), q < i → latM l[q] k = true) → (∀ q (h : q < l.length), i ≤ q → latM l[q] k = false) → rankM l k = i
  | [], k, i, hi, _, _ => by simp at hi; subst hi; rfl
  | p :: l, k, 0, hi, h1, h2 => by
    have := h2 0 (by simp) (Nat.le_refl _)
    simp only [List.getElem_cons_zero] at this
    simp [rankM, List.takeWhile_cons, this]
  | p :: l, k, i + 1, hi, h1, h2 => by
    have h0 := h1 0 (by simp) (by omega)
    simp only [List.getElem_cons_zero] at h0
    have ih := rankM_eq (l := l) (k := k) (i := i) (by simpa using hi) (fun q h hq => h1 (q + 1) (by simp only [List.length_cons]; omega) (by omega)) (fun q h hq => h2 (q + 1) (by simp only [List.length_cons]; omega) (by omega))
    simp only [rankM] at ih
    simp [rankM, List.takeWhile_cons, h0, ih]
/- quidnunc/recent.Compare -/
noncomputable def c12_1 : ACode := .region false [⟨some 2, .box 0, [.t 0], none⟩,
  ⟨some 3, .box 0, [.t 1], none⟩,
  ⟨some 4, .move, [.c (.val (.int .i64 0))], none⟩] [] [] [2, 3] true [] []
noncomputable def c12_3 : ACode := .region true [⟨some 5, .addr 0, [.t 2], none⟩,
  ⟨some 6, .load true 2, [.t 5], none⟩,
  ⟨some 7, .addr 0, [.t 3], none⟩,
  ⟨some 8, .load true 2, [.t 7], none⟩,
  ⟨some 9, .call 54, [.t 6, .t 8], none⟩,
  ⟨some 10, .addr 2, [.t 2], none⟩,
  ⟨some 11, .load false 1, [.t 10], none⟩,
  ⟨some 12, .addr 2, [.t 3], none⟩,
  ⟨some 13, .load false 1, [.t 12], none⟩,
  ⟨some 14, .call 55, [.t 11, .t 13], none⟩,
  ⟨some 15, .buildSl 1 2 [(.int .i64 0)] [(0, 1), (1, 1)], [.t 9, .t 14], none⟩,
  ⟨some 16, .call 53, [.t 15], none⟩,
  ⟨some 4, .move, [.t 16], none⟩] [] [] [4] true [] []
noncomputable def c12_2 : ACode := .seq c12_3 .ret
noncomputable def c12_0 : ACode := .seq c12_1 c12_2
noncomputable def code12 : Code := (Try.f12.body).getD .skip
theorem c12_ok : compC Try.prog 17 code12 = some (strip c12_0) := by kernel_rfl
theorem res12_ok : Try.f12.results.toList.mapM (resC Try.prog) = some [(4, none)] := by kernel_rfl
/- (*quidnunc/recent.Index).place$1 -/
noncomputable def c77_1 : ACode := .region false [⟨some 2, .box 0, [.t 0], none⟩,
  ⟨some 3, .box 0, [.t 1], none⟩,
  ⟨some 4, .move, [.c (.val (.int .i64 0))], none⟩] [] [] [2, 3] true [] []
noncomputable def c77_3 : ACode := .region false [⟨some 5, .load true 3, [.t 3], none⟩,
  ⟨some 6, .load true 3, [.t 2], none⟩,
  ⟨some 7, .call 12, [.t 5, .t 6], none⟩,
  ⟨some 4, .move, [.t 7], none⟩] [] [] [4] true [] []
noncomputable def c77_2 : ACode := .seq c77_3 .ret
noncomputable def c77_0 : ACode := .seq c77_1 c77_2
noncomputable def code77 : Code := (Try.f77.body).getD .skip
theorem c77_ok : compC Try.prog 8 code77 = some (strip c77_0) := by kernel_rfl
theorem res77_ok : Try.f77.results.toList.mapM (resC Try.prog) = some [(4, none)] := by kernel_rfl
/- (*quidnunc/recent.Index).place -/
noncomputable def c57_1 : ACode := .region false [⟨some 3, .box 0, [.t 1], none⟩,
  ⟨some 4, .move, [.c (.val (.int .i64 0))], none⟩,
  ⟨some 5, .move, [.c (.val (.bool false))], none⟩] [] [] [0, 3] true [] []
noncomputable def c57_3 : ACode := .region true [⟨some 6, .move, [.t 0], none⟩,
  ⟨some 7, .nilChk, [.t 6], none⟩,
  ⟨some 8, .addr 1, [.t 7], none⟩,
  ⟨some 9, .load false 1, [.t 8], none⟩,
  ⟨some 10, .load true 3, [.t 3], none⟩,
  ⟨some 11, .call 76, [.t 9, .t 10, .c (.fn 77 [] [])], none⟩,
  ⟨some 12, .ext 0, [.t 11], none⟩,
  ⟨some 13, .ext 1, [.t 11], none⟩,
  ⟨some 4, .move, [.t 12], none⟩,
  ⟨some 5, .move, [.t 13], none⟩] [] [] [4, 5] true [] []
noncomputable def c57_2 : ACode := .seq c57_3 .ret
noncomputable def c57_0 : ACode := .seq c57_1 c57_2
noncomputable def code57 : Code := (Try.f57.body).getD .skip
theorem c57_ok : compC Try.prog 14 code57 = some (strip c57_0) := by kernel_rfl
theorem res57_ok : Try.f57.results.toList.mapM (resC Try.prog) = some [(4, none), (5, none)] := by kernel_rfl
/- slices.BinarySearchFunc[[]quidnunc/api.Mark,quidnunc/api.Mark,quidnunc/api.Mark] -/
noncomputable def c76_1 : ACode := .region false [⟨some 4, .box 0, [.t 1], none⟩,
  ⟨some 6, .move, [.c (.val (.int .i64 0))], none⟩,
  ⟨some 7, .move, [.c (.val (.bool false))], none⟩] [] [] [0, 2, 4] true [] []
noncomputable def c76_3 : ACode := .region false [⟨some 12, .move, [.t 0], none⟩,
  ⟨some 13, .len, [.t 12], none⟩,
  ⟨some 8, .move, [.t 13], none⟩] [] [] [0, 2, 4, 8] false [] []
noncomputable def c76_5 : ACode := .region false [⟨some 14, .move, [.t 8], none⟩,
  ⟨some 9, .move, [.c (.val (.int .i64 0))], none⟩,
  ⟨some 10, .move, [.t 14], none⟩] [] [] [0, 2, 4, 8, 9, 10] false [] []
noncomputable def c76_11 : ACode := .region false [⟨some 15, .move, [.t 9], none⟩,
  ⟨some 16, .move, [.t 10], none⟩,
  ⟨some 17, .bin .lss, [.t 15, .t 16], none⟩] [] [] [0, 2, 4, 8, 9, 10, 17] false [] []
noncomputable def c76_12 : ACode := .cond (.t 17) .skip (.exit 0)
noncomputable def c76_10 : ACode := .seq c76_11 c76_12
noncomputable def c76_15 : ACode := .region false [⟨some 18, .move, [.t 9], none⟩,
  ⟨some 19, .move, [.t 10], none⟩,
  ⟨some 20, .bin .add, [.t 18, .t 19], none⟩,
  ⟨some 21, .conv .u64, [.t 20], none⟩,
  ⟨some 22, .bin .shr, [.t 21, .c (.val (.int .u64 1))], none⟩,
  ⟨some 23, .conv .i64, [.t 22], none⟩,
  ⟨some 11, .move, [.t 23], none⟩] [] [] [0, 2, 4, 8, 9, 10, 11] false [] []
noncomputable def c76_17 : ACode := .region true [⟨some 24, .move, [.t 2], none⟩,
  ⟨some 25, .move, [.t 0], none⟩,
  ⟨some 26, .move, [.t 11], none⟩,
  ⟨some 27, .ixS 3, [.t 25, .t 26], none⟩,
  ⟨some 28, .load true 3, [.t 27], none⟩,
  ⟨some 29, .load true 3, [.t 4], none⟩,
  ⟨some 30, .callv, [.t 24, .t 28, .t 29], none⟩,
  ⟨some 31, .bin .lss, [.t 30, .c (.val (.int .i64 0))], none⟩] [] [] [0, 2, 4, 8, 9, 10, 11, 31] true [] []
noncomputable def c76_19 : ACode := .region false [⟨some 32, .move, [.t 11], none⟩,
  ⟨some 33, .bin .add, [.t 32, .c (.val (.int .i64 1))], none⟩,
  ⟨some 9, .move, [.t 33], none⟩] [] [] [0, 2, 4, 8, 9, 10] false [] []
noncomputable def c76_20 : ACode := .region false [⟨some 34, .move, [.t 11], none⟩,
  ⟨some 10, .move, [.t 34], none⟩] [] [] [0, 2, 4, 8, 9, 10] false [] []
noncomputable def c76_18 : ACode := .cond (.t 31) c76_19 c76_20
noncomputable def c76_16 : ACode := .seq c76_17 c76_18
noncomputable def c76_14 : ACode := .seq c76_15 c76_16
noncomputable def c76_13 : ACode := .block 1 c76_14
noncomputable def c76_9 : ACode := .seq c76_10 c76_13
noncomputable def c76_8 : ACode := .loop c76_9
noncomputable def c76_7 : ACode := .block 0 c76_8
noncomputable def c76_22 : ACode := .region true [⟨some 35, .move, [.t 9], none⟩,
  ⟨some 36, .move, [.t 9], none⟩,
  ⟨some 37, .move, [.t 8], none⟩,
  ⟨some 38, .bin .lss, [.t 36, .t 37], none⟩,
  ⟨some 39, .move, [.t 38], none⟩,
  ⟨some 40, .move, [.t 2], some (some 39, true)⟩,
  ⟨some 41, .move, [.t 0], some (some 39, true)⟩,
  ⟨some 42, .move, [.t 9], some (some 39, true)⟩,
  ⟨some 43, .ixS 3, [.t 41, .t 42], some (some 39, true)⟩,
  ⟨some 44, .load true 3, [.t 43], some (some 39, true)⟩,
  ⟨some 45, .load true 3, [.t 4], some (some 39, true)⟩,
  ⟨some 46, .callv, [.t 40, .t 44, .t 45], some (some 39, true)⟩,
  ⟨some 47, .bin .eql, [.t 46, .c (.val (.int .i64 0))], some (some 39, true)⟩,
  ⟨some 48, .pick, [.t 39, .t 47, .c (.val (.bool false))], none⟩,
  ⟨some 6, .move, [.t 35], none⟩,
  ⟨some 7, .move, [.t 48], none⟩] [] [] [6, 7] true [] []
noncomputable def c76_21 : ACode := .seq c76_22 .ret
noncomputable def c76_6 : ACode := .seq c76_7 c76_21
noncomputable def c76_4 : ACode := .seq c76_5 c76_6
noncomputable def c76_2 : ACode := .seq c76_3 c76_4
noncomputable def c76_0 : ACode := .seq c76_1 c76_2
noncomputable def code76 : Code := (Try.f76.body).getD .skip
theorem c76_ok : compC Try.prog 49 code76 = some (strip c76_0) := by kernel_rfl
theorem res76_ok : Try.f76.results.toList.mapM (resC Try.prog) = some [(6, none), (7, none)] := by kernel_rfl
theorem mcmp_any (a b : Mk) : ACall Try.prog 12 [MkG a, MkG b] [] (Det (I (cmpM a b)) []) := by
  have e : cmpM a b = orI (cmpS a.act b.act) (cmpK a.key b.key) := by unfold cmpM; rfl
  rw [e]
  have c1 := compare_any a.act b.act
  have c2 := cmpS_any a.key b.key
  have c3 := or_any (cmpS a.act b.act) (cmpK a.key b.key)
  generalize cmpS a.act b.act = x at *
  generalize cmpK a.key b.key = y at *
  generalize orI x y = z at *
  refine ACall.startA c12_ok Try.func12 rfl Try.ntmps12 (by kernel_rfl) res12_ok rfl rfl rfl ?_; simp (maxSteps := 9999999) (disch := omega) only [go_sem]
  (repeat' (first | refine AWpA.seq ?_ | refine AWpA.block ?_ | (with_reducible refine CondP.tt ?_) | (with_reducible refine CondP.ff ?_) | refine AWpA.condv (by simp (maxSteps := 9999999) (disch := omega) only [go_sem]; rfl) ?_ | ((first | (apply AWpA.region; (focus (simp (maxSteps := 9999999) (disch := omega) only [go_sem]; rfl))) | (apply AWpA.draw [] [] follows; (focus (first | rfl | decide)); (focus (simp (maxSteps := 9999999) (disch := omega) only [go_sem]; rfl)); (focus (simp (maxSteps := 9999999) (disch := omega) only [go_sem]; first | done | trivial)); (focus (simp (maxSteps := 9999999) (disch := omega) only [go_sem]; rfl))) | (apply TailK.go; (focus (simp (maxSteps := 9999999) (disch := omega) only [go_sem]; rfl))) | refine AWpA.skip ?_ | refine AWpA.exit ?_ | refine AWpA.ret ?_ | (with_reducible refine ARoundsA.succ ?_) | ((first | refine Runs.kt (by assumption) (fun h9 => ?_) | refine Runs.kf (by assumption) (fun h9 => ?_) | refine Runs.nt (by assumption) (fun h9 => ?_) | refine Runs.nf (by assumption) (fun h9 => ?_) | refine CondP.ht (by assumption) (fun h9 => ?_) | refine CondP.hf (by assumption) (fun h9 => ?_) | refine CondP.nt (by assumption) (fun h9 => ?_) | refine CondP.nf (by assumption) (fun h9 => ?_)); (try simp only [h9]); clear h9) | ((first | (with_reducible apply CallG.plain1 [] (c1)) | (with_reducible apply CallG.draw1 [] (c1))); (focus ((try refine And.intro (leAs_of_eq rfl) ?_); (try refine And.intro (leOL_of_eq rfl) ?_); simp (maxSteps := 9999999) (disch := omega) only [go_sem]; first | done | (repeat' (first | rfl | (refine And.intro ?_ ?_))))); (focus (simp (maxSteps := 9999999) (disch := omega) only [go_sem]; rfl))) | ((first | (with_reducible apply CallG.plain1 [] (c2)) | (with_reducible apply CallG.draw1 [] (c2))); (focus ((try refine And.intro (leAs_of_eq rfl) ?_); (try refine And.intro (leOL_of_eq rfl) ?_); simp (maxSteps := 9999999) (disch := omega) only [go_sem]; first | done | (repeat' (first | rfl | (refine And.intro ?_ ?_))))); (focus (simp (maxSteps := 9999999) (disch := omega) only [go_sem]; rfl))) | ((first | (with_reducible apply CallG.plain1 [_] (c3)) | (with_reducible apply CallG.draw1 [_] (c3))); (focus ((try refine And.intro (leAs_of_eq rfl) ?_); (try refine And.intro (leOL_of_eq rfl) ?_); simp (maxSteps := 9999999) (disch := omega) only [go_sem]; first | done | (repeat' (first | rfl | (refine And.intro ?_ ?_))))); (focus (simp (maxSteps := 9999999) (disch := omega) only [go_sem]; rfl)))); (try simp (maxSteps := 9999999) (disch := omega) only [go_sem]); (try (refine And.intro ?_ ?_; (focus (first | omega | (simp only [go_sem]; done) | (simp; done) | (simp; omega) | assumption))))) | ((first | refine CondP.split (fun hif => ?_) (fun hif => ?_) | refine Runs.part (fun hif => ?_) (fun hif => ?_)) <;> ((try simp only [hif]); (try simp only [decide_eq_true_eq, decide_eq_false_iff_not, Bool.not_eq_true, Bool.not_eq_false, Bool.not_eq_true', Bool.not_eq_false', beq_iff_eq, bne_iff_ne, bne_eq_false_iff_eq, beq_eq_false_iff_ne, ne_eq, Bool.and_eq_true, Bool.or_eq_true, Bool.or_eq_false_iff] at hif); (try (have h9 : _ = true := hif; simp only [h9])); (try (have h9 : _ = false := hif; simp only [h9])); (try simp (maxSteps := 9999999) (disch := omega) only [go_sem]); (try (refine And.intro ?_ ?_; (focus (first | omega | (simp only [go_sem]; done) | (simp; done) | (simp; omega) | assumption)))); (try (exfalso; omega; done))))))
  (apply Ret.det []; (focus (first | exact .inl rfl | exact .inr rfl)); (focus (simp (maxSteps := 9999999) (disch := omega) only [go_sem]; rfl)); (simp (maxSteps := 9999999) (disch := omega) only [go_sem]; (try (repeat' (first | done | trivial | rfl | exact leAs_rfl _ | decide | (refine And.intro ?_ ?_) | (simp; done) | omega | (simp; decide))))))
theorem mplace1_any (a b : Mk) : ACall Try.prog 77 [MkG a, MkG b] [] (Det (I (cmpM b a)) []) := by
  have c := mcmp_any b a
  refine ACall.startA c77_ok Try.func77 rfl Try.ntmps77 (by kernel_rfl) res77_ok rfl rfl rfl ?_; simp (maxSteps := 9999999) (disch := omega) only [go_sem]
  (repeat' (first | refine AWpA.seq ?_ | refine AWpA.block ?_ | (with_reducible refine CondP.tt ?_) | (with_reducible refine CondP.ff ?_) | refine AWpA.condv (by simp (maxSteps := 9999999) (disch := omega) only [go_sem]; rfl) ?_ | ((first | (apply AWpA.region; (focus (simp (maxSteps := 9999999) (disch := omega) only [go_sem]; rfl))) | (apply AWpA.draw [] [] follows; (focus (first | rfl | decide)); (focus (simp (maxSteps := 9999999) (disch := omega) only [go_sem]; rfl)); (focus (simp (maxSteps := 9999999) (disch := omega) only [go_sem]; first | done | trivial)); (focus (simp (maxSteps := 9999999) (disch := omega) only [go_sem]; rfl))) | (apply TailK.go; (focus (simp (maxSteps := 9999999) (disch := omega) only [go_sem]; rfl))) | refine AWpA.skip ?_ | refine AWpA.exit ?_ | refine AWpA.ret ?_ | (with_reducible refine ARoundsA.succ ?_) | ((first | refine Runs.kt (by assumption) (fun h9 => ?_) | refine Runs.kf (by assumption) (fun h9 => ?_) | refine Runs.nt (by assumption) (fun h9 => ?_) | refine Runs.nf (by assumption) (fun h9 => ?_) | refine CondP.ht (by assumption) (fun h9 => ?_) | refine CondP.hf (by assumption) (fun h9 => ?_) | refine CondP.nt (by assumption) (fun h9 => ?_) | refine CondP.nf (by assumption) (fun h9 => ?_)); (try simp only [h9]); clear h9) | ((first | (with_reducible apply CallG.plain1 [] (c)) | (with_reducible apply CallG.draw1 [] (c))); (focus ((try refine And.intro (leAs_of_eq rfl) ?_); (try refine And.intro (leOL_of_eq rfl) ?_); simp (maxSteps := 9999999) (disch := omega) only [go_sem]; first | done | (repeat' (first | rfl | (refine And.intro ?_ ?_))))); (focus (simp (maxSteps := 9999999) (disch := omega) only [go_sem]; rfl)))); (try simp (maxSteps := 9999999) (disch := omega) only [go_sem]); (try (refine And.intro ?_ ?_; (focus (first | omega | (simp only [go_sem]; done) | (simp; done) | (simp; omega) | assumption))))) | ((first | refine CondP.split (fun hif => ?_) (fun hif => ?_) | refine Runs.part (fun hif => ?_) (fun hif => ?_)) <;> ((try simp only [hif]); (try simp only [decide_eq_true_eq, decide_eq_false_iff_not, Bool.not_eq_true, Bool.not_eq_false, Bool.not_eq_true', Bool.not_eq_false', beq_iff_eq, bne_iff_ne, bne_eq_false_iff_eq, beq_eq_false_iff_ne, ne_eq, Bool.and_eq_true, Bool.or_eq_true, Bool.or_eq_false_iff] at hif); (try (have h9 : _ = true := hif; simp only [h9])); (try (have h9 : _ = false := hif; simp only [h9])); (try simp (maxSteps := 9999999) (disch := omega) only [go_sem]); (try (refine And.intro ?_ ?_; (focus (first | omega | (simp only [go_sem]; done) | (simp; done) | (simp; omega) | assumption)))); (try (exfalso; omega; done))))))
  (apply Ret.det []; (focus (first | exact .inl rfl | exact .inr rfl)); (focus (simp (maxSteps := 9999999) (disch := omega) only [go_sem]; rfl)); (simp (maxSteps := 9999999) (disch := omega) only [go_sem]; (try (repeat' (first | done | trivial | rfl | exact leAs_rfl _ | decide | (refine And.intro ?_ ?_) | (simp; done) | omega | (simp; decide))))))
theorem bsfm_any (off : Nat) (l : List Mk) (k : Mk) (hs : RiseM l) (hl : l.length ≤ 1099511627776) : ACall Try.prog 76 [.sl 0 off l.length 3 none, MkG k, .fn 77 [] []] [.cells true (Rm off l)] (Det (.tup [I (rankM l k), Bo (hasM l k)]) [.cells true (Rm off l)]) := by
  have hr := rm_ren off l
  have hlen := rm_len off l
  refine ACall.startA c76_ok Try.func76 rfl Try.ntmps76 (by kernel_rfl) res76_ok rfl rfl rfl ?_; simp (maxSteps := 9999999) (disch := omega) only [go_sem]
  (repeat' (first | refine AWpA.seq ?_ | refine AWpA.block ?_ | (with_reducible refine CondP.tt ?_) | (with_reducible refine CondP.ff ?_) | refine AWpA.condv (by simp (maxSteps := 9999999) (disch := omega) only [go_sem, hr]; rfl) ?_ | ((first | (apply AWpA.region; (focus (simp (maxSteps := 9999999) (disch := omega) only [go_sem, hr]; rfl))) | (apply AWpA.draw [] [] follows; (focus (first | rfl | decide)); (focus (simp (maxSteps := 9999999) (disch := omega) only [go_sem, hr]; rfl)); (focus (simp (maxSteps := 9999999) (disch := omega) only [go_sem, hr]; first | done | trivial)); (focus (simp (maxSteps := 9999999) (disch := omega) only [go_sem, hr]; rfl))) | (apply TailK.go; (focus (simp (maxSteps := 9999999) (disch := omega) only [go_sem, hr]; rfl))) | refine AWpA.skip ?_ | refine AWpA.exit ?_ | refine AWpA.ret ?_ | (with_reducible refine ARoundsA.succ ?_) | ((first | refine Runs.kt (by assumption) (fun h9 => ?_) | refine Runs.kf (by assumption) (fun h9 => ?_) | refine Runs.nt (by assumption) (fun h9 => ?_) | refine Runs.nf (by assumption) (fun h9 => ?_) | refine CondP.ht (by assumption) (fun h9 => ?_) | refine CondP.hf (by assumption) (fun h9 => ?_) | refine CondP.nt (by assumption) (fun h9 => ?_) | refine CondP.nf (by assumption) (fun h9 => ?_)); (try simp only [h9]); clear h9)); (try simp (maxSteps := 9999999) (disch := omega) only [go_sem, hr]); (try (refine And.intro ?_ ?_; (focus (first | omega | (simp only [go_sem]; done) | (simp; done) | (simp; omega) | assumption))))) | ((first | refine CondP.split (fun hif => ?_) (fun hif => ?_) | refine Runs.part (fun hif => ?_) (fun hif => ?_)) <;> ((try simp only [hif]); (try simp only [decide_eq_true_eq, decide_eq_false_iff_not, Bool.not_eq_true, Bool.not_eq_false, Bool.not_eq_true', Bool.not_eq_false', beq_iff_eq, bne_iff_ne, bne_eq_false_iff_eq, beq_eq_false_iff_ne, ne_eq, Bool.and_eq_true, Bool.or_eq_true, Bool.or_eq_false_iff] at hif); (try (have h9 : _ = true := hif; simp only [h9])); (try (have h9 : _ = false := hif; simp only [h9])); (try simp (maxSteps := 9999999) (disch := omega) only [go_sem, hr]); (try (refine And.intro ?_ ?_; (focus (first | omega | (simp only [go_sem]; done) | (simp; done) | (simp; omega) | assumption)))); (try (exfalso; omega; done))))))
  (apply AWpA.loopL (fun p : Nat × Nat => [(0, .sl 0 off l.length 3 none), (2, .fn 77 [] []), (4, .ptr 1 0), (8, I l.length), (9, I p.1), (10, I p.2)]) (fun p => [.cells true (Rm off l), .cells false (MkL k)]) (fun p => p.2 - p.1) (fun p => p.1 ≤ p.2 ∧ p.2 ≤ l.length ∧ (∀ q (h : q < l.length), q < p.1 → latM l[q] k = true) ∧ (∀ q (h : q < l.length), p.2 ≤ q → latM l[q] k = false)) ((0, l.length)) [0, _]; rotate_left; (focus (simp (maxSteps := 9999999) (disch := omega) only [go_sem, hr]; (try (repeat' (first | done | trivial | rfl | exact leAs_rfl _ | decide | (refine And.intro ?_ ?_) | (simp; done) | omega | (simp; decide)))))); rotate_right)
  · exact ⟨Nat.zero_le _, Nat.le_refl _, fun q h hq => by simp at hq, fun q h hq => by simp only at hq; omega⟩
  rintro ⟨i, j⟩ ⟨hij, hj, h1, h2⟩
  (try simp only at hij hj h1 h2)
  by_cases hin : i < j
  · have g1 : ((i : Int) < (j : Int)) = True := eq_true (by omega)
    obtain ⟨m, hm⟩ : ∃ m, m = (i + j) / 2 := ⟨_, rfl⟩
    have hml : m < l.length := by omega
    have hat := rm_at off l m hml
    have c := mplace1_any l[m] k
    have hlt := cmpM_neg l[m] k
    have hsm : ∀ q (h : q < l.length), q ≤ m → latM l[m] k = true → latM l[q] k = true := fun q h hq hk => by
      rcases Nat.lt_or_eq_of_le hq with h' | rfl
      · exact latM_trans (hs.lt h hml h') hk
      · exact hk
    have hsn : ∀ q (h : q < l.length), m ≤ q → latM l[m] k = false → latM l[q] k = false := fun q h hq hk => by
      rcases Nat.lt_or_eq_of_le hq with h' | rfl
      · cases e : latM l[q] k with
        | false => rfl
        | true => rw [latM_trans (hs.lt hml h h') e] at hk; cases hk
      · exact hk
    have hdv : Int.fdiv ((i : Int) + (j : Int)) (2 ^ min 1 64) = (m : Int) := by
      rw [show (2 : Int) ^ (min 1 64) = 2 by decide, Int.fdiv_eq_ediv_of_nonneg _ (by omega)]; omega
    generalize l[m] = x at *
    cases hk : latM x k with
    | true =>
      have g2 : (cmpM k x < 0) = True := eq_true (hlt.2 hk)
      (try simp (maxSteps := 9999999) (disch := omega) only [go_sem])
      (repeat' (first | refine AWpA.seq ?_ | refine AWpA.block ?_ | (with_reducible refine CondP.tt ?_) | (with_reducible refine CondP.ff ?_) | refine AWpA.condv (by simp (maxSteps := 9999999) (disch := omega) only [go_sem, hr, hlen, g1, g2, hat, hdv]; rfl) ?_ | ((first | (apply AWpA.region; (focus (simp (maxSteps := 9999999) (disch := omega) only [go_sem, hr, hlen, g1, g2, hat, hdv]; rfl))) | (apply AWpA.draw [] [] follows; (focus (first | rfl | decide)); (focus (simp (maxSteps := 9999999) (disch := omega) only [go_sem, hr, hlen, g1, g2, hat, hdv]; rfl)); (focus (simp (maxSteps := 9999999) (disch := omega) only [go_sem, hr, hlen, g1, g2, hat, hdv]; first | done | trivial)); (focus (simp (maxSteps := 9999999) (disch := omega) only [go_sem, hr, hlen, g1, g2, hat, hdv]; rfl))) | (apply TailK.go; (focus (simp (maxSteps := 9999999) (disch := omega) only [go_sem, hr, hlen, g1, g2, hat, hdv]; rfl))) | refine AWpA.skip ?_ | refine AWpA.exit ?_ | refine AWpA.ret ?_ | (with_reducible refine ARoundsA.succ ?_) | ((first | refine Runs.kt (by assumption) (fun h9 => ?_) | refine Runs.kf (by assumption) (fun h9 => ?_) | refine Runs.nt (by assumption) (fun h9 => ?_) | refine Runs.nf (by assumption) (fun h9 => ?_) | refine CondP.ht (by assumption) (fun h9 => ?_) | refine CondP.hf (by assumption) (fun h9 => ?_) | refine CondP.nt (by assumption) (fun h9 => ?_) | refine CondP.nf (by assumption) (fun h9 => ?_)); (try simp only [h9]); clear h9) | ((first | (with_reducible apply CallG.plain1 [] (c)) | (with_reducible apply CallG.draw1 [] (c))); (focus ((try refine And.intro (leAs_of_eq rfl) ?_); (try refine And.intro (leOL_of_eq rfl) ?_); simp (maxSteps := 9999999) (disch := omega) only [go_sem, hr, hlen, g1, g2, hat, hdv]; first | done | (repeat' (first | rfl | (refine And.intro ?_ ?_))))); (focus (simp (maxSteps := 9999999) (disch := omega) only [go_sem, hr, hlen, g1, g2, hat, hdv]; rfl)))); (try simp (maxSteps := 9999999) (disch := omega) only [go_sem, hr, hlen, g1, g2, hat, hdv]); (try (refine And.intro ?_ ?_; (focus (first | omega | (simp only [go_sem]; done) | (simp; done) | (simp; omega) | assumption))))) | ((first | refine CondP.split (fun hif => ?_) (fun hif => ?_) | refine Runs.part (fun hif => ?_) (fun hif => ?_)) <;> ((try simp only [hif]); (try simp only [decide_eq_true_eq, decide_eq_false_iff_not, Bool.not_eq_true, Bool.not_eq_false, Bool.not_eq_true', Bool.not_eq_false', beq_iff_eq, bne_iff_ne, bne_eq_false_iff_eq, beq_eq_false_iff_ne, ne_eq, Bool.and_eq_true, Bool.or_eq_true, Bool.or_eq_false_iff] at hif); (try (have h9 : _ = true := hif; simp only [h9])); (try (have h9 : _ = false := hif; simp only [h9])); (try simp (maxSteps := 9999999) (disch := omega) only [go_sem, hr, hlen, g1, g2, hat, hdv]); (try (refine And.intro ?_ ?_; (focus (first | omega | (simp only [go_sem]; done) | (simp; done) | (simp; omega) | assumption)))); (try (exfalso; omega; done))))))
      (apply Back.to (m + 1, j) [0, 1]; (focus ((try simp (maxSteps := 9999999) (disch := omega) only [go_sem, hr]); first | done | omega)); rotate_left; (focus (simp (maxSteps := 9999999) (disch := omega) only [go_sem, hr]; (try (repeat' (first | done | trivial | rfl | exact leAs_rfl _ | decide | (refine And.intro ?_ ?_) | (simp; done) | omega | (simp; decide)))))))
      exact ⟨by simp only; omega, hj, fun q h hq => hsm q h (by simp only at hq; omega) hk, h2⟩
    | false =>
      have g2 : (cmpM k x < 0) = False := eq_false (fun e => by rw [hlt.1 e] at hk; cases hk)
      (try simp (maxSteps := 9999999) (disch := omega) only [go_sem])
      (repeat' (first | refine AWpA.seq ?_ | refine AWpA.block ?_ | (with_reducible refine CondP.tt ?_) | (with_reducible refine CondP.ff ?_) | refine AWpA.condv (by simp (maxSteps := 9999999) (disch := omega) only [go_sem, hr, hlen, g1, g2, hat, hdv]; rfl) ?_ | ((first | (apply AWpA.region; (focus (simp (maxSteps := 9999999) (disch := omega) only [go_sem, hr, hlen, g1, g2, hat, hdv]; rfl))) | (apply AWpA.draw [] [] follows; (focus (first | rfl | decide)); (focus (simp (maxSteps := 9999999) (disch := omega) only [go_sem, hr, hlen, g1, g2, hat, hdv]; rfl)); (focus (simp (maxSteps := 9999999) (disch := omega) only [go_sem, hr, hlen, g1, g2, hat, hdv]; first | done | trivial)); (focus (simp (maxSteps := 9999999) (disch := omega) only [go_sem, hr, hlen, g1, g2, hat, hdv]; rfl))) | (apply TailK.go; (focus (simp (maxSteps := 9999999) (disch := omega) only [go_sem, hr, hlen, g1, g2, hat, hdv]; rfl))) | refine AWpA.skip ?_ | refine AWpA.exit ?_ | refine AWpA.ret ?_ | (with_reducible refine ARoundsA.succ ?_) | ((first | refine Runs.kt (by assumption) (fun h9 => ?_) | refine Runs.kf (by assumption) (fun h9 => ?_) | refine Runs.nt (by assumption) (fun h9 => ?_) | refine Runs.nf (by assumption) (fun h9 => ?_) | refine CondP.ht (by assumption) (fun h9 => ?_) | refine CondP.hf (by assumption) (fun h9 => ?_) | refine CondP.nt (by assumption) (fun h9 => ?_) | refine CondP.nf (by assumption) (fun h9 => ?_)); (try simp only [h9]); clear h9) | ((first | (with_reducible apply CallG.plain1 [] (c)) | (with_reducible apply CallG.draw1 [] (c))); (focus ((try refine And.intro (leAs_of_eq rfl) ?_); (try refine And.intro (leOL_of_eq rfl) ?_); simp (maxSteps := 9999999) (disch := omega) only [go_sem, hr, hlen, g1, g2, hat, hdv]; first | done | (repeat' (first | rfl | (refine And.intro ?_ ?_))))); (focus (simp (maxSteps := 9999999) (disch := omega) only [go_sem, hr, hlen, g1, g2, hat, hdv]; rfl)))); (try simp (maxSteps := 9999999) (disch := omega) only [go_sem, hr, hlen, g1, g2, hat, hdv]); (try (refine And.intro ?_ ?_; (focus (first | omega | (simp only [go_sem]; done) | (simp; done) | (simp; omega) | assumption))))) | ((first | refine CondP.split (fun hif => ?_) (fun hif => ?_) | refine Runs.part (fun hif => ?_) (fun hif => ?_)) <;> ((try simp only [hif]); (try simp only [decide_eq_true_eq, decide_eq_false_iff_not, Bool.not_eq_true, Bool.not_eq_false, Bool.not_eq_true', Bool.not_eq_false', beq_iff_eq, bne_iff_ne, bne_eq_false_iff_eq, beq_eq_false_iff_ne, ne_eq, Bool.and_eq_true, Bool.or_eq_true, Bool.or_eq_false_iff] at hif); (try (have h9 : _ = true := hif; simp only [h9])); (try (have h9 : _ = false := hif; simp only [h9])); (try simp (maxSteps := 9999999) (disch := omega) only [go_sem, hr, hlen, g1, g2, hat, hdv]); (try (refine And.intro ?_ ?_; (focus (first | omega | (simp only [go_sem]; done) | (simp; done) | (simp; omega) | assumption)))); (try (exfalso; omega; done))))))
      (apply Back.to (i, m) [0, 1]; (focus ((try simp (maxSteps := 9999999) (disch := omega) only [go_sem, hr]); first | done | omega)); rotate_left; (focus (simp (maxSteps := 9999999) (disch := omega) only [go_sem, hr]; (try (repeat' (first | done | trivial | rfl | exact leAs_rfl _ | decide | (refine And.intro ?_ ?_) | (simp; done) | omega | (simp; decide)))))))
      exact ⟨by simp only; omega, by simp only; omega, h1, fun q h hq => hsn q h hq hk⟩
  · obtain rfl : i = j := by omega
    have g1 : ((i : Int) < (i : Int)) = False := eq_false (by omega)
    have hrk : rankM l k = i := rankM_eq hj h1 h2
    rcases Nat.lt_or_ge i l.length with hil | hil
    · have g2 : ((i : Int) < (l.length : Int)) = True := eq_true (by omega)
      have hat := rm_at off l i hil
      have c := mplace1_any l[i] k
      have hh : hasM l k = decide (l[i] = k) := by unfold hasM; rw [hrk, List.getElem?_eq_getElem hil]
      have hc0 : (cmpM k l[i] == 0) = decide (l[i] = k) := by
        by_cases e : l[i] = k
        · rw [decide_eq_true e, (cmpM_eq _ _).2 e.symm]; rfl
        · rw [decide_eq_false e]; simpa using fun h => e ((cmpM_eq _ _).1 h).symm
      rw [hh, hrk]
      clear h1 h2 hh
      generalize l[i] = x at *
      generalize decide (x = k) = bb at *
      (try simp (maxSteps := 9999999) (disch := omega) only [go_sem])
      (repeat' (first | refine AWpA.seq ?_ | refine AWpA.block ?_ | (with_reducible refine CondP.tt ?_) | (with_reducible refine CondP.ff ?_) | refine AWpA.condv (by simp (maxSteps := 9999999) (disch := omega) only [go_sem, hr, hlen, g1, g2, hat, hc0]; rfl) ?_ | ((first | (apply AWpA.region; (focus (simp (maxSteps := 9999999) (disch := omega) only [go_sem, hr, hlen, g1, g2, hat, hc0]; rfl))) | (apply AWpA.draw [] [] follows; (focus (first | rfl | decide)); (focus (simp (maxSteps := 9999999) (disch := omega) only [go_sem, hr, hlen, g1, g2, hat, hc0]; rfl)); (focus (simp (maxSteps := 9999999) (disch := omega) only [go_sem, hr, hlen, g1, g2, hat, hc0]; first | done | trivial)); (focus (simp (maxSteps := 9999999) (disch := omega) only [go_sem, hr, hlen, g1, g2, hat, hc0]; rfl))) | (apply TailK.go; (focus (simp (maxSteps := 9999999) (disch := omega) only [go_sem, hr, hlen, g1, g2, hat, hc0]; rfl))) | refine AWpA.skip ?_ | refine AWpA.exit ?_ | refine AWpA.ret ?_ | (with_reducible refine ARoundsA.succ ?_) | ((first | refine Runs.kt (by assumption) (fun h9 => ?_) | refine Runs.kf (by assumption) (fun h9 => ?_) | refine Runs.nt (by assumption) (fun h9 => ?_) | refine Runs.nf (by assumption) (fun h9 => ?_) | refine CondP.ht (by assumption) (fun h9 => ?_) | refine CondP.hf (by assumption) (fun h9 => ?_) | refine CondP.nt (by assumption) (fun h9 => ?_) | refine CondP.nf (by assumption) (fun h9 => ?_)); (try simp only [h9]); clear h9) | ((first | (with_reducible apply CallG.plain1 [] (c)) | (with_reducible apply CallG.draw1 [] (c))); (focus ((try refine And.intro (leAs_of_eq rfl) ?_); (try refine And.intro (leOL_of_eq rfl) ?_); simp (maxSteps := 9999999) (disch := omega) only [go_sem, hr, hlen, g1, g2, hat, hc0]; first | done | (repeat' (first | rfl | (refine And.intro ?_ ?_))))); (focus (simp (maxSteps := 9999999) (disch := omega) only [go_sem, hr, hlen, g1, g2, hat, hc0]; rfl)))); (try simp (maxSteps := 9999999) (disch := omega) only [go_sem, hr, hlen, g1, g2, hat, hc0]); (try (refine And.intro ?_ ?_; (focus (first | omega | (simp only [go_sem]; done) | (simp; done) | (simp; omega) | assumption))))) | ((first | refine CondP.split (fun hif => ?_) (fun hif => ?_) | refine Runs.part (fun hif => ?_) (fun hif => ?_)) <;> ((try simp only [hif]); (try simp only [decide_eq_true_eq, decide_eq_false_iff_not, Bool.not_eq_true, Bool.not_eq_false, Bool.not_eq_true', Bool.not_eq_false', beq_iff_eq, bne_iff_ne, bne_eq_false_iff_eq, beq_eq_false_iff_ne, ne_eq, Bool.and_eq_true, Bool.or_eq_true, Bool.or_eq_false_iff] at hif); (try (have h9 : _ = true := hif; simp only [h9])); (try (have h9 : _ = false := hif; simp only [h9])); (try simp (maxSteps := 9999999) (disch := omega) only [go_sem, hr, hlen, g1, g2, hat, hc0]); (try (refine And.intro ?_ ?_; (focus (first | omega | (simp only [go_sem]; done) | (simp; done) | (simp; omega) | assumption)))); (try (exfalso; omega; done))))))
      (apply Ret.det [0]; (focus (first | exact .inl rfl | exact .inr rfl)); (focus (simp (maxSteps := 9999999) (disch := omega) only [go_sem, hr]; rfl)); (simp (maxSteps := 9999999) (disch := omega) only [go_sem, hr]; (try (repeat' (first | done | trivial | rfl | exact leAs_rfl _ | decide | (refine And.intro ?_ ?_) | (simp; done) | omega | (simp; decide))))))
    · obtain rfl : i = l.length := by omega
      have g2 : ((l.length : Int) < (l.length : Int)) = False := eq_false (by omega)
      have hh : hasM l k = false := by unfold hasM; rw [hrk, List.getElem?_eq_none (Nat.le_refl _)]
      rw [hh, hrk]
      clear h1 h2
      (try simp (maxSteps := 9999999) (disch := omega) only [go_sem])
      (repeat' (first | refine AWpA.seq ?_ | refine AWpA.block ?_ | (with_reducible refine CondP.tt ?_) | (with_reducible refine CondP.ff ?_) | refine AWpA.condv (by simp (maxSteps := 9999999) (disch := omega) only [go_sem, hr, hlen, g1, g2]; rfl) ?_ | ((first | (apply AWpA.region; (focus (simp (maxSteps := 9999999) (disch := omega) only [go_sem, hr, hlen, g1, g2]; rfl))) | (apply AWpA.draw [] [] follows; (focus (first | rfl | decide)); (focus (simp (maxSteps := 9999999) (disch := omega) only [go_sem, hr, hlen, g1, g2]; rfl)); (focus (simp (maxSteps := 9999999) (disch := omega) only [go_sem, hr, hlen, g1, g2]; first | done | trivial)); (focus (simp (maxSteps := 9999999) (disch := omega) only [go_sem, hr, hlen, g1, g2]; rfl))) | (apply TailK.go; (focus (simp (maxSteps := 9999999) (disch := omega) only [go_sem, hr, hlen, g1, g2]; rfl))) | refine AWpA.skip ?_ | refine AWpA.exit ?_ | refine AWpA.ret ?_ | (with_reducible refine ARoundsA.succ ?_) | ((first | refine Runs.kt (by assumption) (fun h9 => ?_) | refine Runs.kf (by assumption) (fun h9 => ?_) | refine Runs.nt (by assumption) (fun h9 => ?_) | refine Runs.nf (by assumption) (fun h9 => ?_) | refine CondP.ht (by assumption) (fun h9 => ?_) | refine CondP.hf (by assumption) (fun h9 => ?_) | refine CondP.nt (by assumption) (fun h9 => ?_) | refine CondP.nf (by assumption) (fun h9 => ?_)); (try simp only [h9]); clear h9)); (try simp (maxSteps := 9999999) (disch := omega) only [go_sem, hr, hlen, g1, g2]); (try (refine And.intro ?_ ?_; (focus (first | omega | (simp only [go_sem]; done) | (simp; done) | (simp; omega) | assumption))))) | ((first | refine CondP.split (fun hif => ?_) (fun hif => ?_) | refine Runs.part (fun hif => ?_) (fun hif => ?_)) <;> ((try simp only [hif]); (try simp only [decide_eq_true_eq, decide_eq_false_iff_not, Bool.not_eq_true, Bool.not_eq_false, Bool.not_eq_true', Bool.not_eq_false', beq_iff_eq, bne_iff_ne, bne_eq_false_iff_eq, beq_eq_false_iff_ne, ne_eq, Bool.and_eq_true, Bool.or_eq_true, Bool.or_eq_false_iff] at hif); (try (have h9 : _ = true := hif; simp only [h9])); (try (have h9 : _ = false := hif; simp only [h9])); (try simp (maxSteps := 9999999) (disch := omega) only [go_sem, hr, hlen, g1, g2]); (try (refine And.intro ?_ ?_; (focus (first | omega | (simp only [go_sem]; done) | (simp; done) | (simp; omega) | assumption)))); (try (exfalso; omega; done))))))
      (apply Ret.det [0]; (focus (first | exact .inl rfl | exact .inr rfl)); (focus (simp (maxSteps := 9999999) (disch := omega) only [go_sem, hr]; rfl)); (simp (maxSteps := 9999999) (disch := omega) only [go_sem, hr]; (try (repeat' (first | done | trivial | rfl | exact leAs_rfl _ | decide | (refine And.intro ?_ ?_) | (simp; done) | omega | (simp; decide))))))
end Go.Proofs.Ytgjimlgofakbpaa
