/- A configuration's numbers, as a list: what may be. Contracts: places, List, Of, spans. -/
import Derived.Test.YtkdikmfnchmphaaAc0
namespace Go.Setup
set_option linter.unusedSimpArgs false
set_option linter.unusedVariables false
set_option maxHeartbeats 4000000
open Go Go.Am
def cI (l : List Int) : List AV := l.map fun n => .val (.int .i64 n)
theorem cI_len (l : List Int) : (cI l).length = l.length := by simp [cI]
theorem cI_get {l : List Int} {k : Nat} (h : k < l.length) : (cI l).getD k .bad = .val (.int .i64 (l.getD k 0)) := by
  unfold cI
  rw [List.getD_eq_getElem?_getD, List.getD_eq_getElem?_getD, List.getElem?_map, List.getElem?_eq_getElem h]
  rfl
theorem cI_ren (ρ : List Nat) (l : List Int) : renL ρ (cI l) = cI l := by
  rw [renL_eq]; unfold cI; rw [List.map_map]; rfl
theorem cI_take {l : List Int} (h : l.length = 20) : (cI l).take 20 = cI l := List.take_of_length_le (by rw [cI_len]; omega)
theorem cI_set (l : List Int) (k : Nat) (x : Int) : (cI l).set k (.val (.int .i64 x)) = cI (l.set k x) := by unfold cI; rw [List.map_set]
theorem cI_put (l : List Int) (k : Nat) (x : Int) (h : k < l.length) : (cI l).take k ++ [.val (.int .i64 x)] ++ (cI l).drop (k + 1) = cI (l.set k x) := by
  rw [← cI_set, List.set_eq_take_append_cons_drop, if_pos (by rw [cI_len]; exact h)]; simp
theorem cI_zero : cI (List.replicate 20 0) = [.val (.int .i64 0), .val (.int .i64 0), .val (.int .i64 0), .val (.int .i64 0), .val (.int .i64 0), .val (.int .i64 0), .val (.int .i64 0), .val (.int .i64 0), .val (.int .i64 0), .val (.int .i64 0), .val (.int .i64 0), .val (.int .i64 0), .val (.int .i64 0), .val (.int .i64 0), .val (.int .i64 0), .val (.int .i64 0), .val (.int .i64 0), .val (.int .i64 0), .val (.int .i64 0), .val (.int .i64 0)] := rfl
/-- The first numbers, and no others yet. -/
def pre (l : List Int) (i : Nat) : List Int := l.take i ++ List.replicate (20 - i) 0
theorem pre_len {l : List Int} (hl : l.length = 20) {i : Nat} (h : i ≤ 20) : (pre l i).length = 20 := by simp [pre]; omega
theorem pre_zero (l : List Int) : pre l 0 = List.replicate 20 0 := by simp [pre]
theorem pre_all {l : List Int} (hl : l.length = 20) : pre l 20 = l := by simp [pre, List.take_of_length_le (Nat.le_of_eq hl)]
theorem pre_set {l : List Int} (hl : l.length = 20) {i : Nat} (h : i < 20) : (pre l i).set i (l.getD i 0) = pre l (i + 1) := by
  unfold pre
  obtain ⟨k, hk⟩ : ∃ k, 20 - i = k + 1 := ⟨19 - i, by omega⟩
  have hk2 : 20 - (i + 1) = k := by omega
  have e1 : i - (l.take i).length = 0 := by simp; omega
  rw [List.set_append_right _ _ (by simp; omega), e1, hk, hk2, List.replicate_succ, List.set_cons_zero]
  have : l.getD i 0 = l[i]'(by omega) := by rw [List.getD_eq_getElem?_getD, List.getElem?_eq_getElem (by omega)]; rfl
  rw [this, List.take_add_one, List.getElem?_eq_getElem (by omega), List.append_assoc]; rfl
/-- Pointers to all cells of an object. -/
def pts (id : Nat) : List AV := (List.range 20).map fun k => .ptr id k
theorem pts_lit (id : Nat) : pts id = [.ptr id 0, .ptr id 1, .ptr id 2, .ptr id 3, .ptr id 4, .ptr id 5, .ptr id 6, .ptr id 7, .ptr id 8, .ptr id 9, .ptr id 10, .ptr id 11, .ptr id 12, .ptr id 13, .ptr id 14, .ptr id 15, .ptr id 16, .ptr id 17, .ptr id 18, .ptr id 19] := rfl
theorem pts_len (id : Nat) : (pts id).length = 20 := by simp [pts]
theorem pts_get {id k : Nat} (h : k < 20) : (pts id).getD k .bad = .ptr id k := by
  simp [pts, List.getD_eq_getElem?_getD, h]
/-- From where, and up to where, a number may be. -/
def lo (l : List Int) (i : Nat) : Int := match i with
  | 0 => 2 | 3 => 0 | 8 => 0 | 16 => 0 | 4 => l.getD 3 0 | 11 => l.getD 10 0 | _ => 1
def hi (l : List Int) (i : Nat) : Int := match i with
  | 0 => 12 | 2 => l.getD 0 0 | 3 => 2147483647 | 4 => if l.getD 3 0 = 0 then 0 else 2147483647 | 5 => 6 | 6 => 11 | 8 => l.getD 7 0
  | 7 => 8 | 9 => 8 | 15 => 8 | 17 => 8 | 18 => 8 | 11 => 64 | 12 => 64 | 16 => 1 | 19 => 512 | _ => 16
def sp (l : List Int) : List Int := [lo l 0, hi l 0, lo l 1, hi l 1, lo l 2, hi l 2, lo l 3, hi l 3, lo l 4, hi l 4, lo l 5, hi l 5, lo l 6, hi l 6, lo l 7, hi l 7, lo l 8, hi l 8, lo l 9, hi l 9,
  lo l 10, hi l 10, lo l 11, hi l 11, lo l 12, hi l 12, lo l 13, hi l 13, lo l 14, hi l 14, lo l 15, hi l 15, lo l 16, hi l 16, lo l 17, hi l 17, lo l 18, hi l 18, lo l 19, hi l 19]
theorem cases20 {p : Nat → Prop} (h : p 0 ∧ p 1 ∧ p 2 ∧ p 3 ∧ p 4 ∧ p 5 ∧ p 6 ∧ p 7 ∧ p 8 ∧ p 9 ∧ p 10 ∧ p 11 ∧ p 12 ∧ p 13 ∧ p 14 ∧ p 15 ∧ p 16 ∧ p 17 ∧ p 18 ∧ p 19) : ∀ i, i < 20 → p i := by
  obtain ⟨h0, h1, h2, h3, h4, h5, h6, h7, h8, h9, h10, h11, h12, h13, h14, h15, h16, h17, h18, h19⟩ := h
  intro i hi
  match i, hi with
  | 0, _ => exact h0 | 1, _ => exact h1 | 2, _ => exact h2 | 3, _ => exact h3 | 4, _ => exact h4 | 5, _ => exact h5 | 6, _ => exact h6 | 7, _ => exact h7 | 8, _ => exact h8 | 9, _ => exact h9
  | 10, _ => exact h10 | 11, _ => exact h11 | 12, _ => exact h12 | 13, _ => exact h13 | 14, _ => exact h14 | 15, _ => exact h15 | 16, _ => exact h16 | 17, _ => exact h17 | 18, _ => exact h18 | 19, _ => exact h19 | n + 20, h => exact absurd h (by omega)
theorem sp_get (l : List Int) : ∀ i, i < 20 → ((cI (sp l)).drop (i * 2)).take 2 = [.val (.int .i64 (lo l i)), .val (.int .i64 (hi l i))] := by
  refine cases20 ?_
  refine ⟨?_, ?_, ?_, ?_, ?_, ?_, ?_, ?_, ?_, ?_, ?_, ?_, ?_, ?_, ?_, ?_, ?_, ?_, ?_, ?_⟩ <;> rfl
theorem sp_len (l : List Int) : (cI (sp l)).length = 40 := rfl
def bad (l : List Int) (i : Nat) : Prop := l.getD i 0 < lo l i ∨ hi l i < l.getD i 0
instance (l : List Int) (i : Nat) : Decidable (bad l i) := by unfold bad; infer_instance
/-- The first number that may not be, and the error. -/
def ckAt (l : List Int) : Nat → Nat → Int × Int
  | 0, _ => (0, 0)
  | k + 1, i => if bad l i then ((i : Int), 14) else ckAt l k (i + 1)
def ck (l : List Int) : Int × Int := ckAt l 20 0
def right (l : List Int) : Bool := (ck l).2 == 0
attribute [irreducible] cI pts
end Go.Setup
namespace Go.Proofs.Ytkdikmfnchmphaa
open Go Go.Am Go.RowKit Go.Setup
set_option linter.unusedSimpArgs false
set_option maxHeartbeats 4000000
set_option maxRecDepth 100000
/- (*quidnunc/setup.Config).places -/
noncomputable def c68_1 : ACode := .region false [⟨some 2, .alloc (List.replicate 20 (.pointer none)), [], none⟩] [] [] [0, 2] true [] []
noncomputable def c68_3 : ACode := .region true [⟨some 3, .move, [.t 0], none⟩,
  ⟨some 4, .nilChk, [.t 3], none⟩,
  ⟨some 5, .addr 0, [.t 4], none⟩,
  ⟨some 6, .move, [.t 0], none⟩,
  ⟨some 7, .nilChk, [.t 6], none⟩,
  ⟨some 8, .addr 1, [.t 7], none⟩,
  ⟨some 9, .move, [.t 0], none⟩,
  ⟨some 10, .nilChk, [.t 9], none⟩,
  ⟨some 11, .addr 2, [.t 10], none⟩,
  ⟨some 12, .move, [.t 0], none⟩,
  ⟨some 13, .nilChk, [.t 12], none⟩,
  ⟨some 14, .addr 3, [.t 13], none⟩,
  ⟨some 15, .move, [.t 0], none⟩,
  ⟨some 16, .nilChk, [.t 15], none⟩,
  ⟨some 17, .addr 4, [.t 16], none⟩,
  ⟨some 18, .move, [.t 0], none⟩,
  ⟨some 19, .nilChk, [.t 18], none⟩,
  ⟨some 20, .addr 5, [.t 19], none⟩,
  ⟨some 21, .move, [.t 0], none⟩,
  ⟨some 22, .nilChk, [.t 21], none⟩,
  ⟨some 23, .addr 6, [.t 22], none⟩,
  ⟨some 24, .move, [.t 0], none⟩,
  ⟨some 25, .nilChk, [.t 24], none⟩,
  ⟨some 26, .addr 7, [.t 25], none⟩,
  ⟨some 27, .move, [.t 0], none⟩,
  ⟨some 28, .nilChk, [.t 27], none⟩,
  ⟨some 29, .addr 8, [.t 28], none⟩,
  ⟨some 30, .move, [.t 0], none⟩,
  ⟨some 31, .nilChk, [.t 30], none⟩,
  ⟨some 32, .addr 9, [.t 31], none⟩,
  ⟨some 33, .move, [.t 0], none⟩,
  ⟨some 34, .nilChk, [.t 33], none⟩,
  ⟨some 35, .addr 10, [.t 34], none⟩,
  ⟨some 36, .move, [.t 0], none⟩,
  ⟨some 37, .nilChk, [.t 36], none⟩,
  ⟨some 38, .addr 11, [.t 37], none⟩,
  ⟨some 39, .move, [.t 0], none⟩,
  ⟨some 40, .nilChk, [.t 39], none⟩,
  ⟨some 41, .addr 12, [.t 40], none⟩,
  ⟨some 42, .move, [.t 0], none⟩,
  ⟨some 43, .nilChk, [.t 42], none⟩,
  ⟨some 44, .addr 13, [.t 43], none⟩,
  ⟨some 45, .move, [.t 0], none⟩,
  ⟨some 46, .nilChk, [.t 45], none⟩,
  ⟨some 47, .addr 14, [.t 46], none⟩,
  ⟨some 48, .move, [.t 0], none⟩,
  ⟨some 49, .nilChk, [.t 48], none⟩,
  ⟨some 50, .addr 15, [.t 49], none⟩,
  ⟨some 51, .move, [.t 0], none⟩,
  ⟨some 52, .nilChk, [.t 51], none⟩,
  ⟨some 53, .addr 16, [.t 52], none⟩,
  ⟨some 54, .move, [.t 0], none⟩,
  ⟨some 55, .nilChk, [.t 54], none⟩,
  ⟨some 56, .addr 17, [.t 55], none⟩,
  ⟨some 57, .move, [.t 0], none⟩,
  ⟨some 58, .nilChk, [.t 57], none⟩,
  ⟨some 59, .addr 18, [.t 58], none⟩,
  ⟨some 60, .move, [.t 0], none⟩,
  ⟨some 61, .nilChk, [.t 60], none⟩,
  ⟨some 62, .addr 19, [.t 61], none⟩,
  ⟨some 63, .build (List.replicate 20 (.pointer none)) [(0, 1), (1, 1), (2, 1), (3, 1), (4, 1), (5, 1), (6, 1), (7, 1), (8, 1), (9, 1), (10, 1), (11, 1), (12, 1), (13, 1), (14, 1), (15, 1), (16, 1), (17, 1), (18, 1), (19, 1)], [.t 5, .t 8, .t 11, .t 14, .t 17, .t 20, .t 23, .t 26, .t 29, .t 32, .t 35, .t 38, .t 41, .t 44, .t 47, .t 50, .t 53, .t 56, .t 59, .t 62], none⟩,
  ⟨none, .store 20, [.t 2, .t 63], none⟩] [] [] [2] true [2] []
noncomputable def c68_2 : ACode := .seq c68_3 .ret
noncomputable def c68_0 : ACode := .seq c68_1 c68_2
noncomputable def code68 : Code := (Try.f68.body).getD .skip
theorem c68_ok : compC Try.prog 64 code68 = some (strip c68_0) := by kernel_rfl
theorem res68_ok : Try.f68.results.toList.mapM (resC Try.prog) = some [(2, some (true, 20))] := by kernel_rfl
theorem places_any (l : List Int) : ACall Try.prog 68 [.ptr 0 0] [.cells false (cI l)] (Det (.agg (pts 0)) [.cells false (cI l)]) := by
  have e := pts_lit 0
  refine ACall.startA c68_ok Try.func68 rfl Try.ntmps68 (by kernel_rfl) res68_ok rfl rfl rfl ?_; simp (maxSteps := 9999999) (disch := omega) only [go_sem]
  (repeat' (first | refine AWpA.seq ?_ | refine AWpA.block ?_ | (with_reducible refine CondP.tt ?_) | (with_reducible refine CondP.ff ?_) | refine AWpA.condv (by simp (maxSteps := 9999999) (disch := omega) only [go_sem, cI_ren]; rfl) ?_ | ((first | (apply AWpA.region; (focus (simp (maxSteps := 9999999) (disch := omega) only [go_sem, cI_ren]; rfl))) | (apply AWpA.draw [] follows; (focus (simp (maxSteps := 9999999) (disch := omega) only [go_sem, cI_ren]; rfl)); (focus (simp (maxSteps := 9999999) (disch := omega) only [go_sem, cI_ren]; first | done | trivial)); (focus (simp (maxSteps := 9999999) (disch := omega) only [go_sem, cI_ren]; rfl))) | (apply TailK.go; (focus (simp (maxSteps := 9999999) (disch := omega) only [go_sem, cI_ren]; rfl))) | refine AWpA.skip ?_ | refine AWpA.exit ?_ | refine AWpA.ret ?_ | (with_reducible refine ARoundsA.succ ?_) | ((first | refine Runs.kt (by assumption) (fun h9 => ?_) | refine Runs.kf (by assumption) (fun h9 => ?_) | refine Runs.nt (by assumption) (fun h9 => ?_) | refine Runs.nf (by assumption) (fun h9 => ?_) | refine CondP.ht (by assumption) (fun h9 => ?_) | refine CondP.hf (by assumption) (fun h9 => ?_) | refine CondP.nt (by assumption) (fun h9 => ?_) | refine CondP.nf (by assumption) (fun h9 => ?_)); (try simp only [h9]); clear h9)); (try simp (maxSteps := 9999999) (disch := omega) only [go_sem, cI_ren]); (try (refine And.intro ?_ ?_; (focus (first | omega | (simp only [go_sem]; done) | (simp; done) | (simp; omega) | assumption))))) | ((first | refine CondP.split (fun hif => ?_) (fun hif => ?_) | refine Runs.part (fun hif => ?_) (fun hif => ?_)) <;> ((try simp only [hif]); (try simp only [decide_eq_true_eq, decide_eq_false_iff_not, Bool.not_eq_true, Bool.not_eq_false, Bool.not_eq_true', Bool.not_eq_false', beq_iff_eq, bne_iff_ne, bne_eq_false_iff_eq, beq_eq_false_iff_ne, ne_eq, Bool.and_eq_true, Bool.or_eq_true, Bool.or_eq_false_iff] at hif); (try (have h9 : _ = true := hif; simp only [h9])); (try (have h9 : _ = false := hif; simp only [h9])); (try simp (maxSteps := 9999999) (disch := omega) only [go_sem, cI_ren]); (try (refine And.intro ?_ ?_; (focus (first | omega | (simp only [go_sem]; done) | (simp; done) | (simp; omega) | assumption)))); (try (exfalso; omega; done))))))
  (apply Ret.det [0]; (focus (first | exact .inl rfl | exact .inr rfl)); (focus (simp (maxSteps := 9999999) (disch := omega) only [go_sem, cI_ren, e]; rfl)); (simp (maxSteps := 9999999) (disch := omega) only [go_sem, cI_ren, e]; (try (repeat' (first | done | trivial | rfl | exact leAs_rfl _ | decide | (refine And.intro ?_ ?_) | (simp; done) | omega | (simp; decide))))))
end Go.Proofs.Ytkdikmfnchmphaa
