/- What a configuration comes to. Contracts: Steps, rounds, Roomy, Bound, Long, the program's and the document's. -/
import Derived.Test.YtkdikmfnchmphaaAs4
namespace Go.Setup
set_option linter.unusedSimpArgs false
set_option linter.unusedVariables false
set_option maxHeartbeats 4000000
open Go Go.Am
theorem ckAt_ok (l : List Int) : ∀ k i, (ckAt l k i).2 = 0 → ∀ j, i ≤ j → j < i + k → ¬ bad l j
  | 0, i, _, j, h1, h2 => absurd h2 (by omega)
  | k + 1, i, h, j, h1, h2 => by
    simp only [ckAt] at h
    split at h
    · cases h
    · rename_i hb
      rcases Nat.eq_or_lt_of_le h1 with rfl | h3
      · exact hb
      · exact ckAt_ok l k (i + 1) h j h3 (by omega)
theorem right_all {l : List Int} (h : right l = true) : ∀ j, j < 20 → lo l j ≤ l.getD j 0 ∧ l.getD j 0 ≤ hi l j := fun j hj => by
  have := ckAt_ok l 20 0 (by simpa [right, ck] using h) j (by omega) (by omega)
  unfold bad at this
  omega
/-- The bounds of what is reckoned with. -/
structure Bd (l : List Int) : Prop where
  n : 2 ≤ l.getD 0 0 ∧ l.getD 0 0 ≤ 12
  q : 1 ≤ l.getD 1 0 ∧ l.getD 1 0 ≤ 16
  c : 1 ≤ l.getD 17 0 ∧ l.getD 17 0 ≤ 8
  k : 1 ≤ l.getD 19 0 ∧ l.getD 19 0 ≤ 512
  f : 1 ≤ l.getD 18 0 ∧ l.getD 18 0 ≤ 8
theorem right_bd {l : List Int} (h : right l = true) : Bd l :=
  ⟨right_all h 0 (by omega), right_all h 1 (by omega), right_all h 17 (by omega), right_all h 19 (by omega), right_all h 18 (by omega)⟩
theorem mul_bd {a b A B : Int} (h1 : 0 ≤ a) (h2 : a ≤ A) (h3 : 0 ≤ b) (h4 : b ≤ B) : 0 ≤ a * b ∧ a * b ≤ A * B :=
  ⟨Int.mul_nonneg h1 h3, Int.mul_le_mul h2 h4 h3 (by omega)⟩
def quo (l : List Int) : Int := (l.getD 0 0 * l.getD 0 0 * l.getD 1 0 + l.getD 17 0 - 1).tdiv (l.getD 17 0)
def steps (l : List Int) : Int := bif right l then quo l + l.getD 19 0 + 2 else 0
def rounds (l : List Int) : Int := 2 + (l.getD 0 0 - 1) * (l.getD 0 0 - 1) * (l.getD 18 0 + 2) * (2 * steps l + 5 + 1)
def roomy (l : List Int) : Bool := right l && decide (l.getD 0 0 - 1 ≤ l.getD 6 0)
def boundI (l : List Int) : Int := bif roomy l && (l.getD 3 0 == 0) then rounds l else 0
def boundB (l : List Int) : Bool := roomy l && (l.getD 3 0 == 0)
def longB (l : List Int) : Bool := roomy l && (l.getD 3 0 != 0) && !decide (l.getD 3 0 < 2 * rounds l + 4)
def longI (l : List Int) : Int := bif longB l then 4 * rounds l + 4 else 0
theorem nnq_bd {l : List Int} (h : Bd l) : (0 ≤ l.getD 0 0 * l.getD 0 0 ∧ l.getD 0 0 * l.getD 0 0 ≤ 144) ∧ (0 ≤ l.getD 0 0 * l.getD 0 0 * l.getD 1 0 ∧ l.getD 0 0 * l.getD 0 0 * l.getD 1 0 ≤ 2304) := by
  obtain ⟨⟨a, b⟩, ⟨c, d⟩, _, _, _⟩ := h
  have h1 := mul_bd (a := l.getD 0 0) (b := l.getD 0 0) (A := 12) (B := 12) (by omega) b (by omega) b
  exact ⟨h1, mul_bd h1.1 h1.2 (by omega) d⟩
theorem quo_ceil {n c s : Int} (hn : 0 ≤ n) (hc : 1 ≤ c ∧ c ≤ 8) (h0 : 0 ≤ s) (h1 : n ≤ s * c) (h2 : s = 0 ∨ (s - 1) * c < n) : (n + c - 1).tdiv c = s := by
  rw [Int.tdiv_eq_ediv_of_nonneg (by omega)]
  obtain h | h | h | h | h | h | h | h : c = 1 ∨ c = 2 ∨ c = 3 ∨ c = 4 ∨ c = 5 ∨ c = 6 ∨ c = 7 ∨ c = 8 := by omega
  all_goals (subst h; omega)
theorem quo_bd {l : List Int} (h : Bd l) : 0 ≤ quo l ∧ quo l ≤ 2304 := by
  have h2 := (nnq_bd h).2
  have hc := h.c
  unfold quo
  generalize l.getD 0 0 * l.getD 0 0 * l.getD 1 0 = n at *
  generalize l.getD 17 0 = c at *
  rw [Int.tdiv_eq_ediv_of_nonneg (by omega)]
  obtain h | h | h | h | h | h | h | h : c = 1 ∨ c = 2 ∨ c = 3 ∨ c = 4 ∨ c = 5 ∨ c = 6 ∨ c = 7 ∨ c = 8 := by omega
  all_goals (subst h; omega)
theorem steps_bd (l : List Int) : 0 ≤ steps l ∧ steps l ≤ 2818 := by
  unfold steps
  cases h : right l with
  | false => exact ⟨by simp, by simp⟩
  | true =>
    have h1 := quo_bd (right_bd h)
    have h2 := (right_bd h).k
    simp only [cond_true]
    omega
/-- The products on the way to the rounds. -/
theorem rounds_bd {l : List Int} (h : right l = true) : (0 ≤ (l.getD 0 0 - 1) * (l.getD 0 0 - 1) ∧ (l.getD 0 0 - 1) * (l.getD 0 0 - 1) ≤ 121) ∧
    (0 ≤ (l.getD 0 0 - 1) * (l.getD 0 0 - 1) * (l.getD 18 0 + 2) ∧ (l.getD 0 0 - 1) * (l.getD 0 0 - 1) * (l.getD 18 0 + 2) ≤ 1210) ∧
    (0 ≤ (l.getD 0 0 - 1) * (l.getD 0 0 - 1) * (l.getD 18 0 + 2) * (2 * steps l + 5 + 1) ∧ (l.getD 0 0 - 1) * (l.getD 0 0 - 1) * (l.getD 18 0 + 2) * (2 * steps l + 5 + 1) ≤ 1210 * 5642) := by
  have b := right_bd h
  have s := steps_bd l
  obtain ⟨⟨n1, n2⟩, _, _, _, ⟨f1, f2⟩⟩ := b
  have h1 := mul_bd (a := l.getD 0 0 - 1) (b := l.getD 0 0 - 1) (A := 11) (B := 11) (by omega) (by omega) (by omega) (by omega)
  have h2 := mul_bd (b := l.getD 18 0 + 2) (B := 10) h1.1 h1.2 (by omega) (by omega)
  exact ⟨h1, h2, mul_bd h2.1 h2.2 (by omega) (by omega)⟩
end Go.Setup
namespace Go.Proofs.Ytkdikmfnchmphaa
open Go Go.Am Go.RowKit Go.Setup
set_option linter.unusedSimpArgs false
set_option maxHeartbeats 4000000
set_option maxRecDepth 100000
/- quidnunc/setup.Steps -/
noncomputable def c32_1 : ACode := .region false [⟨some 1, .box 0, [.t 0], none⟩,
  ⟨some 2, .move, [.c (.val (.int .i64 0))], none⟩] [] [] [1] true [] []
noncomputable def c32_4 : ACode := .region false [⟨some 3, .load true 20, [.t 1], none⟩,
  ⟨some 4, .call 67, [.t 3], none⟩,
  ⟨some 5, .un .not, [.t 4], none⟩] [] [] [1, 5] true [] []
noncomputable def c32_7 : ACode := .region false [⟨some 2, .move, [.c (.val (.int .i64 0))], none⟩] [] [] [2] false [] []
noncomputable def c32_6 : ACode := .seq c32_7 .ret
noncomputable def c32_5 : ACode := .cond (.t 5) c32_6 .skip
noncomputable def c32_3 : ACode := .seq c32_4 c32_5
noncomputable def c32_9 : ACode := .region true [⟨some 6, .addr 0, [.t 1], none⟩,
  ⟨some 7, .load false 1, [.t 6], none⟩,
  ⟨some 8, .addr 0, [.t 1], none⟩,
  ⟨some 9, .load false 1, [.t 8], none⟩,
  ⟨some 10, .bin .mul, [.t 7, .t 9], none⟩,
  ⟨some 11, .addr 1, [.t 1], none⟩,
  ⟨some 12, .load false 1, [.t 11], none⟩,
  ⟨some 13, .bin .mul, [.t 10, .t 12], none⟩,
  ⟨some 14, .addr 17, [.t 1], none⟩,
  ⟨some 15, .load false 1, [.t 14], none⟩,
  ⟨some 16, .bin .add, [.t 13, .t 15], none⟩,
  ⟨some 17, .bin .sub, [.t 16, .c (.val (.int .i64 1))], none⟩,
  ⟨some 18, .addr 17, [.t 1], none⟩,
  ⟨some 19, .load false 1, [.t 18], none⟩,
  ⟨some 20, .bin .quo, [.t 17, .t 19], none⟩,
  ⟨some 21, .addr 19, [.t 1], none⟩,
  ⟨some 22, .load false 1, [.t 21], none⟩,
  ⟨some 23, .bin .add, [.t 20, .t 22], none⟩,
  ⟨some 24, .bin .add, [.t 23, .c (.val (.int .i64 2))], none⟩,
  ⟨some 2, .move, [.t 24], none⟩] [] [] [2] false [] []
noncomputable def c32_8 : ACode := .seq c32_9 .ret
noncomputable def c32_2 : ACode := .seq c32_3 c32_8
noncomputable def c32_0 : ACode := .seq c32_1 c32_2
noncomputable def code32 : Code := (Try.f32.body).getD .skip
theorem c32_ok : compC Try.prog 25 code32 = some (strip c32_0) := by kernel_rfl
theorem res32_ok : Try.f32.results.toList.mapM (resC Try.prog) = some [(2, none)] := by kernel_rfl
/- quidnunc/setup.rounds -/
noncomputable def c66_1 : ACode := .region false [⟨some 1, .box 0, [.t 0], none⟩,
  ⟨some 2, .move, [.c (.val (.int .i64 0))], none⟩] [] [] [1] true [] []
noncomputable def c66_3 : ACode := .region false [⟨some 4, .load true 20, [.t 1], none⟩,
  ⟨some 5, .call 32, [.t 4], none⟩,
  ⟨some 6, .bin .mul, [.c (.val (.int .i64 2)), .t 5], none⟩,
  ⟨some 7, .bin .add, [.t 6, .c (.val (.int .i64 5))], none⟩,
  ⟨some 3, .move, [.t 7], none⟩] [] [] [1, 3] true [] []
noncomputable def c66_5 : ACode := .region false [⟨some 8, .addr 0, [.t 1], none⟩,
  ⟨some 9, .load false 1, [.t 8], none⟩,
  ⟨some 10, .bin .sub, [.t 9, .c (.val (.int .i64 1))], none⟩,
  ⟨some 11, .addr 0, [.t 1], none⟩,
  ⟨some 12, .load false 1, [.t 11], none⟩,
  ⟨some 13, .bin .sub, [.t 12, .c (.val (.int .i64 1))], none⟩,
  ⟨some 14, .bin .mul, [.t 10, .t 13], none⟩,
  ⟨some 15, .addr 18, [.t 1], none⟩,
  ⟨some 16, .load false 1, [.t 15], none⟩,
  ⟨some 17, .bin .add, [.t 16, .c (.val (.int .i64 2))], none⟩,
  ⟨some 18, .bin .mul, [.t 14, .t 17], none⟩,
  ⟨some 19, .move, [.t 3], none⟩,
  ⟨some 20, .bin .add, [.t 19, .c (.val (.int .i64 1))], none⟩,
  ⟨some 21, .bin .mul, [.t 18, .t 20], none⟩,
  ⟨some 22, .bin .add, [.c (.val (.int .i64 2)), .t 21], none⟩,
  ⟨some 2, .move, [.t 22], none⟩] [] [] [2] false [] []
noncomputable def c66_4 : ACode := .seq c66_5 .ret
noncomputable def c66_2 : ACode := .seq c66_3 c66_4
noncomputable def c66_0 : ACode := .seq c66_1 c66_2
noncomputable def code66 : Code := (Try.f66.body).getD .skip
theorem c66_ok : compC Try.prog 23 code66 = some (strip c66_0) := by kernel_rfl
theorem res66_ok : Try.f66.results.toList.mapM (resC Try.prog) = some [(2, none)] := by kernel_rfl
theorem steps_any (l : List Int) (hl : l.length = 20) : ACall Try.prog 32 [.agg (cI l)] [] (Det (I (steps l)) []) := by
  have hc := cI_len l
  have ht := cI_take hl
  have hr := right_any l hl
  cases h : right l
  · have e : steps l = 0 := by simp [steps, h]
    rw [h] at hr
    refine ACall.startA c32_ok Try.func32 rfl Try.ntmps32 (by kernel_rfl) res32_ok rfl rfl rfl ?_; simp (maxSteps := 9999999) (disch := omega) only [go_sem]
    (repeat' (first | refine AWpA.seq ?_ | refine AWpA.block ?_ | (with_reducible refine CondP.tt ?_) | (with_reducible refine CondP.ff ?_) | refine AWpA.condv (by simp (maxSteps := 9999999) (disch := omega) only [go_sem, cI_ren, hc, hl, ht]; rfl) ?_ | ((first | (apply AWpA.region; (focus (simp (maxSteps := 9999999) (disch := omega) only [go_sem, cI_ren, hc, hl, ht]; rfl))) | (apply AWpA.draw [] follows; (focus (simp (maxSteps := 9999999) (disch := omega) only [go_sem, cI_ren, hc, hl, ht]; rfl)); (focus (simp (maxSteps := 9999999) (disch := omega) only [go_sem, cI_ren, hc, hl, ht]; first | done | trivial)); (focus (simp (maxSteps := 9999999) (disch := omega) only [go_sem, cI_ren, hc, hl, ht]; rfl))) | (apply TailK.go; (focus (simp (maxSteps := 9999999) (disch := omega) only [go_sem, cI_ren, hc, hl, ht]; rfl))) | refine AWpA.skip ?_ | refine AWpA.exit ?_ | refine AWpA.ret ?_ | (with_reducible refine ARoundsA.succ ?_) | ((first | refine Runs.kt (by assumption) (fun h9 => ?_) | refine Runs.kf (by assumption) (fun h9 => ?_) | refine Runs.nt (by assumption) (fun h9 => ?_) | refine Runs.nf (by assumption) (fun h9 => ?_) | refine CondP.ht (by assumption) (fun h9 => ?_) | refine CondP.hf (by assumption) (fun h9 => ?_) | refine CondP.nt (by assumption) (fun h9 => ?_) | refine CondP.nf (by assumption) (fun h9 => ?_)); (try simp only [h9]); clear h9) | ((first | (with_reducible apply CallG.plain1 [] (hr)) | (with_reducible apply CallG.draw1 [] (hr))); (focus ((try refine And.intro (leAs_of_eq rfl) ?_); (try refine And.intro (leOL_of_eq rfl) ?_); simp (maxSteps := 9999999) (disch := omega) only [go_sem, cI_ren, hc, hl, ht]; first | done | (repeat' (first | rfl | (refine And.intro ?_ ?_))))); (focus (simp (maxSteps := 9999999) (disch := omega) only [go_sem, cI_ren, hc, hl, ht]; rfl)))); (try simp (maxSteps := 9999999) (disch := omega) only [go_sem, cI_ren, hc, hl, ht]); (try (refine And.intro ?_ ?_; (focus (first | omega | (simp only [go_sem]; done) | (simp; done) | (simp; omega) | assumption))))) | ((first | refine CondP.split (fun hif => ?_) (fun hif => ?_) | refine Runs.part (fun hif => ?_) (fun hif => ?_)) <;> ((try simp only [hif]); (try simp only [decide_eq_true_eq, decide_eq_false_iff_not, Bool.not_eq_true, Bool.not_eq_false, Bool.not_eq_true', Bool.not_eq_false', beq_iff_eq, bne_iff_ne, bne_eq_false_iff_eq, beq_eq_false_iff_ne, ne_eq, Bool.and_eq_true, Bool.or_eq_true, Bool.or_eq_false_iff] at hif); (try (have h9 : _ = true := hif; simp only [h9])); (try (have h9 : _ = false := hif; simp only [h9])); (try simp (maxSteps := 9999999) (disch := omega) only [go_sem, cI_ren, hc, hl, ht]); (try (refine And.intro ?_ ?_; (focus (first | omega | (simp only [go_sem]; done) | (simp; done) | (simp; omega) | assumption)))); (try (exfalso; omega; done))))))
    (apply Ret.det []; (focus (first | exact .inl rfl | exact .inr rfl)); (focus (simp (maxSteps := 9999999) (disch := omega) only [go_sem, e]; rfl)); (simp (maxSteps := 9999999) (disch := omega) only [go_sem, e]; (try (repeat' (first | done | trivial | rfl | exact leAs_rfl _ | decide | (refine And.intro ?_ ?_) | (simp; done) | omega | (simp; decide))))))
  · have e : steps l = quo l + l.getD 19 0 + 2 := by simp [steps, h]
    have b := right_bd h
    have h1 := nnq_bd b
    have h2 := quo_bd b
    have h3 := b.c
    have h4 := b.k
    rw [h] at hr
    have g0 := cI_get (l := l) (k := 0) (by omega)
    have g1 := cI_get (l := l) (k := 1) (by omega)
    have g17 := cI_get (l := l) (k := 17) (by omega)
    have g19 := cI_get (l := l) (k := 19) (by omega)
    have eq : (l.getD 0 0 * l.getD 0 0 * l.getD 1 0 + l.getD 17 0 - 1).tdiv (l.getD 17 0) = quo l := rfl
    generalize quo l = q at *
    generalize l.getD 0 0 = x0 at *
    generalize l.getD 1 0 = x1 at *
    generalize l.getD 17 0 = x17 at *
    generalize l.getD 19 0 = x19 at *
    obtain ⟨h1a, h1b⟩ := h1
    refine ACall.startA c32_ok Try.func32 rfl Try.ntmps32 (by kernel_rfl) res32_ok rfl rfl rfl ?_; simp (maxSteps := 9999999) (disch := omega) only [go_sem]
    (repeat' (first | refine AWpA.seq ?_ | refine AWpA.block ?_ | (with_reducible refine CondP.tt ?_) | (with_reducible refine CondP.ff ?_) | refine AWpA.condv (by simp (maxSteps := 9999999) (disch := omega) only [go_sem, cI_ren, hc, hl, ht, g0, g1, g17, g19, eq]; rfl) ?_ | ((first | (apply AWpA.region; (focus (simp (maxSteps := 9999999) (disch := omega) only [go_sem, cI_ren, hc, hl, ht, g0, g1, g17, g19, eq]; rfl))) | (apply AWpA.draw [] follows; (focus (simp (maxSteps := 9999999) (disch := omega) only [go_sem, cI_ren, hc, hl, ht, g0, g1, g17, g19, eq]; rfl)); (focus (simp (maxSteps := 9999999) (disch := omega) only [go_sem, cI_ren, hc, hl, ht, g0, g1, g17, g19, eq]; first | done | trivial)); (focus (simp (maxSteps := 9999999) (disch := omega) only [go_sem, cI_ren, hc, hl, ht, g0, g1, g17, g19, eq]; rfl))) | (apply TailK.go; (focus (simp (maxSteps := 9999999) (disch := omega) only [go_sem, cI_ren, hc, hl, ht, g0, g1, g17, g19, eq]; rfl))) | refine AWpA.skip ?_ | refine AWpA.exit ?_ | refine AWpA.ret ?_ | (with_reducible refine ARoundsA.succ ?_) | ((first | refine Runs.kt (by assumption) (fun h9 => ?_) | refine Runs.kf (by assumption) (fun h9 => ?_) | refine Runs.nt (by assumption) (fun h9 => ?_) | refine Runs.nf (by assumption) (fun h9 => ?_) | refine CondP.ht (by assumption) (fun h9 => ?_) | refine CondP.hf (by assumption) (fun h9 => ?_) | refine CondP.nt (by assumption) (fun h9 => ?_) | refine CondP.nf (by assumption) (fun h9 => ?_)); (try simp only [h9]); clear h9) | ((first | (with_reducible apply CallG.plain1 [] (hr)) | (with_reducible apply CallG.draw1 [] (hr))); (focus ((try refine And.intro (leAs_of_eq rfl) ?_); (try refine And.intro (leOL_of_eq rfl) ?_); simp (maxSteps := 9999999) (disch := omega) only [go_sem, cI_ren, hc, hl, ht, g0, g1, g17, g19, eq]; first | done | (repeat' (first | rfl | (refine And.intro ?_ ?_))))); (focus (simp (maxSteps := 9999999) (disch := omega) only [go_sem, cI_ren, hc, hl, ht, g0, g1, g17, g19, eq]; rfl)))); (try simp (maxSteps := 9999999) (disch := omega) only [go_sem, cI_ren, hc, hl, ht, g0, g1, g17, g19, eq]); (try (refine And.intro ?_ ?_; (focus (first | omega | (simp only [go_sem]; done) | (simp; done) | (simp; omega) | assumption))))) | ((first | refine CondP.split (fun hif => ?_) (fun hif => ?_) | refine Runs.part (fun hif => ?_) (fun hif => ?_)) <;> ((try simp only [hif]); (try simp only [decide_eq_true_eq, decide_eq_false_iff_not, Bool.not_eq_true, Bool.not_eq_false, Bool.not_eq_true', Bool.not_eq_false', beq_iff_eq, bne_iff_ne, bne_eq_false_iff_eq, beq_eq_false_iff_ne, ne_eq, Bool.and_eq_true, Bool.or_eq_true, Bool.or_eq_false_iff] at hif); (try (have h9 : _ = true := hif; simp only [h9])); (try (have h9 : _ = false := hif; simp only [h9])); (try simp (maxSteps := 9999999) (disch := omega) only [go_sem, cI_ren, hc, hl, ht, g0, g1, g17, g19, eq]); (try (refine And.intro ?_ ?_; (focus (first | omega | (simp only [go_sem]; done) | (simp; done) | (simp; omega) | assumption)))); (try (exfalso; omega; done))))))
    (apply Ret.det []; (focus (first | exact .inl rfl | exact .inr rfl)); (focus (simp (maxSteps := 9999999) (disch := omega) only [go_sem, e]; rfl)); (simp (maxSteps := 9999999) (disch := omega) only [go_sem, e]; (try (repeat' (first | done | trivial | rfl | exact leAs_rfl _ | decide | (refine And.intro ?_ ?_) | (simp; done) | omega | (simp; decide))))))
theorem rounds_any (l : List Int) (hl : l.length = 20) (h : right l = true) : ACall Try.prog 66 [.agg (cI l)] [] (Det (I (rounds l)) []) := by
  have hc := cI_len l
  have ht := cI_take hl
  have hr := steps_any l hl
  have h1 := steps_bd l
  obtain ⟨h2, h3, h4⟩ := rounds_bd h
  have b := right_bd h
  have h5 := b.n
  have h6 := b.f
  have g0 := cI_get (l := l) (k := 0) (by omega)
  have g18 := cI_get (l := l) (k := 18) (by omega)
  have e : rounds l = 2 + (l.getD 0 0 - 1) * (l.getD 0 0 - 1) * (l.getD 18 0 + 2) * (2 * steps l + 5 + 1) := rfl
  generalize rounds l = r at *
  generalize steps l = s at *
  generalize l.getD 0 0 = x0 at *
  generalize l.getD 18 0 = x18 at *
  refine ACall.startA c66_ok Try.func66 rfl Try.ntmps66 (by kernel_rfl) res66_ok rfl rfl rfl ?_; simp (maxSteps := 9999999) (disch := omega) only [go_sem]
  (repeat' (first | refine AWpA.seq ?_ | refine AWpA.block ?_ | (with_reducible refine CondP.tt ?_) | (with_reducible refine CondP.ff ?_) | refine AWpA.condv (by simp (maxSteps := 9999999) (disch := omega) only [go_sem, cI_ren, hc, hl, ht, g0, g18]; rfl) ?_ | ((first | (apply AWpA.region; (focus (simp (maxSteps := 9999999) (disch := omega) only [go_sem, cI_ren, hc, hl, ht, g0, g18]; rfl))) | (apply AWpA.draw [] follows; (focus (simp (maxSteps := 9999999) (disch := omega) only [go_sem, cI_ren, hc, hl, ht, g0, g18]; rfl)); (focus (simp (maxSteps := 9999999) (disch := omega) only [go_sem, cI_ren, hc, hl, ht, g0, g18]; first | done | trivial)); (focus (simp (maxSteps := 9999999) (disch := omega) only [go_sem, cI_ren, hc, hl, ht, g0, g18]; rfl))) | (apply TailK.go; (focus (simp (maxSteps := 9999999) (disch := omega) only [go_sem, cI_ren, hc, hl, ht, g0, g18]; rfl))) | refine AWpA.skip ?_ | refine AWpA.exit ?_ | refine AWpA.ret ?_ | (with_reducible refine ARoundsA.succ ?_) | ((first | refine Runs.kt (by assumption) (fun h9 => ?_) | refine Runs.kf (by assumption) (fun h9 => ?_) | refine Runs.nt (by assumption) (fun h9 => ?_) | refine Runs.nf (by assumption) (fun h9 => ?_) | refine CondP.ht (by assumption) (fun h9 => ?_) | refine CondP.hf (by assumption) (fun h9 => ?_) | refine CondP.nt (by assumption) (fun h9 => ?_) | refine CondP.nf (by assumption) (fun h9 => ?_)); (try simp only [h9]); clear h9) | ((first | (with_reducible apply CallG.plain1 [] (hr)) | (with_reducible apply CallG.draw1 [] (hr))); (focus ((try refine And.intro (leAs_of_eq rfl) ?_); (try refine And.intro (leOL_of_eq rfl) ?_); simp (maxSteps := 9999999) (disch := omega) only [go_sem, cI_ren, hc, hl, ht, g0, g18]; first | done | (repeat' (first | rfl | (refine And.intro ?_ ?_))))); (focus (simp (maxSteps := 9999999) (disch := omega) only [go_sem, cI_ren, hc, hl, ht, g0, g18]; rfl)))); (try simp (maxSteps := 9999999) (disch := omega) only [go_sem, cI_ren, hc, hl, ht, g0, g18]); (try (refine And.intro ?_ ?_; (focus (first | omega | (simp only [go_sem]; done) | (simp; done) | (simp; omega) | assumption))))) | ((first | refine CondP.split (fun hif => ?_) (fun hif => ?_) | refine Runs.part (fun hif => ?_) (fun hif => ?_)) <;> ((try simp only [hif]); (try simp only [decide_eq_true_eq, decide_eq_false_iff_not, Bool.not_eq_true, Bool.not_eq_false, Bool.not_eq_true', Bool.not_eq_false', beq_iff_eq, bne_iff_ne, bne_eq_false_iff_eq, beq_eq_false_iff_ne, ne_eq, Bool.and_eq_true, Bool.or_eq_true, Bool.or_eq_false_iff] at hif); (try (have h9 : _ = true := hif; simp only [h9])); (try (have h9 : _ = false := hif; simp only [h9])); (try simp (maxSteps := 9999999) (disch := omega) only [go_sem, cI_ren, hc, hl, ht, g0, g18]); (try (refine And.intro ?_ ?_; (focus (first | omega | (simp only [go_sem]; done) | (simp; done) | (simp; omega) | assumption)))); (try (exfalso; omega; done))))))
  (apply Ret.det []; (focus (first | exact .inl rfl | exact .inr rfl)); (focus (simp (maxSteps := 9999999) (disch := omega) only [go_sem, e]; rfl)); (simp (maxSteps := 9999999) (disch := omega) only [go_sem, e]; (try (repeat' (first | done | trivial | rfl | exact leAs_rfl _ | decide | (refine And.intro ?_ ?_) | (simp; done) | omega | (simp; decide))))))
end Go.Proofs.Ytkdikmfnchmphaa
