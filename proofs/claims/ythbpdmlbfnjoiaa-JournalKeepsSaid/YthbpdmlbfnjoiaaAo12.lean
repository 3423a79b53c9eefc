/- Contracts: texts that are read, by the program and by the document. -/
import Derived.Test.YthbpdmlbfnjoiaaAo11
namespace Go.Proofs.Ythbpdmlbfnjoiaa
set_option linter.unusedSimpArgs false
set_option linter.unusedVariables false
set_option maxHeartbeats 4000000
open Go Go.Am
set_option maxRecDepth 100000
theorem textC_no {L : List Int} {m e : Int} {a : Nat} (h : rawOk e 1 (L.length - a : Nat) = false) : textC L m ⟨a, e⟩ = ⟨a, rawE e 1 (L.length - a : Nat)⟩ := by simp only [textC, h, cond_false]
theorem textV_no {L : List Int} {m e : Int} {a : Nat} (h : rawOk e 1 (L.length - a : Nat) = false) : textV L m ⟨a, e⟩ = ByteArray.empty := by simp only [textV, h, Bool.false_and, cond_false]
theorem textC_most {L : List Int} {m : Int} {a : Nat} (h : rawOk 0 1 (L.length - a : Nat) = true) (h1 : m < L.getD a 0) : textC L m ⟨a, 0⟩ = ⟨a, 4⟩ := by simp only [textC, h, decide_eq_true h1, cond_true]
theorem textV_most {L : List Int} {m : Int} {a : Nat} (h : rawOk 0 1 (L.length - a : Nat) = true) (h1 : m < L.getD a 0) : textV L m ⟨a, 0⟩ = ByteArray.empty := by simp only [textV, h, decide_eq_true h1, Bool.not_true, Bool.false_and, Bool.and_false, cond_false]
theorem textC_short {L : List Int} {m : Int} {a : Nat} (h : rawOk 0 1 (L.length - a : Nat) = true) (h1 : ¬ m < L.getD a 0) (h2 : ¬ 1 + L.getD a 0 ≤ ((L.length - a : Nat) : Int)) : textC L m ⟨a, 0⟩ = ⟨a, 6⟩ := by simp only [textC, h, decide_eq_false h1, decide_eq_false h2, cond_true, cond_false]
theorem textV_short {L : List Int} {m : Int} {a : Nat} (h : rawOk 0 1 (L.length - a : Nat) = true) (h2 : ¬ 1 + L.getD a 0 ≤ ((L.length - a : Nat) : Int)) : textV L m ⟨a, 0⟩ = ByteArray.empty := by simp only [textV, h, decide_eq_false h2, Bool.and_false, cond_false]
theorem textC_yes {L : List Int} {m : Int} {a : Nat} (h : rawOk 0 1 (L.length - a : Nat) = true) (h1 : ¬ m < L.getD a 0) (h2 : 1 + L.getD a 0 ≤ ((L.length - a : Nat) : Int)) : textC L m ⟨a, 0⟩ = ⟨a + (1 + (L.getD a 0).toNat), 0⟩ := by simp only [textC, h, decide_eq_false h1, decide_eq_true h2, cond_true, cond_false]
theorem textV_yes {L : List Int} {m : Int} {a : Nat} (h : rawOk 0 1 (L.length - a : Nat) = true) (h1 : ¬ m < L.getD a 0) (h2 : 1 + L.getD a 0 ≤ ((L.length - a : Nat) : Int)) : textV L m ⟨a, 0⟩ = baI ((L.drop (a + 1)).take (L.getD a 0).toNat) := by simp only [textV, h, decide_eq_false h1, decide_eq_true h2, cond_true, Bool.not_false, Bool.and_true]
theorem rawA_le {e n left : Int} {a m : Nat} (h : a ≤ m) (hl : left = ((m - a : Nat) : Int)) : rawA e n left a ≤ m := by
  cases ho : rawOk e n left with
  | true =>
    obtain ⟨-, h1, h2, -, h3, -⟩ := rawOk_yes ho
    rw [h3]; omega
  | false => rw [(rawOk_no ho).2.1]; exact h
theorem rawC_le {L : List Int} {n : Int} {c : Cu} (h : c.a ≤ L.length) : (rawC L n c).a ≤ L.length := rawA_le h rfl
theorem numC_le {L : List Int} {n : Int} {c : Cu} (h : c.a ≤ L.length) : (numC L n c).a ≤ L.length := by
  unfold numC
  cases wideB n
  · exact h
  · exact rawC_le h
theorem flagC_le {L : List Int} {c : Cu} (h : c.a ≤ L.length) : (flagC L c).a ≤ L.length := by
  unfold flagC
  cases ho : rawOk c.e 1 (c.left L) with
  | true =>
    obtain ⟨-, h1, h2, -⟩ := rawOk_yes ho
    cases decide (1 < L.getD c.a 0)
    · simp only [cond_true, cond_false]; simp only [Cu.left] at h2; omega
    · exact h
  | false => exact h
theorem textC_le {L : List Int} {m : Int} {c : Cu} (hb : bytesB L) (h : c.a ≤ L.length) : (textC L m c).a ≤ L.length := by
  unfold textC
  cases ho : rawOk c.e 1 (c.left L) with
  | true =>
    obtain ⟨-, h1, h2, -⟩ := rawOk_yes ho
    cases decide (m < L.getD c.a 0)
    · cases h3 : decide (1 + L.getD c.a 0 ≤ c.left L)
      · exact h
      · simp only [Cu.left] at h2
        simp only [Cu.left, decide_eq_true_eq] at h3
        have hr := hb (L.getD c.a 0) (by rw [getD_get (by omega)]; exact List.getElem_mem _)
        simp only [cond_true, cond_false]
        omega
    · exact h
  | false => exact h
theorem rerr_any (err : Int) : ACall Try.prog 75 [.ptr 0 0] [.cells true [I err, .any]] (Det (I err) [.cells true [I err, .any]]) := by
  refine ACall.startA c75_ok Try.func75 rfl Try.ntmps75 (by kernel_rfl) res75_ok rfl rfl rfl ?_; simp (maxSteps := 9999999) (disch := omega) only [go_sem]
  (have k9 := k0; (repeat' (first | refine AWpA.seq ?_ | refine AWpA.block ?_ | (with_reducible refine CondP.tt ?_) | (with_reducible refine CondP.ff ?_) | refine AWpA.cg ?_ | ((first | refine AWpA.rg ?_ | refine AWpA.dg [] [] follows ?_ | refine TailK.tg ?_ | refine AWpA.skip ?_ | refine AWpA.exit ?_ | refine AWpA.ret ?_ | (with_reducible refine ARoundsA.succ ?_) | ((first | refine Runs.gkt (fun h9 => ?_) | refine Runs.gkf (fun h9 => ?_) | refine Runs.gnt (fun h9 => ?_) | refine Runs.gnf (fun h9 => ?_) | refine CondP.gt (fun h9 => ?_) | refine CondP.gf (fun h9 => ?_) | refine CondP.gnt (fun h9 => ?_) | refine CondP.gnf (fun h9 => ?_)); (try simp only [h9]); clear h9)); (try simp (maxSteps := 9999999) (disch := omega) only [go_sem, k9]); (try refine cnd ?_)) | ((first | refine CondP.split (fun hif => ?_) (fun hif => ?_) | refine Runs.part (fun hif => ?_) (fun hif => ?_)) <;> ((try simp only [hif]); (try simp only [BL] at hif); (try (have h9 : _ = true := hif; simp only [h9])); (try (have h9 : _ = false := hif; simp only [h9])); (try simp (maxSteps := 9999999) (disch := omega) only [go_sem, k9]); (try refine cnd ?_); (try (exfalso; omega; done)))))); (all_goals (try clear k9)))
  (apply Ret.det [0]; (focus (first | exact .inl rfl | exact .inr rfl)); (focus (simp (maxSteps := 9999999) (disch := omega) only [go_sem]; rfl)); (simp (maxSteps := 9999999) (disch := omega) only [go_sem]; (try (repeat' (first | done | trivial | rfl | exact leAs_rfl _ | decide | (refine And.intro ?_ ?_) | (simp; done) | omega | (simp; decide))))))
end Go.Proofs.Ythbpdmlbfnjoiaa
