/- Contracts: texts that are read, by the program and by the document. -/
import Derived.Test.YtopidfkmligljaaGreatAo11
namespace Go.Proofs.YtopidfkmligljaaGreat
set_option linter.unusedSimpArgs false
set_option linter.unusedVariables false
set_option maxHeartbeats 4000000
open Go Go.Am
set_option maxRecDepth 100000
theorem textC_no {L : List Int} {m e : Int} {a : Nat} (h : rawOk e 1 (L.length - a : Nat) = false) : textC L m ⟨a, e⟩ = ⟨a, rawE e 1 (L.length - a : Nat)⟩ := by simp only [textC, h, cond_false]
theorem textV_no {L : List Int} {m e : Int} {a : Nat} (h : rawOk e 1 (L.length - a : Nat) = false) : textV L m ⟨a, e⟩ = ByteArray.empty := by simp only [textV, h, Bool.false_and, cond_false]
theorem textC_most {L : List Int} {m : Int} {a : Nat} (h : rawOk 0 1 (L.length - a : Nat) = true) (h1 : m < L.getD a 0) : textC L m ⟨a, 0⟩ = ⟨a, 4⟩ := by simp only [textC, h, decide_eq_true h1, cond_true]
theorem textV_most {L : List Int} {m : Int} {a : Nat} (h : rawOk 0 1 (L.length - a : Nat) = true) (h1 : m < L.getD a 0) : textV L m ⟨a, 0⟩ = ByteArray.empty := by simp only [textV, h, decide_eq_true h1, Bool.not_true, Bool.false_and, Bool.and_false, cond_false]
theorem textC_short {L : List Int} {m : Int} {a : Nat} (h : rawOk 0 1 (L.length - a : Nat) = true) (h1 : ¬ m < L.getD a 0) (h2 : ¬ 1 + L.getD a 0 ≤ ((L.length - a : Nat) : Int)) : textC L m ⟨a, 0⟩ = ⟨a, 6⟩ := by simp only [textC, h, decide_eq_false h1, decide_eq_false h2, cond_true, cond_false]
theorem textV_short {L : List Int} {m : Int} {a : Nat} (h : rawOk 0 1 (L.length - a : Nat) = true) (h2 : ¬ 1 + L.getD a 0 ≤ ((L.length - a : Nat) : Int)) : textV L m ⟨a, 0⟩ = ByteArray.empty := by simp only [textV, h, decide_eq_false h2, Bool.and_false, cond_false]
theorem textC_yes {L : List Int} {m : Int} {a : Nat} (h : rawOk 0 1 (L.length - a : Nat) = true) (h1 : ¬ m < L.getD a 0) (h2 : 1 + L.getD a 0 ≤ ((L.length - a : Nat) : Int)) : textC L m ⟨a, 0⟩ = ⟨a + (1 + (L.getD a 0).toNat), 0⟩ := by simp only [textC, h, decide_eq_false h1, decide_eq_true h2, cond_true, cond_false]
theorem textV_yes {L : List Int} {m : Int} {a : Nat} (h : rawOk 0 1 (L.length - a : Nat) = true) (h1 : ¬ m < L.getD a 0) (h2 : 1 + L.getD a 0 ≤ ((L.length - a : Nat) : Int)) : textV L m ⟨a, 0⟩ = baI ((L.drop (a + 1)).take (L.getD a 0).toNat) := by simp only [textV, h, decide_eq_false h1, decide_eq_true h2, cond_true, Bool.not_false, Bool.and_true]
theorem rtext_any {L : List Int} (hL : L.length ≤ 1099511627776) (hb : bytesB L) (c : Cu) (ha : c.a ≤ L.length) (m : Int) : ACall Tryz.prog 128 [.ptr 0 0, I m] [RdO 1 c.a L.length c.e, .cells true (bA L)] (Det (.val (.string (textV L m c))) [RdO 1 (textC L m c).a L.length (textC L m c).e, .cells true (bA L)]) := by
  obtain ⟨a, e⟩ := c
  simp only at ha
  have hh := has_any a L hL e 1
  rw [← rawE_has (by omega)] at hh
  have hz : (rawE e 1 (L.length - a : Nat) == 0) = rawOk e 1 (L.length - a : Nat) := by rw [rawE_has (by omega)]; exact has_ok (by omega)
  cases ho : rawOk e 1 (L.length - a : Nat) with
  | false =>
    rw [textC_no ho, textV_no ho]
    rw [hz, ho] at hh
    refine ACall.startA c128_ok Tryz.func128 rfl Tryz.ntmps128 (by kernel_rfl) res128_ok rfl rfl rfl ?_; simp (maxSteps := 9999999) (disch := omega) only [go_sem]
    (have k9 := k0; have a1 := Arm.mk [0, 1] hh; refine goK ?_; (try clear k9); (try clear a1))
    (have k9 := k0; exact Ret.dk [0, 1])
  | true =>
    obtain ⟨rfl, -, h0, h1, -, -⟩ := rawOk_yes ho
    have hal : a < L.length := by omega
    have hx := bA_getD hal
    rw [hz, ho, h1] at hh
    have h01 : (0 < L.length - a) = True := eq_true (by omega)
    have hr := hb (L.getD a 0) (by rw [getD_get (by omega)]; exact List.getElem_mem _)
    by_cases h : m < L.getD a 0
    · rw [textC_most ho h, textV_most ho h]
      have hh2 := has_any a L hL 4 (1 + L.getD a 0)
      have he : hasE 4 (1 + L.getD a 0) (L.length - a : Nat) = 4 := by unfold hasE; cases decide (((L.length - a : Nat) : Int) < 1 + L.getD a 0) <;> rfl
      rw [he] at hh2
      generalize L.getD a 0 = x at *
      refine ACall.startA c128_ok Tryz.func128 rfl Tryz.ntmps128 (by kernel_rfl) res128_ok rfl rfl rfl ?_; simp (maxSteps := 9999999) (disch := omega) only [go_sem]
      (have k9 := And.intro @hx (And.intro (eq_true h) (And.intro @h01 (k0))); (repeat' (first | refine AWpA.seq ?_ | refine AWpA.block ?_ | (with_reducible refine CondP.tt ?_) | (with_reducible refine CondP.ff ?_) | refine AWpA.cg ?_ | ((first | refine AWpA.rg ?_ | refine AWpA.dg [] [] follows ?_ | refine TailK.tg ?_ | refine AWpA.skip ?_ | refine AWpA.exit ?_ | refine AWpA.ret ?_ | (with_reducible refine ARoundsA.succ ?_) | ((first | refine Runs.gkt (fun h9 => ?_) | refine Runs.gkf (fun h9 => ?_) | refine Runs.gnt (fun h9 => ?_) | refine Runs.gnf (fun h9 => ?_) | refine CondP.gt (fun h9 => ?_) | refine CondP.gf (fun h9 => ?_) | refine CondP.gnt (fun h9 => ?_) | refine CondP.gnf (fun h9 => ?_)); (try simp only [h9]); clear h9) | refine CallG.pg [0, 1] (hh) ?_ | refine CallG.pg [0, 1] (rfail_r a L 0 4) ?_ | refine CallG.pg [0, 1] (hh2) ?_ | refine CallG.dg [0, 1] (hh) ?_ | refine CallG.dg [0, 1] (rfail_r a L 0 4) ?_ | refine CallG.dg [0, 1] (hh2) ?_); (try simp (maxSteps := 9999999) (disch := omega) only [go_sem, k9]); (try refine cnd ?_)) | ((first | refine CondP.split (fun hif => ?_) (fun hif => ?_) | refine Runs.part (fun hif => ?_) (fun hif => ?_)) <;> ((try simp only [hif]); (try simp only [BL] at hif); (try (have h9 : _ = true := hif; simp only [h9])); (try (have h9 : _ = false := hif; simp only [h9])); (try simp (maxSteps := 9999999) (disch := omega) only [go_sem, k9]); (try refine cnd ?_); (try (exfalso; omega; done)))))); (all_goals (try clear k9)))
      all_goals (first | (exfalso; omega) | skip)
      all_goals (apply Ret.det [0, 1]; (focus (first | exact .inl rfl | exact .inr rfl)); (focus (simp (maxSteps := 9999999) (disch := omega) only [go_sem]; rfl)); (simp (maxSteps := 9999999) (disch := omega) only [go_sem]; (try (repeat' (first | done | trivial | rfl | exact leAs_rfl _ | decide | (refine And.intro ?_ ?_) | (simp; done) | omega | (simp; decide))))))
    · have hh2 := has_any a L hL 0 (1 + L.getD a 0)
      by_cases h2 : 1 + L.getD a 0 ≤ ((L.length - a : Nat) : Int)
      · rw [textC_yes ho h h2, textV_yes ho h h2]
        have he : hasE 0 (1 + L.getD a 0) (L.length - a : Nat) = 0 := by unfold hasE; rw [decide_eq_false (by omega)]; rfl
        rw [he] at hh2
        obtain ⟨k, hk⟩ : ∃ k : Nat, L.getD a 0 = (k : Int) := ⟨(L.getD a 0).toNat, by omega⟩
        rw [hk] at hh2 h2 h hx hr ⊢
        have ht := take_any a (1 + k) L hL 0 (by omega)
        have hlen : ((L.drop a).take (1 + k)).length = 1 + k := by simp; omega
        have hdr : ((L.drop a).take (1 + k)).drop 1 = (L.drop (a + 1)).take k := by
          rw [List.drop_take, List.drop_drop]
          congr 1
          omega
        have ht2 : ((L.drop (a + 1)).take k).length = k := by simp; omega
        rw [show ((1 + k : Nat) : Int) = 1 + (k : Int) by omega] at ht
        rw [Int.toNat_natCast, ← hdr]
        rw [← hdr] at ht2
        generalize (L.drop a).take (1 + k) = l at *
        have q1 : (1 : Nat) ≤ 1 + k := by omega
        have q2 : (k + 1 - 1) = k := by omega
        have q3 : (l.drop 1).take k = l.drop 1 := List.take_of_length_le (by omega)
        have q4 : (1 + (k : Int)).toNat - 1 = k := by omega
        refine ACall.startA c128_ok Tryz.func128 rfl Tryz.ntmps128 (by kernel_rfl) res128_ok rfl rfl rfl ?_; simp (maxSteps := 9999999) (disch := omega) only [go_sem]
        (have k9 := And.intro @hx (And.intro (eq_false h) (And.intro @h01 (And.intro @hlen (And.intro @q1 (k0))))); (repeat' (first | refine AWpA.seq ?_ | refine AWpA.block ?_ | (with_reducible refine CondP.tt ?_) | (with_reducible refine CondP.ff ?_) | refine AWpA.cg ?_ | ((first | refine AWpA.rg ?_ | refine AWpA.dg [] [] follows ?_ | refine TailK.tg ?_ | refine AWpA.skip ?_ | refine AWpA.exit ?_ | refine AWpA.ret ?_ | (with_reducible refine ARoundsA.succ ?_) | ((first | refine Runs.gkt (fun h9 => ?_) | refine Runs.gkf (fun h9 => ?_) | refine Runs.gnt (fun h9 => ?_) | refine Runs.gnf (fun h9 => ?_) | refine CondP.gt (fun h9 => ?_) | refine CondP.gf (fun h9 => ?_) | refine CondP.gnt (fun h9 => ?_) | refine CondP.gnf (fun h9 => ?_)); (try simp only [h9]); clear h9) | refine CallG.pg [0, 1] (hh) ?_ | refine CallG.pg [0, 1] (ht) ?_ | refine CallG.pg [0, 1] (hh2) ?_ | refine CallG.dg [0, 1] (hh) ?_ | refine CallG.dg [0, 1] (ht) ?_ | refine CallG.dg [0, 1] (hh2) ?_); (try simp (maxSteps := 9999999) (disch := omega) only [go_sem, k9]); (try refine cnd ?_)) | ((first | refine CondP.split (fun hif => ?_) (fun hif => ?_) | refine Runs.part (fun hif => ?_) (fun hif => ?_)) <;> ((try simp only [hif]); (try simp only [BL] at hif); (try (have h9 : _ = true := hif; simp only [h9])); (try (have h9 : _ = false := hif; simp only [h9])); (try simp (maxSteps := 9999999) (disch := omega) only [go_sem, k9]); (try refine cnd ?_); (try (exfalso; omega; done)))))); (all_goals (try clear k9)))
        all_goals (first | (exfalso; omega) | skip)
        all_goals ((apply Ret.det [0, 1]; (focus (first | exact .inl rfl | exact .inr rfl)); (focus (simp (maxSteps := 9999999) (disch := omega) only [go_sem, baI, q3, q4]; rfl)); (simp (maxSteps := 9999999) (disch := omega) only [go_sem, baI, q3, q4]; (try (repeat' (first | done | trivial | rfl | exact leAs_rfl _ | decide | (refine And.intro ?_ ?_) | (simp; done) | omega | (simp; decide)))))))
      · rw [textC_short ho h h2, textV_short ho h2]
        have he : hasE 0 (1 + L.getD a 0) (L.length - a : Nat) = 6 := by unfold hasE; rw [decide_eq_true (by omega)]; rfl
        rw [he] at hh2
        generalize L.getD a 0 = x at *
        refine ACall.startA c128_ok Tryz.func128 rfl Tryz.ntmps128 (by kernel_rfl) res128_ok rfl rfl rfl ?_; simp (maxSteps := 9999999) (disch := omega) only [go_sem]
        (have k9 := And.intro @hx (And.intro (eq_false h) (And.intro @h01 (k0))); (repeat' (first | refine AWpA.seq ?_ | refine AWpA.block ?_ | (with_reducible refine CondP.tt ?_) | (with_reducible refine CondP.ff ?_) | refine AWpA.cg ?_ | ((first | refine AWpA.rg ?_ | refine AWpA.dg [] [] follows ?_ | refine TailK.tg ?_ | refine AWpA.skip ?_ | refine AWpA.exit ?_ | refine AWpA.ret ?_ | (with_reducible refine ARoundsA.succ ?_) | ((first | refine Runs.gkt (fun h9 => ?_) | refine Runs.gkf (fun h9 => ?_) | refine Runs.gnt (fun h9 => ?_) | refine Runs.gnf (fun h9 => ?_) | refine CondP.gt (fun h9 => ?_) | refine CondP.gf (fun h9 => ?_) | refine CondP.gnt (fun h9 => ?_) | refine CondP.gnf (fun h9 => ?_)); (try simp only [h9]); clear h9) | refine CallG.pg [0, 1] (hh) ?_ | refine CallG.pg [0, 1] (hh2) ?_ | refine CallG.dg [0, 1] (hh) ?_ | refine CallG.dg [0, 1] (hh2) ?_); (try simp (maxSteps := 9999999) (disch := omega) only [go_sem, k9]); (try refine cnd ?_)) | ((first | refine CondP.split (fun hif => ?_) (fun hif => ?_) | refine Runs.part (fun hif => ?_) (fun hif => ?_)) <;> ((try simp only [hif]); (try simp only [BL] at hif); (try (have h9 : _ = true := hif; simp only [h9])); (try (have h9 : _ = false := hif; simp only [h9])); (try simp (maxSteps := 9999999) (disch := omega) only [go_sem, k9]); (try refine cnd ?_); (try (exfalso; omega; done)))))); (all_goals (try clear k9)))
        all_goals (first | (exfalso; omega) | skip)
        all_goals (apply Ret.det [0, 1]; (focus (first | exact .inl rfl | exact .inr rfl)); (focus (simp (maxSteps := 9999999) (disch := omega) only [go_sem]; rfl)); (simp (maxSteps := 9999999) (disch := omega) only [go_sem]; (try (repeat' (first | done | trivial | rfl | exact leAs_rfl _ | decide | (refine And.intro ?_ ?_) | (simp; done) | omega | (simp; decide))))))
theorem rdone_any (L : List Int) (c : Cu) : ACall Tryz.prog 27 [.ptr 0 0] [RdO 1 c.a L.length c.e, .cells true (bA L)] (Det (I (doneC L c).e) [RdO 1 (doneC L c).a L.length (doneC L c).e, .cells true (bA L)]) := done_any c.a L c.e
theorem rawA_le {e n left : Int} {a m : Nat} (h : a ≤ m) (hl : left = ((m - a : Nat) : Int)) : rawA e n left a ≤ m := by
  cases ho : rawOk e n left with
  | true =>
    obtain ⟨-, h1, h2, -, h3, -⟩ := rawOk_yes ho
    rw [h3]; omega
  | false => rw [(rawOk_no ho).2.1]; exact h
theorem rawC_le {L : List Int} {n : Int} {c : Cu} (h : c.a ≤ L.length) : (rawC L n c).a ≤ L.length := rawA_le h rfl
theorem numC_le {L : List Int} {n : Int} {c : Cu} (h : c.a ≤ L.length) : (numC L n c).a ≤ L.length := by
  unfold numC
  cases wideB n
  · exact h
  · exact rawC_le h
theorem flagC_le {L : List Int} {c : Cu} (h : c.a ≤ L.length) : (flagC L c).a ≤ L.length := by
  unfold flagC
  cases ho : rawOk c.e 1 (c.left L) with
  | true =>
    obtain ⟨-, h1, h2, -⟩ := rawOk_yes ho
    cases decide (1 < L.getD c.a 0)
    · simp only [cond_true, cond_false]; simp only [Cu.left] at h2; omega
    · exact h
  | false => exact h
theorem textC_le {L : List Int} {m : Int} {c : Cu} (hb : bytesB L) (h : c.a ≤ L.length) : (textC L m c).a ≤ L.length := by
  unfold textC
  cases ho : rawOk c.e 1 (c.left L) with
  | true =>
    obtain ⟨-, h1, h2, -⟩ := rawOk_yes ho
    cases decide (m < L.getD c.a 0)
    · cases h3 : decide (1 + L.getD c.a 0 ≤ c.left L)
      · exact h
      · simp only [Cu.left] at h2
        simp only [Cu.left, decide_eq_true_eq] at h3
        have hr := hb (L.getD c.a 0) (by rw [getD_get (by omega)]; exact List.getElem_mem _)
        simp only [cond_true, cond_false]
        omega
    · exact h
  | false => exact h
theorem rerr_any (err : Int) : ACall Tryz.prog 25 [.ptr 0 0] [.cells true [I err, .any]] (Det (I err) [.cells true [I err, .any]]) := by
  refine ACall.startA c25_ok Tryz.func25 rfl Tryz.ntmps25 (by kernel_rfl) res25_ok rfl rfl rfl ?_; simp (maxSteps := 9999999) (disch := omega) only [go_sem]
  (have k9 := k0; refine goK ?_; (try clear k9))
  (have k9 := k0; exact Ret.dk [0])
end Go.Proofs.YtopidfkmligljaaGreat
