/- Contracts: a reader's numbers, flags, texts; the document's text. -/
import Derived.Test.YtopidfkmligljaaGreatEg5
import Derived.Test.YtopidfkmligljaaGreatAo10
namespace Go.Proofs.YtopidfkmligljaaGreat
set_option linter.unusedSimpArgs false
set_option linter.unusedVariables false
set_option maxHeartbeats 4000000
open Go Go.Am
set_option maxRecDepth 100000
theorem bA_getD {L : List Int} {a : Nat} (h : a < L.length) : (bA L).getD a .bad = U8 (L.getD a 0) := by
  rw [getD_get h]
  simp [bA, h]
theorem valI_step {l : List Int} (hb : bytesB l) (h8 : l.length ≤ 8) {i : Nat} (hi : i < l.length) : bits .or .u64 (valI (l.take i)) (IntKind.u64.wrap (l.getD i 0 * 2 ^ min (8 * (i : Int)).toNat 64)) = valI (l.take (i + 1)) := by
  have h1 := or_step (valI (l.take i)) (l.getD i 0) i (by omega) (by
    have := valI_lt (bytesB_take hb i)
    rw [List.length_take, Nat.min_eq_left (by omega)] at this
    exact this) (hb _ (by rw [getD_get hi]; exact List.getElem_mem _))
  rw [show (8 * (i : Int)).toNat = 8 * i by omega, h1]
  rw [List.take_succ_eq_append_getElem hi, valI_app, List.length_take, Nat.min_eq_left (by omega), getD_get hi]
theorem rnum_any {L : List Int} (hL : L.length ≤ 1099511627776) (hb : bytesB L) (c : Cu) (ha : c.a ≤ L.length) (w : Int) : ACall Tryz.prog 70 [.ptr 0 0, I w] [RdO 1 c.a L.length c.e, .cells true (bA L)] (Det (U64 (numV L w c)) [RdO 1 (numC L w c).a L.length (numC L w c).e, .cells true (bA L)]) := by
  obtain ⟨a, e⟩ := c
  simp only at ha
  cases hw : wideB w with
  | false =>
    have e1 : numC L w ⟨a, e⟩ = ⟨a, failI e 1⟩ := by simp [numC, hw]
    have e2 : numV L w ⟨a, e⟩ = 0 := by simp [numV, hw]
    have hw' : ¬ (0 < w ∧ w < 9) := by simpa [wideB] using hw
    rw [e1, e2]
    refine ACall.startA c70_ok Tryz.func70 rfl Tryz.ntmps70 (by kernel_rfl) res70_ok rfl rfl rfl ?_; simp (maxSteps := 9999999) (disch := omega) only [go_sem]
    (have k9 := k0; have a1 := Arm.mk [0, 1] (rfail_r a L e 1); (repeat' (first | refine goM ?_ | ((first | refine CondP.split (fun hif => ?_) (fun hif => ?_) | refine Runs.part (fun hif => ?_) (fun hif => ?_)) <;> ((try simp only [BL] at hif); first | (exfalso; omega; done) | refine goI ?_)))); (all_goals (try clear k9)); (all_goals (try clear a1)))
    all_goals (first | (exfalso; omega) | skip)
    all_goals (have k9 := k0; exact Ret.dk [0, 1])
  | true =>
    have hw2 := wideB_yes hw
    have hh := has_any a L hL e w
    rw [← rawE_has (by omega)] at hh
    have hz : (rawE e w (L.length - a : Nat) == 0) = rawOk e w (L.length - a : Nat) := by rw [rawE_has (by omega)]; exact has_ok (by omega)
    have w1 : (w < 1) = False := eq_false (by omega)
    have w2 : (8 < w) = False := eq_false (by omega)
    cases ho : rawOk e w (L.length - a : Nat) with
    | false =>
      have e1 : numC L w ⟨a, e⟩ = ⟨a, rawE e w (L.length - a : Nat)⟩ := by simp [numC, hw, rawC, (rawOk_no ho).2.1]
      have e2 : numV L w ⟨a, e⟩ = 0 := by simp [numV, hw, rawV, (rawOk_no ho).2.2, valI]
      rw [e1, e2]
      rw [hz, ho] at hh
      refine ACall.startA c70_ok Tryz.func70 rfl Tryz.ntmps70 (by kernel_rfl) res70_ok rfl rfl rfl ?_; simp (maxSteps := 9999999) (disch := omega) only [go_sem]
      (have k9 := And.intro @w1 (And.intro @w2 (k0)); have a1 := Arm.mk [0, 1] hh; refine goK ?_; (try clear k9); (try clear a1))
      (have k9 := k0; exact Ret.dk [0, 1])
    | true =>
      obtain ⟨rfl, -, h0, h1, h2, h3⟩ := rawOk_yes ho
      obtain ⟨k, rfl⟩ : ∃ k : Nat, w = (k : Int) := ⟨w.toNat, by omega⟩
      have hl : ((L.drop a).take k).length = k := by simp; omega
      have hlb : bytesB ((L.drop a).take k) := bytesB_take (bytesB_drop hb a) k
      have e1 : numC L k ⟨a, 0⟩ = ⟨a + k, 0⟩ := by simp [numC, hw, rawC, h2, h1]
      have e2 : numV L k ⟨a, 0⟩ = valI ((L.drop a).take k) := by simp [numV, hw, rawV, h3]
      rw [e1, e2]
      rw [hz, ho, h1] at hh
      have ht := take_any a k L hL 0 (by omega)
      generalize (L.drop a).take k = l at *
      refine ACall.startA c70_ok Tryz.func70 rfl Tryz.ntmps70 (by kernel_rfl) res70_ok rfl rfl rfl ?_; simp (maxSteps := 9999999) (disch := omega) only [go_sem]
      (have k9 := And.intro @w1 (And.intro @w2 (k0)); have a1 := Arm.mk [0, 1] hh; have a2 := Arm.mk [0, 1] ht; refine goK ?_; (try clear k9); (try clear a1); (try clear a2))
      (apply AWpA.loopL (fun i : Nat => [(5, U64 (valI (l.take i))), (24, .sl 2 0 k 1 none), (25, I k), (26, I i)]) (fun _ => [RdO 1 (a + k) L.length 0, .cells true (bA L), .cells false (bA l)]) (fun i => k - i) (fun i => i ≤ k) (0) [0, 1, _]; rotate_left; (focus (simp (maxSteps := 9999999) (disch := omega) only [go_sem, List.take_zero, valI]; (try (repeat' (first | done | trivial | rfl | exact leAs_rfl _ | decide | (refine And.intro ?_ ?_) | (simp; done) | omega | (simp; decide)))))); rotate_right)
      · exact Nat.zero_le _
      rintro i hi
      (try simp only at hi)
      by_cases hik : i < k
      · have hx := bA_getD (show i < l.length by omega)
        have hs := valI_step hlb (by omega) (show i < l.length by omega)
        have hr := hlb (l.getD i 0) (by rw [getD_get (by omega)]; exact List.getElem_mem _)
        generalize l.getD i 0 = x at *
        (try simp (maxSteps := 9999999) (disch := omega) only [go_sem])
        (have k9 := And.intro @hx (And.intro @hs (And.intro @hl (k0))); (repeat' (first | refine goM ?_ | ((first | refine CondP.split (fun hif => ?_) (fun hif => ?_) | refine Runs.part (fun hif => ?_) (fun hif => ?_)) <;> ((try simp only [BL] at hif); first | (exfalso; omega; done) | refine goI ?_)))); (all_goals (try clear k9)))
        all_goals (first | (exfalso; omega) | skip)
        (have k9 := k0; refine Back.tk (i + 1) [0, 1, 2] ?_)
        all_goals omega
      · obtain rfl : i = k := by omega
        rw [List.take_of_length_le (by omega)]
        (try simp (maxSteps := 9999999) (disch := omega) only [go_sem])
        (have k9 := k0; (repeat' (first | refine goM ?_ | ((first | refine CondP.split (fun hif => ?_) (fun hif => ?_) | refine Runs.part (fun hif => ?_) (fun hif => ?_)) <;> ((try simp only [BL] at hif); first | (exfalso; omega; done) | refine goI ?_)))); (all_goals (try clear k9)))
        all_goals (first | (exfalso; omega) | skip)
        all_goals (have k9 := k0; exact Ret.dk [0, 1])
theorem rflag_any {L : List Int} (hL : L.length ≤ 1099511627776) (c : Cu) (ha : c.a ≤ L.length) : ACall Tryz.prog 66 [.ptr 0 0] [RdO 1 c.a L.length c.e, .cells true (bA L)] (Det (Bo (flagV L c)) [RdO 1 (flagC L c).a L.length (flagC L c).e, .cells true (bA L)]) := by
  obtain ⟨a, e⟩ := c
  simp only at ha
  have hh := has_any a L hL e 1
  rw [← rawE_has (by omega)] at hh
  have hz : (rawE e 1 (L.length - a : Nat) == 0) = rawOk e 1 (L.length - a : Nat) := by rw [rawE_has (by omega)]; exact has_ok (by omega)
  cases ho : rawOk e 1 (L.length - a : Nat) with
  | false =>
    have e1 : flagC L ⟨a, e⟩ = ⟨a, rawE e 1 (L.length - a : Nat)⟩ := by simp [flagC, ho]
    have e2 : flagV L ⟨a, e⟩ = false := by simp [flagV, ho]
    rw [e1, e2]
    rw [hz, ho] at hh
    refine ACall.startA c66_ok Tryz.func66 rfl Tryz.ntmps66 (by kernel_rfl) res66_ok rfl rfl rfl ?_; simp (maxSteps := 9999999) (disch := omega) only [go_sem]
    (have k9 := k0; have a1 := Arm.mk [0, 1] hh; refine goK ?_; (try clear k9); (try clear a1))
    (have k9 := k0; exact Ret.dk [0, 1])
  | true =>
    obtain ⟨rfl, -, h0, h1, h2, h3⟩ := rawOk_yes ho
    have hal : a < L.length := by omega
    have hx := bA_getD hal
    rw [hz, ho, h1] at hh
    have h01 : (0 < L.length - a) = True := eq_true (by omega)
    by_cases h : 1 < L.getD a 0
    · have e1 : flagC L ⟨a, 0⟩ = ⟨a, 4⟩ := by simp only [flagC, ho, decide_eq_true h, cond_true]
      have e2 : flagV L ⟨a, 0⟩ = false := by
        have : (L.getD a 0 == 1) = false := by simpa using (show ¬ L.getD a 0 = 1 by omega)
        simp only [flagV, this, Bool.and_false]
      rw [e1, e2]
      generalize L.getD a 0 = x at *
      refine ACall.startA c66_ok Tryz.func66 rfl Tryz.ntmps66 (by kernel_rfl) res66_ok rfl rfl rfl ?_; simp (maxSteps := 9999999) (disch := omega) only [go_sem]
      (have k9 := And.intro @hx (And.intro (eq_true h) (And.intro @h01 (k0))); have a1 := Arm.mk [0, 1] hh; have a2 := Arm.mk [0, 1] (rfail_r a L 0 4); refine goK ?_; (try clear k9); (try clear a1); (try clear a2))
      (have k9 := k0; exact Ret.dk [0, 1])
    · have e1 : flagC L ⟨a, 0⟩ = ⟨a + 1, 0⟩ := by simp only [flagC, ho, decide_eq_false h, cond_true, cond_false]
      have e2 : flagV L ⟨a, 0⟩ = (L.getD a 0 == 1) := by simp only [flagV, ho, Bool.true_and]
      rw [e1, e2]
      have ht := take_any a 1 L hL 0 (by omega)
      have hy : (bA ((L.drop a).take 1)).getD 0 .bad = U8 (L.getD a 0) := by
        rw [bA_getD (by simp; omega)]
        simp
      have hyl : ((L.drop a).take 1).length = 1 := by simp; omega
      generalize (L.drop a).take 1 = l at *
      generalize L.getD a 0 = x at *
      refine ACall.startA c66_ok Tryz.func66 rfl Tryz.ntmps66 (by kernel_rfl) res66_ok rfl rfl rfl ?_; simp (maxSteps := 9999999) (disch := omega) only [go_sem]
      (have k9 := And.intro @hx (And.intro @hy (And.intro @hyl (And.intro (eq_false h) (And.intro @h01 (k0))))); have a1 := Arm.mk [0, 1] hh; have a2 := Arm.mk [0, 1] ht; refine goK ?_; (try clear k9); (try clear a1); (try clear a2))
      (have k9 := k0; exact Ret.dk [0, 1])
end Go.Proofs.YtopidfkmligljaaGreat
