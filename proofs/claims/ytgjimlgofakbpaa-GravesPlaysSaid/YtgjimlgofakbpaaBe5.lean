/- Made by wip/gen_te.py: the same contracts for Table[api.Entry]. -/
import Derived.Test.YtgjimlgofakbpaaBe4
namespace Go.Proofs.Ytgjimlgofakbpaa.Ue
set_option linter.unusedSimpArgs false
set_option linter.unusedVariables false
set_option maxHeartbeats 4000000
open Go Go.Am Go.RowKit
set_option maxRecDepth 100000
/- quidnunc/table.New[quidnunc/api.Entry] -/
noncomputable def c62_1 : ACode := .region false [⟨some 2, .move, [.c (.val (.pointer none))], none⟩,
  ⟨some 3, .move, [.c (.val (.int .i64 0))], none⟩] [] [] [0] false [] []
noncomputable def c62_4 : ACode := .region false [⟨some 4, .move, [.t 0], none⟩,
  ⟨some 5, .bin .lss, [.t 4, .c (.val (.int .i64 1))], none⟩,
  ⟨some 6, .move, [.t 5], none⟩,
  ⟨some 7, .move, [.t 0], some (some 6, false)⟩,
  ⟨some 8, .bin .gtr, [.t 7, .c (.val (.int .i64 4096))], some (some 6, false)⟩,
  ⟨some 9, .pick, [.t 6, .c (.val (.bool true)), .t 8], none⟩] [] [] [0, 9] false [] []
noncomputable def c62_7 : ACode := .region false [⟨some 2, .move, [.c (.val (.pointer none))], none⟩,
  ⟨some 3, .move, [.c (.val (.int .i64 1))], none⟩] [] [] [2, 3] false [] []
noncomputable def c62_6 : ACode := .seq c62_7 .ret
noncomputable def c62_5 : ACode := .cond (.t 9) c62_6 .skip
noncomputable def c62_3 : ACode := .seq c62_4 c62_5
noncomputable def c62_9 : ACode := .region false [⟨some 10, .move, [.t 0], none⟩,
  ⟨some 11, .build [(.int .i64 0), (.slice none 0 0)] [(0, 1)], [.t 10], none⟩,
  ⟨some 12, .box 0, [.t 11], none⟩,
  ⟨some 2, .move, [.t 12], none⟩,
  ⟨some 3, .move, [.c (.val (.int .i64 0))], none⟩] [] [] [2, 3] true [] []
noncomputable def c62_8 : ACode := .seq c62_9 .ret
noncomputable def c62_2 : ACode := .seq c62_3 c62_8
noncomputable def c62_0 : ACode := .seq c62_1 c62_2
noncomputable def code62 : Code := (Try.f62.body).getD .skip
theorem c62_ok : compC Try.prog 13 code62 = some (strip c62_0) := by kernel_rfl
theorem res62_ok : Try.f62.results.toList.mapM (resC Try.prog) = some [(2, none), (3, none)] := by kernel_rfl
theorem tnew_bad (r : Int) (h : r < 1 ∨ 4096 < r) : ACall Try.prog 62 [I r] [] (Det (.tup [.val (.pointer none), I 1]) []) := by
  by_cases h1 : r < 1
  · have g1 : (r < 1) = True := eq_true h1
    refine ACall.startA c62_ok Try.func62 rfl Try.ntmps62 (by kernel_rfl) res62_ok rfl rfl rfl ?_; simp (maxSteps := 9999999) (disch := omega) only [go_sem]
    (repeat' (first | refine AWpA.seq ?_ | refine AWpA.block ?_ | (with_reducible refine CondP.tt ?_) | (with_reducible refine CondP.ff ?_) | refine AWpA.condv (by simp (maxSteps := 9999999) (disch := omega) only [go_sem, g1]; rfl) ?_ | ((first | (apply AWpA.region; (focus (simp (maxSteps := 9999999) (disch := omega) only [go_sem, g1]; rfl))) | (apply AWpA.draw [] [] follows; (focus (first | rfl | decide)); (focus (simp (maxSteps := 9999999) (disch := omega) only [go_sem, g1]; rfl)); (focus (simp (maxSteps := 9999999) (disch := omega) only [go_sem, g1]; first | done | trivial)); (focus (simp (maxSteps := 9999999) (disch := omega) only [go_sem, g1]; rfl))) | (apply TailK.go; (focus (simp (maxSteps := 9999999) (disch := omega) only [go_sem, g1]; rfl))) | refine AWpA.skip ?_ | refine AWpA.exit ?_ | refine AWpA.ret ?_ | (with_reducible refine ARoundsA.succ ?_) | ((first | refine Runs.kt (by assumption) (fun h9 => ?_) | refine Runs.kf (by assumption) (fun h9 => ?_) | refine Runs.nt (by assumption) (fun h9 => ?_) | refine Runs.nf (by assumption) (fun h9 => ?_) | refine CondP.ht (by assumption) (fun h9 => ?_) | refine CondP.hf (by assumption) (fun h9 => ?_) | refine CondP.nt (by assumption) (fun h9 => ?_) | refine CondP.nf (by assumption) (fun h9 => ?_)); (try simp only [h9]); clear h9)); (try simp (maxSteps := 9999999) (disch := omega) only [go_sem, g1]); (try (refine And.intro ?_ ?_; (focus (first | omega | (simp only [go_sem]; done) | (simp; done) | (simp; omega) | assumption))))) | ((first | refine CondP.split (fun hif => ?_) (fun hif => ?_) | refine Runs.part (fun hif => ?_) (fun hif => ?_)) <;> ((try simp only [hif]); (try simp only [decide_eq_true_eq, decide_eq_false_iff_not, Bool.not_eq_true, Bool.not_eq_false, Bool.not_eq_true', Bool.not_eq_false', beq_iff_eq, bne_iff_ne, bne_eq_false_iff_eq, beq_eq_false_iff_ne, ne_eq, Bool.and_eq_true, Bool.or_eq_true, Bool.or_eq_false_iff] at hif); (try (have h9 : _ = true := hif; simp only [h9])); (try (have h9 : _ = false := hif; simp only [h9])); (try simp (maxSteps := 9999999) (disch := omega) only [go_sem, g1]); (try (refine And.intro ?_ ?_; (focus (first | omega | (simp only [go_sem]; done) | (simp; done) | (simp; omega) | assumption)))); (try (exfalso; omega; done))))))
    (apply Ret.det []; (focus (first | exact .inl rfl | exact .inr rfl)); (focus (simp (maxSteps := 9999999) (disch := omega) only [go_sem]; rfl)); (simp (maxSteps := 9999999) (disch := omega) only [go_sem]; (try (repeat' (first | done | trivial | rfl | exact leAs_rfl _ | decide | (refine And.intro ?_ ?_) | (simp; done) | omega | (simp; decide))))))
  · have g1 : (r < 1) = False := eq_false h1
    have g2 : (4096 < r) = True := eq_true (by omega)
    refine ACall.startA c62_ok Try.func62 rfl Try.ntmps62 (by kernel_rfl) res62_ok rfl rfl rfl ?_; simp (maxSteps := 9999999) (disch := omega) only [go_sem]
    (repeat' (first | refine AWpA.seq ?_ | refine AWpA.block ?_ | (with_reducible refine CondP.tt ?_) | (with_reducible refine CondP.ff ?_) | refine AWpA.condv (by simp (maxSteps := 9999999) (disch := omega) only [go_sem, g1, g2]; rfl) ?_ | ((first | (apply AWpA.region; (focus (simp (maxSteps := 9999999) (disch := omega) only [go_sem, g1, g2]; rfl))) | (apply AWpA.draw [] [] follows; (focus (first | rfl | decide)); (focus (simp (maxSteps := 9999999) (disch := omega) only [go_sem, g1, g2]; rfl)); (focus (simp (maxSteps := 9999999) (disch := omega) only [go_sem, g1, g2]; first | done | trivial)); (focus (simp (maxSteps := 9999999) (disch := omega) only [go_sem, g1, g2]; rfl))) | (apply TailK.go; (focus (simp (maxSteps := 9999999) (disch := omega) only [go_sem, g1, g2]; rfl))) | refine AWpA.skip ?_ | refine AWpA.exit ?_ | refine AWpA.ret ?_ | (with_reducible refine ARoundsA.succ ?_) | ((first | refine Runs.kt (by assumption) (fun h9 => ?_) | refine Runs.kf (by assumption) (fun h9 => ?_) | refine Runs.nt (by assumption) (fun h9 => ?_) | refine Runs.nf (by assumption) (fun h9 => ?_) | refine CondP.ht (by assumption) (fun h9 => ?_) | refine CondP.hf (by assumption) (fun h9 => ?_) | refine CondP.nt (by assumption) (fun h9 => ?_) | refine CondP.nf (by assumption) (fun h9 => ?_)); (try simp only [h9]); clear h9)); (try simp (maxSteps := 9999999) (disch := omega) only [go_sem, g1, g2]); (try (refine And.intro ?_ ?_; (focus (first | omega | (simp only [go_sem]; done) | (simp; done) | (simp; omega) | assumption))))) | ((first | refine CondP.split (fun hif => ?_) (fun hif => ?_) | refine Runs.part (fun hif => ?_) (fun hif => ?_)) <;> ((try simp only [hif]); (try simp only [decide_eq_true_eq, decide_eq_false_iff_not, Bool.not_eq_true, Bool.not_eq_false, Bool.not_eq_true', Bool.not_eq_false', beq_iff_eq, bne_iff_ne, bne_eq_false_iff_eq, beq_eq_false_iff_ne, ne_eq, Bool.and_eq_true, Bool.or_eq_true, Bool.or_eq_false_iff] at hif); (try (have h9 : _ = true := hif; simp only [h9])); (try (have h9 : _ = false := hif; simp only [h9])); (try simp (maxSteps := 9999999) (disch := omega) only [go_sem, g1, g2]); (try (refine And.intro ?_ ?_; (focus (first | omega | (simp only [go_sem]; done) | (simp; done) | (simp; omega) | assumption)))); (try (exfalso; omega; done))))))
    (apply Ret.det []; (focus (first | exact .inl rfl | exact .inr rfl)); (focus (simp (maxSteps := 9999999) (disch := omega) only [go_sem]; rfl)); (simp (maxSteps := 9999999) (disch := omega) only [go_sem]; (try (repeat' (first | done | trivial | rfl | exact leAs_rfl _ | decide | (refine And.intro ?_ ?_) | (simp; done) | omega | (simp; decide))))))
theorem tnew_ok (r : Int) (h : ¬ (r < 1 ∨ 4096 < r)) : ACall Try.prog 62 [I r] [] (Det (.tup [.ptr 0 0, I 0]) [.cells false [I r, .val (.slice none 0 0)]]) := by
  have g1 : (r < 1) = False := eq_false (by omega)
  have g2 : (4096 < r) = False := eq_false (by omega)
  refine ACall.startA c62_ok Try.func62 rfl Try.ntmps62 (by kernel_rfl) res62_ok rfl rfl rfl ?_; simp (maxSteps := 9999999) (disch := omega) only [go_sem]
  (repeat' (first | refine AWpA.seq ?_ | refine AWpA.block ?_ | (with_reducible refine CondP.tt ?_) | (with_reducible refine CondP.ff ?_) | refine AWpA.condv (by simp (maxSteps := 9999999) (disch := omega) only [go_sem, g1, g2]; rfl) ?_ | ((first | (apply AWpA.region; (focus (simp (maxSteps := 9999999) (disch := omega) only [go_sem, g1, g2]; rfl))) | (apply AWpA.draw [] [] follows; (focus (first | rfl | decide)); (focus (simp (maxSteps := 9999999) (disch := omega) only [go_sem, g1, g2]; rfl)); (focus (simp (maxSteps := 9999999) (disch := omega) only [go_sem, g1, g2]; first | done | trivial)); (focus (simp (maxSteps := 9999999) (disch := omega) only [go_sem, g1, g2]; rfl))) | (apply TailK.go; (focus (simp (maxSteps := 9999999) (disch := omega) only [go_sem, g1, g2]; rfl))) | refine AWpA.skip ?_ | refine AWpA.exit ?_ | refine AWpA.ret ?_ | (with_reducible refine ARoundsA.succ ?_) | ((first | refine Runs.kt (by assumption) (fun h9 => ?_) | refine Runs.kf (by assumption) (fun h9 => ?_) | refine Runs.nt (by assumption) (fun h9 => ?_) | refine Runs.nf (by assumption) (fun h9 => ?_) | refine CondP.ht (by assumption) (fun h9 => ?_) | refine CondP.hf (by assumption) (fun h9 => ?_) | refine CondP.nt (by assumption) (fun h9 => ?_) | refine CondP.nf (by assumption) (fun h9 => ?_)); (try simp only [h9]); clear h9)); (try simp (maxSteps := 9999999) (disch := omega) only [go_sem, g1, g2]); (try (refine And.intro ?_ ?_; (focus (first | omega | (simp only [go_sem]; done) | (simp; done) | (simp; omega) | assumption))))) | ((first | refine CondP.split (fun hif => ?_) (fun hif => ?_) | refine Runs.part (fun hif => ?_) (fun hif => ?_)) <;> ((try simp only [hif]); (try simp only [decide_eq_true_eq, decide_eq_false_iff_not, Bool.not_eq_true, Bool.not_eq_false, Bool.not_eq_true', Bool.not_eq_false', beq_iff_eq, bne_iff_ne, bne_eq_false_iff_eq, beq_eq_false_iff_ne, ne_eq, Bool.and_eq_true, Bool.or_eq_true, Bool.or_eq_false_iff] at hif); (try (have h9 : _ = true := hif; simp only [h9])); (try (have h9 : _ = false := hif; simp only [h9])); (try simp (maxSteps := 9999999) (disch := omega) only [go_sem, g1, g2]); (try (refine And.intro ?_ ?_; (focus (first | omega | (simp only [go_sem]; done) | (simp; done) | (simp; omega) | assumption)))); (try (exfalso; omega; done))))))
  (apply Ret.det [_]; (focus (first | exact .inl rfl | exact .inr rfl)); (focus (simp (maxSteps := 9999999) (disch := omega) only [go_sem]; rfl)); (simp (maxSteps := 9999999) (disch := omega) only [go_sem]; (try (repeat' (first | done | trivial | rfl | exact leAs_rfl _ | decide | (refine And.intro ?_ ?_) | (simp; done) | omega | (simp; decide))))))
theorem lt_rank {l : List Pi} (hs : Rise l) (k : ByteArray) : ∀ (i : Nat) (h : i < l.length), ltK l[i].key k = decide (i < rankP l k) := by
  induction l with
  | nil => intro i h; simp at h
  | cons p l ih =>
    intro i h
    have hs' : Rise l := (List.pairwise_cons.1 hs).2
    cases hp : ltK p.key k with
    | true =>
      have e : rankP (p :: l) k = rankP l k + 1 := by simp [rankP, List.takeWhile_cons, hp]
      rw [e]
      cases i with
      | zero => simp [hp]
      | succ i =>
        have := ih hs' i (by simpa using h)
        simp only [List.getElem_cons_succ, this]
        congr 1
        simp
    | false =>
      have e : rankP (p :: l) k = 0 := by simp [rankP, List.takeWhile_cons, hp]
      rw [e]
      cases i with
      | zero => simp [hp]
      | succ i =>
        have hi : i < l.length := by simpa using h
        have h2 : ltK p.key l[i].key = true := (List.pairwise_cons.1 hs).1 _ (List.getElem_mem hi)
        simp only [List.getElem_cons_succ]
        cases h3 : ltK l[i].key k with
        | false => simp
        | true => rw [ltK_trans h2 h3] at hp; cases hp
theorem rank_at {l : List Pi} (hs : Rise l) {i : Nat} (h : i < l.length) : rankP l l[i].key = i := by
  refine rankP_eq (by omega) (fun q hq hqi => hs.lt hq h hqi) (fun q hq hiq => ?_)
  cases e : ltK l[q].key l[i].key with
  | false => rfl
  | true =>
    rcases Nat.lt_or_eq_of_le hiq with h' | h'
    · have := ltK_trans (hs.lt h hq h') e
      rw [ltK_irr] at this; cases this
    · subst h'; rw [ltK_irr] at e; cases e
theorem has_at {l : List Pi} (hs : Rise l) {i : Nat} (h : i < l.length) : hasP' l l[i].key = true := by
  unfold hasP'
  rw [rank_at hs h, List.getElem?_eq_getElem h]
  simp
theorem rise_drop {l : List Pi} (h : Rise l) (k : ByteArray) : Rise (dropP l k) := by
  unfold dropP
  split
  · rw [← List.eraseIdx_eq_take_drop_succ]; exact List.Pairwise.sublist (List.eraseIdx_sublist _ _) h
  · exact h
theorem rise_put {l : List Pi} (h : Rise l) (k : ByteArray) (v : En) : Rise (putP l k v) := by
  have hta : ∀ a ∈ l.take (rankP l k), ltK a.key k = true := fun a ha => by
    obtain ⟨q, hq, rfl⟩ := List.getElem_of_mem ha
    have hq1 : q < rankP l k := by simp at hq; omega
    have hq2 : q < l.length := by simp at hq; omega
    rw [List.getElem_take, lt_rank h k q hq2]; simpa using hq1
  have hcut : ∀ m, (∀ b ∈ l.drop m, ltK k b.key = true) → rankP l k ≤ m → Rise (l.take (rankP l k) ++ ⟨k, v⟩ :: l.drop m) := fun m hb hm => by
    unfold Rise
    rw [List.pairwise_append, List.pairwise_cons]
    refine ⟨List.Pairwise.sublist (List.take_sublist _ _) h, ⟨hb, List.Pairwise.sublist (List.drop_sublist _ _) h⟩, fun a ha b hb' => ?_⟩
    rcases List.mem_cons.1 hb' with rfl | hb'
    · exact hta a ha
    · exact ltK_trans (hta a ha) (hb b hb')
  have hgt : ∀ q (hq : q < l.length), rankP l k ≤ q → l[q].key ≠ k → ltK k l[q].key = true := fun q hq hrq hne => by
    cases e : ltK k l[q].key with
    | true => rfl
    | false =>
      have e2 := lt_rank h k q hq
      rw [decide_eq_false (by omega)] at e2
      exact absurd (ltK_tri e2 e) hne
  have hne : ∀ q (hq : q < l.length), l[q].key = k → rankP l k = q := fun q hq e => by rw [← e]; exact rank_at h hq
  unfold putP
  split
  · refine hcut _ (fun b hb => ?_) (by omega)
    obtain ⟨q, hq, rfl⟩ := List.getElem_of_mem hb
    have hq2 : rankP l k + 1 + q < l.length := by simp at hq; omega
    rw [List.getElem_drop]
    exact hgt _ hq2 (by omega) fun e => by have := hne _ hq2 e; omega
  · rename_i hh
    refine hcut _ (fun b hb => ?_) (Nat.le_refl _)
    obtain ⟨q, hq, rfl⟩ := List.getElem_of_mem hb
    have hq2 : rankP l k + q < l.length := by simp at hq; omega
    rw [List.getElem_drop]
    refine hgt _ hq2 (by omega) fun e => ?_
    have h1 := has_at h hq2
    rw [e] at h1
    rw [h1] at hh; cases hh
theorem drop_at {l : List Pi} (h : Rise l) {i : Nat} (hi : i < l.length) : dropP l l[i].key = l.take i ++ l.drop (i + 1) := by
  unfold dropP
  rw [has_at h hi, rank_at h hi]
theorem rank_back {l : List Pi} (h : Rise l) {i : Nat} (hi : i < l.length) : rankP (l.take i ++ l.drop (i + 1)) l[i].key = i := by
  refine rankP_eq (by simp; omega) (fun q hq hqi => ?_) (fun q hq hqi => ?_)
  · rw [List.getElem_append_left (by simp; omega), List.getElem_take]
    exact h.lt (by omega) hi hqi
  · rw [List.getElem_append_right (by simp; omega), List.getElem_drop]
    have hq2 : i + 1 + (q - (l.take i).length) < l.length := by simp at hq ⊢; omega
    exact ltK_asym (h.lt hi hq2 (by omega))
theorem has_back {l : List Pi} (h : Rise l) {i : Nat} (hi : i < l.length) : hasP' (l.take i ++ l.drop (i + 1)) l[i].key = false := by
  unfold hasP'
  rw [rank_back h hi]
  split
  · rename_i p hp
    rw [List.getElem?_append_right (by simp; omega), List.getElem?_drop] at hp
    obtain ⟨hq, rfl⟩ := List.getElem?_eq_some_iff.1 hp
    have hlt := h.lt hi hq (by omega)
    rw [decide_eq_false]
    intro e
    rw [e, ltK_irr] at hlt
    cases hlt
  · rfl
end Go.Proofs.Ytgjimlgofakbpaa.Ue
