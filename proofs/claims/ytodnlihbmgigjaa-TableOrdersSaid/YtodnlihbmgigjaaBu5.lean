/- Made by wip/gen_ts.py: the same contracts for Table[string]. -/
import Derived.Test.YtodnlihbmgigjaaBu4
import Derived.Test.YtodnlihbmgigjaaBt9
namespace Go.Proofs.Ytodnlihbmgigjaa.Us
set_option linter.unusedSimpArgs false
set_option linter.unusedVariables false
set_option maxHeartbeats 4000000
open Go Go.Am Go.RowKit
set_option maxRecDepth 100000
/- quidnunc/table.New[string] -/
noncomputable def c8_1 : ACode := .region false [⟨some 2, .move, [.c (.val (.pointer none))], none⟩,
  ⟨some 3, .move, [.c (.val (.int .i64 0))], none⟩] [] [] [0] false [] []
noncomputable def c8_4 : ACode := .region false [⟨some 4, .move, [.t 0], none⟩,
  ⟨some 5, .bin .lss, [.t 4, .c (.val (.int .i64 1))], none⟩,
  ⟨some 6, .move, [.t 5], none⟩,
  ⟨some 7, .move, [.t 0], some (some 6, false)⟩,
  ⟨some 8, .bin .gtr, [.t 7, .c (.val (.int .i64 4096))], some (some 6, false)⟩,
  ⟨some 9, .pick, [.t 6, .c (.val (.bool true)), .t 8], none⟩] [] [] [0, 9] false [] []
noncomputable def c8_7 : ACode := .region false [⟨some 2, .move, [.c (.val (.pointer none))], none⟩,
  ⟨some 3, .move, [.c (.val (.int .i64 1))], none⟩] [] [] [2, 3] false [] []
noncomputable def c8_6 : ACode := .seq c8_7 .ret
noncomputable def c8_5 : ACode := .cond (.t 9) c8_6 .skip
noncomputable def c8_3 : ACode := .seq c8_4 c8_5
noncomputable def c8_9 : ACode := .region false [⟨some 10, .move, [.t 0], none⟩,
  ⟨some 11, .build [(.int .i64 0), (.slice none 0 0)] [(0, 1)], [.t 10], none⟩,
  ⟨some 12, .box 0, [.t 11], none⟩,
  ⟨some 2, .move, [.t 12], none⟩,
  ⟨some 3, .move, [.c (.val (.int .i64 0))], none⟩] [] [] [2, 3] true [] []
noncomputable def c8_8 : ACode := .seq c8_9 .ret
noncomputable def c8_2 : ACode := .seq c8_3 c8_8
noncomputable def c8_0 : ACode := .seq c8_1 c8_2
noncomputable def code8 : Code := (Try.f8.body).getD .skip
theorem c8_ok : compC Try.prog 13 code8 = some (strip c8_0) := by kernel_rfl
theorem res8_ok : Try.f8.results.toList.mapM (resC Try.prog) = some [(2, none), (3, none)] := by kernel_rfl
theorem tnew_ok (r : Int) (h : ¬ (r < 1 ∨ 4096 < r)) : ACall Try.prog 8 [I r] [] (Det (.tup [.ptr 0 0, I 0]) [.cells false [I r, .val (.slice none 0 0)]]) := by
  have g1 : (r < 1) = False := eq_false (by omega)
  have g2 : (4096 < r) = False := eq_false (by omega)
  refine ACall.startA c8_ok Try.func8 rfl Try.ntmps8 (by kernel_rfl) res8_ok rfl rfl rfl ?_; simp (maxSteps := 9999999) (disch := omega) only [go_sem]
  (repeat' (first | refine AWpA.seq ?_ | refine AWpA.block ?_ | (with_reducible refine CondP.tt ?_) | (with_reducible refine CondP.ff ?_) | refine AWpA.condv (by simp (maxSteps := 9999999) (disch := omega) only [go_sem, g1, g2]; rfl) ?_ | ((first | (apply AWpA.region; (focus (simp (maxSteps := 9999999) (disch := omega) only [go_sem, g1, g2]; rfl))) | (apply AWpA.draw [] [] follows; (focus (first | rfl | decide)); (focus (simp (maxSteps := 9999999) (disch := omega) only [go_sem, g1, g2]; rfl)); (focus (simp (maxSteps := 9999999) (disch := omega) only [go_sem, g1, g2]; first | done | trivial)); (focus (simp (maxSteps := 9999999) (disch := omega) only [go_sem, g1, g2]; rfl))) | (apply TailK.go; (focus (simp (maxSteps := 9999999) (disch := omega) only [go_sem, g1, g2]; rfl))) | refine AWpA.skip ?_ | refine AWpA.exit ?_ | refine AWpA.ret ?_ | (with_reducible refine ARoundsA.succ ?_) | ((first | refine Runs.kt (by assumption) (fun h9 => ?_) | refine Runs.kf (by assumption) (fun h9 => ?_) | refine Runs.nt (by assumption) (fun h9 => ?_) | refine Runs.nf (by assumption) (fun h9 => ?_) | refine CondP.ht (by assumption) (fun h9 => ?_) | refine CondP.hf (by assumption) (fun h9 => ?_) | refine CondP.nt (by assumption) (fun h9 => ?_) | refine CondP.nf (by assumption) (fun h9 => ?_)); (try simp only [h9]); clear h9)); (try simp (maxSteps := 9999999) (disch := omega) only [go_sem, g1, g2]); (try (refine And.intro ?_ ?_; (focus (first | omega | (simp only [go_sem]; done) | (simp; done) | (simp; omega) | assumption))))) | ((first | refine CondP.split (fun hif => ?_) (fun hif => ?_) | refine Runs.part (fun hif => ?_) (fun hif => ?_)) <;> ((try simp only [hif]); (try simp only [decide_eq_true_eq, decide_eq_false_iff_not, Bool.not_eq_true, Bool.not_eq_false, Bool.not_eq_true', Bool.not_eq_false', beq_iff_eq, bne_iff_ne, bne_eq_false_iff_eq, beq_eq_false_iff_ne, ne_eq, Bool.and_eq_true, Bool.or_eq_true, Bool.or_eq_false_iff] at hif); (try (have h9 : _ = true := hif; simp only [h9])); (try (have h9 : _ = false := hif; simp only [h9])); (try simp (maxSteps := 9999999) (disch := omega) only [go_sem, g1, g2]); (try (refine And.intro ?_ ?_; (focus (first | omega | (simp only [go_sem]; done) | (simp; done) | (simp; omega) | assumption)))); (try (exfalso; omega; done))))))
  (apply Ret.det [_]; (focus (first | exact .inl rfl | exact .inr rfl)); (focus (simp (maxSteps := 9999999) (disch := omega) only [go_sem]; rfl)); (simp (maxSteps := 9999999) (disch := omega) only [go_sem]; (try (repeat' (first | done | trivial | rfl | exact leAs_rfl _ | decide | (refine And.intro ?_ ?_) | (simp; done) | omega | (simp; decide))))))
theorem lt_rank {l : List Pi} (hs : Rise l) (k : ByteArray) : ∀ (i : Nat) (h : i < l.length), ltK l[i].key k = decide (i < rankP l k) := by
  induction l with
  | nil => intro i h; simp at h
  | cons p l ih =>
    intro i h
    have hs' : Rise l := (List.pairwise_cons.1 hs).2
    cases hp : ltK p.key k with
    | true =>
      have e : rankP (p :: l) k = rankP l k + 1 := by simp [rankP, List.takeWhile_cons, hp]
      rw [e]
      cases i with
      | zero => simp [hp]
      | succ i =>
        have := ih hs' i (by simpa using h)
        simp only [List.getElem_cons_succ, this]
        congr 1
        simp
    | false =>
      have e : rankP (p :: l) k = 0 := by simp [rankP, List.takeWhile_cons, hp]
      rw [e]
      cases i with
      | zero => simp [hp]
      | succ i =>
        have hi : i < l.length := by simpa using h
        have h2 : ltK p.key l[i].key = true := (List.pairwise_cons.1 hs).1 _ (List.getElem_mem hi)
        simp only [List.getElem_cons_succ]
        cases h3 : ltK l[i].key k with
        | false => simp
        | true => rw [ltK_trans h2 h3] at hp; cases hp
theorem rank_at {l : List Pi} (hs : Rise l) {i : Nat} (h : i < l.length) : rankP l l[i].key = i := by
  refine rankP_eq (by omega) (fun q hq hqi => hs.lt hq h hqi) (fun q hq hiq => ?_)
  cases e : ltK l[q].key l[i].key with
  | false => rfl
  | true =>
    rcases Nat.lt_or_eq_of_le hiq with h' | h'
    · have := ltK_trans (hs.lt h hq h') e
      rw [ltK_irr] at this; cases this
    · subst h'; rw [ltK_irr] at e; cases e
theorem has_at {l : List Pi} (hs : Rise l) {i : Nat} (h : i < l.length) : hasP' l l[i].key = true := by
  unfold hasP'
  rw [rank_at hs h, List.getElem?_eq_getElem h]
  simp
theorem rp_k (l : List Pi) (i : Nat) (hi : i < l.length) : (Rp 0 l).getD (i * 2) AV.bad = .val (.string l[i].key) := by
  have hX := rp_lenT l i (by omega)
  rw [rp_split l i hi, List.getD_eq_getElem?_getD, List.append_assoc, List.getElem?_append_right (by omega), hX, Nat.sub_self]
  rfl

theorem rise_put {l : List Pi} (h : Rise l) (k : ByteArray) (v : ByteArray) : Rise (putP l k v) := by
  have hta : ∀ a ∈ l.take (rankP l k), ltK a.key k = true := fun a ha => by
    obtain ⟨q, hq, rfl⟩ := List.getElem_of_mem ha
    have hq1 : q < rankP l k := by simp at hq; omega
    have hq2 : q < l.length := by simp at hq; omega
    rw [List.getElem_take, lt_rank h k q hq2]; simpa using hq1
  have hcut : ∀ m, (∀ b ∈ l.drop m, ltK k b.key = true) → rankP l k ≤ m → Rise (l.take (rankP l k) ++ ⟨k, v⟩ :: l.drop m) := fun m hb hm => by
    unfold Rise
    rw [List.pairwise_append, List.pairwise_cons]
    refine ⟨List.Pairwise.sublist (List.take_sublist _ _) h, ⟨hb, List.Pairwise.sublist (List.drop_sublist _ _) h⟩, fun a ha b hb' => ?_⟩
    rcases List.mem_cons.1 hb' with rfl | hb'
    · exact hta a ha
    · exact ltK_trans (hta a ha) (hb b hb')
  have hgt : ∀ q (hq : q < l.length), rankP l k ≤ q → l[q].key ≠ k → ltK k l[q].key = true := fun q hq hrq hne => by
    cases e : ltK k l[q].key with
    | true => rfl
    | false =>
      have e2 := lt_rank h k q hq
      rw [decide_eq_false (by omega)] at e2
      exact absurd (ltK_tri e2 e) hne
  have hne : ∀ q (hq : q < l.length), l[q].key = k → rankP l k = q := fun q hq e => by rw [← e]; exact rank_at h hq
  unfold putP
  split
  · refine hcut _ (fun b hb => ?_) (by omega)
    obtain ⟨q, hq, rfl⟩ := List.getElem_of_mem hb
    have hq2 : rankP l k + 1 + q < l.length := by simp at hq; omega
    rw [List.getElem_drop]
    exact hgt _ hq2 (by omega) fun e => by have := hne _ hq2 e; omega
  · rename_i hh
    refine hcut _ (fun b hb => ?_) (Nat.le_refl _)
    obtain ⟨q, hq, rfl⟩ := List.getElem_of_mem hb
    have hq2 : rankP l k + q < l.length := by simp at hq; omega
    rw [List.getElem_drop]
    refine hgt _ hq2 (by omega) fun e => ?_
    have h1 := has_at h hq2
    rw [e] at h1
    rw [h1] at hh; cases hh
theorem rank_nil (l : List Pi) : rankP l ⟨#[]⟩ = 0 := by
  cases l with
  | nil => rfl
  | cons p l => simp [rankP, List.takeWhile_cons, ltK_nil]
theorem scan_all2 (l : List Pi) (n : Int) (h : (l.length : Int) ≤ n) : scanP l ⟨#[]⟩ n = l := by
  unfold scanP
  rw [rank_nil]
  simp only [List.drop_zero]
  exact List.take_of_length_le (by omega)
end Go.Proofs.Ytodnlihbmgigjaa.Us
