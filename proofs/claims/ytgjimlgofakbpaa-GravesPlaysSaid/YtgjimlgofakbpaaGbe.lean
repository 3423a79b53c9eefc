/- Contracts: the document's graves: found, over an entry, older. -/
import Derived.Test.YtgjimlgofakbpaaGbd
import Derived.Test.YtgjimlgofakbpaaBw4
namespace Go.Proofs.Ytgjimlgofakbpaa
set_option linter.unusedSimpArgs false
set_option linter.unusedVariables false
set_option maxHeartbeats 4000000
open Go Go.Am Go.RowKit
set_option maxRecDepth 100000
/- quidnunc/quidnuncref11.Over -/
noncomputable def c51_1 : ACode := .region false [⟨some 2, .box 0, [.t 0], none⟩,
  ⟨some 3, .box 0, [.t 1], none⟩,
  ⟨some 4, .move, [.c (.val (.bool false))], none⟩] [] [] [2, 3] true [] []
noncomputable def c51_3 : ACode := .region false [⟨some 6, .addr 2, [.t 2], none⟩,
  ⟨some 7, .load false 1, [.t 6], none⟩,
  ⟨some 8, .addr 0, [.t 3], none⟩,
  ⟨some 9, .load false 1, [.t 8], none⟩,
  ⟨some 10, .call 49, [.t 7, .t 9], none⟩,
  ⟨some 5, .move, [.t 10], none⟩] [] [] [2, 3, 5] true [] []
noncomputable def c51_5 : ACode := .region true [⟨some 11, .move, [.t 5], none⟩,
  ⟨some 12, .bin .geq, [.t 11, .c (.val (.int .i64 0))], none⟩,
  ⟨some 13, .move, [.t 12], none⟩,
  ⟨some 14, .addr 2, [.t 2], some (some 13, true)⟩,
  ⟨some 15, .load false 1, [.t 14], some (some 13, true)⟩,
  ⟨some 16, .move, [.t 5], some (some 13, true)⟩,
  ⟨some 17, .ixS 9, [.t 15, .t 16], some (some 13, true)⟩,
  ⟨some 18, .addr 3, [.t 17], some (some 13, true)⟩,
  ⟨some 19, .load true 2, [.t 18], some (some 13, true)⟩,
  ⟨some 20, .addr 3, [.t 3], some (some 13, true)⟩,
  ⟨some 21, .load true 2, [.t 20], some (some 13, true)⟩,
  ⟨some 22, .call 38, [.t 19, .t 21], some (some 13, true)⟩,
  ⟨some 23, .pick, [.t 13, .t 22, .c (.val (.bool false))], none⟩,
  ⟨some 4, .move, [.t 23], none⟩] [] [] [4] true [] []
noncomputable def c51_4 : ACode := .seq c51_5 .ret
noncomputable def c51_2 : ACode := .seq c51_3 c51_4
noncomputable def c51_0 : ACode := .seq c51_1 c51_2
noncomputable def code51 : Code := (Try.f51.body).getD .skip
theorem c51_ok : compC Try.prog 24 code51 = some (strip c51_0) := by kernel_rfl
theorem res51_ok : Try.f51.results.toList.mapM (resC Try.prog) = some [(4, none)] := by kernel_rfl
theorem vs_len (l : List PE) : (vsP l).length = l.length := List.length_map _
theorem vs_rank {l : List PE} (h : Ue.Rise l) (hk : ∀ p ∈ l, p.v.key = p.key) (k : ByteArray) : firstK (vsP l) k = if Ue.hasP' l k = true then ((Ue.rankP l k : Nat) : Int) else -1 := by
  cases hh : Ue.hasP' l k with
  | true =>
    rw [if_pos rfl]
    have hl := Ue.hasP_lt hh
    have hkk := Ue.hasP_key hh
    refine idxI_at (by rw [vs_len]; exact hl) (fun q hq hlt => ?_) ?_
    · have hq2 : q < l.length := by rw [vs_len] at hq; exact hq
      refine decide_eq_false fun he => ?_
      rw [List.getElem_map, hk _ (List.getElem_mem hq2)] at he
      have := h.lt hq2 hl hlt
      rw [he, hkk, ltK_irr] at this; cases this
    · refine decide_eq_true ?_
      rw [List.getElem_map, hk _ (List.getElem_mem hl), hkk]
  | false =>
    rw [if_neg (by decide)]
    refine idxI_no fun q hq => decide_eq_false fun he => ?_
    have hq2 : q < l.length := by rw [vs_len] at hq; exact hq
    rw [List.getElem_map, hk _ (List.getElem_mem hq2)] at he
    have := (mem_has h (List.getElem_mem hq2)).1
    rw [he, hh] at this; cases this
theorem vs_get {l : List PE} {k : ByteArray} (hh : Ue.hasP' l k = true) : (vsP l)[Ue.rankP l k]'(by rw [vs_len]; exact Ue.hasP_lt hh) = Ue.getP l k := by
  have hl := Ue.hasP_lt hh
  rw [List.getElem_map]
  unfold Ue.getP
  rw [hh]
  simp [hl]
theorem rover_any (site t2 : Int) (l : List PE) (e : En) (hl : l.length ≤ 1099511627776) (h : Ue.Rise l) (hk : ∀ p ∈ l, p.v.key = p.key) : ACall Try.prog 51 [.agg [I site, I t2, .sl 0 0 l.length 9 none], EnA e] [.cells true (Re 0 (vsP l))] (Det (Bo (Ue.hasP' l e.key && laterB (Ue.getP l e.key).st e.st)) [.cells true (Re 0 (vsP l))]) := by
  have hr := re_ren
  have hL := re_len 0 (vsP l)
  have hvl := vs_len l
  rw [hvl] at hL
  have c1 := efind_any 0 (vsP l) e.key (by rw [hvl]; exact hl)
  rw [hvl, vs_rank h hk] at c1
  cases hh : Ue.hasP' l e.key with
  | false =>
    rw [hh, if_neg (by decide)] at c1
    rw [Bool.false_and]
    generalize vsP l = L at *
    refine ACall.startA c51_ok Try.func51 rfl Try.ntmps51 (by kernel_rfl) res51_ok rfl rfl rfl ?_; simp (maxSteps := 9999999) (disch := omega) only [go_sem]
    (repeat' (first | refine AWpA.seq ?_ | refine AWpA.block ?_ | (with_reducible refine CondP.tt ?_) | (with_reducible refine CondP.ff ?_) | refine AWpA.condv (by simp (maxSteps := 9999999) (disch := omega) only [go_sem, hr]; rfl) ?_ | ((first | (apply AWpA.region; (focus (simp (maxSteps := 9999999) (disch := omega) only [go_sem, hr]; rfl))) | (apply AWpA.draw [] [] follows; (focus (first | rfl | decide)); (focus (simp (maxSteps := 9999999) (disch := omega) only [go_sem, hr]; rfl)); (focus (simp (maxSteps := 9999999) (disch := omega) only [go_sem, hr]; first | done | trivial)); (focus (simp (maxSteps := 9999999) (disch := omega) only [go_sem, hr]; rfl))) | (apply TailK.go; (focus (simp (maxSteps := 9999999) (disch := omega) only [go_sem, hr]; rfl))) | refine AWpA.skip ?_ | refine AWpA.exit ?_ | refine AWpA.ret ?_ | (with_reducible refine ARoundsA.succ ?_) | ((first | refine Runs.kt (by assumption) (fun h9 => ?_) | refine Runs.kf (by assumption) (fun h9 => ?_) | refine Runs.nt (by assumption) (fun h9 => ?_) | refine Runs.nf (by assumption) (fun h9 => ?_) | refine CondP.ht (by assumption) (fun h9 => ?_) | refine CondP.hf (by assumption) (fun h9 => ?_) | refine CondP.nt (by assumption) (fun h9 => ?_) | refine CondP.nf (by assumption) (fun h9 => ?_)); (try simp only [h9]); clear h9) | ((first | (with_reducible apply CallG.plain1 [0] (c1)) | (with_reducible apply CallG.draw1 [0] (c1))); (focus ((try refine And.intro (leAs_of_eq rfl) ?_); (try refine And.intro (leOL_of_eq rfl) ?_); simp (maxSteps := 9999999) (disch := omega) only [go_sem, hr]; first | done | (repeat' (first | rfl | (refine And.intro ?_ ?_))))); (focus (simp (maxSteps := 9999999) (disch := omega) only [go_sem, hr]; rfl)))); (try simp (maxSteps := 9999999) (disch := omega) only [go_sem, hr]); (try (refine And.intro ?_ ?_; (focus (first | omega | (simp only [go_sem]; done) | (simp; done) | (simp; omega) | assumption))))) | ((first | refine CondP.split (fun hif => ?_) (fun hif => ?_) | refine Runs.part (fun hif => ?_) (fun hif => ?_)) <;> ((try simp only [hif]); (try simp only [decide_eq_true_eq, decide_eq_false_iff_not, Bool.not_eq_true, Bool.not_eq_false, Bool.not_eq_true', Bool.not_eq_false', beq_iff_eq, bne_iff_ne, bne_eq_false_iff_eq, beq_eq_false_iff_ne, ne_eq, Bool.and_eq_true, Bool.or_eq_true, Bool.or_eq_false_iff] at hif); (try (have h9 : _ = true := hif; simp only [h9])); (try (have h9 : _ = false := hif; simp only [h9])); (try simp (maxSteps := 9999999) (disch := omega) only [go_sem, hr]); (try (refine And.intro ?_ ?_; (focus (first | omega | (simp only [go_sem]; done) | (simp; done) | (simp; omega) | assumption)))); (try (exfalso; omega; done))))))
    (apply Ret.det [0]; (focus (first | exact .inl rfl | exact .inr rfl)); (focus (simp (maxSteps := 9999999) (disch := omega) only [go_sem, hr]; rfl)); (simp (maxSteps := 9999999) (disch := omega) only [go_sem, hr]; (try (repeat' (first | done | trivial | rfl | exact leAs_rfl _ | decide | (refine And.intro ?_ ?_) | (simp; done) | omega | (simp; decide))))))
  | true =>
    rw [hh, if_pos rfl] at c1
    rw [Bool.true_and]
    have hlt := Ue.hasP_lt hh
    obtain ⟨q1, -, -, -⟩ := re_fst (vsP l) (Ue.rankP l e.key) (by rw [hvl]; exact hlt)
    rw [vs_get hh] at q1
    have c2 := later_any (Ue.getP l e.key).st e.st
    generalize Ue.getP l e.key = was at *
    generalize vsP l = L at *
    generalize Ue.rankP l e.key = r at *
    refine ACall.startA c51_ok Try.func51 rfl Try.ntmps51 (by kernel_rfl) res51_ok rfl rfl rfl ?_; simp (maxSteps := 9999999) (disch := omega) only [go_sem]
    (repeat' (first | refine AWpA.seq ?_ | refine AWpA.block ?_ | (with_reducible refine CondP.tt ?_) | (with_reducible refine CondP.ff ?_) | refine AWpA.condv (by simp (maxSteps := 9999999) (disch := omega) only [go_sem, hr, hL, q1]; rfl) ?_ | ((first | (apply AWpA.region; (focus (simp (maxSteps := 9999999) (disch := omega) only [go_sem, hr, hL, q1]; rfl))) | (apply AWpA.draw [] [] follows; (focus (first | rfl | decide)); (focus (simp (maxSteps := 9999999) (disch := omega) only [go_sem, hr, hL, q1]; rfl)); (focus (simp (maxSteps := 9999999) (disch := omega) only [go_sem, hr, hL, q1]; first | done | trivial)); (focus (simp (maxSteps := 9999999) (disch := omega) only [go_sem, hr, hL, q1]; rfl))) | (apply TailK.go; (focus (simp (maxSteps := 9999999) (disch := omega) only [go_sem, hr, hL, q1]; rfl))) | refine AWpA.skip ?_ | refine AWpA.exit ?_ | refine AWpA.ret ?_ | (with_reducible refine ARoundsA.succ ?_) | ((first | refine Runs.kt (by assumption) (fun h9 => ?_) | refine Runs.kf (by assumption) (fun h9 => ?_) | refine Runs.nt (by assumption) (fun h9 => ?_) | refine Runs.nf (by assumption) (fun h9 => ?_) | refine CondP.ht (by assumption) (fun h9 => ?_) | refine CondP.hf (by assumption) (fun h9 => ?_) | refine CondP.nt (by assumption) (fun h9 => ?_) | refine CondP.nf (by assumption) (fun h9 => ?_)); (try simp only [h9]); clear h9) | ((first | (with_reducible apply CallG.plain1 [0] (c1)) | (with_reducible apply CallG.draw1 [0] (c1))); (focus ((try refine And.intro (leAs_of_eq rfl) ?_); (try refine And.intro (leOL_of_eq rfl) ?_); simp (maxSteps := 9999999) (disch := omega) only [go_sem, hr, hL, q1]; first | done | (repeat' (first | rfl | (refine And.intro ?_ ?_))))); (focus (simp (maxSteps := 9999999) (disch := omega) only [go_sem, hr, hL, q1]; rfl))) | ((first | (with_reducible apply CallG.plain1 [] (c2)) | (with_reducible apply CallG.draw1 [] (c2))); (focus ((try refine And.intro (leAs_of_eq rfl) ?_); (try refine And.intro (leOL_of_eq rfl) ?_); simp (maxSteps := 9999999) (disch := omega) only [go_sem, hr, hL, q1]; first | done | (repeat' (first | rfl | (refine And.intro ?_ ?_))))); (focus (simp (maxSteps := 9999999) (disch := omega) only [go_sem, hr, hL, q1]; rfl)))); (try simp (maxSteps := 9999999) (disch := omega) only [go_sem, hr, hL, q1]); (try (refine And.intro ?_ ?_; (focus (first | omega | (simp only [go_sem]; done) | (simp; done) | (simp; omega) | assumption))))) | ((first | refine CondP.split (fun hif => ?_) (fun hif => ?_) | refine Runs.part (fun hif => ?_) (fun hif => ?_)) <;> ((try simp only [hif]); (try simp only [decide_eq_true_eq, decide_eq_false_iff_not, Bool.not_eq_true, Bool.not_eq_false, Bool.not_eq_true', Bool.not_eq_false', beq_iff_eq, bne_iff_ne, bne_eq_false_iff_eq, beq_eq_false_iff_ne, ne_eq, Bool.and_eq_true, Bool.or_eq_true, Bool.or_eq_false_iff] at hif); (try (have h9 : _ = true := hif; simp only [h9])); (try (have h9 : _ = false := hif; simp only [h9])); (try simp (maxSteps := 9999999) (disch := omega) only [go_sem, hr, hL, q1]); (try (refine And.intro ?_ ?_; (focus (first | omega | (simp only [go_sem]; done) | (simp; done) | (simp; omega) | assumption)))); (try (exfalso; omega; done))))))
    (apply Ret.det [0]; (focus (first | exact .inl rfl | exact .inr rfl)); (focus (simp (maxSteps := 9999999) (disch := omega) only [go_sem, hr]; rfl)); (simp (maxSteps := 9999999) (disch := omega) only [go_sem, hr]; (try (repeat' (first | done | trivial | rfl | exact leAs_rfl _ | decide | (refine And.intro ?_ ?_) | (simp; done) | omega | (simp; decide))))))
theorem vs_tick (t2 : Int) (l : List PE) : vsP (tickL t2 l) = ((vsP l).filter fun e => decide (e.age + 1 < t2)).map agedE := by
  unfold tickL vsP
  rw [List.filter_map, List.map_map, List.map_map]
  rfl
theorem vs_gone (t2 : Int) {l : List PE} (hk : ∀ p ∈ l, p.v.key = p.key) : goneL t2 l = ((vsP l).filter fun e => !decide (e.age + 1 < t2)).map (·.key) := by
  unfold goneL vsP
  rw [List.filter_map, List.map_map]
  refine List.map_congr_left fun p hp => ?_
  exact (hk p (List.mem_filter.1 hp |>.1)).symm
theorem rtick_any (site t2 : Int) (L : List En) (hl : L.length ≤ 1099511627776) (ha : ∀ e ∈ L, 0 ≤ e.age ∧ e.age ≤ 2147483647) : ACall Try.prog 46 [.agg [I site, I t2, .sl 0 0 L.length 9 none]] [.cells true (Re 0 L)]
    (Det (.tup [.agg [I site, I t2, .sl 1 0 ((L.filter fun e => decide (e.age + 1 < t2)).map agedE).length 9 none], .sl 2 0 ((L.filter fun e => !decide (e.age + 1 < t2)).map (·.key)).length 1 none]) [.cells true (Re 0 L), .cells false (Re 0 ((L.filter fun e => decide (e.age + 1 < t2)).map agedE)), .cells false (Rk ((L.filter fun e => !decide (e.age + 1 < t2)).map (·.key)))]) := by
  have hr := re_ren
  have hk := rk_ren
  have hL := re_len 0 L
  refine ACall.startA c46_ok Try.func46 rfl Try.ntmps46 (by kernel_rfl) res46_ok rfl rfl rfl ?_; simp (maxSteps := 9999999) (disch := omega) only [go_sem]
  refine AWpA.dummy ?_
  (repeat' (first | refine AWpA.seq ?_ | refine AWpA.block ?_ | (with_reducible refine CondP.tt ?_) | (with_reducible refine CondP.ff ?_) | refine AWpA.condv (by simp (maxSteps := 9999999) (disch := omega) only [go_sem, hr, hk]; rfl) ?_ | ((first | (apply AWpA.region; (focus (simp (maxSteps := 9999999) (disch := omega) only [go_sem, hr, hk]; rfl))) | (apply AWpA.draw [] [] follows; (focus (first | rfl | decide)); (focus (simp (maxSteps := 9999999) (disch := omega) only [go_sem, hr, hk]; rfl)); (focus (simp (maxSteps := 9999999) (disch := omega) only [go_sem, hr, hk]; first | done | trivial)); (focus (simp (maxSteps := 9999999) (disch := omega) only [go_sem, hr, hk]; rfl))) | (apply TailK.go; (focus (simp (maxSteps := 9999999) (disch := omega) only [go_sem, hr, hk]; rfl))) | refine AWpA.skip ?_ | refine AWpA.exit ?_ | refine AWpA.ret ?_ | (with_reducible refine ARoundsA.succ ?_) | ((first | refine Runs.kt (by assumption) (fun h9 => ?_) | refine Runs.kf (by assumption) (fun h9 => ?_) | refine Runs.nt (by assumption) (fun h9 => ?_) | refine Runs.nf (by assumption) (fun h9 => ?_) | refine CondP.ht (by assumption) (fun h9 => ?_) | refine CondP.hf (by assumption) (fun h9 => ?_) | refine CondP.nt (by assumption) (fun h9 => ?_) | refine CondP.nf (by assumption) (fun h9 => ?_)); (try simp only [h9]); clear h9)); (try simp (maxSteps := 9999999) (disch := omega) only [go_sem, hr, hk]); (try (refine And.intro ?_ ?_; (focus (first | omega | (simp only [go_sem]; done) | (simp; done) | (simp; omega) | assumption))))) | ((first | refine CondP.split (fun hif => ?_) (fun hif => ?_) | refine Runs.part (fun hif => ?_) (fun hif => ?_)) <;> ((try simp only [hif]); (try simp only [decide_eq_true_eq, decide_eq_false_iff_not, Bool.not_eq_true, Bool.not_eq_false, Bool.not_eq_true', Bool.not_eq_false', beq_iff_eq, bne_iff_ne, bne_eq_false_iff_eq, beq_eq_false_iff_ne, ne_eq, Bool.and_eq_true, Bool.or_eq_true, Bool.or_eq_false_iff] at hif); (try (have h9 : _ = true := hif; simp only [h9])); (try (have h9 : _ = false := hif; simp only [h9])); (try simp (maxSteps := 9999999) (disch := omega) only [go_sem, hr, hk]); (try (refine And.intro ?_ ?_; (focus (first | omega | (simp only [go_sem]; done) | (simp; done) | (simp; omega) | assumption)))); (try (exfalso; omega; done))))))
  (apply AWpA.loopL (fun p : Nat × List En × List ByteArray => [(1, .ptr 1 0), (2, .ptr 2 0), (4, .ptr 3 0), (5, .sl 5 0 p.2.2.length 1 none), (6, I p.1)]) (fun p => [.cells true (Re 0 L), .cells false [I site, I t2, .sl 0 0 L.length 9 none], .cells false [I 0, I 0, .val (.slice none 0 0)], .cells false [I site, I t2, .sl 4 0 p.2.1.length 9 none], .cells false (Re 0 p.2.1), .cells false (Rk p.2.2)]) (fun p => L.length - p.1) (fun p => p.1 ≤ L.length ∧ p.2.1 = ((L.take p.1).filter fun e => decide (e.age + 1 < t2)).map agedE ∧ p.2.2 = ((L.take p.1).filter fun e => !decide (e.age + 1 < t2)).map (·.key)) ((0, [], [])) [0, 2, 18, 130, 1, 162]; rotate_left; (focus (simp (maxSteps := 9999999) (disch := omega) only [go_sem, hr, hk, re_nil, rk_nil]; (try (repeat' (first | done | trivial | rfl | exact leAs_rfl _ | decide | (refine And.intro ?_ ?_) | (simp; done) | omega | (simp; decide)))))); rotate_right)
  · exact ⟨Nat.zero_le _, by simp, by simp⟩
  rintro ⟨i, o, g⟩ ⟨hi, ho, hg⟩
  (try simp only at hi ho hg)
  by_cases hin : i < L.length
  · have g1 : ((i : Int) < (L.length : Int)) = True := eq_true (by omega)
    have hat := re_at 0 L i hin
    rw [Nat.zero_add] at hat
    have hage := ha L[i] (List.getElem_mem hin)
    have hol : o.length ≤ i := by rw [ho, List.length_map]; exact Nat.le_trans (List.length_filter_le _ _) (by simp; omega)
    have hgl : g.length ≤ i := by rw [hg, List.length_map]; exact Nat.le_trans (List.length_filter_le _ _) (by simp; omega)
    have ho2 : ((L.take (i + 1)).filter fun e => decide (e.age + 1 < t2)).map agedE = o ++ (if L[i].age + 1 < t2 then [agedE L[i]] else []) := by
      rw [List.take_succ_eq_append_getElem hin, List.filter_append, List.map_append, ← ho]
      congr 1
      split
      · rename_i h; rw [List.filter_cons_of_pos (by simpa using h)]; rfl
      · rename_i h; rw [List.filter_cons_of_neg (by simpa using h)]; rfl
    have hg2 : ((L.take (i + 1)).filter fun e => !decide (e.age + 1 < t2)).map (·.key) = g ++ (if L[i].age + 1 < t2 then [] else [L[i].key]) := by
      rw [List.take_succ_eq_append_getElem hin, List.filter_append, List.map_append, ← hg]
      congr 1
      split
      · rename_i h; rw [List.filter_cons_of_neg (by simpa using h)]; rfl
      · rename_i h; rw [List.filter_cons_of_pos (by simpa using h)]; rfl
    have hLo := re_len 0 o
    rw [Nat.zero_add] at hLo
    have hfo := re_all o (n := o.length * 9) rfl
    have hLg := rk_len g
    have hfg := rk_all g (n := g.length) rfl
    by_cases hag : L[i].age + 1 < t2
    · have g2 : (L[i].age + 1 < t2) = True := eq_true hag
      rw [if_pos hag] at ho2 hg2
      rw [List.append_nil] at hg2
      have hon := re_app o [agedE L[i]]
      rw [re_one] at hon
      clear ho hg hag
      generalize L[i] = x at *
      (try simp (maxSteps := 9999999) (disch := omega) only [go_sem])
      (repeat' (first | refine AWpA.seq ?_ | refine AWpA.block ?_ | (with_reducible refine CondP.tt ?_) | (with_reducible refine CondP.ff ?_) | refine AWpA.condv (by simp (maxSteps := 9999999) (disch := omega) only [go_sem, hr, hk, hL, hLo, hat, g1, g2]; rfl) ?_ | ((first | (apply AWpA.region; (focus (simp (maxSteps := 9999999) (disch := omega) only [go_sem, hr, hk, hL, hLo, hat, g1, g2]; rfl))) | (apply AWpA.draw [] [] follows; (focus (first | rfl | decide)); (focus (simp (maxSteps := 9999999) (disch := omega) only [go_sem, hr, hk, hL, hLo, hat, g1, g2]; rfl)); (focus (simp (maxSteps := 9999999) (disch := omega) only [go_sem, hr, hk, hL, hLo, hat, g1, g2]; first | done | trivial)); (focus (simp (maxSteps := 9999999) (disch := omega) only [go_sem, hr, hk, hL, hLo, hat, g1, g2]; rfl))) | (apply TailK.go; (focus (simp (maxSteps := 9999999) (disch := omega) only [go_sem, hr, hk, hL, hLo, hat, g1, g2]; rfl))) | refine AWpA.skip ?_ | refine AWpA.exit ?_ | refine AWpA.ret ?_ | (with_reducible refine ARoundsA.succ ?_) | ((first | refine Runs.kt (by assumption) (fun h9 => ?_) | refine Runs.kf (by assumption) (fun h9 => ?_) | refine Runs.nt (by assumption) (fun h9 => ?_) | refine Runs.nf (by assumption) (fun h9 => ?_) | refine CondP.ht (by assumption) (fun h9 => ?_) | refine CondP.hf (by assumption) (fun h9 => ?_) | refine CondP.nt (by assumption) (fun h9 => ?_) | refine CondP.nf (by assumption) (fun h9 => ?_)); (try simp only [h9]); clear h9)); (try simp (maxSteps := 9999999) (disch := omega) only [go_sem, hr, hk, hL, hLo, hat, g1, g2]); (try (refine And.intro ?_ ?_; (focus (first | omega | (simp only [go_sem]; done) | (simp; done) | (simp; omega) | assumption))))) | ((first | refine CondP.split (fun hif => ?_) (fun hif => ?_) | refine Runs.part (fun hif => ?_) (fun hif => ?_)) <;> ((try simp only [hif]); (try simp only [decide_eq_true_eq, decide_eq_false_iff_not, Bool.not_eq_true, Bool.not_eq_false, Bool.not_eq_true', Bool.not_eq_false', beq_iff_eq, bne_iff_ne, bne_eq_false_iff_eq, beq_eq_false_iff_ne, ne_eq, Bool.and_eq_true, Bool.or_eq_true, Bool.or_eq_false_iff] at hif); (try (have h9 : _ = true := hif; simp only [h9])); (try (have h9 : _ = false := hif; simp only [h9])); (try simp (maxSteps := 9999999) (disch := omega) only [go_sem, hr, hk, hL, hLo, hat, g1, g2]); (try (refine And.intro ?_ ?_; (focus (first | omega | (simp only [go_sem]; done) | (simp; done) | (simp; omega) | assumption)))); (try (exfalso; omega; done))))))
      (apply Back.to (i + 1, o ++ [agedE x], g) [0, 1, 2, 3, 422, 5]; (focus ((try simp (maxSteps := 9999999) (disch := omega) only [go_sem, hr, hk, hfo, hon, renL_append, List.length_append, List.length_singleton]); first | done | omega)); rotate_left; (focus (simp (maxSteps := 9999999) (disch := omega) only [go_sem, hr, hk, hfo, hon, renL_append, List.length_append, List.length_singleton]; (try (repeat' (first | done | trivial | rfl | exact leAs_rfl _ | decide | (refine And.intro ?_ ?_) | (simp; done) | omega | (simp; decide)))))))
      exact ⟨by simp only; omega, ho2.symm, hg2.symm⟩
    · have g2 : (L[i].age + 1 < t2) = False := eq_false hag
      rw [if_neg hag] at ho2 hg2
      rw [List.append_nil] at ho2
      have hgn := rk_app g [L[i].key]
      rw [rk_one] at hgn
      clear ho hg hag
      generalize L[i] = x at *
      (try simp (maxSteps := 9999999) (disch := omega) only [go_sem])
      (repeat' (first | refine AWpA.seq ?_ | refine AWpA.block ?_ | (with_reducible refine CondP.tt ?_) | (with_reducible refine CondP.ff ?_) | refine AWpA.condv (by simp (maxSteps := 9999999) (disch := omega) only [go_sem, hr, hk, hL, hLg, hat, g1, g2]; rfl) ?_ | ((first | (apply AWpA.region; (focus (simp (maxSteps := 9999999) (disch := omega) only [go_sem, hr, hk, hL, hLg, hat, g1, g2]; rfl))) | (apply AWpA.draw [] [] follows; (focus (first | rfl | decide)); (focus (simp (maxSteps := 9999999) (disch := omega) only [go_sem, hr, hk, hL, hLg, hat, g1, g2]; rfl)); (focus (simp (maxSteps := 9999999) (disch := omega) only [go_sem, hr, hk, hL, hLg, hat, g1, g2]; first | done | trivial)); (focus (simp (maxSteps := 9999999) (disch := omega) only [go_sem, hr, hk, hL, hLg, hat, g1, g2]; rfl))) | (apply TailK.go; (focus (simp (maxSteps := 9999999) (disch := omega) only [go_sem, hr, hk, hL, hLg, hat, g1, g2]; rfl))) | refine AWpA.skip ?_ | refine AWpA.exit ?_ | refine AWpA.ret ?_ | (with_reducible refine ARoundsA.succ ?_) | ((first | refine Runs.kt (by assumption) (fun h9 => ?_) | refine Runs.kf (by assumption) (fun h9 => ?_) | refine Runs.nt (by assumption) (fun h9 => ?_) | refine Runs.nf (by assumption) (fun h9 => ?_) | refine CondP.ht (by assumption) (fun h9 => ?_) | refine CondP.hf (by assumption) (fun h9 => ?_) | refine CondP.nt (by assumption) (fun h9 => ?_) | refine CondP.nf (by assumption) (fun h9 => ?_)); (try simp only [h9]); clear h9)); (try simp (maxSteps := 9999999) (disch := omega) only [go_sem, hr, hk, hL, hLg, hat, g1, g2]); (try (refine And.intro ?_ ?_; (focus (first | omega | (simp only [go_sem]; done) | (simp; done) | (simp; omega) | assumption))))) | ((first | refine CondP.split (fun hif => ?_) (fun hif => ?_) | refine Runs.part (fun hif => ?_) (fun hif => ?_)) <;> ((try simp only [hif]); (try simp only [decide_eq_true_eq, decide_eq_false_iff_not, Bool.not_eq_true, Bool.not_eq_false, Bool.not_eq_true', Bool.not_eq_false', beq_iff_eq, bne_iff_ne, bne_eq_false_iff_eq, beq_eq_false_iff_ne, ne_eq, Bool.and_eq_true, Bool.or_eq_true, Bool.or_eq_false_iff] at hif); (try (have h9 : _ = true := hif; simp only [h9])); (try (have h9 : _ = false := hif; simp only [h9])); (try simp (maxSteps := 9999999) (disch := omega) only [go_sem, hr, hk, hL, hLg, hat, g1, g2]); (try (refine And.intro ?_ ?_; (focus (first | omega | (simp only [go_sem]; done) | (simp; done) | (simp; omega) | assumption)))); (try (exfalso; omega; done))))))
      (apply Back.to (i + 1, o, g ++ [x.key]) [0, 1, 2, 3, 4, 422]; (focus ((try simp (maxSteps := 9999999) (disch := omega) only [go_sem, hr, hk, hfg, hgn, renL_append, List.length_append, List.length_singleton]); first | done | omega)); rotate_left; (focus (simp (maxSteps := 9999999) (disch := omega) only [go_sem, hr, hk, hfg, hgn, renL_append, List.length_append, List.length_singleton]; (try (repeat' (first | done | trivial | rfl | exact leAs_rfl _ | decide | (refine And.intro ?_ ?_) | (simp; done) | omega | (simp; decide)))))))
      exact ⟨by simp only; omega, ho2.symm, hg2.symm⟩
  · obtain rfl : i = L.length := by omega
    have g1 : ((L.length : Int) < (L.length : Int)) = False := eq_false (by omega)
    rw [List.take_length] at ho hg
    rw [← ho, ← hg]
    clear ho hg
    (try simp (maxSteps := 9999999) (disch := omega) only [go_sem])
    (repeat' (first | refine AWpA.seq ?_ | refine AWpA.block ?_ | (with_reducible refine CondP.tt ?_) | (with_reducible refine CondP.ff ?_) | refine AWpA.condv (by simp (maxSteps := 9999999) (disch := omega) only [go_sem, hr, hk, g1]; rfl) ?_ | ((first | (apply AWpA.region; (focus (simp (maxSteps := 9999999) (disch := omega) only [go_sem, hr, hk, g1]; rfl))) | (apply AWpA.draw [] [] follows; (focus (first | rfl | decide)); (focus (simp (maxSteps := 9999999) (disch := omega) only [go_sem, hr, hk, g1]; rfl)); (focus (simp (maxSteps := 9999999) (disch := omega) only [go_sem, hr, hk, g1]; first | done | trivial)); (focus (simp (maxSteps := 9999999) (disch := omega) only [go_sem, hr, hk, g1]; rfl))) | (apply TailK.go; (focus (simp (maxSteps := 9999999) (disch := omega) only [go_sem, hr, hk, g1]; rfl))) | refine AWpA.skip ?_ | refine AWpA.exit ?_ | refine AWpA.ret ?_ | (with_reducible refine ARoundsA.succ ?_) | ((first | refine Runs.kt (by assumption) (fun h9 => ?_) | refine Runs.kf (by assumption) (fun h9 => ?_) | refine Runs.nt (by assumption) (fun h9 => ?_) | refine Runs.nf (by assumption) (fun h9 => ?_) | refine CondP.ht (by assumption) (fun h9 => ?_) | refine CondP.hf (by assumption) (fun h9 => ?_) | refine CondP.nt (by assumption) (fun h9 => ?_) | refine CondP.nf (by assumption) (fun h9 => ?_)); (try simp only [h9]); clear h9)); (try simp (maxSteps := 9999999) (disch := omega) only [go_sem, hr, hk, g1]); (try (refine And.intro ?_ ?_; (focus (first | omega | (simp only [go_sem]; done) | (simp; done) | (simp; omega) | assumption))))) | ((first | refine CondP.split (fun hif => ?_) (fun hif => ?_) | refine Runs.part (fun hif => ?_) (fun hif => ?_)) <;> ((try simp only [hif]); (try simp only [decide_eq_true_eq, decide_eq_false_iff_not, Bool.not_eq_true, Bool.not_eq_false, Bool.not_eq_true', Bool.not_eq_false', beq_iff_eq, bne_iff_ne, bne_eq_false_iff_eq, beq_eq_false_iff_ne, ne_eq, Bool.and_eq_true, Bool.or_eq_true, Bool.or_eq_false_iff] at hif); (try (have h9 : _ = true := hif; simp only [h9])); (try (have h9 : _ = false := hif; simp only [h9])); (try simp (maxSteps := 9999999) (disch := omega) only [go_sem, hr, hk, g1]); (try (refine And.intro ?_ ?_; (focus (first | omega | (simp only [go_sem]; done) | (simp; done) | (simp; omega) | assumption)))); (try (exfalso; omega; done))))))
    (apply Ret.det [0, 4, 5]; (focus (first | exact .inl rfl | exact .inr rfl)); (focus (simp (maxSteps := 9999999) (disch := omega) only [go_sem, hr, hk]; rfl)); (simp (maxSteps := 9999999) (disch := omega) only [go_sem, hr, hk]; (try (repeat' (first | done | trivial | rfl | exact leAs_rfl _ | decide | (refine And.intro ?_ ?_) | (simp; done) | omega | (simp; decide))))))
end Go.Proofs.Ytgjimlgofakbpaa
