/- Contracts: what isn't there; the document's. -/
import Derived.Test.YtbblpmkdhdnkhaaBw3
namespace Go.Proofs.Ytbblpmkdhdnkhaa
set_option linter.unusedSimpArgs false
set_option linter.unusedVariables false
set_option maxHeartbeats 4000000
open Go Go.Am Go.RowKit
set_option maxRecDepth 100000
theorem idxfU_any (table : List En) (site : Int) (o : Nat) (l : List Up) (ht : table.length ≤ 1099511627776) (hl : l.length ≤ 1099511627776) : ACall Try.prog 37 [.sl 0 o l.length 10 none, .fn 38 [] [.ptr 1 0, .ptr 2 0, .ptr 4 0]] [.cells true (Ru o l), .cells true [I site], .cells true [.mp 3], .map true (EsK table), .cells true [.sl 5 0 table.length 9 none], .cells true (Re 0 table)]
    (Det (I (shortI table site l)) [.cells true (Ru o l), .cells true [I site], .cells true [.mp 3], .map true (EsK table), .cells true [.sl 5 0 table.length 9 none], .cells true (Re 0 table)]) := by
  have hr := re_ren 0 table
  have hu := ru_ren o l
  have hL := ru_len o l
  have hg := fun ρ M => ren_G (enc := Str) str_ren ρ M
  refine ACall.startA c37_ok Try.func37 rfl Try.ntmps37 (by kernel_rfl) res37_ok rfl rfl rfl ?_; simp (maxSteps := 9999999) (disch := omega) only [go_sem]
  (repeat' (first | refine AWpA.seq ?_ | refine AWpA.block ?_ | (with_reducible refine CondP.tt ?_) | (with_reducible refine CondP.ff ?_) | refine AWpA.condv (by simp (maxSteps := 9999999) (disch := omega) only [go_sem, hr, hu, hg]; rfl) ?_ | ((first | (apply AWpA.region; (focus (simp (maxSteps := 9999999) (disch := omega) only [go_sem, hr, hu, hg]; rfl))) | (apply AWpA.draw [] [] follows; (focus (first | rfl | decide)); (focus (simp (maxSteps := 9999999) (disch := omega) only [go_sem, hr, hu, hg]; rfl)); (focus (simp (maxSteps := 9999999) (disch := omega) only [go_sem, hr, hu, hg]; first | done | trivial)); (focus (simp (maxSteps := 9999999) (disch := omega) only [go_sem, hr, hu, hg]; rfl))) | (apply TailK.go; (focus (simp (maxSteps := 9999999) (disch := omega) only [go_sem, hr, hu, hg]; rfl))) | refine AWpA.skip ?_ | refine AWpA.exit ?_ | refine AWpA.ret ?_ | (with_reducible refine ARoundsA.succ ?_) | ((first | refine Runs.kt (by assumption) (fun h9 => ?_) | refine Runs.kf (by assumption) (fun h9 => ?_) | refine Runs.nt (by assumption) (fun h9 => ?_) | refine Runs.nf (by assumption) (fun h9 => ?_) | refine CondP.ht (by assumption) (fun h9 => ?_) | refine CondP.hf (by assumption) (fun h9 => ?_) | refine CondP.nt (by assumption) (fun h9 => ?_) | refine CondP.nf (by assumption) (fun h9 => ?_)); (try simp only [h9]); clear h9)); (try simp (maxSteps := 9999999) (disch := omega) only [go_sem, hr, hu, hg]); (try (refine And.intro ?_ ?_; (focus (first | omega | (simp only [go_sem]; done) | (simp; done) | (simp; omega) | assumption))))) | ((first | refine CondP.split (fun hif => ?_) (fun hif => ?_) | refine Runs.part (fun hif => ?_) (fun hif => ?_)) <;> ((try simp only [hif]); (try simp only [decide_eq_true_eq, decide_eq_false_iff_not, Bool.not_eq_true, Bool.not_eq_false, Bool.not_eq_true', Bool.not_eq_false', beq_iff_eq, bne_iff_ne, bne_eq_false_iff_eq, beq_eq_false_iff_ne, ne_eq, Bool.and_eq_true, Bool.or_eq_true, Bool.or_eq_false_iff] at hif); (try (have h9 : _ = true := hif; simp only [h9])); (try (have h9 : _ = false := hif; simp only [h9])); (try simp (maxSteps := 9999999) (disch := omega) only [go_sem, hr, hu, hg]); (try (refine And.intro ?_ ?_; (focus (first | omega | (simp only [go_sem]; done) | (simp; done) | (simp; omega) | assumption)))); (try (exfalso; omega; done))))))
  (apply AWpA.loopL (fun i : Nat => [(0, .sl 0 o l.length 10 none), (1, .fn 38 [] [.ptr 1 0, .ptr 2 0, .ptr 4 0]), (7, I l.length), (8, I i)]) (fun i => [.cells true (Ru o l), .cells true [I site], .cells true [.mp 3], .map true (EsK table), .cells true [.sl 5 0 table.length 9 none], .cells true (Re 0 table)]) (fun i => l.length - i) (fun i => i ≤ l.length ∧ ∀ q (h : q < l.length), q < i → shortP table site l[q] = false) (0) [0, 1, 2, 3, 4, 5]; rotate_left; (focus (simp (maxSteps := 9999999) (disch := omega) only [go_sem, hr, hu, hg]; (try (repeat' (first | done | trivial | rfl | exact leAs_rfl _ | decide | (refine And.intro ?_ ?_) | (simp; done) | omega | (simp; decide)))))); rotate_right)
  · exact ⟨Nat.zero_le _, fun q h hq => by omega⟩
  rintro i ⟨hi, hq⟩
  (try simp only at hi hq)
  by_cases hin : i < l.length
  · have g1 : ((i : Int) < (l.length : Int)) = True := eq_true (by omega)
    have hat := ru_at o l i hin
    have c := short1_any table site l[i] ht
    have hfe : shortP table site l[i] = true → shortI table site l = i := fun h => idxI_at hin hq h
    have hn : shortP table site l[i] = false → ∀ q (h : q < l.length), q < i + 1 → shortP table site l[q] = false := fun h q hl hq' => by
      rcases Nat.lt_or_eq_of_le (Nat.le_of_lt_succ hq') with h' | rfl
      · exact hq q hl h'
      · exact h
    clear hq
    generalize l[i] = x at *
    cases hb : shortP table site x with
    | true =>
      rw [hb] at c
      rw [hfe hb]
      clear hfe hn hb
      (try simp (maxSteps := 9999999) (disch := omega) only [go_sem])
      (repeat' (first | refine AWpA.seq ?_ | refine AWpA.block ?_ | (with_reducible refine CondP.tt ?_) | (with_reducible refine CondP.ff ?_) | refine AWpA.condv (by simp (maxSteps := 9999999) (disch := omega) only [go_sem, hr, hu, hg, hL, g1, hat]; rfl) ?_ | ((first | (apply AWpA.region; (focus (simp (maxSteps := 9999999) (disch := omega) only [go_sem, hr, hu, hg, hL, g1, hat]; rfl))) | (apply AWpA.draw [] [] follows; (focus (first | rfl | decide)); (focus (simp (maxSteps := 9999999) (disch := omega) only [go_sem, hr, hu, hg, hL, g1, hat]; rfl)); (focus (simp (maxSteps := 9999999) (disch := omega) only [go_sem, hr, hu, hg, hL, g1, hat]; first | done | trivial)); (focus (simp (maxSteps := 9999999) (disch := omega) only [go_sem, hr, hu, hg, hL, g1, hat]; rfl))) | (apply TailK.go; (focus (simp (maxSteps := 9999999) (disch := omega) only [go_sem, hr, hu, hg, hL, g1, hat]; rfl))) | refine AWpA.skip ?_ | refine AWpA.exit ?_ | refine AWpA.ret ?_ | (with_reducible refine ARoundsA.succ ?_) | ((first | refine Runs.kt (by assumption) (fun h9 => ?_) | refine Runs.kf (by assumption) (fun h9 => ?_) | refine Runs.nt (by assumption) (fun h9 => ?_) | refine Runs.nf (by assumption) (fun h9 => ?_) | refine CondP.ht (by assumption) (fun h9 => ?_) | refine CondP.hf (by assumption) (fun h9 => ?_) | refine CondP.nt (by assumption) (fun h9 => ?_) | refine CondP.nf (by assumption) (fun h9 => ?_)); (try simp only [h9]); clear h9) | ((first | (with_reducible apply CallG.plain1 [1, 2, 3, 4, 5] (c)) | (with_reducible apply CallG.draw1 [1, 2, 3, 4, 5] (c))); (focus ((try refine And.intro (leAs_of_eq rfl) ?_); (try refine And.intro (leOL_of_eq rfl) ?_); simp (maxSteps := 9999999) (disch := omega) only [go_sem, hr, hu, hg, hL, g1, hat]; first | done | (repeat' (first | rfl | (refine And.intro ?_ ?_))))); (focus (simp (maxSteps := 9999999) (disch := omega) only [go_sem, hr, hu, hg, hL, g1, hat]; rfl)))); (try simp (maxSteps := 9999999) (disch := omega) only [go_sem, hr, hu, hg, hL, g1, hat]); (try (refine And.intro ?_ ?_; (focus (first | omega | (simp only [go_sem]; done) | (simp; done) | (simp; omega) | assumption))))) | ((first | refine CondP.split (fun hif => ?_) (fun hif => ?_) | refine Runs.part (fun hif => ?_) (fun hif => ?_)) <;> ((try simp only [hif]); (try simp only [decide_eq_true_eq, decide_eq_false_iff_not, Bool.not_eq_true, Bool.not_eq_false, Bool.not_eq_true', Bool.not_eq_false', beq_iff_eq, bne_iff_ne, bne_eq_false_iff_eq, beq_eq_false_iff_ne, ne_eq, Bool.and_eq_true, Bool.or_eq_true, Bool.or_eq_false_iff] at hif); (try (have h9 : _ = true := hif; simp only [h9])); (try (have h9 : _ = false := hif; simp only [h9])); (try simp (maxSteps := 9999999) (disch := omega) only [go_sem, hr, hu, hg, hL, g1, hat]); (try (refine And.intro ?_ ?_; (focus (first | omega | (simp only [go_sem]; done) | (simp; done) | (simp; omega) | assumption)))); (try (exfalso; omega; done))))))
      (apply Ret.det [0, 1, 2, 3, 4, 5]; (focus (first | exact .inl rfl | exact .inr rfl)); (focus (simp (maxSteps := 9999999) (disch := omega) only [go_sem, hr, hu, hg]; rfl)); (simp (maxSteps := 9999999) (disch := omega) only [go_sem, hr, hu, hg]; (try (repeat' (first | done | trivial | rfl | exact leAs_rfl _ | decide | (refine And.intro ?_ ?_) | (simp; done) | omega | (simp; decide))))))
    | false =>
      rw [hb] at c
      have hn := hn hb
      clear hfe hb
      (try simp (maxSteps := 9999999) (disch := omega) only [go_sem])
      (repeat' (first | refine AWpA.seq ?_ | refine AWpA.block ?_ | (with_reducible refine CondP.tt ?_) | (with_reducible refine CondP.ff ?_) | refine AWpA.condv (by simp (maxSteps := 9999999) (disch := omega) only [go_sem, hr, hu, hg, hL, g1, hat]; rfl) ?_ | ((first | (apply AWpA.region; (focus (simp (maxSteps := 9999999) (disch := omega) only [go_sem, hr, hu, hg, hL, g1, hat]; rfl))) | (apply AWpA.draw [] [] follows; (focus (first | rfl | decide)); (focus (simp (maxSteps := 9999999) (disch := omega) only [go_sem, hr, hu, hg, hL, g1, hat]; rfl)); (focus (simp (maxSteps := 9999999) (disch := omega) only [go_sem, hr, hu, hg, hL, g1, hat]; first | done | trivial)); (focus (simp (maxSteps := 9999999) (disch := omega) only [go_sem, hr, hu, hg, hL, g1, hat]; rfl))) | (apply TailK.go; (focus (simp (maxSteps := 9999999) (disch := omega) only [go_sem, hr, hu, hg, hL, g1, hat]; rfl))) | refine AWpA.skip ?_ | refine AWpA.exit ?_ | refine AWpA.ret ?_ | (with_reducible refine ARoundsA.succ ?_) | ((first | refine Runs.kt (by assumption) (fun h9 => ?_) | refine Runs.kf (by assumption) (fun h9 => ?_) | refine Runs.nt (by assumption) (fun h9 => ?_) | refine Runs.nf (by assumption) (fun h9 => ?_) | refine CondP.ht (by assumption) (fun h9 => ?_) | refine CondP.hf (by assumption) (fun h9 => ?_) | refine CondP.nt (by assumption) (fun h9 => ?_) | refine CondP.nf (by assumption) (fun h9 => ?_)); (try simp only [h9]); clear h9) | ((first | (with_reducible apply CallG.plain1 [1, 2, 3, 4, 5] (c)) | (with_reducible apply CallG.draw1 [1, 2, 3, 4, 5] (c))); (focus ((try refine And.intro (leAs_of_eq rfl) ?_); (try refine And.intro (leOL_of_eq rfl) ?_); simp (maxSteps := 9999999) (disch := omega) only [go_sem, hr, hu, hg, hL, g1, hat]; first | done | (repeat' (first | rfl | (refine And.intro ?_ ?_))))); (focus (simp (maxSteps := 9999999) (disch := omega) only [go_sem, hr, hu, hg, hL, g1, hat]; rfl)))); (try simp (maxSteps := 9999999) (disch := omega) only [go_sem, hr, hu, hg, hL, g1, hat]); (try (refine And.intro ?_ ?_; (focus (first | omega | (simp only [go_sem]; done) | (simp; done) | (simp; omega) | assumption))))) | ((first | refine CondP.split (fun hif => ?_) (fun hif => ?_) | refine Runs.part (fun hif => ?_) (fun hif => ?_)) <;> ((try simp only [hif]); (try simp only [decide_eq_true_eq, decide_eq_false_iff_not, Bool.not_eq_true, Bool.not_eq_false, Bool.not_eq_true', Bool.not_eq_false', beq_iff_eq, bne_iff_ne, bne_eq_false_iff_eq, beq_eq_false_iff_ne, ne_eq, Bool.and_eq_true, Bool.or_eq_true, Bool.or_eq_false_iff] at hif); (try (have h9 : _ = true := hif; simp only [h9])); (try (have h9 : _ = false := hif; simp only [h9])); (try simp (maxSteps := 9999999) (disch := omega) only [go_sem, hr, hu, hg, hL, g1, hat]); (try (refine And.intro ?_ ?_; (focus (first | omega | (simp only [go_sem]; done) | (simp; done) | (simp; omega) | assumption)))); (try (exfalso; omega; done))))))
      (apply Back.to (i + 1) [0, 1, 2, 3, 4, 5]; (focus ((try simp (maxSteps := 9999999) (disch := omega) only [go_sem, hr, hu, hg]); first | done | omega)); rotate_left; (focus (simp (maxSteps := 9999999) (disch := omega) only [go_sem, hr, hu, hg]; (try (repeat' (first | done | trivial | rfl | exact leAs_rfl _ | decide | (refine And.intro ?_ ?_) | (simp; done) | omega | (simp; decide)))))))
      exact ⟨by omega, hn⟩
  · obtain rfl : i = l.length := by omega
    have g1 : ((l.length : Int) < (l.length : Int)) = False := eq_false (by omega)
    have hno : shortI table site l = -1 := idxI_no fun q h => hq q h h
    rw [hno]
    clear hq
    (try simp (maxSteps := 9999999) (disch := omega) only [go_sem])
    (repeat' (first | refine AWpA.seq ?_ | refine AWpA.block ?_ | (with_reducible refine CondP.tt ?_) | (with_reducible refine CondP.ff ?_) | refine AWpA.condv (by simp (maxSteps := 9999999) (disch := omega) only [go_sem, hr, hu, hg, g1]; rfl) ?_ | ((first | (apply AWpA.region; (focus (simp (maxSteps := 9999999) (disch := omega) only [go_sem, hr, hu, hg, g1]; rfl))) | (apply AWpA.draw [] [] follows; (focus (first | rfl | decide)); (focus (simp (maxSteps := 9999999) (disch := omega) only [go_sem, hr, hu, hg, g1]; rfl)); (focus (simp (maxSteps := 9999999) (disch := omega) only [go_sem, hr, hu, hg, g1]; first | done | trivial)); (focus (simp (maxSteps := 9999999) (disch := omega) only [go_sem, hr, hu, hg, g1]; rfl))) | (apply TailK.go; (focus (simp (maxSteps := 9999999) (disch := omega) only [go_sem, hr, hu, hg, g1]; rfl))) | refine AWpA.skip ?_ | refine AWpA.exit ?_ | refine AWpA.ret ?_ | (with_reducible refine ARoundsA.succ ?_) | ((first | refine Runs.kt (by assumption) (fun h9 => ?_) | refine Runs.kf (by assumption) (fun h9 => ?_) | refine Runs.nt (by assumption) (fun h9 => ?_) | refine Runs.nf (by assumption) (fun h9 => ?_) | refine CondP.ht (by assumption) (fun h9 => ?_) | refine CondP.hf (by assumption) (fun h9 => ?_) | refine CondP.nt (by assumption) (fun h9 => ?_) | refine CondP.nf (by assumption) (fun h9 => ?_)); (try simp only [h9]); clear h9)); (try simp (maxSteps := 9999999) (disch := omega) only [go_sem, hr, hu, hg, g1]); (try (refine And.intro ?_ ?_; (focus (first | omega | (simp only [go_sem]; done) | (simp; done) | (simp; omega) | assumption))))) | ((first | refine CondP.split (fun hif => ?_) (fun hif => ?_) | refine Runs.part (fun hif => ?_) (fun hif => ?_)) <;> ((try simp only [hif]); (try simp only [decide_eq_true_eq, decide_eq_false_iff_not, Bool.not_eq_true, Bool.not_eq_false, Bool.not_eq_true', Bool.not_eq_false', beq_iff_eq, bne_iff_ne, bne_eq_false_iff_eq, beq_eq_false_iff_ne, ne_eq, Bool.and_eq_true, Bool.or_eq_true, Bool.or_eq_false_iff] at hif); (try (have h9 : _ = true := hif; simp only [h9])); (try (have h9 : _ = false := hif; simp only [h9])); (try simp (maxSteps := 9999999) (disch := omega) only [go_sem, hr, hu, hg, g1]); (try (refine And.intro ?_ ?_; (focus (first | omega | (simp only [go_sem]; done) | (simp; done) | (simp; omega) | assumption)))); (try (exfalso; omega; done))))))
    (apply Ret.det [0, 1, 2, 3, 4, 5]; (focus (first | exact .inl rfl | exact .inr rfl)); (focus (simp (maxSteps := 9999999) (disch := omega) only [go_sem, hr, hu, hg]; rfl)); (simp (maxSteps := 9999999) (disch := omega) only [go_sem, hr, hu, hg]; (try (repeat' (first | done | trivial | rfl | exact leAs_rfl _ | decide | (refine And.intro ?_ ?_) | (simp; done) | omega | (simp; decide))))))
theorem wshort_any (table : List En) (site : Int) (l : List Up) (ht : table.length ≤ 1099511627776) (hl : l.length ≤ 1099511627776) : ACall Try.prog 15 [.sl 0 0 table.length 9 none, I site, .sl 1 0 l.length 10 none] [.cells true (Re 0 table), .cells true (Ru 0 l)] (Det (I (shortI table site l)) [.cells true (Re 0 table), .cells true (Ru 0 l)]) := by
  have hr := re_ren 0 table
  have hu := ru_ren 0 l
  have hg := fun ρ M => ren_G (enc := Str) str_ren ρ M
  have c := bykey_any table ht
  have d := idxfU_any table site 0 l ht hl
  generalize shortI table site l = r at *
  refine ACall.startA c15_ok Try.func15 rfl Try.ntmps15 (by kernel_rfl) res15_ok rfl rfl rfl ?_; simp (maxSteps := 9999999) (disch := omega) only [go_sem]
  (repeat' (first | refine AWpA.seq ?_ | refine AWpA.block ?_ | (with_reducible refine CondP.tt ?_) | (with_reducible refine CondP.ff ?_) | refine AWpA.condv (by simp (maxSteps := 9999999) (disch := omega) only [go_sem, hr, hu, hg]; rfl) ?_ | ((first | (apply AWpA.region; (focus (simp (maxSteps := 9999999) (disch := omega) only [go_sem, hr, hu, hg]; rfl))) | (apply AWpA.draw [] [] follows; (focus (first | rfl | decide)); (focus (simp (maxSteps := 9999999) (disch := omega) only [go_sem, hr, hu, hg]; rfl)); (focus (simp (maxSteps := 9999999) (disch := omega) only [go_sem, hr, hu, hg]; first | done | trivial)); (focus (simp (maxSteps := 9999999) (disch := omega) only [go_sem, hr, hu, hg]; rfl))) | (apply TailK.go; (focus (simp (maxSteps := 9999999) (disch := omega) only [go_sem, hr, hu, hg]; rfl))) | refine AWpA.skip ?_ | refine AWpA.exit ?_ | refine AWpA.ret ?_ | (with_reducible refine ARoundsA.succ ?_) | ((first | refine Runs.kt (by assumption) (fun h9 => ?_) | refine Runs.kf (by assumption) (fun h9 => ?_) | refine Runs.nt (by assumption) (fun h9 => ?_) | refine Runs.nf (by assumption) (fun h9 => ?_) | refine CondP.ht (by assumption) (fun h9 => ?_) | refine CondP.hf (by assumption) (fun h9 => ?_) | refine CondP.nt (by assumption) (fun h9 => ?_) | refine CondP.nf (by assumption) (fun h9 => ?_)); (try simp only [h9]); clear h9) | ((first | (with_reducible apply CallG.plain1 [0] (c)) | (with_reducible apply CallG.draw1 [0] (c))); (focus ((try refine And.intro (leAs_of_eq rfl) ?_); (try refine And.intro (leOL_of_eq rfl) ?_); simp (maxSteps := 9999999) (disch := omega) only [go_sem, hr, hu, hg]; first | done | (repeat' (first | rfl | (refine And.intro ?_ ?_))))); (focus (simp (maxSteps := 9999999) (disch := omega) only [go_sem, hr, hu, hg]; rfl))) | ((first | (with_reducible apply CallG.plain1 [1, _, _, _, _, 0] (d)) | (with_reducible apply CallG.draw1 [1, _, _, _, _, 0] (d))); (focus ((try refine And.intro (leAs_of_eq rfl) ?_); (try refine And.intro (leOL_of_eq rfl) ?_); simp (maxSteps := 9999999) (disch := omega) only [go_sem, hr, hu, hg]; first | done | (repeat' (first | rfl | (refine And.intro ?_ ?_))))); (focus (simp (maxSteps := 9999999) (disch := omega) only [go_sem, hr, hu, hg]; rfl)))); (try simp (maxSteps := 9999999) (disch := omega) only [go_sem, hr, hu, hg]); (try (refine And.intro ?_ ?_; (focus (first | omega | (simp only [go_sem]; done) | (simp; done) | (simp; omega) | assumption))))) | ((first | refine CondP.split (fun hif => ?_) (fun hif => ?_) | refine Runs.part (fun hif => ?_) (fun hif => ?_)) <;> ((try simp only [hif]); (try simp only [decide_eq_true_eq, decide_eq_false_iff_not, Bool.not_eq_true, Bool.not_eq_false, Bool.not_eq_true', Bool.not_eq_false', beq_iff_eq, bne_iff_ne, bne_eq_false_iff_eq, beq_eq_false_iff_ne, ne_eq, Bool.and_eq_true, Bool.or_eq_true, Bool.or_eq_false_iff] at hif); (try (have h9 : _ = true := hif; simp only [h9])); (try (have h9 : _ = false := hif; simp only [h9])); (try simp (maxSteps := 9999999) (disch := omega) only [go_sem, hr, hu, hg]); (try (refine And.intro ?_ ?_; (focus (first | omega | (simp only [go_sem]; done) | (simp; done) | (simp; omega) | assumption)))); (try (exfalso; omega; done))))))
  (apply Ret.det [0, 1]; (focus (first | exact .inl rfl | exact .inr rfl)); (focus (simp (maxSteps := 9999999) (disch := omega) only [go_sem, hr, hu]; rfl)); (simp (maxSteps := 9999999) (disch := omega) only [go_sem, hr, hu]; (try (repeat' (first | done | trivial | rfl | exact leAs_rfl _ | decide | (refine And.intro ?_ ?_) | (simp; done) | omega | (simp; decide))))))
/- quidnunc/quidnuncref11.Find -/
noncomputable def c40_1 : ACode := .region false [⟨some 4, .move, [.c (.val (.int .i64 0))], none⟩] [] [] [0, 1] false [] []
noncomputable def c40_4 : ACode := .region false [⟨some 5, .move, [.c (.val (.int .i64 0))], none⟩] [] [] [0, 1, 5] false [] []
noncomputable def c40_9 : ACode := .region false [⟨some 6, .move, [.t 5], none⟩,
  ⟨some 7, .move, [.t 0], none⟩,
  ⟨some 8, .len, [.t 7], none⟩,
  ⟨some 9, .bin .lss, [.t 6, .t 8], none⟩] [] [] [0, 1, 5, 9] false [] []
noncomputable def c40_10 : ACode := .cond (.t 9) .skip (.exit 0)
noncomputable def c40_8 : ACode := .seq c40_9 c40_10
noncomputable def c40_14 : ACode := .region false [⟨some 12, .move, [.t 0], none⟩,
  ⟨some 13, .move, [.t 5], none⟩,
  ⟨some 14, .ixS 9, [.t 12, .t 13], none⟩,
  ⟨some 15, .addr 0, [.t 14], none⟩,
  ⟨some 16, .load false 1, [.t 15], none⟩,
  ⟨some 17, .move, [.t 1], none⟩,
  ⟨some 18, .bin .eql, [.t 16, .t 17], none⟩] [] [] [0, 1, 5, 18] false [] []
noncomputable def c40_17 : ACode := .region false [⟨some 19, .move, [.t 5], none⟩,
  ⟨some 4, .move, [.t 19], none⟩] [] [] [4] false [] []
noncomputable def c40_16 : ACode := .seq c40_17 .ret
noncomputable def c40_15 : ACode := .cond (.t 18) c40_16 .skip
noncomputable def c40_13 : ACode := .seq c40_14 c40_15
noncomputable def c40_12 : ACode := .block 1 c40_13
noncomputable def c40_18 : ACode := .region false [⟨some 10, .move, [.t 5], none⟩,
  ⟨some 11, .bin .add, [.t 10, .c (.val (.int .i64 1))], none⟩,
  ⟨some 5, .move, [.t 11], none⟩] [] [] [0, 1, 5] false [] []
noncomputable def c40_11 : ACode := .seq c40_12 c40_18
noncomputable def c40_7 : ACode := .seq c40_8 c40_11
noncomputable def c40_6 : ACode := .loop c40_7
noncomputable def c40_5 : ACode := .block 0 c40_6
noncomputable def c40_3 : ACode := .seq c40_4 c40_5
noncomputable def c40_20 : ACode := .region false [⟨some 4, .move, [.c (.val (.int .i64 (-1)))], none⟩] [] [] [4] false [] []
noncomputable def c40_19 : ACode := .seq c40_20 .ret
noncomputable def c40_2 : ACode := .seq c40_3 c40_19
noncomputable def c40_0 : ACode := .seq c40_1 c40_2
noncomputable def code40 : Code := (Try.f40.body).getD .skip
theorem c40_ok : compC Try.prog 20 code40 = some (strip c40_0) := by kernel_rfl
theorem res40_ok : Try.f40.results.toList.mapM (resC Try.prog) = some [(4, none)] := by kernel_rfl
/- quidnunc/quidnuncref05.Newer -/
noncomputable def c53_1 : ACode := .region false [⟨some 2, .box 0, [.t 0], none⟩,
  ⟨some 3, .box 0, [.t 1], none⟩,
  ⟨some 4, .move, [.c (.val (.bool false))], none⟩] [] [] [2, 3] true [] []
noncomputable def c53_4 : ACode := .region false [⟨some 5, .addr 3, [.t 2], none⟩,
  ⟨some 6, .load true 2, [.t 5], none⟩,
  ⟨some 7, .addr 3, [.t 3], none⟩,
  ⟨some 8, .load true 2, [.t 7], none⟩,
  ⟨some 9, .eqA true [(0, 0), (1, 0)], [.t 6, .t 8], none⟩] [] [] [2, 3, 9] false [] []
noncomputable def c53_7 : ACode := .region false [⟨some 10, .addr 3, [.t 2], none⟩,
  ⟨some 11, .load true 2, [.t 10], none⟩,
  ⟨some 12, .addr 3, [.t 3], none⟩,
  ⟨some 13, .load true 2, [.t 12], none⟩,
  ⟨some 14, .call 41, [.t 11, .t 13], none⟩,
  ⟨some 4, .move, [.t 14], none⟩] [] [] [4] true [] []
noncomputable def c53_6 : ACode := .seq c53_7 .ret
noncomputable def c53_5 : ACode := .cond (.t 9) c53_6 .skip
noncomputable def c53_3 : ACode := .seq c53_4 c53_5
noncomputable def c53_9 : ACode := .region false [⟨some 15, .addr 5, [.t 2], none⟩,
  ⟨some 16, .load true 2, [.t 15], none⟩,
  ⟨some 17, .addr 5, [.t 3], none⟩,
  ⟨some 18, .load true 2, [.t 17], none⟩,
  ⟨some 19, .call 41, [.t 16, .t 18], none⟩,
  ⟨some 4, .move, [.t 19], none⟩] [] [] [4] true [] []
noncomputable def c53_8 : ACode := .seq c53_9 .ret
noncomputable def c53_2 : ACode := .seq c53_3 c53_8
noncomputable def c53_0 : ACode := .seq c53_1 c53_2
noncomputable def code53 : Code := (Try.f53.body).getD .skip
theorem c53_ok : compC Try.prog 20 code53 = some (strip c53_0) := by kernel_rfl
theorem res53_ok : Try.f53.results.toList.mapM (resC Try.prog) = some [(4, none)] := by kernel_rfl
/- quidnunc/quidnuncref26.Of -/
noncomputable def c35_1 : ACode := .region false [⟨some 2, .box 0, [.t 0], none⟩,
  ⟨some 3, .box 0, [.t 1], none⟩,
  ⟨some 4, .move, [.c (.val (.bool false))], none⟩] [] [] [2, 3] true [] []
noncomputable def c35_3 : ACode := .region false [⟨some 6, .addr 0, [.t 3], none⟩,
  ⟨some 7, .load true 9, [.t 6], none⟩,
  ⟨some 5, .alloc [(.string ⟨#[]⟩), (.string ⟨#[]⟩), (.bool false), (.int .i64 0), (.int .i64 0), (.int .i64 0), (.int .i64 0), (.int .i64 0), (.int .i64 0)], [], none⟩,
  ⟨none, .store 9, [.t 5, .t 7], none⟩] [] [] [2, 5] true [] []
noncomputable def c35_5 : ACode := .region false [⟨some 8, .addr 0, [.t 2], none⟩,
  ⟨some 9, .load false 1, [.t 8], none⟩,
  ⟨some 10, .addr 0, [.t 5], none⟩,
  ⟨some 11, .load false 1, [.t 10], none⟩,
  ⟨some 12, .bin .eql, [.t 9, .t 11], none⟩,
  ⟨some 13, .move, [.t 12], none⟩,
  ⟨some 14, .addr 1, [.t 2], some (some 13, true)⟩,
  ⟨some 15, .load false 1, [.t 14], some (some 13, true)⟩,
  ⟨some 16, .addr 1, [.t 5], some (some 13, true)⟩,
  ⟨some 17, .load false 1, [.t 16], some (some 13, true)⟩,
  ⟨some 18, .bin .eql, [.t 15, .t 17], some (some 13, true)⟩,
  ⟨some 19, .pick, [.t 13, .t 18, .c (.val (.bool false))], none⟩,
  ⟨some 20, .move, [.t 19], none⟩,
  ⟨some 21, .addr 2, [.t 2], some (some 20, true)⟩,
  ⟨some 22, .load false 1, [.t 21], some (some 20, true)⟩,
  ⟨some 23, .addr 2, [.t 5], some (some 20, true)⟩,
  ⟨some 24, .load false 1, [.t 23], some (some 20, true)⟩,
  ⟨some 25, .eqB false, [.t 22, .t 24], some (some 20, true)⟩,
  ⟨some 26, .pick, [.t 20, .t 25, .c (.val (.bool false))], none⟩,
  ⟨some 27, .move, [.t 26], none⟩,
  ⟨some 28, .addr 3, [.t 2], some (some 27, true)⟩,
  ⟨some 29, .load true 2, [.t 28], some (some 27, true)⟩,
  ⟨some 30, .addr 3, [.t 5], some (some 27, true)⟩,
  ⟨some 31, .load true 2, [.t 30], some (some 27, true)⟩,
  ⟨some 32, .eqA false [(0, 0), (1, 0)], [.t 29, .t 31], some (some 27, true)⟩,
  ⟨some 33, .pick, [.t 27, .t 32, .c (.val (.bool false))], none⟩,
  ⟨some 4, .move, [.t 33], none⟩] [] [] [4] false [] []
noncomputable def c35_4 : ACode := .seq c35_5 .ret
noncomputable def c35_2 : ACode := .seq c35_3 c35_4
noncomputable def c35_0 : ACode := .seq c35_1 c35_2
noncomputable def code35 : Code := (Try.f35.body).getD .skip
theorem c35_ok : compC Try.prog 34 code35 = some (strip c35_0) := by kernel_rfl
theorem res35_ok : Try.f35.results.toList.mapM (resC Try.prog) = some [(4, none)] := by kernel_rfl
/- quidnunc/quidnuncref26.Fell -/
noncomputable def c26_1 : ACode := .region false [⟨some 4, .move, [.c (.val (.string ⟨#[]⟩))], none⟩,
  ⟨some 5, .move, [.c (.val (.bool false))], none⟩] [] [] [0, 1] false [] []
noncomputable def c26_4 : ACode := .region false [⟨some 6, .move, [.c (.val (.int .i64 0))], none⟩] [] [] [0, 1, 6] false [] []
noncomputable def c26_9 : ACode := .region false [⟨some 8, .move, [.t 6], none⟩,
  ⟨some 9, .move, [.t 0], none⟩,
  ⟨some 10, .len, [.t 9], none⟩,
  ⟨some 11, .bin .lss, [.t 8, .t 10], none⟩] [] [] [0, 1, 6, 11] false [] []
noncomputable def c26_10 : ACode := .cond (.t 11) .skip (.exit 0)
noncomputable def c26_8 : ACode := .seq c26_9 c26_10
noncomputable def c26_14 : ACode := .region false [⟨some 14, .move, [.t 1], none⟩,
  ⟨some 15, .move, [.t 0], none⟩,
  ⟨some 16, .move, [.t 6], none⟩,
  ⟨some 17, .ixS 9, [.t 15, .t 16], none⟩,
  ⟨some 18, .addr 0, [.t 17], none⟩,
  ⟨some 19, .load false 1, [.t 18], none⟩,
  ⟨some 20, .call 40, [.t 14, .t 19], none⟩,
  ⟨some 7, .move, [.t 20], none⟩] [] [] [0, 1, 6, 7] true [] []
noncomputable def c26_16 : ACode := .region true [⟨some 21, .move, [.t 7], none⟩,
  ⟨some 22, .bin .lss, [.t 21, .c (.val (.int .i64 0))], none⟩,
  ⟨some 23, .move, [.t 22], none⟩,
  ⟨some 24, .move, [.t 0], some (some 23, false)⟩,
  ⟨some 25, .move, [.t 6], some (some 23, false)⟩,
  ⟨some 26, .ixS 9, [.t 24, .t 25], some (some 23, false)⟩,
  ⟨some 27, .load true 9, [.t 26], some (some 23, false)⟩,
  ⟨some 28, .move, [.t 1], some (some 23, false)⟩,
  ⟨some 29, .move, [.t 7], some (some 23, false)⟩,
  ⟨some 30, .ixS 9, [.t 28, .t 29], some (some 23, false)⟩,
  ⟨some 31, .load true 9, [.t 30], some (some 23, false)⟩,
  ⟨some 32, .call 53, [.t 27, .t 31], some (some 23, false)⟩,
  ⟨some 33, .pick, [.t 23, .c (.val (.bool true)), .t 32], none⟩] [] [] [0, 1, 6, 33] true [] []
noncomputable def c26_19 : ACode := .region false [⟨some 34, .move, [.t 0], none⟩,
  ⟨some 35, .move, [.t 6], none⟩,
  ⟨some 36, .ixS 9, [.t 34, .t 35], none⟩,
  ⟨some 37, .addr 0, [.t 36], none⟩,
  ⟨some 38, .load false 1, [.t 37], none⟩,
  ⟨some 4, .move, [.t 38], none⟩,
  ⟨some 5, .move, [.c (.val (.bool true))], none⟩] [] [] [4, 5] false [] []
noncomputable def c26_18 : ACode := .seq c26_19 .ret
noncomputable def c26_17 : ACode := .cond (.t 33) c26_18 .skip
noncomputable def c26_15 : ACode := .seq c26_16 c26_17
noncomputable def c26_13 : ACode := .seq c26_14 c26_15
noncomputable def c26_12 : ACode := .block 1 c26_13
noncomputable def c26_20 : ACode := .region false [⟨some 12, .move, [.t 6], none⟩,
  ⟨some 13, .bin .add, [.t 12, .c (.val (.int .i64 1))], none⟩,
  ⟨some 6, .move, [.t 13], none⟩] [] [] [0, 1, 6] false [] []
noncomputable def c26_11 : ACode := .seq c26_12 c26_20
noncomputable def c26_7 : ACode := .seq c26_8 c26_11
noncomputable def c26_6 : ACode := .loop c26_7
noncomputable def c26_5 : ACode := .block 0 c26_6
noncomputable def c26_3 : ACode := .seq c26_4 c26_5
noncomputable def c26_22 : ACode := .region false [⟨some 4, .move, [.c (.val (.string ⟨#[]⟩))], none⟩,
  ⟨some 5, .move, [.c (.val (.bool false))], none⟩] [] [] [4, 5] false [] []
noncomputable def c26_21 : ACode := .seq c26_22 .ret
noncomputable def c26_2 : ACode := .seq c26_3 c26_21
noncomputable def c26_0 : ACode := .seq c26_1 c26_2
noncomputable def code26 : Code := (Try.f26.body).getD .skip
theorem c26_ok : compC Try.prog 39 code26 = some (strip c26_0) := by kernel_rfl
theorem res26_ok : Try.f26.results.toList.mapM (resC Try.prog) = some [(4, none), (5, none)] := by kernel_rfl
/- quidnunc/quidnuncref26.Strange -/
noncomputable def c14_1 : ACode := .region false [⟨some 4, .move, [.c (.val (.int .i64 0))], none⟩] [] [] [0, 1] false [] []
noncomputable def c14_4 : ACode := .region false [⟨some 5, .move, [.c (.val (.int .i64 0))], none⟩] [] [] [0, 1, 5] false [] []
noncomputable def c14_9 : ACode := .region false [⟨some 8, .move, [.t 5], none⟩,
  ⟨some 9, .move, [.t 0], none⟩,
  ⟨some 10, .len, [.t 9], none⟩,
  ⟨some 11, .bin .lss, [.t 8, .t 10], none⟩] [] [] [0, 1, 5, 11] false [] []
noncomputable def c14_10 : ACode := .cond (.t 11) .skip (.exit 0)
noncomputable def c14_8 : ACode := .seq c14_9 c14_10
noncomputable def c14_14 : ACode := .region false [⟨some 6, .move, [.c (.val (.bool false))], none⟩] [] [] [0, 1, 5, 6] false [] []
noncomputable def c14_17 : ACode := .region false [⟨some 7, .move, [.c (.val (.int .i64 0))], none⟩] [] [] [0, 1, 5, 6, 7] false [] []
noncomputable def c14_22 : ACode := .region false [⟨some 14, .move, [.t 7], none⟩,
  ⟨some 15, .move, [.t 1], none⟩,
  ⟨some 16, .len, [.t 15], none⟩,
  ⟨some 17, .bin .lss, [.t 14, .t 16], none⟩] [] [] [0, 1, 5, 6, 7, 17] false [] []
noncomputable def c14_23 : ACode := .cond (.t 17) .skip (.exit 2)
noncomputable def c14_21 : ACode := .seq c14_22 c14_23
noncomputable def c14_26 : ACode := .region true [⟨some 20, .move, [.t 6], none⟩,
  ⟨some 21, .move, [.t 20], none⟩,
  ⟨some 22, .move, [.t 0], some (some 21, false)⟩,
  ⟨some 23, .move, [.t 5], some (some 21, false)⟩,
  ⟨some 24, .ixS 9, [.t 22, .t 23], some (some 21, false)⟩,
  ⟨some 25, .load true 9, [.t 24], some (some 21, false)⟩,
  ⟨some 26, .move, [.t 1], some (some 21, false)⟩,
  ⟨some 27, .move, [.t 7], some (some 21, false)⟩,
  ⟨some 28, .ixS 10, [.t 26, .t 27], some (some 21, false)⟩,
  ⟨some 29, .load true 10, [.t 28], some (some 21, false)⟩,
  ⟨some 30, .call 35, [.t 25, .t 29], some (some 21, false)⟩,
  ⟨some 31, .pick, [.t 21, .c (.val (.bool true)), .t 30], none⟩,
  ⟨some 6, .move, [.t 31], none⟩] [] [] [0, 1, 5, 6, 7] true [] []
noncomputable def c14_25 : ACode := .block 3 c14_26
noncomputable def c14_27 : ACode := .region false [⟨some 18, .move, [.t 7], none⟩,
  ⟨some 19, .bin .add, [.t 18, .c (.val (.int .i64 1))], none⟩,
  ⟨some 7, .move, [.t 19], none⟩] [] [] [0, 1, 5, 6, 7] false [] []
noncomputable def c14_24 : ACode := .seq c14_25 c14_27
noncomputable def c14_20 : ACode := .seq c14_21 c14_24
noncomputable def c14_19 : ACode := .loop c14_20
noncomputable def c14_18 : ACode := .block 2 c14_19
noncomputable def c14_16 : ACode := .seq c14_17 c14_18
noncomputable def c14_29 : ACode := .region false [⟨some 32, .move, [.t 6], none⟩,
  ⟨some 33, .un .not, [.t 32], none⟩] [] [] [0, 1, 5, 33] false [] []
noncomputable def c14_32 : ACode := .region false [⟨some 34, .move, [.t 5], none⟩,
  ⟨some 4, .move, [.t 34], none⟩] [] [] [4] false [] []
noncomputable def c14_31 : ACode := .seq c14_32 .ret
noncomputable def c14_30 : ACode := .cond (.t 33) c14_31 .skip
noncomputable def c14_28 : ACode := .seq c14_29 c14_30
noncomputable def c14_15 : ACode := .seq c14_16 c14_28
noncomputable def c14_13 : ACode := .seq c14_14 c14_15
noncomputable def c14_12 : ACode := .block 1 c14_13
noncomputable def c14_33 : ACode := .region false [⟨some 12, .move, [.t 5], none⟩,
  ⟨some 13, .bin .add, [.t 12, .c (.val (.int .i64 1))], none⟩,
  ⟨some 5, .move, [.t 13], none⟩] [] [] [0, 1, 5] false [] []
noncomputable def c14_11 : ACode := .seq c14_12 c14_33
noncomputable def c14_7 : ACode := .seq c14_8 c14_11
noncomputable def c14_6 : ACode := .loop c14_7
noncomputable def c14_5 : ACode := .block 0 c14_6
noncomputable def c14_3 : ACode := .seq c14_4 c14_5
noncomputable def c14_35 : ACode := .region false [⟨some 4, .move, [.c (.val (.int .i64 (-1)))], none⟩] [] [] [4] false [] []
noncomputable def c14_34 : ACode := .seq c14_35 .ret
noncomputable def c14_2 : ACode := .seq c14_3 c14_34
noncomputable def c14_0 : ACode := .seq c14_1 c14_2
noncomputable def code14 : Code := (Try.f14.body).getD .skip
theorem c14_ok : compC Try.prog 35 code14 = some (strip c14_0) := by kernel_rfl
theorem res14_ok : Try.f14.results.toList.mapM (resC Try.prog) = some [(4, none)] := by kernel_rfl
/- quidnunc/quidnuncref26.Short -/
noncomputable def c16_1 : ACode := .region false [⟨some 6, .move, [.c (.val (.int .i64 0))], none⟩] [] [] [0, 1, 2] false [] []
noncomputable def c16_4 : ACode := .region false [⟨some 7, .move, [.c (.val (.int .i64 0))], none⟩] [] [] [0, 1, 2, 7] false [] []
noncomputable def c16_9 : ACode := .region false [⟨some 9, .move, [.t 7], none⟩,
  ⟨some 10, .move, [.t 2], none⟩,
  ⟨some 11, .len, [.t 10], none⟩,
  ⟨some 12, .bin .lss, [.t 9, .t 11], none⟩] [] [] [0, 1, 2, 7, 12] false [] []
noncomputable def c16_10 : ACode := .cond (.t 12) .skip (.exit 0)
noncomputable def c16_8 : ACode := .seq c16_9 c16_10
noncomputable def c16_15 : ACode := .region false [⟨some 15, .move, [.t 2], none⟩,
  ⟨some 16, .move, [.t 7], none⟩,
  ⟨some 17, .ixS 10, [.t 15, .t 16], none⟩,
  ⟨some 18, .addr 9, [.t 17], none⟩,
  ⟨some 19, .load false 1, [.t 18], none⟩,
  ⟨some 20, .un .not, [.t 19], none⟩,
  ⟨some 21, .move, [.t 20], none⟩,
  ⟨some 22, .move, [.t 2], some (some 21, false)⟩,
  ⟨some 23, .move, [.t 7], some (some 21, false)⟩,
  ⟨some 24, .ixS 10, [.t 22, .t 23], some (some 21, false)⟩,
  ⟨some 25, .addr 0, [.t 24], some (some 21, false)⟩,
  ⟨some 26, .addr 3, [.t 25], some (some 21, false)⟩,
  ⟨some 27, .addr 1, [.t 26], some (some 21, false)⟩,
  ⟨some 28, .load false 1, [.t 27], some (some 21, false)⟩,
  ⟨some 29, .move, [.t 1], some (some 21, false)⟩,
  ⟨some 30, .bin .neq, [.t 28, .t 29], some (some 21, false)⟩,
  ⟨some 31, .pick, [.t 21, .c (.val (.bool true)), .t 30], none⟩] [] [] [0, 1, 2, 7, 31] false [] []
noncomputable def c16_16 : ACode := .cond (.t 31) (.exit 1) .skip
noncomputable def c16_14 : ACode := .seq c16_15 c16_16
noncomputable def c16_18 : ACode := .region false [⟨some 32, .move, [.t 0], none⟩,
  ⟨some 33, .move, [.t 2], none⟩,
  ⟨some 34, .move, [.t 7], none⟩,
  ⟨some 35, .ixS 10, [.t 33, .t 34], none⟩,
  ⟨some 36, .addr 0, [.t 35], none⟩,
  ⟨some 37, .addr 0, [.t 36], none⟩,
  ⟨some 38, .load false 1, [.t 37], none⟩,
  ⟨some 39, .call 40, [.t 32, .t 38], none⟩,
  ⟨some 8, .move, [.t 39], none⟩] [] [] [0, 1, 2, 7, 8] true [] []
noncomputable def c16_20 : ACode := .region true [⟨some 40, .move, [.t 8], none⟩,
  ⟨some 41, .bin .lss, [.t 40, .c (.val (.int .i64 0))], none⟩,
  ⟨some 42, .move, [.t 41], none⟩,
  ⟨some 43, .move, [.t 2], some (some 42, false)⟩,
  ⟨some 44, .move, [.t 7], some (some 42, false)⟩,
  ⟨some 45, .ixS 10, [.t 43, .t 44], some (some 42, false)⟩,
  ⟨some 46, .addr 0, [.t 45], some (some 42, false)⟩,
  ⟨some 47, .addr 3, [.t 46], some (some 42, false)⟩,
  ⟨some 48, .load true 2, [.t 47], some (some 42, false)⟩,
  ⟨some 49, .move, [.t 0], some (some 42, false)⟩,
  ⟨some 50, .move, [.t 8], some (some 42, false)⟩,
  ⟨some 51, .ixS 9, [.t 49, .t 50], some (some 42, false)⟩,
  ⟨some 52, .addr 3, [.t 51], some (some 42, false)⟩,
  ⟨some 53, .load true 2, [.t 52], some (some 42, false)⟩,
  ⟨some 54, .call 41, [.t 48, .t 53], some (some 42, false)⟩,
  ⟨some 55, .pick, [.t 42, .c (.val (.bool true)), .t 54], none⟩] [] [] [0, 1, 2, 7, 55] true [] []
noncomputable def c16_23 : ACode := .region false [⟨some 56, .move, [.t 7], none⟩,
  ⟨some 6, .move, [.t 56], none⟩] [] [] [6] false [] []
noncomputable def c16_22 : ACode := .seq c16_23 .ret
noncomputable def c16_21 : ACode := .cond (.t 55) c16_22 .skip
noncomputable def c16_19 : ACode := .seq c16_20 c16_21
noncomputable def c16_17 : ACode := .seq c16_18 c16_19
noncomputable def c16_13 : ACode := .seq c16_14 c16_17
noncomputable def c16_12 : ACode := .block 1 c16_13
noncomputable def c16_24 : ACode := .region false [⟨some 13, .move, [.t 7], none⟩,
  ⟨some 14, .bin .add, [.t 13, .c (.val (.int .i64 1))], none⟩,
  ⟨some 7, .move, [.t 14], none⟩] [] [] [0, 1, 2, 7] false [] []
noncomputable def c16_11 : ACode := .seq c16_12 c16_24
noncomputable def c16_7 : ACode := .seq c16_8 c16_11
noncomputable def c16_6 : ACode := .loop c16_7
noncomputable def c16_5 : ACode := .block 0 c16_6
noncomputable def c16_3 : ACode := .seq c16_4 c16_5
noncomputable def c16_26 : ACode := .region false [⟨some 6, .move, [.c (.val (.int .i64 (-1)))], none⟩] [] [] [6] false [] []
noncomputable def c16_25 : ACode := .seq c16_26 .ret
noncomputable def c16_2 : ACode := .seq c16_3 c16_25
noncomputable def c16_0 : ACode := .seq c16_1 c16_2
noncomputable def code16 : Code := (Try.f16.body).getD .skip
theorem c16_ok : compC Try.prog 57 code16 = some (strip c16_0) := by kernel_rfl
theorem res16_ok : Try.f16.results.toList.mapM (resC Try.prog) = some [(6, none)] := by kernel_rfl
theorem wnewer_any (a b : En) : ACall Try.prog 53 [EnA a, EnA b] [] (Det (Bo (newerB a b)) []) := by
  refine ACall.startA c53_ok Try.func53 rfl Try.ntmps53 (by kernel_rfl) res53_ok rfl rfl rfl ?_; simp (maxSteps := 9999999) (disch := omega) only [go_sem]
  (repeat' (first | refine AWpA.seq ?_ | refine AWpA.block ?_ | (with_reducible refine CondP.tt ?_) | (with_reducible refine CondP.ff ?_) | refine AWpA.condv (by simp (maxSteps := 9999999) (disch := omega) only [go_sem]; rfl) ?_ | ((first | (apply AWpA.region; (focus (simp (maxSteps := 9999999) (disch := omega) only [go_sem]; rfl))) | (apply AWpA.draw [] [] follows; (focus (first | rfl | decide)); (focus (simp (maxSteps := 9999999) (disch := omega) only [go_sem]; rfl)); (focus (simp (maxSteps := 9999999) (disch := omega) only [go_sem]; first | done | trivial)); (focus (simp (maxSteps := 9999999) (disch := omega) only [go_sem]; rfl))) | (apply TailK.go; (focus (simp (maxSteps := 9999999) (disch := omega) only [go_sem]; rfl))) | refine AWpA.skip ?_ | refine AWpA.exit ?_ | refine AWpA.ret ?_ | (with_reducible refine ARoundsA.succ ?_) | ((first | refine Runs.kt (by assumption) (fun h9 => ?_) | refine Runs.kf (by assumption) (fun h9 => ?_) | refine Runs.nt (by assumption) (fun h9 => ?_) | refine Runs.nf (by assumption) (fun h9 => ?_) | refine CondP.ht (by assumption) (fun h9 => ?_) | refine CondP.hf (by assumption) (fun h9 => ?_) | refine CondP.nt (by assumption) (fun h9 => ?_) | refine CondP.nf (by assumption) (fun h9 => ?_)); (try simp only [h9]); clear h9) | ((first | (with_reducible apply CallG.plain1 [] (later_any _ _)) | (with_reducible apply CallG.draw1 [] (later_any _ _))); (focus ((try refine And.intro (leAs_of_eq rfl) ?_); (try refine And.intro (leOL_of_eq rfl) ?_); simp (maxSteps := 9999999) (disch := omega) only [go_sem]; first | done | (repeat' (first | rfl | (refine And.intro ?_ ?_))))); (focus (simp (maxSteps := 9999999) (disch := omega) only [go_sem]; rfl)))); (try simp (maxSteps := 9999999) (disch := omega) only [go_sem]); (try (refine And.intro ?_ ?_; (focus (first | omega | (simp only [go_sem]; done) | (simp; done) | (simp; omega) | assumption))))) | ((first | refine CondP.split (fun hif => ?_) (fun hif => ?_) | refine Runs.part (fun hif => ?_) (fun hif => ?_)) <;> ((try simp only [hif]); (try simp only [decide_eq_true_eq, decide_eq_false_iff_not, Bool.not_eq_true, Bool.not_eq_false, Bool.not_eq_true', Bool.not_eq_false', beq_iff_eq, bne_iff_ne, bne_eq_false_iff_eq, beq_eq_false_iff_ne, ne_eq, Bool.and_eq_true, Bool.or_eq_true, Bool.or_eq_false_iff] at hif); (try (have h9 : _ = true := hif; simp only [h9])); (try (have h9 : _ = false := hif; simp only [h9])); (try simp (maxSteps := 9999999) (disch := omega) only [go_sem]); (try (refine And.intro ?_ ?_; (focus (first | omega | (simp only [go_sem]; done) | (simp; done) | (simp; omega) | assumption)))); (try (exfalso; omega; done))))))
  all_goals
    (apply Ret.det []; (focus (first | exact .inl rfl | exact .inr rfl)); (focus (simp (maxSteps := 9999999) (disch := omega) only [go_sem]; rfl)); (simp (maxSteps := 9999999) (disch := omega) only [go_sem]; (try (repeat' (first | done | trivial | rfl | exact leAs_rfl _ | decide | (refine And.intro ?_ ?_) | (simp; done) | omega | (simp; decide))))))
    all_goals (simp_all [newerB, eqSt])
theorem efind_any (o : Nat) (l : List En) (k : ByteArray) (hl : l.length ≤ 1099511627776) : ACall Try.prog 40 [.sl 0 o l.length 9 none, Str k] [.cells true (Re o l)] (Det (I (firstK l k)) [.cells true (Re o l)]) := by
  have hr := re_ren o l
  have hlen := re_len o l
  refine ACall.startA c40_ok Try.func40 rfl Try.ntmps40 (by kernel_rfl) res40_ok rfl rfl rfl ?_; simp (maxSteps := 9999999) (disch := omega) only [go_sem]
  (repeat' (first | refine AWpA.seq ?_ | refine AWpA.block ?_ | (with_reducible refine CondP.tt ?_) | (with_reducible refine CondP.ff ?_) | refine AWpA.condv (by simp (maxSteps := 9999999) (disch := omega) only [go_sem, hr]; rfl) ?_ | ((first | (apply AWpA.region; (focus (simp (maxSteps := 9999999) (disch := omega) only [go_sem, hr]; rfl))) | (apply AWpA.draw [] [] follows; (focus (first | rfl | decide)); (focus (simp (maxSteps := 9999999) (disch := omega) only [go_sem, hr]; rfl)); (focus (simp (maxSteps := 9999999) (disch := omega) only [go_sem, hr]; first | done | trivial)); (focus (simp (maxSteps := 9999999) (disch := omega) only [go_sem, hr]; rfl))) | (apply TailK.go; (focus (simp (maxSteps := 9999999) (disch := omega) only [go_sem, hr]; rfl))) | refine AWpA.skip ?_ | refine AWpA.exit ?_ | refine AWpA.ret ?_ | (with_reducible refine ARoundsA.succ ?_) | ((first | refine Runs.kt (by assumption) (fun h9 => ?_) | refine Runs.kf (by assumption) (fun h9 => ?_) | refine Runs.nt (by assumption) (fun h9 => ?_) | refine Runs.nf (by assumption) (fun h9 => ?_) | refine CondP.ht (by assumption) (fun h9 => ?_) | refine CondP.hf (by assumption) (fun h9 => ?_) | refine CondP.nt (by assumption) (fun h9 => ?_) | refine CondP.nf (by assumption) (fun h9 => ?_)); (try simp only [h9]); clear h9)); (try simp (maxSteps := 9999999) (disch := omega) only [go_sem, hr]); (try (refine And.intro ?_ ?_; (focus (first | omega | (simp only [go_sem]; done) | (simp; done) | (simp; omega) | assumption))))) | ((first | refine CondP.split (fun hif => ?_) (fun hif => ?_) | refine Runs.part (fun hif => ?_) (fun hif => ?_)) <;> ((try simp only [hif]); (try simp only [decide_eq_true_eq, decide_eq_false_iff_not, Bool.not_eq_true, Bool.not_eq_false, Bool.not_eq_true', Bool.not_eq_false', beq_iff_eq, bne_iff_ne, bne_eq_false_iff_eq, beq_eq_false_iff_ne, ne_eq, Bool.and_eq_true, Bool.or_eq_true, Bool.or_eq_false_iff] at hif); (try (have h9 : _ = true := hif; simp only [h9])); (try (have h9 : _ = false := hif; simp only [h9])); (try simp (maxSteps := 9999999) (disch := omega) only [go_sem, hr]); (try (refine And.intro ?_ ?_; (focus (first | omega | (simp only [go_sem]; done) | (simp; done) | (simp; omega) | assumption)))); (try (exfalso; omega; done))))))
  (apply AWpA.loopL (fun i : Nat => [(0, .sl 0 o l.length 9 none), (1, Str k), (5, I i)]) (fun i => [.cells true (Re o l)]) (fun i => l.length - i) (fun i => i ≤ l.length ∧ ∀ q (h : q < l.length), q < i → decide (l[q].key = k) = false) (0) [0]; rotate_left; (focus (simp (maxSteps := 9999999) (disch := omega) only [go_sem, hr]; (try (repeat' (first | done | trivial | rfl | exact leAs_rfl _ | decide | (refine And.intro ?_ ?_) | (simp; done) | omega | (simp; decide)))))); rotate_right)
  · exact ⟨Nat.zero_le _, fun q h hq => by omega⟩
  rintro i ⟨hi, hq⟩
  (try simp only at hi hq)
  by_cases hil : i < l.length
  · have g1 : ((i : Int) < (l.length : Int)) = True := eq_true (by omega)
    have hk0 := re_key o l i hil
    have hfe : decide (l[i].key = k) = true → firstK l k = i := fun h => idxI_at hil hq h
    have hn : decide (l[i].key = k) = false → ∀ q (h : q < l.length), q < i + 1 → decide (l[q].key = k) = false := fun h q hl hq' => by
      rcases Nat.lt_or_eq_of_le (Nat.le_of_lt_succ hq') with h' | rfl
      · exact hq q hl h'
      · exact h
    clear hq
    generalize l[i] = x at *
    by_cases he : x.key = k
    · have hb : (x.key == k) = true := by rw [ba_dec, decide_eq_true he]
      rw [hfe (decide_eq_true he)]
      clear hn hfe
      (try simp (maxSteps := 9999999) (disch := omega) only [go_sem])
      (repeat' (first | refine AWpA.seq ?_ | refine AWpA.block ?_ | (with_reducible refine CondP.tt ?_) | (with_reducible refine CondP.ff ?_) | refine AWpA.condv (by simp (maxSteps := 9999999) (disch := omega) only [go_sem, hr, hlen, g1, hk0, hb]; rfl) ?_ | ((first | (apply AWpA.region; (focus (simp (maxSteps := 9999999) (disch := omega) only [go_sem, hr, hlen, g1, hk0, hb]; rfl))) | (apply AWpA.draw [] [] follows; (focus (first | rfl | decide)); (focus (simp (maxSteps := 9999999) (disch := omega) only [go_sem, hr, hlen, g1, hk0, hb]; rfl)); (focus (simp (maxSteps := 9999999) (disch := omega) only [go_sem, hr, hlen, g1, hk0, hb]; first | done | trivial)); (focus (simp (maxSteps := 9999999) (disch := omega) only [go_sem, hr, hlen, g1, hk0, hb]; rfl))) | (apply TailK.go; (focus (simp (maxSteps := 9999999) (disch := omega) only [go_sem, hr, hlen, g1, hk0, hb]; rfl))) | refine AWpA.skip ?_ | refine AWpA.exit ?_ | refine AWpA.ret ?_ | (with_reducible refine ARoundsA.succ ?_) | ((first | refine Runs.kt (by assumption) (fun h9 => ?_) | refine Runs.kf (by assumption) (fun h9 => ?_) | refine Runs.nt (by assumption) (fun h9 => ?_) | refine Runs.nf (by assumption) (fun h9 => ?_) | refine CondP.ht (by assumption) (fun h9 => ?_) | refine CondP.hf (by assumption) (fun h9 => ?_) | refine CondP.nt (by assumption) (fun h9 => ?_) | refine CondP.nf (by assumption) (fun h9 => ?_)); (try simp only [h9]); clear h9)); (try simp (maxSteps := 9999999) (disch := omega) only [go_sem, hr, hlen, g1, hk0, hb]); (try (refine And.intro ?_ ?_; (focus (first | omega | (simp only [go_sem]; done) | (simp; done) | (simp; omega) | assumption))))) | ((first | refine CondP.split (fun hif => ?_) (fun hif => ?_) | refine Runs.part (fun hif => ?_) (fun hif => ?_)) <;> ((try simp only [hif]); (try simp only [decide_eq_true_eq, decide_eq_false_iff_not, Bool.not_eq_true, Bool.not_eq_false, Bool.not_eq_true', Bool.not_eq_false', beq_iff_eq, bne_iff_ne, bne_eq_false_iff_eq, beq_eq_false_iff_ne, ne_eq, Bool.and_eq_true, Bool.or_eq_true, Bool.or_eq_false_iff] at hif); (try (have h9 : _ = true := hif; simp only [h9])); (try (have h9 : _ = false := hif; simp only [h9])); (try simp (maxSteps := 9999999) (disch := omega) only [go_sem, hr, hlen, g1, hk0, hb]); (try (refine And.intro ?_ ?_; (focus (first | omega | (simp only [go_sem]; done) | (simp; done) | (simp; omega) | assumption)))); (try (exfalso; omega; done))))))
      (apply Ret.det [0]; (focus (first | exact .inl rfl | exact .inr rfl)); (focus (simp (maxSteps := 9999999) (disch := omega) only [go_sem, hr]; rfl)); (simp (maxSteps := 9999999) (disch := omega) only [go_sem, hr]; (try (repeat' (first | done | trivial | rfl | exact leAs_rfl _ | decide | (refine And.intro ?_ ?_) | (simp; done) | omega | (simp; decide))))))
    · have hb : (x.key == k) = false := by rw [ba_dec, decide_eq_false he]
      have hn := hn (decide_eq_false he)
      clear hfe
      (try simp (maxSteps := 9999999) (disch := omega) only [go_sem])
      (repeat' (first | refine AWpA.seq ?_ | refine AWpA.block ?_ | (with_reducible refine CondP.tt ?_) | (with_reducible refine CondP.ff ?_) | refine AWpA.condv (by simp (maxSteps := 9999999) (disch := omega) only [go_sem, hr, hlen, g1, hk0, hb]; rfl) ?_ | ((first | (apply AWpA.region; (focus (simp (maxSteps := 9999999) (disch := omega) only [go_sem, hr, hlen, g1, hk0, hb]; rfl))) | (apply AWpA.draw [] [] follows; (focus (first | rfl | decide)); (focus (simp (maxSteps := 9999999) (disch := omega) only [go_sem, hr, hlen, g1, hk0, hb]; rfl)); (focus (simp (maxSteps := 9999999) (disch := omega) only [go_sem, hr, hlen, g1, hk0, hb]; first | done | trivial)); (focus (simp (maxSteps := 9999999) (disch := omega) only [go_sem, hr, hlen, g1, hk0, hb]; rfl))) | (apply TailK.go; (focus (simp (maxSteps := 9999999) (disch := omega) only [go_sem, hr, hlen, g1, hk0, hb]; rfl))) | refine AWpA.skip ?_ | refine AWpA.exit ?_ | refine AWpA.ret ?_ | (with_reducible refine ARoundsA.succ ?_) | ((first | refine Runs.kt (by assumption) (fun h9 => ?_) | refine Runs.kf (by assumption) (fun h9 => ?_) | refine Runs.nt (by assumption) (fun h9 => ?_) | refine Runs.nf (by assumption) (fun h9 => ?_) | refine CondP.ht (by assumption) (fun h9 => ?_) | refine CondP.hf (by assumption) (fun h9 => ?_) | refine CondP.nt (by assumption) (fun h9 => ?_) | refine CondP.nf (by assumption) (fun h9 => ?_)); (try simp only [h9]); clear h9)); (try simp (maxSteps := 9999999) (disch := omega) only [go_sem, hr, hlen, g1, hk0, hb]); (try (refine And.intro ?_ ?_; (focus (first | omega | (simp only [go_sem]; done) | (simp; done) | (simp; omega) | assumption))))) | ((first | refine CondP.split (fun hif => ?_) (fun hif => ?_) | refine Runs.part (fun hif => ?_) (fun hif => ?_)) <;> ((try simp only [hif]); (try simp only [decide_eq_true_eq, decide_eq_false_iff_not, Bool.not_eq_true, Bool.not_eq_false, Bool.not_eq_true', Bool.not_eq_false', beq_iff_eq, bne_iff_ne, bne_eq_false_iff_eq, beq_eq_false_iff_ne, ne_eq, Bool.and_eq_true, Bool.or_eq_true, Bool.or_eq_false_iff] at hif); (try (have h9 : _ = true := hif; simp only [h9])); (try (have h9 : _ = false := hif; simp only [h9])); (try simp (maxSteps := 9999999) (disch := omega) only [go_sem, hr, hlen, g1, hk0, hb]); (try (refine And.intro ?_ ?_; (focus (first | omega | (simp only [go_sem]; done) | (simp; done) | (simp; omega) | assumption)))); (try (exfalso; omega; done))))))
      (apply Back.to (i + 1) [0]; (focus ((try simp (maxSteps := 9999999) (disch := omega) only [go_sem, hr]); first | done | omega)); rotate_left; (focus (simp (maxSteps := 9999999) (disch := omega) only [go_sem, hr]; (try (repeat' (first | done | trivial | rfl | exact leAs_rfl _ | decide | (refine And.intro ?_ ?_) | (simp; done) | omega | (simp; decide)))))))
      exact ⟨by omega, hn⟩
  · obtain rfl : i = l.length := by omega
    have g1 : ((l.length : Int) < (l.length : Int)) = False := eq_false (by omega)
    have hno : firstK l k = -1 := idxI_no fun q h => hq q h h
    rw [hno]
    clear hq
    (try simp (maxSteps := 9999999) (disch := omega) only [go_sem])
    (repeat' (first | refine AWpA.seq ?_ | refine AWpA.block ?_ | (with_reducible refine CondP.tt ?_) | (with_reducible refine CondP.ff ?_) | refine AWpA.condv (by simp (maxSteps := 9999999) (disch := omega) only [go_sem, hr, hlen, g1]; rfl) ?_ | ((first | (apply AWpA.region; (focus (simp (maxSteps := 9999999) (disch := omega) only [go_sem, hr, hlen, g1]; rfl))) | (apply AWpA.draw [] [] follows; (focus (first | rfl | decide)); (focus (simp (maxSteps := 9999999) (disch := omega) only [go_sem, hr, hlen, g1]; rfl)); (focus (simp (maxSteps := 9999999) (disch := omega) only [go_sem, hr, hlen, g1]; first | done | trivial)); (focus (simp (maxSteps := 9999999) (disch := omega) only [go_sem, hr, hlen, g1]; rfl))) | (apply TailK.go; (focus (simp (maxSteps := 9999999) (disch := omega) only [go_sem, hr, hlen, g1]; rfl))) | refine AWpA.skip ?_ | refine AWpA.exit ?_ | refine AWpA.ret ?_ | (with_reducible refine ARoundsA.succ ?_) | ((first | refine Runs.kt (by assumption) (fun h9 => ?_) | refine Runs.kf (by assumption) (fun h9 => ?_) | refine Runs.nt (by assumption) (fun h9 => ?_) | refine Runs.nf (by assumption) (fun h9 => ?_) | refine CondP.ht (by assumption) (fun h9 => ?_) | refine CondP.hf (by assumption) (fun h9 => ?_) | refine CondP.nt (by assumption) (fun h9 => ?_) | refine CondP.nf (by assumption) (fun h9 => ?_)); (try simp only [h9]); clear h9)); (try simp (maxSteps := 9999999) (disch := omega) only [go_sem, hr, hlen, g1]); (try (refine And.intro ?_ ?_; (focus (first | omega | (simp only [go_sem]; done) | (simp; done) | (simp; omega) | assumption))))) | ((first | refine CondP.split (fun hif => ?_) (fun hif => ?_) | refine Runs.part (fun hif => ?_) (fun hif => ?_)) <;> ((try simp only [hif]); (try simp only [decide_eq_true_eq, decide_eq_false_iff_not, Bool.not_eq_true, Bool.not_eq_false, Bool.not_eq_true', Bool.not_eq_false', beq_iff_eq, bne_iff_ne, bne_eq_false_iff_eq, beq_eq_false_iff_ne, ne_eq, Bool.and_eq_true, Bool.or_eq_true, Bool.or_eq_false_iff] at hif); (try (have h9 : _ = true := hif; simp only [h9])); (try (have h9 : _ = false := hif; simp only [h9])); (try simp (maxSteps := 9999999) (disch := omega) only [go_sem, hr, hlen, g1]); (try (refine And.intro ?_ ?_; (focus (first | omega | (simp only [go_sem]; done) | (simp; done) | (simp; omega) | assumption)))); (try (exfalso; omega; done))))))
    (apply Ret.det [0]; (focus (first | exact .inl rfl | exact .inr rfl)); (focus (simp (maxSteps := 9999999) (disch := omega) only [go_sem, hr]; rfl)); (simp (maxSteps := 9999999) (disch := omega) only [go_sem, hr]; (try (repeat' (first | done | trivial | rfl | exact leAs_rfl _ | decide | (refine And.intro ?_ ?_) | (simp; done) | omega | (simp; decide))))))
def ofB (e : En) (u : Up) : Bool := e.key == u.e.key && (e.val == u.e.val && (e.dead == u.e.dead && (e.st.c == u.e.st.c && e.st.s == u.e.st.s)))
theorem of_core (e : En) (u : Up) : ofB e u = decide (coreE e = coreE u.e) := by
  rw [← eqE_dec]
  simp [ofB, coreE, eqE]
theorem wof_any (e : En) (u : Up) : ACall Try.prog 35 [EnA e, UpA u] [] (Det (Bo (ofB e u)) []) := by
  obtain ⟨x, s⟩ := u
  unfold ofB
  refine ACall.startA c35_ok Try.func35 rfl Try.ntmps35 (by kernel_rfl) res35_ok rfl rfl rfl ?_; simp (maxSteps := 9999999) (disch := omega) only [go_sem]
  (repeat' (first | refine AWpA.seq ?_ | refine AWpA.block ?_ | (with_reducible refine CondP.tt ?_) | (with_reducible refine CondP.ff ?_) | refine AWpA.condv (by simp (maxSteps := 9999999) (disch := omega) only [go_sem]; rfl) ?_ | ((first | (apply AWpA.region; (focus (simp (maxSteps := 9999999) (disch := omega) only [go_sem]; rfl))) | (apply AWpA.draw [] [] follows; (focus (first | rfl | decide)); (focus (simp (maxSteps := 9999999) (disch := omega) only [go_sem]; rfl)); (focus (simp (maxSteps := 9999999) (disch := omega) only [go_sem]; first | done | trivial)); (focus (simp (maxSteps := 9999999) (disch := omega) only [go_sem]; rfl))) | (apply TailK.go; (focus (simp (maxSteps := 9999999) (disch := omega) only [go_sem]; rfl))) | refine AWpA.skip ?_ | refine AWpA.exit ?_ | refine AWpA.ret ?_ | (with_reducible refine ARoundsA.succ ?_) | ((first | refine Runs.kt (by assumption) (fun h9 => ?_) | refine Runs.kf (by assumption) (fun h9 => ?_) | refine Runs.nt (by assumption) (fun h9 => ?_) | refine Runs.nf (by assumption) (fun h9 => ?_) | refine CondP.ht (by assumption) (fun h9 => ?_) | refine CondP.hf (by assumption) (fun h9 => ?_) | refine CondP.nt (by assumption) (fun h9 => ?_) | refine CondP.nf (by assumption) (fun h9 => ?_)); (try simp only [h9]); clear h9)); (try simp (maxSteps := 9999999) (disch := omega) only [go_sem]); (try (refine And.intro ?_ ?_; (focus (first | omega | (simp only [go_sem]; done) | (simp; done) | (simp; omega) | assumption))))) | ((first | refine CondP.split (fun hif => ?_) (fun hif => ?_) | refine Runs.part (fun hif => ?_) (fun hif => ?_)) <;> ((try simp only [hif]); (try simp only [decide_eq_true_eq, decide_eq_false_iff_not, Bool.not_eq_true, Bool.not_eq_false, Bool.not_eq_true', Bool.not_eq_false', beq_iff_eq, bne_iff_ne, bne_eq_false_iff_eq, beq_eq_false_iff_ne, ne_eq, Bool.and_eq_true, Bool.or_eq_true, Bool.or_eq_false_iff] at hif); (try (have h9 : _ = true := hif; simp only [h9])); (try (have h9 : _ = false := hif; simp only [h9])); (try simp (maxSteps := 9999999) (disch := omega) only [go_sem]); (try (refine And.intro ?_ ?_; (focus (first | omega | (simp only [go_sem]; done) | (simp; done) | (simp; omega) | assumption)))); (try (exfalso; omega; done))))))
  all_goals
    (apply Ret.det []; (focus (first | exact .inl rfl | exact .inr rfl)); (focus (simp (maxSteps := 9999999) (disch := omega) only [go_sem]; rfl)); (simp (maxSteps := 9999999) (disch := omega) only [go_sem]; (try (repeat' (first | done | trivial | rfl | exact leAs_rfl _ | decide | (refine And.intro ?_ ?_) | (simp; done) | omega | (simp; decide))))))
end Go.Proofs.Ytbblpmkdhdnkhaa
