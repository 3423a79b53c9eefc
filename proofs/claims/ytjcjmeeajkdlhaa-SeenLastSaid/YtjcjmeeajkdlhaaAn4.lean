/- Contracts: what was met last, joined; the document's; the example of chapter 18. -/
import Derived.Test.YtjcjmeeajkdlhaaAn3
namespace Go.Proofs.Ytjcjmeeajkdlhaa
set_option linter.unusedSimpArgs false
set_option linter.unusedVariables false
set_option maxHeartbeats 4000000
open Go Go.Am Go.RowKit
set_option maxRecDepth 100000
theorem sadd_any {s : Sn} (hok : s.ok) (m : Mk) : ACall Try.prog 27 [.ptr 0 0, MkG m] [SnO 1 2 false s, .cells false (ringC s), .map false (EsM s.mp)] (Det (Bo (!decide (m ∈ s.ring))) [SnO 1 2 false (addS s m), .cells false (ringC (addS s m)), .map false (EsM (addS s m).mp)]) := by
  by_cases h : m ∈ s.ring
  · have h2 := (hok.mp m).2 h
    have e : addS s m = s := by unfold addS; rw [if_pos h]
    rw [e, decide_eq_true h]
    exact sadd_has s m h2
  · have h2 : m ∉ s.mp := fun e => h ((hok.mp m).1 e)
    rw [decide_eq_false h]
    by_cases hl : s.ring.length < s.room
    · have e : addS s m = { s with ring := s.ring ++ [m], mp := s.mp ++ [m] } := by unfold addS; rw [if_neg h, if_pos hl]
      rw [e]
      exact sadd_push hok m h2 hl
    · exact sadd_wrap hok m h2 hl
theorem shas_ok {s : Sn} (hok : s.ok) (m : Mk) : ACall Try.prog 30 [.ptr 0 0, MkG m] [.cells true [.any, .any, .mp 1], .map true (EsM s.mp)] (Det (Bo (decide (m ∈ s.ring))) [.cells true [.any, .any, .mp 1], .map true (EsM s.mp)]) := by
  have h := shas_any s m
  have e : decide (m ∈ s.mp) = decide (m ∈ s.ring) := by simp only [hok.mp m]
  rwa [e] at h
theorem rnew_no (n : Int) (h : ¬ (1 ≤ n ∧ n ≤ 1024)) : ACall Try.prog 25 [I n] [] (Det (.tup [.agg [I 0, .val (.slice none 0 0)], I 1]) []) := by
  refine ACall.startA c25_ok Try.func25 rfl Try.ntmps25 (by kernel_rfl) res25_ok rfl rfl rfl ?_; simp (maxSteps := 9999999) (disch := omega) only [go_sem]
  (repeat' (first | refine AWpA.seq ?_ | refine AWpA.block ?_ | (with_reducible refine CondP.tt ?_) | (with_reducible refine CondP.ff ?_) | refine AWpA.condv (by simp (maxSteps := 9999999) (disch := omega) only [go_sem]; rfl) ?_ | ((first | (apply AWpA.region; (focus (simp (maxSteps := 9999999) (disch := omega) only [go_sem]; rfl))) | (apply AWpA.draw [] [] follows; (focus (first | rfl | decide)); (focus (simp (maxSteps := 9999999) (disch := omega) only [go_sem]; rfl)); (focus (simp (maxSteps := 9999999) (disch := omega) only [go_sem]; first | done | trivial)); (focus (simp (maxSteps := 9999999) (disch := omega) only [go_sem]; rfl))) | (apply TailK.go; (focus (simp (maxSteps := 9999999) (disch := omega) only [go_sem]; rfl))) | refine AWpA.skip ?_ | refine AWpA.exit ?_ | refine AWpA.ret ?_ | (with_reducible refine ARoundsA.succ ?_) | ((first | refine Runs.kt (by assumption) (fun h9 => ?_) | refine Runs.kf (by assumption) (fun h9 => ?_) | refine Runs.nt (by assumption) (fun h9 => ?_) | refine Runs.nf (by assumption) (fun h9 => ?_) | refine CondP.ht (by assumption) (fun h9 => ?_) | refine CondP.hf (by assumption) (fun h9 => ?_) | refine CondP.nt (by assumption) (fun h9 => ?_) | refine CondP.nf (by assumption) (fun h9 => ?_)); (try simp only [h9]); clear h9)); (try simp (maxSteps := 9999999) (disch := omega) only [go_sem]); (try (refine And.intro ?_ ?_; (focus (first | omega | (simp only [go_sem]; done) | (simp; done) | (simp; omega) | assumption))))) | ((first | refine CondP.split (fun hif => ?_) (fun hif => ?_) | refine Runs.part (fun hif => ?_) (fun hif => ?_)) <;> ((try simp only [hif]); (try simp only [decide_eq_true_eq, decide_eq_false_iff_not, Bool.not_eq_true, Bool.not_eq_false, Bool.not_eq_true', Bool.not_eq_false', beq_iff_eq, bne_iff_ne, bne_eq_false_iff_eq, beq_eq_false_iff_ne, ne_eq, Bool.and_eq_true, Bool.or_eq_true, Bool.or_eq_false_iff] at hif); (try (have h9 : _ = true := hif; simp only [h9])); (try (have h9 : _ = false := hif; simp only [h9])); (try simp (maxSteps := 9999999) (disch := omega) only [go_sem]); (try (refine And.intro ?_ ?_; (focus (first | omega | (simp only [go_sem]; done) | (simp; done) | (simp; omega) | assumption)))); (try (exfalso; omega; done))))))
  all_goals (first | (exfalso; omega) | skip)
  all_goals (apply Ret.det []; (focus (first | exact .inl rfl | exact .inr rfl)); (focus (simp (maxSteps := 9999999) (disch := omega) only [go_sem]; rfl)); (simp (maxSteps := 9999999) (disch := omega) only [go_sem]; (try (repeat' (first | done | trivial | rfl | exact leAs_rfl _ | decide | (refine And.intro ?_ ?_) | (simp; done) | omega | (simp; decide))))))
theorem rnew_ok (n : Int) (h : 1 ≤ n ∧ n ≤ 1024) : ACall Try.prog 25 [I n] [] (Det (.tup [.agg [I n, .val (.slice none 0 0)], I 0]) []) := by
  have h1 : (n < 1) = False := eq_false (by omega)
  have h2 : ((1024 : Int) < n) = False := eq_false (by omega)
  refine ACall.startA c25_ok Try.func25 rfl Try.ntmps25 (by kernel_rfl) res25_ok rfl rfl rfl ?_; simp (maxSteps := 9999999) (disch := omega) only [go_sem]
  (repeat' (first | refine AWpA.seq ?_ | refine AWpA.block ?_ | (with_reducible refine CondP.tt ?_) | (with_reducible refine CondP.ff ?_) | refine AWpA.condv (by simp (maxSteps := 9999999) (disch := omega) only [go_sem, h1, h2]; rfl) ?_ | ((first | (apply AWpA.region; (focus (simp (maxSteps := 9999999) (disch := omega) only [go_sem, h1, h2]; rfl))) | (apply AWpA.draw [] [] follows; (focus (first | rfl | decide)); (focus (simp (maxSteps := 9999999) (disch := omega) only [go_sem, h1, h2]; rfl)); (focus (simp (maxSteps := 9999999) (disch := omega) only [go_sem, h1, h2]; first | done | trivial)); (focus (simp (maxSteps := 9999999) (disch := omega) only [go_sem, h1, h2]; rfl))) | (apply TailK.go; (focus (simp (maxSteps := 9999999) (disch := omega) only [go_sem, h1, h2]; rfl))) | refine AWpA.skip ?_ | refine AWpA.exit ?_ | refine AWpA.ret ?_ | (with_reducible refine ARoundsA.succ ?_) | ((first | refine Runs.kt (by assumption) (fun h9 => ?_) | refine Runs.kf (by assumption) (fun h9 => ?_) | refine Runs.nt (by assumption) (fun h9 => ?_) | refine Runs.nf (by assumption) (fun h9 => ?_) | refine CondP.ht (by assumption) (fun h9 => ?_) | refine CondP.hf (by assumption) (fun h9 => ?_) | refine CondP.nt (by assumption) (fun h9 => ?_) | refine CondP.nf (by assumption) (fun h9 => ?_)); (try simp only [h9]); clear h9)); (try simp (maxSteps := 9999999) (disch := omega) only [go_sem, h1, h2]); (try (refine And.intro ?_ ?_; (focus (first | omega | (simp only [go_sem]; done) | (simp; done) | (simp; omega) | assumption))))) | ((first | refine CondP.split (fun hif => ?_) (fun hif => ?_) | refine Runs.part (fun hif => ?_) (fun hif => ?_)) <;> ((try simp only [hif]); (try simp only [decide_eq_true_eq, decide_eq_false_iff_not, Bool.not_eq_true, Bool.not_eq_false, Bool.not_eq_true', Bool.not_eq_false', beq_iff_eq, bne_iff_ne, bne_eq_false_iff_eq, beq_eq_false_iff_ne, ne_eq, Bool.and_eq_true, Bool.or_eq_true, Bool.or_eq_false_iff] at hif); (try (have h9 : _ = true := hif; simp only [h9])); (try (have h9 : _ = false := hif; simp only [h9])); (try simp (maxSteps := 9999999) (disch := omega) only [go_sem, h1, h2]); (try (refine And.intro ?_ ?_; (focus (first | omega | (simp only [go_sem]; done) | (simp; done) | (simp; omega) | assumption)))); (try (exfalso; omega; done))))))
  (apply Ret.det []; (focus (first | exact .inl rfl | exact .inr rfl)); (focus (simp (maxSteps := 9999999) (disch := omega) only [go_sem]; rfl)); (simp (maxSteps := 9999999) (disch := omega) only [go_sem]; (try (repeat' (first | done | trivial | rfl | exact leAs_rfl _ | decide | (refine And.intro ?_ ?_) | (simp; done) | omega | (simp; decide))))))
theorem rhas_any (room : Int) (off : Nat) (l : List Mk) (m : Mk) (hl : l.length ≤ 1099511627776) : ACall Try.prog 31 [.agg [I room, .sl 0 off l.length 3 none], MkG m] [.cells true (Rm off l)] (Det (Bo (decide (m ∈ l))) [.cells true (Rm off l)]) := by
  have hr := rm_ren off l
  have hlen := rm_len off l
  refine ACall.startA c31_ok Try.func31 rfl Try.ntmps31 (by kernel_rfl) res31_ok rfl rfl rfl ?_; simp (maxSteps := 9999999) (disch := omega) only [go_sem]
  (repeat' (first | refine AWpA.seq ?_ | refine AWpA.block ?_ | (with_reducible refine CondP.tt ?_) | (with_reducible refine CondP.ff ?_) | refine AWpA.condv (by simp (maxSteps := 9999999) (disch := omega) only [go_sem, hr]; rfl) ?_ | ((first | (apply AWpA.region; (focus (simp (maxSteps := 9999999) (disch := omega) only [go_sem, hr]; rfl))) | (apply AWpA.draw [] [] follows; (focus (first | rfl | decide)); (focus (simp (maxSteps := 9999999) (disch := omega) only [go_sem, hr]; rfl)); (focus (simp (maxSteps := 9999999) (disch := omega) only [go_sem, hr]; first | done | trivial)); (focus (simp (maxSteps := 9999999) (disch := omega) only [go_sem, hr]; rfl))) | (apply TailK.go; (focus (simp (maxSteps := 9999999) (disch := omega) only [go_sem, hr]; rfl))) | refine AWpA.skip ?_ | refine AWpA.exit ?_ | refine AWpA.ret ?_ | (with_reducible refine ARoundsA.succ ?_) | ((first | refine Runs.kt (by assumption) (fun h9 => ?_) | refine Runs.kf (by assumption) (fun h9 => ?_) | refine Runs.nt (by assumption) (fun h9 => ?_) | refine Runs.nf (by assumption) (fun h9 => ?_) | refine CondP.ht (by assumption) (fun h9 => ?_) | refine CondP.hf (by assumption) (fun h9 => ?_) | refine CondP.nt (by assumption) (fun h9 => ?_) | refine CondP.nf (by assumption) (fun h9 => ?_)); (try simp only [h9]); clear h9)); (try simp (maxSteps := 9999999) (disch := omega) only [go_sem, hr]); (try (refine And.intro ?_ ?_; (focus (first | omega | (simp only [go_sem]; done) | (simp; done) | (simp; omega) | assumption))))) | ((first | refine CondP.split (fun hif => ?_) (fun hif => ?_) | refine Runs.part (fun hif => ?_) (fun hif => ?_)) <;> ((try simp only [hif]); (try simp only [decide_eq_true_eq, decide_eq_false_iff_not, Bool.not_eq_true, Bool.not_eq_false, Bool.not_eq_true', Bool.not_eq_false', beq_iff_eq, bne_iff_ne, bne_eq_false_iff_eq, beq_eq_false_iff_ne, ne_eq, Bool.and_eq_true, Bool.or_eq_true, Bool.or_eq_false_iff] at hif); (try (have h9 : _ = true := hif; simp only [h9])); (try (have h9 : _ = false := hif; simp only [h9])); (try simp (maxSteps := 9999999) (disch := omega) only [go_sem, hr]); (try (refine And.intro ?_ ?_; (focus (first | omega | (simp only [go_sem]; done) | (simp; done) | (simp; omega) | assumption)))); (try (exfalso; omega; done))))))
  (apply AWpA.loopL (fun i : Nat => [(2, .ptr 1 0), (3, .ptr 2 0), (5, I i)]) (fun i => [.cells true (Rm off l), .cells false [I room, .sl 0 off l.length 3 none], .cells false (MkL m)]) (fun i => l.length - i) (fun i => i ≤ l.length ∧ (m ∈ l ↔ m ∈ l.drop i)) (0) [0, 1, 17]; rotate_left; (focus (simp (maxSteps := 9999999) (disch := omega) only [go_sem, hr]; (try (repeat' (first | done | trivial | rfl | exact leAs_rfl _ | decide | (refine And.intro ?_ ?_) | (simp; done) | omega | (simp; decide)))))); rotate_right)
  · exact ⟨Nat.zero_le _, by simp⟩
  rintro i ⟨hi, hp⟩
  (try simp only at hi)
  by_cases hin : i < l.length
  · have g1 : ((i : Int) < (l.length : Int)) = True := eq_true (by omega)
    have hat := rm_at off l i hin
    rw [List.drop_eq_getElem_cons hin] at hp
    generalize l[i] = x at hat hp
    have hx := mkE_dec x m
    by_cases hxm : x = m
    · rw [decide_eq_true hxm] at hx
      have g5 : decide (m ∈ l) = true := decide_eq_true (hp.2 (by rw [hxm]; exact List.mem_cons_self))
      clear hp
      (try simp (maxSteps := 9999999) (disch := omega) only [go_sem])
      (repeat' (first | refine AWpA.seq ?_ | refine AWpA.block ?_ | (with_reducible refine CondP.tt ?_) | (with_reducible refine CondP.ff ?_) | refine AWpA.condv (by simp (maxSteps := 9999999) (disch := omega) only [go_sem, g1, hr, hat, hlen, hx]; rfl) ?_ | ((first | (apply AWpA.region; (focus (simp (maxSteps := 9999999) (disch := omega) only [go_sem, g1, hr, hat, hlen, hx]; rfl))) | (apply AWpA.draw [] [] follows; (focus (first | rfl | decide)); (focus (simp (maxSteps := 9999999) (disch := omega) only [go_sem, g1, hr, hat, hlen, hx]; rfl)); (focus (simp (maxSteps := 9999999) (disch := omega) only [go_sem, g1, hr, hat, hlen, hx]; first | done | trivial)); (focus (simp (maxSteps := 9999999) (disch := omega) only [go_sem, g1, hr, hat, hlen, hx]; rfl))) | (apply TailK.go; (focus (simp (maxSteps := 9999999) (disch := omega) only [go_sem, g1, hr, hat, hlen, hx]; rfl))) | refine AWpA.skip ?_ | refine AWpA.exit ?_ | refine AWpA.ret ?_ | (with_reducible refine ARoundsA.succ ?_) | ((first | refine Runs.kt (by assumption) (fun h9 => ?_) | refine Runs.kf (by assumption) (fun h9 => ?_) | refine Runs.nt (by assumption) (fun h9 => ?_) | refine Runs.nf (by assumption) (fun h9 => ?_) | refine CondP.ht (by assumption) (fun h9 => ?_) | refine CondP.hf (by assumption) (fun h9 => ?_) | refine CondP.nt (by assumption) (fun h9 => ?_) | refine CondP.nf (by assumption) (fun h9 => ?_)); (try simp only [h9]); clear h9)); (try simp (maxSteps := 9999999) (disch := omega) only [go_sem, g1, hr, hat, hlen, hx]); (try (refine And.intro ?_ ?_; (focus (first | omega | (simp only [go_sem]; done) | (simp; done) | (simp; omega) | assumption))))) | ((first | refine CondP.split (fun hif => ?_) (fun hif => ?_) | refine Runs.part (fun hif => ?_) (fun hif => ?_)) <;> ((try simp only [hif]); (try simp only [decide_eq_true_eq, decide_eq_false_iff_not, Bool.not_eq_true, Bool.not_eq_false, Bool.not_eq_true', Bool.not_eq_false', beq_iff_eq, bne_iff_ne, bne_eq_false_iff_eq, beq_eq_false_iff_ne, ne_eq, Bool.and_eq_true, Bool.or_eq_true, Bool.or_eq_false_iff] at hif); (try (have h9 : _ = true := hif; simp only [h9])); (try (have h9 : _ = false := hif; simp only [h9])); (try simp (maxSteps := 9999999) (disch := omega) only [go_sem, g1, hr, hat, hlen, hx]); (try (refine And.intro ?_ ?_; (focus (first | omega | (simp only [go_sem]; done) | (simp; done) | (simp; omega) | assumption)))); (try (exfalso; omega; done))))))
      (apply Ret.det [0]; (focus (first | exact .inl rfl | exact .inr rfl)); (focus (simp (maxSteps := 9999999) (disch := omega) only [go_sem, hr, g5]; rfl)); (simp (maxSteps := 9999999) (disch := omega) only [go_sem, hr, g5]; (try (repeat' (first | done | trivial | rfl | exact leAs_rfl _ | decide | (refine And.intro ?_ ?_) | (simp; done) | omega | (simp; decide))))))
    · rw [decide_eq_false hxm] at hx
      have hp2 : m ∈ l ↔ m ∈ l.drop (i + 1) := by
        rw [hp, List.mem_cons]
        exact ⟨fun h => h.resolve_left fun e => hxm e.symm, .inr⟩
      clear hp
      (try simp (maxSteps := 9999999) (disch := omega) only [go_sem])
      (repeat' (first | refine AWpA.seq ?_ | refine AWpA.block ?_ | (with_reducible refine CondP.tt ?_) | (with_reducible refine CondP.ff ?_) | refine AWpA.condv (by simp (maxSteps := 9999999) (disch := omega) only [go_sem, g1, hr, hat, hlen, hx]; rfl) ?_ | ((first | (apply AWpA.region; (focus (simp (maxSteps := 9999999) (disch := omega) only [go_sem, g1, hr, hat, hlen, hx]; rfl))) | (apply AWpA.draw [] [] follows; (focus (first | rfl | decide)); (focus (simp (maxSteps := 9999999) (disch := omega) only [go_sem, g1, hr, hat, hlen, hx]; rfl)); (focus (simp (maxSteps := 9999999) (disch := omega) only [go_sem, g1, hr, hat, hlen, hx]; first | done | trivial)); (focus (simp (maxSteps := 9999999) (disch := omega) only [go_sem, g1, hr, hat, hlen, hx]; rfl))) | (apply TailK.go; (focus (simp (maxSteps := 9999999) (disch := omega) only [go_sem, g1, hr, hat, hlen, hx]; rfl))) | refine AWpA.skip ?_ | refine AWpA.exit ?_ | refine AWpA.ret ?_ | (with_reducible refine ARoundsA.succ ?_) | ((first | refine Runs.kt (by assumption) (fun h9 => ?_) | refine Runs.kf (by assumption) (fun h9 => ?_) | refine Runs.nt (by assumption) (fun h9 => ?_) | refine Runs.nf (by assumption) (fun h9 => ?_) | refine CondP.ht (by assumption) (fun h9 => ?_) | refine CondP.hf (by assumption) (fun h9 => ?_) | refine CondP.nt (by assumption) (fun h9 => ?_) | refine CondP.nf (by assumption) (fun h9 => ?_)); (try simp only [h9]); clear h9)); (try simp (maxSteps := 9999999) (disch := omega) only [go_sem, g1, hr, hat, hlen, hx]); (try (refine And.intro ?_ ?_; (focus (first | omega | (simp only [go_sem]; done) | (simp; done) | (simp; omega) | assumption))))) | ((first | refine CondP.split (fun hif => ?_) (fun hif => ?_) | refine Runs.part (fun hif => ?_) (fun hif => ?_)) <;> ((try simp only [hif]); (try simp only [decide_eq_true_eq, decide_eq_false_iff_not, Bool.not_eq_true, Bool.not_eq_false, Bool.not_eq_true', Bool.not_eq_false', beq_iff_eq, bne_iff_ne, bne_eq_false_iff_eq, beq_eq_false_iff_ne, ne_eq, Bool.and_eq_true, Bool.or_eq_true, Bool.or_eq_false_iff] at hif); (try (have h9 : _ = true := hif; simp only [h9])); (try (have h9 : _ = false := hif; simp only [h9])); (try simp (maxSteps := 9999999) (disch := omega) only [go_sem, g1, hr, hat, hlen, hx]); (try (refine And.intro ?_ ?_; (focus (first | omega | (simp only [go_sem]; done) | (simp; done) | (simp; omega) | assumption)))); (try (exfalso; omega; done))))))
      (apply Back.to (i + 1) [0, 1, 2]; (focus ((try simp (maxSteps := 9999999) (disch := omega) only [go_sem, hr]); first | done | omega)); rotate_left; (focus (simp (maxSteps := 9999999) (disch := omega) only [go_sem, hr]; (try (repeat' (first | done | trivial | rfl | exact leAs_rfl _ | decide | (refine And.intro ?_ ?_) | (simp; done) | omega | (simp; decide)))))))
      exact ⟨by omega, hp2⟩
  · obtain rfl : i = l.length := by omega
    have g1 : ((l.length : Int) < (l.length : Int)) = False := eq_false (by omega)
    have g5 : decide (m ∈ l) = false := decide_eq_false (by rw [hp]; simp)
    clear hp
    (try simp (maxSteps := 9999999) (disch := omega) only [go_sem])
    (repeat' (first | refine AWpA.seq ?_ | refine AWpA.block ?_ | (with_reducible refine CondP.tt ?_) | (with_reducible refine CondP.ff ?_) | refine AWpA.condv (by simp (maxSteps := 9999999) (disch := omega) only [go_sem, g1, hr]; rfl) ?_ | ((first | (apply AWpA.region; (focus (simp (maxSteps := 9999999) (disch := omega) only [go_sem, g1, hr]; rfl))) | (apply AWpA.draw [] [] follows; (focus (first | rfl | decide)); (focus (simp (maxSteps := 9999999) (disch := omega) only [go_sem, g1, hr]; rfl)); (focus (simp (maxSteps := 9999999) (disch := omega) only [go_sem, g1, hr]; first | done | trivial)); (focus (simp (maxSteps := 9999999) (disch := omega) only [go_sem, g1, hr]; rfl))) | (apply TailK.go; (focus (simp (maxSteps := 9999999) (disch := omega) only [go_sem, g1, hr]; rfl))) | refine AWpA.skip ?_ | refine AWpA.exit ?_ | refine AWpA.ret ?_ | (with_reducible refine ARoundsA.succ ?_) | ((first | refine Runs.kt (by assumption) (fun h9 => ?_) | refine Runs.kf (by assumption) (fun h9 => ?_) | refine Runs.nt (by assumption) (fun h9 => ?_) | refine Runs.nf (by assumption) (fun h9 => ?_) | refine CondP.ht (by assumption) (fun h9 => ?_) | refine CondP.hf (by assumption) (fun h9 => ?_) | refine CondP.nt (by assumption) (fun h9 => ?_) | refine CondP.nf (by assumption) (fun h9 => ?_)); (try simp only [h9]); clear h9)); (try simp (maxSteps := 9999999) (disch := omega) only [go_sem, g1, hr]); (try (refine And.intro ?_ ?_; (focus (first | omega | (simp only [go_sem]; done) | (simp; done) | (simp; omega) | assumption))))) | ((first | refine CondP.split (fun hif => ?_) (fun hif => ?_) | refine Runs.part (fun hif => ?_) (fun hif => ?_)) <;> ((try simp only [hif]); (try simp only [decide_eq_true_eq, decide_eq_false_iff_not, Bool.not_eq_true, Bool.not_eq_false, Bool.not_eq_true', Bool.not_eq_false', beq_iff_eq, bne_iff_ne, bne_eq_false_iff_eq, beq_eq_false_iff_ne, ne_eq, Bool.and_eq_true, Bool.or_eq_true, Bool.or_eq_false_iff] at hif); (try (have h9 : _ = true := hif; simp only [h9])); (try (have h9 : _ = false := hif; simp only [h9])); (try simp (maxSteps := 9999999) (disch := omega) only [go_sem, g1, hr]); (try (refine And.intro ?_ ?_; (focus (first | omega | (simp only [go_sem]; done) | (simp; done) | (simp; omega) | assumption)))); (try (exfalso; omega; done))))))
    (apply Ret.det [0]; (focus (first | exact .inl rfl | exact .inr rfl)); (focus (simp (maxSteps := 9999999) (disch := omega) only [go_sem, hr, g5]; rfl)); (simp (maxSteps := 9999999) (disch := omega) only [go_sem, hr, g5]; (try (repeat' (first | done | trivial | rfl | exact leAs_rfl _ | decide | (refine And.intro ?_ ?_) | (simp; done) | omega | (simp; decide))))))
/-- The document's list behind a mark. -/
def addD (room : Nat) (l : List Mk) (m : Mk) : List Mk := if m ∈ l then l else if room < l.length + 1 then (l ++ [m]).drop 1 else l ++ [m]
theorem rm_three (l : List Mk) : Rm 3 l = .any :: .any :: .any :: Rm 0 l := rfl
theorem radd_has (room : Int) (off : Nat) (l : List Mk) (m : Mk) (hl : l.length ≤ 1099511627776) (h : m ∈ l) : ACall Try.prog 26 [.agg [I room, .sl 0 off l.length 3 none], MkG m] [.cells true (Rm off l)] (Det (.tup [.agg [I room, .sl 0 off l.length 3 none], Bo false]) [.cells true (Rm off l)]) := by
  have hr := rm_ren off l
  have hh := rhas_any room off l m hl
  rw [decide_eq_true h] at hh
  refine ACall.startA c26_ok Try.func26 rfl Try.ntmps26 (by kernel_rfl) res26_ok rfl rfl rfl ?_; simp (maxSteps := 9999999) (disch := omega) only [go_sem]
  (repeat' (first | refine AWpA.seq ?_ | refine AWpA.block ?_ | (with_reducible refine CondP.tt ?_) | (with_reducible refine CondP.ff ?_) | refine AWpA.condv (by simp (maxSteps := 9999999) (disch := omega) only [go_sem, hr]; rfl) ?_ | ((first | (apply AWpA.region; (focus (simp (maxSteps := 9999999) (disch := omega) only [go_sem, hr]; rfl))) | (apply AWpA.draw [] [] follows; (focus (first | rfl | decide)); (focus (simp (maxSteps := 9999999) (disch := omega) only [go_sem, hr]; rfl)); (focus (simp (maxSteps := 9999999) (disch := omega) only [go_sem, hr]; first | done | trivial)); (focus (simp (maxSteps := 9999999) (disch := omega) only [go_sem, hr]; rfl))) | (apply TailK.go; (focus (simp (maxSteps := 9999999) (disch := omega) only [go_sem, hr]; rfl))) | refine AWpA.skip ?_ | refine AWpA.exit ?_ | refine AWpA.ret ?_ | (with_reducible refine ARoundsA.succ ?_) | ((first | refine Runs.kt (by assumption) (fun h9 => ?_) | refine Runs.kf (by assumption) (fun h9 => ?_) | refine Runs.nt (by assumption) (fun h9 => ?_) | refine Runs.nf (by assumption) (fun h9 => ?_) | refine CondP.ht (by assumption) (fun h9 => ?_) | refine CondP.hf (by assumption) (fun h9 => ?_) | refine CondP.nt (by assumption) (fun h9 => ?_) | refine CondP.nf (by assumption) (fun h9 => ?_)); (try simp only [h9]); clear h9) | ((first | (with_reducible apply CallG.plain1 [0] (hh)) | (with_reducible apply CallG.draw1 [0] (hh))); (focus ((try refine And.intro (leAs_of_eq rfl) ?_); (try refine And.intro (leOL_of_eq rfl) ?_); simp (maxSteps := 9999999) (disch := omega) only [go_sem, hr]; first | done | (repeat' (first | rfl | (refine And.intro ?_ ?_))))); (focus (simp (maxSteps := 9999999) (disch := omega) only [go_sem, hr]; rfl)))); (try simp (maxSteps := 9999999) (disch := omega) only [go_sem, hr]); (try (refine And.intro ?_ ?_; (focus (first | omega | (simp only [go_sem]; done) | (simp; done) | (simp; omega) | assumption))))) | ((first | refine CondP.split (fun hif => ?_) (fun hif => ?_) | refine Runs.part (fun hif => ?_) (fun hif => ?_)) <;> ((try simp only [hif]); (try simp only [decide_eq_true_eq, decide_eq_false_iff_not, Bool.not_eq_true, Bool.not_eq_false, Bool.not_eq_true', Bool.not_eq_false', beq_iff_eq, bne_iff_ne, bne_eq_false_iff_eq, beq_eq_false_iff_ne, ne_eq, Bool.and_eq_true, Bool.or_eq_true, Bool.or_eq_false_iff] at hif); (try (have h9 : _ = true := hif; simp only [h9])); (try (have h9 : _ = false := hif; simp only [h9])); (try simp (maxSteps := 9999999) (disch := omega) only [go_sem, hr]); (try (refine And.intro ?_ ?_; (focus (first | omega | (simp only [go_sem]; done) | (simp; done) | (simp; omega) | assumption)))); (try (exfalso; omega; done))))))
  (apply Ret.det [0]; (focus (first | exact .inl rfl | exact .inr rfl)); (focus (simp (maxSteps := 9999999) (disch := omega) only [go_sem, hr]; rfl)); (simp (maxSteps := 9999999) (disch := omega) only [go_sem, hr]; (try (repeat' (first | done | trivial | rfl | exact leAs_rfl _ | decide | (refine And.intro ?_ ?_) | (simp; done) | omega | (simp; decide))))))
theorem radd_in (room : Nat) (off : Nat) (l : List Mk) (m : Mk) (hl : l.length + 1 ≤ 1024) (h : m ∉ l) (hroom : l.length + 1 ≤ room) : ACall Try.prog 26 [.agg [I room, .sl 0 off l.length 3 none], MkG m] [.cells true (Rm off l)] (Det (.tup [.agg [I room, .sl 1 0 (l.length + 1) 3 none], Bo true]) [.cells true (Rm off l), .cells false (Rm 0 (l ++ [m]))]) := by
  have hr := rm_ren off l
  have hh := rhas_any room off l m (by omega)
  rw [decide_eq_false h] at hh
  have hs := rm_seg off l (n := l.length * 3) rfl
  have hna := rm_noAny l
  have hlen := rm_len off l
  have hl0 := rm_len 0 l
  have hta := rm_all l (n := l.length * 3) rfl
  have happ : Rm 0 (l ++ [m]) = Rm 0 l ++ MkL m := by rw [rm_app, rm_one]
  have g1 : ((room : Int) < (l.length : Int) + 1) = False := eq_false (by omega)
  by_cases h0 : l.length = 0
  · have q1 : (l.length ≤ 0) = True := eq_true (by omega)
    obtain rfl : l = [] := List.length_eq_zero_iff.1 h0
    simp only [List.length_nil] at *
    refine ACall.startA c26_ok Try.func26 rfl Try.ntmps26 (by kernel_rfl) res26_ok rfl rfl rfl ?_; simp (maxSteps := 9999999) (disch := omega) only [go_sem]
    (repeat' (first | refine AWpA.seq ?_ | refine AWpA.block ?_ | (with_reducible refine CondP.tt ?_) | (with_reducible refine CondP.ff ?_) | refine AWpA.condv (by simp (maxSteps := 9999999) (disch := omega) only [go_sem, hr, hs, hna, hlen, hl0, hta, g1, q1]; rfl) ?_ | ((first | (apply AWpA.region; (focus (simp (maxSteps := 9999999) (disch := omega) only [go_sem, hr, hs, hna, hlen, hl0, hta, g1, q1]; rfl))) | (apply AWpA.draw [] [] follows; (focus (first | rfl | decide)); (focus (simp (maxSteps := 9999999) (disch := omega) only [go_sem, hr, hs, hna, hlen, hl0, hta, g1, q1]; rfl)); (focus (simp (maxSteps := 9999999) (disch := omega) only [go_sem, hr, hs, hna, hlen, hl0, hta, g1, q1]; first | done | trivial)); (focus (simp (maxSteps := 9999999) (disch := omega) only [go_sem, hr, hs, hna, hlen, hl0, hta, g1, q1]; rfl))) | (apply TailK.go; (focus (simp (maxSteps := 9999999) (disch := omega) only [go_sem, hr, hs, hna, hlen, hl0, hta, g1, q1]; rfl))) | refine AWpA.skip ?_ | refine AWpA.exit ?_ | refine AWpA.ret ?_ | (with_reducible refine ARoundsA.succ ?_) | ((first | refine Runs.kt (by assumption) (fun h9 => ?_) | refine Runs.kf (by assumption) (fun h9 => ?_) | refine Runs.nt (by assumption) (fun h9 => ?_) | refine Runs.nf (by assumption) (fun h9 => ?_) | refine CondP.ht (by assumption) (fun h9 => ?_) | refine CondP.hf (by assumption) (fun h9 => ?_) | refine CondP.nt (by assumption) (fun h9 => ?_) | refine CondP.nf (by assumption) (fun h9 => ?_)); (try simp only [h9]); clear h9) | ((first | (with_reducible apply CallG.plain1 [0] (hh)) | (with_reducible apply CallG.draw1 [0] (hh))); (focus ((try refine And.intro (leAs_of_eq rfl) ?_); (try refine And.intro (leOL_of_eq rfl) ?_); simp (maxSteps := 9999999) (disch := omega) only [go_sem, hr, hs, hna, hlen, hl0, hta, g1, q1]; first | done | (repeat' (first | rfl | (refine And.intro ?_ ?_))))); (focus (simp (maxSteps := 9999999) (disch := omega) only [go_sem, hr, hs, hna, hlen, hl0, hta, g1, q1]; rfl)))); (try simp (maxSteps := 9999999) (disch := omega) only [go_sem, hr, hs, hna, hlen, hl0, hta, g1, q1]); (try (refine And.intro ?_ ?_; (focus (first | omega | (simp only [go_sem]; done) | (simp; done) | (simp; omega) | assumption))))) | ((first | refine CondP.split (fun hif => ?_) (fun hif => ?_) | refine Runs.part (fun hif => ?_) (fun hif => ?_)) <;> ((try simp only [hif]); (try simp only [decide_eq_true_eq, decide_eq_false_iff_not, Bool.not_eq_true, Bool.not_eq_false, Bool.not_eq_true', Bool.not_eq_false', beq_iff_eq, bne_iff_ne, bne_eq_false_iff_eq, beq_eq_false_iff_ne, ne_eq, Bool.and_eq_true, Bool.or_eq_true, Bool.or_eq_false_iff] at hif); (try (have h9 : _ = true := hif; simp only [h9])); (try (have h9 : _ = false := hif; simp only [h9])); (try simp (maxSteps := 9999999) (disch := omega) only [go_sem, hr, hs, hna, hlen, hl0, hta, g1, q1]); (try (refine And.intro ?_ ?_; (focus (first | omega | (simp only [go_sem]; done) | (simp; done) | (simp; omega) | assumption)))); (try (exfalso; omega; done))))))
    (apply Ret.det [0, 209]; (focus (first | exact .inl rfl | exact .inr rfl)); (focus (simp (maxSteps := 9999999) (disch := omega) only [go_sem, hr, renL_append, rm_ren, rm_nil, rm_one, List.nil_append]; rfl)); (simp (maxSteps := 9999999) (disch := omega) only [go_sem, hr, renL_append, rm_ren, rm_nil, rm_one, List.nil_append]; (try (repeat' (first | done | trivial | rfl | exact leAs_rfl _ | decide | (refine And.intro ?_ ?_) | (simp; done) | omega | (simp; decide))))))
  have q1 : (l.length ≤ 0) = False := eq_false (by omega)
  refine ACall.startA c26_ok Try.func26 rfl Try.ntmps26 (by kernel_rfl) res26_ok rfl rfl rfl ?_; simp (maxSteps := 9999999) (disch := omega) only [go_sem]
  (repeat' (first | refine AWpA.seq ?_ | refine AWpA.block ?_ | (with_reducible refine CondP.tt ?_) | (with_reducible refine CondP.ff ?_) | refine AWpA.condv (by simp (maxSteps := 9999999) (disch := omega) only [go_sem, hr, hs, hna, hlen, hl0, hta, g1, q1]; rfl) ?_ | ((first | (apply AWpA.region; (focus (simp (maxSteps := 9999999) (disch := omega) only [go_sem, hr, hs, hna, hlen, hl0, hta, g1, q1]; rfl))) | (apply AWpA.draw [] [] follows; (focus (first | rfl | decide)); (focus (simp (maxSteps := 9999999) (disch := omega) only [go_sem, hr, hs, hna, hlen, hl0, hta, g1, q1]; rfl)); (focus (simp (maxSteps := 9999999) (disch := omega) only [go_sem, hr, hs, hna, hlen, hl0, hta, g1, q1]; first | done | trivial)); (focus (simp (maxSteps := 9999999) (disch := omega) only [go_sem, hr, hs, hna, hlen, hl0, hta, g1, q1]; rfl))) | (apply TailK.go; (focus (simp (maxSteps := 9999999) (disch := omega) only [go_sem, hr, hs, hna, hlen, hl0, hta, g1, q1]; rfl))) | refine AWpA.skip ?_ | refine AWpA.exit ?_ | refine AWpA.ret ?_ | (with_reducible refine ARoundsA.succ ?_) | ((first | refine Runs.kt (by assumption) (fun h9 => ?_) | refine Runs.kf (by assumption) (fun h9 => ?_) | refine Runs.nt (by assumption) (fun h9 => ?_) | refine Runs.nf (by assumption) (fun h9 => ?_) | refine CondP.ht (by assumption) (fun h9 => ?_) | refine CondP.hf (by assumption) (fun h9 => ?_) | refine CondP.nt (by assumption) (fun h9 => ?_) | refine CondP.nf (by assumption) (fun h9 => ?_)); (try simp only [h9]); clear h9) | ((first | (with_reducible apply CallG.plain1 [0] (hh)) | (with_reducible apply CallG.draw1 [0] (hh))); (focus ((try refine And.intro (leAs_of_eq rfl) ?_); (try refine And.intro (leOL_of_eq rfl) ?_); simp (maxSteps := 9999999) (disch := omega) only [go_sem, hr, hs, hna, hlen, hl0, hta, g1, q1]; first | done | (repeat' (first | rfl | (refine And.intro ?_ ?_))))); (focus (simp (maxSteps := 9999999) (disch := omega) only [go_sem, hr, hs, hna, hlen, hl0, hta, g1, q1]; rfl)))); (try simp (maxSteps := 9999999) (disch := omega) only [go_sem, hr, hs, hna, hlen, hl0, hta, g1, q1]); (try (refine And.intro ?_ ?_; (focus (first | omega | (simp only [go_sem]; done) | (simp; done) | (simp; omega) | assumption))))) | ((first | refine CondP.split (fun hif => ?_) (fun hif => ?_) | refine Runs.part (fun hif => ?_) (fun hif => ?_)) <;> ((try simp only [hif]); (try simp only [decide_eq_true_eq, decide_eq_false_iff_not, Bool.not_eq_true, Bool.not_eq_false, Bool.not_eq_true', Bool.not_eq_false', beq_iff_eq, bne_iff_ne, bne_eq_false_iff_eq, beq_eq_false_iff_ne, ne_eq, Bool.and_eq_true, Bool.or_eq_true, Bool.or_eq_false_iff] at hif); (try (have h9 : _ = true := hif; simp only [h9])); (try (have h9 : _ = false := hif; simp only [h9])); (try simp (maxSteps := 9999999) (disch := omega) only [go_sem, hr, hs, hna, hlen, hl0, hta, g1, q1]); (try (refine And.intro ?_ ?_; (focus (first | omega | (simp only [go_sem]; done) | (simp; done) | (simp; omega) | assumption)))); (try (exfalso; omega; done))))))
  (apply Ret.det [0, 209]; (focus (first | exact .inl rfl | exact .inr rfl)); (focus (simp (maxSteps := 9999999) (disch := omega) only [go_sem, hr, renL_append, rm_ren, happ]; rfl)); (simp (maxSteps := 9999999) (disch := omega) only [go_sem, hr, renL_append, rm_ren, happ]; (try (repeat' (first | done | trivial | rfl | exact leAs_rfl _ | decide | (refine And.intro ?_ ?_) | (simp; done) | omega | (simp; decide))))))
theorem radd_out (room : Nat) (off : Nat) (l : List Mk) (m : Mk) (hl : l.length + 1 ≤ 1200) (h : m ∉ l) (h1 : 1 ≤ l.length) (hroom : room < l.length + 1) : ACall Try.prog 26 [.agg [I room, .sl 0 off l.length 3 none], MkG m] [.cells true (Rm off l)] (Det (.tup [.agg [I room, .sl 1 3 l.length 3 none], Bo true]) [.cells true (Rm off l), .cells false (Rm 3 ((l ++ [m]).drop 1))]) := by
  have hr := rm_ren off l
  have hh := rhas_any room off l m (by omega)
  rw [decide_eq_false h] at hh
  have hs := rm_seg off l (n := l.length * 3) rfl
  have hna := rm_noAny l
  have hlen := rm_len off l
  have hl0 := rm_len 0 l
  have hta := rm_all l (n := l.length * 3) rfl
  obtain ⟨x, t, rfl⟩ : ∃ x t, l = x :: t := by
    cases l with
    | nil => simp at h1
    | cons x t => exact ⟨x, t, rfl⟩
  have happ : Rm 0 (x :: t) = I x.act.c :: I x.act.s :: Str x.key :: Rm 0 t := rfl
  have happ2 : Rm 3 (((x :: t) ++ [m]).drop 1) = .any :: .any :: .any :: (Rm 0 t ++ MkL m) := by
    rw [rm_three]
    simp only [List.cons_append, List.drop_succ_cons, List.drop_zero]
    rw [rm_app, rm_one]
  rw [happ2]
  have g1 : ((room : Int) < ((x :: t).length : Int) + 1) = True := eq_true (by omega)
  have q1 : ((x :: t).length ≤ 0) = False := eq_false (by omega)
  have hx : renL [0, 209] (Rm 0 t) = Rm 0 t := rm_ren 0 t _
  generalize hn : (x :: t).length = n at *
  have e1 : n + 1 - 1 = n := by omega
  generalize Rm off (x :: t) = P at *
  rw [happ] at hs hta hl0 hna
  refine ACall.startA c26_ok Try.func26 rfl Try.ntmps26 (by kernel_rfl) res26_ok rfl rfl rfl ?_; simp (maxSteps := 9999999) (disch := omega) only [go_sem]
  (repeat' (first | refine AWpA.seq ?_ | refine AWpA.block ?_ | (with_reducible refine CondP.tt ?_) | (with_reducible refine CondP.ff ?_) | refine AWpA.condv (by simp (maxSteps := 9999999) (disch := omega) only [go_sem, hr, hs, hna, hlen, hl0, hta, g1, q1, e1]; rfl) ?_ | ((first | (apply AWpA.region; (focus (simp (maxSteps := 9999999) (disch := omega) only [go_sem, hr, hs, hna, hlen, hl0, hta, g1, q1, e1]; rfl))) | (apply AWpA.draw [] [] follows; (focus (first | rfl | decide)); (focus (simp (maxSteps := 9999999) (disch := omega) only [go_sem, hr, hs, hna, hlen, hl0, hta, g1, q1, e1]; rfl)); (focus (simp (maxSteps := 9999999) (disch := omega) only [go_sem, hr, hs, hna, hlen, hl0, hta, g1, q1, e1]; first | done | trivial)); (focus (simp (maxSteps := 9999999) (disch := omega) only [go_sem, hr, hs, hna, hlen, hl0, hta, g1, q1, e1]; rfl))) | (apply TailK.go; (focus (simp (maxSteps := 9999999) (disch := omega) only [go_sem, hr, hs, hna, hlen, hl0, hta, g1, q1, e1]; rfl))) | refine AWpA.skip ?_ | refine AWpA.exit ?_ | refine AWpA.ret ?_ | (with_reducible refine ARoundsA.succ ?_) | ((first | refine Runs.kt (by assumption) (fun h9 => ?_) | refine Runs.kf (by assumption) (fun h9 => ?_) | refine Runs.nt (by assumption) (fun h9 => ?_) | refine Runs.nf (by assumption) (fun h9 => ?_) | refine CondP.ht (by assumption) (fun h9 => ?_) | refine CondP.hf (by assumption) (fun h9 => ?_) | refine CondP.nt (by assumption) (fun h9 => ?_) | refine CondP.nf (by assumption) (fun h9 => ?_)); (try simp only [h9]); clear h9) | ((first | (with_reducible apply CallG.plain1 [0] (hh)) | (with_reducible apply CallG.draw1 [0] (hh))); (focus ((try refine And.intro (leAs_of_eq rfl) ?_); (try refine And.intro (leOL_of_eq rfl) ?_); simp (maxSteps := 9999999) (disch := omega) only [go_sem, hr, hs, hna, hlen, hl0, hta, g1, q1, e1]; first | done | (repeat' (first | rfl | (refine And.intro ?_ ?_))))); (focus (simp (maxSteps := 9999999) (disch := omega) only [go_sem, hr, hs, hna, hlen, hl0, hta, g1, q1, e1]; rfl)))); (try simp (maxSteps := 9999999) (disch := omega) only [go_sem, hr, hs, hna, hlen, hl0, hta, g1, q1, e1]); (try (refine And.intro ?_ ?_; (focus (first | omega | (simp only [go_sem]; done) | (simp; done) | (simp; omega) | assumption))))) | ((first | refine CondP.split (fun hif => ?_) (fun hif => ?_) | refine Runs.part (fun hif => ?_) (fun hif => ?_)) <;> ((try simp only [hif]); (try simp only [decide_eq_true_eq, decide_eq_false_iff_not, Bool.not_eq_true, Bool.not_eq_false, Bool.not_eq_true', Bool.not_eq_false', beq_iff_eq, bne_iff_ne, bne_eq_false_iff_eq, beq_eq_false_iff_ne, ne_eq, Bool.and_eq_true, Bool.or_eq_true, Bool.or_eq_false_iff] at hif); (try (have h9 : _ = true := hif; simp only [h9])); (try (have h9 : _ = false := hif; simp only [h9])); (try simp (maxSteps := 9999999) (disch := omega) only [go_sem, hr, hs, hna, hlen, hl0, hta, g1, q1, e1]); (try (refine And.intro ?_ ?_; (focus (first | omega | (simp only [go_sem]; done) | (simp; done) | (simp; omega) | assumption)))); (try (exfalso; omega; done))))))
  have e2 : ((n : Int) + 1).toNat - 1 = n := by omega
  (apply Ret.det [0, 209]; (focus (first | exact .inl rfl | exact .inr rfl)); (focus (simp (maxSteps := 9999999) (disch := omega) only [go_sem, hr, renL_append, rm_ren, e2]; rfl)); (simp (maxSteps := 9999999) (disch := omega) only [go_sem, hr, renL_append, rm_ren, e2]; (try (repeat' (first | done | trivial | rfl | exact leAs_rfl _ | decide | (refine And.intro ?_ ?_) | (simp; done) | omega | (simp; decide))))))
/-- As the document's list turns. -/
theorem radd_new (room : Nat) (off : Nat) (l : List Mk) (m : Mk) (hl : l.length ≤ room) (h0 : 1 ≤ room) (h1 : room ≤ 1024) (h : m ∉ l) : ∃ o, ACall Try.prog 26 [.agg [I room, .sl 0 off l.length 3 none], MkG m] [.cells true (Rm off l)] (Det (.tup [.agg [I room, .sl 1 o (addD room l m).length 3 none], Bo true]) [.cells true (Rm off l), .cells false (Rm o (addD room l m))]) := by
  unfold addD
  rw [if_neg h]
  by_cases hr : room < l.length + 1
  · rw [if_pos hr]
    refine ⟨3, ?_⟩
    have := radd_out room off l m (by omega) h (by omega) hr
    rwa [show ((l ++ [m]).drop 1).length = l.length by simp]
  · rw [if_neg hr]
    refine ⟨0, ?_⟩
    have := radd_in room off l m (by omega) h (by omega)
    rwa [show (l ++ [m]).length = l.length + 1 by simp]
/- quidnunc/quidnunclaw18.short -/
noncomputable def c23_1 : ACode := .region false [⟨some 2, .move, [.c (.val (.bool false))], none⟩] [] [] [0] false [] []
noncomputable def c23_4 : ACode := .region false [⟨some 5, .move, [.t 0], none⟩,
  ⟨some 6, .len, [.t 5], none⟩,
  ⟨some 7, .move, [.c (.val (.int .i64 0))], none⟩] [] [] [0, 5, 6, 7] false [] []
noncomputable def c23_8 : ACode := .region false [⟨some 8, .bin .lss, [.t 7, .t 6], none⟩] [] [] [0, 5, 6, 7, 8] false [] []
noncomputable def c23_10 : ACode := .cond (.t 8) .skip (.exit 0)
noncomputable def c23_14 : ACode := .region false [⟨some 9, .ixS 3, [.t 5, .t 7], none⟩,
  ⟨some 10, .load true 3, [.t 9], none⟩,
  ⟨some 4, .alloc [(.int .i64 0), (.int .i64 0), (.string ⟨#[]⟩)], [], none⟩,
  ⟨none, .store 3, [.t 4, .t 10], none⟩] [] [] [0, 4, 5, 6, 7] true [] []
noncomputable def c23_16 : ACode := .region false [⟨some 11, .addr 2, [.t 4], none⟩,
  ⟨some 12, .load false 1, [.t 11], none⟩,
  ⟨some 13, .lenStr, [.t 12], none⟩,
  ⟨some 14, .bin .gtr, [.t 13, .c (.val (.int .i64 40))], none⟩] [] [] [0, 5, 6, 7, 14] false [] []
noncomputable def c23_19 : ACode := .region false [⟨some 2, .move, [.c (.val (.bool false))], none⟩] [] [] [2] false [] []
noncomputable def c23_18 : ACode := .seq c23_19 .ret
noncomputable def c23_17 : ACode := .cond (.t 14) c23_18 .skip
noncomputable def c23_15 : ACode := .seq c23_16 c23_17
noncomputable def c23_13 : ACode := .seq c23_14 c23_15
noncomputable def c23_12 : ACode := .block 1 c23_13
noncomputable def c23_20 : ACode := .region false [⟨some 15, .bin .add, [.t 7, .c (.val (.int .i64 1))], none⟩,
  ⟨some 7, .move, [.t 15], none⟩] [] [] [0, 5, 6, 7] false [] []
noncomputable def c23_11 : ACode := .seq c23_12 c23_20
noncomputable def c23_9 : ACode := .seq c23_10 c23_11
noncomputable def c23_7 : ACode := .seq c23_8 c23_9
noncomputable def c23_6 : ACode := .loop c23_7
noncomputable def c23_5 : ACode := .block 0 c23_6
noncomputable def c23_3 : ACode := .seq c23_4 c23_5
noncomputable def c23_22 : ACode := .region false [⟨some 16, .move, [.t 0], none⟩,
  ⟨some 17, .len, [.t 16], none⟩,
  ⟨some 18, .bin .leq, [.t 17, .c (.val (.int .i64 80))], none⟩,
  ⟨some 2, .move, [.t 18], none⟩] [] [] [2] false [] []
noncomputable def c23_21 : ACode := .seq c23_22 .ret
noncomputable def c23_2 : ACode := .seq c23_3 c23_21
noncomputable def c23_0 : ACode := .seq c23_1 c23_2
noncomputable def code23 : Code := (Try.f23.body).getD .skip
theorem c23_ok : compC Try.prog 19 code23 = some (strip c23_0) := by kernel_rfl
theorem res23_ok : Try.f23.results.toList.mapM (resC Try.prog) = some [(2, none)] := by kernel_rfl
/- quidnunc/quidnunclaw18.speaks -/
noncomputable def c22_1 : ACode := .region false [⟨some 0, .move, [.c (.val (.bool false))], none⟩] [] [] [] false [] []
noncomputable def c22_3 : ACode := .region false [⟨some 7, .call 24, [.c (.val (.int .i64 2))], none⟩,
  ⟨some 6, .move, [.t 7], none⟩,
  ⟨some 8, .ext 0, [.t 6], none⟩,
  ⟨some 9, .ext 1, [.t 6], none⟩,
  ⟨some 1, .move, [.t 8], none⟩,
  ⟨some 2, .move, [.t 9], none⟩] [] [] [1, 2] true [] []
noncomputable def c22_6 : ACode := .region false [⟨some 10, .move, [.t 2], none⟩,
  ⟨some 11, .bin .neq, [.t 10, .c (.val (.int .i64 0))], none⟩,
  ⟨some 12, .move, [.t 11], none⟩,
  ⟨some 13, .move, [.t 1], some (some 12, false)⟩,
  ⟨some 14, .eqP false, [.t 13, .c (.val (.pointer none))], some (some 12, false)⟩,
  ⟨some 15, .pick, [.t 12, .c (.val (.bool true)), .t 14], none⟩] [] [] [1, 15] false [] []
noncomputable def c22_9 : ACode := .region false [⟨some 0, .move, [.c (.val (.bool false))], none⟩] [] [] [0] false [] []
noncomputable def c22_8 : ACode := .seq c22_9 .ret
noncomputable def c22_7 : ACode := .cond (.t 15) c22_8 .skip
noncomputable def c22_5 : ACode := .seq c22_6 c22_7
noncomputable def c22_12 : ACode := .region false [⟨some 16, .buildSl 1 4 [(.string ⟨#[]⟩)] [(0, 1), (1, 1), (2, 1), (3, 1)], [.c (.val (.string ⟨#[97]⟩)), .c (.val (.string ⟨#[98]⟩)), .c (.val (.string ⟨#[97]⟩)), .c (.val (.string ⟨#[99]⟩))], none⟩,
  ⟨some 17, .len, [.t 16], none⟩,
  ⟨some 18, .move, [.c (.val (.int .i64 0))], none⟩] [] [] [1, 16, 17, 18] true [] []
noncomputable def c22_16 : ACode := .region false [⟨some 19, .bin .lss, [.t 18, .t 17], none⟩] [] [] [1, 16, 17, 18, 19] false [] []
noncomputable def c22_18 : ACode := .cond (.t 19) .skip (.exit 0)
noncomputable def c22_22 : ACode := .region false [⟨some 20, .ixS 1, [.t 16, .t 18], none⟩,
  ⟨some 21, .load false 1, [.t 20], none⟩,
  ⟨some 4, .move, [.t 21], none⟩] [] [] [1, 4, 16, 17, 18] false [] []
noncomputable def c22_23 : ACode := .region false [⟨some 22, .move, [.t 1], none⟩,
  ⟨some 23, .move, [.t 4], none⟩,
  ⟨some 24, .build [(.int .i64 0), (.int .i64 0), (.string ⟨#[]⟩)] [(2, 1)], [.t 23], none⟩,
  ⟨some 25, .call 27, [.t 22, .t 24], none⟩] [] [] [1, 16, 17, 18] true [] []
noncomputable def c22_21 : ACode := .seq c22_22 c22_23
noncomputable def c22_20 : ACode := .block 1 c22_21
noncomputable def c22_24 : ACode := .region false [⟨some 26, .bin .add, [.t 18, .c (.val (.int .i64 1))], none⟩,
  ⟨some 18, .move, [.t 26], none⟩] [] [] [1, 16, 17, 18] false [] []
noncomputable def c22_19 : ACode := .seq c22_20 c22_24
noncomputable def c22_17 : ACode := .seq c22_18 c22_19
noncomputable def c22_15 : ACode := .seq c22_16 c22_17
noncomputable def c22_14 : ACode := .loop c22_15
noncomputable def c22_13 : ACode := .block 0 c22_14
noncomputable def c22_11 : ACode := .seq c22_12 c22_13
noncomputable def c22_26 : ACode := .region false [⟨some 27, .move, [.t 1], none⟩,
  ⟨some 28, .call 34, [.t 27], none⟩,
  ⟨some 5, .move, [.t 28], none⟩] [] [] [5] true [] []
noncomputable def c22_28 : ACode := .region false [⟨some 29, .move, [.t 5], none⟩,
  ⟨some 30, .len, [.t 29], none⟩,
  ⟨some 31, .bin .eql, [.t 30, .c (.val (.int .i64 2))], none⟩,
  ⟨some 32, .move, [.t 31], none⟩,
  ⟨some 33, .move, [.t 5], some (some 32, true)⟩,
  ⟨some 34, .ixS 3, [.t 33, .c (.val (.int .i64 0))], some (some 32, true)⟩,
  ⟨some 35, .addr 2, [.t 34], some (some 32, true)⟩,
  ⟨some 36, .load false 1, [.t 35], some (some 32, true)⟩,
  ⟨some 37, .bin .eql, [.t 36, .c (.val (.string ⟨#[98]⟩))], some (some 32, true)⟩,
  ⟨some 38, .pick, [.t 32, .t 37, .c (.val (.bool false))], none⟩,
  ⟨some 39, .move, [.t 38], none⟩,
  ⟨some 40, .move, [.t 5], some (some 39, true)⟩,
  ⟨some 41, .ixS 3, [.t 40, .c (.val (.int .i64 1))], some (some 39, true)⟩,
  ⟨some 42, .addr 2, [.t 41], some (some 39, true)⟩,
  ⟨some 43, .load false 1, [.t 42], some (some 39, true)⟩,
  ⟨some 44, .bin .eql, [.t 43, .c (.val (.string ⟨#[99]⟩))], some (some 39, true)⟩,
  ⟨some 45, .pick, [.t 39, .t 44, .c (.val (.bool false))], none⟩,
  ⟨some 0, .move, [.t 45], none⟩] [] [] [0] false [] []
noncomputable def c22_27 : ACode := .seq c22_28 .ret
noncomputable def c22_25 : ACode := .seq c22_26 c22_27
noncomputable def c22_10 : ACode := .seq c22_11 c22_25
noncomputable def c22_4 : ACode := .seq c22_5 c22_10
noncomputable def c22_2 : ACode := .seq c22_3 c22_4
noncomputable def c22_0 : ACode := .seq c22_1 c22_2
noncomputable def code22 : Code := (Try.f22.body).getD .skip
theorem c22_ok : compC Try.prog 46 code22 = some (strip c22_0) := by kernel_rfl
theorem res22_ok : Try.f22.results.toList.mapM (resC Try.prog) = some [(0, none)] := by kernel_rfl
def shortL (l : List Mk) : Bool := l.all (fun m => decide (m.key.size ≤ 40)) && decide (l.length ≤ 80)
theorem short18_any (off : Nat) (l : List Mk) (hl : l.length ≤ 9223372036854775807) : ACall Try.prog 23 [.sl 0 off l.length 3 none] [.cells true (Rm off l)] (Det (Bo (shortL l)) [.cells true (Rm off l)]) := by
  have hr := rm_ren off l
  have hlen := rm_len off l
  refine ACall.startA c23_ok Try.func23 rfl Try.ntmps23 (by kernel_rfl) res23_ok rfl rfl rfl ?_; simp (maxSteps := 9999999) (disch := omega) only [go_sem]
  (repeat' (first | refine AWpA.seq ?_ | refine AWpA.block ?_ | (with_reducible refine CondP.tt ?_) | (with_reducible refine CondP.ff ?_) | refine AWpA.condv (by simp (maxSteps := 9999999) (disch := omega) only [go_sem, hr]; rfl) ?_ | ((first | (apply AWpA.region; (focus (simp (maxSteps := 9999999) (disch := omega) only [go_sem, hr]; rfl))) | (apply AWpA.draw [] [] follows; (focus (first | rfl | decide)); (focus (simp (maxSteps := 9999999) (disch := omega) only [go_sem, hr]; rfl)); (focus (simp (maxSteps := 9999999) (disch := omega) only [go_sem, hr]; first | done | trivial)); (focus (simp (maxSteps := 9999999) (disch := omega) only [go_sem, hr]; rfl))) | (apply TailK.go; (focus (simp (maxSteps := 9999999) (disch := omega) only [go_sem, hr]; rfl))) | refine AWpA.skip ?_ | refine AWpA.exit ?_ | refine AWpA.ret ?_ | (with_reducible refine ARoundsA.succ ?_) | ((first | refine Runs.kt (by assumption) (fun h9 => ?_) | refine Runs.kf (by assumption) (fun h9 => ?_) | refine Runs.nt (by assumption) (fun h9 => ?_) | refine Runs.nf (by assumption) (fun h9 => ?_) | refine CondP.ht (by assumption) (fun h9 => ?_) | refine CondP.hf (by assumption) (fun h9 => ?_) | refine CondP.nt (by assumption) (fun h9 => ?_) | refine CondP.nf (by assumption) (fun h9 => ?_)); (try simp only [h9]); clear h9)); (try simp (maxSteps := 9999999) (disch := omega) only [go_sem, hr]); (try (refine And.intro ?_ ?_; (focus (first | omega | (simp only [go_sem]; done) | (simp; done) | (simp; omega) | assumption))))) | ((first | refine CondP.split (fun hif => ?_) (fun hif => ?_) | refine Runs.part (fun hif => ?_) (fun hif => ?_)) <;> ((try simp only [hif]); (try simp only [decide_eq_true_eq, decide_eq_false_iff_not, Bool.not_eq_true, Bool.not_eq_false, Bool.not_eq_true', Bool.not_eq_false', beq_iff_eq, bne_iff_ne, bne_eq_false_iff_eq, beq_eq_false_iff_ne, ne_eq, Bool.and_eq_true, Bool.or_eq_true, Bool.or_eq_false_iff] at hif); (try (have h9 : _ = true := hif; simp only [h9])); (try (have h9 : _ = false := hif; simp only [h9])); (try simp (maxSteps := 9999999) (disch := omega) only [go_sem, hr]); (try (refine And.intro ?_ ?_; (focus (first | omega | (simp only [go_sem]; done) | (simp; done) | (simp; omega) | assumption)))); (try (exfalso; omega; done))))))
  (apply AWpA.loopL (fun i : Nat => [(0, .sl 0 off l.length 3 none), (5, .sl 0 off l.length 3 none), (6, I l.length), (7, I i)]) (fun i => [.cells true (Rm off l)]) (fun i => l.length - i) (fun i => i ≤ l.length ∧ (l.take i).all (fun m => decide (m.key.size ≤ 40)) = true) (0) [0]; rotate_left; (focus (simp (maxSteps := 9999999) (disch := omega) only [go_sem, hr]; (try (repeat' (first | done | trivial | rfl | exact leAs_rfl _ | decide | (refine And.intro ?_ ?_) | (simp; done) | omega | (simp; decide)))))); rotate_right)
  · exact ⟨Nat.zero_le _, rfl⟩
  rintro i ⟨hi, hp⟩
  (try simp only at hi)
  by_cases hin : i < l.length
  · have g1 : ((i : Int) < (l.length : Int)) = True := eq_true (by omega)
    have hat := rm_at off l i hin
    have e1 : l.take (i + 1) = l.take i ++ [l[i]] := by rw [List.take_add_one, List.getElem?_eq_getElem hin]; rfl
    have hmem : l[i] ∈ l := List.getElem_mem hin
    generalize l[i] = x at hat e1 hmem
    by_cases h40 : x.key.size ≤ 40
    · have g2 : ((40 : Int) < (x.key.size : Int)) = False := eq_false (by omega)
      have hp2 : (l.take (i + 1)).all (fun m => decide (m.key.size ≤ 40)) = true := by rw [e1, List.all_append, hp]; simp [h40]
      clear hp e1
      (try simp (maxSteps := 9999999) (disch := omega) only [go_sem])
      (repeat' (first | refine AWpA.seq ?_ | refine AWpA.block ?_ | (with_reducible refine CondP.tt ?_) | (with_reducible refine CondP.ff ?_) | refine AWpA.condv (by simp (maxSteps := 9999999) (disch := omega) only [go_sem, g1, g2, hr, hat, hlen]; rfl) ?_ | ((first | (apply AWpA.region; (focus (simp (maxSteps := 9999999) (disch := omega) only [go_sem, g1, g2, hr, hat, hlen]; rfl))) | (apply AWpA.draw [] [] follows; (focus (first | rfl | decide)); (focus (simp (maxSteps := 9999999) (disch := omega) only [go_sem, g1, g2, hr, hat, hlen]; rfl)); (focus (simp (maxSteps := 9999999) (disch := omega) only [go_sem, g1, g2, hr, hat, hlen]; first | done | trivial)); (focus (simp (maxSteps := 9999999) (disch := omega) only [go_sem, g1, g2, hr, hat, hlen]; rfl))) | (apply TailK.go; (focus (simp (maxSteps := 9999999) (disch := omega) only [go_sem, g1, g2, hr, hat, hlen]; rfl))) | refine AWpA.skip ?_ | refine AWpA.exit ?_ | refine AWpA.ret ?_ | (with_reducible refine ARoundsA.succ ?_) | ((first | refine Runs.kt (by assumption) (fun h9 => ?_) | refine Runs.kf (by assumption) (fun h9 => ?_) | refine Runs.nt (by assumption) (fun h9 => ?_) | refine Runs.nf (by assumption) (fun h9 => ?_) | refine CondP.ht (by assumption) (fun h9 => ?_) | refine CondP.hf (by assumption) (fun h9 => ?_) | refine CondP.nt (by assumption) (fun h9 => ?_) | refine CondP.nf (by assumption) (fun h9 => ?_)); (try simp only [h9]); clear h9)); (try simp (maxSteps := 9999999) (disch := omega) only [go_sem, g1, g2, hr, hat, hlen]); (try (refine And.intro ?_ ?_; (focus (first | omega | (simp only [go_sem]; done) | (simp; done) | (simp; omega) | assumption))))) | ((first | refine CondP.split (fun hif => ?_) (fun hif => ?_) | refine Runs.part (fun hif => ?_) (fun hif => ?_)) <;> ((try simp only [hif]); (try simp only [decide_eq_true_eq, decide_eq_false_iff_not, Bool.not_eq_true, Bool.not_eq_false, Bool.not_eq_true', Bool.not_eq_false', beq_iff_eq, bne_iff_ne, bne_eq_false_iff_eq, beq_eq_false_iff_ne, ne_eq, Bool.and_eq_true, Bool.or_eq_true, Bool.or_eq_false_iff] at hif); (try (have h9 : _ = true := hif; simp only [h9])); (try (have h9 : _ = false := hif; simp only [h9])); (try simp (maxSteps := 9999999) (disch := omega) only [go_sem, g1, g2, hr, hat, hlen]); (try (refine And.intro ?_ ?_; (focus (first | omega | (simp only [go_sem]; done) | (simp; done) | (simp; omega) | assumption)))); (try (exfalso; omega; done))))))
      (apply Back.to (i + 1) [0]; (focus ((try simp (maxSteps := 9999999) (disch := omega) only [go_sem, hr]); first | done | omega)); rotate_left; (focus (simp (maxSteps := 9999999) (disch := omega) only [go_sem, hr]; (try (repeat' (first | done | trivial | rfl | exact leAs_rfl _ | decide | (refine And.intro ?_ ?_) | (simp; done) | omega | (simp; decide)))))))
      exact ⟨by omega, hp2⟩
    · have g2 : ((40 : Int) < (x.key.size : Int)) = True := eq_true (by omega)
      have g5 : shortL l = false := by
        unfold shortL
        rw [Bool.and_eq_false_iff]
        refine .inl ?_
        rw [List.all_eq_false]
        exact ⟨x, hmem, by simpa using h40⟩
      clear hp e1
      (try simp (maxSteps := 9999999) (disch := omega) only [go_sem])
      (repeat' (first | refine AWpA.seq ?_ | refine AWpA.block ?_ | (with_reducible refine CondP.tt ?_) | (with_reducible refine CondP.ff ?_) | refine AWpA.condv (by simp (maxSteps := 9999999) (disch := omega) only [go_sem, g1, g2, hr, hat, hlen]; rfl) ?_ | ((first | (apply AWpA.region; (focus (simp (maxSteps := 9999999) (disch := omega) only [go_sem, g1, g2, hr, hat, hlen]; rfl))) | (apply AWpA.draw [] [] follows; (focus (first | rfl | decide)); (focus (simp (maxSteps := 9999999) (disch := omega) only [go_sem, g1, g2, hr, hat, hlen]; rfl)); (focus (simp (maxSteps := 9999999) (disch := omega) only [go_sem, g1, g2, hr, hat, hlen]; first | done | trivial)); (focus (simp (maxSteps := 9999999) (disch := omega) only [go_sem, g1, g2, hr, hat, hlen]; rfl))) | (apply TailK.go; (focus (simp (maxSteps := 9999999) (disch := omega) only [go_sem, g1, g2, hr, hat, hlen]; rfl))) | refine AWpA.skip ?_ | refine AWpA.exit ?_ | refine AWpA.ret ?_ | (with_reducible refine ARoundsA.succ ?_) | ((first | refine Runs.kt (by assumption) (fun h9 => ?_) | refine Runs.kf (by assumption) (fun h9 => ?_) | refine Runs.nt (by assumption) (fun h9 => ?_) | refine Runs.nf (by assumption) (fun h9 => ?_) | refine CondP.ht (by assumption) (fun h9 => ?_) | refine CondP.hf (by assumption) (fun h9 => ?_) | refine CondP.nt (by assumption) (fun h9 => ?_) | refine CondP.nf (by assumption) (fun h9 => ?_)); (try simp only [h9]); clear h9)); (try simp (maxSteps := 9999999) (disch := omega) only [go_sem, g1, g2, hr, hat, hlen]); (try (refine And.intro ?_ ?_; (focus (first | omega | (simp only [go_sem]; done) | (simp; done) | (simp; omega) | assumption))))) | ((first | refine CondP.split (fun hif => ?_) (fun hif => ?_) | refine Runs.part (fun hif => ?_) (fun hif => ?_)) <;> ((try simp only [hif]); (try simp only [decide_eq_true_eq, decide_eq_false_iff_not, Bool.not_eq_true, Bool.not_eq_false, Bool.not_eq_true', Bool.not_eq_false', beq_iff_eq, bne_iff_ne, bne_eq_false_iff_eq, beq_eq_false_iff_ne, ne_eq, Bool.and_eq_true, Bool.or_eq_true, Bool.or_eq_false_iff] at hif); (try (have h9 : _ = true := hif; simp only [h9])); (try (have h9 : _ = false := hif; simp only [h9])); (try simp (maxSteps := 9999999) (disch := omega) only [go_sem, g1, g2, hr, hat, hlen]); (try (refine And.intro ?_ ?_; (focus (first | omega | (simp only [go_sem]; done) | (simp; done) | (simp; omega) | assumption)))); (try (exfalso; omega; done))))))
      (apply Ret.det [0]; (focus (first | exact .inl rfl | exact .inr rfl)); (focus (simp (maxSteps := 9999999) (disch := omega) only [go_sem, hr, g5]; rfl)); (simp (maxSteps := 9999999) (disch := omega) only [go_sem, hr, g5]; (try (repeat' (first | done | trivial | rfl | exact leAs_rfl _ | decide | (refine And.intro ?_ ?_) | (simp; done) | omega | (simp; decide))))))
  · obtain rfl : i = l.length := by omega
    have g1 : ((l.length : Int) < (l.length : Int)) = False := eq_false (by omega)
    rw [List.take_length] at hp
    have g5 : shortL l = decide (l.length ≤ 80) := by unfold shortL; rw [hp]; rfl
    clear hp
    by_cases h80 : l.length ≤ 80
    · have g2 : ((l.length : Int) ≤ 80) = True := eq_true (by omega)
      rw [decide_eq_true h80] at g5
      (try simp (maxSteps := 9999999) (disch := omega) only [go_sem])
      (repeat' (first | refine AWpA.seq ?_ | refine AWpA.block ?_ | (with_reducible refine CondP.tt ?_) | (with_reducible refine CondP.ff ?_) | refine AWpA.condv (by simp (maxSteps := 9999999) (disch := omega) only [go_sem, g1, g2, hr]; rfl) ?_ | ((first | (apply AWpA.region; (focus (simp (maxSteps := 9999999) (disch := omega) only [go_sem, g1, g2, hr]; rfl))) | (apply AWpA.draw [] [] follows; (focus (first | rfl | decide)); (focus (simp (maxSteps := 9999999) (disch := omega) only [go_sem, g1, g2, hr]; rfl)); (focus (simp (maxSteps := 9999999) (disch := omega) only [go_sem, g1, g2, hr]; first | done | trivial)); (focus (simp (maxSteps := 9999999) (disch := omega) only [go_sem, g1, g2, hr]; rfl))) | (apply TailK.go; (focus (simp (maxSteps := 9999999) (disch := omega) only [go_sem, g1, g2, hr]; rfl))) | refine AWpA.skip ?_ | refine AWpA.exit ?_ | refine AWpA.ret ?_ | (with_reducible refine ARoundsA.succ ?_) | ((first | refine Runs.kt (by assumption) (fun h9 => ?_) | refine Runs.kf (by assumption) (fun h9 => ?_) | refine Runs.nt (by assumption) (fun h9 => ?_) | refine Runs.nf (by assumption) (fun h9 => ?_) | refine CondP.ht (by assumption) (fun h9 => ?_) | refine CondP.hf (by assumption) (fun h9 => ?_) | refine CondP.nt (by assumption) (fun h9 => ?_) | refine CondP.nf (by assumption) (fun h9 => ?_)); (try simp only [h9]); clear h9)); (try simp (maxSteps := 9999999) (disch := omega) only [go_sem, g1, g2, hr]); (try (refine And.intro ?_ ?_; (focus (first | omega | (simp only [go_sem]; done) | (simp; done) | (simp; omega) | assumption))))) | ((first | refine CondP.split (fun hif => ?_) (fun hif => ?_) | refine Runs.part (fun hif => ?_) (fun hif => ?_)) <;> ((try simp only [hif]); (try simp only [decide_eq_true_eq, decide_eq_false_iff_not, Bool.not_eq_true, Bool.not_eq_false, Bool.not_eq_true', Bool.not_eq_false', beq_iff_eq, bne_iff_ne, bne_eq_false_iff_eq, beq_eq_false_iff_ne, ne_eq, Bool.and_eq_true, Bool.or_eq_true, Bool.or_eq_false_iff] at hif); (try (have h9 : _ = true := hif; simp only [h9])); (try (have h9 : _ = false := hif; simp only [h9])); (try simp (maxSteps := 9999999) (disch := omega) only [go_sem, g1, g2, hr]); (try (refine And.intro ?_ ?_; (focus (first | omega | (simp only [go_sem]; done) | (simp; done) | (simp; omega) | assumption)))); (try (exfalso; omega; done))))))
      (apply Ret.det [0]; (focus (first | exact .inl rfl | exact .inr rfl)); (focus (simp (maxSteps := 9999999) (disch := omega) only [go_sem, hr, g5]; rfl)); (simp (maxSteps := 9999999) (disch := omega) only [go_sem, hr, g5]; (try (repeat' (first | done | trivial | rfl | exact leAs_rfl _ | decide | (refine And.intro ?_ ?_) | (simp; done) | omega | (simp; decide))))))
    · have g2 : ((l.length : Int) ≤ 80) = False := eq_false (by omega)
      rw [decide_eq_false h80] at g5
      (try simp (maxSteps := 9999999) (disch := omega) only [go_sem])
      (repeat' (first | refine AWpA.seq ?_ | refine AWpA.block ?_ | (with_reducible refine CondP.tt ?_) | (with_reducible refine CondP.ff ?_) | refine AWpA.condv (by simp (maxSteps := 9999999) (disch := omega) only [go_sem, g1, g2, hr]; rfl) ?_ | ((first | (apply AWpA.region; (focus (simp (maxSteps := 9999999) (disch := omega) only [go_sem, g1, g2, hr]; rfl))) | (apply AWpA.draw [] [] follows; (focus (first | rfl | decide)); (focus (simp (maxSteps := 9999999) (disch := omega) only [go_sem, g1, g2, hr]; rfl)); (focus (simp (maxSteps := 9999999) (disch := omega) only [go_sem, g1, g2, hr]; first | done | trivial)); (focus (simp (maxSteps := 9999999) (disch := omega) only [go_sem, g1, g2, hr]; rfl))) | (apply TailK.go; (focus (simp (maxSteps := 9999999) (disch := omega) only [go_sem, g1, g2, hr]; rfl))) | refine AWpA.skip ?_ | refine AWpA.exit ?_ | refine AWpA.ret ?_ | (with_reducible refine ARoundsA.succ ?_) | ((first | refine Runs.kt (by assumption) (fun h9 => ?_) | refine Runs.kf (by assumption) (fun h9 => ?_) | refine Runs.nt (by assumption) (fun h9 => ?_) | refine Runs.nf (by assumption) (fun h9 => ?_) | refine CondP.ht (by assumption) (fun h9 => ?_) | refine CondP.hf (by assumption) (fun h9 => ?_) | refine CondP.nt (by assumption) (fun h9 => ?_) | refine CondP.nf (by assumption) (fun h9 => ?_)); (try simp only [h9]); clear h9)); (try simp (maxSteps := 9999999) (disch := omega) only [go_sem, g1, g2, hr]); (try (refine And.intro ?_ ?_; (focus (first | omega | (simp only [go_sem]; done) | (simp; done) | (simp; omega) | assumption))))) | ((first | refine CondP.split (fun hif => ?_) (fun hif => ?_) | refine Runs.part (fun hif => ?_) (fun hif => ?_)) <;> ((try simp only [hif]); (try simp only [decide_eq_true_eq, decide_eq_false_iff_not, Bool.not_eq_true, Bool.not_eq_false, Bool.not_eq_true', Bool.not_eq_false', beq_iff_eq, bne_iff_ne, bne_eq_false_iff_eq, beq_eq_false_iff_ne, ne_eq, Bool.and_eq_true, Bool.or_eq_true, Bool.or_eq_false_iff] at hif); (try (have h9 : _ = true := hif; simp only [h9])); (try (have h9 : _ = false := hif; simp only [h9])); (try simp (maxSteps := 9999999) (disch := omega) only [go_sem, g1, g2, hr]); (try (refine And.intro ?_ ?_; (focus (first | omega | (simp only [go_sem]; done) | (simp; done) | (simp; omega) | assumption)))); (try (exfalso; omega; done))))))
      (apply Ret.det [0]; (focus (first | exact .inl rfl | exact .inr rfl)); (focus (simp (maxSteps := 9999999) (disch := omega) only [go_sem, hr, g5]; rfl)); (simp (maxSteps := 9999999) (disch := omega) only [go_sem, hr, g5]; (try (repeat' (first | done | trivial | rfl | exact leAs_rfl _ | decide | (refine And.intro ?_ ?_) | (simp; done) | omega | (simp; decide))))))
def kM (c : UInt8) : Mk := ⟨⟨0, 0⟩, ⟨#[c]⟩⟩
theorem kM_ne {a b : UInt8} (h : a ≠ b) : kM a ≠ kM b := fun e => h (by
  have := congrArg Mk.key e
  simpa [kM] using this)
theorem speaks18 : ACall Try.prog 22 [] [] (Det (Bo true) []) := by
  have nab : kM 97 ≠ kM 98 := kM_ne (by decide)
  have nac : kM 97 ≠ kM 99 := kM_ne (by decide)
  have nbc : kM 98 ≠ kM 99 := kM_ne (by decide)
  have o0 := newS_ok (n := 2) (by decide) (by decide)
  have o1 := addS_ok o0 (kM 97)
  have o2 := addS_ok o1 (kM 98)
  have o3 := addS_ok o2 (kM 97)
  have o4 := addS_ok o3 (kM 99)
  have a1 := sadd_any o0 (kM 97)
  have a2 := sadd_any o1 (kM 98)
  have a3 := sadd_any o2 (kM 97)
  have a4 := sadd_any o3 (kM 99)
  have e1 : addS (newS 2) (kM 97) = ⟨2, [kM 97], 0, [kM 97]⟩ := by simp [addS, newS]
  have e2 : addS ⟨2, [kM 97], 0, [kM 97]⟩ (kM 98) = ⟨2, [kM 97, kM 98], 0, [kM 97, kM 98]⟩ := by simp [addS, nab.symm]
  have e3 : addS ⟨2, [kM 97, kM 98], 0, [kM 97, kM 98]⟩ (kM 97) = ⟨2, [kM 97, kM 98], 0, [kM 97, kM 98]⟩ := by simp [addS]
  have e4 : addS ⟨2, [kM 97, kM 98], 0, [kM 97, kM 98]⟩ (kM 99) = ⟨2, [kM 99, kM 98], 1, [kM 98, kM 99]⟩ := by simp [addS, nac.symm, nbc.symm]
  have a5 := sall_any o4
  rw [e1] at a1 a2 a3 a4 a5
  rw [e2] at a2 a3 a4 a5
  rw [e3] at a3 a4 a5
  rw [e4] at a4 a5
  have e5 : allS ⟨2, [kM 99, kM 98], 1, [kM 98, kM 99]⟩ = [kM 98, kM 99] := rfl
  rw [e5] at a5
  have n0 := snew_ok 2 (by decide) (by decide)
  have m1 : decide (kM 97 ∈ (newS 2).ring) = false := by simp [newS]
  have m2 : decide (kM 98 ∈ [kM 97]) = false := by simp [nab.symm]
  have m3 : decide (kM 97 ∈ [kM 97, kM 98]) = true := by simp
  have m4 : decide (kM 99 ∈ [kM 97, kM 98]) = false := by simp [nac.symm, nbc.symm]
  simp only [m1, m2, m3, m4, Bool.not_false, Bool.not_true] at a1 a2 a3 a4
  have f0 : Rm 0 [kM 98, kM 99] = [I 0, I 0, Str ⟨#[98]⟩, I 0, I 0, Str ⟨#[99]⟩] := rfl
  rw [f0] at a5
  have k1 : MkG (kM 97) = .agg [I 0, I 0, Str ⟨#[97]⟩] := rfl
  have k2 : MkG (kM 98) = .agg [I 0, I 0, Str ⟨#[98]⟩] := rfl
  have k3 : MkG (kM 99) = .agg [I 0, I 0, Str ⟨#[99]⟩] := rfl
  rw [k1] at a1 a3
  rw [k2] at a2
  rw [k3] at a4
  clear o0 o1 o2 o3 o4 e1 e2 e3 e4 m1 m2 m3 m4 nab nac nbc e5 f0
  generalize kM 97 = A at *
  generalize kM 98 = B at *
  generalize kM 99 = C at *
  refine ACall.startA c22_ok Try.func22 rfl Try.ntmps22 (by kernel_rfl) res22_ok rfl rfl rfl ?_; simp (maxSteps := 9999999) (disch := omega) only [go_sem]
  (repeat' (first | refine AWpA.seq ?_ | refine AWpA.block ?_ | (with_reducible refine CondP.tt ?_) | (with_reducible refine CondP.ff ?_) | refine AWpA.condv (by simp (maxSteps := 9999999) (disch := omega) only [go_sem, es_ren, ringC_ren]; rfl) ?_ | ((first | (apply AWpA.region; (focus (simp (maxSteps := 9999999) (disch := omega) only [go_sem, es_ren, ringC_ren]; rfl))) | (apply AWpA.draw [] [] follows; (focus (first | rfl | decide)); (focus (simp (maxSteps := 9999999) (disch := omega) only [go_sem, es_ren, ringC_ren]; rfl)); (focus (simp (maxSteps := 9999999) (disch := omega) only [go_sem, es_ren, ringC_ren]; first | done | trivial)); (focus (simp (maxSteps := 9999999) (disch := omega) only [go_sem, es_ren, ringC_ren]; rfl))) | (apply TailK.go; (focus (simp (maxSteps := 9999999) (disch := omega) only [go_sem, es_ren, ringC_ren]; rfl))) | refine AWpA.skip ?_ | refine AWpA.exit ?_ | refine AWpA.ret ?_ | (with_reducible refine ARoundsA.succ ?_) | ((first | refine Runs.kt (by assumption) (fun h9 => ?_) | refine Runs.kf (by assumption) (fun h9 => ?_) | refine Runs.nt (by assumption) (fun h9 => ?_) | refine Runs.nf (by assumption) (fun h9 => ?_) | refine CondP.ht (by assumption) (fun h9 => ?_) | refine CondP.hf (by assumption) (fun h9 => ?_) | refine CondP.nt (by assumption) (fun h9 => ?_) | refine CondP.nf (by assumption) (fun h9 => ?_)); (try simp only [h9]); clear h9) | ((first | (with_reducible apply CallG.plain1 [] (n0)) | (with_reducible apply CallG.draw1 [] (n0))); (focus ((try refine And.intro (leAs_of_eq rfl) ?_); (try refine And.intro (leOL_of_eq rfl) ?_); simp (maxSteps := 9999999) (disch := omega) only [go_sem, es_ren, ringC_ren]; first | done | (repeat' (first | rfl | (refine And.intro ?_ ?_))))); (focus (simp (maxSteps := 9999999) (disch := omega) only [go_sem, es_ren, ringC_ren]; rfl)))); (try simp (maxSteps := 9999999) (disch := omega) only [go_sem, es_ren, ringC_ren]); (try (refine And.intro ?_ ?_; (focus (first | omega | (simp only [go_sem]; done) | (simp; done) | (simp; omega) | assumption))))) | ((first | refine CondP.split (fun hif => ?_) (fun hif => ?_) | refine Runs.part (fun hif => ?_) (fun hif => ?_)) <;> ((try simp only [hif]); (try simp only [decide_eq_true_eq, decide_eq_false_iff_not, Bool.not_eq_true, Bool.not_eq_false, Bool.not_eq_true', Bool.not_eq_false', beq_iff_eq, bne_iff_ne, bne_eq_false_iff_eq, beq_eq_false_iff_ne, ne_eq, Bool.and_eq_true, Bool.or_eq_true, Bool.or_eq_false_iff] at hif); (try (have h9 : _ = true := hif; simp only [h9])); (try (have h9 : _ = false := hif; simp only [h9])); (try simp (maxSteps := 9999999) (disch := omega) only [go_sem, es_ren, ringC_ren]); (try (refine And.intro ?_ ?_; (focus (first | omega | (simp only [go_sem]; done) | (simp; done) | (simp; omega) | assumption)))); (try (exfalso; omega; done))))))
  refine AWpA.rounds 5 ?_
  (try simp (maxSteps := 9999999) (disch := omega) only [go_sem])
  (repeat' (first | refine AWpA.seq ?_ | refine AWpA.block ?_ | (with_reducible refine CondP.tt ?_) | (with_reducible refine CondP.ff ?_) | refine AWpA.condv (by simp (maxSteps := 9999999) (disch := omega) only [go_sem, es_ren, ringC_ren]; rfl) ?_ | ((first | (apply AWpA.region; (focus (simp (maxSteps := 9999999) (disch := omega) only [go_sem, es_ren, ringC_ren]; rfl))) | (apply AWpA.draw [] [] follows; (focus (first | rfl | decide)); (focus (simp (maxSteps := 9999999) (disch := omega) only [go_sem, es_ren, ringC_ren]; rfl)); (focus (simp (maxSteps := 9999999) (disch := omega) only [go_sem, es_ren, ringC_ren]; first | done | trivial)); (focus (simp (maxSteps := 9999999) (disch := omega) only [go_sem, es_ren, ringC_ren]; rfl))) | (apply TailK.go; (focus (simp (maxSteps := 9999999) (disch := omega) only [go_sem, es_ren, ringC_ren]; rfl))) | refine AWpA.skip ?_ | refine AWpA.exit ?_ | refine AWpA.ret ?_ | (with_reducible refine ARoundsA.succ ?_) | ((first | refine Runs.kt (by assumption) (fun h9 => ?_) | refine Runs.kf (by assumption) (fun h9 => ?_) | refine Runs.nt (by assumption) (fun h9 => ?_) | refine Runs.nf (by assumption) (fun h9 => ?_) | refine CondP.ht (by assumption) (fun h9 => ?_) | refine CondP.hf (by assumption) (fun h9 => ?_) | refine CondP.nt (by assumption) (fun h9 => ?_) | refine CondP.nf (by assumption) (fun h9 => ?_)); (try simp only [h9]); clear h9) | ((first | (with_reducible apply CallG.plain1 [16, 17, 18] (a1)) | (with_reducible apply CallG.draw1 [16, 17, 18] (a1))); (focus ((try refine And.intro (leAs_of_eq rfl) ?_); (try refine And.intro (leOL_of_eq rfl) ?_); simp (maxSteps := 9999999) (disch := omega) only [go_sem, es_ren, ringC_ren]; first | done | (repeat' (first | rfl | (refine And.intro ?_ ?_))))); (focus (simp (maxSteps := 9999999) (disch := omega) only [go_sem, es_ren, ringC_ren]; rfl))) | ((first | (with_reducible apply CallG.plain1 [16, 17, 18] (a2)) | (with_reducible apply CallG.draw1 [16, 17, 18] (a2))); (focus ((try refine And.intro (leAs_of_eq rfl) ?_); (try refine And.intro (leOL_of_eq rfl) ?_); simp (maxSteps := 9999999) (disch := omega) only [go_sem, es_ren, ringC_ren]; first | done | (repeat' (first | rfl | (refine And.intro ?_ ?_))))); (focus (simp (maxSteps := 9999999) (disch := omega) only [go_sem, es_ren, ringC_ren]; rfl))) | ((first | (with_reducible apply CallG.plain1 [16, 17, 18] (a3)) | (with_reducible apply CallG.draw1 [16, 17, 18] (a3))); (focus ((try refine And.intro (leAs_of_eq rfl) ?_); (try refine And.intro (leOL_of_eq rfl) ?_); simp (maxSteps := 9999999) (disch := omega) only [go_sem, es_ren, ringC_ren]; first | done | (repeat' (first | rfl | (refine And.intro ?_ ?_))))); (focus (simp (maxSteps := 9999999) (disch := omega) only [go_sem, es_ren, ringC_ren]; rfl))) | ((first | (with_reducible apply CallG.plain1 [16, 17, 18] (a4)) | (with_reducible apply CallG.draw1 [16, 17, 18] (a4))); (focus ((try refine And.intro (leAs_of_eq rfl) ?_); (try refine And.intro (leOL_of_eq rfl) ?_); simp (maxSteps := 9999999) (disch := omega) only [go_sem, es_ren, ringC_ren]; first | done | (repeat' (first | rfl | (refine And.intro ?_ ?_))))); (focus (simp (maxSteps := 9999999) (disch := omega) only [go_sem, es_ren, ringC_ren]; rfl))) | ((first | (with_reducible apply CallG.plain1 [16, 17, 18] (a5)) | (with_reducible apply CallG.draw1 [16, 17, 18] (a5))); (focus ((try refine And.intro (leAs_of_eq rfl) ?_); (try refine And.intro (leOL_of_eq rfl) ?_); simp (maxSteps := 9999999) (disch := omega) only [go_sem, es_ren, ringC_ren]; first | done | (repeat' (first | rfl | (refine And.intro ?_ ?_))))); (focus (simp (maxSteps := 9999999) (disch := omega) only [go_sem, es_ren, ringC_ren]; rfl)))); (try simp (maxSteps := 9999999) (disch := omega) only [go_sem, es_ren, ringC_ren]); (try (refine And.intro ?_ ?_; (focus (first | omega | (simp only [go_sem]; done) | (simp; done) | (simp; omega) | assumption))))) | ((first | refine CondP.split (fun hif => ?_) (fun hif => ?_) | refine Runs.part (fun hif => ?_) (fun hif => ?_)) <;> ((try simp only [hif]); (try simp only [decide_eq_true_eq, decide_eq_false_iff_not, Bool.not_eq_true, Bool.not_eq_false, Bool.not_eq_true', Bool.not_eq_false', beq_iff_eq, bne_iff_ne, bne_eq_false_iff_eq, beq_eq_false_iff_ne, ne_eq, Bool.and_eq_true, Bool.or_eq_true, Bool.or_eq_false_iff] at hif); (try (have h9 : _ = true := hif; simp only [h9])); (try (have h9 : _ = false := hif; simp only [h9])); (try simp (maxSteps := 9999999) (disch := omega) only [go_sem, es_ren, ringC_ren]); (try (refine And.intro ?_ ?_; (focus (first | omega | (simp only [go_sem]; done) | (simp; done) | (simp; omega) | assumption)))); (try (exfalso; omega; done))))))
  (apply Ret.det []; (focus (first | exact .inl rfl | exact .inr rfl)); (focus (simp (maxSteps := 9999999) (disch := omega) only [go_sem]; rfl)); (simp (maxSteps := 9999999) (disch := omega) only [go_sem]; (try (repeat' (first | done | trivial | rfl | exact leAs_rfl _ | decide | (refine And.intro ?_ ?_) | (simp; done) | omega | (simp; decide))))))
end Go.Proofs.Ytjcjmeeajkdlhaa
