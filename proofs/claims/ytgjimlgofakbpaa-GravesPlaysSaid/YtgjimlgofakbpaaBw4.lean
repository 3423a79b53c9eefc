/- Contracts: what isn't there; the document's. -/
import Derived.Test.YtgjimlgofakbpaaBw3
namespace Go.Proofs.Ytgjimlgofakbpaa
set_option linter.unusedSimpArgs false
set_option linter.unusedVariables false
set_option maxHeartbeats 4000000
open Go Go.Am Go.RowKit
set_option maxRecDepth 100000
/- quidnunc/quidnuncref11.Find -/
noncomputable def c49_1 : ACode := .region false [⟨some 4, .move, [.c (.val (.int .i64 0))], none⟩] [] [] [0, 1] false [] []
noncomputable def c49_4 : ACode := .region false [⟨some 5, .move, [.c (.val (.int .i64 0))], none⟩] [] [] [0, 1, 5] false [] []
noncomputable def c49_9 : ACode := .region false [⟨some 6, .move, [.t 5], none⟩,
  ⟨some 7, .move, [.t 0], none⟩,
  ⟨some 8, .len, [.t 7], none⟩,
  ⟨some 9, .bin .lss, [.t 6, .t 8], none⟩] [] [] [0, 1, 5, 9] false [] []
noncomputable def c49_10 : ACode := .cond (.t 9) .skip (.exit 0)
noncomputable def c49_8 : ACode := .seq c49_9 c49_10
noncomputable def c49_14 : ACode := .region false [⟨some 12, .move, [.t 0], none⟩,
  ⟨some 13, .move, [.t 5], none⟩,
  ⟨some 14, .ixS 9, [.t 12, .t 13], none⟩,
  ⟨some 15, .addr 0, [.t 14], none⟩,
  ⟨some 16, .load false 1, [.t 15], none⟩,
  ⟨some 17, .move, [.t 1], none⟩,
  ⟨some 18, .bin .eql, [.t 16, .t 17], none⟩] [] [] [0, 1, 5, 18] false [] []
noncomputable def c49_17 : ACode := .region false [⟨some 19, .move, [.t 5], none⟩,
  ⟨some 4, .move, [.t 19], none⟩] [] [] [4] false [] []
noncomputable def c49_16 : ACode := .seq c49_17 .ret
noncomputable def c49_15 : ACode := .cond (.t 18) c49_16 .skip
noncomputable def c49_13 : ACode := .seq c49_14 c49_15
noncomputable def c49_12 : ACode := .block 1 c49_13
noncomputable def c49_18 : ACode := .region false [⟨some 10, .move, [.t 5], none⟩,
  ⟨some 11, .bin .add, [.t 10, .c (.val (.int .i64 1))], none⟩,
  ⟨some 5, .move, [.t 11], none⟩] [] [] [0, 1, 5] false [] []
noncomputable def c49_11 : ACode := .seq c49_12 c49_18
noncomputable def c49_7 : ACode := .seq c49_8 c49_11
noncomputable def c49_6 : ACode := .loop c49_7
noncomputable def c49_5 : ACode := .block 0 c49_6
noncomputable def c49_3 : ACode := .seq c49_4 c49_5
noncomputable def c49_20 : ACode := .region false [⟨some 4, .move, [.c (.val (.int .i64 (-1)))], none⟩] [] [] [4] false [] []
noncomputable def c49_19 : ACode := .seq c49_20 .ret
noncomputable def c49_2 : ACode := .seq c49_3 c49_19
noncomputable def c49_0 : ACode := .seq c49_1 c49_2
noncomputable def code49 : Code := (Try.f49.body).getD .skip
theorem c49_ok : compC Try.prog 20 code49 = some (strip c49_0) := by kernel_rfl
theorem res49_ok : Try.f49.results.toList.mapM (resC Try.prog) = some [(4, none)] := by kernel_rfl
theorem efind_any (o : Nat) (l : List En) (k : ByteArray) (hl : l.length ≤ 1099511627776) : ACall Try.prog 49 [.sl 0 o l.length 9 none, Str k] [.cells true (Re o l)] (Det (I (firstK l k)) [.cells true (Re o l)]) := by
  have hr := re_ren o l
  have hlen := re_len o l
  refine ACall.startA c49_ok Try.func49 rfl Try.ntmps49 (by kernel_rfl) res49_ok rfl rfl rfl ?_; simp (maxSteps := 9999999) (disch := omega) only [go_sem]
  (repeat' (first | refine AWpA.seq ?_ | refine AWpA.block ?_ | (with_reducible refine CondP.tt ?_) | (with_reducible refine CondP.ff ?_) | refine AWpA.condv (by simp (maxSteps := 9999999) (disch := omega) only [go_sem, hr]; rfl) ?_ | ((first | (apply AWpA.region; (focus (simp (maxSteps := 9999999) (disch := omega) only [go_sem, hr]; rfl))) | (apply AWpA.draw [] [] follows; (focus (first | rfl | decide)); (focus (simp (maxSteps := 9999999) (disch := omega) only [go_sem, hr]; rfl)); (focus (simp (maxSteps := 9999999) (disch := omega) only [go_sem, hr]; first | done | trivial)); (focus (simp (maxSteps := 9999999) (disch := omega) only [go_sem, hr]; rfl))) | (apply TailK.go; (focus (simp (maxSteps := 9999999) (disch := omega) only [go_sem, hr]; rfl))) | refine AWpA.skip ?_ | refine AWpA.exit ?_ | refine AWpA.ret ?_ | (with_reducible refine ARoundsA.succ ?_) | ((first | refine Runs.kt (by assumption) (fun h9 => ?_) | refine Runs.kf (by assumption) (fun h9 => ?_) | refine Runs.nt (by assumption) (fun h9 => ?_) | refine Runs.nf (by assumption) (fun h9 => ?_) | refine CondP.ht (by assumption) (fun h9 => ?_) | refine CondP.hf (by assumption) (fun h9 => ?_) | refine CondP.nt (by assumption) (fun h9 => ?_) | refine CondP.nf (by assumption) (fun h9 => ?_)); (try simp only [h9]); clear h9)); (try simp (maxSteps := 9999999) (disch := omega) only [go_sem, hr]); (try (refine And.intro ?_ ?_; (focus (first | omega | (simp only [go_sem]; done) | (simp; done) | (simp; omega) | assumption))))) | ((first | refine CondP.split (fun hif => ?_) (fun hif => ?_) | refine Runs.part (fun hif => ?_) (fun hif => ?_)) <;> ((try simp only [hif]); (try simp only [decide_eq_true_eq, decide_eq_false_iff_not, Bool.not_eq_true, Bool.not_eq_false, Bool.not_eq_true', Bool.not_eq_false', beq_iff_eq, bne_iff_ne, bne_eq_false_iff_eq, beq_eq_false_iff_ne, ne_eq, Bool.and_eq_true, Bool.or_eq_true, Bool.or_eq_false_iff] at hif); (try (have h9 : _ = true := hif; simp only [h9])); (try (have h9 : _ = false := hif; simp only [h9])); (try simp (maxSteps := 9999999) (disch := omega) only [go_sem, hr]); (try (refine And.intro ?_ ?_; (focus (first | omega | (simp only [go_sem]; done) | (simp; done) | (simp; omega) | assumption)))); (try (exfalso; omega; done))))))
  (apply AWpA.loopL (fun i : Nat => [(0, .sl 0 o l.length 9 none), (1, Str k), (5, I i)]) (fun i => [.cells true (Re o l)]) (fun i => l.length - i) (fun i => i ≤ l.length ∧ ∀ q (h : q < l.length), q < i → decide (l[q].key = k) = false) (0) [0]; rotate_left; (focus (simp (maxSteps := 9999999) (disch := omega) only [go_sem, hr]; (try (repeat' (first | done | trivial | rfl | exact leAs_rfl _ | decide | (refine And.intro ?_ ?_) | (simp; done) | omega | (simp; decide)))))); rotate_right)
  · exact ⟨Nat.zero_le _, fun q h hq => by omega⟩
  rintro i ⟨hi, hq⟩
  (try simp only at hi hq)
  by_cases hil : i < l.length
  · have g1 : ((i : Int) < (l.length : Int)) = True := eq_true (by omega)
    have hk0 := re_key o l i hil
    have hfe : decide (l[i].key = k) = true → firstK l k = i := fun h => idxI_at hil hq h
    have hn : decide (l[i].key = k) = false → ∀ q (h : q < l.length), q < i + 1 → decide (l[q].key = k) = false := fun h q hl hq' => by
      rcases Nat.lt_or_eq_of_le (Nat.le_of_lt_succ hq') with h' | rfl
      · exact hq q hl h'
      · exact h
    clear hq
    generalize l[i] = x at *
    by_cases he : x.key = k
    · have hb : (x.key == k) = true := by rw [ba_dec, decide_eq_true he]
      rw [hfe (decide_eq_true he)]
      clear hn hfe
      (try simp (maxSteps := 9999999) (disch := omega) only [go_sem])
      (repeat' (first | refine AWpA.seq ?_ | refine AWpA.block ?_ | (with_reducible refine CondP.tt ?_) | (with_reducible refine CondP.ff ?_) | refine AWpA.condv (by simp (maxSteps := 9999999) (disch := omega) only [go_sem, hr, hlen, g1, hk0, hb]; rfl) ?_ | ((first | (apply AWpA.region; (focus (simp (maxSteps := 9999999) (disch := omega) only [go_sem, hr, hlen, g1, hk0, hb]; rfl))) | (apply AWpA.draw [] [] follows; (focus (first | rfl | decide)); (focus (simp (maxSteps := 9999999) (disch := omega) only [go_sem, hr, hlen, g1, hk0, hb]; rfl)); (focus (simp (maxSteps := 9999999) (disch := omega) only [go_sem, hr, hlen, g1, hk0, hb]; first | done | trivial)); (focus (simp (maxSteps := 9999999) (disch := omega) only [go_sem, hr, hlen, g1, hk0, hb]; rfl))) | (apply TailK.go; (focus (simp (maxSteps := 9999999) (disch := omega) only [go_sem, hr, hlen, g1, hk0, hb]; rfl))) | refine AWpA.skip ?_ | refine AWpA.exit ?_ | refine AWpA.ret ?_ | (with_reducible refine ARoundsA.succ ?_) | ((first | refine Runs.kt (by assumption) (fun h9 => ?_) | refine Runs.kf (by assumption) (fun h9 => ?_) | refine Runs.nt (by assumption) (fun h9 => ?_) | refine Runs.nf (by assumption) (fun h9 => ?_) | refine CondP.ht (by assumption) (fun h9 => ?_) | refine CondP.hf (by assumption) (fun h9 => ?_) | refine CondP.nt (by assumption) (fun h9 => ?_) | refine CondP.nf (by assumption) (fun h9 => ?_)); (try simp only [h9]); clear h9)); (try simp (maxSteps := 9999999) (disch := omega) only [go_sem, hr, hlen, g1, hk0, hb]); (try (refine And.intro ?_ ?_; (focus (first | omega | (simp only [go_sem]; done) | (simp; done) | (simp; omega) | assumption))))) | ((first | refine CondP.split (fun hif => ?_) (fun hif => ?_) | refine Runs.part (fun hif => ?_) (fun hif => ?_)) <;> ((try simp only [hif]); (try simp only [decide_eq_true_eq, decide_eq_false_iff_not, Bool.not_eq_true, Bool.not_eq_false, Bool.not_eq_true', Bool.not_eq_false', beq_iff_eq, bne_iff_ne, bne_eq_false_iff_eq, beq_eq_false_iff_ne, ne_eq, Bool.and_eq_true, Bool.or_eq_true, Bool.or_eq_false_iff] at hif); (try (have h9 : _ = true := hif; simp only [h9])); (try (have h9 : _ = false := hif; simp only [h9])); (try simp (maxSteps := 9999999) (disch := omega) only [go_sem, hr, hlen, g1, hk0, hb]); (try (refine And.intro ?_ ?_; (focus (first | omega | (simp only [go_sem]; done) | (simp; done) | (simp; omega) | assumption)))); (try (exfalso; omega; done))))))
      (apply Ret.det [0]; (focus (first | exact .inl rfl | exact .inr rfl)); (focus (simp (maxSteps := 9999999) (disch := omega) only [go_sem, hr]; rfl)); (simp (maxSteps := 9999999) (disch := omega) only [go_sem, hr]; (try (repeat' (first | done | trivial | rfl | exact leAs_rfl _ | decide | (refine And.intro ?_ ?_) | (simp; done) | omega | (simp; decide))))))
    · have hb : (x.key == k) = false := by rw [ba_dec, decide_eq_false he]
      have hn := hn (decide_eq_false he)
      clear hfe
      (try simp (maxSteps := 9999999) (disch := omega) only [go_sem])
      (repeat' (first | refine AWpA.seq ?_ | refine AWpA.block ?_ | (with_reducible refine CondP.tt ?_) | (with_reducible refine CondP.ff ?_) | refine AWpA.condv (by simp (maxSteps := 9999999) (disch := omega) only [go_sem, hr, hlen, g1, hk0, hb]; rfl) ?_ | ((first | (apply AWpA.region; (focus (simp (maxSteps := 9999999) (disch := omega) only [go_sem, hr, hlen, g1, hk0, hb]; rfl))) | (apply AWpA.draw [] [] follows; (focus (first | rfl | decide)); (focus (simp (maxSteps := 9999999) (disch := omega) only [go_sem, hr, hlen, g1, hk0, hb]; rfl)); (focus (simp (maxSteps := 9999999) (disch := omega) only [go_sem, hr, hlen, g1, hk0, hb]; first | done | trivial)); (focus (simp (maxSteps := 9999999) (disch := omega) only [go_sem, hr, hlen, g1, hk0, hb]; rfl))) | (apply TailK.go; (focus (simp (maxSteps := 9999999) (disch := omega) only [go_sem, hr, hlen, g1, hk0, hb]; rfl))) | refine AWpA.skip ?_ | refine AWpA.exit ?_ | refine AWpA.ret ?_ | (with_reducible refine ARoundsA.succ ?_) | ((first | refine Runs.kt (by assumption) (fun h9 => ?_) | refine Runs.kf (by assumption) (fun h9 => ?_) | refine Runs.nt (by assumption) (fun h9 => ?_) | refine Runs.nf (by assumption) (fun h9 => ?_) | refine CondP.ht (by assumption) (fun h9 => ?_) | refine CondP.hf (by assumption) (fun h9 => ?_) | refine CondP.nt (by assumption) (fun h9 => ?_) | refine CondP.nf (by assumption) (fun h9 => ?_)); (try simp only [h9]); clear h9)); (try simp (maxSteps := 9999999) (disch := omega) only [go_sem, hr, hlen, g1, hk0, hb]); (try (refine And.intro ?_ ?_; (focus (first | omega | (simp only [go_sem]; done) | (simp; done) | (simp; omega) | assumption))))) | ((first | refine CondP.split (fun hif => ?_) (fun hif => ?_) | refine Runs.part (fun hif => ?_) (fun hif => ?_)) <;> ((try simp only [hif]); (try simp only [decide_eq_true_eq, decide_eq_false_iff_not, Bool.not_eq_true, Bool.not_eq_false, Bool.not_eq_true', Bool.not_eq_false', beq_iff_eq, bne_iff_ne, bne_eq_false_iff_eq, beq_eq_false_iff_ne, ne_eq, Bool.and_eq_true, Bool.or_eq_true, Bool.or_eq_false_iff] at hif); (try (have h9 : _ = true := hif; simp only [h9])); (try (have h9 : _ = false := hif; simp only [h9])); (try simp (maxSteps := 9999999) (disch := omega) only [go_sem, hr, hlen, g1, hk0, hb]); (try (refine And.intro ?_ ?_; (focus (first | omega | (simp only [go_sem]; done) | (simp; done) | (simp; omega) | assumption)))); (try (exfalso; omega; done))))))
      (apply Back.to (i + 1) [0]; (focus ((try simp (maxSteps := 9999999) (disch := omega) only [go_sem, hr]); first | done | omega)); rotate_left; (focus (simp (maxSteps := 9999999) (disch := omega) only [go_sem, hr]; (try (repeat' (first | done | trivial | rfl | exact leAs_rfl _ | decide | (refine And.intro ?_ ?_) | (simp; done) | omega | (simp; decide)))))))
      exact ⟨by omega, hn⟩
  · obtain rfl : i = l.length := by omega
    have g1 : ((l.length : Int) < (l.length : Int)) = False := eq_false (by omega)
    have hno : firstK l k = -1 := idxI_no fun q h => hq q h h
    rw [hno]
    clear hq
    (try simp (maxSteps := 9999999) (disch := omega) only [go_sem])
    (repeat' (first | refine AWpA.seq ?_ | refine AWpA.block ?_ | (with_reducible refine CondP.tt ?_) | (with_reducible refine CondP.ff ?_) | refine AWpA.condv (by simp (maxSteps := 9999999) (disch := omega) only [go_sem, hr, hlen, g1]; rfl) ?_ | ((first | (apply AWpA.region; (focus (simp (maxSteps := 9999999) (disch := omega) only [go_sem, hr, hlen, g1]; rfl))) | (apply AWpA.draw [] [] follows; (focus (first | rfl | decide)); (focus (simp (maxSteps := 9999999) (disch := omega) only [go_sem, hr, hlen, g1]; rfl)); (focus (simp (maxSteps := 9999999) (disch := omega) only [go_sem, hr, hlen, g1]; first | done | trivial)); (focus (simp (maxSteps := 9999999) (disch := omega) only [go_sem, hr, hlen, g1]; rfl))) | (apply TailK.go; (focus (simp (maxSteps := 9999999) (disch := omega) only [go_sem, hr, hlen, g1]; rfl))) | refine AWpA.skip ?_ | refine AWpA.exit ?_ | refine AWpA.ret ?_ | (with_reducible refine ARoundsA.succ ?_) | ((first | refine Runs.kt (by assumption) (fun h9 => ?_) | refine Runs.kf (by assumption) (fun h9 => ?_) | refine Runs.nt (by assumption) (fun h9 => ?_) | refine Runs.nf (by assumption) (fun h9 => ?_) | refine CondP.ht (by assumption) (fun h9 => ?_) | refine CondP.hf (by assumption) (fun h9 => ?_) | refine CondP.nt (by assumption) (fun h9 => ?_) | refine CondP.nf (by assumption) (fun h9 => ?_)); (try simp only [h9]); clear h9)); (try simp (maxSteps := 9999999) (disch := omega) only [go_sem, hr, hlen, g1]); (try (refine And.intro ?_ ?_; (focus (first | omega | (simp only [go_sem]; done) | (simp; done) | (simp; omega) | assumption))))) | ((first | refine CondP.split (fun hif => ?_) (fun hif => ?_) | refine Runs.part (fun hif => ?_) (fun hif => ?_)) <;> ((try simp only [hif]); (try simp only [decide_eq_true_eq, decide_eq_false_iff_not, Bool.not_eq_true, Bool.not_eq_false, Bool.not_eq_true', Bool.not_eq_false', beq_iff_eq, bne_iff_ne, bne_eq_false_iff_eq, beq_eq_false_iff_ne, ne_eq, Bool.and_eq_true, Bool.or_eq_true, Bool.or_eq_false_iff] at hif); (try (have h9 : _ = true := hif; simp only [h9])); (try (have h9 : _ = false := hif; simp only [h9])); (try simp (maxSteps := 9999999) (disch := omega) only [go_sem, hr, hlen, g1]); (try (refine And.intro ?_ ?_; (focus (first | omega | (simp only [go_sem]; done) | (simp; done) | (simp; omega) | assumption)))); (try (exfalso; omega; done))))))
    (apply Ret.det [0]; (focus (first | exact .inl rfl | exact .inr rfl)); (focus (simp (maxSteps := 9999999) (disch := omega) only [go_sem, hr]; rfl)); (simp (maxSteps := 9999999) (disch := omega) only [go_sem, hr]; (try (repeat' (first | done | trivial | rfl | exact leAs_rfl _ | decide | (refine And.intro ?_ ?_) | (simp; done) | omega | (simp; decide))))))
def ofB (e : En) (u : Up) : Bool := e.key == u.e.key && (e.val == u.e.val && (e.dead == u.e.dead && (e.st.c == u.e.st.c && e.st.s == u.e.st.s)))
theorem of_core (e : En) (u : Up) : ofB e u = decide (coreE e = coreE u.e) := by
  rw [← eqE_dec]
  simp [ofB, coreE, eqE]
end Go.Proofs.Ytgjimlgofakbpaa
