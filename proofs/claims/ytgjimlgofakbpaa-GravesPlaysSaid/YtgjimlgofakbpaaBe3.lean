/- Made by wip/gen_te.py: the same contracts for Table[api.Entry]. -/
import Derived.Test.YtgjimlgofakbpaaBe2
namespace Go.Proofs.Ytgjimlgofakbpaa.Ue
set_option linter.unusedSimpArgs false
set_option linter.unusedVariables false
set_option maxHeartbeats 4000000
open Go Go.Am Go.RowKit
set_option maxRecDepth 100000
theorem delete_any (l : List Pi) (i : Nat) (hi : i < l.length) (hl : l.length ≤ 1099511627776) : ACall Try.prog 81 [.sl 0 0 l.length 10 none, I i, I (i + 1)] [.cells false (Rp 0 l)] (Det (.sl 1 0 (l.length - 1) 10 none) [.gone, .cells false (Rp 0 (l.take i ++ l.drop (i + 1)))]) := by
  have hr := rp_ren 0
  have hlen := rp_len 0
  obtain ⟨m, hm⟩ : ∃ m, l.length = i + m + 1 := ⟨l.length - i - 1, by omega⟩
  rw [rp_app]
  have e0 : Rp 0 l = Rp 0 (l.take i) ++ PiL l[i] ++ Rp 0 (l.drop (i + 1)) := by
    rw [← rp_one, ← rp_app, ← rp_app]
    congr 1
    rw [List.append_assoc, List.singleton_append, List.getElem_cons_drop, List.take_append_drop]
  have hX := hlen (l.take i)
  have hY := hlen (l.drop (i + 1))
  rw [List.length_take, Nat.min_eq_left (by omega)] at hX
  rw [List.length_drop, show l.length - (i + 1) = m by omega] at hY
  have rX := hr (l.take i)
  have rY := hr (l.drop (i + 1))
  have rL := hr l
  have hL := hlen l
  generalize l[i] = p at *
  generalize Rp 0 (l.take i) = X at *
  generalize Rp 0 (l.drop (i + 1)) = Y at *
  simp only [Nat.zero_add] at hX hY hL
  have t1 : ((i : Int) + 1).toNat = i + 1 := by omega
  have t2 : ((i : Int) = (i : Int) + 1) = False := eq_false (by omega)
  have t3 : l.length - (i + 1) = m := by omega
  have t4 : l.length - (i + m) = 1 := by omega
  have t6 : ((i : Int) + (m : Int)).toNat = i + m := by omega
  have t5 : i + m + 1 - (i + m) = 1 := by omega
  have q1 : List.take (m * 10) (List.drop ((i + 1) * 10) (Rp 0 l)) = Y := by
    rw [e0, show (i + 1) * 10 = (X ++ PiL p).length by simp; omega, List.drop_left]
    exact List.take_of_length_le (by omega)
  have q2 : List.take (i * 10) (Rp 0 l) = X := by rw [e0, List.append_assoc, ← hX, List.take_left]
  obtain ⟨Z, hZ⟩ : ∃ Z, Z = List.drop ((i + m) * 10) (Rp 0 l) := ⟨_, rfl⟩
  have hZl : Z.length = 10 := by rw [hZ]; simp; omega
  have q4 : List.take ((i + m) * 10) (X ++ Y ++ Z) = X ++ Y := by
    rw [show (i + m) * 10 = (X ++ Y).length by simp; omega, List.take_left]
  have hcp0 : ∀ cp, l.length ≤ cp → i + m ≤ cp := fun cp h => by omega
  obtain ⟨D, hD⟩ : ∃ D, D = X ++ Y ++ [Str ⟨#[]⟩, Str ⟨#[]⟩, Str ⟨#[]⟩, Bo false, I 0, I 0, I 0, I 0, I 0, I 0] := ⟨_, rfl⟩
  have hDt : X ++ Y = D.take ((i + m) * 10) := by rw [hD, show (i + m) * 10 = (X ++ Y).length by simp; omega, List.take_left]
  have rD : ∀ ρ, renL ρ D = D := fun ρ => by rw [hD, renL_append, renL_append, rX, rY]; simp [renL, ren]
  have q5 : List.drop ((i + m) * 10 + 10) (X ++ Y ++ Z) = [] := List.drop_of_length_le (by simp; omega)
  have t7 : l.length - 1 = i + m := by omega
  rw [hDt, t7]
  refine ACall.cutR (A := [.gone]) _ ?_
  simp only [List.singleton_append]
  refine ACall.startA c81_ok Try.func81 rfl Try.ntmps81 (by kernel_rfl) res81_ok rfl rfl rfl ?_; simp (maxSteps := 9999999) (disch := omega) only [go_sem]
  refine AWpA.capcase 0 rfl (by omega) (fun cp hcp => ?_)
  have hcp := hcp0 cp hcp
  (repeat' (first | refine AWpA.seq ?_ | refine AWpA.block ?_ | (with_reducible refine CondP.tt ?_) | (with_reducible refine CondP.ff ?_) | refine AWpA.condv (by simp (maxSteps := 9999999) (disch := omega) only [go_sem, rX, rY, rL, hX, hY, hL, hcp, t1, t2, t3, t4, t5, t6, q1, q2, ← hZ, q4, renL_append]; rfl) ?_ | ((first | (apply AWpA.region; (focus (simp (maxSteps := 9999999) (disch := omega) only [go_sem, rX, rY, rL, hX, hY, hL, hcp, t1, t2, t3, t4, t5, t6, q1, q2, ← hZ, q4, renL_append]; rfl))) | (apply AWpA.draw [] [] follows; (focus (first | rfl | decide)); (focus (simp (maxSteps := 9999999) (disch := omega) only [go_sem, rX, rY, rL, hX, hY, hL, hcp, t1, t2, t3, t4, t5, t6, q1, q2, ← hZ, q4, renL_append]; rfl)); (focus (simp (maxSteps := 9999999) (disch := omega) only [go_sem, rX, rY, rL, hX, hY, hL, hcp, t1, t2, t3, t4, t5, t6, q1, q2, ← hZ, q4, renL_append]; first | done | trivial)); (focus (simp (maxSteps := 9999999) (disch := omega) only [go_sem, rX, rY, rL, hX, hY, hL, hcp, t1, t2, t3, t4, t5, t6, q1, q2, ← hZ, q4, renL_append]; rfl))) | (apply TailK.go; (focus (simp (maxSteps := 9999999) (disch := omega) only [go_sem, rX, rY, rL, hX, hY, hL, hcp, t1, t2, t3, t4, t5, t6, q1, q2, ← hZ, q4, renL_append]; rfl))) | refine AWpA.skip ?_ | refine AWpA.exit ?_ | refine AWpA.ret ?_ | (with_reducible refine ARoundsA.succ ?_) | ((first | refine Runs.kt (by assumption) (fun h9 => ?_) | refine Runs.kf (by assumption) (fun h9 => ?_) | refine Runs.nt (by assumption) (fun h9 => ?_) | refine Runs.nf (by assumption) (fun h9 => ?_) | refine CondP.ht (by assumption) (fun h9 => ?_) | refine CondP.hf (by assumption) (fun h9 => ?_) | refine CondP.nt (by assumption) (fun h9 => ?_) | refine CondP.nf (by assumption) (fun h9 => ?_)); (try simp only [h9]); clear h9)); (try simp (maxSteps := 9999999) (disch := omega) only [go_sem, rX, rY, rL, hX, hY, hL, hcp, t1, t2, t3, t4, t5, t6, q1, q2, ← hZ, q4, renL_append]); (try (refine And.intro ?_ ?_; (focus (first | omega | (simp only [go_sem]; done) | (simp; done) | (simp; omega) | assumption))))) | ((first | refine CondP.split (fun hif => ?_) (fun hif => ?_) | refine Runs.part (fun hif => ?_) (fun hif => ?_)) <;> ((try simp only [hif]); (try simp only [decide_eq_true_eq, decide_eq_false_iff_not, Bool.not_eq_true, Bool.not_eq_false, Bool.not_eq_true', Bool.not_eq_false', beq_iff_eq, bne_iff_ne, bne_eq_false_iff_eq, beq_eq_false_iff_ne, ne_eq, Bool.and_eq_true, Bool.or_eq_true, Bool.or_eq_false_iff] at hif); (try (have h9 : _ = true := hif; simp only [h9])); (try (have h9 : _ = false := hif; simp only [h9])); (try simp (maxSteps := 9999999) (disch := omega) only [go_sem, rX, rY, rL, hX, hY, hL, hcp, t1, t2, t3, t4, t5, t6, q1, q2, ← hZ, q4, renL_append]); (try (refine And.intro ?_ ?_; (focus (first | omega | (simp only [go_sem]; done) | (simp; done) | (simp; omega) | assumption)))); (try (exfalso; omega; done))))))
  rw [q5, List.append_nil, ← hD]
  (apply Ret.det [0, 0]; (focus (first | exact .inl rfl | exact .inr rfl)); (focus (simp (maxSteps := 9999999) (disch := omega) only [go_sem, rD]; rfl)); (simp (maxSteps := 9999999) (disch := omega) only [go_sem, rD]; (try (repeat' (first | done | trivial | rfl | exact leAs_rfl _ | decide | (refine And.intro ?_ ?_) | (simp; done) | omega | (simp; decide))))))
end Go.Proofs.Ytgjimlgofakbpaa.Ue
