/- Contracts: slices of keys: cut. -/
import Derived.Test.YtodnlihbmgigjaaBt2
namespace Go.Proofs.Ytodnlihbmgigjaa
set_option linter.unusedSimpArgs false
set_option linter.unusedVariables false
set_option maxHeartbeats 4000000
open Go Go.Am Go.RowKit
set_option maxRecDepth 100000
theorem delete_any (l : List Pi) (i : Nat) (hi : i < l.length) (hl : l.length ≤ 1099511627776) : ACall Try.prog 36 [.sl 0 0 l.length 2 none, I i, I (i + 1)] [.cells false (Rp 0 l)] (Det (.sl 1 0 (l.length - 1) 2 none) [.gone, .cells false (Rp 0 (l.take i ++ l.drop (i + 1)))]) := by
  have hr := rp_ren 0
  have hlen := rp_len 0
  obtain ⟨m, hm⟩ : ∃ m, l.length = i + m + 1 := ⟨l.length - i - 1, by omega⟩
  rw [rp_app]
  have e0 : Rp 0 l = Rp 0 (l.take i) ++ PiL l[i] ++ Rp 0 (l.drop (i + 1)) := by
    rw [← rp_one, ← rp_app, ← rp_app]
    congr 1
    rw [List.append_assoc, List.singleton_append, List.getElem_cons_drop, List.take_append_drop]
  have hX := hlen (l.take i)
  have hY := hlen (l.drop (i + 1))
  rw [List.length_take, Nat.min_eq_left (by omega)] at hX
  rw [List.length_drop, show l.length - (i + 1) = m by omega] at hY
  have rX := hr (l.take i)
  have rY := hr (l.drop (i + 1))
  have rL := hr l
  have hL := hlen l
  generalize l[i] = p at *
  generalize Rp 0 (l.take i) = X at *
  generalize Rp 0 (l.drop (i + 1)) = Y at *
  simp only [Nat.zero_add] at hX hY hL
  have t1 : ((i : Int) + 1).toNat = i + 1 := by omega
  have t2 : ((i : Int) = (i : Int) + 1) = False := eq_false (by omega)
  have t3 : l.length - (i + 1) = m := by omega
  have t4 : l.length - (i + m) = 1 := by omega
  have t6 : ((i : Int) + (m : Int)).toNat = i + m := by omega
  have t5 : i + m + 1 - (i + m) = 1 := by omega
  have q1 : List.take (m * 2) (List.drop ((i + 1) * 2) (Rp 0 l)) = Y := by
    rw [e0, show (i + 1) * 2 = (X ++ PiL p).length by simp; omega, List.drop_left]
    exact List.take_of_length_le (by omega)
  have q2 : List.take (i * 2) (Rp 0 l) = X := by rw [e0, List.append_assoc, ← hX, List.take_left]
  obtain ⟨Z, hZ⟩ : ∃ Z, Z = List.drop ((i + m) * 2) (Rp 0 l) := ⟨_, rfl⟩
  have hZl : Z.length = 2 := by rw [hZ]; simp; omega
  have q4 : List.take ((i + m) * 2) (X ++ Y ++ Z) = X ++ Y := by
    rw [show (i + m) * 2 = (X ++ Y).length by simp; omega, List.take_left]
  have hcp0 : ∀ cp, l.length ≤ cp → i + m ≤ cp := fun cp h => by omega
  obtain ⟨D, hD⟩ : ∃ D, D = X ++ Y ++ [.val (.string ⟨#[]⟩), I 0] := ⟨_, rfl⟩
  have hDt : X ++ Y = D.take ((i + m) * 2) := by rw [hD, show (i + m) * 2 = (X ++ Y).length by simp; omega, List.take_left]
  have rD : ∀ ρ, renL ρ D = D := fun ρ => by rw [hD, renL_append, renL_append, rX, rY]; simp [renL, ren]
  have q5 : List.drop ((i + m) * 2 + 2) (X ++ Y ++ Z) = [] := List.drop_of_length_le (by simp; omega)
  have t7 : l.length - 1 = i + m := by omega
  rw [hDt, t7]
  refine ACall.cutR (A := [.gone]) _ ?_
  simp only [List.singleton_append]
  refine ACall.startA c36_ok Try.func36 rfl Try.ntmps36 (by kernel_rfl) res36_ok rfl rfl rfl ?_; simp (maxSteps := 9999999) (disch := omega) only [go_sem]
  refine AWpA.capcase 0 rfl (by omega) (fun cp hcp => ?_)
  have hcp := hcp0 cp hcp
  (have k9 := And.intro @rX (And.intro @rY (And.intro @rL (And.intro @hX (And.intro @hY (And.intro @hL (And.intro @hcp (And.intro @t1 (And.intro @t2 (And.intro @t3 (And.intro @t4 (And.intro @t5 (And.intro @t6 (And.intro @q1 (And.intro @q2 (And.intro (Eq.symm hZ) (And.intro @q4 (And.intro @renL_append (k0)))))))))))))))))); (repeat' (first | refine AWpA.seq ?_ | refine AWpA.block ?_ | (with_reducible refine CondP.tt ?_) | (with_reducible refine CondP.ff ?_) | refine AWpA.cg ?_ | ((first | refine AWpA.rg ?_ | refine AWpA.dg [] [] follows ?_ | refine TailK.tg ?_ | refine AWpA.skip ?_ | refine AWpA.exit ?_ | refine AWpA.ret ?_ | (with_reducible refine ARoundsA.succ ?_) | ((first | refine Runs.gkt (fun h9 => ?_) | refine Runs.gkf (fun h9 => ?_) | refine Runs.gnt (fun h9 => ?_) | refine Runs.gnf (fun h9 => ?_) | refine CondP.gt (fun h9 => ?_) | refine CondP.gf (fun h9 => ?_) | refine CondP.gnt (fun h9 => ?_) | refine CondP.gnf (fun h9 => ?_)); (try simp only [h9]); clear h9)); (try simp (maxSteps := 9999999) (disch := omega) only [go_sem, k9]); (try refine cnd ?_)) | ((first | refine CondP.split (fun hif => ?_) (fun hif => ?_) | refine Runs.part (fun hif => ?_) (fun hif => ?_)) <;> ((try simp only [hif]); (try simp only [BL] at hif); (try (have h9 : _ = true := hif; simp only [h9])); (try (have h9 : _ = false := hif; simp only [h9])); (try simp (maxSteps := 9999999) (disch := omega) only [go_sem, k9]); (try refine cnd ?_); (try (exfalso; omega; done)))))); (all_goals (try clear k9)))
  rw [q5, List.append_nil, ← hD]
  (apply Ret.det [0, 0]; (focus (first | exact .inl rfl | exact .inr rfl)); (focus (simp (maxSteps := 9999999) (disch := omega) only [go_sem, rD]; rfl)); (simp (maxSteps := 9999999) (disch := omega) only [go_sem, rD]; (try (repeat' (first | done | trivial | rfl | exact leAs_rfl _ | decide | (refine And.intro ?_ ?_) | (simp; done) | omega | (simp; decide))))))
end Go.Proofs.Ytodnlihbmgigjaa
