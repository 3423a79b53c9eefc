/- JournalKeeps holds: wherever the power goes, the records that were added are there again, in order, and at most the one under way. No condition. -/
import Derived.Test.YthbpdmlbfnjoiaaJe2
namespace Go.Proofs.Ythbpdmlbfnjoiaa
set_option linter.unusedSimpArgs false
set_option linter.unusedVariables false
set_option maxHeartbeats 4000000
open Go Go.Am Go.RowKit Go.ChangeShapes Go.WideShapes Go.ChangeAt
set_option maxRecDepth 100000 in
theorem lifted_journalKeeps (os : Os) (started : os.Started) (H : Type) (enc : TypeId × Value → H) :
    ReturnsInHanded {} Try.checked os 12 .any (Rows.journalKeepsSpec.pre6 enc Try.prog Try.f12 Rows.journalKeepsRow.domain false) (Rows.journalKeepsSpec.post enc Try.prog Try.f12 false true false false) := by
  refine returnsInHanded_of_change (C := Try.checked) (by kernel_rfl) started (by kernel_rfl) Try.func12
    (ChangeSpec.witness6 (enc := enc) (C := Try.checked) false ⟨#[], #[.slice none 0 0, .int .i64 0, .int .i64 0, .slice none 0 0], []⟩ 8 (by kernel_rfl) (by kernel_rfl) (by kernel_rfl) (by kernel_rfl)) ?_
  intro W base args ds gs before hval0 hW hcnd _
  have hval : ∀ (j : Nat) t v, Try.f12.params[j]? = some t → args[j]? = some v → Value.okWide Try.prog W .any base t v := hval0
  have hW' := hW
  obtain ⟨p, q, hA0, hV, rfl, hfz, hnd⟩ := hW
  have hA : DataW.TrodAll enc Try.prog W 0 (fun _ => true) true Try.f12.params.toList args.toList ds p := hA0
  rw [Try.params12] at hA hval
  obtain ⟨v0, vs0, d0, ds0, p0, q0, hargs, rfl, rfl, h0, r0⟩ := trodAll_cons hA
  obtain ⟨v1, vs1, d1, ds1, p1, q1, rfl, rfl, rfl, h1, r1⟩ := trodAll_cons r0
  obtain ⟨v2, vs2, d2, ds2, p2, q2, rfl, rfl, rfl, h2, r2⟩ := trodAll_cons r1
  obtain ⟨v3, vs3, d3, ds3, p3, q3, rfl, rfl, rfl, h3, r3⟩ := trodAll_cons r2
  obtain ⟨rfl, rfl, rfl⟩ := trodAll_nil r3
  obtain rfl : args = #[v0, v1, v2, v3] := by cases args; simp_all
  obtain ⟨rfl, rfl⟩ := trodVars_none hV
  have lt0 : ∀ x ∈ p0, x.block < W.heap.size := by obtain ⟨m, hm⟩ := h0; exact DataW.trod_lt m _ _ _ hm
  have k0 := h0
  obtain ⟨a0, e0, w0, z0⟩ := rd_open (rd_slice Try.underlying63 (show Try.prog.cellsOf 22 = 1 by kernel_rfl) (by decide) (rd_slice Try.underlying22 (show Try.prog.cellsOf 5 = 1 by kernel_rfl) (by decide) (rd_int Try.underlying5))) h0
  obtain ⟨n0a, n0b, n0c, rfl⟩ := okWide_slice Try.underlying63 (hval 0 63 v0 rfl rfl)
  obtain ⟨rfl, rfl, rfl⟩ : n0a = a0.ad ∧ n0b = a0.l.length ∧ n0c = a0.cap := by simpa [Value.cells, Sl.rep] using e0
  clear e0
  have lt1 : ∀ x ∈ p1, x.block < W.heap.size := by obtain ⟨m, hm⟩ := h1; exact DataW.trod_lt m _ _ _ hm
  have k1 := h1
  obtain ⟨a1, e1, w1, z1⟩ := rd_open (rd_int Try.underlying3) h1
  obtain ⟨n1, rfl⟩ := okWide_int Try.underlying3 (hval 1 3 v1 rfl rfl)
  obtain rfl : a1 = n1 := by simp [Value.cells] at e1; exact e1.symm
  clear e1
  have lt2 : ∀ x ∈ p2, x.block < W.heap.size := by obtain ⟨m, hm⟩ := h2; exact DataW.trod_lt m _ _ _ hm
  have k2 := h2
  obtain ⟨a2, e2, w2, z2⟩ := rd_open (rd_int Try.underlying3) h2
  obtain ⟨n2, rfl⟩ := okWide_int Try.underlying3 (hval 2 3 v2 rfl rfl)
  obtain rfl : a2 = n2 := by simp [Value.cells] at e2; exact e2.symm
  clear e2
  have lt3 : ∀ x ∈ p3, x.block < W.heap.size := by obtain ⟨m, hm⟩ := h3; exact DataW.trod_lt m _ _ _ hm
  have k3 := h3
  obtain ⟨a3, e3, w3, z3⟩ := rd_open (rd_slice Try.underlying22 (show Try.prog.cellsOf 5 = 1 by kernel_rfl) (by decide) (rd_int Try.underlying5)) h3
  obtain ⟨n3a, n3b, n3c, rfl⟩ := okWide_slice Try.underlying22 (hval 3 22 v3 rfl rfl)
  obtain ⟨rfl, rfl, rfl⟩ : n3a = a3.ad ∧ n3b = a3.l.length ∧ n3c = a3.cap := by simpa [Value.cells, Sl.rep] using e3
  clear e3
  clear hA0 hval0
  refine (jkeeps_walk W a0 a1 a2 a3 w1 w0 w3).mono fun r W' ⟨he, bel⟩ => ?_
  subst he
  exact ⟨_, rfl, _, _, _, [], _, [], hW', trodAll_mk1 (shut_bool Try.underlying4 _), (trodAll_cons_mk (Below.trod (show laidOutB Try.prog = true by kernel_rfl) (by kernel_rfl) (of_decide_eq_true (by kernel_rfl)) k0 bel lt0) (trodAll_cons_mk (Below.trod (show laidOutB Try.prog = true by kernel_rfl) (by kernel_rfl) (of_decide_eq_true (by kernel_rfl)) k1 bel lt1) (trodAll_cons_mk (Below.trod (show laidOutB Try.prog = true by kernel_rfl) (by kernel_rfl) (of_decide_eq_true (by kernel_rfl)) k2 bel lt2) (trodAll_cons_mk (Below.trod (show laidOutB Try.prog = true by kernel_rfl) (by kernel_rfl) (of_decide_eq_true (by kernel_rfl)) k3 bel lt3) trodAll_mk0)))), rfl, bel.frame _, fun h => by cases h⟩

theorem journalKeeps_holds : Rows.JournalKeepsSaid :=
  OpenClaim.holds_of_wide 12 Try.f12 rfl rfl rfl rfl rfl rfl rfl ⟨rfl, rfl, rfl, rfl, rfl⟩ rfl rfl rfl rfl rfl (by kernel_rfl) Try.func12 (by kernel_rfl)
    (of_decide_eq_true (by kernel_rfl)) (by unfold Func.isWrapper; first | (rw [if_pos (by decide +kernel)]; kernel_rfl) | (rw [if_neg (by decide +kernel)]; exact ⟨rfl, rfl⟩))
    (fun os started H enc _ => lifted_journalKeeps os started H enc)
#print axioms journalKeeps_holds
end Go.Proofs.Ythbpdmlbfnjoiaa
