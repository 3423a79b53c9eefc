/- What journals' laws share: few rows; a journal grows. -/
import Derived.Test.YthbpdmlbfnjoiaaJb1
import Derived.Test.YthbpdmlbfnjoiaaJc1
namespace Go.Proofs.Ythbpdmlbfnjoiaa
set_option linter.unusedSimpArgs false
set_option linter.unusedVariables false
set_option maxHeartbeats 4000000
open Go Go.Am Go.RowKit Go.Crc
set_option linter.unusedSimpArgs false
set_option maxHeartbeats 4000000
set_option maxRecDepth 100000
def fewB (ls : List (List Int)) : Bool := ls.all (fun l => decide (l.length ≤ 600)) && decide (ls.length ≤ 20)
theorem fewB_yes {ls : List (List Int)} (h : fewB ls = true) : (∀ l ∈ ls, l.length ≤ 600) ∧ ls.length ≤ 20 := by
  unfold fewB at h
  simp only [Bool.and_eq_true, List.all_eq_true, decide_eq_true_eq] at h
  exact h
theorem few_any {P : List AV} {o : Nat} {ls : List (List Int)} (sg : SegR P o ls) :
    ACall Try.prog 31 [.sl 0 o ls.length 1 none] [.cells true P] (Det (Bo (fewB ls)) [.cells true P]) := by
  have hle := sg.le
  have hsm := sg.small
  refine ACall.startA c31_ok Try.func31 rfl Try.ntmps31 (by kernel_rfl) res31_ok rfl rfl rfl ?_; simp (maxSteps := 9999999) (disch := omega) only [go_sem]
  (have k9 := And.intro @sg.ren (k0); (repeat' (first | refine AWpA.seq ?_ | refine AWpA.block ?_ | (with_reducible refine CondP.tt ?_) | (with_reducible refine CondP.ff ?_) | refine AWpA.cg ?_ | ((first | refine AWpA.rg ?_ | refine AWpA.dg [] [] follows ?_ | refine TailK.tg ?_ | refine AWpA.skip ?_ | refine AWpA.exit ?_ | refine AWpA.ret ?_ | (with_reducible refine ARoundsA.succ ?_) | ((first | refine Runs.gkt (fun h9 => ?_) | refine Runs.gkf (fun h9 => ?_) | refine Runs.gnt (fun h9 => ?_) | refine Runs.gnf (fun h9 => ?_) | refine CondP.gt (fun h9 => ?_) | refine CondP.gf (fun h9 => ?_) | refine CondP.gnt (fun h9 => ?_) | refine CondP.gnf (fun h9 => ?_)); (try simp only [h9]); clear h9)); (try simp (maxSteps := 9999999) (disch := omega) only [go_sem, k9]); (try refine cnd ?_)) | ((first | refine CondP.split (fun hif => ?_) (fun hif => ?_) | refine Runs.part (fun hif => ?_) (fun hif => ?_)) <;> ((try simp only [hif]); (try simp only [BL] at hif); (try (have h9 : _ = true := hif; simp only [h9])); (try (have h9 : _ = false := hif; simp only [h9])); (try simp (maxSteps := 9999999) (disch := omega) only [go_sem, k9]); (try refine cnd ?_); (try (exfalso; omega; done)))))); (all_goals (try clear k9)))
  (apply AWpA.loopL (fun i : Nat => [(0, .sl 0 o ls.length 1 none), (5, .sl 0 o ls.length 1 none), (6, I ls.length), (7, I i)]) (fun i => [.cells true P]) (fun i => ls.length - i) (fun i => i ≤ ls.length ∧ ∀ l ∈ ls.take i, l.length ≤ 600) (0) [0]; rotate_left; (focus (simp (maxSteps := 9999999) (disch := omega) only [go_sem, sg.ren]; (try (repeat' (first | done | trivial | rfl | exact leAs_rfl _ | decide | (refine And.intro ?_ ?_) | (simp; done) | omega | (simp; decide)))))); rotate_right)
  · exact ⟨Nat.zero_le _, by simp⟩
  rintro i ⟨hi, hs⟩
  (try simp only at hi hs)
  by_cases hin : i < ls.length
  · have g1 : ((i : Int) < (ls.length : Int)) = True := eq_true (by omega)
    have g2 := sg.at i hin
    have g5 : ls[i].length ≤ 600 → ∀ l ∈ ls.take (i + 1), l.length ≤ 600 := by
      intro h l hl
      rw [List.take_add_one, List.getElem?_eq_getElem hin] at hl
      rcases List.mem_append.1 hl with hl | hl
      · exact hs l hl
      · simp at hl; subst hl; exact h
    have g6 : ¬ ls[i].length ≤ 600 → fewB ls = false := fun h => by
      unfold fewB
      rw [Bool.and_eq_false_iff]
      left
      cases hb : ls.all (fun l => decide (l.length ≤ 600)) with
      | false => rfl
      | true => exact absurd (by simpa using List.all_eq_true.1 hb _ (List.getElem_mem hin)) h
    generalize ls[i] = c at g2 g5 g6
    by_cases hc : c.length ≤ 600
    · have g7 : ((600 : Int) < (c.length : Int)) = False := eq_false (by omega)
      (try simp (maxSteps := 9999999) (disch := omega) only [go_sem])
      (have k9 := And.intro @g1 (And.intro @g7 (And.intro @sg.ren (And.intro @g2 (k0)))); (repeat' (first | refine AWpA.seq ?_ | refine AWpA.block ?_ | (with_reducible refine CondP.tt ?_) | (with_reducible refine CondP.ff ?_) | refine AWpA.cg ?_ | ((first | refine AWpA.rg ?_ | refine AWpA.dg [] [] follows ?_ | refine TailK.tg ?_ | refine AWpA.skip ?_ | refine AWpA.exit ?_ | refine AWpA.ret ?_ | (with_reducible refine ARoundsA.succ ?_) | ((first | refine Runs.gkt (fun h9 => ?_) | refine Runs.gkf (fun h9 => ?_) | refine Runs.gnt (fun h9 => ?_) | refine Runs.gnf (fun h9 => ?_) | refine CondP.gt (fun h9 => ?_) | refine CondP.gf (fun h9 => ?_) | refine CondP.gnt (fun h9 => ?_) | refine CondP.gnf (fun h9 => ?_)); (try simp only [h9]); clear h9)); (try simp (maxSteps := 9999999) (disch := omega) only [go_sem, k9]); (try refine cnd ?_)) | ((first | refine CondP.split (fun hif => ?_) (fun hif => ?_) | refine Runs.part (fun hif => ?_) (fun hif => ?_)) <;> ((try simp only [hif]); (try simp only [BL] at hif); (try (have h9 : _ = true := hif; simp only [h9])); (try (have h9 : _ = false := hif; simp only [h9])); (try simp (maxSteps := 9999999) (disch := omega) only [go_sem, k9]); (try refine cnd ?_); (try (exfalso; omega; done)))))); (all_goals (try clear k9)))
      (apply Back.to (i + 1) [0]; (focus ((try simp (maxSteps := 9999999) (disch := omega) only [go_sem, sg.ren]); first | done | omega)); rotate_left; (focus (simp (maxSteps := 9999999) (disch := omega) only [go_sem, sg.ren]; (try (repeat' (first | done | trivial | rfl | exact leAs_rfl _ | decide | (refine And.intro ?_ ?_) | (simp; done) | omega | (simp; decide)))))))
      exact ⟨by omega, g5 hc⟩
    · have g7 : ((600 : Int) < (c.length : Int)) = True := eq_true (by omega)
      rw [g6 hc]
      (try simp (maxSteps := 9999999) (disch := omega) only [go_sem])
      (have k9 := And.intro @g1 (And.intro @g7 (And.intro @sg.ren (And.intro @g2 (k0)))); (repeat' (first | refine AWpA.seq ?_ | refine AWpA.block ?_ | (with_reducible refine CondP.tt ?_) | (with_reducible refine CondP.ff ?_) | refine AWpA.cg ?_ | ((first | refine AWpA.rg ?_ | refine AWpA.dg [] [] follows ?_ | refine TailK.tg ?_ | refine AWpA.skip ?_ | refine AWpA.exit ?_ | refine AWpA.ret ?_ | (with_reducible refine ARoundsA.succ ?_) | ((first | refine Runs.gkt (fun h9 => ?_) | refine Runs.gkf (fun h9 => ?_) | refine Runs.gnt (fun h9 => ?_) | refine Runs.gnf (fun h9 => ?_) | refine CondP.gt (fun h9 => ?_) | refine CondP.gf (fun h9 => ?_) | refine CondP.gnt (fun h9 => ?_) | refine CondP.gnf (fun h9 => ?_)); (try simp only [h9]); clear h9)); (try simp (maxSteps := 9999999) (disch := omega) only [go_sem, k9]); (try refine cnd ?_)) | ((first | refine CondP.split (fun hif => ?_) (fun hif => ?_) | refine Runs.part (fun hif => ?_) (fun hif => ?_)) <;> ((try simp only [hif]); (try simp only [BL] at hif); (try (have h9 : _ = true := hif; simp only [h9])); (try (have h9 : _ = false := hif; simp only [h9])); (try simp (maxSteps := 9999999) (disch := omega) only [go_sem, k9]); (try refine cnd ?_); (try (exfalso; omega; done)))))); (all_goals (try clear k9)))
      (apply Ret.det [0]; (focus (first | exact .inl rfl | exact .inr rfl)); (focus (simp (maxSteps := 9999999) (disch := omega) only [go_sem, sg.ren]; rfl)); (simp (maxSteps := 9999999) (disch := omega) only [go_sem, sg.ren]; (try (repeat' (first | done | trivial | rfl | exact leAs_rfl _ | decide | (refine And.intro ?_ ?_) | (simp; done) | omega | (simp; decide))))))
  · obtain rfl : i = ls.length := by omega
    rw [List.take_length] at hs
    have e : ls.all (fun l => decide (l.length ≤ 600)) = true := List.all_eq_true.2 fun l hl => by simpa using hs l hl
    have e2 : fewB ls = decide (ls.length ≤ 20) := by unfold fewB; rw [e, Bool.true_and]
    rw [e2]
    have e3 : decide ((ls.length : Int) ≤ 20) = decide (ls.length ≤ 20) := by simp; omega
    (try simp (maxSteps := 9999999) (disch := omega) only [go_sem])
    (have k9 := And.intro @e3 (k0); (repeat' (first | refine AWpA.seq ?_ | refine AWpA.block ?_ | (with_reducible refine CondP.tt ?_) | (with_reducible refine CondP.ff ?_) | refine AWpA.cg ?_ | ((first | refine AWpA.rg ?_ | refine AWpA.dg [] [] follows ?_ | refine TailK.tg ?_ | refine AWpA.skip ?_ | refine AWpA.exit ?_ | refine AWpA.ret ?_ | (with_reducible refine ARoundsA.succ ?_) | ((first | refine Runs.gkt (fun h9 => ?_) | refine Runs.gkf (fun h9 => ?_) | refine Runs.gnt (fun h9 => ?_) | refine Runs.gnf (fun h9 => ?_) | refine CondP.gt (fun h9 => ?_) | refine CondP.gf (fun h9 => ?_) | refine CondP.gnt (fun h9 => ?_) | refine CondP.gnf (fun h9 => ?_)); (try simp only [h9]); clear h9)); (try simp (maxSteps := 9999999) (disch := omega) only [go_sem, k9]); (try refine cnd ?_)) | ((first | refine CondP.split (fun hif => ?_) (fun hif => ?_) | refine Runs.part (fun hif => ?_) (fun hif => ?_)) <;> ((try simp only [hif]); (try simp only [BL] at hif); (try (have h9 : _ = true := hif; simp only [h9])); (try (have h9 : _ = false := hif; simp only [h9])); (try simp (maxSteps := 9999999) (disch := omega) only [go_sem, k9]); (try refine cnd ?_); (try (exfalso; omega; done)))))); (all_goals (try clear k9)))
    (apply Ret.det [0]; (focus (first | exact .inl rfl | exact .inr rfl)); (focus (simp (maxSteps := 9999999) (disch := omega) only [go_sem, sg.ren]; rfl)); (simp (maxSteps := 9999999) (disch := omega) only [go_sem, sg.ren]; (try (repeat' (first | done | trivial | rfl | exact leAs_rfl _ | decide | (refine And.intro ?_ ?_) | (simp; done) | omega | (simp; decide))))))
/-- The disk of a journal of these, all of them safe. -/
abbrev DG (g : List (List Int)) : Dk := ⟨catR g, (catR g).length, false, -1⟩
theorem DG_ok {g : List (List Int)} (h : (catR g).length ≤ 1048576) : (DG g).ok := ⟨Nat.le_refl _, h, show (-1 : Int) ≤ -1 by decide, show (-1 : Int) ≤ 9223372036854775807 by decide⟩
theorem add_good {g : List (List Int)} {b : List Int} (h : (catR g).length + b.length + 10 ≤ 1048576) : adE (DG g) b = recE b ∧ adD (DG g) b = DG (if recE b = 0 then g ++ [b] else g) := by
  by_cases hr : recE b = 0
  · have hw : appW (DG g) (b.length + 10) = 0 := by unfold appW; rw [if_pos (by simp only; omega)]
    have e1 : adE1 (DG g) b = 0 := by unfold adE1; rw [hw]; rfl
    have e2 : adD1 (DG g) b = ⟨catR g ++ recB b, (catR g).length, false, -1⟩ := by unfold adD1; rw [hw]; rfl
    have e3 : catR g ++ recB b = catR (g ++ [b]) := by rw [catR_app, catR_one]
    unfold adE adD
    rw [if_neg (by simpa using hr), if_neg (by simpa using e1), if_neg (by simpa using hr), if_neg (by simpa using e1), e2, hr, if_pos rfl, e3]
    exact ⟨rfl, rfl⟩
  · unfold adE adD
    rw [if_pos hr, if_pos hr, if_neg hr]
    exact ⟨rfl, rfl⟩
theorem open_good {g : List (List Int)} (h : ∀ l ∈ g, recE l = 0) : opE (DG g) = 0 ∧ opD (DG g) = DG g ∧ (jread (DG g).l).1 = g := by
  have e := jread_all h
  unfold opE opD
  simp only
  rw [e]
  simp
/-- The good ones of so many. -/
def gd (ls : List (List Int)) : List (List Int) := ls.filter fun l => decide (recE l = 0)
theorem gd_nil : gd [] = [] := rfl
theorem gd_snoc (ls : List (List Int)) (b : List Int) : gd (ls ++ [b]) = if recE b = 0 then gd ls ++ [b] else gd ls := by
  unfold gd
  rw [List.filter_append]
  by_cases h : recE b = 0
  · rw [if_pos h]; simp [h]
  · rw [if_neg h]; simp [h]
theorem gd_len (ls : List (List Int)) : (gd ls).length ≤ ls.length := List.length_filter_le _ _
theorem gd_good {ls : List (List Int)} (h : ∀ l ∈ ls, ∀ x ∈ l, 0 ≤ x ∧ x ≤ 255) : ∀ l ∈ gd ls, goodR l := fun l hl => by
  have := List.mem_filter.1 hl
  exact ⟨by simpa using this.2, h l this.1⟩
theorem gd_take {ls : List (List Int)} {i : Nat} (h : i < ls.length) : gd (ls.take (i + 1)) = if recE ls[i] = 0 then gd (ls.take i) ++ [ls[i]] else gd (ls.take i) := by
  rw [List.take_add_one, List.getElem?_eq_getElem h]
  exact gd_snoc _ _
theorem low20 (a : Int) : ∃ f : Nat, bits .and .i64 a 1048575 = (f : Int) ∧ f < 1048576 := by
  refine ⟨(BitVec.ofInt 64 a).toNat &&& 1048575, ?_, ?_⟩
  · have h1 : (BitVec.ofInt 64 a).toNat &&& 1048575 < 1048576 := by
      rw [show 1048575 = 2 ^ 20 - 1 from rfl, Nat.and_two_pow_sub_one_eq_mod]; omega
    show IntKind.i64.wrap ((BitVec.ofInt 64 a &&& BitVec.ofInt 64 1048575).toNat : Int) = _
    rw [BitVec.toNat_and, show (BitVec.ofInt 64 1048575).toNat = 1048575 from rfl]
    generalize (BitVec.ofInt 64 a).toNat &&& 1048575 = q at *
    simp [IntKind.wrap, IntKind.bits, IntKind.signed]
    omega
  · rw [show 1048575 = 2 ^ 20 - 1 from rfl, Nat.and_two_pow_sub_one_eq_mod]; omega
end Go.Proofs.Ythbpdmlbfnjoiaa
