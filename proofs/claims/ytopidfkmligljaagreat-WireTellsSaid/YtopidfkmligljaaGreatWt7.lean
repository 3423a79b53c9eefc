/- Contract: a message's bytes, as the document says: a law of the rest for each field. -/
import Derived.Test.YtopidfkmligljaaGreatEg5
import Derived.Test.YtopidfkmligljaaGreatWt6
import Derived.Test.YtopidfkmligljaaGreatWp4
import Derived.Test.YtopidfkmligljaaGreatWq2
namespace Go.Proofs.YtopidfkmligljaaGreat
set_option linter.unusedSimpArgs false
set_option linter.unusedVariables false
set_option maxHeartbeats 4000000
open Go Go.Am Go.RowKit
set_option maxRecDepth 100000
set_option maxHeartbeats 8000000
theorem fits_lt {v : Int} {n : Nat} (h : fitsI v n = true) (h0 : 0 ≤ v) : v < 256 ^ n := by
  rw [fitsI_eq] at h
  simp only [beq_iff_eq] at h
  have h1 := Int.emod_lt_of_pos v (show (0 : Int) < 256 ^ n from Int.pow_pos (by decide))
  have h2 := Int.mul_ediv_add_emod v (256 ^ n)
  rw [h, Int.mul_zero, Int.zero_add] at h2
  omega
/-- The bytes ahead, a list's length, and its first parts. -/
def preC {α : Type} (B : List Int) (enc : α → List Int) (l : List α) (i : Nat) : List Int := B ++ ((l.length : Int) :: (l.take i).flatMap enc)
theorem preC_0 {α : Type} (B : List Int) (enc : α → List Int) (l : List α) : preC B enc l 0 = B ++ [(l.length : Int)] := by simp [preC]
theorem preC_s {α : Type} (B : List Int) (enc : α → List Int) (l : List α) {i : Nat} (h : i < l.length) : preC B enc l (i + 1) = preC B enc l i ++ enc l[i] := by
  unfold preC
  rw [take_snoc l h, List.flatMap_append, List.flatMap_singleton, List.append_assoc, List.cons_append]
theorem preC_all {α : Type} (B : List Int) (enc : α → List Int) (l : List α) (h : l.length ≤ 255) : B ++ lsB enc l = preC B enc l l.length := by
  unfold lsB preC
  rw [leI_1 ⟨by omega, by omega⟩, List.take_length]
  rfl
theorem preC_len {α : Type} (B : List Int) {enc : α → List Int} {l : List α} {n : Nat} (h : ∀ x ∈ l, (enc x).length ≤ n) (i : Nat) : (preC B enc l i).length ≤ B.length + 1 + l.length * n := by
  have h1 := flat_len (l := l.take i) (fun x hx => h x (List.mem_of_mem_take hx))
  have h2 := Nat.mul_le_mul_right n (List.length_take_le' i l)
  unfold preC
  rw [List.length_append, List.length_cons]
  omega
/-- The bytes of the last fields. -/
def wT (m : Wm) : Nat → List Int
  | 0 => []
  | j + 1 => (if hasF m.kind (8 - j) = true then fB (8 - j) m else []) ++ wT m j
theorem wT_all (m : Wm) : wT m 9 = wB m := by
  simp [wT, wB, wBn]
theorem wT_yes {m : Wm} {i j : Nat} (h : hasF m.kind i = true) (hj : 8 - j = i) (B : List Int) : B ++ wT m (j + 1) = (B ++ fB i m) ++ wT m j := by
  rw [wT, hj, if_pos h, List.append_assoc]
theorem wT_no {m : Wm} {i j : Nat} (h : hasF m.kind i = false) (hj : 8 - j = i) (B : List Int) : B ++ wT m (j + 1) = B ++ wT m j := by
  rw [wT, hj, if_neg (by rw [h]; decide), List.nil_append]
theorem rb8 (m : Wm) (a b c : Nat) (ho : ∀ i, i < 9 → hasF m.kind i = true → fOk i m) (B L : List Int) (hB : B.length ≤ 1000) (hL : B ++ wT m 1 = L) : AWpA Tryz.prog 138 (NN.plain 3) c20_69 (RetPost (NN.plain 3) [(2, none)] [.cells true (Ri a m.peers), .cells true (Rm b m.marks), .cells true (Re c m.ents)] (Det (.sl 3 0 L.length 1 none) [.cells true (Ri a m.peers), .cells true (Rm b m.marks), .cells true (Re c m.ents), .cells false (bA L)])) (Am.mk [(1, .ptr 3 0), (3, .sl 4 0 B.length 1 none)] none0 (zipI 0 [.cells true (Ri a m.peers), .cells true (Rm b m.marks), .cells true (Re c m.ents), .cells false (WmL m 0 a 1 b 2 c), .cells false (bA B)]) gone0 5) := by
  have hi := ri_ren
  have hm := rm_ren
  have he := re_ren
  have c0 := has8_any m.kind
  cases hh : hasF m.kind 8 with
  | false =>
    rw [hh] at c0
    have hL2 : B ++ wT m 0 = L := by rw [← hL, wT_no (i := 8) (j := 0) hh rfl]
    rw [show wT m 0 = [] from rfl, List.append_nil] at hL2
    subst hL2
    clear hL
    (try simp (maxSteps := 9999999) (disch := omega) only [go_sem])
    (have k9 := And.intro @hi (And.intro @hm (And.intro @he (And.intro @bA_ren (And.intro @hi (And.intro @hm (And.intro @he (And.intro @bA_ren (k0)))))))); have a1 := Arm.mk [] c0; have e9 := Ends.mk [0, 1, 2, 4]; exact goE)
  | true =>
    rw [hh] at c0
    have hf := ho 8 (by decide) hh
    have hn : m.ents.length ≤ 8 := hf.1
    have hall := hf.2
    have hL2 : preC B enB m.ents m.ents.length ++ wT m 0 = L := by rw [← hL, wT_yes (i := 8) (j := 0) hh rfl, show fB 8 m = lsB enB m.ents from rfl, preC_all B _ _ (by omega)]
    have hx8 : ∀ x ∈ m.ents, (enB x).length ≤ 67 := fun x hx => by
      obtain ⟨-, k2, k3, -⟩ := check_ok (hall x hx)
      rw [enB_len]; omega
    have hpl := preC_len B (enc := enB) hx8
    have hp0 := preC_0 B enB m.ents
    have hps := fun q (h : q < m.ents.length) => preC_s B enB m.ents h
    generalize preC B enB m.ents = p at *
    have w0 : IntKind.u8.wrap (m.ents.length : Int) = (m.ents.length : Int) := wrap_u8 (by omega) (by omega)
    have hL0 := re_len c m.ents
    have hpl0 := hpl 0
    rw [hp0] at hpl0
    (try simp (maxSteps := 9999999) (disch := omega) only [go_sem])
    (have k9 := And.intro @hi (And.intro @hm (And.intro @he (And.intro @bA_ren (And.intro @bA_app (And.intro @bA_cons (And.intro @bA_nil (And.intro @w0 (k0)))))))); have a1 := Arm.mk [] c0; (repeat' (first | refine goM ?_ | ((first | refine CondP.split (fun hif => ?_) (fun hif => ?_) | refine Runs.part (fun hif => ?_) (fun hif => ?_)) <;> ((try simp only [BL] at hif); first | (exfalso; omega; done) | refine goI ?_)))); (all_goals (try clear k9)); (all_goals (try clear a1)))
    clear c0 hf
    (apply AWpA.loopL (fun i : Nat => [(1, .ptr 3 0), (3, .sl 4 0 (p i).length 1 none), (6, I i)]) (fun i => [.cells true (Ri a m.peers), .cells true (Rm b m.marks), .cells true (Re c m.ents), .cells false (WmL m 0 a 1 b 2 c), .cells false (bA (p i))]) (fun i => m.ents.length - i) (fun i => i ≤ m.ents.length) (0) [0, 1, 2, 3, 149]; rotate_left; (focus (simp (maxSteps := 9999999) (disch := omega) only [go_sem, hi, hm, he, bA_ren, bA_app, bA_cons, bA_nil, hp0]; (try (repeat' (first | done | trivial | rfl | exact leAs_rfl _ | decide | (refine And.intro ?_ ?_) | (simp; done) | omega | (simp; decide)))))); rotate_right)
    · exact Nat.zero_le _
    intro i hil
    (try simp only at hil)
    have hpi := hpl i
    by_cases hin : i < m.ents.length
    · have g1 : ((i : Int) < (m.ents.length : Int)) = True := eq_true (by omega)
      have hat := re_at c m.ents i hin
      have hst := hps i hin
      have hpi1 := hpl (i + 1)
      have c1 := rbytes_any _ (hall _ (List.getElem_mem hin))
      have hxl := hx8 _ (List.getElem_mem hin)
      clear hall hx8 hpl hps
      generalize m.ents[i] = x at *
      rw [hst] at hpi1
      generalize enB x = C at *
      (try simp (maxSteps := 9999999) (disch := omega) only [go_sem])
      (have k9 := And.intro @hi (And.intro @hm (And.intro @he (And.intro @bA_ren (And.intro @bA_app (And.intro @bA_cons (And.intro @bA_nil (And.intro @g1 (And.intro @hat (And.intro @hL0 (k0)))))))))); have a1 := Arm.mk [] c1; refine goK ?_; (try clear k9); (try clear a1))
      (have k9 := And.intro @hi (And.intro @hm (And.intro @he (And.intro @bA_ren (And.intro @bA_app (And.intro @bA_cons (And.intro @bA_nil (And.intro @hst (k0)))))))); refine Back.tk (i + 1) [0, 1, 2, 3, 197] ?_)
      omega
    obtain rfl : i = m.ents.length := by omega
    have g1 : ((m.ents.length : Int) < (m.ents.length : Int)) = False := eq_false (by omega)
    generalize p m.ents.length = D at *
    clear hall hx8 hpl hps hp0
    (try simp (maxSteps := 9999999) (disch := omega) only [go_sem])
    rw [show wT m 0 = [] from rfl, List.append_nil] at hL2
    subst hL2
    (have k9 := And.intro @hi (And.intro @hm (And.intro @he (And.intro @bA_ren (And.intro @bA_app (And.intro @bA_cons (And.intro @bA_nil (And.intro @g1 (And.intro @hi (And.intro @hm (And.intro @he (And.intro @bA_ren (And.intro @bA_app (And.intro @bA_cons (And.intro @bA_nil (k0))))))))))))))); have e9 := Ends.mk [0, 1, 2, 4]; exact goE)
theorem rb7 (m : Wm) (a b c : Nat) (ho : ∀ i, i < 9 → hasF m.kind i = true → fOk i m) (B L : List Int) (hB : B.length ≤ 200) (hL : B ++ wT m 2 = L) : AWpA Tryz.prog 138 (NN.plain 3) c20_51 (RetPost (NN.plain 3) [(2, none)] [.cells true (Ri a m.peers), .cells true (Rm b m.marks), .cells true (Re c m.ents)] (Det (.sl 3 0 L.length 1 none) [.cells true (Ri a m.peers), .cells true (Rm b m.marks), .cells true (Re c m.ents), .cells false (bA L)])) (Am.mk [(1, .ptr 3 0), (3, .sl 4 0 B.length 1 none)] none0 (zipI 0 [.cells true (Ri a m.peers), .cells true (Rm b m.marks), .cells true (Re c m.ents), .cells false (WmL m 0 a 1 b 2 c), .cells false (bA B)]) gone0 5) := by
  have hi := ri_ren
  have hm := rm_ren
  have he := re_ren
  have c0 := has7_any m.kind
  cases hh : hasF m.kind 7 with
  | false =>
    rw [hh] at c0
    have hL2 : B ++ wT m 1 = L := by rw [← hL, wT_no (i := 7) (j := 1) hh rfl]
    (try simp (maxSteps := 9999999) (disch := omega) only [go_sem])
    (have k9 := And.intro @hi (And.intro @hm (And.intro @he (And.intro @bA_ren (k0)))); have a1 := Arm.mk [] c0; (repeat' (first | (with_reducible refine AWpA.to [0, 1, 2, 3, 4] (rb8 m a b c ho (B) L (by omega) hL2) ?_; (focus (simp (maxSteps := 9999999) (disch := omega) only [go_sem, hi, hm, he, bA_ren]; (try (repeat' (first | done | trivial | rfl | exact leAs_rfl _ | decide | (refine And.intro ?_ ?_) | (simp; done) | omega | (simp; decide))))))) | refine goN ?_ | ((first | refine CondP.split (fun hif => ?_) (fun hif => ?_) | refine Runs.part (fun hif => ?_) (fun hif => ?_)) <;> ((try simp only [BL] at hif); first | (exfalso; omega; done) | refine goI ?_)))); (all_goals (try clear k9)); (all_goals (try clear a1)))
  | true =>
    rw [hh] at c0
    have hf := ho 7 (by decide) hh
    have hn : m.marks.length ≤ 8 := hf.1
    have hall := hf.2
    have hL2 : preC B mkB m.marks m.marks.length ++ wT m 1 = L := by rw [← hL, wT_yes (i := 7) (j := 1) hh rfl, show fB 7 m = lsB mkB m.marks from rfl, preC_all B _ _ (by omega)]
    have hx8 : ∀ x ∈ m.marks, (mkB x).length ≤ 22 := fun x hx => by
      have h3 : (x.key.size : Int) ≤ 16 := (hall x hx).2.2
      rw [mkB_len]; omega
    have hpl := preC_len B (enc := mkB) hx8
    have hp0 := preC_0 B mkB m.marks
    have hps := fun q (h : q < m.marks.length) => preC_s B mkB m.marks h
    generalize preC B mkB m.marks = p at *
    have w0 : IntKind.u8.wrap (m.marks.length : Int) = (m.marks.length : Int) := wrap_u8 (by omega) (by omega)
    have hL0 := rm_len b m.marks
    have hpl0 := hpl 0
    rw [hp0] at hpl0
    (try simp (maxSteps := 9999999) (disch := omega) only [go_sem])
    (have k9 := And.intro @hi (And.intro @hm (And.intro @he (And.intro @bA_ren (And.intro @bA_app (And.intro @bA_cons (And.intro @bA_nil (And.intro @w0 (k0)))))))); have a1 := Arm.mk [] c0; (repeat' (first | refine goM ?_ | ((first | refine CondP.split (fun hif => ?_) (fun hif => ?_) | refine Runs.part (fun hif => ?_) (fun hif => ?_)) <;> ((try simp only [BL] at hif); first | (exfalso; omega; done) | refine goI ?_)))); (all_goals (try clear k9)); (all_goals (try clear a1)))
    clear c0 hf
    (apply AWpA.loopL (fun i : Nat => [(1, .ptr 3 0), (3, .sl 4 0 (p i).length 1 none), (5, I i)]) (fun i => [.cells true (Ri a m.peers), .cells true (Rm b m.marks), .cells true (Re c m.ents), .cells false (WmL m 0 a 1 b 2 c), .cells false (bA (p i))]) (fun i => m.marks.length - i) (fun i => i ≤ m.marks.length) (0) [0, 1, 2, 3, 149]; rotate_left; (focus (simp (maxSteps := 9999999) (disch := omega) only [go_sem, hi, hm, he, bA_ren, bA_app, bA_cons, bA_nil, hp0]; (try (repeat' (first | done | trivial | rfl | exact leAs_rfl _ | decide | (refine And.intro ?_ ?_) | (simp; done) | omega | (simp; decide)))))); rotate_right)
    · exact Nat.zero_le _
    intro i hil
    (try simp only at hil)
    have hpi := hpl i
    by_cases hin : i < m.marks.length
    · have g1 : ((i : Int) < (m.marks.length : Int)) = True := eq_true (by omega)
      have hat := rm_at b m.marks i hin
      have hst := hps i hin
      have hpi1 := hpl (i + 1)
      have c1 := mkbytes_any _ (hall _ (List.getElem_mem hin))
      have hxl := hx8 _ (List.getElem_mem hin)
      clear hall hx8 hpl hps
      generalize m.marks[i] = x at *
      rw [hst] at hpi1
      generalize mkB x = C at *
      (try simp (maxSteps := 9999999) (disch := omega) only [go_sem])
      (have k9 := And.intro @hi (And.intro @hm (And.intro @he (And.intro @bA_ren (And.intro @bA_app (And.intro @bA_cons (And.intro @bA_nil (And.intro @g1 (And.intro @hat (And.intro @hL0 (k0)))))))))); have a1 := Arm.mk [] c1; refine goK ?_; (try clear k9); (try clear a1))
      (have k9 := And.intro @hi (And.intro @hm (And.intro @he (And.intro @bA_ren (And.intro @bA_app (And.intro @bA_cons (And.intro @bA_nil (And.intro @hst (k0)))))))); refine Back.tk (i + 1) [0, 1, 2, 3, 197] ?_)
      omega
    obtain rfl : i = m.marks.length := by omega
    have g1 : ((m.marks.length : Int) < (m.marks.length : Int)) = False := eq_false (by omega)
    generalize p m.marks.length = D at *
    clear hall hx8 hpl hps hp0
    (try simp (maxSteps := 9999999) (disch := omega) only [go_sem])
    (have k9 := And.intro @hi (And.intro @hm (And.intro @he (And.intro @bA_ren (And.intro @bA_app (And.intro @bA_cons (And.intro @bA_nil (And.intro @g1 (k0)))))))); (repeat' (first | (with_reducible refine AWpA.to [0, 1, 2, 3, 4] (rb8 m a b c ho (D) L (by omega) hL2) ?_; (focus (simp (maxSteps := 9999999) (disch := omega) only [go_sem, hi, hm, he, bA_ren, bA_app, bA_cons, bA_nil, g1]; (try (repeat' (first | done | trivial | rfl | exact leAs_rfl _ | decide | (refine And.intro ?_ ?_) | (simp; done) | omega | (simp; decide))))))) | refine goN ?_ | ((first | refine CondP.split (fun hif => ?_) (fun hif => ?_) | refine Runs.part (fun hif => ?_) (fun hif => ?_)) <;> ((try simp only [BL] at hif); first | (exfalso; omega; done) | refine goI ?_)))); (all_goals (try clear k9)))
theorem rb6 (m : Wm) (a b c : Nat) (ho : ∀ i, i < 9 → hasF m.kind i = true → fOk i m) (B L : List Int) (hB : B.length ≤ 80) (hL : B ++ wT m 3 = L) : AWpA Tryz.prog 138 (NN.plain 3) c20_46 (RetPost (NN.plain 3) [(2, none)] [.cells true (Ri a m.peers), .cells true (Rm b m.marks), .cells true (Re c m.ents)] (Det (.sl 3 0 L.length 1 none) [.cells true (Ri a m.peers), .cells true (Rm b m.marks), .cells true (Re c m.ents), .cells false (bA L)])) (Am.mk [(1, .ptr 3 0), (3, .sl 4 0 B.length 1 none)] none0 (zipI 0 [.cells true (Ri a m.peers), .cells true (Rm b m.marks), .cells true (Re c m.ents), .cells false (WmL m 0 a 1 b 2 c), .cells false (bA B)]) gone0 5) := by
  have hi := ri_ren
  have hm := rm_ren
  have he := re_ren
  have c0 := has6_any m.kind
  cases hh : hasF m.kind 6 with
  | false =>
    rw [hh] at c0
    have hL2 : B ++ wT m 2 = L := by rw [← hL, wT_no (i := 6) (j := 2) hh rfl]
    (try simp (maxSteps := 9999999) (disch := omega) only [go_sem])
    (have k9 := And.intro @hi (And.intro @hm (And.intro @he (And.intro @bA_ren (k0)))); have a1 := Arm.mk [] c0; (repeat' (first | (with_reducible refine AWpA.to [0, 1, 2, 3, 4] (rb7 m a b c ho (B) L (by omega) hL2) ?_; (focus (simp (maxSteps := 9999999) (disch := omega) only [go_sem, hi, hm, he, bA_ren]; (try (repeat' (first | done | trivial | rfl | exact leAs_rfl _ | decide | (refine And.intro ?_ ?_) | (simp; done) | omega | (simp; decide))))))) | refine goN ?_ | ((first | refine CondP.split (fun hif => ?_) (fun hif => ?_) | refine Runs.part (fun hif => ?_) (fun hif => ?_)) <;> ((try simp only [BL] at hif); first | (exfalso; omega; done) | refine goI ?_)))); (all_goals (try clear k9)); (all_goals (try clear a1)))
  | true =>
    rw [hh] at c0
    have hf := ho 6 (by decide) hh
    have hL2 : (B ++ mkB m.mark) ++ wT m 2 = L := by rw [← hL, wT_yes (i := 6) (j := 2) hh rfl]; rfl
    have c1 := mkbytes_any m.mark hf
    have n1 : (mkB m.mark).length ≤ 22 := fB_len 6 (by decide) hf
    have w1 := hi
    generalize mkB m.mark = C at *
    (try simp (maxSteps := 9999999) (disch := omega) only [go_sem])
    (have k9 := And.intro @hi (And.intro @hm (And.intro @he (And.intro @bA_ren (And.intro @bA_app (And.intro @bA_cons (And.intro @bA_nil (And.intro @w1 (k0)))))))); have a1 := Arm.mk [] c0; have a2 := Arm.mk [] c1; (repeat' (first | (with_reducible refine AWpA.to [0, 1, 2, 3, 117] (rb7 m a b c ho (B ++ C) L (by rw [List.length_append]; omega) hL2) ?_; (focus (simp (maxSteps := 9999999) (disch := omega) only [go_sem, hi, hm, he, bA_ren, bA_app, bA_cons, bA_nil, w1]; (try (repeat' (first | done | trivial | rfl | exact leAs_rfl _ | decide | (refine And.intro ?_ ?_) | (simp; done) | omega | (simp; decide))))))) | refine goN ?_ | ((first | refine CondP.split (fun hif => ?_) (fun hif => ?_) | refine Runs.part (fun hif => ?_) (fun hif => ?_)) <;> ((try simp only [BL] at hif); first | (exfalso; omega; done) | refine goI ?_)))); (all_goals (try clear k9)); (all_goals (try clear a1)); (all_goals (try clear a2)))
theorem rb5 (m : Wm) (a b c : Nat) (ho : ∀ i, i < 9 → hasF m.kind i = true → fOk i m) (B L : List Int) (hB : B.length ≤ 60) (hL : B ++ wT m 4 = L) : AWpA Tryz.prog 138 (NN.plain 3) c20_41 (RetPost (NN.plain 3) [(2, none)] [.cells true (Ri a m.peers), .cells true (Rm b m.marks), .cells true (Re c m.ents)] (Det (.sl 3 0 L.length 1 none) [.cells true (Ri a m.peers), .cells true (Rm b m.marks), .cells true (Re c m.ents), .cells false (bA L)])) (Am.mk [(1, .ptr 3 0), (3, .sl 4 0 B.length 1 none)] none0 (zipI 0 [.cells true (Ri a m.peers), .cells true (Rm b m.marks), .cells true (Re c m.ents), .cells false (WmL m 0 a 1 b 2 c), .cells false (bA B)]) gone0 5) := by
  have hi := ri_ren
  have hm := rm_ren
  have he := re_ren
  have c0 := has5_any m.kind
  cases hh : hasF m.kind 5 with
  | false =>
    rw [hh] at c0
    have hL2 : B ++ wT m 3 = L := by rw [← hL, wT_no (i := 5) (j := 3) hh rfl]
    (try simp (maxSteps := 9999999) (disch := omega) only [go_sem])
    (have k9 := And.intro @hi (And.intro @hm (And.intro @he (And.intro @bA_ren (k0)))); have a1 := Arm.mk [] c0; (repeat' (first | (with_reducible refine AWpA.to [0, 1, 2, 3, 4] (rb6 m a b c ho (B) L (by omega) hL2) ?_; (focus (simp (maxSteps := 9999999) (disch := omega) only [go_sem, hi, hm, he, bA_ren]; (try (repeat' (first | done | trivial | rfl | exact leAs_rfl _ | decide | (refine And.intro ?_ ?_) | (simp; done) | omega | (simp; decide))))))) | refine goN ?_ | ((first | refine CondP.split (fun hif => ?_) (fun hif => ?_) | refine Runs.part (fun hif => ?_) (fun hif => ?_)) <;> ((try simp only [BL] at hif); first | (exfalso; omega; done) | refine goI ?_)))); (all_goals (try clear k9)); (all_goals (try clear a1)))
  | true =>
    rw [hh] at c0
    have hf := ho 5 (by decide) hh
    have p1 := fits_lt (n := 8) hf.1 hf.2
    have hf2 := hf.2
    simp only [Int.reducePow] at p1
    have hL2 : (B ++ leI m.sum 8) ++ wT m 3 = L := by rw [← hL, wT_yes (i := 5) (j := 3) hh rfl]; rfl
    have c1 := num16_any m.sum ⟨hf2, by omega⟩ 8 (by decide)
    have w1 : IntKind.u64.wrap m.sum = m.sum := wrap_u64 hf2 (by omega)
    have n1 := leI_len m.sum 8
    generalize leI m.sum 8 = C at *
    (try simp (maxSteps := 9999999) (disch := omega) only [go_sem])
    (have k9 := And.intro @hi (And.intro @hm (And.intro @he (And.intro @bA_ren (And.intro @bA_app (And.intro @bA_cons (And.intro @bA_nil (And.intro @w1 (k0)))))))); have a1 := Arm.mk [] c0; have a2 := Arm.mk [] c1; (repeat' (first | (with_reducible refine AWpA.to [0, 1, 2, 3, 117] (rb6 m a b c ho (B ++ C) L (by rw [List.length_append]; omega) hL2) ?_; (focus (simp (maxSteps := 9999999) (disch := omega) only [go_sem, hi, hm, he, bA_ren, bA_app, bA_cons, bA_nil, w1]; (try (repeat' (first | done | trivial | rfl | exact leAs_rfl _ | decide | (refine And.intro ?_ ?_) | (simp; done) | omega | (simp; decide))))))) | refine goN ?_ | ((first | refine CondP.split (fun hif => ?_) (fun hif => ?_) | refine Runs.part (fun hif => ?_) (fun hif => ?_)) <;> ((try simp only [BL] at hif); first | (exfalso; omega; done) | refine goI ?_)))); (all_goals (try clear k9)); (all_goals (try clear a1)); (all_goals (try clear a2)))
theorem rb4 (m : Wm) (a b c : Nat) (ho : ∀ i, i < 9 → hasF m.kind i = true → fOk i m) (B L : List Int) (hB : B.length ≤ 40) (hL : B ++ wT m 5 = L) : AWpA Tryz.prog 138 (NN.plain 3) c20_36 (RetPost (NN.plain 3) [(2, none)] [.cells true (Ri a m.peers), .cells true (Rm b m.marks), .cells true (Re c m.ents)] (Det (.sl 3 0 L.length 1 none) [.cells true (Ri a m.peers), .cells true (Rm b m.marks), .cells true (Re c m.ents), .cells false (bA L)])) (Am.mk [(1, .ptr 3 0), (3, .sl 4 0 B.length 1 none)] none0 (zipI 0 [.cells true (Ri a m.peers), .cells true (Rm b m.marks), .cells true (Re c m.ents), .cells false (WmL m 0 a 1 b 2 c), .cells false (bA B)]) gone0 5) := by
  have hi := ri_ren
  have hm := rm_ren
  have he := re_ren
  have c0 := has4_any m.kind
  cases hh : hasF m.kind 4 with
  | false =>
    rw [hh] at c0
    have hL2 : B ++ wT m 4 = L := by rw [← hL, wT_no (i := 4) (j := 4) hh rfl]
    (try simp (maxSteps := 9999999) (disch := omega) only [go_sem])
    (have k9 := And.intro @hi (And.intro @hm (And.intro @he (And.intro @bA_ren (k0)))); have a1 := Arm.mk [] c0; (repeat' (first | (with_reducible refine AWpA.to [0, 1, 2, 3, 4] (rb5 m a b c ho (B) L (by omega) hL2) ?_; (focus (simp (maxSteps := 9999999) (disch := omega) only [go_sem, hi, hm, he, bA_ren]; (try (repeat' (first | done | trivial | rfl | exact leAs_rfl _ | decide | (refine And.intro ?_ ?_) | (simp; done) | omega | (simp; decide))))))) | refine goN ?_ | ((first | refine CondP.split (fun hif => ?_) (fun hif => ?_) | refine Runs.part (fun hif => ?_) (fun hif => ?_)) <;> ((try simp only [BL] at hif); first | (exfalso; omega; done) | refine goI ?_)))); (all_goals (try clear k9)); (all_goals (try clear a1)))
  | true =>
    rw [hh] at c0
    have hf := ho 4 (by decide) hh
    have p1 := fits_lt (n := 4) hf.1 hf.2
    have hf2 := hf.2
    simp only [Int.reducePow] at p1
    have hL2 : (B ++ leI m.num 4) ++ wT m 4 = L := by rw [← hL, wT_yes (i := 4) (j := 4) hh rfl]; rfl
    have c1 := num16_any m.num ⟨hf2, by omega⟩ 4 (by decide)
    have w1 : IntKind.u64.wrap m.num = m.num := wrap_u64 hf2 (by omega)
    have n1 := leI_len m.num 4
    generalize leI m.num 4 = C at *
    (try simp (maxSteps := 9999999) (disch := omega) only [go_sem])
    (have k9 := And.intro @hi (And.intro @hm (And.intro @he (And.intro @bA_ren (And.intro @bA_app (And.intro @bA_cons (And.intro @bA_nil (And.intro @w1 (k0)))))))); have a1 := Arm.mk [] c0; have a2 := Arm.mk [] c1; (repeat' (first | (with_reducible refine AWpA.to [0, 1, 2, 3, 133] (rb5 m a b c ho (B ++ C) L (by rw [List.length_append]; omega) hL2) ?_; (focus (simp (maxSteps := 9999999) (disch := omega) only [go_sem, hi, hm, he, bA_ren, bA_app, bA_cons, bA_nil, w1]; (try (repeat' (first | done | trivial | rfl | exact leAs_rfl _ | decide | (refine And.intro ?_ ?_) | (simp; done) | omega | (simp; decide))))))) | refine goN ?_ | ((first | refine CondP.split (fun hif => ?_) (fun hif => ?_) | refine Runs.part (fun hif => ?_) (fun hif => ?_)) <;> ((try simp only [BL] at hif); first | (exfalso; omega; done) | refine goI ?_)))); (all_goals (try clear k9)); (all_goals (try clear a1)); (all_goals (try clear a2)))
theorem rb3 (m : Wm) (a b c : Nat) (ho : ∀ i, i < 9 → hasF m.kind i = true → fOk i m) (B L : List Int) (hB : B.length ≤ 20) (hL : B ++ wT m 6 = L) : AWpA Tryz.prog 138 (NN.plain 3) c20_18 (RetPost (NN.plain 3) [(2, none)] [.cells true (Ri a m.peers), .cells true (Rm b m.marks), .cells true (Re c m.ents)] (Det (.sl 3 0 L.length 1 none) [.cells true (Ri a m.peers), .cells true (Rm b m.marks), .cells true (Re c m.ents), .cells false (bA L)])) (Am.mk [(1, .ptr 3 0), (3, .sl 4 0 B.length 1 none)] none0 (zipI 0 [.cells true (Ri a m.peers), .cells true (Rm b m.marks), .cells true (Re c m.ents), .cells false (WmL m 0 a 1 b 2 c), .cells false (bA B)]) gone0 5) := by
  have hi := ri_ren
  have hm := rm_ren
  have he := re_ren
  have c0 := has3_any m.kind
  cases hh : hasF m.kind 3 with
  | false =>
    rw [hh] at c0
    have hL2 : B ++ wT m 5 = L := by rw [← hL, wT_no (i := 3) (j := 5) hh rfl]
    (try simp (maxSteps := 9999999) (disch := omega) only [go_sem])
    (have k9 := And.intro @hi (And.intro @hm (And.intro @he (And.intro @bA_ren (k0)))); have a1 := Arm.mk [] c0; (repeat' (first | (with_reducible refine AWpA.to [0, 1, 2, 3, 4] (rb4 m a b c ho (B) L (by omega) hL2) ?_; (focus (simp (maxSteps := 9999999) (disch := omega) only [go_sem, hi, hm, he, bA_ren]; (try (repeat' (first | done | trivial | rfl | exact leAs_rfl _ | decide | (refine And.intro ?_ ?_) | (simp; done) | omega | (simp; decide))))))) | refine goN ?_ | ((first | refine CondP.split (fun hif => ?_) (fun hif => ?_) | refine Runs.part (fun hif => ?_) (fun hif => ?_)) <;> ((try simp only [BL] at hif); first | (exfalso; omega; done) | refine goI ?_)))); (all_goals (try clear k9)); (all_goals (try clear a1)))
  | true =>
    rw [hh] at c0
    have hf := ho 3 (by decide) hh
    have hn : m.peers.length ≤ 8 := hf.1
    have hall := hf.2
    have hL2 : preC B (fun n => leI n 1) m.peers m.peers.length ++ wT m 5 = L := by rw [← hL, wT_yes (i := 3) (j := 5) hh rfl, show fB 3 m = lsB (fun n => leI n 1) m.peers from rfl, preC_all B _ _ (by omega)]
    have hx8 : ∀ x ∈ m.peers, (leI x 1).length ≤ 1 := fun x _ => by rw [leI_len]; exact Nat.le_refl _
    have hpl := preC_len B (enc := (fun n => leI n 1)) hx8
    have hp0 := preC_0 B (fun n => leI n 1) m.peers
    have hps := fun q (h : q < m.peers.length) => preC_s B (fun n => leI n 1) m.peers h
    generalize preC B (fun n => leI n 1) m.peers = p at *
    have w0 : IntKind.u8.wrap (m.peers.length : Int) = (m.peers.length : Int) := wrap_u8 (by omega) (by omega)
    have hL0 := ri_len a m.peers
    have hpl0 := hpl 0
    rw [hp0] at hpl0
    (try simp (maxSteps := 9999999) (disch := omega) only [go_sem])
    (have k9 := And.intro @hi (And.intro @hm (And.intro @he (And.intro @bA_ren (And.intro @bA_app (And.intro @bA_cons (And.intro @bA_nil (And.intro @w0 (k0)))))))); have a1 := Arm.mk [] c0; (repeat' (first | refine goM ?_ | ((first | refine CondP.split (fun hif => ?_) (fun hif => ?_) | refine Runs.part (fun hif => ?_) (fun hif => ?_)) <;> ((try simp only [BL] at hif); first | (exfalso; omega; done) | refine goI ?_)))); (all_goals (try clear k9)); (all_goals (try clear a1)))
    clear c0 hf
    (apply AWpA.loopL (fun i : Nat => [(1, .ptr 3 0), (3, .sl 4 0 (p i).length 1 none), (4, I i)]) (fun i => [.cells true (Ri a m.peers), .cells true (Rm b m.marks), .cells true (Re c m.ents), .cells false (WmL m 0 a 1 b 2 c), .cells false (bA (p i))]) (fun i => m.peers.length - i) (fun i => i ≤ m.peers.length) (0) [0, 1, 2, 3, 149]; rotate_left; (focus (simp (maxSteps := 9999999) (disch := omega) only [go_sem, hi, hm, he, bA_ren, bA_app, bA_cons, bA_nil, hp0]; (try (repeat' (first | done | trivial | rfl | exact leAs_rfl _ | decide | (refine And.intro ?_ ?_) | (simp; done) | omega | (simp; decide)))))); rotate_right)
    · exact Nat.zero_le _
    intro i hil
    (try simp only at hil)
    have hpi := hpl i
    by_cases hin : i < m.peers.length
    · have g1 : ((i : Int) < (m.peers.length : Int)) = True := eq_true (by omega)
      have hat := ri_at a m.peers i hin
      have hst := hps i hin
      have hpi1 := hpl (i + 1)
      have hx := hall _ (List.getElem_mem hin)
      have p1 := fits_lt (n := 1) hx.1 hx.2
      have hx2 := hx.2
      clear hall hx8 hpl hps hx
      generalize m.peers[i] = x at *
      have w1 : IntKind.u8.wrap x = x := wrap_u8 hx2 (by omega)
      rw [leI_1 ⟨hx2, p1⟩] at hst
      rw [hst] at hpi1
      (try simp (maxSteps := 9999999) (disch := omega) only [go_sem])
      (have k9 := And.intro @hi (And.intro @hm (And.intro @he (And.intro @bA_ren (And.intro @bA_app (And.intro @bA_cons (And.intro @bA_nil (And.intro @w1 (And.intro @g1 (And.intro @hat (And.intro @hL0 (k0))))))))))); refine goK ?_; (try clear k9))
      (have k9 := And.intro @hi (And.intro @hm (And.intro @he (And.intro @bA_ren (And.intro @bA_app (And.intro @bA_cons (And.intro @bA_nil (And.intro @hst (k0)))))))); refine Back.tk (i + 1) [0, 1, 2, 3, 213] ?_)
      omega
    obtain rfl : i = m.peers.length := by omega
    have g1 : ((m.peers.length : Int) < (m.peers.length : Int)) = False := eq_false (by omega)
    generalize p m.peers.length = D at *
    clear hall hx8 hpl hps hp0
    (try simp (maxSteps := 9999999) (disch := omega) only [go_sem])
    (have k9 := And.intro @hi (And.intro @hm (And.intro @he (And.intro @bA_ren (And.intro @bA_app (And.intro @bA_cons (And.intro @bA_nil (And.intro @g1 (k0)))))))); (repeat' (first | (with_reducible refine AWpA.to [0, 1, 2, 3, 4] (rb4 m a b c ho (D) L (by omega) hL2) ?_; (focus (simp (maxSteps := 9999999) (disch := omega) only [go_sem, hi, hm, he, bA_ren, bA_app, bA_cons, bA_nil, g1]; (try (repeat' (first | done | trivial | rfl | exact leAs_rfl _ | decide | (refine And.intro ?_ ?_) | (simp; done) | omega | (simp; decide))))))) | refine goN ?_ | ((first | refine CondP.split (fun hif => ?_) (fun hif => ?_) | refine Runs.part (fun hif => ?_) (fun hif => ?_)) <;> ((try simp only [BL] at hif); first | (exfalso; omega; done) | refine goI ?_)))); (all_goals (try clear k9)))
theorem rb2 (m : Wm) (a b c : Nat) (ho : ∀ i, i < 9 → hasF m.kind i = true → fOk i m) (B L : List Int) (hB : B.length ≤ 10) (hL : B ++ wT m 7 = L) : AWpA Tryz.prog 138 (NN.plain 3) c20_9 (RetPost (NN.plain 3) [(2, none)] [.cells true (Ri a m.peers), .cells true (Rm b m.marks), .cells true (Re c m.ents)] (Det (.sl 3 0 L.length 1 none) [.cells true (Ri a m.peers), .cells true (Rm b m.marks), .cells true (Re c m.ents), .cells false (bA L)])) (Am.mk [(1, .ptr 3 0), (3, .sl 4 0 B.length 1 none)] none0 (zipI 0 [.cells true (Ri a m.peers), .cells true (Rm b m.marks), .cells true (Re c m.ents), .cells false (WmL m 0 a 1 b 2 c), .cells false (bA B)]) gone0 5) := by
  have hi := ri_ren
  have hm := rm_ren
  have he := re_ren
  have c0 := has2_any m.kind
  cases hh : hasF m.kind 2 with
  | false =>
    rw [hh] at c0
    have hL2 : B ++ wT m 6 = L := by rw [← hL, wT_no (i := 2) (j := 6) hh rfl]
    (try simp (maxSteps := 9999999) (disch := omega) only [go_sem])
    (have k9 := And.intro @hi (And.intro @hm (And.intro @he (And.intro @bA_ren (k0)))); have a1 := Arm.mk [] c0; (repeat' (first | (with_reducible refine AWpA.to [0, 1, 2, 3, 4] (rb3 m a b c ho (B) L (by omega) hL2) ?_; (focus (simp (maxSteps := 9999999) (disch := omega) only [go_sem, hi, hm, he, bA_ren]; (try (repeat' (first | done | trivial | rfl | exact leAs_rfl _ | decide | (refine And.intro ?_ ?_) | (simp; done) | omega | (simp; decide))))))) | refine goN ?_ | ((first | refine CondP.split (fun hif => ?_) (fun hif => ?_) | refine Runs.part (fun hif => ?_) (fun hif => ?_)) <;> ((try simp only [BL] at hif); first | (exfalso; omega; done) | refine goI ?_)))); (all_goals (try clear k9)); (all_goals (try clear a1)))
  | true =>
    rw [hh] at c0
    have hf := ho 2 (by decide) hh
    cases hg : m.high with
    | true =>
      have hL2 : (B ++ [1]) ++ wT m 6 = L := by
        rw [← hL, wT_yes (i := 2) (j := 6) hh rfl, show fB 2 m = [1] by show [cond m.high 1 0] = _; rw [hg]; rfl]
      (try simp (maxSteps := 9999999) (disch := omega) only [go_sem])
      (have k9 := And.intro @hi (And.intro @hm (And.intro @he (And.intro @bA_ren (And.intro @bA_app (And.intro @bA_cons (And.intro @bA_nil (And.intro @hg (k0)))))))); have a1 := Arm.mk [] c0; (repeat' (first | (with_reducible refine AWpA.to [0, 1, 2, 3, 149] (rb3 m a b c ho (B ++ [1]) L (by rw [List.length_append]; simp only [List.length_cons, List.length_nil]; omega) hL2) ?_; (focus (simp (maxSteps := 9999999) (disch := omega) only [go_sem, hi, hm, he, bA_ren, bA_app, bA_cons, bA_nil, hg]; (try (repeat' (first | done | trivial | rfl | exact leAs_rfl _ | decide | (refine And.intro ?_ ?_) | (simp; done) | omega | (simp; decide))))))) | refine goN ?_ | ((first | refine CondP.split (fun hif => ?_) (fun hif => ?_) | refine Runs.part (fun hif => ?_) (fun hif => ?_)) <;> ((try simp only [BL] at hif); first | (exfalso; omega; done) | refine goI ?_)))); (all_goals (try clear k9)); (all_goals (try clear a1)))
    | false =>
      have hL2 : (B ++ [0]) ++ wT m 6 = L := by
        rw [← hL, wT_yes (i := 2) (j := 6) hh rfl, show fB 2 m = [0] by show [cond m.high 1 0] = _; rw [hg]; rfl]
      (try simp (maxSteps := 9999999) (disch := omega) only [go_sem])
      (have k9 := And.intro @hi (And.intro @hm (And.intro @he (And.intro @bA_ren (And.intro @bA_app (And.intro @bA_cons (And.intro @bA_nil (And.intro @hg (k0)))))))); have a1 := Arm.mk [] c0; (repeat' (first | (with_reducible refine AWpA.to [0, 1, 2, 3, 197] (rb3 m a b c ho (B ++ [0]) L (by rw [List.length_append]; simp only [List.length_cons, List.length_nil]; omega) hL2) ?_; (focus (simp (maxSteps := 9999999) (disch := omega) only [go_sem, hi, hm, he, bA_ren, bA_app, bA_cons, bA_nil, hg]; (try (repeat' (first | done | trivial | rfl | exact leAs_rfl _ | decide | (refine And.intro ?_ ?_) | (simp; done) | omega | (simp; decide))))))) | refine goN ?_ | ((first | refine CondP.split (fun hif => ?_) (fun hif => ?_) | refine Runs.part (fun hif => ?_) (fun hif => ?_)) <;> ((try simp only [BL] at hif); first | (exfalso; omega; done) | refine goI ?_)))); (all_goals (try clear k9)); (all_goals (try clear a1)))
theorem rb0 (m : Wm) (a b c : Nat) (ho : ∀ i, i < 9 → hasF m.kind i = true → fOk i m) (B L : List Int) (hB : B.length ≤ 0) (hL : B ++ wT m 9 = L) : AWpA Tryz.prog 138 (NN.plain 3) c20_4 (RetPost (NN.plain 3) [(2, none)] [.cells true (Ri a m.peers), .cells true (Rm b m.marks), .cells true (Re c m.ents)] (Det (.sl 3 0 L.length 1 none) [.cells true (Ri a m.peers), .cells true (Rm b m.marks), .cells true (Re c m.ents), .cells false (bA L)])) (Am.mk [(1, .ptr 3 0), (3, .sl 4 0 B.length 1 none)] none0 (zipI 0 [.cells true (Ri a m.peers), .cells true (Rm b m.marks), .cells true (Re c m.ents), .cells false (WmL m 0 a 1 b 2 c), .cells false (bA B)]) gone0 5) := by
  have hi := ri_ren
  have hm := rm_ren
  have he := re_ren
  have c0 := has0_any m.kind
  cases hh : hasF m.kind 0 with
  | false =>
    rw [hh] at c0
    have h1 : hasF m.kind 1 = false := hh
    have e : B ++ wT m 9 = B ++ wT m 7 := by rw [wT_no (i := 0) hh rfl, wT_no (i := 1) h1 rfl]
    have hL2 : B ++ wT m 7 = L := by rw [← hL, e]
    (try simp (maxSteps := 9999999) (disch := omega) only [go_sem])
    (have k9 := And.intro @hi (And.intro @hm (And.intro @he (And.intro @bA_ren (k0)))); have a1 := Arm.mk [] c0; (repeat' (first | (with_reducible refine AWpA.to [0, 1, 2, 3, 4] (rb2 m a b c ho (B) L (by omega) hL2) ?_; (focus (simp (maxSteps := 9999999) (disch := omega) only [go_sem, hi, hm, he, bA_ren]; (try (repeat' (first | done | trivial | rfl | exact leAs_rfl _ | decide | (refine And.intro ?_ ?_) | (simp; done) | omega | (simp; decide))))))) | refine goN ?_ | ((first | refine CondP.split (fun hif => ?_) (fun hif => ?_) | refine Runs.part (fun hif => ?_) (fun hif => ?_)) <;> ((try simp only [BL] at hif); first | (exfalso; omega; done) | refine goI ?_)))); (all_goals (try clear k9)); (all_goals (try clear a1)))
  | true =>
    rw [hh] at c0
    have hf := ho 0 (by decide) hh
    have h1 : hasF m.kind 1 = true := hh
    have hf1 := ho 1 (by decide) h1
    have e : B ++ wT m 9 = (B ++ (fB 0 m ++ fB 1 m)) ++ wT m 7 := by rw [wT_yes (i := 0) hh rfl, wT_yes (i := 1) h1 rfl, List.append_assoc B]
    have p1 := fits_lt (n := 1) hf.1 hf.2
    have p2 := fits_lt (n := 1) hf1.1 hf1.2
    have hf2 := hf.2
    have hf12 := hf1.2
    have e2 : fB 0 m ++ fB 1 m = [m.peer, m.hops] := by
      show leI m.peer 1 ++ leI m.hops 1 = _
      rw [leI_1 ⟨hf2, p1⟩, leI_1 ⟨hf12, p2⟩]; rfl
    have hL2 : (B ++ [m.peer] ++ [m.hops]) ++ wT m 7 = L := by
      rw [← hL, e, e2, List.append_assoc B]
      rfl
    clear e e2
    have w1 : IntKind.u8.wrap m.peer = m.peer := wrap_u8 hf2 (by omega)
    have w2 : IntKind.u8.wrap m.hops = m.hops := wrap_u8 hf12 (by omega)
    (try simp (maxSteps := 9999999) (disch := omega) only [go_sem])
    (have k9 := And.intro @hi (And.intro @hm (And.intro @he (And.intro @bA_ren (And.intro @bA_app (And.intro @bA_cons (And.intro @bA_nil (And.intro @w1 (And.intro @w2 (k0))))))))); have a1 := Arm.mk [] c0; (repeat' (first | (with_reducible refine AWpA.to [0, 1, 2, 3, 181] (rb2 m a b c ho (B ++ [m.peer] ++ [m.hops]) L (by rw [List.length_append, List.length_append]; simp only [List.length_cons, List.length_nil]; omega) hL2) ?_; (focus (simp (maxSteps := 9999999) (disch := omega) only [go_sem, hi, hm, he, bA_ren, bA_app, bA_cons, bA_nil, w1, w2]; (try (repeat' (first | done | trivial | rfl | exact leAs_rfl _ | decide | (refine And.intro ?_ ?_) | (simp; done) | omega | (simp; decide))))))) | refine goN ?_ | ((first | refine CondP.split (fun hif => ?_) (fun hif => ?_) | refine Runs.part (fun hif => ?_) (fun hif => ?_)) <;> ((try simp only [BL] at hif); first | (exfalso; omega; done) | refine goI ?_)))); (all_goals (try clear k9)); (all_goals (try clear a1)))
theorem rbytes16_any (m : Wm) (a b c : Nat) (ho : ∀ i, i < 9 → hasF m.kind i = true → fOk i m) : ACall Tryz.prog 20 [WmA m 0 a 1 b 2 c] [.cells true (Ri a m.peers), .cells true (Rm b m.marks), .cells true (Re c m.ents)] (Det (.sl 3 0 (wB m).length 1 none) [.cells true (Ri a m.peers), .cells true (Rm b m.marks), .cells true (Re c m.ents), .cells false (bA (wB m))]) := by
  have hi := ri_ren
  have hm := rm_ren
  have he := re_ren
  have r0 := rb0 m a b c ho [] (wB m) (Nat.le_refl _) (by rw [wT_all, List.nil_append])
  generalize wB m = L at *
  refine ACall.startA c20_ok Tryz.func20 rfl Tryz.ntmps20 (by kernel_rfl) res20_ok rfl rfl rfl ?_; simp (maxSteps := 9999999) (disch := omega) only [go_sem]
  (have k9 := And.intro @hi (And.intro @hm (And.intro @he (And.intro @bA_ren (And.intro @bA_nil (k0))))); (repeat' (first | (with_reducible refine AWpA.to [0, 1, 2, 3, 35] (r0) ?_; (focus (simp (maxSteps := 9999999) (disch := omega) only [go_sem, hi, hm, he, bA_ren, bA_nil]; (try (repeat' (first | done | trivial | rfl | exact leAs_rfl _ | decide | (refine And.intro ?_ ?_) | (simp; done) | omega | (simp; decide))))))) | refine goN ?_ | ((first | refine CondP.split (fun hif => ?_) (fun hif => ?_) | refine Runs.part (fun hif => ?_) (fun hif => ?_)) <;> ((try simp only [BL] at hif); first | (exfalso; omega; done) | refine goI ?_)))); (all_goals (try clear k9)))
end Go.Proofs.YtopidfkmligljaaGreat
