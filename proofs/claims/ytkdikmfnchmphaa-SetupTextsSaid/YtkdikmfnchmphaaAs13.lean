/- Contracts: Decode, the program's and the document's. -/
import Derived.Test.YtkdikmfnchmphaaAs9
import Derived.Test.YtkdikmfnchmphaaAo14
namespace Go.Proofs.Ytkdikmfnchmphaa
set_option linter.unusedSimpArgs false
set_option linter.unusedVariables false
set_option maxHeartbeats 4000000
open Go Go.Am Go.RowKit Go.Setup
set_option linter.unusedSimpArgs false
set_option maxHeartbeats 4000000
set_option maxRecDepth 100000
/-- Where a reading of numbers of four bytes stands; what it gives. -/
def cuN (L : List Int) : Nat → Cu
  | 0 => ⟨0, 0⟩
  | i + 1 => numC L 4 (cuN L i)
def vN (L : List Int) (i : Nat) : Int := numV L 4 (cuN L i)
def vs (L : List Int) : List Int := (List.range 20).map (vN L)
theorem vs_len (L : List Int) : (vs L).length = 20 := by simp [vs]
theorem vs_get (L : List Int) {i : Nat} (h : i < 20) : (vs L).getD i 0 = vN L i := by
  simp [vs, List.getD_eq_getElem?_getD, h]
theorem cuN_le (L : List Int) (i : Nat) : (cuN L i).a ≤ L.length := by
  induction i with
  | zero => exact Nat.zero_le _
  | succ i ih => exact numC_le ih
theorem num4_bd {L : List Int} (hb : bytesB L) (c : Cu) : 0 ≤ numV L 4 c ∧ numV L 4 c < 4294967296 := by
  unfold numV rawV rawL
  rw [show wideB 4 = true from rfl]
  cases rawOk c.e 4 (c.left L) with
  | false => simp [valI]
  | true =>
    simp only [cond_true]
    have h1 : bytesB ((L.drop c.a).take (4 : Int).toNat) := fun x hx => hb x (List.mem_of_mem_drop (List.mem_of_mem_take hx))
    have h2 := valI_lt h1
    have h3 : ((L.drop c.a).take (4 : Int).toNat).length ≤ 4 := by rw [List.length_take]; exact Nat.min_le_left _ _
    generalize (L.drop c.a).take (4 : Int).toNat = m at *
    have h4 : (256 : Int) ^ m.length ≤ 4294967296 := by
      obtain h | h | h | h | h : m.length = 0 ∨ m.length = 1 ∨ m.length = 2 ∨ m.length = 3 ∨ m.length = 4 := by omega
      all_goals (rw [h]; decide)
    omega
def zer : List Int := List.replicate 20 0
theorem zer_len : zer.length = 20 := by simp [zer]
def endE (L : List Int) : Int := (doneC L (cuN L 20)).e
def dcE (L : List Int) : Int := bif endE L == 0 then (bif right (vs L) then 0 else 14) else endE L
def dcL (L : List Int) : List Int := bif (endE L == 0) && right (vs L) then vs L else zer
theorem dcL_len (L : List Int) : (dcL L).length = 20 := by
  unfold dcL
  cases (endE L == 0) && right (vs L)
  · exact zer_len
  · exact vs_len L
theorem cuN_zero (L : List Int) : cuN L 0 = ⟨0, 0⟩ := rfl
theorem cuN_succ (L : List Int) (i : Nat) : numC L 4 (cuN L i) = cuN L (i + 1) := rfl
theorem vN_eq (L : List Int) (i : Nat) : numV L 4 (cuN L i) = vN L i := rfl
theorem zer_pre (l : List Int) : zer = pre l 0 := by rw [pre_zero]; rfl
theorem dc_err {L : List Int} (h : endE L ≠ 0) : dcE L = endE L ∧ dcL L = pre (vs L) 0 := by
  have h1 : (endE L == 0) = false := by simpa using h
  unfold dcE dcL
  rw [h1]
  exact ⟨rfl, zer_pre _⟩
theorem dc_no {L : List Int} (h : endE L = 0) (hr : right (vs L) = false) : dcE L = 14 ∧ dcL L = pre (vs L) 0 := by
  have h1 : (endE L == 0) = true := by simpa using h
  unfold dcE dcL
  rw [h1, hr]
  exact ⟨rfl, zer_pre _⟩
theorem dc_ok {L : List Int} (h : endE L = 0) (hr : right (vs L) = true) : dcE L = 0 ∧ dcL L = vs L := by
  have h1 : (endE L == 0) = true := by simpa using h
  unfold dcE dcL
  rw [h1, hr]
  exact ⟨rfl, rfl⟩
attribute [irreducible] cuN vN vs zer
/- quidnunc/setup.Decode -/
noncomputable def c46_1 : ACode := .region false [⟨some 2, .alloc (List.replicate 20 (.int .i64 0)), [], none⟩,
  ⟨some 3, .move, [.c (.val (.int .i64 0))], none⟩] [] [] [0, 2] true [] []
noncomputable def c46_3 : ACode := .region false [⟨some 9, .move, [.t 0], none⟩,
  ⟨some 10, .call 73, [.t 9], none⟩,
  ⟨some 4, .move, [.t 10], none⟩] [] [] [2, 4] true [] []
noncomputable def c46_5 : ACode := .region false [⟨some 5, .alloc (List.replicate 20 (.int .i64 0)), [], none⟩] [] [] [2, 4, 5] true [] []
noncomputable def c46_8 : ACode := .region false [⟨some 11, .move, [.c (.val (.int .i64 0))], none⟩] [] [] [2, 4, 5, 11] false [] []
noncomputable def c46_12 : ACode := .region false [⟨some 12, .bin .lss, [.t 11, .c (.val (.int .i64 20))], none⟩] [] [] [2, 4, 5, 11, 12] false [] []
noncomputable def c46_14 : ACode := .cond (.t 12) .skip (.exit 0)
noncomputable def c46_18 : ACode := .region false [⟨some 13, .move, [.t 11], none⟩,
  ⟨some 6, .move, [.t 13], none⟩] [] [] [2, 4, 5, 6, 11] false [] []
noncomputable def c46_19 : ACode := .region false [⟨some 14, .move, [.t 6], none⟩,
  ⟨some 15, .move, [.t 4], none⟩,
  ⟨some 16, .call 74, [.t 15, .c (.val (.int .i64 4))], none⟩,
  ⟨some 17, .conv .i64, [.t 16], none⟩,
  ⟨some 18, .ixA 20 1, [.t 5, .t 14], none⟩,
  ⟨none, .store 1, [.t 18, .t 17], none⟩] [] [] [2, 4, 5, 11] true [] []
noncomputable def c46_17 : ACode := .seq c46_18 c46_19
noncomputable def c46_16 : ACode := .block 1 c46_17
noncomputable def c46_20 : ACode := .region false [⟨some 19, .bin .add, [.t 11, .c (.val (.int .i64 1))], none⟩,
  ⟨some 11, .move, [.t 19], none⟩] [] [] [2, 4, 5, 11] false [] []
noncomputable def c46_15 : ACode := .seq c46_16 c46_20
noncomputable def c46_13 : ACode := .seq c46_14 c46_15
noncomputable def c46_11 : ACode := .seq c46_12 c46_13
noncomputable def c46_10 : ACode := .loop c46_11
noncomputable def c46_9 : ACode := .block 0 c46_10
noncomputable def c46_7 : ACode := .seq c46_8 c46_9
noncomputable def c46_23 : ACode := .region false [⟨some 20, .move, [.t 4], none⟩,
  ⟨some 21, .call 75, [.t 20], none⟩,
  ⟨some 7, .move, [.t 21], none⟩] [] [] [2, 5, 7] true [] []
noncomputable def c46_25 : ACode := .region false [⟨some 22, .move, [.t 7], none⟩,
  ⟨some 23, .bin .neq, [.t 22, .c (.val (.int .i64 0))], none⟩] [] [] [2, 5, 7, 23] false [] []
noncomputable def c46_28 : ACode := .region false [⟨some 24, .build (List.replicate 20 (.int .i64 0)) [], [], none⟩,
  ⟨some 25, .move, [.t 7], none⟩,
  ⟨none, .store 20, [.t 2, .t 24], none⟩,
  ⟨some 3, .move, [.t 25], none⟩] [] [] [2, 3] true [] []
noncomputable def c46_27 : ACode := .seq c46_28 .ret
noncomputable def c46_26 : ACode := .cond (.t 23) c46_27 .skip
noncomputable def c46_24 : ACode := .seq c46_25 c46_26
noncomputable def c46_22 : ACode := .seq c46_23 c46_24
noncomputable def c46_30 : ACode := .region false [⟨some 26, .load true 20, [.t 5], none⟩,
  ⟨some 27, .call 35, [.t 26], none⟩,
  ⟨some 8, .alloc (List.replicate 20 (.int .i64 0)), [], none⟩,
  ⟨none, .store 20, [.t 8, .t 27], none⟩] [] [] [2, 8] true [] []
noncomputable def c46_33 : ACode := .region false [⟨some 28, .load true 20, [.t 8], none⟩,
  ⟨some 29, .call 67, [.t 28], none⟩,
  ⟨some 30, .un .not, [.t 29], none⟩] [] [] [2, 8, 30] true [] []
noncomputable def c46_36 : ACode := .region false [⟨some 31, .build (List.replicate 20 (.int .i64 0)) [], [], none⟩,
  ⟨none, .store 20, [.t 2, .t 31], none⟩,
  ⟨some 3, .move, [.c (.val (.int .i64 14))], none⟩] [] [] [2, 3] true [] []
noncomputable def c46_35 : ACode := .seq c46_36 .ret
noncomputable def c46_34 : ACode := .cond (.t 30) c46_35 .skip
noncomputable def c46_32 : ACode := .seq c46_33 c46_34
noncomputable def c46_38 : ACode := .region false [⟨some 32, .load true 20, [.t 8], none⟩,
  ⟨none, .store 20, [.t 2, .t 32], none⟩,
  ⟨some 3, .move, [.c (.val (.int .i64 0))], none⟩] [] [] [2, 3] true [] []
noncomputable def c46_37 : ACode := .seq c46_38 .ret
noncomputable def c46_31 : ACode := .seq c46_32 c46_37
noncomputable def c46_29 : ACode := .seq c46_30 c46_31
noncomputable def c46_21 : ACode := .seq c46_22 c46_29
noncomputable def c46_6 : ACode := .seq c46_7 c46_21
noncomputable def c46_4 : ACode := .seq c46_5 c46_6
noncomputable def c46_2 : ACode := .seq c46_3 c46_4
noncomputable def c46_0 : ACode := .seq c46_1 c46_2
noncomputable def code46 : Code := (Try.f46.body).getD .skip
theorem c46_ok : compC Try.prog 33 code46 = some (strip c46_0) := by kernel_rfl
theorem res46_ok : Try.f46.results.toList.mapM (resC Try.prog) = some [(2, some (true, 20)), (3, none)] := by kernel_rfl
theorem decode_any {P : List AV} {o : Nat} {L : List Int} (sg : Seg P o L) (hb : bytesB L) : ACall Try.prog 46 [.sl 0 o L.length 1 none] [.cells true P] (Det (.tup [.agg (cI (dcL L)), I (dcE L)]) [.cells true P]) := by
  have hL := sg.small
  have hvl := vs_len L
  have hz := cI_zero
  rw [← pre_zero (vs L)] at hz
  have hz2 := cI_drop (pre_len hvl (Nat.zero_le 20))
  have hq0 : (cI (pre (vs L) 0)).length = 20 := by rw [cI_len]; exact pre_len hvl (by omega)
  have hzt := cI_take (pre_len hvl (Nat.zero_le 20))
  have hrd := read_any sg
  have hc0 := cuN_zero L
  refine ACall.startA c46_ok Try.func46 rfl Try.ntmps46 (by kernel_rfl) res46_ok rfl rfl rfl ?_; simp (maxSteps := 9999999) (disch := omega) only [go_sem]
  (repeat' (first | refine AWpA.seq ?_ | refine AWpA.block ?_ | (with_reducible refine CondP.tt ?_) | (with_reducible refine CondP.ff ?_) | refine AWpA.condv (by simp (maxSteps := 9999999) (disch := omega) only [go_sem, cI_ren, sg.ren, bA_ren, hz.symm]; rfl) ?_ | ((first | (apply AWpA.region; (focus (simp (maxSteps := 9999999) (disch := omega) only [go_sem, cI_ren, sg.ren, bA_ren, hz.symm]; rfl))) | (apply AWpA.draw [] follows; (focus (simp (maxSteps := 9999999) (disch := omega) only [go_sem, cI_ren, sg.ren, bA_ren, hz.symm]; rfl)); (focus (simp (maxSteps := 9999999) (disch := omega) only [go_sem, cI_ren, sg.ren, bA_ren, hz.symm]; first | done | trivial)); (focus (simp (maxSteps := 9999999) (disch := omega) only [go_sem, cI_ren, sg.ren, bA_ren, hz.symm]; rfl))) | (apply TailK.go; (focus (simp (maxSteps := 9999999) (disch := omega) only [go_sem, cI_ren, sg.ren, bA_ren, hz.symm]; rfl))) | refine AWpA.skip ?_ | refine AWpA.exit ?_ | refine AWpA.ret ?_ | (with_reducible refine ARoundsA.succ ?_) | ((first | refine Runs.kt (by assumption) (fun h9 => ?_) | refine Runs.kf (by assumption) (fun h9 => ?_) | refine Runs.nt (by assumption) (fun h9 => ?_) | refine Runs.nf (by assumption) (fun h9 => ?_) | refine CondP.ht (by assumption) (fun h9 => ?_) | refine CondP.hf (by assumption) (fun h9 => ?_) | refine CondP.nt (by assumption) (fun h9 => ?_) | refine CondP.nf (by assumption) (fun h9 => ?_)); (try simp only [h9]); clear h9) | ((first | (with_reducible apply CallG.plain1 [0] (hrd)) | (with_reducible apply CallG.draw1 [0] (hrd))); (focus ((try refine And.intro (leAs_of_eq rfl) ?_); (try refine And.intro (leOL_of_eq rfl) ?_); simp (maxSteps := 9999999) (disch := omega) only [go_sem, cI_ren, sg.ren, bA_ren, hz.symm]; first | done | (repeat' (first | rfl | (refine And.intro ?_ ?_))))); (focus (simp (maxSteps := 9999999) (disch := omega) only [go_sem, cI_ren, sg.ren, bA_ren, hz.symm]; rfl)))); (try simp (maxSteps := 9999999) (disch := omega) only [go_sem, cI_ren, sg.ren, bA_ren, hz.symm]); (try (refine And.intro ?_ ?_; (focus (first | omega | (simp only [go_sem]; done) | (simp; done) | (simp; omega) | assumption))))) | ((first | refine CondP.split (fun hif => ?_) (fun hif => ?_) | refine Runs.part (fun hif => ?_) (fun hif => ?_)) <;> ((try simp only [hif]); (try simp only [decide_eq_true_eq, decide_eq_false_iff_not, Bool.not_eq_true, Bool.not_eq_false, Bool.not_eq_true', Bool.not_eq_false', beq_iff_eq, bne_iff_ne, bne_eq_false_iff_eq, beq_eq_false_iff_ne, ne_eq, Bool.and_eq_true, Bool.or_eq_true, Bool.or_eq_false_iff] at hif); (try (have h9 : _ = true := hif; simp only [h9])); (try (have h9 : _ = false := hif; simp only [h9])); (try simp (maxSteps := 9999999) (disch := omega) only [go_sem, cI_ren, sg.ren, bA_ren, hz.symm]); (try (refine And.intro ?_ ?_; (focus (first | omega | (simp only [go_sem]; done) | (simp; done) | (simp; omega) | assumption)))); (try (exfalso; omega; done))))))
  (apply AWpA.loopL (fun i : Nat => [(2, .ptr 1 0), (4, .ptr 2 0), (5, .ptr 4 0), (11, I i)]) (fun i => [.cells true P, .cells false (cI (pre (vs L) 0)), RdO 3 (cuN L i).a L.length (cuN L i).e, .cells false (bA L), .cells false (cI (pre (vs L) i))]) (fun i => 20 - i) (fun i => i ≤ 20) (0) [0, 1, 49, 50, 81]; rotate_left; (focus (simp (maxSteps := 9999999) (disch := omega) only [go_sem, cI_ren, sg.ren, bA_ren, hc0]; (try (repeat' (first | done | trivial | rfl | exact leAs_rfl _ | decide | (refine And.intro ?_ ?_) | (simp; done) | omega | (simp; decide)))))); rotate_right)
  · exact Nat.zero_le _
  rintro i hi
  (try simp only at hi)
  have hp := pre_len hvl hi
  have hp2 := cI_len (pre (vs L) i)
  have hca := cuN_le L i
  by_cases hin : i < 20
  · have g1 : ((i : Int) < 20) = True := eq_true (by omega)
    have c1 := rnum_any hL hb (cuN L i) hca 4
    rw [cuN_succ, vN_eq] at c1
    have hvb := num4_bd hb (cuN L i)
    rw [vN_eq] at hvb
    have g4 := cI_put (pre (vs L) i) i ((vs L).getD i 0) (by omega)
    rw [pre_set hvl hin, vs_get L hin] at g4
    generalize vN L i = v at *
    generalize cuN L i = c at *
    generalize hcc : cuN L (i + 1) = c' at *
    (try simp (maxSteps := 9999999) (disch := omega) only [go_sem])
    (repeat' (first | refine AWpA.seq ?_ | refine AWpA.block ?_ | (with_reducible refine CondP.tt ?_) | (with_reducible refine CondP.ff ?_) | refine AWpA.condv (by simp (maxSteps := 9999999) (disch := omega) only [go_sem, g1, cI_ren, sg.ren, bA_ren, hp2, hp]; rfl) ?_ | ((first | (apply AWpA.region; (focus (simp (maxSteps := 9999999) (disch := omega) only [go_sem, g1, cI_ren, sg.ren, bA_ren, hp2, hp]; rfl))) | (apply AWpA.draw [] follows; (focus (simp (maxSteps := 9999999) (disch := omega) only [go_sem, g1, cI_ren, sg.ren, bA_ren, hp2, hp]; rfl)); (focus (simp (maxSteps := 9999999) (disch := omega) only [go_sem, g1, cI_ren, sg.ren, bA_ren, hp2, hp]; first | done | trivial)); (focus (simp (maxSteps := 9999999) (disch := omega) only [go_sem, g1, cI_ren, sg.ren, bA_ren, hp2, hp]; rfl))) | (apply TailK.go; (focus (simp (maxSteps := 9999999) (disch := omega) only [go_sem, g1, cI_ren, sg.ren, bA_ren, hp2, hp]; rfl))) | refine AWpA.skip ?_ | refine AWpA.exit ?_ | refine AWpA.ret ?_ | (with_reducible refine ARoundsA.succ ?_) | ((first | refine Runs.kt (by assumption) (fun h9 => ?_) | refine Runs.kf (by assumption) (fun h9 => ?_) | refine Runs.nt (by assumption) (fun h9 => ?_) | refine Runs.nf (by assumption) (fun h9 => ?_) | refine CondP.ht (by assumption) (fun h9 => ?_) | refine CondP.hf (by assumption) (fun h9 => ?_) | refine CondP.nt (by assumption) (fun h9 => ?_) | refine CondP.nf (by assumption) (fun h9 => ?_)); (try simp only [h9]); clear h9) | ((first | (with_reducible apply CallG.plain1 [2, 3] (c1)) | (with_reducible apply CallG.draw1 [2, 3] (c1))); (focus ((try refine And.intro (leAs_of_eq rfl) ?_); (try refine And.intro (leOL_of_eq rfl) ?_); simp (maxSteps := 9999999) (disch := omega) only [go_sem, g1, cI_ren, sg.ren, bA_ren, hp2, hp]; first | done | (repeat' (first | rfl | (refine And.intro ?_ ?_))))); (focus (simp (maxSteps := 9999999) (disch := omega) only [go_sem, g1, cI_ren, sg.ren, bA_ren, hp2, hp]; rfl)))); (try simp (maxSteps := 9999999) (disch := omega) only [go_sem, g1, cI_ren, sg.ren, bA_ren, hp2, hp]); (try (refine And.intro ?_ ?_; (focus (first | omega | (simp only [go_sem]; done) | (simp; done) | (simp; omega) | assumption))))) | ((first | refine CondP.split (fun hif => ?_) (fun hif => ?_) | refine Runs.part (fun hif => ?_) (fun hif => ?_)) <;> ((try simp only [hif]); (try simp only [decide_eq_true_eq, decide_eq_false_iff_not, Bool.not_eq_true, Bool.not_eq_false, Bool.not_eq_true', Bool.not_eq_false', beq_iff_eq, bne_iff_ne, bne_eq_false_iff_eq, beq_eq_false_iff_ne, ne_eq, Bool.and_eq_true, Bool.or_eq_true, Bool.or_eq_false_iff] at hif); (try (have h9 : _ = true := hif; simp only [h9])); (try (have h9 : _ = false := hif; simp only [h9])); (try simp (maxSteps := 9999999) (disch := omega) only [go_sem, g1, cI_ren, sg.ren, bA_ren, hp2, hp]); (try (refine And.intro ?_ ?_; (focus (first | omega | (simp only [go_sem]; done) | (simp; done) | (simp; omega) | assumption)))); (try (exfalso; omega; done))))))
    (apply Back.to (i + 1) [0, 1, 2, 3, 4]; (focus ((try simp (maxSteps := 9999999) (disch := omega) only [go_sem, g4, hcc, cI_ren, sg.ren, bA_ren]); first | done | omega)); rotate_left; (focus (simp (maxSteps := 9999999) (disch := omega) only [go_sem, g4, hcc, cI_ren, sg.ren, bA_ren]; (try (repeat' (first | done | trivial | rfl | exact leAs_rfl _ | decide | (refine And.intro ?_ ?_) | (simp; done) | omega | (simp; decide)))))))
    omega
  · obtain rfl : i = 20 := by omega
    have c1 := rdone_any L (cuN L 20)
    rw [show (doneC L (cuN L 20)).e = endE L from rfl] at c1
    have hvt := cI_take hvl
    have hvc := cI_len (vs L)
    rw [pre_all hvl]
    by_cases he : endE L = 0
    · have g1 : (endE L != 0) = false := by rw [he]; rfl
      have c3 := right_any (vs L) hvl
      rw [he] at c1
      cases hr : right (vs L)
      · obtain ⟨e1, e2⟩ := dc_no he hr
        rw [e1, e2]
        rw [hr] at c3
        (try simp (maxSteps := 9999999) (disch := omega) only [go_sem])
        (repeat' (first | refine AWpA.seq ?_ | refine AWpA.block ?_ | (with_reducible refine CondP.tt ?_) | (with_reducible refine CondP.ff ?_) | refine AWpA.condv (by simp (maxSteps := 9999999) (disch := omega) only [go_sem, g1, cI_ren, sg.ren, bA_ren, hq0, hz.symm, hz2, hvt, hvc, hvl]; rfl) ?_ | ((first | (apply AWpA.region; (focus (simp (maxSteps := 9999999) (disch := omega) only [go_sem, g1, cI_ren, sg.ren, bA_ren, hq0, hz.symm, hz2, hvt, hvc, hvl]; rfl))) | (apply AWpA.draw [] follows; (focus (simp (maxSteps := 9999999) (disch := omega) only [go_sem, g1, cI_ren, sg.ren, bA_ren, hq0, hz.symm, hz2, hvt, hvc, hvl]; rfl)); (focus (simp (maxSteps := 9999999) (disch := omega) only [go_sem, g1, cI_ren, sg.ren, bA_ren, hq0, hz.symm, hz2, hvt, hvc, hvl]; first | done | trivial)); (focus (simp (maxSteps := 9999999) (disch := omega) only [go_sem, g1, cI_ren, sg.ren, bA_ren, hq0, hz.symm, hz2, hvt, hvc, hvl]; rfl))) | (apply TailK.go; (focus (simp (maxSteps := 9999999) (disch := omega) only [go_sem, g1, cI_ren, sg.ren, bA_ren, hq0, hz.symm, hz2, hvt, hvc, hvl]; rfl))) | refine AWpA.skip ?_ | refine AWpA.exit ?_ | refine AWpA.ret ?_ | (with_reducible refine ARoundsA.succ ?_) | ((first | refine Runs.kt (by assumption) (fun h9 => ?_) | refine Runs.kf (by assumption) (fun h9 => ?_) | refine Runs.nt (by assumption) (fun h9 => ?_) | refine Runs.nf (by assumption) (fun h9 => ?_) | refine CondP.ht (by assumption) (fun h9 => ?_) | refine CondP.hf (by assumption) (fun h9 => ?_) | refine CondP.nt (by assumption) (fun h9 => ?_) | refine CondP.nf (by assumption) (fun h9 => ?_)); (try simp only [h9]); clear h9) | ((first | (with_reducible apply CallG.plain1 [2, 3] (c1)) | (with_reducible apply CallG.plain1 [] (of_any (vs L) hvl)) | (with_reducible apply CallG.plain1 [] (c3)) | (with_reducible apply CallG.draw1 [2, 3] (c1)) | (with_reducible apply CallG.draw1 [] (of_any (vs L) hvl)) | (with_reducible apply CallG.draw1 [] (c3))); (focus ((try refine And.intro (leAs_of_eq rfl) ?_); (try refine And.intro (leOL_of_eq rfl) ?_); simp (maxSteps := 9999999) (disch := omega) only [go_sem, g1, cI_ren, sg.ren, bA_ren, hq0, hz.symm, hz2, hvt, hvc, hvl]; first | done | (repeat' (first | rfl | (refine And.intro ?_ ?_))))); (focus (simp (maxSteps := 9999999) (disch := omega) only [go_sem, g1, cI_ren, sg.ren, bA_ren, hq0, hz.symm, hz2, hvt, hvc, hvl]; rfl)))); (try simp (maxSteps := 9999999) (disch := omega) only [go_sem, g1, cI_ren, sg.ren, bA_ren, hq0, hz.symm, hz2, hvt, hvc, hvl]); (try (refine And.intro ?_ ?_; (focus (first | omega | (simp only [go_sem]; done) | (simp; done) | (simp; omega) | assumption))))) | ((first | refine CondP.split (fun hif => ?_) (fun hif => ?_) | refine Runs.part (fun hif => ?_) (fun hif => ?_)) <;> ((try simp only [hif]); (try simp only [decide_eq_true_eq, decide_eq_false_iff_not, Bool.not_eq_true, Bool.not_eq_false, Bool.not_eq_true', Bool.not_eq_false', beq_iff_eq, bne_iff_ne, bne_eq_false_iff_eq, beq_eq_false_iff_ne, ne_eq, Bool.and_eq_true, Bool.or_eq_true, Bool.or_eq_false_iff] at hif); (try (have h9 : _ = true := hif; simp only [h9])); (try (have h9 : _ = false := hif; simp only [h9])); (try simp (maxSteps := 9999999) (disch := omega) only [go_sem, g1, cI_ren, sg.ren, bA_ren, hq0, hz.symm, hz2, hvt, hvc, hvl]); (try (refine And.intro ?_ ?_; (focus (first | omega | (simp only [go_sem]; done) | (simp; done) | (simp; omega) | assumption)))); (try (exfalso; omega; done))))))
        (apply Ret.det [0]; (focus (first | exact .inl rfl | exact .inr rfl)); (focus (simp (maxSteps := 9999999) (disch := omega) only [go_sem, cI_ren, sg.ren, hq0, hvc, hvl, hz2, hvt, hzt]; rfl)); (simp (maxSteps := 9999999) (disch := omega) only [go_sem, cI_ren, sg.ren, hq0, hvc, hvl, hz2, hvt, hzt]; (try (repeat' (first | done | trivial | rfl | exact leAs_rfl _ | decide | (refine And.intro ?_ ?_) | (simp; done) | omega | (simp; decide))))))
      · obtain ⟨e1, e2⟩ := dc_ok he hr
        rw [e1, e2]
        rw [hr] at c3
        (try simp (maxSteps := 9999999) (disch := omega) only [go_sem])
        (repeat' (first | refine AWpA.seq ?_ | refine AWpA.block ?_ | (with_reducible refine CondP.tt ?_) | (with_reducible refine CondP.ff ?_) | refine AWpA.condv (by simp (maxSteps := 9999999) (disch := omega) only [go_sem, g1, cI_ren, sg.ren, bA_ren, hq0, hz.symm, hz2, hvt, hvc, hvl]; rfl) ?_ | ((first | (apply AWpA.region; (focus (simp (maxSteps := 9999999) (disch := omega) only [go_sem, g1, cI_ren, sg.ren, bA_ren, hq0, hz.symm, hz2, hvt, hvc, hvl]; rfl))) | (apply AWpA.draw [] follows; (focus (simp (maxSteps := 9999999) (disch := omega) only [go_sem, g1, cI_ren, sg.ren, bA_ren, hq0, hz.symm, hz2, hvt, hvc, hvl]; rfl)); (focus (simp (maxSteps := 9999999) (disch := omega) only [go_sem, g1, cI_ren, sg.ren, bA_ren, hq0, hz.symm, hz2, hvt, hvc, hvl]; first | done | trivial)); (focus (simp (maxSteps := 9999999) (disch := omega) only [go_sem, g1, cI_ren, sg.ren, bA_ren, hq0, hz.symm, hz2, hvt, hvc, hvl]; rfl))) | (apply TailK.go; (focus (simp (maxSteps := 9999999) (disch := omega) only [go_sem, g1, cI_ren, sg.ren, bA_ren, hq0, hz.symm, hz2, hvt, hvc, hvl]; rfl))) | refine AWpA.skip ?_ | refine AWpA.exit ?_ | refine AWpA.ret ?_ | (with_reducible refine ARoundsA.succ ?_) | ((first | refine Runs.kt (by assumption) (fun h9 => ?_) | refine Runs.kf (by assumption) (fun h9 => ?_) | refine Runs.nt (by assumption) (fun h9 => ?_) | refine Runs.nf (by assumption) (fun h9 => ?_) | refine CondP.ht (by assumption) (fun h9 => ?_) | refine CondP.hf (by assumption) (fun h9 => ?_) | refine CondP.nt (by assumption) (fun h9 => ?_) | refine CondP.nf (by assumption) (fun h9 => ?_)); (try simp only [h9]); clear h9) | ((first | (with_reducible apply CallG.plain1 [2, 3] (c1)) | (with_reducible apply CallG.plain1 [] (of_any (vs L) hvl)) | (with_reducible apply CallG.plain1 [] (c3)) | (with_reducible apply CallG.draw1 [2, 3] (c1)) | (with_reducible apply CallG.draw1 [] (of_any (vs L) hvl)) | (with_reducible apply CallG.draw1 [] (c3))); (focus ((try refine And.intro (leAs_of_eq rfl) ?_); (try refine And.intro (leOL_of_eq rfl) ?_); simp (maxSteps := 9999999) (disch := omega) only [go_sem, g1, cI_ren, sg.ren, bA_ren, hq0, hz.symm, hz2, hvt, hvc, hvl]; first | done | (repeat' (first | rfl | (refine And.intro ?_ ?_))))); (focus (simp (maxSteps := 9999999) (disch := omega) only [go_sem, g1, cI_ren, sg.ren, bA_ren, hq0, hz.symm, hz2, hvt, hvc, hvl]; rfl)))); (try simp (maxSteps := 9999999) (disch := omega) only [go_sem, g1, cI_ren, sg.ren, bA_ren, hq0, hz.symm, hz2, hvt, hvc, hvl]); (try (refine And.intro ?_ ?_; (focus (first | omega | (simp only [go_sem]; done) | (simp; done) | (simp; omega) | assumption))))) | ((first | refine CondP.split (fun hif => ?_) (fun hif => ?_) | refine Runs.part (fun hif => ?_) (fun hif => ?_)) <;> ((try simp only [hif]); (try simp only [decide_eq_true_eq, decide_eq_false_iff_not, Bool.not_eq_true, Bool.not_eq_false, Bool.not_eq_true', Bool.not_eq_false', beq_iff_eq, bne_iff_ne, bne_eq_false_iff_eq, beq_eq_false_iff_ne, ne_eq, Bool.and_eq_true, Bool.or_eq_true, Bool.or_eq_false_iff] at hif); (try (have h9 : _ = true := hif; simp only [h9])); (try (have h9 : _ = false := hif; simp only [h9])); (try simp (maxSteps := 9999999) (disch := omega) only [go_sem, g1, cI_ren, sg.ren, bA_ren, hq0, hz.symm, hz2, hvt, hvc, hvl]); (try (refine And.intro ?_ ?_; (focus (first | omega | (simp only [go_sem]; done) | (simp; done) | (simp; omega) | assumption)))); (try (exfalso; omega; done))))))
        (apply Ret.det [0]; (focus (first | exact .inl rfl | exact .inr rfl)); (focus (simp (maxSteps := 9999999) (disch := omega) only [go_sem, cI_ren, sg.ren, hq0, hvc, hvl, hz2, hvt, hzt]; rfl)); (simp (maxSteps := 9999999) (disch := omega) only [go_sem, cI_ren, sg.ren, hq0, hvc, hvl, hz2, hvt, hzt]; (try (repeat' (first | done | trivial | rfl | exact leAs_rfl _ | decide | (refine And.intro ?_ ?_) | (simp; done) | omega | (simp; decide))))))
    · obtain ⟨e1, e2⟩ := dc_err he
      have g1 : (endE L != 0) = true := by rw [bne_iff_ne]; exact he
      rw [e1, e2]
      generalize endE L = en at *
      (try simp (maxSteps := 9999999) (disch := omega) only [go_sem])
      (repeat' (first | refine AWpA.seq ?_ | refine AWpA.block ?_ | (with_reducible refine CondP.tt ?_) | (with_reducible refine CondP.ff ?_) | refine AWpA.condv (by simp (maxSteps := 9999999) (disch := omega) only [go_sem, g1, cI_ren, sg.ren, bA_ren, hq0, hz.symm, hz2, hvt, hvc, hvl]; rfl) ?_ | ((first | (apply AWpA.region; (focus (simp (maxSteps := 9999999) (disch := omega) only [go_sem, g1, cI_ren, sg.ren, bA_ren, hq0, hz.symm, hz2, hvt, hvc, hvl]; rfl))) | (apply AWpA.draw [] follows; (focus (simp (maxSteps := 9999999) (disch := omega) only [go_sem, g1, cI_ren, sg.ren, bA_ren, hq0, hz.symm, hz2, hvt, hvc, hvl]; rfl)); (focus (simp (maxSteps := 9999999) (disch := omega) only [go_sem, g1, cI_ren, sg.ren, bA_ren, hq0, hz.symm, hz2, hvt, hvc, hvl]; first | done | trivial)); (focus (simp (maxSteps := 9999999) (disch := omega) only [go_sem, g1, cI_ren, sg.ren, bA_ren, hq0, hz.symm, hz2, hvt, hvc, hvl]; rfl))) | (apply TailK.go; (focus (simp (maxSteps := 9999999) (disch := omega) only [go_sem, g1, cI_ren, sg.ren, bA_ren, hq0, hz.symm, hz2, hvt, hvc, hvl]; rfl))) | refine AWpA.skip ?_ | refine AWpA.exit ?_ | refine AWpA.ret ?_ | (with_reducible refine ARoundsA.succ ?_) | ((first | refine Runs.kt (by assumption) (fun h9 => ?_) | refine Runs.kf (by assumption) (fun h9 => ?_) | refine Runs.nt (by assumption) (fun h9 => ?_) | refine Runs.nf (by assumption) (fun h9 => ?_) | refine CondP.ht (by assumption) (fun h9 => ?_) | refine CondP.hf (by assumption) (fun h9 => ?_) | refine CondP.nt (by assumption) (fun h9 => ?_) | refine CondP.nf (by assumption) (fun h9 => ?_)); (try simp only [h9]); clear h9) | ((first | (with_reducible apply CallG.plain1 [2, 3] (c1)) | (with_reducible apply CallG.draw1 [2, 3] (c1))); (focus ((try refine And.intro (leAs_of_eq rfl) ?_); (try refine And.intro (leOL_of_eq rfl) ?_); simp (maxSteps := 9999999) (disch := omega) only [go_sem, g1, cI_ren, sg.ren, bA_ren, hq0, hz.symm, hz2, hvt, hvc, hvl]; first | done | (repeat' (first | rfl | (refine And.intro ?_ ?_))))); (focus (simp (maxSteps := 9999999) (disch := omega) only [go_sem, g1, cI_ren, sg.ren, bA_ren, hq0, hz.symm, hz2, hvt, hvc, hvl]; rfl)))); (try simp (maxSteps := 9999999) (disch := omega) only [go_sem, g1, cI_ren, sg.ren, bA_ren, hq0, hz.symm, hz2, hvt, hvc, hvl]); (try (refine And.intro ?_ ?_; (focus (first | omega | (simp only [go_sem]; done) | (simp; done) | (simp; omega) | assumption))))) | ((first | refine CondP.split (fun hif => ?_) (fun hif => ?_) | refine Runs.part (fun hif => ?_) (fun hif => ?_)) <;> ((try simp only [hif]); (try simp only [decide_eq_true_eq, decide_eq_false_iff_not, Bool.not_eq_true, Bool.not_eq_false, Bool.not_eq_true', Bool.not_eq_false', beq_iff_eq, bne_iff_ne, bne_eq_false_iff_eq, beq_eq_false_iff_ne, ne_eq, Bool.and_eq_true, Bool.or_eq_true, Bool.or_eq_false_iff] at hif); (try (have h9 : _ = true := hif; simp only [h9])); (try (have h9 : _ = false := hif; simp only [h9])); (try simp (maxSteps := 9999999) (disch := omega) only [go_sem, g1, cI_ren, sg.ren, bA_ren, hq0, hz.symm, hz2, hvt, hvc, hvl]); (try (refine And.intro ?_ ?_; (focus (first | omega | (simp only [go_sem]; done) | (simp; done) | (simp; omega) | assumption)))); (try (exfalso; omega; done))))))
      (apply Ret.det [0]; (focus (first | exact .inl rfl | exact .inr rfl)); (focus (simp (maxSteps := 9999999) (disch := omega) only [go_sem, cI_ren, sg.ren, hq0, hvc, hvl, hz2, hvt, hzt]; rfl)); (simp (maxSteps := 9999999) (disch := omega) only [go_sem, cI_ren, sg.ren, hq0, hvc, hvl, hz2, hvt, hzt]; (try (repeat' (first | done | trivial | rfl | exact leAs_rfl _ | decide | (refine And.intro ?_ ?_) | (simp; done) | omega | (simp; decide))))))
end Go.Proofs.Ytkdikmfnchmphaa
