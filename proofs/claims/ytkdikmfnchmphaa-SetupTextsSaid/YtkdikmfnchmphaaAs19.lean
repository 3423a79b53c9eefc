/- Contracts: Encode, the program's and the document's; what is read back. -/
import Derived.Test.YtkdikmfnchmphaaAs16
namespace Go.Proofs.Ytkdikmfnchmphaa
set_option linter.unusedSimpArgs false
set_option linter.unusedVariables false
set_option maxHeartbeats 4000000
open Go Go.Am Go.RowKit Go.Setup
set_option linter.unusedSimpArgs false
set_option maxHeartbeats 4000000
set_option maxRecDepth 100000
theorem right_nn {l : List Int} (h : right l = true) : ∀ i, i < 20 → 0 ≤ l.getD i 0 ∧ l.getD i 0 ≤ 2147483647 := by
  have a := right_all h
  have a0 := a 0 (by omega)
  have a3 := a 3 (by omega)
  have a7 := a 7 (by omega)
  have a10 := a 10 (by omega)
  simp only [lo, hi] at a0 a3 a7 a10
  intro i hi20
  have b := a i hi20
  revert b
  revert hi20
  revert i
  refine cases20 (p := fun i => lo l i ≤ l.getD i 0 ∧ l.getD i 0 ≤ hi l i → 0 ≤ l.getD i 0 ∧ l.getD i 0 ≤ 2147483647) ?_
  refine ⟨?_, ?_, ?_, ?_, ?_, ?_, ?_, ?_, ?_, ?_, ?_, ?_, ?_, ?_, ?_, ?_, ?_, ?_, ?_, ?_⟩ <;> (simp only [lo, hi]; intro b; first | omega | (split at b <;> omega))
/-- The bytes of the first numbers. -/
def eN (l : List Int) : Nat → List Int
  | 0 => []
  | i + 1 => eN l i ++ leI (l.getD i 0) 4
theorem eN_len (l : List Int) (i : Nat) : (eN l i).length = 4 * i := by
  induction i with
  | zero => rfl
  | succ i ih => simp only [eN, List.length_append, ih, leI_len]; omega
theorem eN_bytes (l : List Int) (i : Nat) : bytesB (eN l i) := by
  induction i with
  | zero => intro x hx; cases hx
  | succ i ih =>
    intro x hx
    rcases List.mem_append.1 hx with hx | hx
    · exact ih x hx
    · exact leI_bytes _ 4 x hx
theorem eN_at (l : List Int) (k i : Nat) (h : i < k) : ((eN l k).drop (4 * i)).take 4 = leI (l.getD i 0) 4 := by
  induction k with
  | zero => omega
  | succ k ih =>
    have hl := eN_len l k
    simp only [eN]
    rcases Nat.lt_or_eq_of_le (Nat.le_of_lt_succ h) with h1 | rfl
    · rw [List.drop_append_of_le_length (by omega), List.take_append_of_le_length (by rw [List.length_drop]; omega)]
      exact ih h1
    · rw [List.drop_append_of_le_length (by omega), List.drop_of_length_le (by omega), List.nil_append]
      exact List.take_of_length_le (by rw [leI_len]; omega)
theorem cuN_en (l : List Int) (i : Nat) (h : i ≤ 20) : cuN (eN l 20) i = ⟨4 * i, 0⟩ := by
  have hl := eN_len l 20
  induction i with
  | zero => rw [cuN_zero]
  | succ i ih =>
    rw [← cuN_succ, ih (by omega)]
    have hr : rawOk 0 4 (((eN l 20).length - 4 * i : Nat) : Int) = true := by
      unfold rawOk
      rw [hl]
      simp
      omega
    obtain ⟨_, _, _, h4, h5, _⟩ := rawOk_yes hr
    unfold numC rawC
    rw [show wideB 4 = true from rfl]
    simp only [cond_true, Cu.left, h4, h5, Cu.mk.injEq, and_true]
    simp
    omega
theorem vs_en {l : List Int} (hl : l.length = 20) (h : right l = true) : vs (eN l 20) = l := by
  have hle := eN_len l 20
  apply List.ext_getElem?
  intro i
  by_cases hi : i < 20
  · have e1 := vs_get (eN l 20) hi
    have hvl := vs_len (eN l 20)
    have e2 : vN (eN l 20) i = l.getD i 0 := by
      rw [← vN_eq, cuN_en l i (by omega)]
      have hr : rawOk 0 4 (((eN l 20).length - 4 * i : Nat) : Int) = true := by
        unfold rawOk
        rw [hle]
        simp
        omega
      obtain ⟨_, _, _, _, _, h6⟩ := rawOk_yes hr
      unfold numV rawV
      rw [show wideB 4 = true from rfl]
      simp only [cond_true, Cu.left, h6]
      rw [show (4 : Int).toNat = 4 from rfl, eN_at l 20 i hi]
      have hn := right_nn h i hi
      rw [valI_leI _ hn.1 4 (by decide)]
      exact Int.emod_eq_of_lt hn.1 (by omega)
    rw [e2] at e1
    rw [List.getD_eq_getElem?_getD, List.getD_eq_getElem?_getD, List.getElem?_eq_getElem (by omega), List.getElem?_eq_getElem (by omega)] at e1
    rw [List.getElem?_eq_getElem (by omega), List.getElem?_eq_getElem (by omega)]
    simpa using e1
  · rw [List.getElem?_eq_none (by rw [vs_len]; omega), List.getElem?_eq_none (by omega)]
theorem dc_en {l : List Int} (hl : l.length = 20) (h : right l = true) : dcE (eN l 20) = 0 ∧ dcL (eN l 20) = l := by
  have e := vs_en hl h
  have he : endE (eN l 20) = 0 := by
    unfold endE doneC
    rw [cuN_en l 20 (by omega)]
    simp only
    rw [eN_len]
    rfl
  have := dc_ok he (by rw [e]; exact h)
  rw [e] at this
  exact this
theorem numL_ok4 {v : Int} (h0 : 0 ≤ v) (h1 : v < 4294967296) (l : List Int) : numL v 4 0 l = l ++ leI v 4 ∧ numE v 4 0 = 0 := by
  have hw : wideB 4 = true := rfl
  have hf : fitsI v 4 = true := by
    have := fitsI_eq v 4
    rw [show ((4 : Nat) : Int) = 4 from rfl] at this
    rw [this, Int.ediv_eq_zero_of_lt h0 (by simpa using h1)]; rfl
  unfold numL numE
  rw [hw, hf]
  exact ⟨by simp [wput], rfl⟩
attribute [irreducible] eN
theorem eN_zero (l : List Int) : eN l 0 = [] := by unfold eN; rfl
theorem eN_succ (l : List Int) (i : Nat) : eN l i ++ leI (l.getD i 0) 4 = eN l (i + 1) := by rw [eN]
/- quidnunc/setup.Encode -/
noncomputable def c61_1 : ACode := .region false [⟨some 1, .box 0, [.t 0], none⟩,
  ⟨some 2, .move, [.c (.val (.slice none 0 0))], none⟩,
  ⟨some 3, .move, [.c (.val (.int .i64 0))], none⟩] [] [] [1] true [] []
noncomputable def c61_4 : ACode := .region false [⟨some 7, .load true 20, [.t 1], none⟩,
  ⟨some 8, .call 67, [.t 7], none⟩,
  ⟨some 9, .un .not, [.t 8], none⟩] [] [] [1, 9] true [] []
noncomputable def c61_7 : ACode := .region false [⟨some 2, .move, [.c (.val (.slice none 0 0))], none⟩,
  ⟨some 3, .move, [.c (.val (.int .i64 14))], none⟩] [] [] [2, 3] false [] []
noncomputable def c61_6 : ACode := .seq c61_7 .ret
noncomputable def c61_5 : ACode := .cond (.t 9) c61_6 .skip
noncomputable def c61_3 : ACode := .seq c61_4 c61_5
noncomputable def c61_9 : ACode := .region false [⟨some 4, .alloc [(.slice none 0 0), (.int .i64 0)], [], none⟩] [] [] [1, 4] true [] []
noncomputable def c61_12 : ACode := .region false [⟨some 10, .load true 20, [.t 1], none⟩,
  ⟨some 11, .call 33, [.t 10], none⟩,
  ⟨some 12, .move, [.c (.val (.int .i64 0))], none⟩] [] [] [4, 11, 12] true [] []
noncomputable def c61_16 : ACode := .region false [⟨some 13, .bin .lss, [.t 12, .c (.val (.int .i64 20))], none⟩] [] [] [4, 11, 12, 13] false [] []
noncomputable def c61_18 : ACode := .cond (.t 13) .skip (.exit 0)
noncomputable def c61_22 : ACode := .region false [⟨some 14, .ixV false 20 1, [.t 11, .t 12], none⟩,
  ⟨some 6, .move, [.t 14], none⟩] [] [] [4, 6, 11, 12] false [] []
noncomputable def c61_23 : ACode := .region false [⟨some 15, .move, [.t 6], none⟩,
  ⟨some 16, .conv .u64, [.t 15], none⟩,
  ⟨some 17, .call 84, [.t 4, .t 16, .c (.val (.int .i64 4))], none⟩] [] [] [4, 11, 12] true [] []
noncomputable def c61_21 : ACode := .seq c61_22 c61_23
noncomputable def c61_20 : ACode := .block 1 c61_21
noncomputable def c61_24 : ACode := .region false [⟨some 18, .bin .add, [.t 12, .c (.val (.int .i64 1))], none⟩,
  ⟨some 12, .move, [.t 18], none⟩] [] [] [4, 11, 12] false [] []
noncomputable def c61_19 : ACode := .seq c61_20 c61_24
noncomputable def c61_17 : ACode := .seq c61_18 c61_19
noncomputable def c61_15 : ACode := .seq c61_16 c61_17
noncomputable def c61_14 : ACode := .loop c61_15
noncomputable def c61_13 : ACode := .block 0 c61_14
noncomputable def c61_11 : ACode := .seq c61_12 c61_13
noncomputable def c61_26 : ACode := .region false [⟨some 19, .call 85, [.t 4], none⟩,
  ⟨some 20, .call 86, [.t 4], none⟩,
  ⟨some 2, .move, [.t 19], none⟩,
  ⟨some 3, .move, [.t 20], none⟩] [] [] [2, 3] true [] []
noncomputable def c61_25 : ACode := .seq c61_26 .ret
noncomputable def c61_10 : ACode := .seq c61_11 c61_25
noncomputable def c61_8 : ACode := .seq c61_9 c61_10
noncomputable def c61_2 : ACode := .seq c61_3 c61_8
noncomputable def c61_0 : ACode := .seq c61_1 c61_2
noncomputable def code61 : Code := (Try.f61.body).getD .skip
theorem c61_ok : compC Try.prog 21 code61 = some (strip c61_0) := by kernel_rfl
theorem res61_ok : Try.f61.results.toList.mapM (resC Try.prog) = some [(2, none), (3, none)] := by kernel_rfl
/- quidnunc/quidnuncref13.Encode -/
noncomputable def c62_1 : ACode := .region false [⟨some 1, .box 0, [.t 0], none⟩,
  ⟨some 2, .move, [.c (.val (.slice none 0 0))], none⟩] [] [] [1] true [] []
noncomputable def c62_3 : ACode := .region false [⟨some 7, .buildSl 1 0 [(.int .u8 0)] [], [], none⟩,
  ⟨some 3, .move, [.t 7], none⟩] [] [] [1, 3] true [] []
noncomputable def c62_6 : ACode := .region false [⟨some 4, .move, [.c (.val (.int .i64 0))], none⟩] [] [] [1, 3, 4] false [] []
noncomputable def c62_11 : ACode := .region false [⟨some 8, .move, [.t 4], none⟩,
  ⟨some 9, .bin .lss, [.t 8, .c (.val (.int .i64 20))], none⟩] [] [] [1, 3, 4, 9] false [] []
noncomputable def c62_12 : ACode := .cond (.t 9) .skip (.exit 0)
noncomputable def c62_10 : ACode := .seq c62_11 c62_12
noncomputable def c62_16 : ACode := .region false [⟨some 13, .move, [.t 4], none⟩,
  ⟨some 14, .ixA 20 1, [.t 1, .t 13], none⟩,
  ⟨some 15, .load false 1, [.t 14], none⟩,
  ⟨some 16, .conv .u64, [.t 15], none⟩,
  ⟨some 17, .call 87, [.t 16, .c (.val (.int .i64 4))], none⟩,
  ⟨some 12, .move, [.t 17], none⟩,
  ⟨some 18, .ext 0, [.t 12], none⟩,
  ⟨some 19, .ext 1, [.t 12], none⟩,
  ⟨some 5, .move, [.t 18], none⟩,
  ⟨some 6, .move, [.t 19], none⟩] [] [] [1, 3, 4, 5] true [] []
noncomputable def c62_17 : ACode := .region false [⟨some 20, .move, [.t 3], none⟩,
  ⟨some 21, .move, [.t 5], none⟩,
  ⟨some 22, .append 1 1 false, [.t 20, .t 21], none⟩,
  ⟨some 3, .move, [.t 22], none⟩] [] [] [1, 3, 4] true [] []
noncomputable def c62_15 : ACode := .seq c62_16 c62_17
noncomputable def c62_14 : ACode := .block 1 c62_15
noncomputable def c62_18 : ACode := .region false [⟨some 10, .move, [.t 4], none⟩,
  ⟨some 11, .bin .add, [.t 10, .c (.val (.int .i64 1))], none⟩,
  ⟨some 4, .move, [.t 11], none⟩] [] [] [1, 3, 4] false [] []
noncomputable def c62_13 : ACode := .seq c62_14 c62_18
noncomputable def c62_9 : ACode := .seq c62_10 c62_13
noncomputable def c62_8 : ACode := .loop c62_9
noncomputable def c62_7 : ACode := .block 0 c62_8
noncomputable def c62_5 : ACode := .seq c62_6 c62_7
noncomputable def c62_20 : ACode := .region false [⟨some 23, .move, [.t 3], none⟩,
  ⟨some 2, .move, [.t 23], none⟩] [] [] [2] false [] []
noncomputable def c62_19 : ACode := .seq c62_20 .ret
noncomputable def c62_4 : ACode := .seq c62_5 c62_19
noncomputable def c62_2 : ACode := .seq c62_3 c62_4
noncomputable def c62_0 : ACode := .seq c62_1 c62_2
noncomputable def code62 : Code := (Try.f62.body).getD .skip
theorem c62_ok : compC Try.prog 24 code62 = some (strip c62_0) := by kernel_rfl
theorem res62_ok : Try.f62.results.toList.mapM (resC Try.prog) = some [(2, none)] := by kernel_rfl
theorem encode_no (l : List Int) (hl : l.length = 20) (h : right l = false) : ACall Try.prog 61 [.agg (cI l)] [] (Det (.tup [.val (.slice none 0 0), I 14]) []) := by
  have hc := cI_len l
  have ht := cI_take hl
  have hr := right_any l hl
  rw [h] at hr
  refine ACall.startA c61_ok Try.func61 rfl Try.ntmps61 (by kernel_rfl) res61_ok rfl rfl rfl ?_; simp (maxSteps := 9999999) (disch := omega) only [go_sem]
  (repeat' (first | refine AWpA.seq ?_ | refine AWpA.block ?_ | (with_reducible refine CondP.tt ?_) | (with_reducible refine CondP.ff ?_) | refine AWpA.condv (by simp (maxSteps := 9999999) (disch := omega) only [go_sem, cI_ren, hc, hl, ht]; rfl) ?_ | ((first | (apply AWpA.region; (focus (simp (maxSteps := 9999999) (disch := omega) only [go_sem, cI_ren, hc, hl, ht]; rfl))) | (apply AWpA.draw [] follows; (focus (simp (maxSteps := 9999999) (disch := omega) only [go_sem, cI_ren, hc, hl, ht]; rfl)); (focus (simp (maxSteps := 9999999) (disch := omega) only [go_sem, cI_ren, hc, hl, ht]; first | done | trivial)); (focus (simp (maxSteps := 9999999) (disch := omega) only [go_sem, cI_ren, hc, hl, ht]; rfl))) | (apply TailK.go; (focus (simp (maxSteps := 9999999) (disch := omega) only [go_sem, cI_ren, hc, hl, ht]; rfl))) | refine AWpA.skip ?_ | refine AWpA.exit ?_ | refine AWpA.ret ?_ | (with_reducible refine ARoundsA.succ ?_) | ((first | refine Runs.kt (by assumption) (fun h9 => ?_) | refine Runs.kf (by assumption) (fun h9 => ?_) | refine Runs.nt (by assumption) (fun h9 => ?_) | refine Runs.nf (by assumption) (fun h9 => ?_) | refine CondP.ht (by assumption) (fun h9 => ?_) | refine CondP.hf (by assumption) (fun h9 => ?_) | refine CondP.nt (by assumption) (fun h9 => ?_) | refine CondP.nf (by assumption) (fun h9 => ?_)); (try simp only [h9]); clear h9) | ((first | (with_reducible apply CallG.plain1 [] (hr)) | (with_reducible apply CallG.draw1 [] (hr))); (focus ((try refine And.intro (leAs_of_eq rfl) ?_); (try refine And.intro (leOL_of_eq rfl) ?_); simp (maxSteps := 9999999) (disch := omega) only [go_sem, cI_ren, hc, hl, ht]; first | done | (repeat' (first | rfl | (refine And.intro ?_ ?_))))); (focus (simp (maxSteps := 9999999) (disch := omega) only [go_sem, cI_ren, hc, hl, ht]; rfl)))); (try simp (maxSteps := 9999999) (disch := omega) only [go_sem, cI_ren, hc, hl, ht]); (try (refine And.intro ?_ ?_; (focus (first | omega | (simp only [go_sem]; done) | (simp; done) | (simp; omega) | assumption))))) | ((first | refine CondP.split (fun hif => ?_) (fun hif => ?_) | refine Runs.part (fun hif => ?_) (fun hif => ?_)) <;> ((try simp only [hif]); (try simp only [decide_eq_true_eq, decide_eq_false_iff_not, Bool.not_eq_true, Bool.not_eq_false, Bool.not_eq_true', Bool.not_eq_false', beq_iff_eq, bne_iff_ne, bne_eq_false_iff_eq, beq_eq_false_iff_ne, ne_eq, Bool.and_eq_true, Bool.or_eq_true, Bool.or_eq_false_iff] at hif); (try (have h9 : _ = true := hif; simp only [h9])); (try (have h9 : _ = false := hif; simp only [h9])); (try simp (maxSteps := 9999999) (disch := omega) only [go_sem, cI_ren, hc, hl, ht]); (try (refine And.intro ?_ ?_; (focus (first | omega | (simp only [go_sem]; done) | (simp; done) | (simp; omega) | assumption)))); (try (exfalso; omega; done))))))
  (apply Ret.det []; (focus (first | exact .inl rfl | exact .inr rfl)); (focus (simp (maxSteps := 9999999) (disch := omega) only [go_sem, cI_ren]; rfl)); (simp (maxSteps := 9999999) (disch := omega) only [go_sem, cI_ren]; (try (repeat' (first | done | trivial | rfl | exact leAs_rfl _ | decide | (refine And.intro ?_ ?_) | (simp; done) | omega | (simp; decide))))))
theorem encode_ok (l : List Int) (hl : l.length = 20) (h : right l = true) : ACall Try.prog 61 [.agg (cI l)] [] (Det (.tup [.sl 0 0 80 1 none, I 0]) [.cells false (bA (eN l 20))]) := by
  have hc := cI_len l
  have ht := cI_take hl
  have hr := right_any l hl
  have h0 := eN_zero l
  have hnn := right_nn h
  rw [h] at hr
  refine ACall.startA c61_ok Try.func61 rfl Try.ntmps61 (by kernel_rfl) res61_ok rfl rfl rfl ?_; simp (maxSteps := 9999999) (disch := omega) only [go_sem]
  refine AWpA.dummy ?_
  (repeat' (first | refine AWpA.seq ?_ | refine AWpA.block ?_ | (with_reducible refine CondP.tt ?_) | (with_reducible refine CondP.ff ?_) | refine AWpA.condv (by simp (maxSteps := 9999999) (disch := omega) only [go_sem, cI_ren, hc, hl, ht]; rfl) ?_ | ((first | (apply AWpA.region; (focus (simp (maxSteps := 9999999) (disch := omega) only [go_sem, cI_ren, hc, hl, ht]; rfl))) | (apply AWpA.draw [] follows; (focus (simp (maxSteps := 9999999) (disch := omega) only [go_sem, cI_ren, hc, hl, ht]; rfl)); (focus (simp (maxSteps := 9999999) (disch := omega) only [go_sem, cI_ren, hc, hl, ht]; first | done | trivial)); (focus (simp (maxSteps := 9999999) (disch := omega) only [go_sem, cI_ren, hc, hl, ht]; rfl))) | (apply TailK.go; (focus (simp (maxSteps := 9999999) (disch := omega) only [go_sem, cI_ren, hc, hl, ht]; rfl))) | refine AWpA.skip ?_ | refine AWpA.exit ?_ | refine AWpA.ret ?_ | (with_reducible refine ARoundsA.succ ?_) | ((first | refine Runs.kt (by assumption) (fun h9 => ?_) | refine Runs.kf (by assumption) (fun h9 => ?_) | refine Runs.nt (by assumption) (fun h9 => ?_) | refine Runs.nf (by assumption) (fun h9 => ?_) | refine CondP.ht (by assumption) (fun h9 => ?_) | refine CondP.hf (by assumption) (fun h9 => ?_) | refine CondP.nt (by assumption) (fun h9 => ?_) | refine CondP.nf (by assumption) (fun h9 => ?_)); (try simp only [h9]); clear h9) | ((first | (with_reducible apply CallG.plain1 [] (hr)) | (with_reducible apply CallG.plain1 [] (list_any l hl)) | (with_reducible apply CallG.draw1 [] (hr)) | (with_reducible apply CallG.draw1 [] (list_any l hl))); (focus ((try refine And.intro (leAs_of_eq rfl) ?_); (try refine And.intro (leOL_of_eq rfl) ?_); simp (maxSteps := 9999999) (disch := omega) only [go_sem, cI_ren, hc, hl, ht]; first | done | (repeat' (first | rfl | (refine And.intro ?_ ?_))))); (focus (simp (maxSteps := 9999999) (disch := omega) only [go_sem, cI_ren, hc, hl, ht]; rfl)))); (try simp (maxSteps := 9999999) (disch := omega) only [go_sem, cI_ren, hc, hl, ht]); (try (refine And.intro ?_ ?_; (focus (first | omega | (simp only [go_sem]; done) | (simp; done) | (simp; omega) | assumption))))) | ((first | refine CondP.split (fun hif => ?_) (fun hif => ?_) | refine Runs.part (fun hif => ?_) (fun hif => ?_)) <;> ((try simp only [hif]); (try simp only [decide_eq_true_eq, decide_eq_false_iff_not, Bool.not_eq_true, Bool.not_eq_false, Bool.not_eq_true', Bool.not_eq_false', beq_iff_eq, bne_iff_ne, bne_eq_false_iff_eq, beq_eq_false_iff_ne, ne_eq, Bool.and_eq_true, Bool.or_eq_true, Bool.or_eq_false_iff] at hif); (try (have h9 : _ = true := hif; simp only [h9])); (try (have h9 : _ = false := hif; simp only [h9])); (try simp (maxSteps := 9999999) (disch := omega) only [go_sem, cI_ren, hc, hl, ht]); (try (refine And.intro ?_ ?_; (focus (first | omega | (simp only [go_sem]; done) | (simp; done) | (simp; omega) | assumption)))); (try (exfalso; omega; done))))))
  (apply AWpA.loopL (fun i : Nat => [(4, .ptr 0 0), (11, .agg (cI l)), (12, I i)]) (fun i => [WrO 1 (4 * i) 0, .cells false (bA (eN l i))]) (fun i => 20 - i) (fun i => i ≤ 20) (0) [97, 0]; rotate_left; (focus (simp (maxSteps := 9999999) (disch := omega) only [go_sem, cI_ren, bA_ren, h0, bA_nil]; (try (repeat' (first | done | trivial | rfl | exact leAs_rfl _ | decide | (refine And.intro ?_ ?_) | (simp; done) | omega | (simp; decide)))))); rotate_right)
  · exact Nat.zero_le _
  rintro i hi
  (try simp only at hi)
  have hel := eN_len l i
  by_cases hin : i < 20
  · have g1 : ((i : Int) < 20) = True := eq_true (by omega)
    have g3 := cI_get (l := l) (k := i) (by omega)
    have hv := hnn i hin
    have c1 := number_any (eN l i) (by omega) 0 (l.getD i 0) 4 (by omega)
    have hq := numL_ok4 hv.1 (by omega) (eN l i)
    rw [hq.1, hq.2, eN_succ, eN_len, eN_len] at c1
    generalize l.getD i 0 = v at *
    (try simp (maxSteps := 9999999) (disch := omega) only [go_sem])
    (repeat' (first | refine AWpA.seq ?_ | refine AWpA.block ?_ | (with_reducible refine CondP.tt ?_) | (with_reducible refine CondP.ff ?_) | refine AWpA.condv (by simp (maxSteps := 9999999) (disch := omega) only [go_sem, g1, g3, cI_ren, bA_ren, hc, hl]; rfl) ?_ | ((first | (apply AWpA.region; (focus (simp (maxSteps := 9999999) (disch := omega) only [go_sem, g1, g3, cI_ren, bA_ren, hc, hl]; rfl))) | (apply AWpA.draw [] follows; (focus (simp (maxSteps := 9999999) (disch := omega) only [go_sem, g1, g3, cI_ren, bA_ren, hc, hl]; rfl)); (focus (simp (maxSteps := 9999999) (disch := omega) only [go_sem, g1, g3, cI_ren, bA_ren, hc, hl]; first | done | trivial)); (focus (simp (maxSteps := 9999999) (disch := omega) only [go_sem, g1, g3, cI_ren, bA_ren, hc, hl]; rfl))) | (apply TailK.go; (focus (simp (maxSteps := 9999999) (disch := omega) only [go_sem, g1, g3, cI_ren, bA_ren, hc, hl]; rfl))) | refine AWpA.skip ?_ | refine AWpA.exit ?_ | refine AWpA.ret ?_ | (with_reducible refine ARoundsA.succ ?_) | ((first | refine Runs.kt (by assumption) (fun h9 => ?_) | refine Runs.kf (by assumption) (fun h9 => ?_) | refine Runs.nt (by assumption) (fun h9 => ?_) | refine Runs.nf (by assumption) (fun h9 => ?_) | refine CondP.ht (by assumption) (fun h9 => ?_) | refine CondP.hf (by assumption) (fun h9 => ?_) | refine CondP.nt (by assumption) (fun h9 => ?_) | refine CondP.nf (by assumption) (fun h9 => ?_)); (try simp only [h9]); clear h9) | ((first | (with_reducible apply CallG.plain1 [0, 1] (c1)) | (with_reducible apply CallG.draw1 [0, 1] (c1))); (focus ((try refine And.intro (leAs_of_eq rfl) ?_); (try refine And.intro (leOL_of_eq rfl) ?_); simp (maxSteps := 9999999) (disch := omega) only [go_sem, g1, g3, cI_ren, bA_ren, hc, hl]; first | done | (repeat' (first | rfl | (refine And.intro ?_ ?_))))); (focus (simp (maxSteps := 9999999) (disch := omega) only [go_sem, g1, g3, cI_ren, bA_ren, hc, hl]; rfl)))); (try simp (maxSteps := 9999999) (disch := omega) only [go_sem, g1, g3, cI_ren, bA_ren, hc, hl]); (try (refine And.intro ?_ ?_; (focus (first | omega | (simp only [go_sem]; done) | (simp; done) | (simp; omega) | assumption))))) | ((first | refine CondP.split (fun hif => ?_) (fun hif => ?_) | refine Runs.part (fun hif => ?_) (fun hif => ?_)) <;> ((try simp only [hif]); (try simp only [decide_eq_true_eq, decide_eq_false_iff_not, Bool.not_eq_true, Bool.not_eq_false, Bool.not_eq_true', Bool.not_eq_false', beq_iff_eq, bne_iff_ne, bne_eq_false_iff_eq, beq_eq_false_iff_ne, ne_eq, Bool.and_eq_true, Bool.or_eq_true, Bool.or_eq_false_iff] at hif); (try (have h9 : _ = true := hif; simp only [h9])); (try (have h9 : _ = false := hif; simp only [h9])); (try simp (maxSteps := 9999999) (disch := omega) only [go_sem, g1, g3, cI_ren, bA_ren, hc, hl]); (try (refine And.intro ?_ ?_; (focus (first | omega | (simp only [go_sem]; done) | (simp; done) | (simp; omega) | assumption)))); (try (exfalso; omega; done))))))
    have e4 : 4 * (i + 1) = 4 * i + 4 := by omega
    (apply Back.to (i + 1) [0, _]; (focus ((try simp (maxSteps := 9999999) (disch := omega) only [go_sem, e4, cI_ren, bA_ren]); first | done | omega)); rotate_left; (focus (simp (maxSteps := 9999999) (disch := omega) only [go_sem, e4, cI_ren, bA_ren]; (try (repeat' (first | done | trivial | rfl | exact leAs_rfl _ | decide | (refine And.intro ?_ ?_) | (simp; done) | omega | (simp; decide)))))))
    omega
  · obtain rfl : i = 20 := by omega
    have c2 := bytes_any (eN l 20) 0 (by omega)
    rw [hel] at c2
    (try simp (maxSteps := 9999999) (disch := omega) only [go_sem])
    (repeat' (first | refine AWpA.seq ?_ | refine AWpA.block ?_ | (with_reducible refine CondP.tt ?_) | (with_reducible refine CondP.ff ?_) | refine AWpA.condv (by simp (maxSteps := 9999999) (disch := omega) only [go_sem, cI_ren, bA_ren, hc, hl]; rfl) ?_ | ((first | (apply AWpA.region; (focus (simp (maxSteps := 9999999) (disch := omega) only [go_sem, cI_ren, bA_ren, hc, hl]; rfl))) | (apply AWpA.draw [] follows; (focus (simp (maxSteps := 9999999) (disch := omega) only [go_sem, cI_ren, bA_ren, hc, hl]; rfl)); (focus (simp (maxSteps := 9999999) (disch := omega) only [go_sem, cI_ren, bA_ren, hc, hl]; first | done | trivial)); (focus (simp (maxSteps := 9999999) (disch := omega) only [go_sem, cI_ren, bA_ren, hc, hl]; rfl))) | (apply TailK.go; (focus (simp (maxSteps := 9999999) (disch := omega) only [go_sem, cI_ren, bA_ren, hc, hl]; rfl))) | refine AWpA.skip ?_ | refine AWpA.exit ?_ | refine AWpA.ret ?_ | (with_reducible refine ARoundsA.succ ?_) | ((first | refine Runs.kt (by assumption) (fun h9 => ?_) | refine Runs.kf (by assumption) (fun h9 => ?_) | refine Runs.nt (by assumption) (fun h9 => ?_) | refine Runs.nf (by assumption) (fun h9 => ?_) | refine CondP.ht (by assumption) (fun h9 => ?_) | refine CondP.hf (by assumption) (fun h9 => ?_) | refine CondP.nt (by assumption) (fun h9 => ?_) | refine CondP.nf (by assumption) (fun h9 => ?_)); (try simp only [h9]); clear h9) | ((first | (with_reducible apply CallG.plain1 [0, 1] (c2)) | (with_reducible apply CallG.plain1 [0] (werr_any 0)) | (with_reducible apply CallG.draw1 [0, 1] (c2)) | (with_reducible apply CallG.draw1 [0] (werr_any 0))); (focus ((try refine And.intro (leAs_of_eq rfl) ?_); (try refine And.intro (leOL_of_eq rfl) ?_); simp (maxSteps := 9999999) (disch := omega) only [go_sem, cI_ren, bA_ren, hc, hl]; first | done | (repeat' (first | rfl | (refine And.intro ?_ ?_))))); (focus (simp (maxSteps := 9999999) (disch := omega) only [go_sem, cI_ren, bA_ren, hc, hl]; rfl)))); (try simp (maxSteps := 9999999) (disch := omega) only [go_sem, cI_ren, bA_ren, hc, hl]); (try (refine And.intro ?_ ?_; (focus (first | omega | (simp only [go_sem]; done) | (simp; done) | (simp; omega) | assumption))))) | ((first | refine CondP.split (fun hif => ?_) (fun hif => ?_) | refine Runs.part (fun hif => ?_) (fun hif => ?_)) <;> ((try simp only [hif]); (try simp only [decide_eq_true_eq, decide_eq_false_iff_not, Bool.not_eq_true, Bool.not_eq_false, Bool.not_eq_true', Bool.not_eq_false', beq_iff_eq, bne_iff_ne, bne_eq_false_iff_eq, beq_eq_false_iff_ne, ne_eq, Bool.and_eq_true, Bool.or_eq_true, Bool.or_eq_false_iff] at hif); (try (have h9 : _ = true := hif; simp only [h9])); (try (have h9 : _ = false := hif; simp only [h9])); (try simp (maxSteps := 9999999) (disch := omega) only [go_sem, cI_ren, bA_ren, hc, hl]); (try (refine And.intro ?_ ?_; (focus (first | omega | (simp only [go_sem]; done) | (simp; done) | (simp; omega) | assumption)))); (try (exfalso; omega; done))))))
    (apply Ret.det [_]; (focus (first | exact .inl rfl | exact .inr rfl)); (focus (simp (maxSteps := 9999999) (disch := omega) only [go_sem, cI_ren, bA_ren]; rfl)); (simp (maxSteps := 9999999) (disch := omega) only [go_sem, cI_ren, bA_ren]; (try (repeat' (first | done | trivial | rfl | exact leAs_rfl _ | decide | (refine And.intro ?_ ?_) | (simp; done) | omega | (simp; decide))))))
theorem rencode_ok (l : List Int) (hl : l.length = 20) (h : right l = true) : ACall Try.prog 62 [.agg (cI l)] [] (Det (.sl 0 0 80 1 none) [.cells false (bA (eN l 20))]) := by
  have hc := cI_len l
  have ht := cI_take hl
  have h0 := eN_zero l
  have hnn := right_nn h
  refine ACall.startA c62_ok Try.func62 rfl Try.ntmps62 (by kernel_rfl) res62_ok rfl rfl rfl ?_; simp (maxSteps := 9999999) (disch := omega) only [go_sem]
  (repeat' (first | refine AWpA.seq ?_ | refine AWpA.block ?_ | (with_reducible refine CondP.tt ?_) | (with_reducible refine CondP.ff ?_) | refine AWpA.condv (by simp (maxSteps := 9999999) (disch := omega) only [go_sem, cI_ren, hc, hl, ht]; rfl) ?_ | ((first | (apply AWpA.region; (focus (simp (maxSteps := 9999999) (disch := omega) only [go_sem, cI_ren, hc, hl, ht]; rfl))) | (apply AWpA.draw [] follows; (focus (simp (maxSteps := 9999999) (disch := omega) only [go_sem, cI_ren, hc, hl, ht]; rfl)); (focus (simp (maxSteps := 9999999) (disch := omega) only [go_sem, cI_ren, hc, hl, ht]; first | done | trivial)); (focus (simp (maxSteps := 9999999) (disch := omega) only [go_sem, cI_ren, hc, hl, ht]; rfl))) | (apply TailK.go; (focus (simp (maxSteps := 9999999) (disch := omega) only [go_sem, cI_ren, hc, hl, ht]; rfl))) | refine AWpA.skip ?_ | refine AWpA.exit ?_ | refine AWpA.ret ?_ | (with_reducible refine ARoundsA.succ ?_) | ((first | refine Runs.kt (by assumption) (fun h9 => ?_) | refine Runs.kf (by assumption) (fun h9 => ?_) | refine Runs.nt (by assumption) (fun h9 => ?_) | refine Runs.nf (by assumption) (fun h9 => ?_) | refine CondP.ht (by assumption) (fun h9 => ?_) | refine CondP.hf (by assumption) (fun h9 => ?_) | refine CondP.nt (by assumption) (fun h9 => ?_) | refine CondP.nf (by assumption) (fun h9 => ?_)); (try simp only [h9]); clear h9)); (try simp (maxSteps := 9999999) (disch := omega) only [go_sem, cI_ren, hc, hl, ht]); (try (refine And.intro ?_ ?_; (focus (first | omega | (simp only [go_sem]; done) | (simp; done) | (simp; omega) | assumption))))) | ((first | refine CondP.split (fun hif => ?_) (fun hif => ?_) | refine Runs.part (fun hif => ?_) (fun hif => ?_)) <;> ((try simp only [hif]); (try simp only [decide_eq_true_eq, decide_eq_false_iff_not, Bool.not_eq_true, Bool.not_eq_false, Bool.not_eq_true', Bool.not_eq_false', beq_iff_eq, bne_iff_ne, bne_eq_false_iff_eq, beq_eq_false_iff_ne, ne_eq, Bool.and_eq_true, Bool.or_eq_true, Bool.or_eq_false_iff] at hif); (try (have h9 : _ = true := hif; simp only [h9])); (try (have h9 : _ = false := hif; simp only [h9])); (try simp (maxSteps := 9999999) (disch := omega) only [go_sem, cI_ren, hc, hl, ht]); (try (refine And.intro ?_ ?_; (focus (first | omega | (simp only [go_sem]; done) | (simp; done) | (simp; omega) | assumption)))); (try (exfalso; omega; done))))))
  (apply AWpA.loopL (fun i : Nat => [(1, .ptr 0 0), (3, .sl 1 0 (4 * i) 1 none), (4, I i)]) (fun i => [.cells false (cI l), .cells false (bA (eN l i))]) (fun i => 20 - i) (fun i => i ≤ 20) (0) [0, 32]; rotate_left; (focus (simp (maxSteps := 9999999) (disch := omega) only [go_sem, cI_ren, bA_ren, h0, bA_nil]; (try (repeat' (first | done | trivial | rfl | exact leAs_rfl _ | decide | (refine And.intro ?_ ?_) | (simp; done) | omega | (simp; decide)))))); rotate_right)
  · exact Nat.zero_le _
  rintro i hi
  (try simp only at hi)
  have hel := eN_len l i
  by_cases hin : i < 20
  · have g1 : ((i : Int) < 20) = True := eq_true (by omega)
    have g3 := cI_get (l := l) (k := i) (by omega)
    have hv := hnn i hin
    have c1 := refnum_any (l.getD i 0) (by omega) 4 (by decide)
    have hs := eN_succ l i
    have hel4 := leI_len (l.getD i 0) 4
    have htk : (leI (l.getD i 0) 4).take 4 = leI (l.getD i 0) 4 := List.take_of_length_le (by omega)
    have htk2 : (eN l i).take (4 * i) = eN l i := List.take_of_length_le (by omega)
    generalize l.getD i 0 = v at *
    (try simp (maxSteps := 9999999) (disch := omega) only [go_sem])
    (repeat' (first | refine AWpA.seq ?_ | refine AWpA.block ?_ | (with_reducible refine CondP.tt ?_) | (with_reducible refine CondP.ff ?_) | refine AWpA.condv (by simp (maxSteps := 9999999) (disch := omega) only [go_sem, g1, g3, cI_ren, bA_ren, hc, hl, htk, htk2, hel, hel4]; rfl) ?_ | ((first | (apply AWpA.region; (focus (simp (maxSteps := 9999999) (disch := omega) only [go_sem, g1, g3, cI_ren, bA_ren, hc, hl, htk, htk2, hel, hel4]; rfl))) | (apply AWpA.draw [] follows; (focus (simp (maxSteps := 9999999) (disch := omega) only [go_sem, g1, g3, cI_ren, bA_ren, hc, hl, htk, htk2, hel, hel4]; rfl)); (focus (simp (maxSteps := 9999999) (disch := omega) only [go_sem, g1, g3, cI_ren, bA_ren, hc, hl, htk, htk2, hel, hel4]; first | done | trivial)); (focus (simp (maxSteps := 9999999) (disch := omega) only [go_sem, g1, g3, cI_ren, bA_ren, hc, hl, htk, htk2, hel, hel4]; rfl))) | (apply TailK.go; (focus (simp (maxSteps := 9999999) (disch := omega) only [go_sem, g1, g3, cI_ren, bA_ren, hc, hl, htk, htk2, hel, hel4]; rfl))) | refine AWpA.skip ?_ | refine AWpA.exit ?_ | refine AWpA.ret ?_ | (with_reducible refine ARoundsA.succ ?_) | ((first | refine Runs.kt (by assumption) (fun h9 => ?_) | refine Runs.kf (by assumption) (fun h9 => ?_) | refine Runs.nt (by assumption) (fun h9 => ?_) | refine Runs.nf (by assumption) (fun h9 => ?_) | refine CondP.ht (by assumption) (fun h9 => ?_) | refine CondP.hf (by assumption) (fun h9 => ?_) | refine CondP.nt (by assumption) (fun h9 => ?_) | refine CondP.nf (by assumption) (fun h9 => ?_)); (try simp only [h9]); clear h9) | ((first | (with_reducible apply CallG.plain1 [] (c1)) | (with_reducible apply CallG.draw1 [] (c1))); (focus ((try refine And.intro (leAs_of_eq rfl) ?_); (try refine And.intro (leOL_of_eq rfl) ?_); simp (maxSteps := 9999999) (disch := omega) only [go_sem, g1, g3, cI_ren, bA_ren, hc, hl, htk, htk2, hel, hel4]; first | done | (repeat' (first | rfl | (refine And.intro ?_ ?_))))); (focus (simp (maxSteps := 9999999) (disch := omega) only [go_sem, g1, g3, cI_ren, bA_ren, hc, hl, htk, htk2, hel, hel4]; rfl)))); (try simp (maxSteps := 9999999) (disch := omega) only [go_sem, g1, g3, cI_ren, bA_ren, hc, hl, htk, htk2, hel, hel4]); (try (refine And.intro ?_ ?_; (focus (first | omega | (simp only [go_sem]; done) | (simp; done) | (simp; omega) | assumption))))) | ((first | refine CondP.split (fun hif => ?_) (fun hif => ?_) | refine Runs.part (fun hif => ?_) (fun hif => ?_)) <;> ((try simp only [hif]); (try simp only [decide_eq_true_eq, decide_eq_false_iff_not, Bool.not_eq_true, Bool.not_eq_false, Bool.not_eq_true', Bool.not_eq_false', beq_iff_eq, bne_iff_ne, bne_eq_false_iff_eq, beq_eq_false_iff_ne, ne_eq, Bool.and_eq_true, Bool.or_eq_true, Bool.or_eq_false_iff] at hif); (try (have h9 : _ = true := hif; simp only [h9])); (try (have h9 : _ = false := hif; simp only [h9])); (try simp (maxSteps := 9999999) (disch := omega) only [go_sem, g1, g3, cI_ren, bA_ren, hc, hl, htk, htk2, hel, hel4]); (try (refine And.intro ?_ ?_; (focus (first | omega | (simp only [go_sem]; done) | (simp; done) | (simp; omega) | assumption)))); (try (exfalso; omega; done))))))
    have e4 : 4 * (i + 1) = 4 * i + 4 := by omega
    (apply Back.to (i + 1) [0, 226]; (focus ((try simp (maxSteps := 9999999) (disch := omega) only [go_sem, e4, hs, cI_ren, bA_ren]); first | done | omega)); rotate_left; (focus (simp (maxSteps := 9999999) (disch := omega) only [go_sem, e4, hs, cI_ren, bA_ren]; (try (repeat' (first | done | trivial | rfl | exact leAs_rfl _ | decide | (refine And.intro ?_ ?_) | (simp; done) | omega | (simp; decide)))))))
    omega
  · obtain rfl : i = 20 := by omega
    (try simp (maxSteps := 9999999) (disch := omega) only [go_sem])
    (repeat' (first | refine AWpA.seq ?_ | refine AWpA.block ?_ | (with_reducible refine CondP.tt ?_) | (with_reducible refine CondP.ff ?_) | refine AWpA.condv (by simp (maxSteps := 9999999) (disch := omega) only [go_sem, cI_ren, bA_ren, hc, hl]; rfl) ?_ | ((first | (apply AWpA.region; (focus (simp (maxSteps := 9999999) (disch := omega) only [go_sem, cI_ren, bA_ren, hc, hl]; rfl))) | (apply AWpA.draw [] follows; (focus (simp (maxSteps := 9999999) (disch := omega) only [go_sem, cI_ren, bA_ren, hc, hl]; rfl)); (focus (simp (maxSteps := 9999999) (disch := omega) only [go_sem, cI_ren, bA_ren, hc, hl]; first | done | trivial)); (focus (simp (maxSteps := 9999999) (disch := omega) only [go_sem, cI_ren, bA_ren, hc, hl]; rfl))) | (apply TailK.go; (focus (simp (maxSteps := 9999999) (disch := omega) only [go_sem, cI_ren, bA_ren, hc, hl]; rfl))) | refine AWpA.skip ?_ | refine AWpA.exit ?_ | refine AWpA.ret ?_ | (with_reducible refine ARoundsA.succ ?_) | ((first | refine Runs.kt (by assumption) (fun h9 => ?_) | refine Runs.kf (by assumption) (fun h9 => ?_) | refine Runs.nt (by assumption) (fun h9 => ?_) | refine Runs.nf (by assumption) (fun h9 => ?_) | refine CondP.ht (by assumption) (fun h9 => ?_) | refine CondP.hf (by assumption) (fun h9 => ?_) | refine CondP.nt (by assumption) (fun h9 => ?_) | refine CondP.nf (by assumption) (fun h9 => ?_)); (try simp only [h9]); clear h9)); (try simp (maxSteps := 9999999) (disch := omega) only [go_sem, cI_ren, bA_ren, hc, hl]); (try (refine And.intro ?_ ?_; (focus (first | omega | (simp only [go_sem]; done) | (simp; done) | (simp; omega) | assumption))))) | ((first | refine CondP.split (fun hif => ?_) (fun hif => ?_) | refine Runs.part (fun hif => ?_) (fun hif => ?_)) <;> ((try simp only [hif]); (try simp only [decide_eq_true_eq, decide_eq_false_iff_not, Bool.not_eq_true, Bool.not_eq_false, Bool.not_eq_true', Bool.not_eq_false', beq_iff_eq, bne_iff_ne, bne_eq_false_iff_eq, beq_eq_false_iff_ne, ne_eq, Bool.and_eq_true, Bool.or_eq_true, Bool.or_eq_false_iff] at hif); (try (have h9 : _ = true := hif; simp only [h9])); (try (have h9 : _ = false := hif; simp only [h9])); (try simp (maxSteps := 9999999) (disch := omega) only [go_sem, cI_ren, bA_ren, hc, hl]); (try (refine And.intro ?_ ?_; (focus (first | omega | (simp only [go_sem]; done) | (simp; done) | (simp; omega) | assumption)))); (try (exfalso; omega; done))))))
    (apply Ret.det [1]; (focus (first | exact .inl rfl | exact .inr rfl)); (focus (simp (maxSteps := 9999999) (disch := omega) only [go_sem, cI_ren, bA_ren]; rfl)); (simp (maxSteps := 9999999) (disch := omega) only [go_sem, cI_ren, bA_ren]; (try (repeat' (first | done | trivial | rfl | exact leAs_rfl _ | decide | (refine And.intro ?_ ?_) | (simp; done) | omega | (simp; decide))))))
end Go.Proofs.Ytkdikmfnchmphaa
