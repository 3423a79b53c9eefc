/- The walk of SetupTurned. -/
import Derived.Test.YtkdikmfnchmphaaAs8
import Derived.Test.YtkdikmfnchmphaaEg4
namespace Go.Setup
set_option linter.unusedSimpArgs false
set_option linter.unusedVariables false
set_option maxHeartbeats 4000000
open Go Go.Am
theorem vals_cI (l : List Int) : cI l = (l.flatMap fun n : Int => [Value.int .i64 n]).map AV.val := by
  unfold cI
  induction l with
  | nil => rfl
  | cons x l ih => rw [List.flatMap_cons, List.map_append, ← ih]; rfl
theorem one_cI (l : List Int) : ∀ x ∈ l.flatMap fun n : Int => [Value.int .i64 n], x.oneCell' = true := fun x hx => by
  obtain ⟨n, _, h⟩ := List.mem_flatMap.1 hx
  rw [List.mem_singleton.1 h]
  rfl
theorem ckAt_cases (l : List Int) : ∀ k i, ckAt l k i = (0, 0) ∨ ∃ j, i ≤ j ∧ j < i + k ∧ ckAt l k i = ((j : Int), 14) ∧ bad l j
  | 0, i => .inl rfl
  | k + 1, i => by
    simp only [ckAt]
    split
    · rename_i h; exact .inr ⟨i, by omega, by omega, rfl, h⟩
    · rcases ckAt_cases l k (i + 1) with h | ⟨j, h1, h2, h3, h4⟩
      · exact .inl h
      · exact .inr ⟨j, by omega, by omega, h3, h4⟩
theorem ck_cases (l : List Int) : ck l = (0, 0) ∨ ∃ j : Nat, j < 20 ∧ ck l = ((j : Int), 14) ∧ bad l j := by
  rcases ckAt_cases l 20 0 with h | ⟨j, _, h2, h3, h4⟩
  · exact .inl h
  · exact .inr ⟨j, by omega, h3, h4⟩
theorem set_get {l : List Int} {i k : Nat} (t : Int) (h : k ≠ i) : (l.set i t).getD k 0 = l.getD k 0 := by
  rw [List.getD_eq_getElem?_getD, List.getD_eq_getElem?_getD, List.getElem?_set_ne (Ne.symm h)]
theorem lo_set (l : List Int) (i : Nat) (t : Int) : ∀ j, j < 20 → j < i → lo (l.set i t) j = lo l j := by
  refine cases20 (p := fun j => j < i → lo (l.set i t) j = lo l j) ?_
  refine ⟨?_, ?_, ?_, ?_, ?_, ?_, ?_, ?_, ?_, ?_, ?_, ?_, ?_, ?_, ?_, ?_, ?_, ?_, ?_, ?_⟩ <;> intro h <;> simp only [lo] <;> exact set_get t (by omega)
theorem hi_set (l : List Int) (i : Nat) (t : Int) : ∀ j, j < 20 → j < i → hi (l.set i t) j = hi l j := by
  refine cases20 (p := fun j => j < i → hi (l.set i t) j = hi l j) ?_
  refine ⟨?_, ?_, ?_, ?_, ?_, ?_, ?_, ?_, ?_, ?_, ?_, ?_, ?_, ?_, ?_, ?_, ?_, ?_, ?_, ?_⟩ <;> intro h <;> simp only [hi] <;> first | exact set_get t (by omega) | rw [set_get t (by omega)]
theorem turned_at {l : List Int} (h : right l = true) {i j : Nat} {t : Int} (hj : j < 20) (hb : bad (l.set i t) j) : i ≤ j := by
  refine Nat.le_of_not_lt fun hji => ?_
  have := right_all h j hj
  unfold bad at hb
  rw [set_get t (by omega), lo_set l i t j hj hji, hi_set l i t j hj hji] at hb
  omega
theorem set_back {l : List Int} {i : Nat} (t : Int) (h : i < l.length) : (l.set i t).set i (l.getD i 0) = l := by
  rw [List.set_set]
  have : l.getD i 0 = l[i] := by rw [List.getD_eq_getElem?_getD, List.getElem?_eq_getElem h]; rfl
  rw [this, List.set_getElem_self]
end Go.Setup
namespace Go.Proofs.Ytkdikmfnchmphaa
open Go Go.Am Go.RowKit Go.ChangeShapes Go.WideShapes Go.ChangeAt Go.Setup
set_option linter.unusedSimpArgs false
set_option maxHeartbeats 4000000
set_option maxRecDepth 100000
/- quidnunc/quidnunclaw13.SetupTurned -/
noncomputable def c7_1 : ACode := .region false [⟨some 3, .box 0, [.t 0], none⟩,
  ⟨some 6, .move, [.c (.val (.bool false))], none⟩] [] [] [1, 2, 3] true [] []
noncomputable def c7_4 : ACode := .region false [⟨some 12, .call 28, [], none⟩,
  ⟨some 13, .un .not, [.t 12], none⟩,
  ⟨some 14, .move, [.t 13], none⟩,
  ⟨some 15, .load true 20, [.t 3], some (some 14, false)⟩,
  ⟨some 16, .call 29, [.t 15], some (some 14, false)⟩,
  ⟨some 17, .un .not, [.t 16], some (some 14, false)⟩,
  ⟨some 18, .pick, [.t 14, .c (.val (.bool true)), .t 17], none⟩] [] [] [1, 2, 3, 18] true [] []
noncomputable def c7_7 : ACode := .region false [⟨some 19, .call 28, [], none⟩,
  ⟨some 6, .move, [.t 19], none⟩] [] [] [6] true [] []
noncomputable def c7_6 : ACode := .seq c7_7 .ret
noncomputable def c7_5 : ACode := .cond (.t 18) c7_6 .skip
noncomputable def c7_3 : ACode := .seq c7_4 c7_5
noncomputable def c7_9 : ACode := .region false [⟨some 20, .load true 20, [.t 3], none⟩,
  ⟨some 21, .call 30, [.t 20], none⟩,
  ⟨some 22, .call 33, [.t 21], none⟩,
  ⟨some 7, .alloc (List.replicate 20 (.int .i64 0)), [], none⟩,
  ⟨none, .store 20, [.t 7, .t 22], none⟩] [] [] [1, 2, 3, 7] true [] []
noncomputable def c7_11 : ACode := .region false [⟨some 23, .move, [.t 1], none⟩,
  ⟨some 24, .conv .i64, [.t 23], none⟩,
  ⟨some 25, .bin .rem, [.t 24, .c (.val (.int .i64 20))], none⟩,
  ⟨some 8, .move, [.t 25], none⟩] [] [] [2, 3, 7, 8] false [] []
noncomputable def c7_13 : ACode := .region false [⟨some 26, .move, [.t 8], none⟩,
  ⟨some 27, .ixA 20 1, [.t 7, .t 26], none⟩,
  ⟨some 28, .load false 1, [.t 27], none⟩,
  ⟨some 9, .move, [.t 28], none⟩] [] [] [2, 3, 7, 8, 9] false [] []
noncomputable def c7_15 : ACode := .region false [⟨some 29, .move, [.t 8], none⟩,
  ⟨some 30, .move, [.t 2], none⟩,
  ⟨some 31, .ixA 20 1, [.t 7, .t 29], none⟩,
  ⟨none, .store 1, [.t 31, .t 30], none⟩] [] [] [3, 7, 8, 9] true [] []
noncomputable def c7_17 : ACode := .region false [⟨some 33, .load true 20, [.t 7], none⟩,
  ⟨some 34, .call 35, [.t 33], none⟩,
  ⟨some 35, .call 34, [.t 34], none⟩,
  ⟨some 32, .move, [.t 35], none⟩,
  ⟨some 36, .ext 0, [.t 32], none⟩,
  ⟨some 37, .ext 1, [.t 32], none⟩,
  ⟨some 10, .move, [.t 36], none⟩,
  ⟨some 11, .move, [.t 37], none⟩] [] [] [3, 7, 8, 9, 10, 11] true [] []
noncomputable def c7_20 : ACode := .region false [⟨some 38, .move, [.t 11], none⟩,
  ⟨some 39, .bin .eql, [.t 38, .c (.val (.int .i64 0))], none⟩,
  ⟨some 40, .move, [.t 39], none⟩,
  ⟨some 41, .move, [.t 10], some (some 40, true)⟩,
  ⟨some 42, .bin .neq, [.t 41, .c (.val (.int .i64 0))], some (some 40, true)⟩,
  ⟨some 43, .pick, [.t 40, .t 42, .c (.val (.bool false))], none⟩,
  ⟨some 44, .move, [.t 43], none⟩,
  ⟨some 45, .move, [.t 11], some (some 44, false)⟩,
  ⟨some 46, .bin .neq, [.t 45, .c (.val (.int .i64 0))], some (some 44, false)⟩,
  ⟨some 47, .move, [.t 46], some (some 44, false)⟩,
  ⟨some 48, .move, [.t 11], some (some 47, true)⟩,
  ⟨some 49, .bin .neq, [.t 48, .c (.val (.int .i64 14))], some (some 47, true)⟩,
  ⟨some 50, .move, [.t 49], some (some 47, true)⟩,
  ⟨some 51, .move, [.t 10], some (some 50, false)⟩,
  ⟨some 52, .move, [.t 8], some (some 50, false)⟩,
  ⟨some 53, .bin .lss, [.t 51, .t 52], some (some 50, false)⟩,
  ⟨some 54, .pick, [.t 50, .c (.val (.bool true)), .t 53], some (some 47, true)⟩,
  ⟨some 55, .move, [.t 54], some (some 47, true)⟩,
  ⟨some 56, .move, [.t 10], some (some 55, false)⟩,
  ⟨some 57, .bin .geq, [.t 56, .c (.val (.int .i64 20))], some (some 55, false)⟩,
  ⟨some 58, .pick, [.t 55, .c (.val (.bool true)), .t 57], some (some 47, true)⟩,
  ⟨some 59, .pick, [.t 47, .t 58, .c (.val (.bool false))], some (some 44, false)⟩,
  ⟨some 60, .pick, [.t 44, .c (.val (.bool true)), .t 59], none⟩] [] [] [3, 7, 8, 9, 60] false [] []
noncomputable def c7_23 : ACode := .region false [⟨some 6, .move, [.c (.val (.bool false))], none⟩] [] [] [6] false [] []
noncomputable def c7_22 : ACode := .seq c7_23 .ret
noncomputable def c7_21 : ACode := .cond (.t 60) c7_22 .skip
noncomputable def c7_19 : ACode := .seq c7_20 c7_21
noncomputable def c7_25 : ACode := .region false [⟨some 61, .move, [.t 8], none⟩,
  ⟨some 62, .move, [.t 9], none⟩,
  ⟨some 63, .ixA 20 1, [.t 7, .t 61], none⟩,
  ⟨none, .store 1, [.t 63, .t 62], none⟩] [] [] [3, 7] true [] []
noncomputable def c7_27 : ACode := .region false [⟨some 65, .load true 20, [.t 7], none⟩,
  ⟨some 66, .call 35, [.t 65], none⟩,
  ⟨some 67, .call 34, [.t 66], none⟩,
  ⟨some 64, .move, [.t 67], none⟩,
  ⟨some 68, .ext 0, [.t 64], none⟩,
  ⟨some 69, .ext 1, [.t 64], none⟩,
  ⟨some 10, .move, [.t 68], none⟩,
  ⟨some 11, .move, [.t 69], none⟩] [] [] [3, 7, 10, 11] true [] []
noncomputable def c7_29 : ACode := .region true [⟨some 70, .move, [.t 11], none⟩,
  ⟨some 71, .bin .eql, [.t 70, .c (.val (.int .i64 0))], none⟩,
  ⟨some 72, .move, [.t 71], none⟩,
  ⟨some 73, .move, [.t 10], some (some 72, true)⟩,
  ⟨some 74, .bin .eql, [.t 73, .c (.val (.int .i64 0))], some (some 72, true)⟩,
  ⟨some 75, .pick, [.t 72, .t 74, .c (.val (.bool false))], none⟩,
  ⟨some 76, .move, [.t 75], none⟩,
  ⟨some 77, .load true 20, [.t 7], some (some 76, true)⟩,
  ⟨some 78, .call 35, [.t 77], some (some 76, true)⟩,
  ⟨some 79, .load true 20, [.t 3], some (some 76, true)⟩,
  ⟨some 80, .call 30, [.t 79], some (some 76, true)⟩,
  ⟨some 81, .eqA false [(0, 0), (1, 0), (2, 0), (3, 0), (4, 0), (5, 0), (6, 0), (7, 0), (8, 0), (9, 0), (10, 0), (11, 0), (12, 0), (13, 0), (14, 0), (15, 0), (16, 0), (17, 0), (18, 0), (19, 0)], [.t 78, .t 80], some (some 76, true)⟩,
  ⟨some 82, .pick, [.t 76, .t 81, .c (.val (.bool false))], none⟩,
  ⟨some 6, .move, [.t 82], none⟩] [] [] [6] true [] []
noncomputable def c7_28 : ACode := .seq c7_29 .ret
noncomputable def c7_26 : ACode := .seq c7_27 c7_28
noncomputable def c7_24 : ACode := .seq c7_25 c7_26
noncomputable def c7_18 : ACode := .seq c7_19 c7_24
noncomputable def c7_16 : ACode := .seq c7_17 c7_18
noncomputable def c7_14 : ACode := .seq c7_15 c7_16
noncomputable def c7_12 : ACode := .seq c7_13 c7_14
noncomputable def c7_10 : ACode := .seq c7_11 c7_12
noncomputable def c7_8 : ACode := .seq c7_9 c7_10
noncomputable def c7_2 : ACode := .seq c7_3 c7_8
noncomputable def c7_0 : ACode := .seq c7_1 c7_2
noncomputable def code7 : Code := (Try.f7.body).getD .skip
theorem c7_ok : compC Try.prog 83 code7 = some (strip c7_0) := by kernel_rfl
theorem res7_ok : Try.f7.results.toList.mapM (resC Try.prog) = some [(6, none)] := by kernel_rfl
theorem turned_walk (W : World) (l : List Int) (at1 to : Int) (hl : l.length = 20 ∧ ∀ a ∈ l, IntKind.i64.min ≤ a ∧ a ≤ IntKind.i64.max) (ha : IntKind.u8.min ≤ at1 ∧ at1 ≤ IntKind.u8.max) :
    Calls Try.prog 7 #[.agg (l.flatMap fun n : Int => [Value.int .i64 n]).toArray, .int .u8 at1, .int .i64 to] W fun e W' => e = .returned (.bool true) ∧ Below W.heap.size W W' := by
  obtain ⟨hl, hb⟩ := hl
  obtain ⟨ha1, ha2⟩ : 0 ≤ at1 ∧ at1 ≤ 255 := ha
  have hv := vals_cI l
  have ho := one_cI l
  have hc := cI_len l
  have ht := cI_take hl
  have hr := rright_any l hl
  cases h : right l
  · rw [h] at hr
    refine top_call c7_ok Try.func7 rfl Try.ntmps7 res7_ok [ .agg (cI l), .val (.int .u8 at1), I to] (by simp) (by (repeat' (first | exact VRs_nil' _ | exact VR_val' _ _ | (refine VRs_cons' ?_ ?_) | (refine VR_agg' (by first | rfl | assumption) ?_; first | assumption | simp [Value.oneCell'])))) ?_; try simp (maxSteps := 9999999) (disch := omega) only [go_sem]
    (repeat' (first | refine AWpA.seq ?_ | refine AWpA.block ?_ | (with_reducible refine CondP.tt ?_) | (with_reducible refine CondP.ff ?_) | refine AWpA.condv (by simp (maxSteps := 9999999) (disch := omega) only [go_sem, cI_ren, hc, hl, ht]; rfl) ?_ | ((first | (apply AWpA.region; (focus (simp (maxSteps := 9999999) (disch := omega) only [go_sem, cI_ren, hc, hl, ht]; rfl))) | (apply AWpA.draw [] follows; (focus (simp (maxSteps := 9999999) (disch := omega) only [go_sem, cI_ren, hc, hl, ht]; rfl)); (focus (simp (maxSteps := 9999999) (disch := omega) only [go_sem, cI_ren, hc, hl, ht]; first | done | trivial)); (focus (simp (maxSteps := 9999999) (disch := omega) only [go_sem, cI_ren, hc, hl, ht]; rfl))) | (apply TailK.go; (focus (simp (maxSteps := 9999999) (disch := omega) only [go_sem, cI_ren, hc, hl, ht]; rfl))) | refine AWpA.skip ?_ | refine AWpA.exit ?_ | refine AWpA.ret ?_ | (with_reducible refine ARoundsA.succ ?_) | ((first | refine Runs.kt (by assumption) (fun h9 => ?_) | refine Runs.kf (by assumption) (fun h9 => ?_) | refine Runs.nt (by assumption) (fun h9 => ?_) | refine Runs.nf (by assumption) (fun h9 => ?_) | refine CondP.ht (by assumption) (fun h9 => ?_) | refine CondP.hf (by assumption) (fun h9 => ?_) | refine CondP.nt (by assumption) (fun h9 => ?_) | refine CondP.nf (by assumption) (fun h9 => ?_)); (try simp only [h9]); clear h9) | ((first | (with_reducible apply CallG.plain1 [] (speaks13_any)) | (with_reducible apply CallG.plain1 [] (hr)) | (with_reducible apply CallG.draw1 [] (speaks13_any)) | (with_reducible apply CallG.draw1 [] (hr))); (focus ((try refine And.intro (leAs_of_eq rfl) ?_); (try refine And.intro (leOL_of_eq rfl) ?_); simp (maxSteps := 9999999) (disch := omega) only [go_sem, cI_ren, hc, hl, ht]; first | done | (repeat' (first | rfl | (refine And.intro ?_ ?_))))); (focus (simp (maxSteps := 9999999) (disch := omega) only [go_sem, cI_ren, hc, hl, ht]; rfl)))); (try simp (maxSteps := 9999999) (disch := omega) only [go_sem, cI_ren, hc, hl, ht]); (try (refine And.intro ?_ ?_; (focus (first | omega | (simp only [go_sem]; done) | (simp; done) | (simp; omega) | assumption))))) | ((first | refine CondP.split (fun hif => ?_) (fun hif => ?_) | refine Runs.part (fun hif => ?_) (fun hif => ?_)) <;> ((try simp only [hif]); (try simp only [decide_eq_true_eq, decide_eq_false_iff_not, Bool.not_eq_true, Bool.not_eq_false, Bool.not_eq_true', Bool.not_eq_false', beq_iff_eq, bne_iff_ne, bne_eq_false_iff_eq, beq_eq_false_iff_ne, ne_eq, Bool.and_eq_true, Bool.or_eq_true, Bool.or_eq_false_iff] at hif); (try (have h9 : _ = true := hif; simp only [h9])); (try (have h9 : _ = false := hif; simp only [h9])); (try simp (maxSteps := 9999999) (disch := omega) only [go_sem, cI_ren, hc, hl, ht]); (try (refine And.intro ?_ ?_; (focus (first | omega | (simp only [go_sem]; done) | (simp; done) | (simp; omega) | assumption)))); (try (exfalso; omega; done))))))
    (refine TopPost.of (by first | exact .inl rfl | exact .inr rfl) (by (try simp (maxSteps := 9999999) (disch := omega) only [go_sem]); rfl) ?_; (try simp (maxSteps := 9999999) (disch := omega) only [go_sem]); (try (first | trivial | decide | (simp; done))))
  · rw [h] at hr
    obtain ⟨i, hi, hi20⟩ : ∃ i : Nat, at1.tmod 20 = (i : Int) ∧ i < 20 := ⟨(at1.tmod 20).toNat, by rw [Int.tmod_eq_emod_of_nonneg ha1]; omega, by rw [Int.tmod_eq_emod_of_nonneg ha1]; omega⟩
    obtain ⟨m, hm⟩ : ∃ m, m = l.set i to := ⟨_, rfl⟩
    have hml : m.length = 20 := by rw [hm]; simp [hl]
    have p1 := cI_put l i to (by omega)
    have p2 := cI_put m i (l.getD i 0) (by omega)
    rw [show m.set i (l.getD i 0) = l by rw [hm]; exact set_back to (by omega)] at p2
    rw [← hm] at p1
    have hmc := cI_len m
    have hmt := cI_take hml
    have k1 := check_any m hml
    have k2 := check_any l hl
    have hk2 : ck l = (0, 0) := by
      rcases ck_cases l with h1 | ⟨j, _, h2, _⟩
      · exact h1
      · rw [right, h2] at h; cases h
    rw [hk2] at k2
    simp only at k2
    rcases ck_cases m with hk | ⟨j, hj, hk, hbad⟩
    · rw [hk] at k1
      simp only at k1
      clear hm hk hk2 h
      refine top_call c7_ok Try.func7 rfl Try.ntmps7 res7_ok [ .agg (cI l), .val (.int .u8 at1), I to] (by simp) (by (repeat' (first | exact VRs_nil' _ | exact VR_val' _ _ | (refine VRs_cons' ?_ ?_) | (refine VR_agg' (by first | rfl | assumption) ?_; first | assumption | simp [Value.oneCell'])))) ?_; try simp (maxSteps := 9999999) (disch := omega) only [go_sem]
      (repeat' (first | refine AWpA.seq ?_ | refine AWpA.block ?_ | (with_reducible refine CondP.tt ?_) | (with_reducible refine CondP.ff ?_) | refine AWpA.condv (by simp (maxSteps := 9999999) (disch := omega) only [go_sem, cI_ren, hc, hl, ht, hi, cI_get, p1, p2, hmc, hmt, hml]; rfl) ?_ | ((first | (apply AWpA.region; (focus (simp (maxSteps := 9999999) (disch := omega) only [go_sem, cI_ren, hc, hl, ht, hi, cI_get, p1, p2, hmc, hmt, hml]; rfl))) | (apply AWpA.draw [] follows; (focus (simp (maxSteps := 9999999) (disch := omega) only [go_sem, cI_ren, hc, hl, ht, hi, cI_get, p1, p2, hmc, hmt, hml]; rfl)); (focus (simp (maxSteps := 9999999) (disch := omega) only [go_sem, cI_ren, hc, hl, ht, hi, cI_get, p1, p2, hmc, hmt, hml]; first | done | trivial)); (focus (simp (maxSteps := 9999999) (disch := omega) only [go_sem, cI_ren, hc, hl, ht, hi, cI_get, p1, p2, hmc, hmt, hml]; rfl))) | (apply TailK.go; (focus (simp (maxSteps := 9999999) (disch := omega) only [go_sem, cI_ren, hc, hl, ht, hi, cI_get, p1, p2, hmc, hmt, hml]; rfl))) | refine AWpA.skip ?_ | refine AWpA.exit ?_ | refine AWpA.ret ?_ | (with_reducible refine ARoundsA.succ ?_) | ((first | refine Runs.kt (by assumption) (fun h9 => ?_) | refine Runs.kf (by assumption) (fun h9 => ?_) | refine Runs.nt (by assumption) (fun h9 => ?_) | refine Runs.nf (by assumption) (fun h9 => ?_) | refine CondP.ht (by assumption) (fun h9 => ?_) | refine CondP.hf (by assumption) (fun h9 => ?_) | refine CondP.nt (by assumption) (fun h9 => ?_) | refine CondP.nf (by assumption) (fun h9 => ?_)); (try simp only [h9]); clear h9) | ((first | (with_reducible apply CallG.plain1 [] (of_any m hml)) | (with_reducible apply CallG.draw1 [] (of_any m hml))); (focus ((try refine And.intro (leAs_of_eq rfl) ?_); (try refine And.intro (leOL_of_eq rfl) ?_); simp (maxSteps := 9999999) (disch := omega) only [go_sem, cI_ren, hc, hl, ht, hi, cI_get, p1, p2, hmc, hmt, hml]; first | done | (repeat' (first | rfl | (refine And.intro ?_ ?_))))); (focus (simp (maxSteps := 9999999) (disch := omega) only [go_sem, cI_ren, hc, hl, ht, hi, cI_get, p1, p2, hmc, hmt, hml]; rfl))) | ((first | (with_reducible apply CallG.plain1 [] (of_any l hl)) | (with_reducible apply CallG.draw1 [] (of_any l hl))); (focus ((try refine And.intro (leAs_of_eq rfl) ?_); (try refine And.intro (leOL_of_eq rfl) ?_); simp (maxSteps := 9999999) (disch := omega) only [go_sem, cI_ren, hc, hl, ht, hi, cI_get, p1, p2, hmc, hmt, hml]; first | done | (repeat' (first | rfl | (refine And.intro ?_ ?_))))); (focus (simp (maxSteps := 9999999) (disch := omega) only [go_sem, cI_ren, hc, hl, ht, hi, cI_get, p1, p2, hmc, hmt, hml]; rfl))) | ((first | (with_reducible apply CallG.plain1 [] (k1)) | (with_reducible apply CallG.draw1 [] (k1))); (focus ((try refine And.intro (leAs_of_eq rfl) ?_); (try refine And.intro (leOL_of_eq rfl) ?_); simp (maxSteps := 9999999) (disch := omega) only [go_sem, cI_ren, hc, hl, ht, hi, cI_get, p1, p2, hmc, hmt, hml]; first | done | (repeat' (first | rfl | (refine And.intro ?_ ?_))))); (focus (simp (maxSteps := 9999999) (disch := omega) only [go_sem, cI_ren, hc, hl, ht, hi, cI_get, p1, p2, hmc, hmt, hml]; rfl))) | ((first | (with_reducible apply CallG.plain1 [] (k2)) | (with_reducible apply CallG.draw1 [] (k2))); (focus ((try refine And.intro (leAs_of_eq rfl) ?_); (try refine And.intro (leOL_of_eq rfl) ?_); simp (maxSteps := 9999999) (disch := omega) only [go_sem, cI_ren, hc, hl, ht, hi, cI_get, p1, p2, hmc, hmt, hml]; first | done | (repeat' (first | rfl | (refine And.intro ?_ ?_))))); (focus (simp (maxSteps := 9999999) (disch := omega) only [go_sem, cI_ren, hc, hl, ht, hi, cI_get, p1, p2, hmc, hmt, hml]; rfl))) | ((first | (with_reducible apply CallG.plain1 [] (speaks13_any)) | (with_reducible apply CallG.plain1 [] (hr)) | (with_reducible apply CallG.plain1 [] (lawof_any l hl)) | (with_reducible apply CallG.plain1 [] (list_any l hl)) | (with_reducible apply CallG.draw1 [] (speaks13_any)) | (with_reducible apply CallG.draw1 [] (hr)) | (with_reducible apply CallG.draw1 [] (lawof_any l hl)) | (with_reducible apply CallG.draw1 [] (list_any l hl))); (focus ((try refine And.intro (leAs_of_eq rfl) ?_); (try refine And.intro (leOL_of_eq rfl) ?_); simp (maxSteps := 9999999) (disch := omega) only [go_sem, cI_ren, hc, hl, ht, hi, cI_get, p1, p2, hmc, hmt, hml]; first | done | (repeat' (first | rfl | (refine And.intro ?_ ?_))))); (focus (simp (maxSteps := 9999999) (disch := omega) only [go_sem, cI_ren, hc, hl, ht, hi, cI_get, p1, p2, hmc, hmt, hml]; rfl)))); (try simp (maxSteps := 9999999) (disch := omega) only [go_sem, cI_ren, hc, hl, ht, hi, cI_get, p1, p2, hmc, hmt, hml]); (try (refine And.intro ?_ ?_; (focus (first | omega | (simp only [go_sem]; done) | (simp; done) | (simp; omega) | assumption))))) | ((first | refine CondP.split (fun hif => ?_) (fun hif => ?_) | refine Runs.part (fun hif => ?_) (fun hif => ?_)) <;> ((try simp only [hif]); (try simp only [decide_eq_true_eq, decide_eq_false_iff_not, Bool.not_eq_true, Bool.not_eq_false, Bool.not_eq_true', Bool.not_eq_false', beq_iff_eq, bne_iff_ne, bne_eq_false_iff_eq, beq_eq_false_iff_ne, ne_eq, Bool.and_eq_true, Bool.or_eq_true, Bool.or_eq_false_iff] at hif); (try (have h9 : _ = true := hif; simp only [h9])); (try (have h9 : _ = false := hif; simp only [h9])); (try simp (maxSteps := 9999999) (disch := omega) only [go_sem, cI_ren, hc, hl, ht, hi, cI_get, p1, p2, hmc, hmt, hml]); (try (refine And.intro ?_ ?_; (focus (first | omega | (simp only [go_sem]; done) | (simp; done) | (simp; omega) | assumption)))); (try (exfalso; omega; done))))))
      (refine TopPost.of (by first | exact .inl rfl | exact .inr rfl) (by (try simp (maxSteps := 9999999) (disch := omega) only [go_sem]); rfl) ?_; (try simp (maxSteps := 9999999) (disch := omega) only [go_sem]); (try (first | trivial | decide | (simp; done))))
    · rw [hk] at k1
      simp only at k1
      rw [hm] at hbad
      have hij := turned_at h hj hbad
      have q1 : ((j : Int) < (i : Int)) = False := eq_false (by omega)
      have q2 : ((20 : Int) ≤ (j : Int)) = False := eq_false (by omega)
      clear hm hk hk2 h hbad
      refine top_call c7_ok Try.func7 rfl Try.ntmps7 res7_ok [ .agg (cI l), .val (.int .u8 at1), I to] (by simp) (by (repeat' (first | exact VRs_nil' _ | exact VR_val' _ _ | (refine VRs_cons' ?_ ?_) | (refine VR_agg' (by first | rfl | assumption) ?_; first | assumption | simp [Value.oneCell'])))) ?_; try simp (maxSteps := 9999999) (disch := omega) only [go_sem]
      (repeat' (first | refine AWpA.seq ?_ | refine AWpA.block ?_ | (with_reducible refine CondP.tt ?_) | (with_reducible refine CondP.ff ?_) | refine AWpA.condv (by simp (maxSteps := 9999999) (disch := omega) only [go_sem, cI_ren, hc, hl, ht, hi, cI_get, p1, p2, hmc, hmt, hml, q1, q2]; rfl) ?_ | ((first | (apply AWpA.region; (focus (simp (maxSteps := 9999999) (disch := omega) only [go_sem, cI_ren, hc, hl, ht, hi, cI_get, p1, p2, hmc, hmt, hml, q1, q2]; rfl))) | (apply AWpA.draw [] follows; (focus (simp (maxSteps := 9999999) (disch := omega) only [go_sem, cI_ren, hc, hl, ht, hi, cI_get, p1, p2, hmc, hmt, hml, q1, q2]; rfl)); (focus (simp (maxSteps := 9999999) (disch := omega) only [go_sem, cI_ren, hc, hl, ht, hi, cI_get, p1, p2, hmc, hmt, hml, q1, q2]; first | done | trivial)); (focus (simp (maxSteps := 9999999) (disch := omega) only [go_sem, cI_ren, hc, hl, ht, hi, cI_get, p1, p2, hmc, hmt, hml, q1, q2]; rfl))) | (apply TailK.go; (focus (simp (maxSteps := 9999999) (disch := omega) only [go_sem, cI_ren, hc, hl, ht, hi, cI_get, p1, p2, hmc, hmt, hml, q1, q2]; rfl))) | refine AWpA.skip ?_ | refine AWpA.exit ?_ | refine AWpA.ret ?_ | (with_reducible refine ARoundsA.succ ?_) | ((first | refine Runs.kt (by assumption) (fun h9 => ?_) | refine Runs.kf (by assumption) (fun h9 => ?_) | refine Runs.nt (by assumption) (fun h9 => ?_) | refine Runs.nf (by assumption) (fun h9 => ?_) | refine CondP.ht (by assumption) (fun h9 => ?_) | refine CondP.hf (by assumption) (fun h9 => ?_) | refine CondP.nt (by assumption) (fun h9 => ?_) | refine CondP.nf (by assumption) (fun h9 => ?_)); (try simp only [h9]); clear h9) | ((first | (with_reducible apply CallG.plain1 [] (of_any m hml)) | (with_reducible apply CallG.draw1 [] (of_any m hml))); (focus ((try refine And.intro (leAs_of_eq rfl) ?_); (try refine And.intro (leOL_of_eq rfl) ?_); simp (maxSteps := 9999999) (disch := omega) only [go_sem, cI_ren, hc, hl, ht, hi, cI_get, p1, p2, hmc, hmt, hml, q1, q2]; first | done | (repeat' (first | rfl | (refine And.intro ?_ ?_))))); (focus (simp (maxSteps := 9999999) (disch := omega) only [go_sem, cI_ren, hc, hl, ht, hi, cI_get, p1, p2, hmc, hmt, hml, q1, q2]; rfl))) | ((first | (with_reducible apply CallG.plain1 [] (of_any l hl)) | (with_reducible apply CallG.draw1 [] (of_any l hl))); (focus ((try refine And.intro (leAs_of_eq rfl) ?_); (try refine And.intro (leOL_of_eq rfl) ?_); simp (maxSteps := 9999999) (disch := omega) only [go_sem, cI_ren, hc, hl, ht, hi, cI_get, p1, p2, hmc, hmt, hml, q1, q2]; first | done | (repeat' (first | rfl | (refine And.intro ?_ ?_))))); (focus (simp (maxSteps := 9999999) (disch := omega) only [go_sem, cI_ren, hc, hl, ht, hi, cI_get, p1, p2, hmc, hmt, hml, q1, q2]; rfl))) | ((first | (with_reducible apply CallG.plain1 [] (k1)) | (with_reducible apply CallG.draw1 [] (k1))); (focus ((try refine And.intro (leAs_of_eq rfl) ?_); (try refine And.intro (leOL_of_eq rfl) ?_); simp (maxSteps := 9999999) (disch := omega) only [go_sem, cI_ren, hc, hl, ht, hi, cI_get, p1, p2, hmc, hmt, hml, q1, q2]; first | done | (repeat' (first | rfl | (refine And.intro ?_ ?_))))); (focus (simp (maxSteps := 9999999) (disch := omega) only [go_sem, cI_ren, hc, hl, ht, hi, cI_get, p1, p2, hmc, hmt, hml, q1, q2]; rfl))) | ((first | (with_reducible apply CallG.plain1 [] (k2)) | (with_reducible apply CallG.draw1 [] (k2))); (focus ((try refine And.intro (leAs_of_eq rfl) ?_); (try refine And.intro (leOL_of_eq rfl) ?_); simp (maxSteps := 9999999) (disch := omega) only [go_sem, cI_ren, hc, hl, ht, hi, cI_get, p1, p2, hmc, hmt, hml, q1, q2]; first | done | (repeat' (first | rfl | (refine And.intro ?_ ?_))))); (focus (simp (maxSteps := 9999999) (disch := omega) only [go_sem, cI_ren, hc, hl, ht, hi, cI_get, p1, p2, hmc, hmt, hml, q1, q2]; rfl))) | ((first | (with_reducible apply CallG.plain1 [] (speaks13_any)) | (with_reducible apply CallG.plain1 [] (hr)) | (with_reducible apply CallG.plain1 [] (lawof_any l hl)) | (with_reducible apply CallG.plain1 [] (list_any l hl)) | (with_reducible apply CallG.draw1 [] (speaks13_any)) | (with_reducible apply CallG.draw1 [] (hr)) | (with_reducible apply CallG.draw1 [] (lawof_any l hl)) | (with_reducible apply CallG.draw1 [] (list_any l hl))); (focus ((try refine And.intro (leAs_of_eq rfl) ?_); (try refine And.intro (leOL_of_eq rfl) ?_); simp (maxSteps := 9999999) (disch := omega) only [go_sem, cI_ren, hc, hl, ht, hi, cI_get, p1, p2, hmc, hmt, hml, q1, q2]; first | done | (repeat' (first | rfl | (refine And.intro ?_ ?_))))); (focus (simp (maxSteps := 9999999) (disch := omega) only [go_sem, cI_ren, hc, hl, ht, hi, cI_get, p1, p2, hmc, hmt, hml, q1, q2]; rfl)))); (try simp (maxSteps := 9999999) (disch := omega) only [go_sem, cI_ren, hc, hl, ht, hi, cI_get, p1, p2, hmc, hmt, hml, q1, q2]); (try (refine And.intro ?_ ?_; (focus (first | omega | (simp only [go_sem]; done) | (simp; done) | (simp; omega) | assumption))))) | ((first | refine CondP.split (fun hif => ?_) (fun hif => ?_) | refine Runs.part (fun hif => ?_) (fun hif => ?_)) <;> ((try simp only [hif]); (try simp only [decide_eq_true_eq, decide_eq_false_iff_not, Bool.not_eq_true, Bool.not_eq_false, Bool.not_eq_true', Bool.not_eq_false', beq_iff_eq, bne_iff_ne, bne_eq_false_iff_eq, beq_eq_false_iff_ne, ne_eq, Bool.and_eq_true, Bool.or_eq_true, Bool.or_eq_false_iff] at hif); (try (have h9 : _ = true := hif; simp only [h9])); (try (have h9 : _ = false := hif; simp only [h9])); (try simp (maxSteps := 9999999) (disch := omega) only [go_sem, cI_ren, hc, hl, ht, hi, cI_get, p1, p2, hmc, hmt, hml, q1, q2]); (try (refine And.intro ?_ ?_; (focus (first | omega | (simp only [go_sem]; done) | (simp; done) | (simp; omega) | assumption)))); (try (exfalso; omega; done))))))
      (refine TopPost.of (by first | exact .inl rfl | exact .inr rfl) (by (try simp (maxSteps := 9999999) (disch := omega) only [go_sem]); rfl) ?_; (try simp (maxSteps := 9999999) (disch := omega) only [go_sem]); (try (first | trivial | decide | (simp; done))))
end Go.Proofs.Ytkdikmfnchmphaa
