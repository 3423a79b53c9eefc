/- The walk of FrameReads. -/
import Derived.Test.YthbpdmlbfnjoiaaAf5
import Derived.Test.YthbpdmlbfnjoiaaEg4
namespace Go.Proofs.Ythbpdmlbfnjoiaa
set_option linter.unusedSimpArgs false
set_option linter.unusedVariables false
set_option maxHeartbeats 4000000
open Go Go.Am Go.RowKit Go.ChangeShapes Go.WideShapes Go.ChangeAt Go.Crc
set_option maxRecDepth 100000
theorem five {A : List Int} (h : 5 ≤ A.length) : A = [A.getD 0 0, A.getD 1 0, A.getD 2 0, A.getD 3 0, A.getD 4 0] ++ A.drop 5 := by
  match A, h with
  | a :: b :: c :: d :: e :: l, _ => rfl
/-- What was decoded is encoded as it was. -/
theorem frB_eq {L : List Int} (hb : ∀ x ∈ L, 0 ≤ x ∧ x ≤ 255) (h : fdE L = 0) : frB ((fA L).getD 0 0) ((fA L).getD 1 0) ((fA L).getD 2 0) (fB L) = L ∧ chkF ((fA L).getD 0 0) ((fA L).getD 1 0) ((fA L).getD 2 0) (fB L).length = 0 ∧ 9 ≤ L.length := by
  unfold fdE at h
  split at h
  · cases h
  · rename_i h9
    split at h
    · cases h
    · rename_i hm
      split at h
      · rename_i h1
        obtain ⟨hn, hk⟩ := h1
        have hal := fA_len L
        have hbl := fB_len L
        refine ⟨?_, by rw [hbl]; exact hk, by omega⟩
        have hm2 : mkd (fA L) = L := by
          simp only [mkdB, Bool.not_eq_false, Bool.and_eq_true, decide_eq_true_eq] at hm
          exact hm.2
        have hbA : ∀ x ∈ fA L, 0 ≤ x ∧ x ≤ 255 := fun x hx => hb x (List.mem_of_mem_take hx)
        have b3 := gd_ok hbA 3
        have b4 := gd_ok hbA 4
        have h5 := five (A := fA L) (by omega)
        have e : frH ((fA L).getD 0 0) ((fA L).getD 1 0) ((fA L).getD 2 0) (fB L).length ++ fB L = fA L := by
          conv => rhs; rw [h5]
          unfold frH
          rw [hbl]
          unfold fN at hn
          have e3 : (((L.length - 9) % 256 : Nat) : Int) = (fA L).getD 3 0 := by omega
          have e4 : (((L.length - 9) / 256 : Nat) : Int) = (fA L).getD 4 0 := by omega
          rw [e3, e4]
          rfl
        unfold frB
        rw [e]
        exact hm2
      · cases h
/- quidnunc/quidnunclaw03.FrameReads -/
noncomputable def c3_1 : ACode := .region false [⟨some 2, .move, [.c (.val (.bool false))], none⟩] [] [] [0] false [] []
noncomputable def c3_4 : ACode := .region false [⟨some 10, .call 13, [], none⟩,
  ⟨some 11, .un .not, [.t 10], none⟩,
  ⟨some 12, .move, [.t 11], none⟩,
  ⟨some 13, .move, [.t 0], some (some 12, false)⟩,
  ⟨some 14, .len, [.t 13], some (some 12, false)⟩,
  ⟨some 15, .bin .gtr, [.t 14, .c (.val (.int .i64 1100))], some (some 12, false)⟩,
  ⟨some 16, .pick, [.t 12, .c (.val (.bool true)), .t 15], none⟩] [] [] [0, 16] true [] []
noncomputable def c3_7 : ACode := .region false [⟨some 17, .call 13, [], none⟩,
  ⟨some 2, .move, [.t 17], none⟩] [] [] [2] true [] []
noncomputable def c3_6 : ACode := .seq c3_7 .ret
noncomputable def c3_5 : ACode := .cond (.t 16) c3_6 .skip
noncomputable def c3_3 : ACode := .seq c3_4 c3_5
noncomputable def c3_9 : ACode := .region false [⟨some 3, .alloc [(.int .u32 0), (.int .i32 0), (.int .u32 0), (.int .u32 0), (.int .u32 0), (.int .u32 0), (.int .u32 0), (.int .u32 0), (.int .u32 0), (.int .u32 0), (.int .u32 0), (.int .u32 0), (.int .u32 0), (.int .u32 0), (.int .u32 0), (.int .u32 0), (.int .u32 0), (.int .u32 0), (.int .u32 0), (.int .u32 0), (.int .u32 0), (.int .u32 0), (.int .u32 0), (.int .u32 0), (.int .u32 0), (.int .u32 0), (.int .u32 0), (.int .u32 0), (.int .u32 0), (.int .u32 0), (.int .u32 0), (.int .u32 0), (.int .u32 0), (.int .u32 0), (.int .u32 0), (.int .u32 0), (.int .u32 0), (.int .u32 0), (.int .u32 0), (.int .u32 0), (.int .u32 0), (.int .u32 0), (.int .u32 0), (.int .u32 0), (.int .u32 0), (.int .u32 0), (.int .u32 0), (.int .u32 0), (.int .u32 0), (.int .u32 0), (.int .u32 0), (.int .u32 0), (.int .u32 0), (.int .u32 0), (.int .u32 0), (.int .u32 0), (.int .u32 0), (.int .u32 0), (.int .u32 0), (.int .u32 0), (.int .u32 0), (.int .u32 0), (.int .u32 0), (.int .u32 0), (.int .u32 0), (.int .u32 0), (.int .u32 0), (.int .u32 0), (.int .u32 0), (.int .u32 0), (.int .u32 0), (.int .u32 0), (.int .u32 0), (.int .u32 0), (.int .u32 0), (.int .u32 0), (.int .u32 0), (.int .u32 0), (.int .u32 0), (.int .u32 0), (.int .u32 0), (.int .u32 0), (.int .u32 0), (.int .u32 0), (.int .u32 0), (.int .u32 0), (.int .u32 0), (.int .u32 0), (.int .u32 0), (.int .u32 0), (.int .u32 0), (.int .u32 0), (.int .u32 0), (.int .u32 0), (.int .u32 0), (.int .u32 0), (.int .u32 0), (.int .u32 0), (.int .u32 0), (.int .u32 0), (.int .u32 0), (.int .u32 0), (.int .u32 0), (.int .u32 0), (.int .u32 0), (.int .u32 0), (.int .u32 0), (.int .u32 0), (.int .u32 0), (.int .u32 0), (.int .u32 0), (.int .u32 0), (.int .u32 0), (.int .u32 0), (.int .u32 0), (.int .u32 0), (.int .u32 0), (.int .u32 0), (.int .u32 0), (.int .u32 0), (.int .u32 0), (.int .u32 0), (.int .u32 0), (.int .u32 0), (.int .u32 0), (.int .u32 0), (.int .u32 0), (.int .u32 0), (.int .u32 0), (.int .u32 0), (.int .u32 0), (.int .u32 0), (.int .u32 0), (.int .u32 0), (.int .u32 0), (.int .u32 0), (.int .u32 0), (.int .u32 0), (.int .u32 0), (.int .u32 0), (.int .u32 0), (.int .u32 0), (.int .u32 0), (.int .u32 0), (.int .u32 0), (.int .u32 0), (.int .u32 0), (.int .u32 0), (.int .u32 0), (.int .u32 0), (.int .u32 0), (.int .u32 0), (.int .u32 0), (.int .u32 0), (.int .u32 0), (.int .u32 0), (.int .u32 0), (.int .u32 0), (.int .u32 0), (.int .u32 0), (.int .u32 0), (.int .u32 0), (.int .u32 0), (.int .u32 0), (.int .u32 0), (.int .u32 0), (.int .u32 0), (.int .u32 0), (.int .u32 0), (.int .u32 0), (.int .u32 0), (.int .u32 0), (.int .u32 0), (.int .u32 0), (.int .u32 0), (.int .u32 0), (.int .u32 0), (.int .u32 0), (.int .u32 0), (.int .u32 0), (.int .u32 0), (.int .u32 0), (.int .u32 0), (.int .u32 0), (.int .u32 0), (.int .u32 0), (.int .u32 0), (.int .u32 0), (.int .u32 0), (.int .u32 0), (.int .u32 0), (.int .u32 0), (.int .u32 0), (.int .u32 0), (.int .u32 0), (.int .u32 0), (.int .u32 0), (.int .u32 0), (.int .u32 0), (.int .u32 0), (.int .u32 0), (.int .u32 0), (.int .u32 0), (.int .u32 0), (.int .u32 0), (.int .u32 0), (.int .u32 0), (.int .u32 0), (.int .u32 0), (.int .u32 0), (.int .u32 0), (.int .u32 0), (.int .u32 0), (.int .u32 0), (.int .u32 0), (.int .u32 0), (.int .u32 0), (.int .u32 0), (.int .u32 0), (.int .u32 0), (.int .u32 0), (.int .u32 0), (.int .u32 0), (.int .u32 0), (.int .u32 0), (.int .u32 0), (.int .u32 0), (.int .u32 0), (.int .u32 0), (.int .u32 0), (.int .u32 0), (.int .u32 0), (.int .u32 0), (.int .u32 0), (.int .u32 0), (.int .u32 0), (.int .u32 0), (.int .u32 0), (.int .u32 0), (.int .u32 0), (.int .u32 0), (.int .u32 0), (.int .u32 0), (.int .u32 0), (.int .u32 0), (.int .u32 0), (.int .u32 0), (.int .u32 0), (.int .u32 0), (.int .u32 0), (.int .u32 0), (.int .u32 0), (.int .u32 0), (.int .u32 0), (.int .u32 0), (.int .u32 0), (.int .u32 0), (.int .u32 0), (.int .u32 0)], [], none⟩] [] [] [0, 3] true [] []
noncomputable def c3_11 : ACode := .region false [⟨some 19, .move, [.t 0], none⟩,
  ⟨some 20, .call 14, [.t 3, .t 19], none⟩,
  ⟨some 18, .move, [.t 20], none⟩,
  ⟨some 21, .ext 0, [.t 18], none⟩,
  ⟨some 22, .ext 1, [.t 18], none⟩,
  ⟨some 4, .alloc [(.int .i64 0), (.int .i64 0), (.int .i64 0), (.slice none 0 0)], [], none⟩,
  ⟨none, .store 4, [.t 4, .t 21], none⟩,
  ⟨some 5, .move, [.t 22], none⟩] [] [] [0, 3, 4, 5] true [] []
noncomputable def c3_13 : ACode := .region false [⟨some 24, .move, [.t 0], none⟩,
  ⟨some 25, .call 15, [.t 24], none⟩,
  ⟨some 23, .move, [.t 25], none⟩,
  ⟨some 26, .ext 0, [.t 23], none⟩,
  ⟨some 27, .ext 1, [.t 23], none⟩,
  ⟨some 6, .alloc [(.int .i64 0), (.int .i64 0), (.int .i64 0), (.slice none 0 0)], [], none⟩,
  ⟨none, .store 4, [.t 6, .t 26], none⟩,
  ⟨some 7, .move, [.t 27], none⟩] [] [] [0, 3, 4, 5, 6, 7] true [] []
noncomputable def c3_16 : ACode := .region false [⟨some 28, .move, [.t 5], none⟩,
  ⟨some 29, .move, [.t 7], none⟩,
  ⟨some 30, .bin .neq, [.t 28, .t 29], none⟩,
  ⟨some 31, .move, [.t 30], none⟩,
  ⟨some 32, .load true 4, [.t 4], some (some 31, false)⟩,
  ⟨some 33, .load true 4, [.t 6], some (some 31, false)⟩,
  ⟨some 34, .call 16, [.t 32, .t 33], some (some 31, false)⟩,
  ⟨some 35, .un .not, [.t 34], some (some 31, false)⟩,
  ⟨some 36, .pick, [.t 31, .c (.val (.bool true)), .t 35], none⟩] [] [] [0, 3, 4, 7, 36] true [] []
noncomputable def c3_19 : ACode := .region false [⟨some 2, .move, [.c (.val (.bool false))], none⟩] [] [] [2] false [] []
noncomputable def c3_18 : ACode := .seq c3_19 .ret
noncomputable def c3_17 : ACode := .cond (.t 36) c3_18 .skip
noncomputable def c3_15 : ACode := .seq c3_16 c3_17
noncomputable def c3_22 : ACode := .region false [⟨some 37, .move, [.t 7], none⟩,
  ⟨some 38, .bin .neq, [.t 37, .c (.val (.int .i64 0))], none⟩] [] [] [0, 3, 4, 38] false [] []
noncomputable def c3_25 : ACode := .region false [⟨some 2, .move, [.c (.val (.bool true))], none⟩] [] [] [2] false [] []
noncomputable def c3_24 : ACode := .seq c3_25 .ret
noncomputable def c3_23 : ACode := .cond (.t 38) c3_24 .skip
noncomputable def c3_21 : ACode := .seq c3_22 c3_23
noncomputable def c3_27 : ACode := .region false [⟨some 40, .load true 4, [.t 4], none⟩,
  ⟨some 41, .call 17, [.t 3, .t 40], none⟩,
  ⟨some 39, .move, [.t 41], none⟩,
  ⟨some 42, .ext 0, [.t 39], none⟩,
  ⟨some 43, .ext 1, [.t 39], none⟩,
  ⟨some 8, .move, [.t 42], none⟩,
  ⟨some 9, .move, [.t 43], none⟩] [] [] [0, 8, 9] true [] []
noncomputable def c3_29 : ACode := .region false [⟨some 44, .move, [.t 9], none⟩,
  ⟨some 45, .bin .eql, [.t 44, .c (.val (.int .i64 0))], none⟩,
  ⟨some 46, .move, [.t 45], none⟩,
  ⟨some 47, .move, [.t 8], some (some 46, true)⟩,
  ⟨some 48, .toStr, [.t 47], some (some 46, true)⟩,
  ⟨some 49, .move, [.t 0], some (some 46, true)⟩,
  ⟨some 50, .toStr, [.t 49], some (some 46, true)⟩,
  ⟨some 51, .bin .eql, [.t 48, .t 50], some (some 46, true)⟩,
  ⟨some 52, .pick, [.t 46, .t 51, .c (.val (.bool false))], none⟩,
  ⟨some 2, .move, [.t 52], none⟩] [] [] [2] false [] []
noncomputable def c3_28 : ACode := .seq c3_29 .ret
noncomputable def c3_26 : ACode := .seq c3_27 c3_28
noncomputable def c3_20 : ACode := .seq c3_21 c3_26
noncomputable def c3_14 : ACode := .seq c3_15 c3_20
noncomputable def c3_12 : ACode := .seq c3_13 c3_14
noncomputable def c3_10 : ACode := .seq c3_11 c3_12
noncomputable def c3_8 : ACode := .seq c3_9 c3_10
noncomputable def c3_2 : ACode := .seq c3_3 c3_8
noncomputable def c3_0 : ACode := .seq c3_1 c3_2
noncomputable def code3 : Code := (Try.f3.body).getD .skip
theorem c3_ok : compC Try.prog 53 code3 = some (strip c3_0) := by kernel_rfl
theorem res3_ok : Try.f3.results.toList.mapM (resC Try.prog) = some [(2, none)] := by kernel_rfl
theorem freads_walk (W : World) (x : Sl Int) (hx : x.ok W 1 (fun n : Int => [.int .u8 n]) (fun n : Int => IntKind.u8.min ≤ n ∧ n ≤ IntKind.u8.max)) :
    Calls Try.prog 3 #[.slice x.ad x.l.length x.cap] W fun e W' => e = .returned (.bool true) ∧ Below W.heap.size W W' := by
  obtain ⟨ad, off, cap, L⟩ := x
  have hz := hx.fz
  have hby : ∀ x ∈ L, 0 ≤ x ∧ x ≤ 255 := hx.all
  simp only at hz
  by_cases h1100 : 1100 < L.length
  · have h1 : ((1100 : Int) < (L.length : Int)) = True := eq_true (by omega)
    refine top_call c3_ok Try.func3 rfl Try.ntmps3 res3_ok [ .val (.slice ad L.length cap)] (by simp) (by (repeat' (first | exact VRs_nil' _ | exact VR_val' _ _ | (refine VRs_cons' ?_ ?_) | (refine VR_agg' (by first | rfl | assumption) ?_; first | assumption | simp [Value.oneCell'])))) ?_; try simp (maxSteps := 9999999) (disch := omega) only [go_sem]
    (repeat' (first | refine AWpA.seq ?_ | refine AWpA.block ?_ | (with_reducible refine CondP.tt ?_) | (with_reducible refine CondP.ff ?_) | refine AWpA.condv (by simp (maxSteps := 9999999) (disch := omega) only [go_sem, h1]; rfl) ?_ | ((first | (apply AWpA.region; (focus (simp (maxSteps := 9999999) (disch := omega) only [go_sem, h1]; rfl))) | (apply AWpA.draw [] follows; (focus (simp (maxSteps := 9999999) (disch := omega) only [go_sem, h1]; rfl)); (focus (simp (maxSteps := 9999999) (disch := omega) only [go_sem, h1]; first | done | trivial)); (focus (simp (maxSteps := 9999999) (disch := omega) only [go_sem, h1]; rfl))) | (apply TailK.go; (focus (simp (maxSteps := 9999999) (disch := omega) only [go_sem, h1]; rfl))) | refine AWpA.skip ?_ | refine AWpA.exit ?_ | refine AWpA.ret ?_ | (with_reducible refine ARoundsA.succ ?_) | ((first | refine Runs.kt (by assumption) (fun h9 => ?_) | refine Runs.kf (by assumption) (fun h9 => ?_) | refine Runs.nt (by assumption) (fun h9 => ?_) | refine Runs.nf (by assumption) (fun h9 => ?_) | refine CondP.ht (by assumption) (fun h9 => ?_) | refine CondP.hf (by assumption) (fun h9 => ?_) | refine CondP.nt (by assumption) (fun h9 => ?_) | refine CondP.nf (by assumption) (fun h9 => ?_)); (try simp only [h9]); clear h9) | ((first | (with_reducible apply CallG.plain1 [] (speaks03_any)) | (with_reducible apply CallG.draw1 [] (speaks03_any))); (focus ((try refine And.intro (leAs_of_eq rfl) ?_); (try refine And.intro (leOL_of_eq rfl) ?_); simp (maxSteps := 9999999) (disch := omega) only [go_sem, h1]; first | done | (repeat' (first | rfl | (refine And.intro ?_ ?_))))); (focus (simp (maxSteps := 9999999) (disch := omega) only [go_sem, h1]; rfl)))); (try simp (maxSteps := 9999999) (disch := omega) only [go_sem, h1]); (try (refine And.intro ?_ ?_; (focus (first | omega | (simp only [go_sem]; done) | (simp; done) | (simp; omega) | assumption))))) | ((first | refine CondP.split (fun hif => ?_) (fun hif => ?_) | refine Runs.part (fun hif => ?_) (fun hif => ?_)) <;> ((try simp only [hif]); (try simp only [decide_eq_true_eq, decide_eq_false_iff_not, Bool.not_eq_true, Bool.not_eq_false, Bool.not_eq_true', Bool.not_eq_false', beq_iff_eq, bne_iff_ne, bne_eq_false_iff_eq, beq_eq_false_iff_ne, ne_eq, Bool.and_eq_true, Bool.or_eq_true, Bool.or_eq_false_iff] at hif); (try (have h9 : _ = true := hif; simp only [h9])); (try (have h9 : _ = false := hif; simp only [h9])); (try simp (maxSteps := 9999999) (disch := omega) only [go_sem, h1]); (try (refine And.intro ?_ ?_; (focus (first | omega | (simp only [go_sem]; done) | (simp; done) | (simp; omega) | assumption)))); (try (exfalso; omega; done))))))
    (refine TopPost.of (by first | exact .inl rfl | exact .inr rfl) (by (try simp (maxSteps := 9999999) (disch := omega) only [go_sem]); rfl) ?_; (try simp (maxSteps := 9999999) (disch := omega) only [go_sem]); (try (first | trivial | decide | (simp; done))))
  have h1 : ((1100 : Int) < (L.length : Int)) = False := eq_false (by omega)
  have sg := Seg.rows (off := off) (l := L) (by omega)
  refine top_call c3_ok Try.func3 rfl Try.ntmps3 res3_ok [ .val (.slice ad L.length cap)] (by simp) (by (repeat' (first | exact VRs_nil' _ | exact VR_val' _ _ | (refine VRs_cons' ?_ ?_) | (refine VR_agg' (by first | rfl | assumption) ?_; first | assumption | simp [Value.oneCell'])))) ?_; try simp (maxSteps := 9999999) (disch := omega) only [go_sem]
  refine AWpA.thawT 0 (fun n : Int => [.val (.int .u8 n)]) hz (fun _ => rfl) rfl ?_
  generalize rowsC off (fun n : Int => [.val (.int .u8 n)]) L = P at sg
  have d1 := fdec_any false sg hby
  have d2 := rfdec_any sg hby
  by_cases he : fdE L = 0
  · obtain ⟨q1, q2, q3⟩ := frB_eq hby he
    have c1 := d1.2 he
    have c2 := d2.2 he
    have hbl := fB_len L
    have hal := fA_len L
    have hbB : ∀ x ∈ fB L, 0 ≤ x ∧ x ≤ 255 := fun x hx => hby x (List.mem_of_mem_take (List.mem_of_mem_drop hx))
    have sB := Seg.all (fB L) (by have := sg.small; omega)
    have sB' : Seg P (off + 5) (fB L) := (sg.takeS (L.length - 4) (by omega)).dropS 5 (by rw [show L.take (L.length - 4) = fA L from rfl, hal]; omega)
    have c3 := is_any sB sB' hbB hbB ((fA L).getD 0 0) ((fA L).getD 1 0) ((fA L).getD 2 0) ((fA L).getD 0 0) ((fA L).getD 1 0) ((fA L).getD 2 0)
    rw [sameB_self] at c3
    have hle := sg.le
    have c4 := fenc_ok true sB hbB _ _ _ q2
    rw [q1] at c4
    rw [hbl] at c3 c4
    rw [show L.length - 9 + 9 = L.length by omega] at c4
    clear d1 d2 q1 q2
    generalize (fA L).getD 0 0 = f at *
    generalize (fA L).getD 1 0 = t at *
    generalize (fA L).getD 2 0 = k at *
    generalize fB L = B at *
    (repeat' (first | refine AWpA.seq ?_ | refine AWpA.block ?_ | (with_reducible refine CondP.tt ?_) | (with_reducible refine CondP.ff ?_) | refine AWpA.condv (by simp (maxSteps := 9999999) (disch := omega) only [go_sem, h1, sg.ren, tb_ren, tb_lit, bA_ren, sg.seg, sg.noAny, List.take_length]; rfl) ?_ | ((first | (apply AWpA.region; (focus (simp (maxSteps := 9999999) (disch := omega) only [go_sem, h1, sg.ren, tb_ren, tb_lit, bA_ren, sg.seg, sg.noAny, List.take_length]; rfl))) | (apply AWpA.draw [] follows; (focus (simp (maxSteps := 9999999) (disch := omega) only [go_sem, h1, sg.ren, tb_ren, tb_lit, bA_ren, sg.seg, sg.noAny, List.take_length]; rfl)); (focus (simp (maxSteps := 9999999) (disch := omega) only [go_sem, h1, sg.ren, tb_ren, tb_lit, bA_ren, sg.seg, sg.noAny, List.take_length]; first | done | trivial)); (focus (simp (maxSteps := 9999999) (disch := omega) only [go_sem, h1, sg.ren, tb_ren, tb_lit, bA_ren, sg.seg, sg.noAny, List.take_length]; rfl))) | (apply TailK.go; (focus (simp (maxSteps := 9999999) (disch := omega) only [go_sem, h1, sg.ren, tb_ren, tb_lit, bA_ren, sg.seg, sg.noAny, List.take_length]; rfl))) | refine AWpA.skip ?_ | refine AWpA.exit ?_ | refine AWpA.ret ?_ | (with_reducible refine ARoundsA.succ ?_) | ((first | refine Runs.kt (by assumption) (fun h9 => ?_) | refine Runs.kf (by assumption) (fun h9 => ?_) | refine Runs.nt (by assumption) (fun h9 => ?_) | refine Runs.nf (by assumption) (fun h9 => ?_) | refine CondP.ht (by assumption) (fun h9 => ?_) | refine CondP.hf (by assumption) (fun h9 => ?_) | refine CondP.nt (by assumption) (fun h9 => ?_) | refine CondP.nf (by assumption) (fun h9 => ?_)); (try simp only [h9]); clear h9) | ((first | (with_reducible apply CallG.plain1 [129, 0] (c1)) | (with_reducible apply CallG.draw1 [129, 0] (c1))); (focus ((try refine And.intro (leAs_of_eq rfl) ?_); (try refine And.intro (leOL_of_eq rfl) ?_); simp (maxSteps := 9999999) (disch := omega) only [go_sem, h1, sg.ren, tb_ren, tb_lit, bA_ren, sg.seg, sg.noAny, List.take_length]; first | done | (repeat' (first | rfl | (refine And.intro ?_ ?_))))); (focus (simp (maxSteps := 9999999) (disch := omega) only [go_sem, h1, sg.ren, tb_ren, tb_lit, bA_ren, sg.seg, sg.noAny, List.take_length]; rfl))) | ((first | (with_reducible apply CallG.plain1 [0] (c2)) | (with_reducible apply CallG.draw1 [0] (c2))); (focus ((try refine And.intro (leAs_of_eq rfl) ?_); (try refine And.intro (leOL_of_eq rfl) ?_); simp (maxSteps := 9999999) (disch := omega) only [go_sem, h1, sg.ren, tb_ren, tb_lit, bA_ren, sg.seg, sg.noAny, List.take_length]; first | done | (repeat' (first | rfl | (refine And.intro ?_ ?_))))); (focus (simp (maxSteps := 9999999) (disch := omega) only [go_sem, h1, sg.ren, tb_ren, tb_lit, bA_ren, sg.seg, sg.noAny, List.take_length]; rfl))) | ((first | (with_reducible apply CallG.plain1 [161, 0] (c3)) | (with_reducible apply CallG.draw1 [161, 0] (c3))); (focus ((try refine And.intro (leAs_of_eq rfl) ?_); (try refine And.intro (leOL_of_eq rfl) ?_); simp (maxSteps := 9999999) (disch := omega) only [go_sem, h1, sg.ren, tb_ren, tb_lit, bA_ren, sg.seg, sg.noAny, List.take_length]; first | done | (repeat' (first | rfl | (refine And.intro ?_ ?_))))); (focus (simp (maxSteps := 9999999) (disch := omega) only [go_sem, h1, sg.ren, tb_ren, tb_lit, bA_ren, sg.seg, sg.noAny, List.take_length]; rfl))) | ((first | (with_reducible apply CallG.plain1 [129, 161] (c4)) | (with_reducible apply CallG.draw1 [129, 161] (c4))); (focus ((try refine And.intro (leAs_of_eq rfl) ?_); (try refine And.intro (leOL_of_eq rfl) ?_); simp (maxSteps := 9999999) (disch := omega) only [go_sem, h1, sg.ren, tb_ren, tb_lit, bA_ren, sg.seg, sg.noAny, List.take_length]; first | done | (repeat' (first | rfl | (refine And.intro ?_ ?_))))); (focus (simp (maxSteps := 9999999) (disch := omega) only [go_sem, h1, sg.ren, tb_ren, tb_lit, bA_ren, sg.seg, sg.noAny, List.take_length]; rfl))) | ((first | (with_reducible apply CallG.plain1 [] (speaks03_any)) | (with_reducible apply CallG.draw1 [] (speaks03_any))); (focus ((try refine And.intro (leAs_of_eq rfl) ?_); (try refine And.intro (leOL_of_eq rfl) ?_); simp (maxSteps := 9999999) (disch := omega) only [go_sem, h1, sg.ren, tb_ren, tb_lit, bA_ren, sg.seg, sg.noAny, List.take_length]; first | done | (repeat' (first | rfl | (refine And.intro ?_ ?_))))); (focus (simp (maxSteps := 9999999) (disch := omega) only [go_sem, h1, sg.ren, tb_ren, tb_lit, bA_ren, sg.seg, sg.noAny, List.take_length]; rfl)))); (try simp (maxSteps := 9999999) (disch := omega) only [go_sem, h1, sg.ren, tb_ren, tb_lit, bA_ren, sg.seg, sg.noAny, List.take_length]); (try (refine And.intro ?_ ?_; (focus (first | omega | (simp only [go_sem]; done) | (simp; done) | (simp; omega) | assumption))))) | ((first | refine CondP.split (fun hif => ?_) (fun hif => ?_) | refine Runs.part (fun hif => ?_) (fun hif => ?_)) <;> ((try simp only [hif]); (try simp only [decide_eq_true_eq, decide_eq_false_iff_not, Bool.not_eq_true, Bool.not_eq_false, Bool.not_eq_true', Bool.not_eq_false', beq_iff_eq, bne_iff_ne, bne_eq_false_iff_eq, beq_eq_false_iff_ne, ne_eq, Bool.and_eq_true, Bool.or_eq_true, Bool.or_eq_false_iff] at hif); (try (have h9 : _ = true := hif; simp only [h9])); (try (have h9 : _ = false := hif; simp only [h9])); (try simp (maxSteps := 9999999) (disch := omega) only [go_sem, h1, sg.ren, tb_ren, tb_lit, bA_ren, sg.seg, sg.noAny, List.take_length]); (try (refine And.intro ?_ ?_; (focus (first | omega | (simp only [go_sem]; done) | (simp; done) | (simp; omega) | assumption)))); (try (exfalso; omega; done))))))
    (refine TopPost.of (by first | exact .inl rfl | exact .inr rfl) (by (try simp (maxSteps := 9999999) (disch := omega) only [go_sem]); rfl) ?_; (try simp (maxSteps := 9999999) (disch := omega) only [go_sem]); (try (first | trivial | decide | (simp; done))))
  · have c1 := d1.1 he
    have c2 := d2.1 he
    have g2 : (fdE L != 0) = true := by rw [bne_iff_ne]; exact he
    generalize fdE L = e at *
    (repeat' (first | refine AWpA.seq ?_ | refine AWpA.block ?_ | (with_reducible refine CondP.tt ?_) | (with_reducible refine CondP.ff ?_) | refine AWpA.condv (by simp (maxSteps := 9999999) (disch := omega) only [go_sem, h1, g2, sg.ren, tb_ren, tb_lit, bA_ren]; rfl) ?_ | ((first | (apply AWpA.region; (focus (simp (maxSteps := 9999999) (disch := omega) only [go_sem, h1, g2, sg.ren, tb_ren, tb_lit, bA_ren]; rfl))) | (apply AWpA.draw [] follows; (focus (simp (maxSteps := 9999999) (disch := omega) only [go_sem, h1, g2, sg.ren, tb_ren, tb_lit, bA_ren]; rfl)); (focus (simp (maxSteps := 9999999) (disch := omega) only [go_sem, h1, g2, sg.ren, tb_ren, tb_lit, bA_ren]; first | done | trivial)); (focus (simp (maxSteps := 9999999) (disch := omega) only [go_sem, h1, g2, sg.ren, tb_ren, tb_lit, bA_ren]; rfl))) | (apply TailK.go; (focus (simp (maxSteps := 9999999) (disch := omega) only [go_sem, h1, g2, sg.ren, tb_ren, tb_lit, bA_ren]; rfl))) | refine AWpA.skip ?_ | refine AWpA.exit ?_ | refine AWpA.ret ?_ | (with_reducible refine ARoundsA.succ ?_) | ((first | refine Runs.kt (by assumption) (fun h9 => ?_) | refine Runs.kf (by assumption) (fun h9 => ?_) | refine Runs.nt (by assumption) (fun h9 => ?_) | refine Runs.nf (by assumption) (fun h9 => ?_) | refine CondP.ht (by assumption) (fun h9 => ?_) | refine CondP.hf (by assumption) (fun h9 => ?_) | refine CondP.nt (by assumption) (fun h9 => ?_) | refine CondP.nf (by assumption) (fun h9 => ?_)); (try simp only [h9]); clear h9) | ((first | (with_reducible apply CallG.plain1 [] (speaks03_any)) | (with_reducible apply CallG.plain1 [129, 0] (c1)) | (with_reducible apply CallG.plain1 [0] (c2)) | (with_reducible apply CallG.plain1 [] (is_zero)) | (with_reducible apply CallG.draw1 [] (speaks03_any)) | (with_reducible apply CallG.draw1 [129, 0] (c1)) | (with_reducible apply CallG.draw1 [0] (c2)) | (with_reducible apply CallG.draw1 [] (is_zero))); (focus ((try refine And.intro (leAs_of_eq rfl) ?_); (try refine And.intro (leOL_of_eq rfl) ?_); simp (maxSteps := 9999999) (disch := omega) only [go_sem, h1, g2, sg.ren, tb_ren, tb_lit, bA_ren]; first | done | (repeat' (first | rfl | (refine And.intro ?_ ?_))))); (focus (simp (maxSteps := 9999999) (disch := omega) only [go_sem, h1, g2, sg.ren, tb_ren, tb_lit, bA_ren]; rfl)))); (try simp (maxSteps := 9999999) (disch := omega) only [go_sem, h1, g2, sg.ren, tb_ren, tb_lit, bA_ren]); (try (refine And.intro ?_ ?_; (focus (first | omega | (simp only [go_sem]; done) | (simp; done) | (simp; omega) | assumption))))) | ((first | refine CondP.split (fun hif => ?_) (fun hif => ?_) | refine Runs.part (fun hif => ?_) (fun hif => ?_)) <;> ((try simp only [hif]); (try simp only [decide_eq_true_eq, decide_eq_false_iff_not, Bool.not_eq_true, Bool.not_eq_false, Bool.not_eq_true', Bool.not_eq_false', beq_iff_eq, bne_iff_ne, bne_eq_false_iff_eq, beq_eq_false_iff_ne, ne_eq, Bool.and_eq_true, Bool.or_eq_true, Bool.or_eq_false_iff] at hif); (try (have h9 : _ = true := hif; simp only [h9])); (try (have h9 : _ = false := hif; simp only [h9])); (try simp (maxSteps := 9999999) (disch := omega) only [go_sem, h1, g2, sg.ren, tb_ren, tb_lit, bA_ren]); (try (refine And.intro ?_ ?_; (focus (first | omega | (simp only [go_sem]; done) | (simp; done) | (simp; omega) | assumption)))); (try (exfalso; omega; done))))))
    (refine TopPost.of (by first | exact .inl rfl | exact .inr rfl) (by (try simp (maxSteps := 9999999) (disch := omega) only [go_sem]); rfl) ?_; (try simp (maxSteps := 9999999) (disch := omega) only [go_sem]); (try (first | trivial | decide | (simp; done))))
end Go.Proofs.Ythbpdmlbfnjoiaa
