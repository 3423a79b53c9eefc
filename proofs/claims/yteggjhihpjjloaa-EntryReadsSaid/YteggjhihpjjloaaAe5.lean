/- The walk of EntryReads. -/
import Derived.Test.YteggjhihpjjloaaAe4
import Derived.Test.YteggjhihpjjloaaAb
namespace Go.Proofs.Yteggjhihpjjloaa
set_option linter.unusedSimpArgs false
set_option linter.unusedVariables false
set_option maxHeartbeats 4000000
open Go Go.Am Go.RowKit Go.ChangeShapes Go.WideShapes Go.ChangeAt
set_option maxRecDepth 100000
/- quidnunc/quidnunclaw05.EntryReads -/
noncomputable def c13_1 : ACode := .region false [⟨some 2, .move, [.c (.val (.bool false))], none⟩] [] [] [0] false [] []
noncomputable def c13_4 : ACode := .region false [⟨some 13, .call 44, [], none⟩,
  ⟨some 14, .un .not, [.t 13], none⟩,
  ⟨some 15, .move, [.t 14], none⟩,
  ⟨some 16, .move, [.t 0], some (some 15, false)⟩,
  ⟨some 17, .len, [.t 16], some (some 15, false)⟩,
  ⟨some 18, .bin .gtr, [.t 17, .c (.val (.int .i64 200))], some (some 15, false)⟩,
  ⟨some 19, .pick, [.t 15, .c (.val (.bool true)), .t 18], none⟩] [] [] [0, 19] true [] []
noncomputable def c13_7 : ACode := .region false [⟨some 20, .call 44, [], none⟩,
  ⟨some 2, .move, [.t 20], none⟩] [] [] [2] true [] []
noncomputable def c13_6 : ACode := .seq c13_7 .ret
noncomputable def c13_5 : ACode := .cond (.t 19) c13_6 .skip
noncomputable def c13_3 : ACode := .seq c13_4 c13_5
noncomputable def c13_9 : ACode := .region false [⟨some 22, .move, [.t 0], none⟩,
  ⟨some 23, .call 73, [.t 22], none⟩,
  ⟨some 21, .move, [.t 23], none⟩,
  ⟨some 24, .ext 0, [.t 21], none⟩,
  ⟨some 25, .ext 1, [.t 21], none⟩,
  ⟨some 3, .alloc [(.string ⟨#[]⟩), (.string ⟨#[]⟩), (.bool false), (.int .i64 0), (.int .i64 0), (.int .i64 0), (.int .i64 0), (.int .i64 0), (.int .i64 0)], [], none⟩,
  ⟨none, .store 9, [.t 3, .t 24], none⟩,
  ⟨some 4, .move, [.t 25], none⟩] [] [] [0, 3, 4] true [] []
noncomputable def c13_11 : ACode := .region false [⟨some 27, .move, [.t 0], none⟩,
  ⟨some 28, .call 74, [.t 27], none⟩,
  ⟨some 26, .move, [.t 28], none⟩,
  ⟨some 29, .ext 0, [.t 26], none⟩,
  ⟨some 30, .ext 1, [.t 26], none⟩,
  ⟨some 5, .alloc [(.string ⟨#[]⟩), (.string ⟨#[]⟩), (.bool false), (.int .i64 0), (.int .i64 0), (.int .i64 0), (.int .i64 0), (.int .i64 0), (.int .i64 0)], [], none⟩,
  ⟨none, .store 9, [.t 5, .t 29], none⟩,
  ⟨some 6, .move, [.t 30], none⟩] [] [] [0, 3, 4, 5, 6] true [] []
noncomputable def c13_14 : ACode := .region true [⟨some 31, .move, [.t 4], none⟩,
  ⟨some 32, .move, [.t 6], none⟩,
  ⟨some 33, .bin .neq, [.t 31, .t 32], none⟩,
  ⟨some 34, .move, [.t 33], none⟩,
  ⟨some 35, .load true 9, [.t 3], some (some 34, false)⟩,
  ⟨some 36, .call 50, [.t 35], some (some 34, false)⟩,
  ⟨some 37, .load true 9, [.t 5], some (some 34, false)⟩,
  ⟨some 38, .eqA true [(0, 1), (1, 1), (2, 2), (3, 0), (4, 0), (5, 0), (6, 0), (7, 0), (8, 0)], [.t 36, .t 37], some (some 34, false)⟩,
  ⟨some 39, .pick, [.t 34, .c (.val (.bool true)), .t 38], none⟩] [] [] [0, 3, 6, 39] true [] []
noncomputable def c13_17 : ACode := .region false [⟨some 2, .move, [.c (.val (.bool false))], none⟩] [] [] [2] false [] []
noncomputable def c13_16 : ACode := .seq c13_17 .ret
noncomputable def c13_15 : ACode := .cond (.t 39) c13_16 .skip
noncomputable def c13_13 : ACode := .seq c13_14 c13_15
noncomputable def c13_19 : ACode := .region false [⟨some 40, .move, [.t 0], none⟩,
  ⟨some 41, .call 57, [.t 40], none⟩,
  ⟨some 7, .move, [.t 41], none⟩] [] [] [0, 3, 6, 7] true [] []
noncomputable def c13_21 : ACode := .region false [⟨some 42, .move, [.t 7], none⟩,
  ⟨some 43, .call 75, [.t 42], none⟩,
  ⟨some 8, .alloc [(.string ⟨#[]⟩), (.string ⟨#[]⟩), (.bool false), (.int .i64 0), (.int .i64 0), (.int .i64 0), (.int .i64 0), (.int .i64 0), (.int .i64 0)], [], none⟩,
  ⟨none, .store 9, [.t 8, .t 43], none⟩] [] [] [0, 3, 6, 7, 8] true [] []
noncomputable def c13_23 : ACode := .region false [⟨some 45, .move, [.t 0], none⟩,
  ⟨some 46, .build [(.slice none 0 0), (.int .i64 0), (.int .i64 0)] [(0, 1)], [.t 45], none⟩,
  ⟨some 47, .call 76, [.t 46], none⟩,
  ⟨some 44, .move, [.t 47], none⟩,
  ⟨some 48, .ext 0, [.t 44], none⟩,
  ⟨some 49, .ext 1, [.t 44], none⟩,
  ⟨some 9, .alloc [(.slice none 0 0), (.int .i64 0), (.int .i64 0)], [], none⟩,
  ⟨some 10, .alloc [(.string ⟨#[]⟩), (.string ⟨#[]⟩), (.bool false), (.int .i64 0), (.int .i64 0), (.int .i64 0), (.int .i64 0), (.int .i64 0), (.int .i64 0)], [], none⟩,
  ⟨none, .store 3, [.t 9, .t 48], none⟩,
  ⟨none, .store 9, [.t 10, .t 49], none⟩] [] [] [0, 3, 6, 7, 8, 9, 10] true [] []
noncomputable def c13_26 : ACode := .region true [⟨some 50, .load true 9, [.t 8], none⟩,
  ⟨some 51, .call 50, [.t 50], none⟩,
  ⟨some 52, .load true 9, [.t 10], none⟩,
  ⟨some 53, .eqA true [(0, 1), (1, 1), (2, 2), (3, 0), (4, 0), (5, 0), (6, 0), (7, 0), (8, 0)], [.t 51, .t 52], none⟩,
  ⟨some 54, .move, [.t 53], none⟩,
  ⟨some 55, .move, [.t 7], some (some 54, false)⟩,
  ⟨some 56, .nilChk, [.t 55], some (some 54, false)⟩,
  ⟨some 57, .addr 0, [.t 56], some (some 54, false)⟩,
  ⟨some 58, .call 71, [.t 57], some (some 54, false)⟩,
  ⟨some 59, .addr 2, [.t 9], some (some 54, false)⟩,
  ⟨some 60, .load false 1, [.t 59], some (some 54, false)⟩,
  ⟨some 61, .bin .neq, [.t 58, .t 60], some (some 54, false)⟩,
  ⟨some 62, .pick, [.t 54, .c (.val (.bool true)), .t 61], none⟩,
  ⟨some 63, .move, [.t 62], none⟩,
  ⟨some 64, .addr 2, [.t 9], some (some 63, false)⟩,
  ⟨some 65, .load false 1, [.t 64], some (some 63, false)⟩,
  ⟨some 66, .bin .eql, [.t 65, .c (.val (.int .i64 0))], some (some 63, false)⟩,
  ⟨some 67, .move, [.t 66], some (some 63, false)⟩,
  ⟨some 68, .move, [.t 7], some (some 67, true)⟩,
  ⟨some 69, .call 72, [.t 68], some (some 67, true)⟩,
  ⟨some 70, .move, [.t 0], some (some 67, true)⟩,
  ⟨some 71, .len, [.t 70], some (some 67, true)⟩,
  ⟨some 72, .addr 1, [.t 9], some (some 67, true)⟩,
  ⟨some 73, .load false 1, [.t 72], some (some 67, true)⟩,
  ⟨some 74, .bin .sub, [.t 71, .t 73], some (some 67, true)⟩,
  ⟨some 75, .bin .neq, [.t 69, .t 74], some (some 67, true)⟩,
  ⟨some 76, .pick, [.t 67, .t 75, .c (.val (.bool false))], some (some 63, false)⟩,
  ⟨some 77, .pick, [.t 63, .c (.val (.bool true)), .t 76], none⟩] [] [] [0, 3, 6, 77] true [] []
noncomputable def c13_29 : ACode := .region false [⟨some 2, .move, [.c (.val (.bool false))], none⟩] [] [] [2] false [] []
noncomputable def c13_28 : ACode := .seq c13_29 .ret
noncomputable def c13_27 : ACode := .cond (.t 77) c13_28 .skip
noncomputable def c13_25 : ACode := .seq c13_26 c13_27
noncomputable def c13_32 : ACode := .region false [⟨some 78, .move, [.t 6], none⟩,
  ⟨some 79, .bin .neq, [.t 78, .c (.val (.int .i64 0))], none⟩] [] [] [0, 3, 79] false [] []
noncomputable def c13_35 : ACode := .region false [⟨some 2, .move, [.c (.val (.bool true))], none⟩] [] [] [2] false [] []
noncomputable def c13_34 : ACode := .seq c13_35 .ret
noncomputable def c13_33 : ACode := .cond (.t 79) c13_34 .skip
noncomputable def c13_31 : ACode := .seq c13_32 c13_33
noncomputable def c13_37 : ACode := .region false [⟨some 81, .load true 9, [.t 3], none⟩,
  ⟨some 82, .call 77, [.t 81], none⟩,
  ⟨some 80, .move, [.t 82], none⟩,
  ⟨some 83, .ext 0, [.t 80], none⟩,
  ⟨some 84, .ext 1, [.t 80], none⟩,
  ⟨some 11, .move, [.t 83], none⟩,
  ⟨some 12, .move, [.t 84], none⟩] [] [] [0, 11, 12] true [] []
noncomputable def c13_39 : ACode := .region false [⟨some 85, .move, [.t 12], none⟩,
  ⟨some 86, .bin .eql, [.t 85, .c (.val (.int .i64 0))], none⟩,
  ⟨some 87, .move, [.t 86], none⟩,
  ⟨some 88, .move, [.t 11], some (some 87, true)⟩,
  ⟨some 89, .toStr, [.t 88], some (some 87, true)⟩,
  ⟨some 90, .move, [.t 0], some (some 87, true)⟩,
  ⟨some 91, .toStr, [.t 90], some (some 87, true)⟩,
  ⟨some 92, .bin .eql, [.t 89, .t 91], some (some 87, true)⟩,
  ⟨some 93, .pick, [.t 87, .t 92, .c (.val (.bool false))], none⟩,
  ⟨some 2, .move, [.t 93], none⟩] [] [] [2] false [] []
noncomputable def c13_38 : ACode := .seq c13_39 .ret
noncomputable def c13_36 : ACode := .seq c13_37 c13_38
noncomputable def c13_30 : ACode := .seq c13_31 c13_36
noncomputable def c13_24 : ACode := .seq c13_25 c13_30
noncomputable def c13_22 : ACode := .seq c13_23 c13_24
noncomputable def c13_20 : ACode := .seq c13_21 c13_22
noncomputable def c13_18 : ACode := .seq c13_19 c13_20
noncomputable def c13_12 : ACode := .seq c13_13 c13_18
noncomputable def c13_10 : ACode := .seq c13_11 c13_12
noncomputable def c13_8 : ACode := .seq c13_9 c13_10
noncomputable def c13_2 : ACode := .seq c13_3 c13_8
noncomputable def c13_0 : ACode := .seq c13_1 c13_2
noncomputable def code13 : Code := (Try.f13.body).getD .skip
theorem c13_ok : compC Try.prog 94 code13 = some (strip c13_0) := by kernel_rfl
theorem res13_ok : Try.f13.results.toList.mapM (resC Try.prog) = some [(2, none)] := by kernel_rfl
theorem ereads_walk (W : World) (b : Sl Int) (hb0 : b.ok W 1 (fun n : Int => [.int .u8 n]) (fun n : Int => IntKind.u8.min ≤ n ∧ n ≤ IntKind.u8.max)) :
    Calls Try.prog 13 #[.slice b.ad b.l.length b.cap] W fun e W' => e = .returned (.bool true) ∧ Below W.heap.size W W' := by
  obtain ⟨ad, off, cap, L⟩ := b
  have hz := hb0.fz
  have hb : bytesB L := hb0.all
  simp only at hz hb
  by_cases h200 : 200 < L.length
  · have h1 : ((200 : Int) < (L.length : Int)) = True := eq_true (by omega)
    refine top_call c13_ok Try.func13 rfl Try.ntmps13 res13_ok [ .val (.slice ad L.length cap)] (by simp) (by (repeat' (first | exact VRs_nil' _ | exact VR_val' _ _ | (refine VRs_cons' ?_ ?_) | (refine VR_agg' rfl ?_; simp [Value.oneCell'])))) ?_; try simp (maxSteps := 9999999) (disch := omega) only [go_sem]
    (repeat' (first | refine AWpA.seq ?_ | refine AWpA.block ?_ | (with_reducible refine CondP.tt ?_) | (with_reducible refine CondP.ff ?_) | refine AWpA.condv (by simp (maxSteps := 9999999) (disch := omega) only [go_sem, h1]; rfl) ?_ | ((first | (apply AWpA.region; (focus (simp (maxSteps := 9999999) (disch := omega) only [go_sem, h1]; rfl))) | (apply AWpA.draw [] follows; (focus (simp (maxSteps := 9999999) (disch := omega) only [go_sem, h1]; rfl)); (focus (simp (maxSteps := 9999999) (disch := omega) only [go_sem, h1]; first | done | trivial)); (focus (simp (maxSteps := 9999999) (disch := omega) only [go_sem, h1]; rfl))) | (apply TailK.go; (focus (simp (maxSteps := 9999999) (disch := omega) only [go_sem, h1]; rfl))) | refine AWpA.skip ?_ | refine AWpA.exit ?_ | refine AWpA.ret ?_ | (with_reducible refine ARoundsA.succ ?_) | ((first | refine Runs.kt (by assumption) (fun h9 => ?_) | refine Runs.kf (by assumption) (fun h9 => ?_) | refine Runs.nt (by assumption) (fun h9 => ?_) | refine Runs.nf (by assumption) (fun h9 => ?_) | refine CondP.ht (by assumption) (fun h9 => ?_) | refine CondP.hf (by assumption) (fun h9 => ?_) | refine CondP.nt (by assumption) (fun h9 => ?_) | refine CondP.nf (by assumption) (fun h9 => ?_)); (try simp only [h9]); clear h9) | ((first | (with_reducible apply CallG.plain1 [] (speaks05)) | (with_reducible apply CallG.draw1 [] (speaks05))); (focus ((try refine And.intro (leAs_of_eq rfl) ?_); (try refine And.intro (leOL_of_eq rfl) ?_); simp (maxSteps := 9999999) (disch := omega) only [go_sem, h1]; first | done | (repeat' (first | rfl | (refine And.intro ?_ ?_))))); (focus (simp (maxSteps := 9999999) (disch := omega) only [go_sem, h1]; rfl)))); (try simp (maxSteps := 9999999) (disch := omega) only [go_sem, h1]); (try (refine And.intro ?_ ?_; (focus (first | omega | (simp only [go_sem]; done) | (simp; done) | (simp; omega) | assumption))))) | ((first | refine CondP.split (fun hif => ?_) (fun hif => ?_) | refine Runs.part (fun hif => ?_) (fun hif => ?_)) <;> ((try simp only [hif]); (try simp only [decide_eq_true_eq, decide_eq_false_iff_not, Bool.not_eq_true, Bool.not_eq_false, Bool.not_eq_true', Bool.not_eq_false', beq_iff_eq, bne_iff_ne, bne_eq_false_iff_eq, beq_eq_false_iff_ne, ne_eq, Bool.and_eq_true, Bool.or_eq_true, Bool.or_eq_false_iff] at hif); (try (have h9 : _ = true := hif; simp only [h9])); (try (have h9 : _ = false := hif; simp only [h9])); (try simp (maxSteps := 9999999) (disch := omega) only [go_sem, h1]); (try (refine And.intro ?_ ?_; (focus (first | omega | (simp only [go_sem]; done) | (simp; done) | (simp; omega) | assumption)))); (try (exfalso; omega; done))))))
    (refine TopPost.of (by first | exact .inl rfl | exact .inr rfl) (by (try simp (maxSteps := 9999999) (disch := omega) only [go_sem]); rfl) ?_; (try simp (maxSteps := 9999999) (disch := omega) only [go_sem]); (try (first | trivial | decide | (simp; done))))
  have h1 : ((200 : Int) < (L.length : Int)) = False := eq_false (by omega)
  have s := Seg.rows (off := off) (l := L) (by omega)
  have hL : L.length ≤ 1099511627776 := by omega
  have hle := enC_le hb (c := ⟨0, 0⟩) (Nat.zero_le _)
  have hbk := dec_back hb
  have hd1 := edec_any s hb
  have hd2 := cdec_any s hb
  have hr := read_any s
  have ht1 := etake_any hL hb ⟨0, 0⟩ (Nat.zero_le _)
  have ht2 := ctakeE_any s hb ⟨0, 0⟩ (Nat.zero_le _)
  have hen := encode_any (decV L)
  have hsub : (L.length : Int) - ((enC L ⟨0, 0⟩).a : Int) = ((L.length - (enC L ⟨0, 0⟩).a : Nat) : Int) := by omega
  have hen2 : (decC L).e = 0 → checkI (decV L) = 0 ∧ encL (decV L) = L := fun h => by
    obtain ⟨k1, k2, k3⟩ := hbk h
    rw [k1]
    exact ⟨k2, by unfold encL; rw [k2]; exact k3⟩
  clear hbk
  refine top_call c13_ok Try.func13 rfl Try.ntmps13 res13_ok [ .val (.slice ad L.length cap)] (by simp) (by (repeat' (first | exact VRs_nil' _ | exact VR_val' _ _ | (refine VRs_cons' ?_ ?_) | (refine VR_agg' rfl ?_; simp [Value.oneCell'])))) ?_; try simp (maxSteps := 9999999) (disch := omega) only [go_sem]
  refine AWpA.thawT 0 (fun n : Int => [.val (.int .u8 n)]) hz (fun _ => rfl) rfl ?_
  generalize hP : rowsC off (fun n : Int => [.val (.int .u8 n)]) L = P at *
  generalize enC L ⟨0, 0⟩ = c1 at *
  generalize enV L ⟨0, 0⟩ = v1 at *
  generalize decV L = v2 at *
  generalize (decC L).e = e2 at *
  have hle2 := s.le
  by_cases h : e2 = 0
  · obtain ⟨k1, k2⟩ := hen2 h
    rw [k1, k2] at hen
    clear hen2
    subst h
    (repeat' (first | refine AWpA.seq ?_ | refine AWpA.block ?_ | (with_reducible refine CondP.tt ?_) | (with_reducible refine CondP.ff ?_) | refine AWpA.condv (by simp (maxSteps := 9999999) (disch := omega) only [go_sem, h1, s.ren, s.seg, hsub]; rfl) ?_ | ((first | (apply AWpA.region; (focus (simp (maxSteps := 9999999) (disch := omega) only [go_sem, h1, s.ren, s.seg, hsub]; rfl))) | (apply AWpA.draw [] follows; (focus (simp (maxSteps := 9999999) (disch := omega) only [go_sem, h1, s.ren, s.seg, hsub]; rfl)); (focus (simp (maxSteps := 9999999) (disch := omega) only [go_sem, h1, s.ren, s.seg, hsub]; first | done | trivial)); (focus (simp (maxSteps := 9999999) (disch := omega) only [go_sem, h1, s.ren, s.seg, hsub]; rfl))) | (apply TailK.go; (focus (simp (maxSteps := 9999999) (disch := omega) only [go_sem, h1, s.ren, s.seg, hsub]; rfl))) | refine AWpA.skip ?_ | refine AWpA.exit ?_ | refine AWpA.ret ?_ | (with_reducible refine ARoundsA.succ ?_) | ((first | refine Runs.kt (by assumption) (fun h9 => ?_) | refine Runs.kf (by assumption) (fun h9 => ?_) | refine Runs.nt (by assumption) (fun h9 => ?_) | refine Runs.nf (by assumption) (fun h9 => ?_) | refine CondP.ht (by assumption) (fun h9 => ?_) | refine CondP.hf (by assumption) (fun h9 => ?_) | refine CondP.nt (by assumption) (fun h9 => ?_) | refine CondP.nf (by assumption) (fun h9 => ?_)); (try simp only [h9]); clear h9) | ((first | (with_reducible apply CallG.plain1 [] (to05_any v2)) | (with_reducible apply CallG.draw1 [] (to05_any v2))); (focus ((try refine And.intro (leAs_of_eq rfl) ?_); (try refine And.intro (leOL_of_eq rfl) ?_); simp (maxSteps := 9999999) (disch := omega) only [go_sem, h1, s.ren, s.seg, hsub]; first | done | (repeat' (first | rfl | (refine And.intro ?_ ?_))))); (focus (simp (maxSteps := 9999999) (disch := omega) only [go_sem, h1, s.ren, s.seg, hsub]; rfl))) | ((first | (with_reducible apply CallG.plain1 [] (to05_any v1)) | (with_reducible apply CallG.draw1 [] (to05_any v1))); (focus ((try refine And.intro (leAs_of_eq rfl) ?_); (try refine And.intro (leOL_of_eq rfl) ?_); simp (maxSteps := 9999999) (disch := omega) only [go_sem, h1, s.ren, s.seg, hsub]; first | done | (repeat' (first | rfl | (refine And.intro ?_ ?_))))); (focus (simp (maxSteps := 9999999) (disch := omega) only [go_sem, h1, s.ren, s.seg, hsub]; rfl))) | ((first | (with_reducible apply CallG.plain1 [] (speaks05)) | (with_reducible apply CallG.plain1 [0] (hd1)) | (with_reducible apply CallG.plain1 [0] (hd2)) | (with_reducible apply CallG.plain1 [0] (hr)) | (with_reducible apply CallG.plain1 [545, 546] (ht1)) | (with_reducible apply CallG.plain1 [0] (ht2)) | (with_reducible apply CallG.plain1 [] (hen)) | (with_reducible apply CallG.plain1 [545] (rerr_any c1.e)) | (with_reducible apply CallG.plain1 [545, 546] (left_any c1.a L 0)) | (with_reducible apply CallG.draw1 [] (speaks05)) | (with_reducible apply CallG.draw1 [0] (hd1)) | (with_reducible apply CallG.draw1 [0] (hd2)) | (with_reducible apply CallG.draw1 [0] (hr)) | (with_reducible apply CallG.draw1 [545, 546] (ht1)) | (with_reducible apply CallG.draw1 [0] (ht2)) | (with_reducible apply CallG.draw1 [] (hen)) | (with_reducible apply CallG.draw1 [545] (rerr_any c1.e)) | (with_reducible apply CallG.draw1 [545, 546] (left_any c1.a L 0))); (focus ((try refine And.intro (leAs_of_eq rfl) ?_); (try refine And.intro (leOL_of_eq rfl) ?_); simp (maxSteps := 9999999) (disch := omega) only [go_sem, h1, s.ren, s.seg, hsub]; first | done | (repeat' (first | rfl | (refine And.intro ?_ ?_))))); (focus (simp (maxSteps := 9999999) (disch := omega) only [go_sem, h1, s.ren, s.seg, hsub]; rfl)))); (try simp (maxSteps := 9999999) (disch := omega) only [go_sem, h1, s.ren, s.seg, hsub]); (try (refine And.intro ?_ ?_; (focus (first | omega | (simp only [go_sem]; done) | (simp; done) | (simp; omega) | assumption))))) | ((first | refine CondP.split (fun hif => ?_) (fun hif => ?_) | refine Runs.part (fun hif => ?_) (fun hif => ?_)) <;> ((try simp only [hif]); (try simp only [decide_eq_true_eq, decide_eq_false_iff_not, Bool.not_eq_true, Bool.not_eq_false, Bool.not_eq_true', Bool.not_eq_false', beq_iff_eq, bne_iff_ne, bne_eq_false_iff_eq, beq_eq_false_iff_ne, ne_eq, Bool.and_eq_true, Bool.or_eq_true, Bool.or_eq_false_iff] at hif); (try (have h9 : _ = true := hif; simp only [h9])); (try (have h9 : _ = false := hif; simp only [h9])); (try simp (maxSteps := 9999999) (disch := omega) only [go_sem, h1, s.ren, s.seg, hsub]); (try (refine And.intro ?_ ?_; (focus (first | omega | (simp only [go_sem]; done) | (simp; done) | (simp; omega) | assumption)))); (try (exfalso; omega; done))))))
    all_goals (refine TopPost.of (by first | exact .inl rfl | exact .inr rfl) (by (try simp (maxSteps := 9999999) (disch := omega) only [go_sem]); rfl) ?_; (try simp (maxSteps := 9999999) (disch := omega) only [go_sem]); (try (first | trivial | decide | (simp; done))))
  · clear hen2
    (repeat' (first | refine AWpA.seq ?_ | refine AWpA.block ?_ | (with_reducible refine CondP.tt ?_) | (with_reducible refine CondP.ff ?_) | refine AWpA.condv (by simp (maxSteps := 9999999) (disch := omega) only [go_sem, h1, h, s.ren, s.seg, hsub]; rfl) ?_ | ((first | (apply AWpA.region; (focus (simp (maxSteps := 9999999) (disch := omega) only [go_sem, h1, h, s.ren, s.seg, hsub]; rfl))) | (apply AWpA.draw [] follows; (focus (simp (maxSteps := 9999999) (disch := omega) only [go_sem, h1, h, s.ren, s.seg, hsub]; rfl)); (focus (simp (maxSteps := 9999999) (disch := omega) only [go_sem, h1, h, s.ren, s.seg, hsub]; first | done | trivial)); (focus (simp (maxSteps := 9999999) (disch := omega) only [go_sem, h1, h, s.ren, s.seg, hsub]; rfl))) | (apply TailK.go; (focus (simp (maxSteps := 9999999) (disch := omega) only [go_sem, h1, h, s.ren, s.seg, hsub]; rfl))) | refine AWpA.skip ?_ | refine AWpA.exit ?_ | refine AWpA.ret ?_ | (with_reducible refine ARoundsA.succ ?_) | ((first | refine Runs.kt (by assumption) (fun h9 => ?_) | refine Runs.kf (by assumption) (fun h9 => ?_) | refine Runs.nt (by assumption) (fun h9 => ?_) | refine Runs.nf (by assumption) (fun h9 => ?_) | refine CondP.ht (by assumption) (fun h9 => ?_) | refine CondP.hf (by assumption) (fun h9 => ?_) | refine CondP.nt (by assumption) (fun h9 => ?_) | refine CondP.nf (by assumption) (fun h9 => ?_)); (try simp only [h9]); clear h9) | ((first | (with_reducible apply CallG.plain1 [] (to05_any v2)) | (with_reducible apply CallG.draw1 [] (to05_any v2))); (focus ((try refine And.intro (leAs_of_eq rfl) ?_); (try refine And.intro (leOL_of_eq rfl) ?_); simp (maxSteps := 9999999) (disch := omega) only [go_sem, h1, h, s.ren, s.seg, hsub]; first | done | (repeat' (first | rfl | (refine And.intro ?_ ?_))))); (focus (simp (maxSteps := 9999999) (disch := omega) only [go_sem, h1, h, s.ren, s.seg, hsub]; rfl))) | ((first | (with_reducible apply CallG.plain1 [] (to05_any v1)) | (with_reducible apply CallG.draw1 [] (to05_any v1))); (focus ((try refine And.intro (leAs_of_eq rfl) ?_); (try refine And.intro (leOL_of_eq rfl) ?_); simp (maxSteps := 9999999) (disch := omega) only [go_sem, h1, h, s.ren, s.seg, hsub]; first | done | (repeat' (first | rfl | (refine And.intro ?_ ?_))))); (focus (simp (maxSteps := 9999999) (disch := omega) only [go_sem, h1, h, s.ren, s.seg, hsub]; rfl))) | ((first | (with_reducible apply CallG.plain1 [] (speaks05)) | (with_reducible apply CallG.plain1 [0] (hd1)) | (with_reducible apply CallG.plain1 [0] (hd2)) | (with_reducible apply CallG.plain1 [0] (hr)) | (with_reducible apply CallG.plain1 [545, 546] (ht1)) | (with_reducible apply CallG.plain1 [0] (ht2)) | (with_reducible apply CallG.plain1 [545] (rerr_any c1.e)) | (with_reducible apply CallG.plain1 [545, 546] (left_any c1.a L 0)) | (with_reducible apply CallG.draw1 [] (speaks05)) | (with_reducible apply CallG.draw1 [0] (hd1)) | (with_reducible apply CallG.draw1 [0] (hd2)) | (with_reducible apply CallG.draw1 [0] (hr)) | (with_reducible apply CallG.draw1 [545, 546] (ht1)) | (with_reducible apply CallG.draw1 [0] (ht2)) | (with_reducible apply CallG.draw1 [545] (rerr_any c1.e)) | (with_reducible apply CallG.draw1 [545, 546] (left_any c1.a L 0))); (focus ((try refine And.intro (leAs_of_eq rfl) ?_); (try refine And.intro (leOL_of_eq rfl) ?_); simp (maxSteps := 9999999) (disch := omega) only [go_sem, h1, h, s.ren, s.seg, hsub]; first | done | (repeat' (first | rfl | (refine And.intro ?_ ?_))))); (focus (simp (maxSteps := 9999999) (disch := omega) only [go_sem, h1, h, s.ren, s.seg, hsub]; rfl)))); (try simp (maxSteps := 9999999) (disch := omega) only [go_sem, h1, h, s.ren, s.seg, hsub]); (try (refine And.intro ?_ ?_; (focus (first | omega | (simp only [go_sem]; done) | (simp; done) | (simp; omega) | assumption))))) | ((first | refine CondP.split (fun hif => ?_) (fun hif => ?_) | refine Runs.part (fun hif => ?_) (fun hif => ?_)) <;> ((try simp only [hif]); (try simp only [decide_eq_true_eq, decide_eq_false_iff_not, Bool.not_eq_true, Bool.not_eq_false, Bool.not_eq_true', Bool.not_eq_false', beq_iff_eq, bne_iff_ne, bne_eq_false_iff_eq, beq_eq_false_iff_ne, ne_eq, Bool.and_eq_true, Bool.or_eq_true, Bool.or_eq_false_iff] at hif); (try (have h9 : _ = true := hif; simp only [h9])); (try (have h9 : _ = false := hif; simp only [h9])); (try simp (maxSteps := 9999999) (disch := omega) only [go_sem, h1, h, s.ren, s.seg, hsub]); (try (refine And.intro ?_ ?_; (focus (first | omega | (simp only [go_sem]; done) | (simp; done) | (simp; omega) | assumption)))); (try (exfalso; omega; done))))))
    all_goals (refine TopPost.of (by first | exact .inl rfl | exact .inr rfl) (by (try simp (maxSteps := 9999999) (disch := omega) only [go_sem]); rfl) ?_; (try simp (maxSteps := 9999999) (disch := omega) only [go_sem]); (try (first | trivial | decide | (simp; done))))
end Go.Proofs.Yteggjhihpjjloaa
