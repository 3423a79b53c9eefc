/- The walk of SeenLast. -/
import Derived.Test.YtjcjmeeajkdlhaaAn5
namespace Go.Proofs.Ytjcjmeeajkdlhaa
set_option linter.unusedSimpArgs false
set_option linter.unusedVariables false
set_option maxHeartbeats 4000000
open Go Go.Am Go.RowKit Go.ChangeShapes Go.WideShapes Go.ChangeAt
set_option maxRecDepth 100000
/-- The last ones. -/
def lastN (n : Nat) (l : List Mk) : List Mk := l.drop (l.length - n)
theorem lastN_len (n : Nat) (l : List Mk) : (lastN n l).length = min l.length n := by unfold lastN; rw [List.length_drop]; omega
theorem addD_last {n : Nat} (h1 : 1 ≤ n) (l : List Mk) (m : Mk) (h : m ∉ lastN n l) : addD n (lastN n l) m = lastN n (l ++ [m]) := by
  unfold addD
  rw [if_neg h, lastN_len]
  unfold lastN
  rw [List.length_append, List.length_singleton]
  by_cases hn : n < min l.length n + 1
  · rw [if_pos hn]
    rw [← List.drop_append_of_le_length (by omega), List.drop_drop]
    congr 1
    omega
  · rw [if_neg hn, show l.length - n = 0 by omega, show l.length + 1 - n = 0 by omega]
    simp
/- quidnunc/quidnunclaw18.SeenLast -/
noncomputable def c5_1 : ACode := .region false [⟨some 4, .move, [.c (.val (.bool false))], none⟩] [] [] [0, 1] false [] []
noncomputable def c5_4 : ACode := .region false [⟨some 14, .call 22, [], none⟩,
  ⟨some 15, .un .not, [.t 14], none⟩,
  ⟨some 16, .move, [.t 15], none⟩,
  ⟨some 17, .move, [.t 1], some (some 16, false)⟩,
  ⟨some 18, .call 23, [.t 17], some (some 16, false)⟩,
  ⟨some 19, .un .not, [.t 18], some (some 16, false)⟩,
  ⟨some 20, .pick, [.t 16, .c (.val (.bool true)), .t 19], none⟩] [] [] [0, 1, 20] true [] []
noncomputable def c5_7 : ACode := .region false [⟨some 21, .call 22, [], none⟩,
  ⟨some 4, .move, [.t 21], none⟩] [] [] [4] true [] []
noncomputable def c5_6 : ACode := .seq c5_7 .ret
noncomputable def c5_5 : ACode := .cond (.t 20) c5_6 .skip
noncomputable def c5_3 : ACode := .seq c5_4 c5_5
noncomputable def c5_9 : ACode := .region false [⟨some 22, .move, [.t 0], none⟩,
  ⟨some 23, .conv .i64, [.t 22], none⟩,
  ⟨some 24, .bin .rem, [.t 23, .c (.val (.int .i64 40))], none⟩,
  ⟨some 25, .bin .add, [.c (.val (.int .i64 1)), .t 24], none⟩,
  ⟨some 5, .move, [.t 25], none⟩] [] [] [1, 5] false [] []
noncomputable def c5_11 : ACode := .region false [⟨some 27, .move, [.t 5], none⟩,
  ⟨some 28, .call 24, [.t 27], none⟩,
  ⟨some 26, .move, [.t 28], none⟩,
  ⟨some 29, .ext 0, [.t 26], none⟩,
  ⟨some 30, .ext 1, [.t 26], none⟩,
  ⟨some 6, .move, [.t 29], none⟩,
  ⟨some 7, .move, [.t 30], none⟩] [] [] [1, 5, 6, 7] true [] []
noncomputable def c5_14 : ACode := .region false [⟨some 31, .move, [.t 7], none⟩,
  ⟨some 32, .bin .neq, [.t 31, .c (.val (.int .i64 0))], none⟩,
  ⟨some 33, .move, [.t 32], none⟩,
  ⟨some 34, .move, [.t 6], some (some 33, false)⟩,
  ⟨some 35, .eqP false, [.t 34, .c (.val (.pointer none))], some (some 33, false)⟩,
  ⟨some 36, .pick, [.t 33, .c (.val (.bool true)), .t 35], none⟩] [] [] [1, 5, 6, 36] false [] []
noncomputable def c5_17 : ACode := .region false [⟨some 4, .move, [.c (.val (.bool false))], none⟩] [] [] [4] false [] []
noncomputable def c5_16 : ACode := .seq c5_17 .ret
noncomputable def c5_15 : ACode := .cond (.t 36) c5_16 .skip
noncomputable def c5_13 : ACode := .seq c5_14 c5_15
noncomputable def c5_19 : ACode := .region false [⟨some 8, .move, [.c (.val (.slice none 0 0))], none⟩] [] [] [1, 5, 6, 8] false [] []
noncomputable def c5_22 : ACode := .region false [⟨some 37, .move, [.t 1], none⟩,
  ⟨some 38, .len, [.t 37], none⟩,
  ⟨some 39, .move, [.c (.val (.int .i64 0))], none⟩] [] [] [5, 6, 8, 37, 38, 39] false [] []
noncomputable def c5_26 : ACode := .region false [⟨some 40, .bin .lss, [.t 39, .t 38], none⟩] [] [] [5, 6, 8, 37, 38, 39, 40] false [] []
noncomputable def c5_28 : ACode := .cond (.t 40) .skip (.exit 0)
noncomputable def c5_32 : ACode := .region false [⟨some 41, .ixS 3, [.t 37, .t 39], none⟩,
  ⟨some 42, .load true 3, [.t 41], none⟩,
  ⟨some 10, .alloc [(.int .i64 0), (.int .i64 0), (.string ⟨#[]⟩)], [], none⟩,
  ⟨none, .store 3, [.t 10, .t 42], none⟩] [] [] [5, 6, 8, 10, 37, 38, 39] true [] []
noncomputable def c5_34 : ACode := .region false [⟨some 43, .load true 3, [.t 10], none⟩,
  ⟨some 44, .call 28, [.t 43], none⟩,
  ⟨some 11, .alloc [(.int .i64 0), (.int .i64 0), (.string ⟨#[]⟩)], [], none⟩,
  ⟨none, .store 3, [.t 11, .t 44], none⟩] [] [] [5, 6, 8, 11, 37, 38, 39] true [] []
noncomputable def c5_36 : ACode := .region false [⟨some 45, .move, [.t 6], none⟩,
  ⟨some 46, .load true 3, [.t 11], none⟩,
  ⟨some 47, .call 30, [.t 45, .t 46], none⟩,
  ⟨some 12, .move, [.t 47], none⟩] [] [] [5, 6, 8, 11, 12, 37, 38, 39] true [] []
noncomputable def c5_39 : ACode := .region false [⟨some 48, .move, [.t 6], none⟩,
  ⟨some 49, .load true 3, [.t 11], none⟩,
  ⟨some 50, .call 27, [.t 48, .t 49], none⟩,
  ⟨some 51, .move, [.t 12], none⟩,
  ⟨some 52, .eqB false, [.t 50, .t 51], none⟩] [] [] [5, 6, 8, 11, 12, 37, 38, 39, 52] true [] []
noncomputable def c5_42 : ACode := .region false [⟨some 4, .move, [.c (.val (.bool false))], none⟩] [] [] [4] false [] []
noncomputable def c5_41 : ACode := .seq c5_42 .ret
noncomputable def c5_40 : ACode := .cond (.t 52) c5_41 .skip
noncomputable def c5_38 : ACode := .seq c5_39 c5_40
noncomputable def c5_45 : ACode := .region false [⟨some 53, .move, [.t 12], none⟩,
  ⟨some 54, .un .not, [.t 53], none⟩] [] [] [5, 6, 8, 11, 37, 38, 39, 54] false [] []
noncomputable def c5_47 : ACode := .region false [⟨some 55, .move, [.t 8], none⟩,
  ⟨some 56, .load true 3, [.t 11], none⟩,
  ⟨some 57, .buildSl 3 1 [(.int .i64 0), (.int .i64 0), (.string ⟨#[]⟩)] [(0, 3)], [.t 56], none⟩,
  ⟨some 58, .append 3 32 false, [.t 55, .t 57], none⟩,
  ⟨some 8, .move, [.t 58], none⟩] [] [] [5, 6, 8, 37, 38, 39] true [] []
noncomputable def c5_46 : ACode := .cond (.t 54) c5_47 .skip
noncomputable def c5_44 : ACode := .seq c5_45 c5_46
noncomputable def c5_50 : ACode := .region false [⟨some 59, .move, [.t 8], none⟩,
  ⟨some 60, .len, [.t 59], none⟩,
  ⟨some 61, .move, [.t 5], none⟩,
  ⟨some 62, .bin .sub, [.t 60, .t 61], none⟩,
  ⟨some 63, .max, [.t 62, .c (.val (.int .i64 0))], none⟩,
  ⟨some 13, .move, [.t 63], none⟩] [] [] [5, 6, 8, 13, 37, 38, 39] false [] []
noncomputable def c5_55 : ACode := .region false [⟨some 64, .move, [.t 13], none⟩,
  ⟨some 65, .move, [.t 8], none⟩,
  ⟨some 66, .len, [.t 65], none⟩,
  ⟨some 67, .bin .lss, [.t 64, .t 66], none⟩] [] [] [5, 6, 8, 13, 37, 38, 39, 67] false [] []
noncomputable def c5_56 : ACode := .cond (.t 67) .skip (.exit 2)
noncomputable def c5_54 : ACode := .seq c5_55 c5_56
noncomputable def c5_60 : ACode := .region false [⟨some 70, .move, [.t 6], none⟩,
  ⟨some 71, .move, [.t 8], none⟩,
  ⟨some 72, .move, [.t 13], none⟩,
  ⟨some 73, .ixS 3, [.t 71, .t 72], none⟩,
  ⟨some 74, .load true 3, [.t 73], none⟩,
  ⟨some 75, .call 30, [.t 70, .t 74], none⟩,
  ⟨some 76, .un .not, [.t 75], none⟩] [] [] [5, 6, 8, 13, 37, 38, 39, 76] true [] []
noncomputable def c5_63 : ACode := .region false [⟨some 4, .move, [.c (.val (.bool false))], none⟩] [] [] [4] false [] []
noncomputable def c5_62 : ACode := .seq c5_63 .ret
noncomputable def c5_61 : ACode := .cond (.t 76) c5_62 .skip
noncomputable def c5_59 : ACode := .seq c5_60 c5_61
noncomputable def c5_58 : ACode := .block 3 c5_59
noncomputable def c5_64 : ACode := .region false [⟨some 68, .move, [.t 13], none⟩,
  ⟨some 69, .bin .add, [.t 68, .c (.val (.int .i64 1))], none⟩,
  ⟨some 13, .move, [.t 69], none⟩] [] [] [5, 6, 8, 13, 37, 38, 39] false [] []
noncomputable def c5_57 : ACode := .seq c5_58 c5_64
noncomputable def c5_53 : ACode := .seq c5_54 c5_57
noncomputable def c5_52 : ACode := .loop c5_53
noncomputable def c5_51 : ACode := .block 2 c5_52
noncomputable def c5_49 : ACode := .seq c5_50 c5_51
noncomputable def c5_66 : ACode := .region false [⟨some 77, .move, [.t 6], none⟩,
  ⟨some 78, .call 29, [.t 77], none⟩,
  ⟨some 79, .move, [.t 8], none⟩,
  ⟨some 80, .len, [.t 79], none⟩,
  ⟨some 81, .move, [.t 5], none⟩,
  ⟨some 82, .min, [.t 80, .t 81], none⟩,
  ⟨some 83, .bin .neq, [.t 78, .t 82], none⟩,
  ⟨some 84, .move, [.t 83], none⟩,
  ⟨some 85, .move, [.t 6], some (some 84, false)⟩,
  ⟨some 86, .call 34, [.t 85], some (some 84, false)⟩,
  ⟨some 87, .len, [.t 86], some (some 84, false)⟩,
  ⟨some 88, .move, [.t 6], some (some 84, false)⟩,
  ⟨some 89, .call 29, [.t 88], some (some 84, false)⟩,
  ⟨some 90, .bin .neq, [.t 87, .t 89], some (some 84, false)⟩,
  ⟨some 91, .pick, [.t 84, .c (.val (.bool true)), .t 90], none⟩] [] [] [5, 6, 8, 37, 38, 39, 91] true [] []
noncomputable def c5_69 : ACode := .region false [⟨some 4, .move, [.c (.val (.bool false))], none⟩] [] [] [4] false [] []
noncomputable def c5_68 : ACode := .seq c5_69 .ret
noncomputable def c5_67 : ACode := .cond (.t 91) c5_68 .skip
noncomputable def c5_65 : ACode := .seq c5_66 c5_67
noncomputable def c5_48 : ACode := .seq c5_49 c5_65
noncomputable def c5_43 : ACode := .seq c5_44 c5_48
noncomputable def c5_37 : ACode := .seq c5_38 c5_43
noncomputable def c5_35 : ACode := .seq c5_36 c5_37
noncomputable def c5_33 : ACode := .seq c5_34 c5_35
noncomputable def c5_31 : ACode := .seq c5_32 c5_33
noncomputable def c5_30 : ACode := .block 1 c5_31
noncomputable def c5_70 : ACode := .region false [⟨some 92, .bin .add, [.t 39, .c (.val (.int .i64 1))], none⟩,
  ⟨some 39, .move, [.t 92], none⟩] [] [] [5, 6, 8, 37, 38, 39] false [] []
noncomputable def c5_29 : ACode := .seq c5_30 c5_70
noncomputable def c5_27 : ACode := .seq c5_28 c5_29
noncomputable def c5_25 : ACode := .seq c5_26 c5_27
noncomputable def c5_24 : ACode := .loop c5_25
noncomputable def c5_23 : ACode := .block 0 c5_24
noncomputable def c5_21 : ACode := .seq c5_22 c5_23
noncomputable def c5_72 : ACode := .region false [⟨some 4, .move, [.c (.val (.bool true))], none⟩] [] [] [4] false [] []
noncomputable def c5_71 : ACode := .seq c5_72 .ret
noncomputable def c5_20 : ACode := .seq c5_21 c5_71
noncomputable def c5_18 : ACode := .seq c5_19 c5_20
noncomputable def c5_12 : ACode := .seq c5_13 c5_18
noncomputable def c5_10 : ACode := .seq c5_11 c5_12
noncomputable def c5_8 : ACode := .seq c5_9 c5_10
noncomputable def c5_2 : ACode := .seq c5_3 c5_8
noncomputable def c5_0 : ACode := .seq c5_1 c5_2
noncomputable def code5 : Code := (Try.f5.body).getD .skip
theorem c5_ok : compC Try.prog 93 code5 = some (strip c5_0) := by kernel_rfl
theorem res5_ok : Try.f5.results.toList.mapM (resC Try.prog) = some [(4, none)] := by kernel_rfl
theorem rm_getD {l : List Mk} {i : Nat} (h : i < l.length) : ((Rm 0 l).drop (i * 3)).take 3 = MkL l[i] := by
  have := rm_at 0 l i h
  rwa [Nat.zero_add] at this
theorem seenLast_walk (W : World) (room : Int) (sl : Sl Mk) (h0 : IntKind.u8.min ≤ room ∧ room ≤ IntKind.u8.max) (hz : Sl.ok W 3 Mk.rep (Mk.ok W) sl) :
    Calls Try.prog 5 #[.int .u8 room, .slice sl.ad sl.l.length sl.cap] W fun e W' => e = .returned (.bool true) ∧ Below W.heap.size W W' := by
  obtain ⟨ad, off, cap, l⟩ := sl
  obtain ⟨hz, -, hl⟩ := hz
  have hl : l.length ≤ 9223372036854775807 := by simpa [maxLen] using hl
  simp only at hz
  obtain ⟨h1, h2⟩ : 0 ≤ room ∧ room ≤ 255 := h0
  have hr := rm_ren off l
  have hlen := rm_len off l
  have hsh := short18_any off l hl
  cases hs : shortL l with
  | false =>
    rw [hs] at hsh
    refine top_call c5_ok Try.func5 rfl Try.ntmps5 res5_ok [ .val (.int .u8 room), .val (.slice ad l.length cap)] (by simp) (by (repeat' (first | exact VRs_nil' _ | exact VR_val' _ _ | (refine VRs_cons' ?_ ?_) | (refine VR_agg' (by first | rfl | assumption) ?_; first | assumption | simp [Value.oneCell', St.rep, Mk.rep])))) ?_; try simp (maxSteps := 9999999) (disch := omega) only [go_sem]
    refine AWpA.thawT 1 MkL hz (fun x => by simp [Mk.rep, St.rep]) rfl ?_
    (repeat' (first | refine AWpA.seq ?_ | refine AWpA.block ?_ | (with_reducible refine CondP.tt ?_) | (with_reducible refine CondP.ff ?_) | refine AWpA.condv (by simp (maxSteps := 9999999) (disch := omega) only [go_sem, hr]; rfl) ?_ | ((first | (apply AWpA.region; (focus (simp (maxSteps := 9999999) (disch := omega) only [go_sem, hr]; rfl))) | (apply AWpA.draw [] [] follows; (focus (first | rfl | decide)); (focus (simp (maxSteps := 9999999) (disch := omega) only [go_sem, hr]; rfl)); (focus (simp (maxSteps := 9999999) (disch := omega) only [go_sem, hr]; first | done | trivial)); (focus (simp (maxSteps := 9999999) (disch := omega) only [go_sem, hr]; rfl))) | (apply TailK.go; (focus (simp (maxSteps := 9999999) (disch := omega) only [go_sem, hr]; rfl))) | refine AWpA.skip ?_ | refine AWpA.exit ?_ | refine AWpA.ret ?_ | (with_reducible refine ARoundsA.succ ?_) | ((first | refine Runs.kt (by assumption) (fun h9 => ?_) | refine Runs.kf (by assumption) (fun h9 => ?_) | refine Runs.nt (by assumption) (fun h9 => ?_) | refine Runs.nf (by assumption) (fun h9 => ?_) | refine CondP.ht (by assumption) (fun h9 => ?_) | refine CondP.hf (by assumption) (fun h9 => ?_) | refine CondP.nt (by assumption) (fun h9 => ?_) | refine CondP.nf (by assumption) (fun h9 => ?_)); (try simp only [h9]); clear h9) | ((first | (with_reducible apply CallG.plain1 [] (speaks18)) | (with_reducible apply CallG.plain1 [0] (hsh)) | (with_reducible apply CallG.draw1 [] (speaks18)) | (with_reducible apply CallG.draw1 [0] (hsh))); (focus ((try refine And.intro (leAs_of_eq rfl) ?_); (try refine And.intro (leOL_of_eq rfl) ?_); simp (maxSteps := 9999999) (disch := omega) only [go_sem, hr]; first | done | (repeat' (first | rfl | (refine And.intro ?_ ?_))))); (focus (simp (maxSteps := 9999999) (disch := omega) only [go_sem, hr]; rfl)))); (try simp (maxSteps := 9999999) (disch := omega) only [go_sem, hr]); (try (refine And.intro ?_ ?_; (focus (first | omega | (simp only [go_sem]; done) | (simp; done) | (simp; omega) | assumption))))) | ((first | refine CondP.split (fun hif => ?_) (fun hif => ?_) | refine Runs.part (fun hif => ?_) (fun hif => ?_)) <;> ((try simp only [hif]); (try simp only [decide_eq_true_eq, decide_eq_false_iff_not, Bool.not_eq_true, Bool.not_eq_false, Bool.not_eq_true', Bool.not_eq_false', beq_iff_eq, bne_iff_ne, bne_eq_false_iff_eq, beq_eq_false_iff_ne, ne_eq, Bool.and_eq_true, Bool.or_eq_true, Bool.or_eq_false_iff] at hif); (try (have h9 : _ = true := hif; simp only [h9])); (try (have h9 : _ = false := hif; simp only [h9])); (try simp (maxSteps := 9999999) (disch := omega) only [go_sem, hr]); (try (refine And.intro ?_ ?_; (focus (first | omega | (simp only [go_sem]; done) | (simp; done) | (simp; omega) | assumption)))); (try (exfalso; omega; done))))))
    (refine TopPost.of (by first | exact .inl rfl | exact .inr rfl) (by (try simp (maxSteps := 9999999) (disch := omega) only [go_sem]); rfl) ?_; (try simp (maxSteps := 9999999) (disch := omega) only [go_sem]); (try (first | trivial | decide | (simp; done))))
  | true =>
  rw [hs] at hsh
  have h80 : l.length ≤ 80 := by simp [shortL] at hs; exact hs.2
  obtain ⟨n, hn, h1n, h2n⟩ : ∃ n : Nat, 1 + room.tmod 40 = (n : Int) ∧ 1 ≤ n ∧ n ≤ 40 := by
    rw [Int.tmod_eq_emod_of_nonneg h1]
    refine ⟨(1 + room % 40).toNat, ?_, ?_, ?_⟩ <;> omega
  have n1 := snew_ok n (by omega) (by omega)
  clear hs
  refine top_call c5_ok Try.func5 rfl Try.ntmps5 res5_ok [ .val (.int .u8 room), .val (.slice ad l.length cap)] (by simp) (by (repeat' (first | exact VRs_nil' _ | exact VR_val' _ _ | (refine VRs_cons' ?_ ?_) | (refine VR_agg' (by first | rfl | assumption) ?_; first | assumption | simp [Value.oneCell', St.rep, Mk.rep])))) ?_; try simp (maxSteps := 9999999) (disch := omega) only [go_sem]
  refine AWpA.thawT 1 MkL hz (fun x => by simp [Mk.rep, St.rep]) rfl ?_
  refine AWpA.dummy ?_
  (repeat' (first | refine AWpA.seq ?_ | refine AWpA.block ?_ | (with_reducible refine CondP.tt ?_) | (with_reducible refine CondP.ff ?_) | refine AWpA.condv (by simp (maxSteps := 9999999) (disch := omega) only [go_sem, hr, hn, ringC_ren]; rfl) ?_ | ((first | (apply AWpA.region; (focus (simp (maxSteps := 9999999) (disch := omega) only [go_sem, hr, hn, ringC_ren]; rfl))) | (apply AWpA.draw [] [] follows; (focus (first | rfl | decide)); (focus (simp (maxSteps := 9999999) (disch := omega) only [go_sem, hr, hn, ringC_ren]; rfl)); (focus (simp (maxSteps := 9999999) (disch := omega) only [go_sem, hr, hn, ringC_ren]; first | done | trivial)); (focus (simp (maxSteps := 9999999) (disch := omega) only [go_sem, hr, hn, ringC_ren]; rfl))) | (apply TailK.go; (focus (simp (maxSteps := 9999999) (disch := omega) only [go_sem, hr, hn, ringC_ren]; rfl))) | refine AWpA.skip ?_ | refine AWpA.exit ?_ | refine AWpA.ret ?_ | (with_reducible refine ARoundsA.succ ?_) | ((first | refine Runs.kt (by assumption) (fun h9 => ?_) | refine Runs.kf (by assumption) (fun h9 => ?_) | refine Runs.nt (by assumption) (fun h9 => ?_) | refine Runs.nf (by assumption) (fun h9 => ?_) | refine CondP.ht (by assumption) (fun h9 => ?_) | refine CondP.hf (by assumption) (fun h9 => ?_) | refine CondP.nt (by assumption) (fun h9 => ?_) | refine CondP.nf (by assumption) (fun h9 => ?_)); (try simp only [h9]); clear h9) | ((first | (with_reducible apply CallG.plain1 [] (speaks18)) | (with_reducible apply CallG.plain1 [0] (hsh)) | (with_reducible apply CallG.plain1 [] (n1)) | (with_reducible apply CallG.draw1 [] (speaks18)) | (with_reducible apply CallG.draw1 [0] (hsh)) | (with_reducible apply CallG.draw1 [] (n1))); (focus ((try refine And.intro (leAs_of_eq rfl) ?_); (try refine And.intro (leOL_of_eq rfl) ?_); simp (maxSteps := 9999999) (disch := omega) only [go_sem, hr, hn, ringC_ren]; first | done | (repeat' (first | rfl | (refine And.intro ?_ ?_))))); (focus (simp (maxSteps := 9999999) (disch := omega) only [go_sem, hr, hn, ringC_ren]; rfl)))); (try simp (maxSteps := 9999999) (disch := omega) only [go_sem, hr, hn, ringC_ren]); (try (refine And.intro ?_ ?_; (focus (first | omega | (simp only [go_sem]; done) | (simp; done) | (simp; omega) | assumption))))) | ((first | refine CondP.split (fun hif => ?_) (fun hif => ?_) | refine Runs.part (fun hif => ?_) (fun hif => ?_)) <;> ((try simp only [hif]); (try simp only [decide_eq_true_eq, decide_eq_false_iff_not, Bool.not_eq_true, Bool.not_eq_false, Bool.not_eq_true', Bool.not_eq_false', beq_iff_eq, bne_iff_ne, bne_eq_false_iff_eq, beq_eq_false_iff_ne, ne_eq, Bool.and_eq_true, Bool.or_eq_true, Bool.or_eq_false_iff] at hif); (try (have h9 : _ = true := hif; simp only [h9])); (try (have h9 : _ = false := hif; simp only [h9])); (try simp (maxSteps := 9999999) (disch := omega) only [go_sem, hr, hn, ringC_ren]); (try (refine And.intro ?_ ?_; (focus (first | omega | (simp only [go_sem]; done) | (simp; done) | (simp; omega) | assumption)))); (try (exfalso; omega; done))))))
  (apply AWpA.loopL (fun p : Nat × Sn × List Mk => [(5, I n), (6, .ptr 1 0), (8, .sl 4 0 p.2.2.length 3 none), (37, .sl 0 off l.length 3 none), (38, I l.length), (39, I p.1)]) (fun p => [.cells true (Rm off l), SnO 2 3 false p.2.1, .cells false (ringC p.2.1), .map false (EsM p.2.1.mp), .cells false (Rm 0 p.2.2)]) (fun p => l.length - p.1) (fun p => p.1 ≤ l.length ∧ p.2.1.ok ∧ p.2.1.room = n ∧ p.2.2.length ≤ p.1 ∧ allS p.2.1 = lastN n p.2.2) ((0, newS n, [])) [0, _, _, _, 1]; rotate_left; (focus (simp (maxSteps := 9999999) (disch := omega) only [go_sem, hr, rm_nil, ringC_ren, es_ren]; (try (repeat' (first | done | trivial | rfl | exact leAs_rfl _ | decide | (refine And.intro ?_ ?_) | (simp; done) | omega | (simp; decide)))))); rotate_right)
  · exact ⟨Nat.zero_le _, newS_ok (by omega) (by omega), rfl, Nat.le_refl _, by simp [allS, newS, lastN]⟩
  rintro ⟨i, s, ad⟩ ⟨hi, hok, hrm, hal, hall⟩
  (try simp only at hi hok hrm hal hall)
  by_cases hin : i < l.length
  · have k1 : ((i : Int) < (l.length : Int)) = True := eq_true (by omega)
    have hat := rm_at off l i hin
    generalize l[i] = x at *
    have hdoc := addS_doc hok x
    have hok2 := addS_ok hok x
    have hrm2 : (addS s x).room = n := by rw [addS_room, hrm]
    have c1 := of10_any x
    have c0 := shas_ok hok x
    have c2 := sadd_any hok x
    have had := rm_len 0 ad
    by_cases hx : x ∈ s.ring
    · have e : addS s x = s := by unfold addS; rw [if_pos hx]
      rw [decide_eq_true hx] at c0
      rw [decide_eq_true hx, Bool.not_true] at c2
      clear hdoc
      generalize addS s x = s2 at *
      subst e
      (try simp (maxSteps := 9999999) (disch := omega) only [go_sem])
      (repeat' (first | refine AWpA.seq ?_ | refine AWpA.block ?_ | (with_reducible refine CondP.tt ?_) | (with_reducible refine CondP.ff ?_) | refine AWpA.condv (by simp (maxSteps := 9999999) (disch := omega) only [go_sem, hr, k1, hlen, hat, ringC_ren, es_ren, rm_ren]; rfl) ?_ | ((first | (apply AWpA.region; (focus (simp (maxSteps := 9999999) (disch := omega) only [go_sem, hr, k1, hlen, hat, ringC_ren, es_ren, rm_ren]; rfl))) | (apply AWpA.draw [1, 2, 3] [] follows; (focus (first | rfl | decide)); (focus (simp (maxSteps := 9999999) (disch := omega) only [go_sem, hr, k1, hlen, hat, ringC_ren, es_ren, rm_ren]; rfl)); (focus (simp (maxSteps := 9999999) (disch := omega) only [go_sem, hr, k1, hlen, hat, ringC_ren, es_ren, rm_ren]; first | done | trivial)); (focus (simp (maxSteps := 9999999) (disch := omega) only [go_sem, hr, k1, hlen, hat, ringC_ren, es_ren, rm_ren]; rfl))) | (apply TailK.go; (focus (simp (maxSteps := 9999999) (disch := omega) only [go_sem, hr, k1, hlen, hat, ringC_ren, es_ren, rm_ren]; rfl))) | refine AWpA.skip ?_ | refine AWpA.exit ?_ | refine AWpA.ret ?_ | (with_reducible refine ARoundsA.succ ?_) | ((first | refine Runs.kt (by assumption) (fun h9 => ?_) | refine Runs.kf (by assumption) (fun h9 => ?_) | refine Runs.nt (by assumption) (fun h9 => ?_) | refine Runs.nf (by assumption) (fun h9 => ?_) | refine CondP.ht (by assumption) (fun h9 => ?_) | refine CondP.hf (by assumption) (fun h9 => ?_) | refine CondP.nt (by assumption) (fun h9 => ?_) | refine CondP.nf (by assumption) (fun h9 => ?_)); (try simp only [h9]); clear h9) | ((first | (with_reducible apply CallG.plain1 [] (c1)) | (with_reducible apply CallG.draw1 [] (c1))); (focus ((try refine And.intro (leAs_of_eq rfl) ?_); (try refine And.intro (leOL_of_eq rfl) ?_); simp (maxSteps := 9999999) (disch := omega) only [go_sem, hr, k1, hlen, hat, ringC_ren, es_ren, rm_ren]; first | done | (repeat' (first | rfl | (refine And.intro ?_ ?_))))); (focus (simp (maxSteps := 9999999) (disch := omega) only [go_sem, hr, k1, hlen, hat, ringC_ren, es_ren, rm_ren]; rfl))) | ((first | (with_reducible apply CallG.plain1 [1, 3] (c0)) | (with_reducible apply CallG.draw1 [1, 3] (c0))); (focus ((try refine And.intro (leAs_of_eq rfl) ?_); (try refine And.intro (leOL_of_eq rfl) ?_); simp (maxSteps := 9999999) (disch := omega) only [go_sem, hr, k1, hlen, hat, ringC_ren, es_ren, rm_ren]; first | done | (repeat' (first | rfl | (refine And.intro ?_ ?_))))); (focus (simp (maxSteps := 9999999) (disch := omega) only [go_sem, hr, k1, hlen, hat, ringC_ren, es_ren, rm_ren]; rfl))) | ((first | (with_reducible apply CallG.plain1 [1, 2, 3] (c2)) | (with_reducible apply CallG.draw1 [1, 2, 3] (c2))); (focus ((try refine And.intro (leAs_of_eq rfl) ?_); (try refine And.intro (leOL_of_eq rfl) ?_); simp (maxSteps := 9999999) (disch := omega) only [go_sem, hr, k1, hlen, hat, ringC_ren, es_ren, rm_ren]; first | done | (repeat' (first | rfl | (refine And.intro ?_ ?_))))); (focus (simp (maxSteps := 9999999) (disch := omega) only [go_sem, hr, k1, hlen, hat, ringC_ren, es_ren, rm_ren]; rfl)))); (try simp (maxSteps := 9999999) (disch := omega) only [go_sem, hr, k1, hlen, hat, ringC_ren, es_ren, rm_ren]); (try (refine And.intro ?_ ?_; (focus (first | omega | (simp only [go_sem]; done) | (simp; done) | (simp; omega) | assumption))))) | ((first | refine CondP.split (fun hif => ?_) (fun hif => ?_) | refine Runs.part (fun hif => ?_) (fun hif => ?_)) <;> ((try simp only [hif]); (try simp only [decide_eq_true_eq, decide_eq_false_iff_not, Bool.not_eq_true, Bool.not_eq_false, Bool.not_eq_true', Bool.not_eq_false', beq_iff_eq, bne_iff_ne, bne_eq_false_iff_eq, beq_eq_false_iff_ne, ne_eq, Bool.and_eq_true, Bool.or_eq_true, Bool.or_eq_false_iff] at hif); (try (have h9 : _ = true := hif; simp only [h9])); (try (have h9 : _ = false := hif; simp only [h9])); (try simp (maxSteps := 9999999) (disch := omega) only [go_sem, hr, k1, hlen, hat, ringC_ren, es_ren, rm_ren]); (try (refine And.intro ?_ ?_; (focus (first | omega | (simp only [go_sem]; done) | (simp; done) | (simp; omega) | assumption)))); (try (exfalso; omega; done))))))
      have hallA := hall
      have hAl : ad.length ≤ i + 1 := by omega
      clear hat hall
      generalize ad = A at *
      have hAl2 : A.length ≤ 80 := by omega
      have hmx : (if (0 : Int) > (A.length : Int) - (n : Int) then (0 : Int) else (A.length : Int) - (n : Int)) = ((A.length - n : Nat) : Int) := by split <;> omega
      (try simp (maxSteps := 9999999) (disch := omega) only [go_sem])
      simp only [gt_iff_lt] at hmx
      rw [hmx]
      (apply AWpA.loopL (fun j : Nat => [(5, I n), (6, .ptr 1 0), (8, .sl 4 0 A.length 3 none), (13, I j), (37, .sl 0 off l.length 3 none), (38, I l.length), (39, I i)]) (fun j => [.cells true (Rm off l), SnO 2 3 false s2, .cells false (ringC s2), .map false (EsM s2.mp), .cells false (Rm 0 A)]) (fun j => A.length - j) (fun j => A.length - n ≤ j ∧ j ≤ A.length) (A.length - n) [0, 1, 2, 3, _]; rotate_left; (focus (simp (maxSteps := 9999999) (disch := omega) only [go_sem, hr, ringC_ren, es_ren, rm_ren]; (try (repeat' (first | done | trivial | rfl | exact leAs_rfl _ | decide | (refine And.intro ?_ ?_) | (simp; done) | omega | (simp; decide)))))); rotate_right)
      · exact ⟨Nat.le_refl _, by omega⟩
      rintro j ⟨hj1, hj2⟩
      (try simp only at hj1 hj2)
      have hAlen := rm_len 0 A
      by_cases hjn : j < A.length
      · have k2 : ((j : Int) < (A.length : Int)) = True := eq_true (by omega)
        have hatj := rm_getD hjn
        have hmem : A[j] ∈ s2.ring := by
          rw [← allS_mem, hallA]
          unfold lastN
          rw [List.mem_iff_getElem?]
          exact ⟨j - (A.length - n), by rw [List.getElem?_drop, show A.length - n + (j - (A.length - n)) = j by omega, List.getElem?_eq_getElem hjn]⟩
        generalize A[j] = y at *
        have c3 := shas_ok hok2 y
        rw [decide_eq_true hmem] at c3
        (try simp (maxSteps := 9999999) (disch := omega) only [go_sem])
        (repeat' (first | refine AWpA.seq ?_ | refine AWpA.block ?_ | (with_reducible refine CondP.tt ?_) | (with_reducible refine CondP.ff ?_) | refine AWpA.condv (by simp (maxSteps := 9999999) (disch := omega) only [go_sem, hr, k2, hAlen, hatj, ringC_ren, es_ren, rm_ren]; rfl) ?_ | ((first | (apply AWpA.region; (focus (simp (maxSteps := 9999999) (disch := omega) only [go_sem, hr, k2, hAlen, hatj, ringC_ren, es_ren, rm_ren]; rfl))) | (apply AWpA.draw [] [] follows; (focus (first | rfl | decide)); (focus (simp (maxSteps := 9999999) (disch := omega) only [go_sem, hr, k2, hAlen, hatj, ringC_ren, es_ren, rm_ren]; rfl)); (focus (simp (maxSteps := 9999999) (disch := omega) only [go_sem, hr, k2, hAlen, hatj, ringC_ren, es_ren, rm_ren]; first | done | trivial)); (focus (simp (maxSteps := 9999999) (disch := omega) only [go_sem, hr, k2, hAlen, hatj, ringC_ren, es_ren, rm_ren]; rfl))) | (apply TailK.go; (focus (simp (maxSteps := 9999999) (disch := omega) only [go_sem, hr, k2, hAlen, hatj, ringC_ren, es_ren, rm_ren]; rfl))) | refine AWpA.skip ?_ | refine AWpA.exit ?_ | refine AWpA.ret ?_ | (with_reducible refine ARoundsA.succ ?_) | ((first | refine Runs.kt (by assumption) (fun h9 => ?_) | refine Runs.kf (by assumption) (fun h9 => ?_) | refine Runs.nt (by assumption) (fun h9 => ?_) | refine Runs.nf (by assumption) (fun h9 => ?_) | refine CondP.ht (by assumption) (fun h9 => ?_) | refine CondP.hf (by assumption) (fun h9 => ?_) | refine CondP.nt (by assumption) (fun h9 => ?_) | refine CondP.nf (by assumption) (fun h9 => ?_)); (try simp only [h9]); clear h9) | ((first | (with_reducible apply CallG.plain1 [1, 3] (c3)) | (with_reducible apply CallG.draw1 [1, 3] (c3))); (focus ((try refine And.intro (leAs_of_eq rfl) ?_); (try refine And.intro (leOL_of_eq rfl) ?_); simp (maxSteps := 9999999) (disch := omega) only [go_sem, hr, k2, hAlen, hatj, ringC_ren, es_ren, rm_ren]; first | done | (repeat' (first | rfl | (refine And.intro ?_ ?_))))); (focus (simp (maxSteps := 9999999) (disch := omega) only [go_sem, hr, k2, hAlen, hatj, ringC_ren, es_ren, rm_ren]; rfl)))); (try simp (maxSteps := 9999999) (disch := omega) only [go_sem, hr, k2, hAlen, hatj, ringC_ren, es_ren, rm_ren]); (try (refine And.intro ?_ ?_; (focus (first | omega | (simp only [go_sem]; done) | (simp; done) | (simp; omega) | assumption))))) | ((first | refine CondP.split (fun hif => ?_) (fun hif => ?_) | refine Runs.part (fun hif => ?_) (fun hif => ?_)) <;> ((try simp only [hif]); (try simp only [decide_eq_true_eq, decide_eq_false_iff_not, Bool.not_eq_true, Bool.not_eq_false, Bool.not_eq_true', Bool.not_eq_false', beq_iff_eq, bne_iff_ne, bne_eq_false_iff_eq, beq_eq_false_iff_ne, ne_eq, Bool.and_eq_true, Bool.or_eq_true, Bool.or_eq_false_iff] at hif); (try (have h9 : _ = true := hif; simp only [h9])); (try (have h9 : _ = false := hif; simp only [h9])); (try simp (maxSteps := 9999999) (disch := omega) only [go_sem, hr, k2, hAlen, hatj, ringC_ren, es_ren, rm_ren]); (try (refine And.intro ?_ ?_; (focus (first | omega | (simp only [go_sem]; done) | (simp; done) | (simp; omega) | assumption)))); (try (exfalso; omega; done))))))
        (apply Back.to (j + 1) [0, 1, 2, 3, 4]; (focus ((try simp (maxSteps := 9999999) (disch := omega) only [go_sem, hr, ringC_ren, es_ren, rm_ren]); first | done | omega)); rotate_left; (focus (simp (maxSteps := 9999999) (disch := omega) only [go_sem, hr, ringC_ren, es_ren, rm_ren]; (try (repeat' (first | done | trivial | rfl | exact leAs_rfl _ | decide | (refine And.intro ?_ ?_) | (simp; done) | omega | (simp; decide)))))))
        exact ⟨by omega, by omega⟩
      · obtain rfl : j = A.length := by omega
        have k2 : ((A.length : Int) < (A.length : Int)) = False := eq_false (by omega)
        have hrl : s2.ring.length = min A.length n := by rw [← allS_len, hallA, lastN_len]
        have c4 := slen_any s2
        have c5 := sall_any hok2
        rw [allS_len] at c5
        have g3 : ((s2.ring.length : Int) != (if (n : Int) < (A.length : Int) then (n : Int) else (A.length : Int))) = false := by
          rw [bne_eq_false_iff_eq, hrl]
          split <;> omega
        (try simp (maxSteps := 9999999) (disch := omega) only [go_sem])
        (repeat' (first | refine AWpA.seq ?_ | refine AWpA.block ?_ | (with_reducible refine CondP.tt ?_) | (with_reducible refine CondP.ff ?_) | refine AWpA.condv (by simp (maxSteps := 9999999) (disch := omega) only [go_sem, hr, k2, g3, hAlen, ringC_ren, es_ren, rm_ren]; rfl) ?_ | ((first | (apply AWpA.region; (focus (simp (maxSteps := 9999999) (disch := omega) only [go_sem, hr, k2, g3, hAlen, ringC_ren, es_ren, rm_ren]; rfl))) | (apply AWpA.draw [] [] follows; (focus (first | rfl | decide)); (focus (simp (maxSteps := 9999999) (disch := omega) only [go_sem, hr, k2, g3, hAlen, ringC_ren, es_ren, rm_ren]; rfl)); (focus (simp (maxSteps := 9999999) (disch := omega) only [go_sem, hr, k2, g3, hAlen, ringC_ren, es_ren, rm_ren]; first | done | trivial)); (focus (simp (maxSteps := 9999999) (disch := omega) only [go_sem, hr, k2, g3, hAlen, ringC_ren, es_ren, rm_ren]; rfl))) | (apply TailK.go; (focus (simp (maxSteps := 9999999) (disch := omega) only [go_sem, hr, k2, g3, hAlen, ringC_ren, es_ren, rm_ren]; rfl))) | refine AWpA.skip ?_ | refine AWpA.exit ?_ | refine AWpA.ret ?_ | (with_reducible refine ARoundsA.succ ?_) | ((first | refine Runs.kt (by assumption) (fun h9 => ?_) | refine Runs.kf (by assumption) (fun h9 => ?_) | refine Runs.nt (by assumption) (fun h9 => ?_) | refine Runs.nf (by assumption) (fun h9 => ?_) | refine CondP.ht (by assumption) (fun h9 => ?_) | refine CondP.hf (by assumption) (fun h9 => ?_) | refine CondP.nt (by assumption) (fun h9 => ?_) | refine CondP.nf (by assumption) (fun h9 => ?_)); (try simp only [h9]); clear h9) | ((first | (with_reducible apply CallG.plain1 [1, 2, 3] (c4)) | (with_reducible apply CallG.draw1 [1, 2, 3] (c4))); (focus ((try refine And.intro (leAs_of_eq rfl) ?_); (try refine And.intro (leOL_of_eq rfl) ?_); simp (maxSteps := 9999999) (disch := omega) only [go_sem, hr, k2, g3, hAlen, ringC_ren, es_ren, rm_ren]; first | done | (repeat' (first | rfl | (refine And.intro ?_ ?_))))); (focus (simp (maxSteps := 9999999) (disch := omega) only [go_sem, hr, k2, g3, hAlen, ringC_ren, es_ren, rm_ren]; rfl))) | ((first | (with_reducible apply CallG.plain1 [1, 2, 3] (c5)) | (with_reducible apply CallG.draw1 [1, 2, 3] (c5))); (focus ((try refine And.intro (leAs_of_eq rfl) ?_); (try refine And.intro (leOL_of_eq rfl) ?_); simp (maxSteps := 9999999) (disch := omega) only [go_sem, hr, k2, g3, hAlen, ringC_ren, es_ren, rm_ren]; first | done | (repeat' (first | rfl | (refine And.intro ?_ ?_))))); (focus (simp (maxSteps := 9999999) (disch := omega) only [go_sem, hr, k2, g3, hAlen, ringC_ren, es_ren, rm_ren]; rfl)))); (try simp (maxSteps := 9999999) (disch := omega) only [go_sem, hr, k2, g3, hAlen, ringC_ren, es_ren, rm_ren]); (try (refine And.intro ?_ ?_; (focus (first | omega | (simp only [go_sem]; done) | (simp; done) | (simp; omega) | assumption))))) | ((first | refine CondP.split (fun hif => ?_) (fun hif => ?_) | refine Runs.part (fun hif => ?_) (fun hif => ?_)) <;> ((try simp only [hif]); (try simp only [decide_eq_true_eq, decide_eq_false_iff_not, Bool.not_eq_true, Bool.not_eq_false, Bool.not_eq_true', Bool.not_eq_false', beq_iff_eq, bne_iff_ne, bne_eq_false_iff_eq, beq_eq_false_iff_ne, ne_eq, Bool.and_eq_true, Bool.or_eq_true, Bool.or_eq_false_iff] at hif); (try (have h9 : _ = true := hif; simp only [h9])); (try (have h9 : _ = false := hif; simp only [h9])); (try simp (maxSteps := 9999999) (disch := omega) only [go_sem, hr, k2, g3, hAlen, ringC_ren, es_ren, rm_ren]); (try (refine And.intro ?_ ?_; (focus (first | omega | (simp only [go_sem]; done) | (simp; done) | (simp; omega) | assumption)))); (try (exfalso; omega; done))))))
        (apply Back.to (i + 1, s2, A) [0, 1, 2, 3, 4]; (focus ((try simp (maxSteps := 9999999) (disch := omega) only [go_sem, hr, ringC_ren, es_ren, rm_ren]); first | done | omega)); rotate_left; (focus (simp (maxSteps := 9999999) (disch := omega) only [go_sem, hr, ringC_ren, es_ren, rm_ren]; (try (repeat' (first | done | trivial | rfl | exact leAs_rfl _ | decide | (refine And.intro ?_ ?_) | (simp; done) | omega | (simp; decide)))))))
        exact ⟨by simp only; omega, hok2, hrm2, hAl, hallA⟩
    · rw [decide_eq_false hx] at c0
      rw [decide_eq_false hx, Bool.not_false] at c2
      have hta := rm_all ad (n := ad.length * 3) rfl
      have hput : Rm 0 ad ++ [AV.val (.int .i64 x.act.c), AV.val (.int .i64 x.act.s), AV.val (.string x.key)] = Rm 0 (ad ++ [x]) := by rw [rm_app, rm_one]
      have hll : ad.length + 1 = (ad ++ [x]).length := by simp
      have hll2 : (ad.length : Int) + 1 = ((ad ++ [x]).length : Int) := by simp
      have hallA : allS (addS s x) = lastN n (ad ++ [x]) := by
        rw [hdoc, hrm, hall, addD_last h1n]
        rw [← hall]
        exact fun e => hx ((allS_mem s x).1 e)
      (try simp (maxSteps := 9999999) (disch := omega) only [go_sem])
      (repeat' (first | refine AWpA.seq ?_ | refine AWpA.block ?_ | (with_reducible refine CondP.tt ?_) | (with_reducible refine CondP.ff ?_) | refine AWpA.condv (by simp (maxSteps := 9999999) (disch := omega) only [go_sem, hr, k1, hlen, hat, ringC_ren, es_ren, rm_ren, hta, had]; rfl) ?_ | ((first | (apply AWpA.region; (focus (simp (maxSteps := 9999999) (disch := omega) only [go_sem, hr, k1, hlen, hat, ringC_ren, es_ren, rm_ren, hta, had]; rfl))) | (apply AWpA.draw [1, 2, 3] [] follows; (focus (first | rfl | decide)); (focus (simp (maxSteps := 9999999) (disch := omega) only [go_sem, hr, k1, hlen, hat, ringC_ren, es_ren, rm_ren, hta, had]; rfl)); (focus (simp (maxSteps := 9999999) (disch := omega) only [go_sem, hr, k1, hlen, hat, ringC_ren, es_ren, rm_ren, hta, had]; first | done | trivial)); (focus (simp (maxSteps := 9999999) (disch := omega) only [go_sem, hr, k1, hlen, hat, ringC_ren, es_ren, rm_ren, hta, had]; rfl))) | (apply TailK.go; (focus (simp (maxSteps := 9999999) (disch := omega) only [go_sem, hr, k1, hlen, hat, ringC_ren, es_ren, rm_ren, hta, had]; rfl))) | refine AWpA.skip ?_ | refine AWpA.exit ?_ | refine AWpA.ret ?_ | (with_reducible refine ARoundsA.succ ?_) | ((first | refine Runs.kt (by assumption) (fun h9 => ?_) | refine Runs.kf (by assumption) (fun h9 => ?_) | refine Runs.nt (by assumption) (fun h9 => ?_) | refine Runs.nf (by assumption) (fun h9 => ?_) | refine CondP.ht (by assumption) (fun h9 => ?_) | refine CondP.hf (by assumption) (fun h9 => ?_) | refine CondP.nt (by assumption) (fun h9 => ?_) | refine CondP.nf (by assumption) (fun h9 => ?_)); (try simp only [h9]); clear h9) | ((first | (with_reducible apply CallG.plain1 [] (c1)) | (with_reducible apply CallG.draw1 [] (c1))); (focus ((try refine And.intro (leAs_of_eq rfl) ?_); (try refine And.intro (leOL_of_eq rfl) ?_); simp (maxSteps := 9999999) (disch := omega) only [go_sem, hr, k1, hlen, hat, ringC_ren, es_ren, rm_ren, hta, had]; first | done | (repeat' (first | rfl | (refine And.intro ?_ ?_))))); (focus (simp (maxSteps := 9999999) (disch := omega) only [go_sem, hr, k1, hlen, hat, ringC_ren, es_ren, rm_ren, hta, had]; rfl))) | ((first | (with_reducible apply CallG.plain1 [1, 3] (c0)) | (with_reducible apply CallG.draw1 [1, 3] (c0))); (focus ((try refine And.intro (leAs_of_eq rfl) ?_); (try refine And.intro (leOL_of_eq rfl) ?_); simp (maxSteps := 9999999) (disch := omega) only [go_sem, hr, k1, hlen, hat, ringC_ren, es_ren, rm_ren, hta, had]; first | done | (repeat' (first | rfl | (refine And.intro ?_ ?_))))); (focus (simp (maxSteps := 9999999) (disch := omega) only [go_sem, hr, k1, hlen, hat, ringC_ren, es_ren, rm_ren, hta, had]; rfl))) | ((first | (with_reducible apply CallG.plain1 [1, 2, 3] (c2)) | (with_reducible apply CallG.draw1 [1, 2, 3] (c2))); (focus ((try refine And.intro (leAs_of_eq rfl) ?_); (try refine And.intro (leOL_of_eq rfl) ?_); simp (maxSteps := 9999999) (disch := omega) only [go_sem, hr, k1, hlen, hat, ringC_ren, es_ren, rm_ren, hta, had]; first | done | (repeat' (first | rfl | (refine And.intro ?_ ?_))))); (focus (simp (maxSteps := 9999999) (disch := omega) only [go_sem, hr, k1, hlen, hat, ringC_ren, es_ren, rm_ren, hta, had]; rfl)))); (try simp (maxSteps := 9999999) (disch := omega) only [go_sem, hr, k1, hlen, hat, ringC_ren, es_ren, rm_ren, hta, had]); (try (refine And.intro ?_ ?_; (focus (first | omega | (simp only [go_sem]; done) | (simp; done) | (simp; omega) | assumption))))) | ((first | refine CondP.split (fun hif => ?_) (fun hif => ?_) | refine Runs.part (fun hif => ?_) (fun hif => ?_)) <;> ((try simp only [hif]); (try simp only [decide_eq_true_eq, decide_eq_false_iff_not, Bool.not_eq_true, Bool.not_eq_false, Bool.not_eq_true', Bool.not_eq_false', beq_iff_eq, bne_iff_ne, bne_eq_false_iff_eq, beq_eq_false_iff_ne, ne_eq, Bool.and_eq_true, Bool.or_eq_true, Bool.or_eq_false_iff] at hif); (try (have h9 : _ = true := hif; simp only [h9])); (try (have h9 : _ = false := hif; simp only [h9])); (try simp (maxSteps := 9999999) (disch := omega) only [go_sem, hr, k1, hlen, hat, ringC_ren, es_ren, rm_ren, hta, had]); (try (refine And.intro ?_ ?_; (focus (first | omega | (simp only [go_sem]; done) | (simp; done) | (simp; omega) | assumption)))); (try (exfalso; omega; done))))))
      rw [hput, hll2, hll]
      have hAl : (ad ++ [x]).length ≤ i + 1 := by rw [← hll]; omega
      clear hat hput hll hll2 hta hdoc c0 c2 hall hx had hal
      generalize ad ++ [x] = A at *
      clear hok hrm
      generalize addS s x = s2 at *
      have hAl2 : A.length ≤ 80 := by omega
      have hmx : (if (0 : Int) > (A.length : Int) - (n : Int) then (0 : Int) else (A.length : Int) - (n : Int)) = ((A.length - n : Nat) : Int) := by split <;> omega
      (try simp (maxSteps := 9999999) (disch := omega) only [go_sem])
      simp only [gt_iff_lt] at hmx
      rw [hmx]
      (apply AWpA.loopL (fun j : Nat => [(5, I n), (6, .ptr 1 0), (8, .sl 4 0 A.length 3 none), (13, I j), (37, .sl 0 off l.length 3 none), (38, I l.length), (39, I i)]) (fun j => [.cells true (Rm off l), SnO 2 3 false s2, .cells false (ringC s2), .map false (EsM s2.mp), .cells false (Rm 0 A)]) (fun j => A.length - j) (fun j => A.length - n ≤ j ∧ j ≤ A.length) (A.length - n) [0, 1, 2, 3, _]; rotate_left; (focus (simp (maxSteps := 9999999) (disch := omega) only [go_sem, hr, ringC_ren, es_ren, rm_ren]; (try (repeat' (first | done | trivial | rfl | exact leAs_rfl _ | decide | (refine And.intro ?_ ?_) | (simp; done) | omega | (simp; decide)))))); rotate_right)
      · exact ⟨Nat.le_refl _, by omega⟩
      rintro j ⟨hj1, hj2⟩
      (try simp only at hj1 hj2)
      have hAlen := rm_len 0 A
      by_cases hjn : j < A.length
      · have k2 : ((j : Int) < (A.length : Int)) = True := eq_true (by omega)
        have hatj := rm_getD hjn
        have hmem : A[j] ∈ s2.ring := by
          rw [← allS_mem, hallA]
          unfold lastN
          rw [List.mem_iff_getElem?]
          exact ⟨j - (A.length - n), by rw [List.getElem?_drop, show A.length - n + (j - (A.length - n)) = j by omega, List.getElem?_eq_getElem hjn]⟩
        generalize A[j] = y at *
        have c3 := shas_ok hok2 y
        rw [decide_eq_true hmem] at c3
        (try simp (maxSteps := 9999999) (disch := omega) only [go_sem])
        (repeat' (first | refine AWpA.seq ?_ | refine AWpA.block ?_ | (with_reducible refine CondP.tt ?_) | (with_reducible refine CondP.ff ?_) | refine AWpA.condv (by simp (maxSteps := 9999999) (disch := omega) only [go_sem, hr, k2, hAlen, hatj, ringC_ren, es_ren, rm_ren]; rfl) ?_ | ((first | (apply AWpA.region; (focus (simp (maxSteps := 9999999) (disch := omega) only [go_sem, hr, k2, hAlen, hatj, ringC_ren, es_ren, rm_ren]; rfl))) | (apply AWpA.draw [] [] follows; (focus (first | rfl | decide)); (focus (simp (maxSteps := 9999999) (disch := omega) only [go_sem, hr, k2, hAlen, hatj, ringC_ren, es_ren, rm_ren]; rfl)); (focus (simp (maxSteps := 9999999) (disch := omega) only [go_sem, hr, k2, hAlen, hatj, ringC_ren, es_ren, rm_ren]; first | done | trivial)); (focus (simp (maxSteps := 9999999) (disch := omega) only [go_sem, hr, k2, hAlen, hatj, ringC_ren, es_ren, rm_ren]; rfl))) | (apply TailK.go; (focus (simp (maxSteps := 9999999) (disch := omega) only [go_sem, hr, k2, hAlen, hatj, ringC_ren, es_ren, rm_ren]; rfl))) | refine AWpA.skip ?_ | refine AWpA.exit ?_ | refine AWpA.ret ?_ | (with_reducible refine ARoundsA.succ ?_) | ((first | refine Runs.kt (by assumption) (fun h9 => ?_) | refine Runs.kf (by assumption) (fun h9 => ?_) | refine Runs.nt (by assumption) (fun h9 => ?_) | refine Runs.nf (by assumption) (fun h9 => ?_) | refine CondP.ht (by assumption) (fun h9 => ?_) | refine CondP.hf (by assumption) (fun h9 => ?_) | refine CondP.nt (by assumption) (fun h9 => ?_) | refine CondP.nf (by assumption) (fun h9 => ?_)); (try simp only [h9]); clear h9) | ((first | (with_reducible apply CallG.plain1 [1, 3] (c3)) | (with_reducible apply CallG.draw1 [1, 3] (c3))); (focus ((try refine And.intro (leAs_of_eq rfl) ?_); (try refine And.intro (leOL_of_eq rfl) ?_); simp (maxSteps := 9999999) (disch := omega) only [go_sem, hr, k2, hAlen, hatj, ringC_ren, es_ren, rm_ren]; first | done | (repeat' (first | rfl | (refine And.intro ?_ ?_))))); (focus (simp (maxSteps := 9999999) (disch := omega) only [go_sem, hr, k2, hAlen, hatj, ringC_ren, es_ren, rm_ren]; rfl)))); (try simp (maxSteps := 9999999) (disch := omega) only [go_sem, hr, k2, hAlen, hatj, ringC_ren, es_ren, rm_ren]); (try (refine And.intro ?_ ?_; (focus (first | omega | (simp only [go_sem]; done) | (simp; done) | (simp; omega) | assumption))))) | ((first | refine CondP.split (fun hif => ?_) (fun hif => ?_) | refine Runs.part (fun hif => ?_) (fun hif => ?_)) <;> ((try simp only [hif]); (try simp only [decide_eq_true_eq, decide_eq_false_iff_not, Bool.not_eq_true, Bool.not_eq_false, Bool.not_eq_true', Bool.not_eq_false', beq_iff_eq, bne_iff_ne, bne_eq_false_iff_eq, beq_eq_false_iff_ne, ne_eq, Bool.and_eq_true, Bool.or_eq_true, Bool.or_eq_false_iff] at hif); (try (have h9 : _ = true := hif; simp only [h9])); (try (have h9 : _ = false := hif; simp only [h9])); (try simp (maxSteps := 9999999) (disch := omega) only [go_sem, hr, k2, hAlen, hatj, ringC_ren, es_ren, rm_ren]); (try (refine And.intro ?_ ?_; (focus (first | omega | (simp only [go_sem]; done) | (simp; done) | (simp; omega) | assumption)))); (try (exfalso; omega; done))))))
        (apply Back.to (j + 1) [0, 1, 2, 3, 4]; (focus ((try simp (maxSteps := 9999999) (disch := omega) only [go_sem, hr, ringC_ren, es_ren, rm_ren]); first | done | omega)); rotate_left; (focus (simp (maxSteps := 9999999) (disch := omega) only [go_sem, hr, ringC_ren, es_ren, rm_ren]; (try (repeat' (first | done | trivial | rfl | exact leAs_rfl _ | decide | (refine And.intro ?_ ?_) | (simp; done) | omega | (simp; decide)))))))
        exact ⟨by omega, by omega⟩
      · obtain rfl : j = A.length := by omega
        have k2 : ((A.length : Int) < (A.length : Int)) = False := eq_false (by omega)
        have hrl : s2.ring.length = min A.length n := by rw [← allS_len, hallA, lastN_len]
        have c4 := slen_any s2
        have c5 := sall_any hok2
        rw [allS_len] at c5
        have g3 : ((s2.ring.length : Int) != (if (n : Int) < (A.length : Int) then (n : Int) else (A.length : Int))) = false := by
          rw [bne_eq_false_iff_eq, hrl]
          split <;> omega
        (try simp (maxSteps := 9999999) (disch := omega) only [go_sem])
        (repeat' (first | refine AWpA.seq ?_ | refine AWpA.block ?_ | (with_reducible refine CondP.tt ?_) | (with_reducible refine CondP.ff ?_) | refine AWpA.condv (by simp (maxSteps := 9999999) (disch := omega) only [go_sem, hr, k2, g3, hAlen, ringC_ren, es_ren, rm_ren]; rfl) ?_ | ((first | (apply AWpA.region; (focus (simp (maxSteps := 9999999) (disch := omega) only [go_sem, hr, k2, g3, hAlen, ringC_ren, es_ren, rm_ren]; rfl))) | (apply AWpA.draw [] [] follows; (focus (first | rfl | decide)); (focus (simp (maxSteps := 9999999) (disch := omega) only [go_sem, hr, k2, g3, hAlen, ringC_ren, es_ren, rm_ren]; rfl)); (focus (simp (maxSteps := 9999999) (disch := omega) only [go_sem, hr, k2, g3, hAlen, ringC_ren, es_ren, rm_ren]; first | done | trivial)); (focus (simp (maxSteps := 9999999) (disch := omega) only [go_sem, hr, k2, g3, hAlen, ringC_ren, es_ren, rm_ren]; rfl))) | (apply TailK.go; (focus (simp (maxSteps := 9999999) (disch := omega) only [go_sem, hr, k2, g3, hAlen, ringC_ren, es_ren, rm_ren]; rfl))) | refine AWpA.skip ?_ | refine AWpA.exit ?_ | refine AWpA.ret ?_ | (with_reducible refine ARoundsA.succ ?_) | ((first | refine Runs.kt (by assumption) (fun h9 => ?_) | refine Runs.kf (by assumption) (fun h9 => ?_) | refine Runs.nt (by assumption) (fun h9 => ?_) | refine Runs.nf (by assumption) (fun h9 => ?_) | refine CondP.ht (by assumption) (fun h9 => ?_) | refine CondP.hf (by assumption) (fun h9 => ?_) | refine CondP.nt (by assumption) (fun h9 => ?_) | refine CondP.nf (by assumption) (fun h9 => ?_)); (try simp only [h9]); clear h9) | ((first | (with_reducible apply CallG.plain1 [1, 2, 3] (c4)) | (with_reducible apply CallG.draw1 [1, 2, 3] (c4))); (focus ((try refine And.intro (leAs_of_eq rfl) ?_); (try refine And.intro (leOL_of_eq rfl) ?_); simp (maxSteps := 9999999) (disch := omega) only [go_sem, hr, k2, g3, hAlen, ringC_ren, es_ren, rm_ren]; first | done | (repeat' (first | rfl | (refine And.intro ?_ ?_))))); (focus (simp (maxSteps := 9999999) (disch := omega) only [go_sem, hr, k2, g3, hAlen, ringC_ren, es_ren, rm_ren]; rfl))) | ((first | (with_reducible apply CallG.plain1 [1, 2, 3] (c5)) | (with_reducible apply CallG.draw1 [1, 2, 3] (c5))); (focus ((try refine And.intro (leAs_of_eq rfl) ?_); (try refine And.intro (leOL_of_eq rfl) ?_); simp (maxSteps := 9999999) (disch := omega) only [go_sem, hr, k2, g3, hAlen, ringC_ren, es_ren, rm_ren]; first | done | (repeat' (first | rfl | (refine And.intro ?_ ?_))))); (focus (simp (maxSteps := 9999999) (disch := omega) only [go_sem, hr, k2, g3, hAlen, ringC_ren, es_ren, rm_ren]; rfl)))); (try simp (maxSteps := 9999999) (disch := omega) only [go_sem, hr, k2, g3, hAlen, ringC_ren, es_ren, rm_ren]); (try (refine And.intro ?_ ?_; (focus (first | omega | (simp only [go_sem]; done) | (simp; done) | (simp; omega) | assumption))))) | ((first | refine CondP.split (fun hif => ?_) (fun hif => ?_) | refine Runs.part (fun hif => ?_) (fun hif => ?_)) <;> ((try simp only [hif]); (try simp only [decide_eq_true_eq, decide_eq_false_iff_not, Bool.not_eq_true, Bool.not_eq_false, Bool.not_eq_true', Bool.not_eq_false', beq_iff_eq, bne_iff_ne, bne_eq_false_iff_eq, beq_eq_false_iff_ne, ne_eq, Bool.and_eq_true, Bool.or_eq_true, Bool.or_eq_false_iff] at hif); (try (have h9 : _ = true := hif; simp only [h9])); (try (have h9 : _ = false := hif; simp only [h9])); (try simp (maxSteps := 9999999) (disch := omega) only [go_sem, hr, k2, g3, hAlen, ringC_ren, es_ren, rm_ren]); (try (refine And.intro ?_ ?_; (focus (first | omega | (simp only [go_sem]; done) | (simp; done) | (simp; omega) | assumption)))); (try (exfalso; omega; done))))))
        (apply Back.to (i + 1, s2, A) [0, 1, 2, 3, 4]; (focus ((try simp (maxSteps := 9999999) (disch := omega) only [go_sem, hr, ringC_ren, es_ren, rm_ren]); first | done | omega)); rotate_left; (focus (simp (maxSteps := 9999999) (disch := omega) only [go_sem, hr, ringC_ren, es_ren, rm_ren]; (try (repeat' (first | done | trivial | rfl | exact leAs_rfl _ | decide | (refine And.intro ?_ ?_) | (simp; done) | omega | (simp; decide)))))))
        exact ⟨by simp only; omega, hok2, hrm2, hAl, hallA⟩
  · obtain rfl : i = l.length := by omega
    have k1 : ((l.length : Int) < (l.length : Int)) = False := eq_false (by omega)
    (try simp (maxSteps := 9999999) (disch := omega) only [go_sem])
    (repeat' (first | refine AWpA.seq ?_ | refine AWpA.block ?_ | (with_reducible refine CondP.tt ?_) | (with_reducible refine CondP.ff ?_) | refine AWpA.condv (by simp (maxSteps := 9999999) (disch := omega) only [go_sem, hr, k1]; rfl) ?_ | ((first | (apply AWpA.region; (focus (simp (maxSteps := 9999999) (disch := omega) only [go_sem, hr, k1]; rfl))) | (apply AWpA.draw [] [] follows; (focus (first | rfl | decide)); (focus (simp (maxSteps := 9999999) (disch := omega) only [go_sem, hr, k1]; rfl)); (focus (simp (maxSteps := 9999999) (disch := omega) only [go_sem, hr, k1]; first | done | trivial)); (focus (simp (maxSteps := 9999999) (disch := omega) only [go_sem, hr, k1]; rfl))) | (apply TailK.go; (focus (simp (maxSteps := 9999999) (disch := omega) only [go_sem, hr, k1]; rfl))) | refine AWpA.skip ?_ | refine AWpA.exit ?_ | refine AWpA.ret ?_ | (with_reducible refine ARoundsA.succ ?_) | ((first | refine Runs.kt (by assumption) (fun h9 => ?_) | refine Runs.kf (by assumption) (fun h9 => ?_) | refine Runs.nt (by assumption) (fun h9 => ?_) | refine Runs.nf (by assumption) (fun h9 => ?_) | refine CondP.ht (by assumption) (fun h9 => ?_) | refine CondP.hf (by assumption) (fun h9 => ?_) | refine CondP.nt (by assumption) (fun h9 => ?_) | refine CondP.nf (by assumption) (fun h9 => ?_)); (try simp only [h9]); clear h9)); (try simp (maxSteps := 9999999) (disch := omega) only [go_sem, hr, k1]); (try (refine And.intro ?_ ?_; (focus (first | omega | (simp only [go_sem]; done) | (simp; done) | (simp; omega) | assumption))))) | ((first | refine CondP.split (fun hif => ?_) (fun hif => ?_) | refine Runs.part (fun hif => ?_) (fun hif => ?_)) <;> ((try simp only [hif]); (try simp only [decide_eq_true_eq, decide_eq_false_iff_not, Bool.not_eq_true, Bool.not_eq_false, Bool.not_eq_true', Bool.not_eq_false', beq_iff_eq, bne_iff_ne, bne_eq_false_iff_eq, beq_eq_false_iff_ne, ne_eq, Bool.and_eq_true, Bool.or_eq_true, Bool.or_eq_false_iff] at hif); (try (have h9 : _ = true := hif; simp only [h9])); (try (have h9 : _ = false := hif; simp only [h9])); (try simp (maxSteps := 9999999) (disch := omega) only [go_sem, hr, k1]); (try (refine And.intro ?_ ?_; (focus (first | omega | (simp only [go_sem]; done) | (simp; done) | (simp; omega) | assumption)))); (try (exfalso; omega; done))))))
    (refine TopPost.of (by first | exact .inl rfl | exact .inr rfl) (by (try simp (maxSteps := 9999999) (disch := omega) only [go_sem]); rfl) ?_; (try simp (maxSteps := 9999999) (disch := omega) only [go_sem]); (try (first | trivial | decide | (simp; done))))
end Go.Proofs.Ytjcjmeeajkdlhaa
