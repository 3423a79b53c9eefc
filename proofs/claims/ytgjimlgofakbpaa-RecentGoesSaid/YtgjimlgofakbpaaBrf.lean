/- The walk of RecentGoes. Written by wip/gen_rgoes.py. -/
import Derived.Test.YtgjimlgofakbpaaBr9
namespace Go.Proofs.Ytgjimlgofakbpaa
set_option linter.unusedSimpArgs false
set_option linter.unusedVariables false
set_option maxHeartbeats 4000000
open Go Go.Am Go.RowKit Go.ChangeShapes Go.WideShapes Go.ChangeAt
set_option maxRecDepth 100000
/-- The mark that was told last. -/
def atM (l : List Mk) : Nat → Mk
  | 0 => zeroM
  | p + 1 => l.getD p zeroM
theorem cut_at {l : List Mk} (h : RiseM l) (hc : ∀ m ∈ l, 1 ≤ m.act.c) {p : Nat} (hp : p ≤ l.length) : cutM l (atM l p) = p := by
  cases p with
  | zero => unfold cutM atM; rw [if_pos rfl]
  | succ p =>
    have hlt : p < l.length := by omega
    have e : atM l (p + 1) = l[p] := by simp [atM, hlt]
    have hz : ¬ l[p] = zeroM := fun e => by
      have := hc l[p] (List.getElem_mem hlt)
      rw [e] at this
      simp at this
    unfold cutM
    rw [e, if_neg hz, rankM_at h hlt, if_pos (hasM_at h hlt)]
theorem below_at {l : List Mk} (h : RiseM l) (hc : ∀ m ∈ l, 1 ≤ m.act.c) {p : Nat} (hp : p ≤ l.length) (K : Int) : belowM l (atM l p) K = (l.drop p).take (min (max K 0).toNat (l.length - p)) := by
  unfold belowM
  rw [cut_at h hc hp]
theorem take_more {α : Type} (l : List α) (p q : Nat) : l.take p ++ (l.drop p).take q = l.take (p + q) := by
  rw [List.take_add]
theorem dropF_pos {l : List Mk} (hc : ∀ m ∈ l, 1 ≤ m.act.c) {m : Mk} (hm : 1 ≤ m.act.c) : ∀ a ∈ insM (dropF l m.key) m, 1 ≤ a.act.c := fun a ha => by
  rcases List.mem_cons.1 ((perm_insM _ _).mem_iff.1 ha) with rfl | h
  · exact hm
  · exact hc a ((dropF_sub _ _).mem h)
theorem all_newest {l : List Mk} {n : Int} (hn : (l.length : Int) ≤ n) : belowM l zeroM n = l := by
  unfold belowM cutM
  rw [if_pos rfl, List.drop_zero]
  exact List.take_of_length_le (by omega)
/- quidnunc/quidnunclaw10.RecentGoes -/
noncomputable def c5_1 : ACode := .region false [⟨some 4, .move, [.c (.val (.bool false))], none⟩] [] [] [0, 1] false [] []
noncomputable def c5_4 : ACode := .region false [⟨some 13, .call 11, [], none⟩,
  ⟨some 14, .un .not, [.t 13], none⟩,
  ⟨some 15, .move, [.t 14], none⟩,
  ⟨some 16, .move, [.t 0], some (some 15, false)⟩,
  ⟨some 17, .len, [.t 16], some (some 15, false)⟩,
  ⟨some 18, .bin .gtr, [.t 17, .c (.val (.int .i64 40))], some (some 15, false)⟩,
  ⟨some 19, .pick, [.t 15, .c (.val (.bool true)), .t 18], none⟩] [] [] [0, 1, 19] true [] []
noncomputable def c5_7 : ACode := .region false [⟨some 20, .call 11, [], none⟩,
  ⟨some 4, .move, [.t 20], none⟩] [] [] [4] true [] []
noncomputable def c5_6 : ACode := .seq c5_7 .ret
noncomputable def c5_5 : ACode := .cond (.t 19) c5_6 .skip
noncomputable def c5_3 : ACode := .seq c5_4 c5_5
noncomputable def c5_9 : ACode := .region false [⟨some 21, .call 16, [], none⟩,
  ⟨some 5, .move, [.t 21], none⟩] [] [] [0, 1, 5] true [] []
noncomputable def c5_12 : ACode := .region false [⟨some 22, .move, [.t 0], none⟩,
  ⟨some 23, .len, [.t 22], none⟩,
  ⟨some 24, .move, [.c (.val (.int .i64 0))], none⟩] [] [] [1, 5, 22, 23, 24] false [] []
noncomputable def c5_16 : ACode := .region false [⟨some 25, .bin .lss, [.t 24, .t 23], none⟩] [] [] [1, 5, 22, 23, 24, 25] false [] []
noncomputable def c5_18 : ACode := .cond (.t 25) .skip (.exit 0)
noncomputable def c5_22 : ACode := .region false [⟨some 26, .ixS 3, [.t 22, .t 24], none⟩,
  ⟨some 27, .load true 3, [.t 26], none⟩,
  ⟨some 7, .alloc [(.int .i64 0), (.int .i64 0), (.string ⟨#[]⟩)], [], none⟩,
  ⟨none, .store 3, [.t 7, .t 27], none⟩] [] [] [1, 5, 7, 22, 23, 24] true [] []
noncomputable def c5_25 : ACode := .region false [⟨some 28, .addr 0, [.t 7], none⟩,
  ⟨some 29, .addr 0, [.t 28], none⟩,
  ⟨some 30, .load false 1, [.t 29], none⟩,
  ⟨some 31, .bin .lss, [.t 30, .c (.val (.int .i64 1))], none⟩,
  ⟨some 32, .move, [.t 31], none⟩,
  ⟨some 33, .addr 2, [.t 7], some (some 32, false)⟩,
  ⟨some 34, .load false 1, [.t 33], some (some 32, false)⟩,
  ⟨some 35, .lenStr, [.t 34], some (some 32, false)⟩,
  ⟨some 36, .bin .gtr, [.t 35, .c (.val (.int .i64 40))], some (some 32, false)⟩,
  ⟨some 37, .pick, [.t 32, .c (.val (.bool true)), .t 36], none⟩] [] [] [1, 5, 7, 22, 23, 24, 37] false [] []
noncomputable def c5_28 : ACode := .region false [⟨some 4, .move, [.c (.val (.bool true))], none⟩] [] [] [4] false [] []
noncomputable def c5_27 : ACode := .seq c5_28 .ret
noncomputable def c5_26 : ACode := .cond (.t 37) c5_27 .skip
noncomputable def c5_24 : ACode := .seq c5_25 c5_26
noncomputable def c5_29 : ACode := .region false [⟨some 38, .move, [.t 5], none⟩,
  ⟨some 39, .load true 3, [.t 7], none⟩,
  ⟨some 40, .call 13, [.t 39], none⟩,
  ⟨some 41, .call 19, [.t 38, .t 40], none⟩] [] [] [1, 5, 22, 23, 24] true [] []
noncomputable def c5_23 : ACode := .seq c5_24 c5_29
noncomputable def c5_21 : ACode := .seq c5_22 c5_23
noncomputable def c5_20 : ACode := .block 1 c5_21
noncomputable def c5_30 : ACode := .region false [⟨some 42, .bin .add, [.t 24, .c (.val (.int .i64 1))], none⟩,
  ⟨some 24, .move, [.t 42], none⟩] [] [] [1, 5, 22, 23, 24] false [] []
noncomputable def c5_19 : ACode := .seq c5_20 c5_30
noncomputable def c5_17 : ACode := .seq c5_18 c5_19
noncomputable def c5_15 : ACode := .seq c5_16 c5_17
noncomputable def c5_14 : ACode := .loop c5_15
noncomputable def c5_13 : ACode := .block 0 c5_14
noncomputable def c5_11 : ACode := .seq c5_12 c5_13
noncomputable def c5_32 : ACode := .region false [⟨some 43, .move, [.t 1], none⟩,
  ⟨some 44, .conv .i64, [.t 43], none⟩,
  ⟨some 45, .bin .rem, [.t 44, .c (.val (.int .i64 5))], none⟩,
  ⟨some 46, .bin .add, [.c (.val (.int .i64 1)), .t 45], none⟩,
  ⟨some 8, .move, [.t 46], none⟩] [] [] [5, 8] false [] []
noncomputable def c5_34 : ACode := .region false [⟨some 47, .build [(.int .i64 0), (.int .i64 0), (.string ⟨#[]⟩)] [], [], none⟩,
  ⟨some 9, .alloc [(.int .i64 0), (.int .i64 0), (.string ⟨#[]⟩)], [], none⟩,
  ⟨none, .store 3, [.t 9, .t 47], none⟩] [] [] [5, 8, 9] true [] []
noncomputable def c5_36 : ACode := .region false [⟨some 48, .buildSl 3 0 [(.int .i64 0), (.int .i64 0), (.string ⟨#[]⟩)] [], [], none⟩,
  ⟨some 10, .move, [.t 48], none⟩] [] [] [5, 8, 9, 10] true [] []
noncomputable def c5_39 : ACode := .region false [⟨some 49, .move, [.c (.val (.int .i64 0))], none⟩] [] [] [5, 8, 9, 10, 49] false [] []
noncomputable def c5_43 : ACode := .region false [⟨some 50, .bin .lss, [.t 49, .c (.val (.int .i64 50))], none⟩] [] [] [5, 8, 9, 10, 49, 50] false [] []
noncomputable def c5_45 : ACode := .cond (.t 50) .skip (.exit 2)
noncomputable def c5_49 : ACode := .region false [⟨some 51, .move, [.t 5], none⟩,
  ⟨some 52, .load true 3, [.t 9], none⟩,
  ⟨some 53, .move, [.t 8], none⟩,
  ⟨some 54, .call 29, [.t 51, .t 52, .t 53], none⟩,
  ⟨some 11, .move, [.t 54], none⟩] [] [] [5, 8, 9, 10, 11, 49] true [] []
noncomputable def c5_52 : ACode := .region false [⟨some 55, .move, [.t 11], none⟩,
  ⟨some 56, .len, [.t 55], none⟩,
  ⟨some 57, .bin .eql, [.t 56, .c (.val (.int .i64 0))], none⟩] [] [] [5, 8, 9, 10, 11, 49, 57] false [] []
noncomputable def c5_53 : ACode := .cond (.t 57) (.exit 2) .skip
noncomputable def c5_51 : ACode := .seq c5_52 c5_53
noncomputable def c5_56 : ACode := .region false [⟨some 58, .move, [.t 11], none⟩,
  ⟨some 59, .len, [.t 58], none⟩,
  ⟨some 60, .move, [.t 8], none⟩,
  ⟨some 61, .bin .gtr, [.t 59, .t 60], none⟩] [] [] [5, 8, 9, 10, 11, 49, 61] false [] []
noncomputable def c5_59 : ACode := .region false [⟨some 4, .move, [.c (.val (.bool false))], none⟩] [] [] [4] false [] []
noncomputable def c5_58 : ACode := .seq c5_59 .ret
noncomputable def c5_57 : ACode := .cond (.t 61) c5_58 .skip
noncomputable def c5_55 : ACode := .seq c5_56 c5_57
noncomputable def c5_61 : ACode := .region false [⟨some 62, .move, [.t 10], none⟩,
  ⟨some 63, .move, [.t 11], none⟩,
  ⟨some 64, .call 26, [.t 63], none⟩,
  ⟨some 65, .append 3 32 false, [.t 62, .t 64], none⟩,
  ⟨some 10, .move, [.t 65], none⟩] [] [] [5, 8, 9, 10, 11, 49] true [] []
noncomputable def c5_62 : ACode := .region false [⟨some 66, .move, [.t 11], none⟩,
  ⟨some 67, .move, [.t 11], none⟩,
  ⟨some 68, .len, [.t 67], none⟩,
  ⟨some 69, .bin .sub, [.t 68, .c (.val (.int .i64 1))], none⟩,
  ⟨some 70, .ixS 3, [.t 66, .t 69], none⟩,
  ⟨some 71, .load true 3, [.t 70], none⟩,
  ⟨none, .store 3, [.t 9, .t 71], none⟩] [] [] [5, 8, 9, 10, 49] true [] []
noncomputable def c5_60 : ACode := .seq c5_61 c5_62
noncomputable def c5_54 : ACode := .seq c5_55 c5_60
noncomputable def c5_50 : ACode := .seq c5_51 c5_54
noncomputable def c5_48 : ACode := .seq c5_49 c5_50
noncomputable def c5_47 : ACode := .block 3 c5_48
noncomputable def c5_63 : ACode := .region false [⟨some 72, .bin .add, [.t 49, .c (.val (.int .i64 1))], none⟩,
  ⟨some 49, .move, [.t 72], none⟩] [] [] [5, 8, 9, 10, 49] false [] []
noncomputable def c5_46 : ACode := .seq c5_47 c5_63
noncomputable def c5_44 : ACode := .seq c5_45 c5_46
noncomputable def c5_42 : ACode := .seq c5_43 c5_44
noncomputable def c5_41 : ACode := .loop c5_42
noncomputable def c5_40 : ACode := .block 2 c5_41
noncomputable def c5_38 : ACode := .seq c5_39 c5_40
noncomputable def c5_66 : ACode := .region false [⟨some 12, .move, [.c (.val (.int .i64 1))], none⟩] [] [] [5, 10, 12] false [] []
noncomputable def c5_71 : ACode := .region false [⟨some 73, .move, [.t 12], none⟩,
  ⟨some 74, .move, [.t 10], none⟩,
  ⟨some 75, .len, [.t 74], none⟩,
  ⟨some 76, .bin .lss, [.t 73, .t 75], none⟩] [] [] [5, 10, 12, 76] false [] []
noncomputable def c5_72 : ACode := .cond (.t 76) .skip (.exit 4)
noncomputable def c5_70 : ACode := .seq c5_71 c5_72
noncomputable def c5_76 : ACode := .region true [⟨some 79, .move, [.t 10], none⟩,
  ⟨some 80, .move, [.t 12], none⟩,
  ⟨some 81, .bin .sub, [.t 80, .c (.val (.int .i64 1))], none⟩,
  ⟨some 82, .ixS 3, [.t 79, .t 81], none⟩,
  ⟨some 83, .load true 3, [.t 82], none⟩,
  ⟨some 84, .move, [.t 10], none⟩,
  ⟨some 85, .move, [.t 12], none⟩,
  ⟨some 86, .ixS 3, [.t 84, .t 85], none⟩,
  ⟨some 87, .load true 3, [.t 86], none⟩,
  ⟨some 88, .call 14, [.t 83, .t 87], none⟩,
  ⟨some 89, .un .not, [.t 88], none⟩] [] [] [5, 10, 12, 89] true [] []
noncomputable def c5_79 : ACode := .region false [⟨some 4, .move, [.c (.val (.bool false))], none⟩] [] [] [4] false [] []
noncomputable def c5_78 : ACode := .seq c5_79 .ret
noncomputable def c5_77 : ACode := .cond (.t 89) c5_78 .skip
noncomputable def c5_75 : ACode := .seq c5_76 c5_77
noncomputable def c5_74 : ACode := .block 5 c5_75
noncomputable def c5_80 : ACode := .region false [⟨some 77, .move, [.t 12], none⟩,
  ⟨some 78, .bin .add, [.t 77, .c (.val (.int .i64 1))], none⟩,
  ⟨some 12, .move, [.t 78], none⟩] [] [] [5, 10, 12] false [] []
noncomputable def c5_73 : ACode := .seq c5_74 c5_80
noncomputable def c5_69 : ACode := .seq c5_70 c5_73
noncomputable def c5_68 : ACode := .loop c5_69
noncomputable def c5_67 : ACode := .block 4 c5_68
noncomputable def c5_65 : ACode := .seq c5_66 c5_67
noncomputable def c5_82 : ACode := .region false [⟨some 90, .move, [.t 10], none⟩,
  ⟨some 91, .len, [.t 90], none⟩,
  ⟨some 92, .move, [.t 5], none⟩,
  ⟨some 93, .call 24, [.t 92], none⟩,
  ⟨some 94, .bin .eql, [.t 91, .t 93], none⟩,
  ⟨some 95, .move, [.t 94], none⟩,
  ⟨some 96, .move, [.t 10], some (some 95, true)⟩,
  ⟨some 97, .move, [.t 5], some (some 95, true)⟩,
  ⟨some 98, .call 27, [.t 97, .c (.val (.int .i64 100))], some (some 95, true)⟩,
  ⟨some 99, .call 26, [.t 98], some (some 95, true)⟩,
  ⟨some 100, .call 25, [.t 96, .t 99], some (some 95, true)⟩,
  ⟨some 101, .pick, [.t 95, .t 100, .c (.val (.bool false))], none⟩,
  ⟨some 4, .move, [.t 101], none⟩] [] [] [4] true [] []
noncomputable def c5_81 : ACode := .seq c5_82 .ret
noncomputable def c5_64 : ACode := .seq c5_65 c5_81
noncomputable def c5_37 : ACode := .seq c5_38 c5_64
noncomputable def c5_35 : ACode := .seq c5_36 c5_37
noncomputable def c5_33 : ACode := .seq c5_34 c5_35
noncomputable def c5_31 : ACode := .seq c5_32 c5_33
noncomputable def c5_10 : ACode := .seq c5_11 c5_31
noncomputable def c5_8 : ACode := .seq c5_9 c5_10
noncomputable def c5_2 : ACode := .seq c5_3 c5_8
noncomputable def c5_0 : ACode := .seq c5_1 c5_2
noncomputable def code5 : Code := (Try.f5.body).getD .skip
theorem c5_ok : compC Try.prog 102 code5 = some (strip c5_0) := by kernel_rfl
theorem res5_ok : Try.f5.results.toList.mapM (resC Try.prog) = some [(4, none)] := by kernel_rfl
theorem recentGoes_walk (W : World) (sl : Sl Mk) (n : Int) (hz : Sl.ok W 3 Mk.rep (Mk.ok W) sl) (hn : IntKind.u8.min ≤ n ∧ n ≤ IntKind.u8.max) :
    Calls Try.prog 5 #[.slice sl.ad sl.l.length sl.cap, .int .u8 n] W fun e W' => e = .returned (.bool true) ∧ Below W.heap.size W W' := by
  have hn : 0 ≤ n ∧ n ≤ 255 := hn
  obtain ⟨ad, off, cap, l⟩ := sl
  obtain ⟨hz, -, hl⟩ := hz
  have hl : l.length ≤ 9223372036854775807 := by simpa [maxLen] using hl
  simp only at hz
  have hr := rm_ren off l
  have hL := rm_len off l
  have sp := speaks10_any
  by_cases h1 : (40 : Int) < (l.length : Int)
  · have g1 : ((40 : Int) < (l.length : Int)) = True := eq_true h1
    refine top_call c5_ok Try.func5 rfl Try.ntmps5 res5_ok [ .val (.slice ad l.length cap), .val (.int .u8 n)] (by simp) (by (repeat' (first | exact VRs_nil' _ | exact VR_val' _ _ | (refine VRs_cons' ?_ ?_) | (refine VR_agg' (by first | rfl | assumption) ?_; first | assumption | simp [Value.oneCell', St.rep, Mk.rep])))) ?_; try simp (maxSteps := 9999999) (disch := omega) only [go_sem]
    refine AWpA.thawT 0 MkL hz (fun x => by simp [Mk.rep, St.rep]) rfl ?_
    (repeat' (first | refine AWpA.seq ?_ | refine AWpA.block ?_ | (with_reducible refine CondP.tt ?_) | (with_reducible refine CondP.ff ?_) | refine AWpA.condv (by simp (maxSteps := 9999999) (disch := omega) only [go_sem, hr, g1]; rfl) ?_ | ((first | (apply AWpA.region; (focus (simp (maxSteps := 9999999) (disch := omega) only [go_sem, hr, g1]; rfl))) | (apply AWpA.draw [] [] follows; (focus (first | rfl | decide)); (focus (simp (maxSteps := 9999999) (disch := omega) only [go_sem, hr, g1]; rfl)); (focus (simp (maxSteps := 9999999) (disch := omega) only [go_sem, hr, g1]; first | done | trivial)); (focus (simp (maxSteps := 9999999) (disch := omega) only [go_sem, hr, g1]; rfl))) | (apply TailK.go; (focus (simp (maxSteps := 9999999) (disch := omega) only [go_sem, hr, g1]; rfl))) | refine AWpA.skip ?_ | refine AWpA.exit ?_ | refine AWpA.ret ?_ | (with_reducible refine ARoundsA.succ ?_) | ((first | refine Runs.kt (by assumption) (fun h9 => ?_) | refine Runs.kf (by assumption) (fun h9 => ?_) | refine Runs.nt (by assumption) (fun h9 => ?_) | refine Runs.nf (by assumption) (fun h9 => ?_) | refine CondP.ht (by assumption) (fun h9 => ?_) | refine CondP.hf (by assumption) (fun h9 => ?_) | refine CondP.nt (by assumption) (fun h9 => ?_) | refine CondP.nf (by assumption) (fun h9 => ?_)); (try simp only [h9]); clear h9) | ((first | (with_reducible apply CallG.plain1 [] (sp)) | (with_reducible apply CallG.draw1 [] (sp))); (focus ((try refine And.intro (leAs_of_eq rfl) ?_); (try refine And.intro (leOL_of_eq rfl) ?_); simp (maxSteps := 9999999) (disch := omega) only [go_sem, hr, g1]; first | done | (repeat' (first | rfl | (refine And.intro ?_ ?_))))); (focus (simp (maxSteps := 9999999) (disch := omega) only [go_sem, hr, g1]; rfl)))); (try simp (maxSteps := 9999999) (disch := omega) only [go_sem, hr, g1]); (try (refine And.intro ?_ ?_; (focus (first | omega | (simp only [go_sem]; done) | (simp; done) | (simp; omega) | assumption))))) | ((first | refine CondP.split (fun hif => ?_) (fun hif => ?_) | refine Runs.part (fun hif => ?_) (fun hif => ?_)) <;> ((try simp only [hif]); (try simp only [decide_eq_true_eq, decide_eq_false_iff_not, Bool.not_eq_true, Bool.not_eq_false, Bool.not_eq_true', Bool.not_eq_false', beq_iff_eq, bne_iff_ne, bne_eq_false_iff_eq, beq_eq_false_iff_ne, ne_eq, Bool.and_eq_true, Bool.or_eq_true, Bool.or_eq_false_iff] at hif); (try (have h9 : _ = true := hif; simp only [h9])); (try (have h9 : _ = false := hif; simp only [h9])); (try simp (maxSteps := 9999999) (disch := omega) only [go_sem, hr, g1]); (try (refine And.intro ?_ ?_; (focus (first | omega | (simp only [go_sem]; done) | (simp; done) | (simp; omega) | assumption)))); (try (exfalso; omega; done))))))
    (refine TopPost.of (by first | exact .inl rfl | exact .inr rfl) (by (try simp (maxSteps := 9999999) (disch := omega) only [go_sem]); rfl) ?_; (try simp (maxSteps := 9999999) (disch := omega) only [go_sem]); (try (first | trivial | decide | (simp; done))))
  have g1 : ((40 : Int) < (l.length : Int)) = False := eq_false h1
  have n1 := mnew_any
  have hbe : ∀ x : ByteArray, (x == x) = true := fun x => (_root_.Go.MapKept.bytes_beq _ _).2 rfl
  have he := esI_ren
  have hrm := rm_ren 0
  refine top_call c5_ok Try.func5 rfl Try.ntmps5 res5_ok [ .val (.slice ad l.length cap), .val (.int .u8 n)] (by simp) (by (repeat' (first | exact VRs_nil' _ | exact VR_val' _ _ | (refine VRs_cons' ?_ ?_) | (refine VR_agg' (by first | rfl | assumption) ?_; first | assumption | simp [Value.oneCell', St.rep, Mk.rep])))) ?_; try simp (maxSteps := 9999999) (disch := omega) only [go_sem]
  refine AWpA.thawT 0 MkL hz (fun x => by simp [Mk.rep, St.rep]) rfl ?_
  refine AWpA.dummy ?_
  (repeat' (first | refine AWpA.seq ?_ | refine AWpA.block ?_ | (with_reducible refine CondP.tt ?_) | (with_reducible refine CondP.ff ?_) | refine AWpA.condv (by simp (maxSteps := 9999999) (disch := omega) only [go_sem, hr, g1]; rfl) ?_ | ((first | (apply AWpA.region; (focus (simp (maxSteps := 9999999) (disch := omega) only [go_sem, hr, g1]; rfl))) | (apply AWpA.draw [] [] follows; (focus (first | rfl | decide)); (focus (simp (maxSteps := 9999999) (disch := omega) only [go_sem, hr, g1]; rfl)); (focus (simp (maxSteps := 9999999) (disch := omega) only [go_sem, hr, g1]; first | done | trivial)); (focus (simp (maxSteps := 9999999) (disch := omega) only [go_sem, hr, g1]; rfl))) | (apply TailK.go; (focus (simp (maxSteps := 9999999) (disch := omega) only [go_sem, hr, g1]; rfl))) | refine AWpA.skip ?_ | refine AWpA.exit ?_ | refine AWpA.ret ?_ | (with_reducible refine ARoundsA.succ ?_) | ((first | refine Runs.kt (by assumption) (fun h9 => ?_) | refine Runs.kf (by assumption) (fun h9 => ?_) | refine Runs.nt (by assumption) (fun h9 => ?_) | refine Runs.nf (by assumption) (fun h9 => ?_) | refine CondP.ht (by assumption) (fun h9 => ?_) | refine CondP.hf (by assumption) (fun h9 => ?_) | refine CondP.nt (by assumption) (fun h9 => ?_) | refine CondP.nf (by assumption) (fun h9 => ?_)); (try simp only [h9]); clear h9) | ((first | (with_reducible apply CallG.plain1 [] (sp)) | (with_reducible apply CallG.draw1 [] (sp))); (focus ((try refine And.intro (leAs_of_eq rfl) ?_); (try refine And.intro (leOL_of_eq rfl) ?_); simp (maxSteps := 9999999) (disch := omega) only [go_sem, hr, g1]; first | done | (repeat' (first | rfl | (refine And.intro ?_ ?_))))); (focus (simp (maxSteps := 9999999) (disch := omega) only [go_sem, hr, g1]; rfl))) | ((first | (with_reducible apply CallG.plain1 [] (n1)) | (with_reducible apply CallG.draw1 [] (n1))); (focus ((try refine And.intro (leAs_of_eq rfl) ?_); (try refine And.intro (leOL_of_eq rfl) ?_); simp (maxSteps := 9999999) (disch := omega) only [go_sem, hr, g1]; first | done | (repeat' (first | rfl | (refine And.intro ?_ ?_))))); (focus (simp (maxSteps := 9999999) (disch := omega) only [go_sem, hr, g1]; rfl)))); (try simp (maxSteps := 9999999) (disch := omega) only [go_sem, hr, g1]); (try (refine And.intro ?_ ?_; (focus (first | omega | (simp only [go_sem]; done) | (simp; done) | (simp; omega) | assumption))))) | ((first | refine CondP.split (fun hif => ?_) (fun hif => ?_) | refine Runs.part (fun hif => ?_) (fun hif => ?_)) <;> ((try simp only [hif]); (try simp only [decide_eq_true_eq, decide_eq_false_iff_not, Bool.not_eq_true, Bool.not_eq_false, Bool.not_eq_true', Bool.not_eq_false', beq_iff_eq, bne_iff_ne, bne_eq_false_iff_eq, beq_eq_false_iff_ne, ne_eq, Bool.and_eq_true, Bool.or_eq_true, Bool.or_eq_false_iff] at hif); (try (have h9 : _ = true := hif; simp only [h9])); (try (have h9 : _ = false := hif; simp only [h9])); (try simp (maxSteps := 9999999) (disch := omega) only [go_sem, hr, g1]); (try (refine And.intro ?_ ?_; (focus (first | omega | (simp only [go_sem]; done) | (simp; done) | (simp; omega) | assumption)))); (try (exfalso; omega; done))))))
  (apply AWpA.loopL (fun p : Nat × Ix => [(1, .val (.int .u8 n)), (5, .ptr 1 0), (22, .sl 0 off l.length 3 none), (23, I l.length), (24, I p.1)]) (fun p => [.cells true (Rm off l), IxO 3 2 p.2.l, .map false (EsI p.2.e), .cells false (Rm 0 p.2.l)]) (fun p => l.length - p.1) (fun p => p.1 ≤ l.length ∧ p.2.ok ∧ p.2.l.length ≤ p.1 ∧ ∀ m ∈ p.2.l, 1 ≤ m.act.c) ((0, ⟨[], []⟩)) [0, _, _, 1]; rotate_left; (focus (simp (maxSteps := 9999999) (disch := omega) only [go_sem, hr, he, rm_nil]; (try (repeat' (first | done | trivial | rfl | exact leAs_rfl _ | decide | (refine And.intro ?_ ?_) | (simp; done) | omega | (simp; decide)))))); rotate_right)
  · exact ⟨Nat.zero_le _, ix0_ok, Nat.le_refl _, by simp⟩
  rintro ⟨i, x⟩ ⟨hi, hok, hlen, hpos⟩
  (try simp only at hi hok hlen hpos)
  by_cases hin : i < l.length
  · have k1 : ((i : Int) < (l.length : Int)) = True := eq_true (by omega)
    have hat := rm_at off l i hin
    generalize l[i] = a at *
    have o1 := of10_any a
    have c1 := mput_any x a hok (by omega)
    have hok2 := hok.put a
    have hlen2 := putX_len x a
    have hp2 : 1 ≤ a.act.c → ∀ m ∈ (putX x a).l, 1 ≤ m.act.c := fun h => dropF_pos hpos h
    generalize putX x a = y at *
    by_cases h2 : a.act.c < 1
    · have g2 : (a.act.c < 1) = True := eq_true h2
      (try simp (maxSteps := 9999999) (disch := omega) only [go_sem])
      (repeat' (first | refine AWpA.seq ?_ | refine AWpA.block ?_ | (with_reducible refine CondP.tt ?_) | (with_reducible refine CondP.ff ?_) | refine AWpA.condv (by simp (maxSteps := 9999999) (disch := omega) only [go_sem, hr, hL, k1, hat, g2]; rfl) ?_ | ((first | (apply AWpA.region; (focus (simp (maxSteps := 9999999) (disch := omega) only [go_sem, hr, hL, k1, hat, g2]; rfl))) | (apply AWpA.draw [] [] follows; (focus (first | rfl | decide)); (focus (simp (maxSteps := 9999999) (disch := omega) only [go_sem, hr, hL, k1, hat, g2]; rfl)); (focus (simp (maxSteps := 9999999) (disch := omega) only [go_sem, hr, hL, k1, hat, g2]; first | done | trivial)); (focus (simp (maxSteps := 9999999) (disch := omega) only [go_sem, hr, hL, k1, hat, g2]; rfl))) | (apply TailK.go; (focus (simp (maxSteps := 9999999) (disch := omega) only [go_sem, hr, hL, k1, hat, g2]; rfl))) | refine AWpA.skip ?_ | refine AWpA.exit ?_ | refine AWpA.ret ?_ | (with_reducible refine ARoundsA.succ ?_) | ((first | refine Runs.kt (by assumption) (fun h9 => ?_) | refine Runs.kf (by assumption) (fun h9 => ?_) | refine Runs.nt (by assumption) (fun h9 => ?_) | refine Runs.nf (by assumption) (fun h9 => ?_) | refine CondP.ht (by assumption) (fun h9 => ?_) | refine CondP.hf (by assumption) (fun h9 => ?_) | refine CondP.nt (by assumption) (fun h9 => ?_) | refine CondP.nf (by assumption) (fun h9 => ?_)); (try simp only [h9]); clear h9)); (try simp (maxSteps := 9999999) (disch := omega) only [go_sem, hr, hL, k1, hat, g2]); (try (refine And.intro ?_ ?_; (focus (first | omega | (simp only [go_sem]; done) | (simp; done) | (simp; omega) | assumption))))) | ((first | refine CondP.split (fun hif => ?_) (fun hif => ?_) | refine Runs.part (fun hif => ?_) (fun hif => ?_)) <;> ((try simp only [hif]); (try simp only [decide_eq_true_eq, decide_eq_false_iff_not, Bool.not_eq_true, Bool.not_eq_false, Bool.not_eq_true', Bool.not_eq_false', beq_iff_eq, bne_iff_ne, bne_eq_false_iff_eq, beq_eq_false_iff_ne, ne_eq, Bool.and_eq_true, Bool.or_eq_true, Bool.or_eq_false_iff] at hif); (try (have h9 : _ = true := hif; simp only [h9])); (try (have h9 : _ = false := hif; simp only [h9])); (try simp (maxSteps := 9999999) (disch := omega) only [go_sem, hr, hL, k1, hat, g2]); (try (refine And.intro ?_ ?_; (focus (first | omega | (simp only [go_sem]; done) | (simp; done) | (simp; omega) | assumption)))); (try (exfalso; omega; done))))))
      (refine TopPost.of (by first | exact .inl rfl | exact .inr rfl) (by (try simp (maxSteps := 9999999) (disch := omega) only [go_sem]); rfl) ?_; (try simp (maxSteps := 9999999) (disch := omega) only [go_sem]); (try (first | trivial | decide | (simp; done))))
    · have g2 : (a.act.c < 1) = False := eq_false h2
      have hp3 := hp2 (by omega)
      by_cases h3 : (40 : Int) < (a.key.size : Int)
      · have g3 : ((40 : Int) < (a.key.size : Int)) = True := eq_true h3
        (try simp (maxSteps := 9999999) (disch := omega) only [go_sem])
        (repeat' (first | refine AWpA.seq ?_ | refine AWpA.block ?_ | (with_reducible refine CondP.tt ?_) | (with_reducible refine CondP.ff ?_) | refine AWpA.condv (by simp (maxSteps := 9999999) (disch := omega) only [go_sem, hr, hL, k1, hat, g2, g3]; rfl) ?_ | ((first | (apply AWpA.region; (focus (simp (maxSteps := 9999999) (disch := omega) only [go_sem, hr, hL, k1, hat, g2, g3]; rfl))) | (apply AWpA.draw [] [] follows; (focus (first | rfl | decide)); (focus (simp (maxSteps := 9999999) (disch := omega) only [go_sem, hr, hL, k1, hat, g2, g3]; rfl)); (focus (simp (maxSteps := 9999999) (disch := omega) only [go_sem, hr, hL, k1, hat, g2, g3]; first | done | trivial)); (focus (simp (maxSteps := 9999999) (disch := omega) only [go_sem, hr, hL, k1, hat, g2, g3]; rfl))) | (apply TailK.go; (focus (simp (maxSteps := 9999999) (disch := omega) only [go_sem, hr, hL, k1, hat, g2, g3]; rfl))) | refine AWpA.skip ?_ | refine AWpA.exit ?_ | refine AWpA.ret ?_ | (with_reducible refine ARoundsA.succ ?_) | ((first | refine Runs.kt (by assumption) (fun h9 => ?_) | refine Runs.kf (by assumption) (fun h9 => ?_) | refine Runs.nt (by assumption) (fun h9 => ?_) | refine Runs.nf (by assumption) (fun h9 => ?_) | refine CondP.ht (by assumption) (fun h9 => ?_) | refine CondP.hf (by assumption) (fun h9 => ?_) | refine CondP.nt (by assumption) (fun h9 => ?_) | refine CondP.nf (by assumption) (fun h9 => ?_)); (try simp only [h9]); clear h9)); (try simp (maxSteps := 9999999) (disch := omega) only [go_sem, hr, hL, k1, hat, g2, g3]); (try (refine And.intro ?_ ?_; (focus (first | omega | (simp only [go_sem]; done) | (simp; done) | (simp; omega) | assumption))))) | ((first | refine CondP.split (fun hif => ?_) (fun hif => ?_) | refine Runs.part (fun hif => ?_) (fun hif => ?_)) <;> ((try simp only [hif]); (try simp only [decide_eq_true_eq, decide_eq_false_iff_not, Bool.not_eq_true, Bool.not_eq_false, Bool.not_eq_true', Bool.not_eq_false', beq_iff_eq, bne_iff_ne, bne_eq_false_iff_eq, beq_eq_false_iff_ne, ne_eq, Bool.and_eq_true, Bool.or_eq_true, Bool.or_eq_false_iff] at hif); (try (have h9 : _ = true := hif; simp only [h9])); (try (have h9 : _ = false := hif; simp only [h9])); (try simp (maxSteps := 9999999) (disch := omega) only [go_sem, hr, hL, k1, hat, g2, g3]); (try (refine And.intro ?_ ?_; (focus (first | omega | (simp only [go_sem]; done) | (simp; done) | (simp; omega) | assumption)))); (try (exfalso; omega; done))))))
        (refine TopPost.of (by first | exact .inl rfl | exact .inr rfl) (by (try simp (maxSteps := 9999999) (disch := omega) only [go_sem]); rfl) ?_; (try simp (maxSteps := 9999999) (disch := omega) only [go_sem]); (try (first | trivial | decide | (simp; done))))
      · have g3 : ((40 : Int) < (a.key.size : Int)) = False := eq_false h3
        clear hp2 hpos
        (try simp (maxSteps := 9999999) (disch := omega) only [go_sem])
        (repeat' (first | refine AWpA.seq ?_ | refine AWpA.block ?_ | (with_reducible refine CondP.tt ?_) | (with_reducible refine CondP.ff ?_) | refine AWpA.condv (by simp (maxSteps := 9999999) (disch := omega) only [go_sem, hr, hrm, he, hL, k1, hat, g2, g3]; rfl) ?_ | ((first | (apply AWpA.region; (focus (simp (maxSteps := 9999999) (disch := omega) only [go_sem, hr, hrm, he, hL, k1, hat, g2, g3]; rfl))) | (apply AWpA.draw [] [] follows; (focus (first | rfl | decide)); (focus (simp (maxSteps := 9999999) (disch := omega) only [go_sem, hr, hrm, he, hL, k1, hat, g2, g3]; rfl)); (focus (simp (maxSteps := 9999999) (disch := omega) only [go_sem, hr, hrm, he, hL, k1, hat, g2, g3]; first | done | trivial)); (focus (simp (maxSteps := 9999999) (disch := omega) only [go_sem, hr, hrm, he, hL, k1, hat, g2, g3]; rfl))) | (apply TailK.go; (focus (simp (maxSteps := 9999999) (disch := omega) only [go_sem, hr, hrm, he, hL, k1, hat, g2, g3]; rfl))) | refine AWpA.skip ?_ | refine AWpA.exit ?_ | refine AWpA.ret ?_ | (with_reducible refine ARoundsA.succ ?_) | ((first | refine Runs.kt (by assumption) (fun h9 => ?_) | refine Runs.kf (by assumption) (fun h9 => ?_) | refine Runs.nt (by assumption) (fun h9 => ?_) | refine Runs.nf (by assumption) (fun h9 => ?_) | refine CondP.ht (by assumption) (fun h9 => ?_) | refine CondP.hf (by assumption) (fun h9 => ?_) | refine CondP.nt (by assumption) (fun h9 => ?_) | refine CondP.nf (by assumption) (fun h9 => ?_)); (try simp only [h9]); clear h9) | ((first | (with_reducible apply CallG.plain1 [] (o1)) | (with_reducible apply CallG.draw1 [] (o1))); (focus ((try refine And.intro (leAs_of_eq rfl) ?_); (try refine And.intro (leOL_of_eq rfl) ?_); simp (maxSteps := 9999999) (disch := omega) only [go_sem, hr, hrm, he, hL, k1, hat, g2, g3]; first | done | (repeat' (first | rfl | (refine And.intro ?_ ?_))))); (focus (simp (maxSteps := 9999999) (disch := omega) only [go_sem, hr, hrm, he, hL, k1, hat, g2, g3]; rfl))) | ((first | (with_reducible apply CallG.plain1 [1, 2, 3] (c1)) | (with_reducible apply CallG.draw1 [1, 2, 3] (c1))); (focus ((try refine And.intro (leAs_of_eq rfl) ?_); (try refine And.intro (leOL_of_eq rfl) ?_); simp (maxSteps := 9999999) (disch := omega) only [go_sem, hr, hrm, he, hL, k1, hat, g2, g3]; first | done | (repeat' (first | rfl | (refine And.intro ?_ ?_))))); (focus (simp (maxSteps := 9999999) (disch := omega) only [go_sem, hr, hrm, he, hL, k1, hat, g2, g3]; rfl)))); (try simp (maxSteps := 9999999) (disch := omega) only [go_sem, hr, hrm, he, hL, k1, hat, g2, g3]); (try (refine And.intro ?_ ?_; (focus (first | omega | (simp only [go_sem]; done) | (simp; done) | (simp; omega) | assumption))))) | ((first | refine CondP.split (fun hif => ?_) (fun hif => ?_) | refine Runs.part (fun hif => ?_) (fun hif => ?_)) <;> ((try simp only [hif]); (try simp only [decide_eq_true_eq, decide_eq_false_iff_not, Bool.not_eq_true, Bool.not_eq_false, Bool.not_eq_true', Bool.not_eq_false', beq_iff_eq, bne_iff_ne, bne_eq_false_iff_eq, beq_eq_false_iff_ne, ne_eq, Bool.and_eq_true, Bool.or_eq_true, Bool.or_eq_false_iff] at hif); (try (have h9 : _ = true := hif; simp only [h9])); (try (have h9 : _ = false := hif; simp only [h9])); (try simp (maxSteps := 9999999) (disch := omega) only [go_sem, hr, hrm, he, hL, k1, hat, g2, g3]); (try (refine And.intro ?_ ?_; (focus (first | omega | (simp only [go_sem]; done) | (simp; done) | (simp; omega) | assumption)))); (try (exfalso; omega; done))))))
        (apply Back.to (i + 1, y) [0, 1, 2, _]; (focus ((try simp (maxSteps := 9999999) (disch := omega) only [go_sem, hr, hrm, he]); first | done | omega)); rotate_left; (focus (simp (maxSteps := 9999999) (disch := omega) only [go_sem, hr, hrm, he]; (try (repeat' (first | done | trivial | rfl | exact leAs_rfl _ | decide | (refine And.intro ?_ ?_) | (simp; done) | omega | (simp; decide)))))))
        exact ⟨by simp only; omega, hok2, by simp only; omega, hp3⟩
  · obtain rfl : i = l.length := by omega
    have k1 : ((l.length : Int) < (l.length : Int)) = False := eq_false (by omega)
    clear hr hL hz
    have hx40 : x.l.length ≤ 40 := by omega
    clear hlen
    obtain ⟨K, hK, hK1, hK5⟩ : ∃ K : Int, IntKind.i64.wrap (1 + n.tmod 5) = K ∧ 1 ≤ K ∧ K ≤ 5 := by
      refine ⟨1 + n.tmod 5, wrap_i64 ?_ ?_, ?_, ?_⟩ <;> rw [Int.tmod_eq_emod_of_nonneg hn.1] <;> omega
    have a0 : atM x.l 0 = zeroM := rfl
    have hlx := rm_len 0 x.l
    (try simp (maxSteps := 9999999) (disch := omega) only [go_sem])
    (repeat' (first | refine AWpA.seq ?_ | refine AWpA.block ?_ | (with_reducible refine CondP.tt ?_) | (with_reducible refine CondP.ff ?_) | refine AWpA.condv (by simp (maxSteps := 9999999) (disch := omega) only [go_sem, hrm, k1, hK]; rfl) ?_ | ((first | (apply AWpA.region; (focus (simp (maxSteps := 9999999) (disch := omega) only [go_sem, hrm, k1, hK]; rfl))) | (apply AWpA.draw [] [] follows; (focus (first | rfl | decide)); (focus (simp (maxSteps := 9999999) (disch := omega) only [go_sem, hrm, k1, hK]; rfl)); (focus (simp (maxSteps := 9999999) (disch := omega) only [go_sem, hrm, k1, hK]; first | done | trivial)); (focus (simp (maxSteps := 9999999) (disch := omega) only [go_sem, hrm, k1, hK]; rfl))) | (apply TailK.go; (focus (simp (maxSteps := 9999999) (disch := omega) only [go_sem, hrm, k1, hK]; rfl))) | refine AWpA.skip ?_ | refine AWpA.exit ?_ | refine AWpA.ret ?_ | (with_reducible refine ARoundsA.succ ?_) | ((first | refine Runs.kt (by assumption) (fun h9 => ?_) | refine Runs.kf (by assumption) (fun h9 => ?_) | refine Runs.nt (by assumption) (fun h9 => ?_) | refine Runs.nf (by assumption) (fun h9 => ?_) | refine CondP.ht (by assumption) (fun h9 => ?_) | refine CondP.hf (by assumption) (fun h9 => ?_) | refine CondP.nt (by assumption) (fun h9 => ?_) | refine CondP.nf (by assumption) (fun h9 => ?_)); (try simp only [h9]); clear h9)); (try simp (maxSteps := 9999999) (disch := omega) only [go_sem, hrm, k1, hK]); (try (refine And.intro ?_ ?_; (focus (first | omega | (simp only [go_sem]; done) | (simp; done) | (simp; omega) | assumption))))) | ((first | refine CondP.split (fun hif => ?_) (fun hif => ?_) | refine Runs.part (fun hif => ?_) (fun hif => ?_)) <;> ((try simp only [hif]); (try simp only [decide_eq_true_eq, decide_eq_false_iff_not, Bool.not_eq_true, Bool.not_eq_false, Bool.not_eq_true', Bool.not_eq_false', beq_iff_eq, bne_iff_ne, bne_eq_false_iff_eq, beq_eq_false_iff_ne, ne_eq, Bool.and_eq_true, Bool.or_eq_true, Bool.or_eq_false_iff] at hif); (try (have h9 : _ = true := hif; simp only [h9])); (try (have h9 : _ = false := hif; simp only [h9])); (try simp (maxSteps := 9999999) (disch := omega) only [go_sem, hrm, k1, hK]); (try (refine And.intro ?_ ?_; (focus (first | omega | (simp only [go_sem]; done) | (simp; done) | (simp; omega) | assumption)))); (try (exfalso; omega; done))))))
    (apply AWpA.loopL (fun p : Nat × Nat => [(5, .ptr 0 0), (8, I K), (9, .ptr 3 0), (10, .sl 4 0 p.2 3 none), (49, I p.1)]) (fun p => [IxO 2 1 x.l, .map false (EsI x.e), .cells false (Rm 0 x.l), .cells false (MkL (atM x.l p.2)), .cells false (Rm 0 (x.l.take p.2))]) (fun p => 50 - p.1) (fun p => p.1 ≤ 50 ∧ p.2 ≤ x.l.length ∧ (p.1 ≤ p.2 ∨ p.2 = x.l.length)) ((0, 0)) [1, 2, 3, _, _]; rotate_left; (focus (simp (maxSteps := 9999999) (disch := omega) only [go_sem, hrm, he, a0, rm_nil, List.take_zero]; (try (repeat' (first | done | trivial | rfl | exact leAs_rfl _ | decide | (refine And.intro ?_ ?_) | (simp; done) | omega | (simp; decide)))))); rotate_right)
    · exact ⟨by omega, by omega, by simp⟩
    rintro ⟨t, p⟩ ⟨ht, hp, htp⟩
    (try simp only at ht hp htp)
    by_cases ht50 : t < 50
    · have m1 : ((t : Int) < 50) = True := eq_true (by omega)
      obtain ⟨q, hq⟩ : ∃ q, q = min (max K 0).toNat (x.l.length - p) := ⟨_, rfl⟩
      have c1 := mbelow_any x (atM x.l p) K hok.rise (by omega)
      rw [below_at hok.rise hpos hp, ← hq] at c1
      have hBl : ((x.l.drop p).take q).length = q := by simp; omega
      rw [hBl] at c1
      by_cases hq0 : q = 0
      · have hpe : p = x.l.length := by omega
        subst hpe
        rw [hq0] at c1
        rw [List.take_length]
        clear hBl hq htp
        generalize atM x.l x.l.length = m at *
        generalize List.take 0 (List.drop x.l.length x.l) = B at *
        (try simp (maxSteps := 9999999) (disch := omega) only [go_sem])
        (repeat' (first | refine AWpA.seq ?_ | refine AWpA.block ?_ | (with_reducible refine CondP.tt ?_) | (with_reducible refine CondP.ff ?_) | refine AWpA.condv (by simp (maxSteps := 9999999) (disch := omega) only [go_sem, hrm, he, m1]; rfl) ?_ | ((first | (apply AWpA.region; (focus (simp (maxSteps := 9999999) (disch := omega) only [go_sem, hrm, he, m1]; rfl))) | (apply AWpA.draw [] [] follows; (focus (first | rfl | decide)); (focus (simp (maxSteps := 9999999) (disch := omega) only [go_sem, hrm, he, m1]; rfl)); (focus (simp (maxSteps := 9999999) (disch := omega) only [go_sem, hrm, he, m1]; first | done | trivial)); (focus (simp (maxSteps := 9999999) (disch := omega) only [go_sem, hrm, he, m1]; rfl))) | (apply TailK.go; (focus (simp (maxSteps := 9999999) (disch := omega) only [go_sem, hrm, he, m1]; rfl))) | refine AWpA.skip ?_ | refine AWpA.exit ?_ | refine AWpA.ret ?_ | (with_reducible refine ARoundsA.succ ?_) | ((first | refine Runs.kt (by assumption) (fun h9 => ?_) | refine Runs.kf (by assumption) (fun h9 => ?_) | refine Runs.nt (by assumption) (fun h9 => ?_) | refine Runs.nf (by assumption) (fun h9 => ?_) | refine CondP.ht (by assumption) (fun h9 => ?_) | refine CondP.hf (by assumption) (fun h9 => ?_) | refine CondP.nt (by assumption) (fun h9 => ?_) | refine CondP.nf (by assumption) (fun h9 => ?_)); (try simp only [h9]); clear h9) | ((first | (with_reducible apply CallG.plain1 [0, 1, 2] (c1)) | (with_reducible apply CallG.draw1 [0, 1, 2] (c1))); (focus ((try refine And.intro (leAs_of_eq rfl) ?_); (try refine And.intro (leOL_of_eq rfl) ?_); simp (maxSteps := 9999999) (disch := omega) only [go_sem, hrm, he, m1]; first | done | (repeat' (first | rfl | (refine And.intro ?_ ?_))))); (focus (simp (maxSteps := 9999999) (disch := omega) only [go_sem, hrm, he, m1]; rfl)))); (try simp (maxSteps := 9999999) (disch := omega) only [go_sem, hrm, he, m1]); (try (refine And.intro ?_ ?_; (focus (first | omega | (simp only [go_sem]; done) | (simp; done) | (simp; omega) | assumption))))) | ((first | refine CondP.split (fun hif => ?_) (fun hif => ?_) | refine Runs.part (fun hif => ?_) (fun hif => ?_)) <;> ((try simp only [hif]); (try simp only [decide_eq_true_eq, decide_eq_false_iff_not, Bool.not_eq_true, Bool.not_eq_false, Bool.not_eq_true', Bool.not_eq_false', beq_iff_eq, bne_iff_ne, bne_eq_false_iff_eq, beq_eq_false_iff_ne, ne_eq, Bool.and_eq_true, Bool.or_eq_true, Bool.or_eq_false_iff] at hif); (try (have h9 : _ = true := hif; simp only [h9])); (try (have h9 : _ = false := hif; simp only [h9])); (try simp (maxSteps := 9999999) (disch := omega) only [go_sem, hrm, he, m1]); (try (refine And.intro ?_ ?_; (focus (first | omega | (simp only [go_sem]; done) | (simp; done) | (simp; omega) | assumption)))); (try (exfalso; omega; done))))))
        (apply AWpA.loopL (fun j : Nat => [(5, .ptr 0 0), (10, .sl 3 0 x.l.length 3 none), (12, I j)]) (fun j => [IxO 2 1 x.l, .map false (EsI x.e), .cells false (Rm 0 x.l), .cells false (Rm 0 x.l)]) (fun j => x.l.length - j) (fun j => 1 ≤ j) (1) [0, 1, 2, 4]; rotate_left; (focus (simp (maxSteps := 9999999) (disch := omega) only [go_sem, hrm, he]; (try (repeat' (first | done | trivial | rfl | exact leAs_rfl _ | decide | (refine And.intro ?_ ?_) | (simp; done) | omega | (simp; decide)))))); rotate_right)
        · simp
        rintro j hj
        (try simp only at hj)
        by_cases hjl : j < x.l.length
        · have m4 : ((j : Int) < (x.l.length : Int)) = True := eq_true (by omega)
          have hix2 : ((j : Int) - 1).toNat = j - 1 := by omega
          have hat1 := rm_at 0 x.l (j - 1) (by omega)
          have hat2 := rm_at 0 x.l j hjl
          rw [Nat.zero_add] at hat1 hat2
          have d1 := rlat_any x.l[j - 1] x.l[j]
          rw [hok.rise.lt (by omega) hjl (by omega)] at d1
          generalize x.l[j - 1] = y1 at *
          generalize x.l[j] = y2 at *
          (try simp (maxSteps := 9999999) (disch := omega) only [go_sem])
          (repeat' (first | refine AWpA.seq ?_ | refine AWpA.block ?_ | (with_reducible refine CondP.tt ?_) | (with_reducible refine CondP.ff ?_) | refine AWpA.condv (by simp (maxSteps := 9999999) (disch := omega) only [go_sem, hrm, he, hlx, m4, hix2, hat1, hat2]; rfl) ?_ | ((first | (apply AWpA.region; (focus (simp (maxSteps := 9999999) (disch := omega) only [go_sem, hrm, he, hlx, m4, hix2, hat1, hat2]; rfl))) | (apply AWpA.draw [] [] follows; (focus (first | rfl | decide)); (focus (simp (maxSteps := 9999999) (disch := omega) only [go_sem, hrm, he, hlx, m4, hix2, hat1, hat2]; rfl)); (focus (simp (maxSteps := 9999999) (disch := omega) only [go_sem, hrm, he, hlx, m4, hix2, hat1, hat2]; first | done | trivial)); (focus (simp (maxSteps := 9999999) (disch := omega) only [go_sem, hrm, he, hlx, m4, hix2, hat1, hat2]; rfl))) | (apply TailK.go; (focus (simp (maxSteps := 9999999) (disch := omega) only [go_sem, hrm, he, hlx, m4, hix2, hat1, hat2]; rfl))) | refine AWpA.skip ?_ | refine AWpA.exit ?_ | refine AWpA.ret ?_ | (with_reducible refine ARoundsA.succ ?_) | ((first | refine Runs.kt (by assumption) (fun h9 => ?_) | refine Runs.kf (by assumption) (fun h9 => ?_) | refine Runs.nt (by assumption) (fun h9 => ?_) | refine Runs.nf (by assumption) (fun h9 => ?_) | refine CondP.ht (by assumption) (fun h9 => ?_) | refine CondP.hf (by assumption) (fun h9 => ?_) | refine CondP.nt (by assumption) (fun h9 => ?_) | refine CondP.nf (by assumption) (fun h9 => ?_)); (try simp only [h9]); clear h9) | ((first | (with_reducible apply CallG.plain1 [] (d1)) | (with_reducible apply CallG.draw1 [] (d1))); (focus ((try refine And.intro (leAs_of_eq rfl) ?_); (try refine And.intro (leOL_of_eq rfl) ?_); simp (maxSteps := 9999999) (disch := omega) only [go_sem, hrm, he, hlx, m4, hix2, hat1, hat2]; first | done | (repeat' (first | rfl | (refine And.intro ?_ ?_))))); (focus (simp (maxSteps := 9999999) (disch := omega) only [go_sem, hrm, he, hlx, m4, hix2, hat1, hat2]; rfl)))); (try simp (maxSteps := 9999999) (disch := omega) only [go_sem, hrm, he, hlx, m4, hix2, hat1, hat2]); (try (refine And.intro ?_ ?_; (focus (first | omega | (simp only [go_sem]; done) | (simp; done) | (simp; omega) | assumption))))) | ((first | refine CondP.split (fun hif => ?_) (fun hif => ?_) | refine Runs.part (fun hif => ?_) (fun hif => ?_)) <;> ((try simp only [hif]); (try simp only [decide_eq_true_eq, decide_eq_false_iff_not, Bool.not_eq_true, Bool.not_eq_false, Bool.not_eq_true', Bool.not_eq_false', beq_iff_eq, bne_iff_ne, bne_eq_false_iff_eq, beq_eq_false_iff_ne, ne_eq, Bool.and_eq_true, Bool.or_eq_true, Bool.or_eq_false_iff] at hif); (try (have h9 : _ = true := hif; simp only [h9])); (try (have h9 : _ = false := hif; simp only [h9])); (try simp (maxSteps := 9999999) (disch := omega) only [go_sem, hrm, he, hlx, m4, hix2, hat1, hat2]); (try (refine And.intro ?_ ?_; (focus (first | omega | (simp only [go_sem]; done) | (simp; done) | (simp; omega) | assumption)))); (try (exfalso; omega; done))))))
          (apply Back.to (j + 1) [0, 1, 2, 3]; (focus ((try simp (maxSteps := 9999999) (disch := omega) only [go_sem, hrm, he]); first | done | omega)); rotate_left; (focus (simp (maxSteps := 9999999) (disch := omega) only [go_sem, hrm, he]; (try (repeat' (first | done | trivial | rfl | exact leAs_rfl _ | decide | (refine And.intro ?_ ?_) | (simp; done) | omega | (simp; decide)))))))
          all_goals omega
        · have m4 : ((j : Int) < (x.l.length : Int)) = False := eq_false (by omega)
          have c2 := mlen_any x
          have c3 := mnewest_any x 100 hok.rise (by omega)
          rw [all_newest (by omega)] at c3
          have t2 := tos_any 0 x.l (by omega)
          have s2 := same10_any 0 0 x.l x.l (by omega) (by omega)
          rw [decide_eq_true rfl] at s2
          (try simp (maxSteps := 9999999) (disch := omega) only [go_sem])
          (repeat' (first | refine AWpA.seq ?_ | refine AWpA.block ?_ | (with_reducible refine CondP.tt ?_) | (with_reducible refine CondP.ff ?_) | refine AWpA.condv (by simp (maxSteps := 9999999) (disch := omega) only [go_sem, hrm, he, hlx, m4]; rfl) ?_ | ((first | (apply AWpA.region; (focus (simp (maxSteps := 9999999) (disch := omega) only [go_sem, hrm, he, hlx, m4]; rfl))) | (apply AWpA.draw [] [] follows; (focus (first | rfl | decide)); (focus (simp (maxSteps := 9999999) (disch := omega) only [go_sem, hrm, he, hlx, m4]; rfl)); (focus (simp (maxSteps := 9999999) (disch := omega) only [go_sem, hrm, he, hlx, m4]; first | done | trivial)); (focus (simp (maxSteps := 9999999) (disch := omega) only [go_sem, hrm, he, hlx, m4]; rfl))) | (apply TailK.go; (focus (simp (maxSteps := 9999999) (disch := omega) only [go_sem, hrm, he, hlx, m4]; rfl))) | refine AWpA.skip ?_ | refine AWpA.exit ?_ | refine AWpA.ret ?_ | (with_reducible refine ARoundsA.succ ?_) | ((first | refine Runs.kt (by assumption) (fun h9 => ?_) | refine Runs.kf (by assumption) (fun h9 => ?_) | refine Runs.nt (by assumption) (fun h9 => ?_) | refine Runs.nf (by assumption) (fun h9 => ?_) | refine CondP.ht (by assumption) (fun h9 => ?_) | refine CondP.hf (by assumption) (fun h9 => ?_) | refine CondP.nt (by assumption) (fun h9 => ?_) | refine CondP.nf (by assumption) (fun h9 => ?_)); (try simp only [h9]); clear h9) | ((first | (with_reducible apply CallG.plain1 [0, 1, 2] (c2)) | (with_reducible apply CallG.draw1 [0, 1, 2] (c2))); (focus ((try refine And.intro (leAs_of_eq rfl) ?_); (try refine And.intro (leOL_of_eq rfl) ?_); simp (maxSteps := 9999999) (disch := omega) only [go_sem, hrm, he, hlx, m4]; first | done | (repeat' (first | rfl | (refine And.intro ?_ ?_))))); (focus (simp (maxSteps := 9999999) (disch := omega) only [go_sem, hrm, he, hlx, m4]; rfl))) | ((first | (with_reducible apply CallG.plain1 [0, 1, 2] (c3)) | (with_reducible apply CallG.draw1 [0, 1, 2] (c3))); (focus ((try refine And.intro (leAs_of_eq rfl) ?_); (try refine And.intro (leOL_of_eq rfl) ?_); simp (maxSteps := 9999999) (disch := omega) only [go_sem, hrm, he, hlx, m4]; first | done | (repeat' (first | rfl | (refine And.intro ?_ ?_))))); (focus (simp (maxSteps := 9999999) (disch := omega) only [go_sem, hrm, he, hlx, m4]; rfl))) | ((first | (with_reducible apply CallG.plain1 [196] (t2)) | (with_reducible apply CallG.draw1 [196] (t2))); (focus ((try refine And.intro (leAs_of_eq rfl) ?_); (try refine And.intro (leOL_of_eq rfl) ?_); simp (maxSteps := 9999999) (disch := omega) only [go_sem, hrm, he, hlx, m4]; first | done | (repeat' (first | rfl | (refine And.intro ?_ ?_))))); (focus (simp (maxSteps := 9999999) (disch := omega) only [go_sem, hrm, he, hlx, m4]; rfl))) | ((first | (with_reducible apply CallG.plain1 [3, 212] (s2)) | (with_reducible apply CallG.draw1 [3, 212] (s2))); (focus ((try refine And.intro (leAs_of_eq rfl) ?_); (try refine And.intro (leOL_of_eq rfl) ?_); simp (maxSteps := 9999999) (disch := omega) only [go_sem, hrm, he, hlx, m4]; first | done | (repeat' (first | rfl | (refine And.intro ?_ ?_))))); (focus (simp (maxSteps := 9999999) (disch := omega) only [go_sem, hrm, he, hlx, m4]; rfl)))); (try simp (maxSteps := 9999999) (disch := omega) only [go_sem, hrm, he, hlx, m4]); (try (refine And.intro ?_ ?_; (focus (first | omega | (simp only [go_sem]; done) | (simp; done) | (simp; omega) | assumption))))) | ((first | refine CondP.split (fun hif => ?_) (fun hif => ?_) | refine Runs.part (fun hif => ?_) (fun hif => ?_)) <;> ((try simp only [hif]); (try simp only [decide_eq_true_eq, decide_eq_false_iff_not, Bool.not_eq_true, Bool.not_eq_false, Bool.not_eq_true', Bool.not_eq_false', beq_iff_eq, bne_iff_ne, bne_eq_false_iff_eq, beq_eq_false_iff_ne, ne_eq, Bool.and_eq_true, Bool.or_eq_true, Bool.or_eq_false_iff] at hif); (try (have h9 : _ = true := hif; simp only [h9])); (try (have h9 : _ = false := hif; simp only [h9])); (try simp (maxSteps := 9999999) (disch := omega) only [go_sem, hrm, he, hlx, m4]); (try (refine And.intro ?_ ?_; (focus (first | omega | (simp only [go_sem]; done) | (simp; done) | (simp; omega) | assumption)))); (try (exfalso; omega; done))))))
          (refine TopPost.of (by first | exact .inl rfl | exact .inr rfl) (by (try simp (maxSteps := 9999999) (disch := omega) only [go_sem]); rfl) ?_; (try simp (maxSteps := 9999999) (disch := omega) only [go_sem]); (try (first | trivial | decide | (simp; done))))
      · have hlast : p + q - 1 < x.l.length := by omega
        have t1 := tos_any 0 ((x.l.drop p).take q) (by omega)
        rw [hBl] at t1
        have hatz := rm_at 0 ((x.l.drop p).take q) (q - 1) (by omega)
        have hz : atM x.l (p + q) = ((x.l.drop p).take q)[q - 1]'(by omega) := by
          obtain ⟨r, hr⟩ : ∃ r, p + q = r + 1 := ⟨p + q - 1, by omega⟩
          rw [hr]
          simp only [atM, List.getElem_take, List.getElem_drop]
          rw [List.getD_eq_getElem?_getD, List.getElem?_eq_getElem (by omega)]
          simp only [Option.getD_some]
          congr 1
          omega
        have hjoin : Rm 0 (x.l.take (p + q)) = Rm 0 (x.l.take p) ++ Rm 0 ((x.l.drop p).take q) := by rw [← rm_app, take_more]
        have hLp := rm_len 0 (x.l.take p)
        rw [List.length_take, Nat.min_eq_left hp] at hLp
        have hLb := rm_len 0 ((x.l.drop p).take q)
        rw [hBl] at hLb
        have hfu := rm_all (x.l.take p) (n := p * 3) (by simp; omega)
        have hfb := rm_all ((x.l.drop p).take q) (n := q * 3) (by rw [hBl])
        have hix : ((q : Int) - 1).toNat = q - 1 := by omega
        have m2 : (K < (q : Int)) = False := eq_false (by omega)
        have m3 : ((q : Int) = 0) = False := eq_false (by omega)
        rw [Nat.zero_add] at hatz

        generalize ((x.l.drop p).take q)[q - 1] = z at *
        generalize (x.l.drop p).take q = B at *
        generalize atM x.l p = m at *
        (try simp (maxSteps := 9999999) (disch := omega) only [go_sem])
        (repeat' (first | refine AWpA.seq ?_ | refine AWpA.block ?_ | (with_reducible refine CondP.tt ?_) | (with_reducible refine CondP.ff ?_) | refine AWpA.condv (by simp (maxSteps := 9999999) (disch := omega) only [go_sem, hrm, he, m1, m2, m3, hLp, hLb, hfu, hfb, hix, hatz]; rfl) ?_ | ((first | (apply AWpA.region; (focus (simp (maxSteps := 9999999) (disch := omega) only [go_sem, hrm, he, m1, m2, m3, hLp, hLb, hfu, hfb, hix, hatz]; rfl))) | (apply AWpA.draw [] [] follows; (focus (first | rfl | decide)); (focus (simp (maxSteps := 9999999) (disch := omega) only [go_sem, hrm, he, m1, m2, m3, hLp, hLb, hfu, hfb, hix, hatz]; rfl)); (focus (simp (maxSteps := 9999999) (disch := omega) only [go_sem, hrm, he, m1, m2, m3, hLp, hLb, hfu, hfb, hix, hatz]; first | done | trivial)); (focus (simp (maxSteps := 9999999) (disch := omega) only [go_sem, hrm, he, m1, m2, m3, hLp, hLb, hfu, hfb, hix, hatz]; rfl))) | (apply TailK.go; (focus (simp (maxSteps := 9999999) (disch := omega) only [go_sem, hrm, he, m1, m2, m3, hLp, hLb, hfu, hfb, hix, hatz]; rfl))) | refine AWpA.skip ?_ | refine AWpA.exit ?_ | refine AWpA.ret ?_ | (with_reducible refine ARoundsA.succ ?_) | ((first | refine Runs.kt (by assumption) (fun h9 => ?_) | refine Runs.kf (by assumption) (fun h9 => ?_) | refine Runs.nt (by assumption) (fun h9 => ?_) | refine Runs.nf (by assumption) (fun h9 => ?_) | refine CondP.ht (by assumption) (fun h9 => ?_) | refine CondP.hf (by assumption) (fun h9 => ?_) | refine CondP.nt (by assumption) (fun h9 => ?_) | refine CondP.nf (by assumption) (fun h9 => ?_)); (try simp only [h9]); clear h9) | ((first | (with_reducible apply CallG.plain1 [0, 1, 2] (c1)) | (with_reducible apply CallG.draw1 [0, 1, 2] (c1))); (focus ((try refine And.intro (leAs_of_eq rfl) ?_); (try refine And.intro (leOL_of_eq rfl) ?_); simp (maxSteps := 9999999) (disch := omega) only [go_sem, hrm, he, m1, m2, m3, hLp, hLb, hfu, hfb, hix, hatz]; first | done | (repeat' (first | rfl | (refine And.intro ?_ ?_))))); (focus (simp (maxSteps := 9999999) (disch := omega) only [go_sem, hrm, he, m1, m2, m3, hLp, hLb, hfu, hfb, hix, hatz]; rfl))) | ((first | (with_reducible apply CallG.plain1 [69] (t1)) | (with_reducible apply CallG.draw1 [69] (t1))); (focus ((try refine And.intro (leAs_of_eq rfl) ?_); (try refine And.intro (leOL_of_eq rfl) ?_); simp (maxSteps := 9999999) (disch := omega) only [go_sem, hrm, he, m1, m2, m3, hLp, hLb, hfu, hfb, hix, hatz]; first | done | (repeat' (first | rfl | (refine And.intro ?_ ?_))))); (focus (simp (maxSteps := 9999999) (disch := omega) only [go_sem, hrm, he, m1, m2, m3, hLp, hLb, hfu, hfb, hix, hatz]; rfl)))); (try simp (maxSteps := 9999999) (disch := omega) only [go_sem, hrm, he, m1, m2, m3, hLp, hLb, hfu, hfb, hix, hatz]); (try (refine And.intro ?_ ?_; (focus (first | omega | (simp only [go_sem]; done) | (simp; done) | (simp; omega) | assumption))))) | ((first | refine CondP.split (fun hif => ?_) (fun hif => ?_) | refine Runs.part (fun hif => ?_) (fun hif => ?_)) <;> ((try simp only [hif]); (try simp only [decide_eq_true_eq, decide_eq_false_iff_not, Bool.not_eq_true, Bool.not_eq_false, Bool.not_eq_true', Bool.not_eq_false', beq_iff_eq, bne_iff_ne, bne_eq_false_iff_eq, beq_eq_false_iff_ne, ne_eq, Bool.and_eq_true, Bool.or_eq_true, Bool.or_eq_false_iff] at hif); (try (have h9 : _ = true := hif; simp only [h9])); (try (have h9 : _ = false := hif; simp only [h9])); (try simp (maxSteps := 9999999) (disch := omega) only [go_sem, hrm, he, m1, m2, m3, hLp, hLb, hfu, hfb, hix, hatz]); (try (refine And.intro ?_ ?_; (focus (first | omega | (simp only [go_sem]; done) | (simp; done) | (simp; omega) | assumption)))); (try (exfalso; omega; done))))))
        (apply Back.to (t + 1, (p + q)) [0, 1, 2, 3, _]; (focus ((try simp (maxSteps := 9999999) (disch := omega) only [go_sem, hrm, he, hz, hjoin, hfu, hfb, renL_append]); first | done | omega)); rotate_left; (focus (simp (maxSteps := 9999999) (disch := omega) only [go_sem, hrm, he, hz, hjoin, hfu, hfb, renL_append]; (try (repeat' (first | done | trivial | rfl | exact leAs_rfl _ | decide | (refine And.intro ?_ ?_) | (simp; done) | omega | (simp; decide)))))))
        exact ⟨by simp only; omega, by simp only; omega, by simp only; omega⟩
    · obtain rfl : t = 50 := by omega
      have hpe : p = x.l.length := by omega
      subst hpe
      rw [List.take_length]
      clear htp
      generalize atM x.l x.l.length = m at *
      (try simp (maxSteps := 9999999) (disch := omega) only [go_sem])
      (repeat' (first | refine AWpA.seq ?_ | refine AWpA.block ?_ | (with_reducible refine CondP.tt ?_) | (with_reducible refine CondP.ff ?_) | refine AWpA.condv (by simp (maxSteps := 9999999) (disch := omega) only [go_sem, hrm, he]; rfl) ?_ | ((first | (apply AWpA.region; (focus (simp (maxSteps := 9999999) (disch := omega) only [go_sem, hrm, he]; rfl))) | (apply AWpA.draw [] [] follows; (focus (first | rfl | decide)); (focus (simp (maxSteps := 9999999) (disch := omega) only [go_sem, hrm, he]; rfl)); (focus (simp (maxSteps := 9999999) (disch := omega) only [go_sem, hrm, he]; first | done | trivial)); (focus (simp (maxSteps := 9999999) (disch := omega) only [go_sem, hrm, he]; rfl))) | (apply TailK.go; (focus (simp (maxSteps := 9999999) (disch := omega) only [go_sem, hrm, he]; rfl))) | refine AWpA.skip ?_ | refine AWpA.exit ?_ | refine AWpA.ret ?_ | (with_reducible refine ARoundsA.succ ?_) | ((first | refine Runs.kt (by assumption) (fun h9 => ?_) | refine Runs.kf (by assumption) (fun h9 => ?_) | refine Runs.nt (by assumption) (fun h9 => ?_) | refine Runs.nf (by assumption) (fun h9 => ?_) | refine CondP.ht (by assumption) (fun h9 => ?_) | refine CondP.hf (by assumption) (fun h9 => ?_) | refine CondP.nt (by assumption) (fun h9 => ?_) | refine CondP.nf (by assumption) (fun h9 => ?_)); (try simp only [h9]); clear h9)); (try simp (maxSteps := 9999999) (disch := omega) only [go_sem, hrm, he]); (try (refine And.intro ?_ ?_; (focus (first | omega | (simp only [go_sem]; done) | (simp; done) | (simp; omega) | assumption))))) | ((first | refine CondP.split (fun hif => ?_) (fun hif => ?_) | refine Runs.part (fun hif => ?_) (fun hif => ?_)) <;> ((try simp only [hif]); (try simp only [decide_eq_true_eq, decide_eq_false_iff_not, Bool.not_eq_true, Bool.not_eq_false, Bool.not_eq_true', Bool.not_eq_false', beq_iff_eq, bne_iff_ne, bne_eq_false_iff_eq, beq_eq_false_iff_ne, ne_eq, Bool.and_eq_true, Bool.or_eq_true, Bool.or_eq_false_iff] at hif); (try (have h9 : _ = true := hif; simp only [h9])); (try (have h9 : _ = false := hif; simp only [h9])); (try simp (maxSteps := 9999999) (disch := omega) only [go_sem, hrm, he]); (try (refine And.intro ?_ ?_; (focus (first | omega | (simp only [go_sem]; done) | (simp; done) | (simp; omega) | assumption)))); (try (exfalso; omega; done))))))
      (apply AWpA.loopL (fun j : Nat => [(5, .ptr 0 0), (10, .sl 3 0 x.l.length 3 none), (12, I j)]) (fun j => [IxO 2 1 x.l, .map false (EsI x.e), .cells false (Rm 0 x.l), .cells false (Rm 0 x.l)]) (fun j => x.l.length - j) (fun j => 1 ≤ j) (1) [0, 1, 2, 4]; rotate_left; (focus (simp (maxSteps := 9999999) (disch := omega) only [go_sem, hrm, he]; (try (repeat' (first | done | trivial | rfl | exact leAs_rfl _ | decide | (refine And.intro ?_ ?_) | (simp; done) | omega | (simp; decide)))))); rotate_right)
      · simp
      rintro j hj
      (try simp only at hj)
      by_cases hjl : j < x.l.length
      · have m4 : ((j : Int) < (x.l.length : Int)) = True := eq_true (by omega)
        have hix2 : ((j : Int) - 1).toNat = j - 1 := by omega
        have hat1 := rm_at 0 x.l (j - 1) (by omega)
        have hat2 := rm_at 0 x.l j hjl
        rw [Nat.zero_add] at hat1 hat2
        have d1 := rlat_any x.l[j - 1] x.l[j]
        rw [hok.rise.lt (by omega) hjl (by omega)] at d1
        generalize x.l[j - 1] = y1 at *
        generalize x.l[j] = y2 at *
        (try simp (maxSteps := 9999999) (disch := omega) only [go_sem])
        (repeat' (first | refine AWpA.seq ?_ | refine AWpA.block ?_ | (with_reducible refine CondP.tt ?_) | (with_reducible refine CondP.ff ?_) | refine AWpA.condv (by simp (maxSteps := 9999999) (disch := omega) only [go_sem, hrm, he, hlx, m4, hix2, hat1, hat2]; rfl) ?_ | ((first | (apply AWpA.region; (focus (simp (maxSteps := 9999999) (disch := omega) only [go_sem, hrm, he, hlx, m4, hix2, hat1, hat2]; rfl))) | (apply AWpA.draw [] [] follows; (focus (first | rfl | decide)); (focus (simp (maxSteps := 9999999) (disch := omega) only [go_sem, hrm, he, hlx, m4, hix2, hat1, hat2]; rfl)); (focus (simp (maxSteps := 9999999) (disch := omega) only [go_sem, hrm, he, hlx, m4, hix2, hat1, hat2]; first | done | trivial)); (focus (simp (maxSteps := 9999999) (disch := omega) only [go_sem, hrm, he, hlx, m4, hix2, hat1, hat2]; rfl))) | (apply TailK.go; (focus (simp (maxSteps := 9999999) (disch := omega) only [go_sem, hrm, he, hlx, m4, hix2, hat1, hat2]; rfl))) | refine AWpA.skip ?_ | refine AWpA.exit ?_ | refine AWpA.ret ?_ | (with_reducible refine ARoundsA.succ ?_) | ((first | refine Runs.kt (by assumption) (fun h9 => ?_) | refine Runs.kf (by assumption) (fun h9 => ?_) | refine Runs.nt (by assumption) (fun h9 => ?_) | refine Runs.nf (by assumption) (fun h9 => ?_) | refine CondP.ht (by assumption) (fun h9 => ?_) | refine CondP.hf (by assumption) (fun h9 => ?_) | refine CondP.nt (by assumption) (fun h9 => ?_) | refine CondP.nf (by assumption) (fun h9 => ?_)); (try simp only [h9]); clear h9) | ((first | (with_reducible apply CallG.plain1 [] (d1)) | (with_reducible apply CallG.draw1 [] (d1))); (focus ((try refine And.intro (leAs_of_eq rfl) ?_); (try refine And.intro (leOL_of_eq rfl) ?_); simp (maxSteps := 9999999) (disch := omega) only [go_sem, hrm, he, hlx, m4, hix2, hat1, hat2]; first | done | (repeat' (first | rfl | (refine And.intro ?_ ?_))))); (focus (simp (maxSteps := 9999999) (disch := omega) only [go_sem, hrm, he, hlx, m4, hix2, hat1, hat2]; rfl)))); (try simp (maxSteps := 9999999) (disch := omega) only [go_sem, hrm, he, hlx, m4, hix2, hat1, hat2]); (try (refine And.intro ?_ ?_; (focus (first | omega | (simp only [go_sem]; done) | (simp; done) | (simp; omega) | assumption))))) | ((first | refine CondP.split (fun hif => ?_) (fun hif => ?_) | refine Runs.part (fun hif => ?_) (fun hif => ?_)) <;> ((try simp only [hif]); (try simp only [decide_eq_true_eq, decide_eq_false_iff_not, Bool.not_eq_true, Bool.not_eq_false, Bool.not_eq_true', Bool.not_eq_false', beq_iff_eq, bne_iff_ne, bne_eq_false_iff_eq, beq_eq_false_iff_ne, ne_eq, Bool.and_eq_true, Bool.or_eq_true, Bool.or_eq_false_iff] at hif); (try (have h9 : _ = true := hif; simp only [h9])); (try (have h9 : _ = false := hif; simp only [h9])); (try simp (maxSteps := 9999999) (disch := omega) only [go_sem, hrm, he, hlx, m4, hix2, hat1, hat2]); (try (refine And.intro ?_ ?_; (focus (first | omega | (simp only [go_sem]; done) | (simp; done) | (simp; omega) | assumption)))); (try (exfalso; omega; done))))))
        (apply Back.to (j + 1) [0, 1, 2, 3]; (focus ((try simp (maxSteps := 9999999) (disch := omega) only [go_sem, hrm, he]); first | done | omega)); rotate_left; (focus (simp (maxSteps := 9999999) (disch := omega) only [go_sem, hrm, he]; (try (repeat' (first | done | trivial | rfl | exact leAs_rfl _ | decide | (refine And.intro ?_ ?_) | (simp; done) | omega | (simp; decide)))))))
        all_goals omega
      · have m4 : ((j : Int) < (x.l.length : Int)) = False := eq_false (by omega)
        have c2 := mlen_any x
        have c3 := mnewest_any x 100 hok.rise (by omega)
        rw [all_newest (by omega)] at c3
        have t2 := tos_any 0 x.l (by omega)
        have s2 := same10_any 0 0 x.l x.l (by omega) (by omega)
        rw [decide_eq_true rfl] at s2
        (try simp (maxSteps := 9999999) (disch := omega) only [go_sem])
        (repeat' (first | refine AWpA.seq ?_ | refine AWpA.block ?_ | (with_reducible refine CondP.tt ?_) | (with_reducible refine CondP.ff ?_) | refine AWpA.condv (by simp (maxSteps := 9999999) (disch := omega) only [go_sem, hrm, he, hlx, m4]; rfl) ?_ | ((first | (apply AWpA.region; (focus (simp (maxSteps := 9999999) (disch := omega) only [go_sem, hrm, he, hlx, m4]; rfl))) | (apply AWpA.draw [] [] follows; (focus (first | rfl | decide)); (focus (simp (maxSteps := 9999999) (disch := omega) only [go_sem, hrm, he, hlx, m4]; rfl)); (focus (simp (maxSteps := 9999999) (disch := omega) only [go_sem, hrm, he, hlx, m4]; first | done | trivial)); (focus (simp (maxSteps := 9999999) (disch := omega) only [go_sem, hrm, he, hlx, m4]; rfl))) | (apply TailK.go; (focus (simp (maxSteps := 9999999) (disch := omega) only [go_sem, hrm, he, hlx, m4]; rfl))) | refine AWpA.skip ?_ | refine AWpA.exit ?_ | refine AWpA.ret ?_ | (with_reducible refine ARoundsA.succ ?_) | ((first | refine Runs.kt (by assumption) (fun h9 => ?_) | refine Runs.kf (by assumption) (fun h9 => ?_) | refine Runs.nt (by assumption) (fun h9 => ?_) | refine Runs.nf (by assumption) (fun h9 => ?_) | refine CondP.ht (by assumption) (fun h9 => ?_) | refine CondP.hf (by assumption) (fun h9 => ?_) | refine CondP.nt (by assumption) (fun h9 => ?_) | refine CondP.nf (by assumption) (fun h9 => ?_)); (try simp only [h9]); clear h9) | ((first | (with_reducible apply CallG.plain1 [0, 1, 2] (c2)) | (with_reducible apply CallG.draw1 [0, 1, 2] (c2))); (focus ((try refine And.intro (leAs_of_eq rfl) ?_); (try refine And.intro (leOL_of_eq rfl) ?_); simp (maxSteps := 9999999) (disch := omega) only [go_sem, hrm, he, hlx, m4]; first | done | (repeat' (first | rfl | (refine And.intro ?_ ?_))))); (focus (simp (maxSteps := 9999999) (disch := omega) only [go_sem, hrm, he, hlx, m4]; rfl))) | ((first | (with_reducible apply CallG.plain1 [0, 1, 2] (c3)) | (with_reducible apply CallG.draw1 [0, 1, 2] (c3))); (focus ((try refine And.intro (leAs_of_eq rfl) ?_); (try refine And.intro (leOL_of_eq rfl) ?_); simp (maxSteps := 9999999) (disch := omega) only [go_sem, hrm, he, hlx, m4]; first | done | (repeat' (first | rfl | (refine And.intro ?_ ?_))))); (focus (simp (maxSteps := 9999999) (disch := omega) only [go_sem, hrm, he, hlx, m4]; rfl))) | ((first | (with_reducible apply CallG.plain1 [196] (t2)) | (with_reducible apply CallG.draw1 [196] (t2))); (focus ((try refine And.intro (leAs_of_eq rfl) ?_); (try refine And.intro (leOL_of_eq rfl) ?_); simp (maxSteps := 9999999) (disch := omega) only [go_sem, hrm, he, hlx, m4]; first | done | (repeat' (first | rfl | (refine And.intro ?_ ?_))))); (focus (simp (maxSteps := 9999999) (disch := omega) only [go_sem, hrm, he, hlx, m4]; rfl))) | ((first | (with_reducible apply CallG.plain1 [3, 212] (s2)) | (with_reducible apply CallG.draw1 [3, 212] (s2))); (focus ((try refine And.intro (leAs_of_eq rfl) ?_); (try refine And.intro (leOL_of_eq rfl) ?_); simp (maxSteps := 9999999) (disch := omega) only [go_sem, hrm, he, hlx, m4]; first | done | (repeat' (first | rfl | (refine And.intro ?_ ?_))))); (focus (simp (maxSteps := 9999999) (disch := omega) only [go_sem, hrm, he, hlx, m4]; rfl)))); (try simp (maxSteps := 9999999) (disch := omega) only [go_sem, hrm, he, hlx, m4]); (try (refine And.intro ?_ ?_; (focus (first | omega | (simp only [go_sem]; done) | (simp; done) | (simp; omega) | assumption))))) | ((first | refine CondP.split (fun hif => ?_) (fun hif => ?_) | refine Runs.part (fun hif => ?_) (fun hif => ?_)) <;> ((try simp only [hif]); (try simp only [decide_eq_true_eq, decide_eq_false_iff_not, Bool.not_eq_true, Bool.not_eq_false, Bool.not_eq_true', Bool.not_eq_false', beq_iff_eq, bne_iff_ne, bne_eq_false_iff_eq, beq_eq_false_iff_ne, ne_eq, Bool.and_eq_true, Bool.or_eq_true, Bool.or_eq_false_iff] at hif); (try (have h9 : _ = true := hif; simp only [h9])); (try (have h9 : _ = false := hif; simp only [h9])); (try simp (maxSteps := 9999999) (disch := omega) only [go_sem, hrm, he, hlx, m4]); (try (refine And.intro ?_ ?_; (focus (first | omega | (simp only [go_sem]; done) | (simp; done) | (simp; omega) | assumption)))); (try (exfalso; omega; done))))))
        (refine TopPost.of (by first | exact .inl rfl | exact .inr rfl) (by (try simp (maxSteps := 9999999) (disch := omega) only [go_sem]); rfl) ?_; (try simp (maxSteps := 9999999) (disch := omega) only [go_sem]); (try (first | trivial | decide | (simp; done))))
end Go.Proofs.Ytgjimlgofakbpaa
