/- The walk of SeenAgain. -/
import Derived.Test.YtjcjmeeajkdlhaaAn7
namespace Go.Proofs.Ytjcjmeeajkdlhaa
set_option linter.unusedSimpArgs false
set_option linter.unusedVariables false
set_option maxHeartbeats 4000000
open Go Go.Am Go.RowKit Go.ChangeShapes Go.WideShapes Go.ChangeAt
set_option maxRecDepth 100000
def newK : ByteArray := ⟨#[110, 101, 119]⟩
def newM (k : Nat) : Mk := ⟨⟨1 + (k : Int), 0⟩, newK⟩
def news (n : Nat) : List Mk := (List.range n).map newM
theorem news_succ (n : Nat) : news (n + 1) = news n ++ [newM n] := by simp [news, List.range_succ]
theorem news_len (n : Nat) : (news n).length = n := by simp [news]
theorem newM_not {n : Nat} : newM n ∉ news n := by
  unfold news
  rw [List.mem_map]
  rintro ⟨k, hk, e⟩
  have := congrArg (fun m : Mk => m.act.c) e
  simp only [newM] at this
  have h := List.mem_range.1 hk
  omega
theorem news_key {n : Nat} {m : Mk} (h : m ∈ news n) : m.key = newK := by
  unfold news at h
  obtain ⟨k, _, rfl⟩ := List.mem_map.1 h
  rfl
theorem lastN_sub {n : Nat} {l : List Mk} {m : Mk} (h : m ∈ lastN n l) : m ∈ l := List.mem_of_mem_drop h
theorem lastN_self {n : Nat} {l : List Mk} (h : l.length ≤ n) : lastN n l = l := by unfold lastN; rw [show l.length - n = 0 by omega]; rfl
theorem lastN_news {n : Nat} (l : List Mk) : lastN n (l ++ news n) = news n := by
  unfold lastN
  rw [List.length_append, news_len, Nat.add_sub_cancel, List.drop_left]
/- quidnunc/quidnunclaw18.SeenAgain -/
noncomputable def c6_1 : ACode := .region false [⟨some 4, .move, [.c (.val (.bool false))], none⟩] [] [] [0, 1] false [] []
noncomputable def c6_4 : ACode := .region false [⟨some 16, .call 22, [], none⟩,
  ⟨some 17, .un .not, [.t 16], none⟩,
  ⟨some 18, .move, [.t 17], none⟩,
  ⟨some 19, .move, [.t 1], some (some 18, false)⟩,
  ⟨some 20, .call 23, [.t 19], some (some 18, false)⟩,
  ⟨some 21, .un .not, [.t 20], some (some 18, false)⟩,
  ⟨some 22, .pick, [.t 18, .c (.val (.bool true)), .t 21], none⟩] [] [] [0, 1, 22] true [] []
noncomputable def c6_7 : ACode := .region false [⟨some 23, .call 22, [], none⟩,
  ⟨some 4, .move, [.t 23], none⟩] [] [] [4] true [] []
noncomputable def c6_6 : ACode := .seq c6_7 .ret
noncomputable def c6_5 : ACode := .cond (.t 22) c6_6 .skip
noncomputable def c6_3 : ACode := .seq c6_4 c6_5
noncomputable def c6_9 : ACode := .region false [⟨some 24, .move, [.t 0], none⟩,
  ⟨some 25, .conv .i64, [.t 24], none⟩,
  ⟨some 26, .bin .rem, [.t 25, .c (.val (.int .i64 20))], none⟩,
  ⟨some 27, .bin .add, [.c (.val (.int .i64 1)), .t 26], none⟩,
  ⟨some 5, .move, [.t 27], none⟩] [] [] [1, 5] false [] []
noncomputable def c6_11 : ACode := .region false [⟨some 29, .move, [.t 5], none⟩,
  ⟨some 30, .call 24, [.t 29], none⟩,
  ⟨some 28, .move, [.t 30], none⟩,
  ⟨some 31, .ext 0, [.t 28], none⟩,
  ⟨some 32, .ext 1, [.t 28], none⟩,
  ⟨some 6, .move, [.t 31], none⟩,
  ⟨some 7, .move, [.t 32], none⟩] [] [] [1, 5, 6, 7] true [] []
noncomputable def c6_14 : ACode := .region false [⟨some 33, .move, [.t 7], none⟩,
  ⟨some 34, .bin .neq, [.t 33, .c (.val (.int .i64 0))], none⟩,
  ⟨some 35, .move, [.t 34], none⟩,
  ⟨some 36, .move, [.t 6], some (some 35, false)⟩,
  ⟨some 37, .eqP false, [.t 36, .c (.val (.pointer none))], some (some 35, false)⟩,
  ⟨some 38, .pick, [.t 35, .c (.val (.bool true)), .t 37], none⟩] [] [] [1, 5, 6, 38] false [] []
noncomputable def c6_17 : ACode := .region false [⟨some 4, .move, [.c (.val (.bool false))], none⟩] [] [] [4] false [] []
noncomputable def c6_16 : ACode := .seq c6_17 .ret
noncomputable def c6_15 : ACode := .cond (.t 38) c6_16 .skip
noncomputable def c6_13 : ACode := .seq c6_14 c6_15
noncomputable def c6_20 : ACode := .region false [⟨some 39, .move, [.t 1], none⟩,
  ⟨some 40, .len, [.t 39], none⟩,
  ⟨some 41, .move, [.c (.val (.int .i64 0))], none⟩] [] [] [5, 6, 39, 40, 41] false [] []
noncomputable def c6_24 : ACode := .region false [⟨some 42, .bin .lss, [.t 41, .t 40], none⟩] [] [] [5, 6, 39, 40, 41, 42] false [] []
noncomputable def c6_26 : ACode := .cond (.t 42) .skip (.exit 0)
noncomputable def c6_30 : ACode := .region false [⟨some 43, .ixS 3, [.t 39, .t 41], none⟩,
  ⟨some 44, .load true 3, [.t 43], none⟩,
  ⟨some 9, .alloc [(.int .i64 0), (.int .i64 0), (.string ⟨#[]⟩)], [], none⟩,
  ⟨none, .store 3, [.t 9, .t 44], none⟩] [] [] [5, 6, 9, 39, 40, 41] true [] []
noncomputable def c6_33 : ACode := .region false [⟨some 45, .addr 2, [.t 9], none⟩,
  ⟨some 46, .load false 1, [.t 45], none⟩,
  ⟨some 47, .bin .eql, [.t 46, .c (.val (.string ⟨#[110, 101, 119]⟩))], none⟩] [] [] [5, 6, 9, 39, 40, 41, 47] false [] []
noncomputable def c6_36 : ACode := .region false [⟨some 4, .move, [.c (.val (.bool true))], none⟩] [] [] [4] false [] []
noncomputable def c6_35 : ACode := .seq c6_36 .ret
noncomputable def c6_34 : ACode := .cond (.t 47) c6_35 .skip
noncomputable def c6_32 : ACode := .seq c6_33 c6_34
noncomputable def c6_37 : ACode := .region false [⟨some 48, .move, [.t 6], none⟩,
  ⟨some 49, .load true 3, [.t 9], none⟩,
  ⟨some 50, .call 28, [.t 49], none⟩,
  ⟨some 51, .call 27, [.t 48, .t 50], none⟩] [] [] [5, 6, 39, 40, 41] true [] []
noncomputable def c6_31 : ACode := .seq c6_32 c6_37
noncomputable def c6_29 : ACode := .seq c6_30 c6_31
noncomputable def c6_28 : ACode := .block 1 c6_29
noncomputable def c6_38 : ACode := .region false [⟨some 52, .bin .add, [.t 41, .c (.val (.int .i64 1))], none⟩,
  ⟨some 41, .move, [.t 52], none⟩] [] [] [5, 6, 39, 40, 41] false [] []
noncomputable def c6_27 : ACode := .seq c6_28 c6_38
noncomputable def c6_25 : ACode := .seq c6_26 c6_27
noncomputable def c6_23 : ACode := .seq c6_24 c6_25
noncomputable def c6_22 : ACode := .loop c6_23
noncomputable def c6_21 : ACode := .block 0 c6_22
noncomputable def c6_19 : ACode := .seq c6_20 c6_21
noncomputable def c6_40 : ACode := .region false [⟨some 53, .move, [.t 6], none⟩,
  ⟨some 54, .call 34, [.t 53], none⟩,
  ⟨some 55, .call 33, [.t 54], none⟩,
  ⟨some 10, .move, [.t 55], none⟩] [] [] [5, 6, 10] true [] []
noncomputable def c6_43 : ACode := .region false [⟨some 56, .move, [.t 10], none⟩,
  ⟨some 57, .len, [.t 56], none⟩,
  ⟨some 58, .move, [.c (.val (.int .i64 0))], none⟩] [] [] [5, 6, 10, 56, 57, 58] false [] []
noncomputable def c6_47 : ACode := .region false [⟨some 59, .bin .lss, [.t 58, .t 57], none⟩] [] [] [5, 6, 10, 56, 57, 58, 59] false [] []
noncomputable def c6_49 : ACode := .cond (.t 59) .skip (.exit 2)
noncomputable def c6_53 : ACode := .region false [⟨some 60, .ixS 3, [.t 56, .t 58], none⟩,
  ⟨some 61, .load true 3, [.t 60], none⟩,
  ⟨some 12, .alloc [(.int .i64 0), (.int .i64 0), (.string ⟨#[]⟩)], [], none⟩,
  ⟨none, .store 3, [.t 12, .t 61], none⟩] [] [] [5, 6, 10, 12, 56, 57, 58] true [] []
noncomputable def c6_55 : ACode := .region false [⟨some 62, .move, [.t 6], none⟩,
  ⟨some 63, .load true 3, [.t 12], none⟩,
  ⟨some 64, .call 28, [.t 63], none⟩,
  ⟨some 65, .call 27, [.t 62, .t 64], none⟩] [] [] [5, 6, 10, 56, 57, 58, 65] true [] []
noncomputable def c6_58 : ACode := .region false [⟨some 4, .move, [.c (.val (.bool false))], none⟩] [] [] [4] false [] []
noncomputable def c6_57 : ACode := .seq c6_58 .ret
noncomputable def c6_56 : ACode := .cond (.t 65) c6_57 .skip
noncomputable def c6_54 : ACode := .seq c6_55 c6_56
noncomputable def c6_52 : ACode := .seq c6_53 c6_54
noncomputable def c6_51 : ACode := .block 3 c6_52
noncomputable def c6_59 : ACode := .region false [⟨some 66, .bin .add, [.t 58, .c (.val (.int .i64 1))], none⟩,
  ⟨some 58, .move, [.t 66], none⟩] [] [] [5, 6, 10, 56, 57, 58] false [] []
noncomputable def c6_50 : ACode := .seq c6_51 c6_59
noncomputable def c6_48 : ACode := .seq c6_49 c6_50
noncomputable def c6_46 : ACode := .seq c6_47 c6_48
noncomputable def c6_45 : ACode := .loop c6_46
noncomputable def c6_44 : ACode := .block 2 c6_45
noncomputable def c6_42 : ACode := .seq c6_43 c6_44
noncomputable def c6_62 : ACode := .region false [⟨some 67, .move, [.t 6], none⟩,
  ⟨some 68, .call 34, [.t 67], none⟩,
  ⟨some 69, .call 33, [.t 68], none⟩,
  ⟨some 70, .move, [.t 10], none⟩,
  ⟨some 71, .call 32, [.t 69, .t 70], none⟩,
  ⟨some 72, .un .not, [.t 71], none⟩] [] [] [5, 6, 10, 72] true [] []
noncomputable def c6_65 : ACode := .region false [⟨some 4, .move, [.c (.val (.bool false))], none⟩] [] [] [4] false [] []
noncomputable def c6_64 : ACode := .seq c6_65 .ret
noncomputable def c6_63 : ACode := .cond (.t 72) c6_64 .skip
noncomputable def c6_61 : ACode := .seq c6_62 c6_63
noncomputable def c6_68 : ACode := .region false [⟨some 73, .move, [.t 5], none⟩,
  ⟨some 74, .move, [.c (.val (.int .i64 0))], none⟩] [] [] [5, 6, 10, 73, 74] false [] []
noncomputable def c6_72 : ACode := .region false [⟨some 75, .bin .lss, [.t 74, .t 73], none⟩] [] [] [5, 6, 10, 73, 74, 75] false [] []
noncomputable def c6_74 : ACode := .cond (.t 75) .skip (.exit 4)
noncomputable def c6_78 : ACode := .region false [⟨some 76, .move, [.t 74], none⟩,
  ⟨some 13, .move, [.t 76], none⟩] [] [] [5, 6, 10, 13, 73, 74] false [] []
noncomputable def c6_80 : ACode := .region false [⟨some 77, .move, [.t 6], none⟩,
  ⟨some 78, .move, [.t 13], none⟩,
  ⟨some 79, .bin .add, [.c (.val (.int .i64 1)), .t 78], none⟩,
  ⟨some 80, .build [(.int .i64 0), (.int .i64 0)] [(0, 1)], [.t 79], none⟩,
  ⟨some 81, .build [(.int .i64 0), (.int .i64 0), (.string ⟨#[]⟩)] [(0, 2), (2, 1)], [.t 80, .c (.val (.string ⟨#[110, 101, 119]⟩))], none⟩,
  ⟨some 82, .call 27, [.t 77, .t 81], none⟩,
  ⟨some 83, .un .not, [.t 82], none⟩] [] [] [5, 6, 10, 73, 74, 83] true [] []
noncomputable def c6_83 : ACode := .region false [⟨some 4, .move, [.c (.val (.bool false))], none⟩] [] [] [4] false [] []
noncomputable def c6_82 : ACode := .seq c6_83 .ret
noncomputable def c6_81 : ACode := .cond (.t 83) c6_82 .skip
noncomputable def c6_79 : ACode := .seq c6_80 c6_81
noncomputable def c6_77 : ACode := .seq c6_78 c6_79
noncomputable def c6_76 : ACode := .block 5 c6_77
noncomputable def c6_84 : ACode := .region false [⟨some 84, .bin .add, [.t 74, .c (.val (.int .i64 1))], none⟩,
  ⟨some 74, .move, [.t 84], none⟩] [] [] [5, 6, 10, 73, 74] false [] []
noncomputable def c6_75 : ACode := .seq c6_76 c6_84
noncomputable def c6_73 : ACode := .seq c6_74 c6_75
noncomputable def c6_71 : ACode := .seq c6_72 c6_73
noncomputable def c6_70 : ACode := .loop c6_71
noncomputable def c6_69 : ACode := .block 4 c6_70
noncomputable def c6_67 : ACode := .seq c6_68 c6_69
noncomputable def c6_87 : ACode := .region false [⟨some 85, .move, [.t 10], none⟩,
  ⟨some 86, .len, [.t 85], none⟩,
  ⟨some 87, .move, [.c (.val (.int .i64 0))], none⟩] [] [] [5, 6, 85, 86, 87] false [] []
noncomputable def c6_91 : ACode := .region false [⟨some 88, .bin .lss, [.t 87, .t 86], none⟩] [] [] [5, 6, 85, 86, 87, 88] false [] []
noncomputable def c6_93 : ACode := .cond (.t 88) .skip (.exit 6)
noncomputable def c6_97 : ACode := .region false [⟨some 89, .ixS 3, [.t 85, .t 87], none⟩,
  ⟨some 90, .load true 3, [.t 89], none⟩,
  ⟨some 15, .alloc [(.int .i64 0), (.int .i64 0), (.string ⟨#[]⟩)], [], none⟩,
  ⟨none, .store 3, [.t 15, .t 90], none⟩] [] [] [5, 6, 15, 85, 86, 87] true [] []
noncomputable def c6_99 : ACode := .region false [⟨some 91, .move, [.t 6], none⟩,
  ⟨some 92, .load true 3, [.t 15], none⟩,
  ⟨some 93, .call 28, [.t 92], none⟩,
  ⟨some 94, .call 30, [.t 91, .t 93], none⟩] [] [] [5, 6, 85, 86, 87, 94] true [] []
noncomputable def c6_102 : ACode := .region false [⟨some 4, .move, [.c (.val (.bool false))], none⟩] [] [] [4] false [] []
noncomputable def c6_101 : ACode := .seq c6_102 .ret
noncomputable def c6_100 : ACode := .cond (.t 94) c6_101 .skip
noncomputable def c6_98 : ACode := .seq c6_99 c6_100
noncomputable def c6_96 : ACode := .seq c6_97 c6_98
noncomputable def c6_95 : ACode := .block 7 c6_96
noncomputable def c6_103 : ACode := .region false [⟨some 95, .bin .add, [.t 87, .c (.val (.int .i64 1))], none⟩,
  ⟨some 87, .move, [.t 95], none⟩] [] [] [5, 6, 85, 86, 87] false [] []
noncomputable def c6_94 : ACode := .seq c6_95 c6_103
noncomputable def c6_92 : ACode := .seq c6_93 c6_94
noncomputable def c6_90 : ACode := .seq c6_91 c6_92
noncomputable def c6_89 : ACode := .loop c6_90
noncomputable def c6_88 : ACode := .block 6 c6_89
noncomputable def c6_86 : ACode := .seq c6_87 c6_88
noncomputable def c6_105 : ACode := .region false [⟨some 96, .move, [.t 6], none⟩,
  ⟨some 97, .call 29, [.t 96], none⟩,
  ⟨some 98, .move, [.t 5], none⟩,
  ⟨some 99, .bin .eql, [.t 97, .t 98], none⟩,
  ⟨some 4, .move, [.t 99], none⟩] [] [] [4] true [] []
noncomputable def c6_104 : ACode := .seq c6_105 .ret
noncomputable def c6_85 : ACode := .seq c6_86 c6_104
noncomputable def c6_66 : ACode := .seq c6_67 c6_85
noncomputable def c6_60 : ACode := .seq c6_61 c6_66
noncomputable def c6_41 : ACode := .seq c6_42 c6_60
noncomputable def c6_39 : ACode := .seq c6_40 c6_41
noncomputable def c6_18 : ACode := .seq c6_19 c6_39
noncomputable def c6_12 : ACode := .seq c6_13 c6_18
noncomputable def c6_10 : ACode := .seq c6_11 c6_12
noncomputable def c6_8 : ACode := .seq c6_9 c6_10
noncomputable def c6_2 : ACode := .seq c6_3 c6_8
noncomputable def c6_0 : ACode := .seq c6_1 c6_2
noncomputable def code6 : Code := (Try.f6.body).getD .skip
theorem c6_ok : compC Try.prog 100 code6 = some (strip c6_0) := by kernel_rfl
theorem res6_ok : Try.f6.results.toList.mapM (resC Try.prog) = some [(4, none)] := by kernel_rfl
theorem seenAgain_walk (W : World) (room : Int) (sl : Sl Mk) (h0 : IntKind.u8.min ≤ room ∧ room ≤ IntKind.u8.max) (hz : Sl.ok W 3 Mk.rep (Mk.ok W) sl) :
    Calls Try.prog 6 #[.int .u8 room, .slice sl.ad sl.l.length sl.cap] W fun e W' => e = .returned (.bool true) ∧ Below W.heap.size W W' := by
  obtain ⟨ad, off, cap, l⟩ := sl
  obtain ⟨hz, -, hl⟩ := hz
  have hl : l.length ≤ 9223372036854775807 := by simpa [maxLen] using hl
  simp only at hz
  obtain ⟨h1, h2⟩ : 0 ≤ room ∧ room ≤ 255 := h0
  have hr := rm_ren off l
  have hlen := rm_len off l
  have hsh := short18_any off l hl
  cases hs : shortL l with
  | false =>
    rw [hs] at hsh
    refine top_call c6_ok Try.func6 rfl Try.ntmps6 res6_ok [ .val (.int .u8 room), .val (.slice ad l.length cap)] (by simp) (by (repeat' (first | exact VRs_nil' _ | exact VR_val' _ _ | (refine VRs_cons' ?_ ?_) | (refine VR_agg' (by first | rfl | assumption) ?_; first | assumption | simp [Value.oneCell', St.rep, Mk.rep])))) ?_; try simp (maxSteps := 9999999) (disch := omega) only [go_sem]
    refine AWpA.thawT 1 MkL hz (fun x => by simp [Mk.rep, St.rep]) rfl ?_
    (repeat' (first | refine AWpA.seq ?_ | refine AWpA.block ?_ | (with_reducible refine CondP.tt ?_) | (with_reducible refine CondP.ff ?_) | refine AWpA.condv (by simp (maxSteps := 9999999) (disch := omega) only [go_sem, hr]; rfl) ?_ | ((first | (apply AWpA.region; (focus (simp (maxSteps := 9999999) (disch := omega) only [go_sem, hr]; rfl))) | (apply AWpA.draw [] [] follows; (focus (first | rfl | decide)); (focus (simp (maxSteps := 9999999) (disch := omega) only [go_sem, hr]; rfl)); (focus (simp (maxSteps := 9999999) (disch := omega) only [go_sem, hr]; first | done | trivial)); (focus (simp (maxSteps := 9999999) (disch := omega) only [go_sem, hr]; rfl))) | (apply TailK.go; (focus (simp (maxSteps := 9999999) (disch := omega) only [go_sem, hr]; rfl))) | refine AWpA.skip ?_ | refine AWpA.exit ?_ | refine AWpA.ret ?_ | (with_reducible refine ARoundsA.succ ?_) | ((first | refine Runs.kt (by assumption) (fun h9 => ?_) | refine Runs.kf (by assumption) (fun h9 => ?_) | refine Runs.nt (by assumption) (fun h9 => ?_) | refine Runs.nf (by assumption) (fun h9 => ?_) | refine CondP.ht (by assumption) (fun h9 => ?_) | refine CondP.hf (by assumption) (fun h9 => ?_) | refine CondP.nt (by assumption) (fun h9 => ?_) | refine CondP.nf (by assumption) (fun h9 => ?_)); (try simp only [h9]); clear h9) | ((first | (with_reducible apply CallG.plain1 [] (speaks18)) | (with_reducible apply CallG.plain1 [0] (hsh)) | (with_reducible apply CallG.draw1 [] (speaks18)) | (with_reducible apply CallG.draw1 [0] (hsh))); (focus ((try refine And.intro (leAs_of_eq rfl) ?_); (try refine And.intro (leOL_of_eq rfl) ?_); simp (maxSteps := 9999999) (disch := omega) only [go_sem, hr]; first | done | (repeat' (first | rfl | (refine And.intro ?_ ?_))))); (focus (simp (maxSteps := 9999999) (disch := omega) only [go_sem, hr]; rfl)))); (try simp (maxSteps := 9999999) (disch := omega) only [go_sem, hr]); (try (refine And.intro ?_ ?_; (focus (first | omega | (simp only [go_sem]; done) | (simp; done) | (simp; omega) | assumption))))) | ((first | refine CondP.split (fun hif => ?_) (fun hif => ?_) | refine Runs.part (fun hif => ?_) (fun hif => ?_)) <;> ((try simp only [hif]); (try simp only [decide_eq_true_eq, decide_eq_false_iff_not, Bool.not_eq_true, Bool.not_eq_false, Bool.not_eq_true', Bool.not_eq_false', beq_iff_eq, bne_iff_ne, bne_eq_false_iff_eq, beq_eq_false_iff_ne, ne_eq, Bool.and_eq_true, Bool.or_eq_true, Bool.or_eq_false_iff] at hif); (try (have h9 : _ = true := hif; simp only [h9])); (try (have h9 : _ = false := hif; simp only [h9])); (try simp (maxSteps := 9999999) (disch := omega) only [go_sem, hr]); (try (refine And.intro ?_ ?_; (focus (first | omega | (simp only [go_sem]; done) | (simp; done) | (simp; omega) | assumption)))); (try (exfalso; omega; done))))))
    (refine TopPost.of (by first | exact .inl rfl | exact .inr rfl) (by (try simp (maxSteps := 9999999) (disch := omega) only [go_sem]); rfl) ?_; (try simp (maxSteps := 9999999) (disch := omega) only [go_sem]); (try (first | trivial | decide | (simp; done))))
  | true =>
  rw [hs] at hsh
  have h80 : l.length ≤ 80 := by simp [shortL] at hs; exact hs.2
  obtain ⟨n, hn, h1n, h2n⟩ : ∃ n : Nat, 1 + room.tmod 20 = (n : Int) ∧ 1 ≤ n ∧ n ≤ 20 := by
    rw [Int.tmod_eq_emod_of_nonneg h1]
    refine ⟨(1 + room % 20).toNat, ?_, ?_, ?_⟩ <;> omega
  have n1 := snew_ok n (by omega) (by omega)
  clear hs
  refine top_call c6_ok Try.func6 rfl Try.ntmps6 res6_ok [ .val (.int .u8 room), .val (.slice ad l.length cap)] (by simp) (by (repeat' (first | exact VRs_nil' _ | exact VR_val' _ _ | (refine VRs_cons' ?_ ?_) | (refine VR_agg' (by first | rfl | assumption) ?_; first | assumption | simp [Value.oneCell', St.rep, Mk.rep])))) ?_; try simp (maxSteps := 9999999) (disch := omega) only [go_sem]
  refine AWpA.thawT 1 MkL hz (fun x => by simp [Mk.rep, St.rep]) rfl ?_
  (repeat' (first | refine AWpA.seq ?_ | refine AWpA.block ?_ | (with_reducible refine CondP.tt ?_) | (with_reducible refine CondP.ff ?_) | refine AWpA.condv (by simp (maxSteps := 9999999) (disch := omega) only [go_sem, hr, hn, ringC_ren]; rfl) ?_ | ((first | (apply AWpA.region; (focus (simp (maxSteps := 9999999) (disch := omega) only [go_sem, hr, hn, ringC_ren]; rfl))) | (apply AWpA.draw [] [] follows; (focus (first | rfl | decide)); (focus (simp (maxSteps := 9999999) (disch := omega) only [go_sem, hr, hn, ringC_ren]; rfl)); (focus (simp (maxSteps := 9999999) (disch := omega) only [go_sem, hr, hn, ringC_ren]; first | done | trivial)); (focus (simp (maxSteps := 9999999) (disch := omega) only [go_sem, hr, hn, ringC_ren]; rfl))) | (apply TailK.go; (focus (simp (maxSteps := 9999999) (disch := omega) only [go_sem, hr, hn, ringC_ren]; rfl))) | refine AWpA.skip ?_ | refine AWpA.exit ?_ | refine AWpA.ret ?_ | (with_reducible refine ARoundsA.succ ?_) | ((first | refine Runs.kt (by assumption) (fun h9 => ?_) | refine Runs.kf (by assumption) (fun h9 => ?_) | refine Runs.nt (by assumption) (fun h9 => ?_) | refine Runs.nf (by assumption) (fun h9 => ?_) | refine CondP.ht (by assumption) (fun h9 => ?_) | refine CondP.hf (by assumption) (fun h9 => ?_) | refine CondP.nt (by assumption) (fun h9 => ?_) | refine CondP.nf (by assumption) (fun h9 => ?_)); (try simp only [h9]); clear h9) | ((first | (with_reducible apply CallG.plain1 [] (speaks18)) | (with_reducible apply CallG.plain1 [0] (hsh)) | (with_reducible apply CallG.plain1 [] (n1)) | (with_reducible apply CallG.draw1 [] (speaks18)) | (with_reducible apply CallG.draw1 [0] (hsh)) | (with_reducible apply CallG.draw1 [] (n1))); (focus ((try refine And.intro (leAs_of_eq rfl) ?_); (try refine And.intro (leOL_of_eq rfl) ?_); simp (maxSteps := 9999999) (disch := omega) only [go_sem, hr, hn, ringC_ren]; first | done | (repeat' (first | rfl | (refine And.intro ?_ ?_))))); (focus (simp (maxSteps := 9999999) (disch := omega) only [go_sem, hr, hn, ringC_ren]; rfl)))); (try simp (maxSteps := 9999999) (disch := omega) only [go_sem, hr, hn, ringC_ren]); (try (refine And.intro ?_ ?_; (focus (first | omega | (simp only [go_sem]; done) | (simp; done) | (simp; omega) | assumption))))) | ((first | refine CondP.split (fun hif => ?_) (fun hif => ?_) | refine Runs.part (fun hif => ?_) (fun hif => ?_)) <;> ((try simp only [hif]); (try simp only [decide_eq_true_eq, decide_eq_false_iff_not, Bool.not_eq_true, Bool.not_eq_false, Bool.not_eq_true', Bool.not_eq_false', beq_iff_eq, bne_iff_ne, bne_eq_false_iff_eq, beq_eq_false_iff_ne, ne_eq, Bool.and_eq_true, Bool.or_eq_true, Bool.or_eq_false_iff] at hif); (try (have h9 : _ = true := hif; simp only [h9])); (try (have h9 : _ = false := hif; simp only [h9])); (try simp (maxSteps := 9999999) (disch := omega) only [go_sem, hr, hn, ringC_ren]); (try (refine And.intro ?_ ?_; (focus (first | omega | (simp only [go_sem]; done) | (simp; done) | (simp; omega) | assumption)))); (try (exfalso; omega; done))))))
  (apply AWpA.loopL (fun p : Nat × Sn => [(5, I n), (6, .ptr 1 0), (39, .sl 0 off l.length 3 none), (40, I l.length), (41, I p.1)]) (fun p => [.cells true (Rm off l), SnO 2 3 false p.2, .cells false (ringC p.2), .map false (EsM p.2.mp)]) (fun p => l.length - p.1) (fun p => p.1 ≤ l.length ∧ p.2.ok ∧ p.2.room = n ∧ ∀ m ∈ p.2.ring, m.key ≠ newK) ((0, newS n)) [0, _, _, _]; rotate_left; (focus (simp (maxSteps := 9999999) (disch := omega) only [go_sem, hr, rm_nil, ringC_ren, es_ren]; (try (repeat' (first | done | trivial | rfl | exact leAs_rfl _ | decide | (refine And.intro ?_ ?_) | (simp; done) | omega | (simp; decide)))))); rotate_right)
  · exact ⟨Nat.zero_le _, newS_ok (by omega) (by omega), rfl, fun m hm => by cases hm⟩
  rintro ⟨i, s⟩ ⟨hi, hok, hrm, hkey⟩
  (try simp only at hi hok hrm hkey)
  by_cases hin : i < l.length
  · have k1 : ((i : Int) < (l.length : Int)) = True := eq_true (by omega)
    have hat := rm_at off l i hin
    generalize l[i] = x at *
    by_cases hxk : x.key = newK
    · have g3 : (x.key == ⟨#[110, 101, 119]⟩) = true := (ba_iff _ _).2 hxk
      (try simp (maxSteps := 9999999) (disch := omega) only [go_sem])
      (repeat' (first | refine AWpA.seq ?_ | refine AWpA.block ?_ | (with_reducible refine CondP.tt ?_) | (with_reducible refine CondP.ff ?_) | refine AWpA.condv (by simp (maxSteps := 9999999) (disch := omega) only [go_sem, hr, k1, hlen, hat, ringC_ren, es_ren, g3]; rfl) ?_ | ((first | (apply AWpA.region; (focus (simp (maxSteps := 9999999) (disch := omega) only [go_sem, hr, k1, hlen, hat, ringC_ren, es_ren, g3]; rfl))) | (apply AWpA.draw [] [] follows; (focus (first | rfl | decide)); (focus (simp (maxSteps := 9999999) (disch := omega) only [go_sem, hr, k1, hlen, hat, ringC_ren, es_ren, g3]; rfl)); (focus (simp (maxSteps := 9999999) (disch := omega) only [go_sem, hr, k1, hlen, hat, ringC_ren, es_ren, g3]; first | done | trivial)); (focus (simp (maxSteps := 9999999) (disch := omega) only [go_sem, hr, k1, hlen, hat, ringC_ren, es_ren, g3]; rfl))) | (apply TailK.go; (focus (simp (maxSteps := 9999999) (disch := omega) only [go_sem, hr, k1, hlen, hat, ringC_ren, es_ren, g3]; rfl))) | refine AWpA.skip ?_ | refine AWpA.exit ?_ | refine AWpA.ret ?_ | (with_reducible refine ARoundsA.succ ?_) | ((first | refine Runs.kt (by assumption) (fun h9 => ?_) | refine Runs.kf (by assumption) (fun h9 => ?_) | refine Runs.nt (by assumption) (fun h9 => ?_) | refine Runs.nf (by assumption) (fun h9 => ?_) | refine CondP.ht (by assumption) (fun h9 => ?_) | refine CondP.hf (by assumption) (fun h9 => ?_) | refine CondP.nt (by assumption) (fun h9 => ?_) | refine CondP.nf (by assumption) (fun h9 => ?_)); (try simp only [h9]); clear h9)); (try simp (maxSteps := 9999999) (disch := omega) only [go_sem, hr, k1, hlen, hat, ringC_ren, es_ren, g3]); (try (refine And.intro ?_ ?_; (focus (first | omega | (simp only [go_sem]; done) | (simp; done) | (simp; omega) | assumption))))) | ((first | refine CondP.split (fun hif => ?_) (fun hif => ?_) | refine Runs.part (fun hif => ?_) (fun hif => ?_)) <;> ((try simp only [hif]); (try simp only [decide_eq_true_eq, decide_eq_false_iff_not, Bool.not_eq_true, Bool.not_eq_false, Bool.not_eq_true', Bool.not_eq_false', beq_iff_eq, bne_iff_ne, bne_eq_false_iff_eq, beq_eq_false_iff_ne, ne_eq, Bool.and_eq_true, Bool.or_eq_true, Bool.or_eq_false_iff] at hif); (try (have h9 : _ = true := hif; simp only [h9])); (try (have h9 : _ = false := hif; simp only [h9])); (try simp (maxSteps := 9999999) (disch := omega) only [go_sem, hr, k1, hlen, hat, ringC_ren, es_ren, g3]); (try (refine And.intro ?_ ?_; (focus (first | omega | (simp only [go_sem]; done) | (simp; done) | (simp; omega) | assumption)))); (try (exfalso; omega; done))))))
      (refine TopPost.of (by first | exact .inl rfl | exact .inr rfl) (by (try simp (maxSteps := 9999999) (disch := omega) only [go_sem]); rfl) ?_; (try simp (maxSteps := 9999999) (disch := omega) only [go_sem]); (try (first | trivial | decide | (simp; done))))
    have g3 : (x.key == ⟨#[110, 101, 119]⟩) = false := by
      cases e : (x.key == ⟨#[110, 101, 119]⟩) with
      | false => rfl
      | true => exact absurd ((ba_iff _ _).1 e) hxk
    have hok2 := addS_ok hok x
    have hrm2 : (addS s x).room = n := by rw [addS_room, hrm]
    have hkey2 : ∀ m ∈ (addS s x).ring, m.key ≠ newK := by
      intro m hm
      rw [← allS_mem, addS_doc hok x] at hm
      unfold addD at hm
      have hsub : m ∈ allS s ++ [x] → m.key ≠ newK := fun h => by
        rcases List.mem_append.1 h with h | h
        · exact hkey m ((allS_mem s m).1 h)
        · rw [List.mem_singleton.1 h]; exact hxk
      split at hm
      · exact hkey m ((allS_mem s m).1 hm)
      · split at hm
        · exact hsub (List.mem_of_mem_drop hm)
        · exact hsub hm
    have c1 := of10_any x
    have c2 := sadd_any hok x
    (try simp (maxSteps := 9999999) (disch := omega) only [go_sem])
    (repeat' (first | refine AWpA.seq ?_ | refine AWpA.block ?_ | (with_reducible refine CondP.tt ?_) | (with_reducible refine CondP.ff ?_) | refine AWpA.condv (by simp (maxSteps := 9999999) (disch := omega) only [go_sem, hr, k1, hlen, hat, ringC_ren, es_ren, rm_ren, g3]; rfl) ?_ | ((first | (apply AWpA.region; (focus (simp (maxSteps := 9999999) (disch := omega) only [go_sem, hr, k1, hlen, hat, ringC_ren, es_ren, rm_ren, g3]; rfl))) | (apply AWpA.draw [1, 2, 3] [] follows; (focus (first | rfl | decide)); (focus (simp (maxSteps := 9999999) (disch := omega) only [go_sem, hr, k1, hlen, hat, ringC_ren, es_ren, rm_ren, g3]; rfl)); (focus (simp (maxSteps := 9999999) (disch := omega) only [go_sem, hr, k1, hlen, hat, ringC_ren, es_ren, rm_ren, g3]; first | done | trivial)); (focus (simp (maxSteps := 9999999) (disch := omega) only [go_sem, hr, k1, hlen, hat, ringC_ren, es_ren, rm_ren, g3]; rfl))) | (apply TailK.go; (focus (simp (maxSteps := 9999999) (disch := omega) only [go_sem, hr, k1, hlen, hat, ringC_ren, es_ren, rm_ren, g3]; rfl))) | refine AWpA.skip ?_ | refine AWpA.exit ?_ | refine AWpA.ret ?_ | (with_reducible refine ARoundsA.succ ?_) | ((first | refine Runs.kt (by assumption) (fun h9 => ?_) | refine Runs.kf (by assumption) (fun h9 => ?_) | refine Runs.nt (by assumption) (fun h9 => ?_) | refine Runs.nf (by assumption) (fun h9 => ?_) | refine CondP.ht (by assumption) (fun h9 => ?_) | refine CondP.hf (by assumption) (fun h9 => ?_) | refine CondP.nt (by assumption) (fun h9 => ?_) | refine CondP.nf (by assumption) (fun h9 => ?_)); (try simp only [h9]); clear h9) | ((first | (with_reducible apply CallG.plain1 [] (c1)) | (with_reducible apply CallG.draw1 [] (c1))); (focus ((try refine And.intro (leAs_of_eq rfl) ?_); (try refine And.intro (leOL_of_eq rfl) ?_); simp (maxSteps := 9999999) (disch := omega) only [go_sem, hr, k1, hlen, hat, ringC_ren, es_ren, rm_ren, g3]; first | done | (repeat' (first | rfl | (refine And.intro ?_ ?_))))); (focus (simp (maxSteps := 9999999) (disch := omega) only [go_sem, hr, k1, hlen, hat, ringC_ren, es_ren, rm_ren, g3]; rfl))) | ((first | (with_reducible apply CallG.plain1 [1, 2, 3] (c2)) | (with_reducible apply CallG.draw1 [1, 2, 3] (c2))); (focus ((try refine And.intro (leAs_of_eq rfl) ?_); (try refine And.intro (leOL_of_eq rfl) ?_); simp (maxSteps := 9999999) (disch := omega) only [go_sem, hr, k1, hlen, hat, ringC_ren, es_ren, rm_ren, g3]; first | done | (repeat' (first | rfl | (refine And.intro ?_ ?_))))); (focus (simp (maxSteps := 9999999) (disch := omega) only [go_sem, hr, k1, hlen, hat, ringC_ren, es_ren, rm_ren, g3]; rfl)))); (try simp (maxSteps := 9999999) (disch := omega) only [go_sem, hr, k1, hlen, hat, ringC_ren, es_ren, rm_ren, g3]); (try (refine And.intro ?_ ?_; (focus (first | omega | (simp only [go_sem]; done) | (simp; done) | (simp; omega) | assumption))))) | ((first | refine CondP.split (fun hif => ?_) (fun hif => ?_) | refine Runs.part (fun hif => ?_) (fun hif => ?_)) <;> ((try simp only [hif]); (try simp only [decide_eq_true_eq, decide_eq_false_iff_not, Bool.not_eq_true, Bool.not_eq_false, Bool.not_eq_true', Bool.not_eq_false', beq_iff_eq, bne_iff_ne, bne_eq_false_iff_eq, beq_eq_false_iff_ne, ne_eq, Bool.and_eq_true, Bool.or_eq_true, Bool.or_eq_false_iff] at hif); (try (have h9 : _ = true := hif; simp only [h9])); (try (have h9 : _ = false := hif; simp only [h9])); (try simp (maxSteps := 9999999) (disch := omega) only [go_sem, hr, k1, hlen, hat, ringC_ren, es_ren, rm_ren, g3]); (try (refine And.intro ?_ ?_; (focus (first | omega | (simp only [go_sem]; done) | (simp; done) | (simp; omega) | assumption)))); (try (exfalso; omega; done))))))
    (apply Back.to (i + 1, addS s x) [0, 1, 2, 3]; (focus ((try simp (maxSteps := 9999999) (disch := omega) only [go_sem, hr, ringC_ren, es_ren, rm_ren]); first | done | omega)); rotate_left; (focus (simp (maxSteps := 9999999) (disch := omega) only [go_sem, hr, ringC_ren, es_ren, rm_ren]; (try (repeat' (first | done | trivial | rfl | exact leAs_rfl _ | decide | (refine And.intro ?_ ?_) | (simp; done) | omega | (simp; decide)))))))
    exact ⟨by simp only; omega, hok2, hrm2, hkey2⟩
  obtain rfl : i = l.length := by omega
  have k1 : ((l.length : Int) < (l.length : Int)) = False := eq_false (by omega)
  obtain ⟨w, hw⟩ : ∃ w, w = allS s := ⟨_, rfl⟩
  have hwl : w.length = s.ring.length := by rw [hw, allS_len]
  have hwn : w.length ≤ n := by rw [hwl, ← hrm]; exact hok.len
  have hwk : ∀ m ∈ w, m.key ≠ newK := fun m hm => hkey m ((allS_mem s m).1 (hw ▸ hm))
  have hwm : ∀ m ∈ w, m ∈ s.ring := fun m hm => (allS_mem s m).1 (hw ▸ hm)
  have c3 := sall_any hok
  rw [← hw] at c3
  have c4 := tos_any 0 w (by omega)
  (try simp (maxSteps := 9999999) (disch := omega) only [go_sem])
  (repeat' (first | refine AWpA.seq ?_ | refine AWpA.block ?_ | (with_reducible refine CondP.tt ?_) | (with_reducible refine CondP.ff ?_) | refine AWpA.condv (by simp (maxSteps := 9999999) (disch := omega) only [go_sem, hr, k1, ringC_ren, es_ren, rm_ren]; rfl) ?_ | ((first | (apply AWpA.region; (focus (simp (maxSteps := 9999999) (disch := omega) only [go_sem, hr, k1, ringC_ren, es_ren, rm_ren]; rfl))) | (apply AWpA.draw [] [] follows; (focus (first | rfl | decide)); (focus (simp (maxSteps := 9999999) (disch := omega) only [go_sem, hr, k1, ringC_ren, es_ren, rm_ren]; rfl)); (focus (simp (maxSteps := 9999999) (disch := omega) only [go_sem, hr, k1, ringC_ren, es_ren, rm_ren]; first | done | trivial)); (focus (simp (maxSteps := 9999999) (disch := omega) only [go_sem, hr, k1, ringC_ren, es_ren, rm_ren]; rfl))) | (apply TailK.go; (focus (simp (maxSteps := 9999999) (disch := omega) only [go_sem, hr, k1, ringC_ren, es_ren, rm_ren]; rfl))) | refine AWpA.skip ?_ | refine AWpA.exit ?_ | refine AWpA.ret ?_ | (with_reducible refine ARoundsA.succ ?_) | ((first | refine Runs.kt (by assumption) (fun h9 => ?_) | refine Runs.kf (by assumption) (fun h9 => ?_) | refine Runs.nt (by assumption) (fun h9 => ?_) | refine Runs.nf (by assumption) (fun h9 => ?_) | refine CondP.ht (by assumption) (fun h9 => ?_) | refine CondP.hf (by assumption) (fun h9 => ?_) | refine CondP.nt (by assumption) (fun h9 => ?_) | refine CondP.nf (by assumption) (fun h9 => ?_)); (try simp only [h9]); clear h9) | ((first | (with_reducible apply CallG.plain1 [1, 2, 3] (c3)) | (with_reducible apply CallG.plain1 [_] (c4)) | (with_reducible apply CallG.draw1 [1, 2, 3] (c3)) | (with_reducible apply CallG.draw1 [_] (c4))); (focus ((try refine And.intro (leAs_of_eq rfl) ?_); (try refine And.intro (leOL_of_eq rfl) ?_); simp (maxSteps := 9999999) (disch := omega) only [go_sem, hr, k1, ringC_ren, es_ren, rm_ren]; first | done | (repeat' (first | rfl | (refine And.intro ?_ ?_))))); (focus (simp (maxSteps := 9999999) (disch := omega) only [go_sem, hr, k1, ringC_ren, es_ren, rm_ren]; rfl)))); (try simp (maxSteps := 9999999) (disch := omega) only [go_sem, hr, k1, ringC_ren, es_ren, rm_ren]); (try (refine And.intro ?_ ?_; (focus (first | omega | (simp only [go_sem]; done) | (simp; done) | (simp; omega) | assumption))))) | ((first | refine CondP.split (fun hif => ?_) (fun hif => ?_) | refine Runs.part (fun hif => ?_) (fun hif => ?_)) <;> ((try simp only [hif]); (try simp only [decide_eq_true_eq, decide_eq_false_iff_not, Bool.not_eq_true, Bool.not_eq_false, Bool.not_eq_true', Bool.not_eq_false', beq_iff_eq, bne_iff_ne, bne_eq_false_iff_eq, beq_eq_false_iff_ne, ne_eq, Bool.and_eq_true, Bool.or_eq_true, Bool.or_eq_false_iff] at hif); (try (have h9 : _ = true := hif; simp only [h9])); (try (have h9 : _ = false := hif; simp only [h9])); (try simp (maxSteps := 9999999) (disch := omega) only [go_sem, hr, k1, ringC_ren, es_ren, rm_ren]); (try (refine And.intro ?_ ?_; (focus (first | omega | (simp only [go_sem]; done) | (simp; done) | (simp; omega) | assumption)))); (try (exfalso; omega; done))))))
  clear hr hlen hsh k1 hin hi hz
  have hwlen := rm_len 0 w
  (apply AWpA.loopL (fun i : Nat => [(5, I n), (6, .ptr 0 0), (10, .sl 3 0 w.length 3 none), (56, .sl 3 0 w.length 3 none), (57, I w.length), (58, I i)]) (fun i => [SnO 1 2 false s, .cells false (ringC s), .map false (EsM s.mp), .cells false (Rm 0 w)]) (fun i => w.length - i) (fun i => i ≤ w.length) (0) [_, _, _, _]; rotate_left; (focus (simp (maxSteps := 9999999) (disch := omega) only [go_sem, rm_ren, ringC_ren, es_ren]; (try (repeat' (first | done | trivial | rfl | exact leAs_rfl _ | decide | (refine And.intro ?_ ?_) | (simp; done) | omega | (simp; decide)))))); rotate_right)
  · exact Nat.zero_le _
  rintro i hi
  (try simp only at hi)
  by_cases hin : i < w.length
  · have k1 : ((i : Int) < (w.length : Int)) = True := eq_true (by omega)
    have hat := rm_getD hin
    have hmem := hwm _ (List.getElem_mem hin)
    generalize w[i] = x at *
    have c1 := of10_any x
    have c2 := sadd_has s x ((hok.mp x).2 hmem)
    (try simp (maxSteps := 9999999) (disch := omega) only [go_sem])
    (repeat' (first | refine AWpA.seq ?_ | refine AWpA.block ?_ | (with_reducible refine CondP.tt ?_) | (with_reducible refine CondP.ff ?_) | refine AWpA.condv (by simp (maxSteps := 9999999) (disch := omega) only [go_sem, k1, hwlen, hat, ringC_ren, es_ren, rm_ren]; rfl) ?_ | ((first | (apply AWpA.region; (focus (simp (maxSteps := 9999999) (disch := omega) only [go_sem, k1, hwlen, hat, ringC_ren, es_ren, rm_ren]; rfl))) | (apply AWpA.draw [0, 1, 2] [] follows; (focus (first | rfl | decide)); (focus (simp (maxSteps := 9999999) (disch := omega) only [go_sem, k1, hwlen, hat, ringC_ren, es_ren, rm_ren]; rfl)); (focus (simp (maxSteps := 9999999) (disch := omega) only [go_sem, k1, hwlen, hat, ringC_ren, es_ren, rm_ren]; first | done | trivial)); (focus (simp (maxSteps := 9999999) (disch := omega) only [go_sem, k1, hwlen, hat, ringC_ren, es_ren, rm_ren]; rfl))) | (apply TailK.go; (focus (simp (maxSteps := 9999999) (disch := omega) only [go_sem, k1, hwlen, hat, ringC_ren, es_ren, rm_ren]; rfl))) | refine AWpA.skip ?_ | refine AWpA.exit ?_ | refine AWpA.ret ?_ | (with_reducible refine ARoundsA.succ ?_) | ((first | refine Runs.kt (by assumption) (fun h9 => ?_) | refine Runs.kf (by assumption) (fun h9 => ?_) | refine Runs.nt (by assumption) (fun h9 => ?_) | refine Runs.nf (by assumption) (fun h9 => ?_) | refine CondP.ht (by assumption) (fun h9 => ?_) | refine CondP.hf (by assumption) (fun h9 => ?_) | refine CondP.nt (by assumption) (fun h9 => ?_) | refine CondP.nf (by assumption) (fun h9 => ?_)); (try simp only [h9]); clear h9) | ((first | (with_reducible apply CallG.plain1 [] (c1)) | (with_reducible apply CallG.draw1 [] (c1))); (focus ((try refine And.intro (leAs_of_eq rfl) ?_); (try refine And.intro (leOL_of_eq rfl) ?_); simp (maxSteps := 9999999) (disch := omega) only [go_sem, k1, hwlen, hat, ringC_ren, es_ren, rm_ren]; first | done | (repeat' (first | rfl | (refine And.intro ?_ ?_))))); (focus (simp (maxSteps := 9999999) (disch := omega) only [go_sem, k1, hwlen, hat, ringC_ren, es_ren, rm_ren]; rfl))) | ((first | (with_reducible apply CallG.plain1 [0, 1, 2] (c2)) | (with_reducible apply CallG.draw1 [0, 1, 2] (c2))); (focus ((try refine And.intro (leAs_of_eq rfl) ?_); (try refine And.intro (leOL_of_eq rfl) ?_); simp (maxSteps := 9999999) (disch := omega) only [go_sem, k1, hwlen, hat, ringC_ren, es_ren, rm_ren]; first | done | (repeat' (first | rfl | (refine And.intro ?_ ?_))))); (focus (simp (maxSteps := 9999999) (disch := omega) only [go_sem, k1, hwlen, hat, ringC_ren, es_ren, rm_ren]; rfl)))); (try simp (maxSteps := 9999999) (disch := omega) only [go_sem, k1, hwlen, hat, ringC_ren, es_ren, rm_ren]); (try (refine And.intro ?_ ?_; (focus (first | omega | (simp only [go_sem]; done) | (simp; done) | (simp; omega) | assumption))))) | ((first | refine CondP.split (fun hif => ?_) (fun hif => ?_) | refine Runs.part (fun hif => ?_) (fun hif => ?_)) <;> ((try simp only [hif]); (try simp only [decide_eq_true_eq, decide_eq_false_iff_not, Bool.not_eq_true, Bool.not_eq_false, Bool.not_eq_true', Bool.not_eq_false', beq_iff_eq, bne_iff_ne, bne_eq_false_iff_eq, beq_eq_false_iff_ne, ne_eq, Bool.and_eq_true, Bool.or_eq_true, Bool.or_eq_false_iff] at hif); (try (have h9 : _ = true := hif; simp only [h9])); (try (have h9 : _ = false := hif; simp only [h9])); (try simp (maxSteps := 9999999) (disch := omega) only [go_sem, k1, hwlen, hat, ringC_ren, es_ren, rm_ren]); (try (refine And.intro ?_ ?_; (focus (first | omega | (simp only [go_sem]; done) | (simp; done) | (simp; omega) | assumption)))); (try (exfalso; omega; done))))))
    (apply Back.to (i + 1) [0, 1, 2, 3]; (focus ((try simp (maxSteps := 9999999) (disch := omega) only [go_sem, ringC_ren, es_ren, rm_ren]); first | done | omega)); rotate_left; (focus (simp (maxSteps := 9999999) (disch := omega) only [go_sem, ringC_ren, es_ren, rm_ren]; (try (repeat' (first | done | trivial | rfl | exact leAs_rfl _ | decide | (refine And.intro ?_ ?_) | (simp; done) | omega | (simp; decide)))))))
    omega
  obtain rfl : i = w.length := by omega
  have k1 : ((w.length : Int) < (w.length : Int)) = False := eq_false (by omega)
  have c5 := same10_any 0 0 w w (by omega) (by omega)
  rw [decide_eq_true rfl] at c5
  (try simp (maxSteps := 9999999) (disch := omega) only [go_sem])
  (repeat' (first | refine AWpA.seq ?_ | refine AWpA.block ?_ | (with_reducible refine CondP.tt ?_) | (with_reducible refine CondP.ff ?_) | refine AWpA.condv (by simp (maxSteps := 9999999) (disch := omega) only [go_sem, k1, ringC_ren, es_ren, rm_ren]; rfl) ?_ | ((first | (apply AWpA.region; (focus (simp (maxSteps := 9999999) (disch := omega) only [go_sem, k1, ringC_ren, es_ren, rm_ren]; rfl))) | (apply AWpA.draw [] [] follows; (focus (first | rfl | decide)); (focus (simp (maxSteps := 9999999) (disch := omega) only [go_sem, k1, ringC_ren, es_ren, rm_ren]; rfl)); (focus (simp (maxSteps := 9999999) (disch := omega) only [go_sem, k1, ringC_ren, es_ren, rm_ren]; first | done | trivial)); (focus (simp (maxSteps := 9999999) (disch := omega) only [go_sem, k1, ringC_ren, es_ren, rm_ren]; rfl))) | (apply TailK.go; (focus (simp (maxSteps := 9999999) (disch := omega) only [go_sem, k1, ringC_ren, es_ren, rm_ren]; rfl))) | refine AWpA.skip ?_ | refine AWpA.exit ?_ | refine AWpA.ret ?_ | (with_reducible refine ARoundsA.succ ?_) | ((first | refine Runs.kt (by assumption) (fun h9 => ?_) | refine Runs.kf (by assumption) (fun h9 => ?_) | refine Runs.nt (by assumption) (fun h9 => ?_) | refine Runs.nf (by assumption) (fun h9 => ?_) | refine CondP.ht (by assumption) (fun h9 => ?_) | refine CondP.hf (by assumption) (fun h9 => ?_) | refine CondP.nt (by assumption) (fun h9 => ?_) | refine CondP.nf (by assumption) (fun h9 => ?_)); (try simp only [h9]); clear h9) | ((first | (with_reducible apply CallG.plain1 [0, 1, 2] (c3)) | (with_reducible apply CallG.plain1 [_] (c4)) | (with_reducible apply CallG.plain1 [_, _] (c5)) | (with_reducible apply CallG.draw1 [0, 1, 2] (c3)) | (with_reducible apply CallG.draw1 [_] (c4)) | (with_reducible apply CallG.draw1 [_, _] (c5))); (focus ((try refine And.intro (leAs_of_eq rfl) ?_); (try refine And.intro (leOL_of_eq rfl) ?_); simp (maxSteps := 9999999) (disch := omega) only [go_sem, k1, ringC_ren, es_ren, rm_ren]; first | done | (repeat' (first | rfl | (refine And.intro ?_ ?_))))); (focus (simp (maxSteps := 9999999) (disch := omega) only [go_sem, k1, ringC_ren, es_ren, rm_ren]; rfl)))); (try simp (maxSteps := 9999999) (disch := omega) only [go_sem, k1, ringC_ren, es_ren, rm_ren]); (try (refine And.intro ?_ ?_; (focus (first | omega | (simp only [go_sem]; done) | (simp; done) | (simp; omega) | assumption))))) | ((first | refine CondP.split (fun hif => ?_) (fun hif => ?_) | refine Runs.part (fun hif => ?_) (fun hif => ?_)) <;> ((try simp only [hif]); (try simp only [decide_eq_true_eq, decide_eq_false_iff_not, Bool.not_eq_true, Bool.not_eq_false, Bool.not_eq_true', Bool.not_eq_false', beq_iff_eq, bne_iff_ne, bne_eq_false_iff_eq, beq_eq_false_iff_ne, ne_eq, Bool.and_eq_true, Bool.or_eq_true, Bool.or_eq_false_iff] at hif); (try (have h9 : _ = true := hif; simp only [h9])); (try (have h9 : _ = false := hif; simp only [h9])); (try simp (maxSteps := 9999999) (disch := omega) only [go_sem, k1, ringC_ren, es_ren, rm_ren]); (try (refine And.intro ?_ ?_; (focus (first | omega | (simp only [go_sem]; done) | (simp; done) | (simp; omega) | assumption)))); (try (exfalso; omega; done))))))
  clear c5 c3 c4 k1 hin hi hkey
  have hws : allS s = lastN n (w ++ news 0) := by rw [← hw, show news 0 = [] from rfl, List.append_nil, lastN_self hwn]
  (apply AWpA.loopL (fun p : Nat × Sn => [(5, I n), (6, .ptr 0 0), (10, .sl 3 0 w.length 3 none), (73, I n), (74, I p.1)]) (fun p => [SnO 1 2 false p.2, .cells false (ringC p.2), .map false (EsM p.2.mp), .cells false (Rm 0 w)]) (fun p => n - p.1) (fun p => p.1 ≤ n ∧ p.2.ok ∧ p.2.room = n ∧ allS p.2 = lastN n (w ++ news p.1)) ((0, s)) [0, 1, 2, 3]; rotate_left; (focus (simp (maxSteps := 9999999) (disch := omega) only [go_sem, rm_ren, ringC_ren, es_ren]; (try (repeat' (first | done | trivial | rfl | exact leAs_rfl _ | decide | (refine And.intro ?_ ?_) | (simp; done) | omega | (simp; decide)))))); rotate_right)
  · exact ⟨Nat.zero_le _, hok, hrm, hws⟩
  clear hws hwm hw hwl hrm hok
  clear s
  rintro ⟨i, s⟩ ⟨hi, hok, hrm, hws⟩
  (try simp only at hi hok hrm hws)
  by_cases hin : i < n
  · have k1 : ((i : Int) < (n : Int)) = True := eq_true (by omega)
    have hnot : newM i ∉ allS s := by
      rw [hws]
      intro h
      rcases List.mem_append.1 (lastN_sub h) with h | h
      · exact hwk _ h rfl
      · exact newM_not h
    have hnr : newM i ∉ s.ring := fun h => hnot ((allS_mem s _).2 h)
    have c2 := sadd_any hok (newM i)
    rw [decide_eq_false hnr, Bool.not_false] at c2
    have hok2 := addS_ok hok (newM i)
    have hrm2 : (addS s (newM i)).room = n := by rw [addS_room, hrm]
    have hws2 : allS (addS s (newM i)) = lastN n (w ++ news (i + 1)) := by
      rw [addS_doc hok, hrm, hws, addD_last h1n _ _ (by rw [← hws]; exact hnot), List.append_assoc, ← news_succ]
    have em : MkG (newM i) = .agg [I (1 + (i : Int)), I 0, Str ⟨#[110, 101, 119]⟩] := rfl
    rw [em] at c2
    clear em hnot hnr
    generalize addS s (newM i) = s2 at *
    (try simp (maxSteps := 9999999) (disch := omega) only [go_sem])
    (repeat' (first | refine AWpA.seq ?_ | refine AWpA.block ?_ | (with_reducible refine CondP.tt ?_) | (with_reducible refine CondP.ff ?_) | refine AWpA.condv (by simp (maxSteps := 9999999) (disch := omega) only [go_sem, k1, ringC_ren, es_ren, rm_ren]; rfl) ?_ | ((first | (apply AWpA.region; (focus (simp (maxSteps := 9999999) (disch := omega) only [go_sem, k1, ringC_ren, es_ren, rm_ren]; rfl))) | (apply AWpA.draw [0, 1, 2] [] follows; (focus (first | rfl | decide)); (focus (simp (maxSteps := 9999999) (disch := omega) only [go_sem, k1, ringC_ren, es_ren, rm_ren]; rfl)); (focus (simp (maxSteps := 9999999) (disch := omega) only [go_sem, k1, ringC_ren, es_ren, rm_ren]; first | done | trivial)); (focus (simp (maxSteps := 9999999) (disch := omega) only [go_sem, k1, ringC_ren, es_ren, rm_ren]; rfl))) | (apply TailK.go; (focus (simp (maxSteps := 9999999) (disch := omega) only [go_sem, k1, ringC_ren, es_ren, rm_ren]; rfl))) | refine AWpA.skip ?_ | refine AWpA.exit ?_ | refine AWpA.ret ?_ | (with_reducible refine ARoundsA.succ ?_) | ((first | refine Runs.kt (by assumption) (fun h9 => ?_) | refine Runs.kf (by assumption) (fun h9 => ?_) | refine Runs.nt (by assumption) (fun h9 => ?_) | refine Runs.nf (by assumption) (fun h9 => ?_) | refine CondP.ht (by assumption) (fun h9 => ?_) | refine CondP.hf (by assumption) (fun h9 => ?_) | refine CondP.nt (by assumption) (fun h9 => ?_) | refine CondP.nf (by assumption) (fun h9 => ?_)); (try simp only [h9]); clear h9) | ((first | (with_reducible apply CallG.plain1 [0, 1, 2] (c2)) | (with_reducible apply CallG.draw1 [0, 1, 2] (c2))); (focus ((try refine And.intro (leAs_of_eq rfl) ?_); (try refine And.intro (leOL_of_eq rfl) ?_); simp (maxSteps := 9999999) (disch := omega) only [go_sem, k1, ringC_ren, es_ren, rm_ren]; first | done | (repeat' (first | rfl | (refine And.intro ?_ ?_))))); (focus (simp (maxSteps := 9999999) (disch := omega) only [go_sem, k1, ringC_ren, es_ren, rm_ren]; rfl)))); (try simp (maxSteps := 9999999) (disch := omega) only [go_sem, k1, ringC_ren, es_ren, rm_ren]); (try (refine And.intro ?_ ?_; (focus (first | omega | (simp only [go_sem]; done) | (simp; done) | (simp; omega) | assumption))))) | ((first | refine CondP.split (fun hif => ?_) (fun hif => ?_) | refine Runs.part (fun hif => ?_) (fun hif => ?_)) <;> ((try simp only [hif]); (try simp only [decide_eq_true_eq, decide_eq_false_iff_not, Bool.not_eq_true, Bool.not_eq_false, Bool.not_eq_true', Bool.not_eq_false', beq_iff_eq, bne_iff_ne, bne_eq_false_iff_eq, beq_eq_false_iff_ne, ne_eq, Bool.and_eq_true, Bool.or_eq_true, Bool.or_eq_false_iff] at hif); (try (have h9 : _ = true := hif; simp only [h9])); (try (have h9 : _ = false := hif; simp only [h9])); (try simp (maxSteps := 9999999) (disch := omega) only [go_sem, k1, ringC_ren, es_ren, rm_ren]); (try (refine And.intro ?_ ?_; (focus (first | omega | (simp only [go_sem]; done) | (simp; done) | (simp; omega) | assumption)))); (try (exfalso; omega; done))))))
    (apply Back.to (i + 1, s2) [0, 1, 2, 3]; (focus ((try simp (maxSteps := 9999999) (disch := omega) only [go_sem, ringC_ren, es_ren, rm_ren]); first | done | omega)); rotate_left; (focus (simp (maxSteps := 9999999) (disch := omega) only [go_sem, ringC_ren, es_ren, rm_ren]; (try (repeat' (first | done | trivial | rfl | exact leAs_rfl _ | decide | (refine And.intro ?_ ?_) | (simp; done) | omega | (simp; decide)))))))
    exact ⟨by simp only; omega, hok2, hrm2, hws2⟩
  obtain rfl : i = n := by omega
  have k1 : ((i : Int) < (i : Int)) = False := eq_false (by omega)
  rw [lastN_news] at hws
  (try simp (maxSteps := 9999999) (disch := omega) only [go_sem])
  (repeat' (first | refine AWpA.seq ?_ | refine AWpA.block ?_ | (with_reducible refine CondP.tt ?_) | (with_reducible refine CondP.ff ?_) | refine AWpA.condv (by simp (maxSteps := 9999999) (disch := omega) only [go_sem, k1, ringC_ren, es_ren, rm_ren]; rfl) ?_ | ((first | (apply AWpA.region; (focus (simp (maxSteps := 9999999) (disch := omega) only [go_sem, k1, ringC_ren, es_ren, rm_ren]; rfl))) | (apply AWpA.draw [] [] follows; (focus (first | rfl | decide)); (focus (simp (maxSteps := 9999999) (disch := omega) only [go_sem, k1, ringC_ren, es_ren, rm_ren]; rfl)); (focus (simp (maxSteps := 9999999) (disch := omega) only [go_sem, k1, ringC_ren, es_ren, rm_ren]; first | done | trivial)); (focus (simp (maxSteps := 9999999) (disch := omega) only [go_sem, k1, ringC_ren, es_ren, rm_ren]; rfl))) | (apply TailK.go; (focus (simp (maxSteps := 9999999) (disch := omega) only [go_sem, k1, ringC_ren, es_ren, rm_ren]; rfl))) | refine AWpA.skip ?_ | refine AWpA.exit ?_ | refine AWpA.ret ?_ | (with_reducible refine ARoundsA.succ ?_) | ((first | refine Runs.kt (by assumption) (fun h9 => ?_) | refine Runs.kf (by assumption) (fun h9 => ?_) | refine Runs.nt (by assumption) (fun h9 => ?_) | refine Runs.nf (by assumption) (fun h9 => ?_) | refine CondP.ht (by assumption) (fun h9 => ?_) | refine CondP.hf (by assumption) (fun h9 => ?_) | refine CondP.nt (by assumption) (fun h9 => ?_) | refine CondP.nf (by assumption) (fun h9 => ?_)); (try simp only [h9]); clear h9)); (try simp (maxSteps := 9999999) (disch := omega) only [go_sem, k1, ringC_ren, es_ren, rm_ren]); (try (refine And.intro ?_ ?_; (focus (first | omega | (simp only [go_sem]; done) | (simp; done) | (simp; omega) | assumption))))) | ((first | refine CondP.split (fun hif => ?_) (fun hif => ?_) | refine Runs.part (fun hif => ?_) (fun hif => ?_)) <;> ((try simp only [hif]); (try simp only [decide_eq_true_eq, decide_eq_false_iff_not, Bool.not_eq_true, Bool.not_eq_false, Bool.not_eq_true', Bool.not_eq_false', beq_iff_eq, bne_iff_ne, bne_eq_false_iff_eq, beq_eq_false_iff_ne, ne_eq, Bool.and_eq_true, Bool.or_eq_true, Bool.or_eq_false_iff] at hif); (try (have h9 : _ = true := hif; simp only [h9])); (try (have h9 : _ = false := hif; simp only [h9])); (try simp (maxSteps := 9999999) (disch := omega) only [go_sem, k1, ringC_ren, es_ren, rm_ren]); (try (refine And.intro ?_ ?_; (focus (first | omega | (simp only [go_sem]; done) | (simp; done) | (simp; omega) | assumption)))); (try (exfalso; omega; done))))))
  clear k1 hin hi
  (apply AWpA.loopL (fun j : Nat => [(5, I i), (6, .ptr 0 0), (85, .sl 3 0 w.length 3 none), (86, I w.length), (87, I j)]) (fun j => [SnO 1 2 false s, .cells false (ringC s), .map false (EsM s.mp), .cells false (Rm 0 w)]) (fun j => w.length - j) (fun j => j ≤ w.length) (0) [0, 1, 2, 3]; rotate_left; (focus (simp (maxSteps := 9999999) (disch := omega) only [go_sem, rm_ren, ringC_ren, es_ren]; (try (repeat' (first | done | trivial | rfl | exact leAs_rfl _ | decide | (refine And.intro ?_ ?_) | (simp; done) | omega | (simp; decide)))))); rotate_right)
  · exact Nat.zero_le _
  rintro j hj
  (try simp only at hj)
  by_cases hin : j < w.length
  · have k1 : ((j : Int) < (w.length : Int)) = True := eq_true (by omega)
    have hat := rm_getD hin
    have hk := hwk _ (List.getElem_mem hin)
    generalize w[j] = x at *
    have hnx : x ∉ s.ring := fun h => hk (news_key (hws ▸ (allS_mem s x).2 h))
    have c1 := of10_any x
    have c2 := shas_ok hok x
    rw [decide_eq_false hnx] at c2
    (try simp (maxSteps := 9999999) (disch := omega) only [go_sem])
    (repeat' (first | refine AWpA.seq ?_ | refine AWpA.block ?_ | (with_reducible refine CondP.tt ?_) | (with_reducible refine CondP.ff ?_) | refine AWpA.condv (by simp (maxSteps := 9999999) (disch := omega) only [go_sem, k1, hwlen, hat, ringC_ren, es_ren, rm_ren]; rfl) ?_ | ((first | (apply AWpA.region; (focus (simp (maxSteps := 9999999) (disch := omega) only [go_sem, k1, hwlen, hat, ringC_ren, es_ren, rm_ren]; rfl))) | (apply AWpA.draw [] [] follows; (focus (first | rfl | decide)); (focus (simp (maxSteps := 9999999) (disch := omega) only [go_sem, k1, hwlen, hat, ringC_ren, es_ren, rm_ren]; rfl)); (focus (simp (maxSteps := 9999999) (disch := omega) only [go_sem, k1, hwlen, hat, ringC_ren, es_ren, rm_ren]; first | done | trivial)); (focus (simp (maxSteps := 9999999) (disch := omega) only [go_sem, k1, hwlen, hat, ringC_ren, es_ren, rm_ren]; rfl))) | (apply TailK.go; (focus (simp (maxSteps := 9999999) (disch := omega) only [go_sem, k1, hwlen, hat, ringC_ren, es_ren, rm_ren]; rfl))) | refine AWpA.skip ?_ | refine AWpA.exit ?_ | refine AWpA.ret ?_ | (with_reducible refine ARoundsA.succ ?_) | ((first | refine Runs.kt (by assumption) (fun h9 => ?_) | refine Runs.kf (by assumption) (fun h9 => ?_) | refine Runs.nt (by assumption) (fun h9 => ?_) | refine Runs.nf (by assumption) (fun h9 => ?_) | refine CondP.ht (by assumption) (fun h9 => ?_) | refine CondP.hf (by assumption) (fun h9 => ?_) | refine CondP.nt (by assumption) (fun h9 => ?_) | refine CondP.nf (by assumption) (fun h9 => ?_)); (try simp only [h9]); clear h9) | ((first | (with_reducible apply CallG.plain1 [] (c1)) | (with_reducible apply CallG.draw1 [] (c1))); (focus ((try refine And.intro (leAs_of_eq rfl) ?_); (try refine And.intro (leOL_of_eq rfl) ?_); simp (maxSteps := 9999999) (disch := omega) only [go_sem, k1, hwlen, hat, ringC_ren, es_ren, rm_ren]; first | done | (repeat' (first | rfl | (refine And.intro ?_ ?_))))); (focus (simp (maxSteps := 9999999) (disch := omega) only [go_sem, k1, hwlen, hat, ringC_ren, es_ren, rm_ren]; rfl))) | ((first | (with_reducible apply CallG.plain1 [0, 2] (c2)) | (with_reducible apply CallG.draw1 [0, 2] (c2))); (focus ((try refine And.intro (leAs_of_eq rfl) ?_); (try refine And.intro (leOL_of_eq rfl) ?_); simp (maxSteps := 9999999) (disch := omega) only [go_sem, k1, hwlen, hat, ringC_ren, es_ren, rm_ren]; first | done | (repeat' (first | rfl | (refine And.intro ?_ ?_))))); (focus (simp (maxSteps := 9999999) (disch := omega) only [go_sem, k1, hwlen, hat, ringC_ren, es_ren, rm_ren]; rfl)))); (try simp (maxSteps := 9999999) (disch := omega) only [go_sem, k1, hwlen, hat, ringC_ren, es_ren, rm_ren]); (try (refine And.intro ?_ ?_; (focus (first | omega | (simp only [go_sem]; done) | (simp; done) | (simp; omega) | assumption))))) | ((first | refine CondP.split (fun hif => ?_) (fun hif => ?_) | refine Runs.part (fun hif => ?_) (fun hif => ?_)) <;> ((try simp only [hif]); (try simp only [decide_eq_true_eq, decide_eq_false_iff_not, Bool.not_eq_true, Bool.not_eq_false, Bool.not_eq_true', Bool.not_eq_false', beq_iff_eq, bne_iff_ne, bne_eq_false_iff_eq, beq_eq_false_iff_ne, ne_eq, Bool.and_eq_true, Bool.or_eq_true, Bool.or_eq_false_iff] at hif); (try (have h9 : _ = true := hif; simp only [h9])); (try (have h9 : _ = false := hif; simp only [h9])); (try simp (maxSteps := 9999999) (disch := omega) only [go_sem, k1, hwlen, hat, ringC_ren, es_ren, rm_ren]); (try (refine And.intro ?_ ?_; (focus (first | omega | (simp only [go_sem]; done) | (simp; done) | (simp; omega) | assumption)))); (try (exfalso; omega; done))))))
    (apply Back.to (j + 1) [0, 1, 2, 3]; (focus ((try simp (maxSteps := 9999999) (disch := omega) only [go_sem, ringC_ren, es_ren, rm_ren]); first | done | omega)); rotate_left; (focus (simp (maxSteps := 9999999) (disch := omega) only [go_sem, ringC_ren, es_ren, rm_ren]; (try (repeat' (first | done | trivial | rfl | exact leAs_rfl _ | decide | (refine And.intro ?_ ?_) | (simp; done) | omega | (simp; decide)))))))
    omega
  obtain rfl : j = w.length := by omega
  have k1 : ((w.length : Int) < (w.length : Int)) = False := eq_false (by omega)
  have c3 := slen_any s
  have hrl : s.ring.length = i := by rw [← allS_len, hws, news_len]
  have g9 : ((s.ring.length : Int) == (i : Int)) = true := by simp [hrl]
  (try simp (maxSteps := 9999999) (disch := omega) only [go_sem])
  (repeat' (first | refine AWpA.seq ?_ | refine AWpA.block ?_ | (with_reducible refine CondP.tt ?_) | (with_reducible refine CondP.ff ?_) | refine AWpA.condv (by simp (maxSteps := 9999999) (disch := omega) only [go_sem, k1, g9, ringC_ren, es_ren, rm_ren]; rfl) ?_ | ((first | (apply AWpA.region; (focus (simp (maxSteps := 9999999) (disch := omega) only [go_sem, k1, g9, ringC_ren, es_ren, rm_ren]; rfl))) | (apply AWpA.draw [] [] follows; (focus (first | rfl | decide)); (focus (simp (maxSteps := 9999999) (disch := omega) only [go_sem, k1, g9, ringC_ren, es_ren, rm_ren]; rfl)); (focus (simp (maxSteps := 9999999) (disch := omega) only [go_sem, k1, g9, ringC_ren, es_ren, rm_ren]; first | done | trivial)); (focus (simp (maxSteps := 9999999) (disch := omega) only [go_sem, k1, g9, ringC_ren, es_ren, rm_ren]; rfl))) | (apply TailK.go; (focus (simp (maxSteps := 9999999) (disch := omega) only [go_sem, k1, g9, ringC_ren, es_ren, rm_ren]; rfl))) | refine AWpA.skip ?_ | refine AWpA.exit ?_ | refine AWpA.ret ?_ | (with_reducible refine ARoundsA.succ ?_) | ((first | refine Runs.kt (by assumption) (fun h9 => ?_) | refine Runs.kf (by assumption) (fun h9 => ?_) | refine Runs.nt (by assumption) (fun h9 => ?_) | refine Runs.nf (by assumption) (fun h9 => ?_) | refine CondP.ht (by assumption) (fun h9 => ?_) | refine CondP.hf (by assumption) (fun h9 => ?_) | refine CondP.nt (by assumption) (fun h9 => ?_) | refine CondP.nf (by assumption) (fun h9 => ?_)); (try simp only [h9]); clear h9) | ((first | (with_reducible apply CallG.plain1 [0, 1, 2] (c3)) | (with_reducible apply CallG.draw1 [0, 1, 2] (c3))); (focus ((try refine And.intro (leAs_of_eq rfl) ?_); (try refine And.intro (leOL_of_eq rfl) ?_); simp (maxSteps := 9999999) (disch := omega) only [go_sem, k1, g9, ringC_ren, es_ren, rm_ren]; first | done | (repeat' (first | rfl | (refine And.intro ?_ ?_))))); (focus (simp (maxSteps := 9999999) (disch := omega) only [go_sem, k1, g9, ringC_ren, es_ren, rm_ren]; rfl)))); (try simp (maxSteps := 9999999) (disch := omega) only [go_sem, k1, g9, ringC_ren, es_ren, rm_ren]); (try (refine And.intro ?_ ?_; (focus (first | omega | (simp only [go_sem]; done) | (simp; done) | (simp; omega) | assumption))))) | ((first | refine CondP.split (fun hif => ?_) (fun hif => ?_) | refine Runs.part (fun hif => ?_) (fun hif => ?_)) <;> ((try simp only [hif]); (try simp only [decide_eq_true_eq, decide_eq_false_iff_not, Bool.not_eq_true, Bool.not_eq_false, Bool.not_eq_true', Bool.not_eq_false', beq_iff_eq, bne_iff_ne, bne_eq_false_iff_eq, beq_eq_false_iff_ne, ne_eq, Bool.and_eq_true, Bool.or_eq_true, Bool.or_eq_false_iff] at hif); (try (have h9 : _ = true := hif; simp only [h9])); (try (have h9 : _ = false := hif; simp only [h9])); (try simp (maxSteps := 9999999) (disch := omega) only [go_sem, k1, g9, ringC_ren, es_ren, rm_ren]); (try (refine And.intro ?_ ?_; (focus (first | omega | (simp only [go_sem]; done) | (simp; done) | (simp; omega) | assumption)))); (try (exfalso; omega; done))))))
  (refine TopPost.of (by first | exact .inl rfl | exact .inr rfl) (by (try simp (maxSteps := 9999999) (disch := omega) only [go_sem]); rfl) ?_; (try simp (maxSteps := 9999999) (disch := omega) only [go_sem]); (try (first | trivial | decide | (simp; done))))
end Go.Proofs.Ytjcjmeeajkdlhaa
