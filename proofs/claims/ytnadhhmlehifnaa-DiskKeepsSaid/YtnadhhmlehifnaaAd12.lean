/- The walk of DiskKeeps. -/
import Derived.Test.YtnadhhmlehifnaaAd10
namespace Go.Proofs.Ytnadhhmlehifnaa
set_option linter.unusedSimpArgs false
set_option linter.unusedVariables false
set_option maxHeartbeats 4000000
open Go Go.Am Go.RowKit Go.ChangeShapes Go.WideShapes Go.ChangeAt
set_option maxRecDepth 100000
/-- What is done with a disk behind a crash. -/
def sinD (d : Dk) (k n : Int) (b : List Int) : Dk :=
  if k = 0 then doD d (appW d b.length) (appF b) else if k = 1 then doD d 0 syncF else if k = 3 then { d with left := if -1 > n then -1 else n } else if k = 4 then crashF d n else d
/-- What was safe is there. -/
structure Held (w : List Int) (d : Dk) : Prop where
  s : w.length ≤ d.s
  l : d.l.take w.length = w
theorem Held.app {w : List Int} {d : Dk} (h : Held w d) (hok : d.ok) (b : List Int) : Held w (appF b d) := by
  refine ⟨h.s, ?_⟩
  have := hok.s
  have := h.s
  simp only [appF]
  rw [List.take_append_of_le_length (by omega)]
  exact h.l
theorem sinD_ok {d : Dk} (h : d.ok) (k n : Int) (b : List Int) (hn : n ≤ 9223372036854775807) : (sinD d k n b).ok := by
  have e : sinD d k n b = actD d k n b ∨ sinD d k n b = d := by
    unfold sinD actD
    by_cases h0 : k = 0
    · simp [h0]
    by_cases h1 : k = 1
    · simp [h1]
    by_cases h3 : k = 3
    · simp [h3]
    by_cases h4 : k = 4
    · simp [h4]
    simp [h0, h1, h3, h4]
  rcases e with e | e <;> rw [e]
  · exact actD_ok h k n b hn
  · exact h
theorem sinD_held {w : List Int} {d : Dk} (hh : Held w d) (h : d.ok) (k n : Int) (b : List Int) : Held w (sinD d k n b) := by
  have h1 := h.s
  have h2 := hh.s
  have hdo : ∀ (wr : Int) (f : Dk → Dk), (∀ d' : Dk, d'.l = d.l → d'.s = d.s → Held w (f d')) → Held w (doD d wr f) := by
    intro wr f hf
    rcases doD_cases d wr f with ⟨_, e, _⟩ | ⟨_, _, e, _⟩ | ⟨_, _, _, e, _⟩ | ⟨_, _, _, e, _⟩ <;> rw [e]
    · exact hh
    · exact hh
    · exact ⟨hh.s, hh.l⟩
    · exact hf _ rfl rfl
  unfold sinD
  split
  · refine hdo _ _ fun d' e1 e2 => ⟨by simp only [appF, e2]; exact h2, ?_⟩
    simp only [appF, e1]
    rw [List.take_append_of_le_length (by omega)]
    exact hh.l
  split
  · exact hdo _ _ fun d' e1 e2 => ⟨by simp only [syncF, e1]; omega, by simp only [syncF, e1]; exact hh.l⟩
  split
  · exact ⟨hh.s, hh.l⟩
  split
  · refine ⟨by simp only [crashF]; omega, ?_⟩
    simp only [crashF]
    rw [List.take_take, Nat.min_eq_left (by omega)]
    exact hh.l
  · exact hh
/- quidnunc/quidnunclaw06.DiskKeeps -/
noncomputable def c5_1 : ACode := .region false [⟨some 6, .move, [.c (.val (.bool false))], none⟩] [] [] [0, 1, 2] false [] []
noncomputable def c5_4 : ACode := .region false [⟨some 17, .call 13, [], none⟩,
  ⟨some 18, .un .not, [.t 17], none⟩,
  ⟨some 19, .move, [.t 18], none⟩,
  ⟨some 20, .move, [.t 0], some (some 19, false)⟩,
  ⟨some 21, .call 22, [.t 20], some (some 19, false)⟩,
  ⟨some 22, .un .not, [.t 21], some (some 19, false)⟩,
  ⟨some 23, .pick, [.t 19, .c (.val (.bool true)), .t 22], none⟩,
  ⟨some 24, .move, [.t 23], none⟩,
  ⟨some 25, .move, [.t 1], some (some 24, false)⟩,
  ⟨some 26, .call 22, [.t 25], some (some 24, false)⟩,
  ⟨some 27, .un .not, [.t 26], some (some 24, false)⟩,
  ⟨some 28, .pick, [.t 24, .c (.val (.bool true)), .t 27], none⟩] [] [] [0, 1, 2, 28] true [] []
noncomputable def c5_7 : ACode := .region false [⟨some 29, .call 13, [], none⟩,
  ⟨some 6, .move, [.t 29], none⟩] [] [] [6] true [] []
noncomputable def c5_6 : ACode := .seq c5_7 .ret
noncomputable def c5_5 : ACode := .cond (.t 28) c5_6 .skip
noncomputable def c5_3 : ACode := .seq c5_4 c5_5
noncomputable def c5_9 : ACode := .region false [⟨some 30, .call 14, [], none⟩,
  ⟨some 7, .move, [.t 30], none⟩] [] [] [0, 1, 2, 7] true [] []
noncomputable def c5_11 : ACode := .region false [⟨some 31, .call 23, [], none⟩,
  ⟨some 8, .alloc [(.slice none 0 0), (.int .i64 0), (.bool false), (.int .i64 0)], [], none⟩,
  ⟨none, .store 4, [.t 8, .t 31], none⟩] [] [] [0, 1, 2, 7, 8] true [] []
noncomputable def c5_14 : ACode := .region false [⟨some 32, .move, [.t 0], none⟩,
  ⟨some 33, .len, [.t 32], none⟩,
  ⟨some 34, .move, [.c (.val (.int .i64 0))], none⟩] [] [] [0, 1, 2, 7, 8, 32, 33, 34] false [] []
noncomputable def c5_18 : ACode := .region false [⟨some 35, .bin .lss, [.t 34, .t 33], none⟩] [] [] [0, 1, 2, 7, 8, 32, 33, 34, 35] false [] []
noncomputable def c5_20 : ACode := .cond (.t 35) .skip (.exit 0)
noncomputable def c5_24 : ACode := .region false [⟨some 36, .ixS 3, [.t 32, .t 34], none⟩,
  ⟨some 37, .load true 3, [.t 36], none⟩,
  ⟨some 10, .alloc [(.int .i64 0), (.int .i64 0), (.slice none 0 0)], [], none⟩,
  ⟨none, .store 3, [.t 10, .t 37], none⟩] [] [] [0, 1, 2, 7, 8, 10, 32, 33, 34] true [] []
noncomputable def c5_25 : ACode := .region false [⟨some 39, .move, [.t 7], none⟩,
  ⟨some 40, .load true 4, [.t 8], none⟩,
  ⟨some 41, .load true 3, [.t 10], none⟩,
  ⟨some 42, .call 24, [.t 39, .t 40, .t 41], none⟩,
  ⟨some 38, .move, [.t 42], none⟩,
  ⟨some 43, .ext 0, [.t 38], none⟩,
  ⟨some 44, .ext 1, [.t 38], none⟩,
  ⟨none, .store 4, [.t 8, .t 43], none⟩] [] [] [0, 1, 2, 7, 8, 32, 33, 34] true [] []
noncomputable def c5_23 : ACode := .seq c5_24 c5_25
noncomputable def c5_22 : ACode := .block 1 c5_23
noncomputable def c5_26 : ACode := .region false [⟨some 45, .bin .add, [.t 34, .c (.val (.int .i64 1))], none⟩,
  ⟨some 34, .move, [.t 45], none⟩] [] [] [0, 1, 2, 7, 8, 32, 33, 34] false [] []
noncomputable def c5_21 : ACode := .seq c5_22 c5_26
noncomputable def c5_19 : ACode := .seq c5_20 c5_21
noncomputable def c5_17 : ACode := .seq c5_18 c5_19
noncomputable def c5_16 : ACode := .loop c5_17
noncomputable def c5_15 : ACode := .block 0 c5_16
noncomputable def c5_13 : ACode := .seq c5_14 c5_15
noncomputable def c5_28 : ACode := .region false [⟨some 46, .move, [.t 7], none⟩,
  ⟨some 47, .move, [.t 0], none⟩,
  ⟨some 48, .len, [.t 47], none⟩,
  ⟨some 49, .call 21, [.t 46, .t 48], none⟩] [] [] [1, 2, 7] true [] []
noncomputable def c5_30 : ACode := .region false [⟨some 51, .move, [.t 7], none⟩,
  ⟨some 52, .call 19, [.t 51], none⟩,
  ⟨some 50, .move, [.t 52], none⟩,
  ⟨some 53, .ext 0, [.t 50], none⟩,
  ⟨some 54, .ext 1, [.t 50], none⟩,
  ⟨some 11, .move, [.t 53], none⟩,
  ⟨some 12, .move, [.t 54], none⟩] [] [] [1, 2, 7, 11, 12] true [] []
noncomputable def c5_33 : ACode := .region false [⟨some 55, .move, [.t 12], none⟩,
  ⟨some 56, .bin .neq, [.t 55, .c (.val (.int .i64 0))], none⟩,
  ⟨some 57, .move, [.t 56], none⟩,
  ⟨some 58, .move, [.t 7], some (some 57, false)⟩,
  ⟨some 59, .call 18, [.t 58], some (some 57, false)⟩,
  ⟨some 60, .move, [.t 11], some (some 57, false)⟩,
  ⟨some 61, .len, [.t 60], some (some 57, false)⟩,
  ⟨some 62, .bin .neq, [.t 59, .t 61], some (some 57, false)⟩,
  ⟨some 63, .pick, [.t 57, .c (.val (.bool true)), .t 62], none⟩] [] [] [1, 2, 7, 11, 63] true [] []
noncomputable def c5_36 : ACode := .region false [⟨some 6, .move, [.c (.val (.bool false))], none⟩] [] [] [6] false [] []
noncomputable def c5_35 : ACode := .seq c5_36 .ret
noncomputable def c5_34 : ACode := .cond (.t 63) c5_35 .skip
noncomputable def c5_32 : ACode := .seq c5_33 c5_34
noncomputable def c5_39 : ACode := .region false [⟨some 64, .move, [.t 1], none⟩,
  ⟨some 65, .len, [.t 64], none⟩,
  ⟨some 66, .move, [.c (.val (.int .i64 0))], none⟩] [] [] [2, 7, 11, 64, 65, 66] false [] []
noncomputable def c5_43 : ACode := .region false [⟨some 67, .bin .lss, [.t 66, .t 65], none⟩] [] [] [2, 7, 11, 64, 65, 66, 67] false [] []
noncomputable def c5_45 : ACode := .cond (.t 67) .skip (.exit 2)
noncomputable def c5_49 : ACode := .region false [⟨some 68, .ixS 3, [.t 64, .t 66], none⟩,
  ⟨some 69, .load true 3, [.t 68], none⟩,
  ⟨some 14, .alloc [(.int .i64 0), (.int .i64 0), (.slice none 0 0)], [], none⟩,
  ⟨none, .store 3, [.t 14, .t 69], none⟩] [] [] [2, 7, 11, 14, 64, 65, 66] true [] []
noncomputable def c5_51 : ACode := .region false [⟨some 70, .addr 0, [.t 14], none⟩,
  ⟨some 71, .load false 1, [.t 70], none⟩] [] [] [2, 7, 11, 14, 64, 65, 66, 71] false [] []
noncomputable def c5_54 : ACode := .region false [⟨some 73, .bin .eql, [.t 71, .c (.val (.int .i64 0))], none⟩,
  ⟨some 72, .move, [.t 73], none⟩] [] [] [2, 7, 11, 14, 64, 65, 66, 71, 72] false [] []
noncomputable def c5_56 : ACode := .region false [⟨some 74, .move, [.t 7], none⟩,
  ⟨some 75, .addr 2, [.t 14], none⟩,
  ⟨some 76, .load false 1, [.t 75], none⟩,
  ⟨some 77, .call 15, [.t 74, .t 76], none⟩] [] [] [2, 7, 11, 64, 65, 66] true [] []
noncomputable def c5_58 : ACode := .region false [⟨some 79, .bin .eql, [.t 71, .c (.val (.int .i64 1))], none⟩,
  ⟨some 78, .move, [.t 79], none⟩] [] [] [2, 7, 11, 14, 64, 65, 66, 71, 78] false [] []
noncomputable def c5_60 : ACode := .region false [⟨some 80, .move, [.t 7], none⟩,
  ⟨some 81, .call 17, [.t 80], none⟩] [] [] [2, 7, 11, 64, 65, 66] true [] []
noncomputable def c5_62 : ACode := .region false [⟨some 83, .bin .eql, [.t 71, .c (.val (.int .i64 3))], none⟩,
  ⟨some 82, .move, [.t 83], none⟩] [] [] [2, 7, 11, 14, 64, 65, 66, 71, 82] false [] []
noncomputable def c5_64 : ACode := .region true [⟨some 84, .move, [.t 7], none⟩,
  ⟨some 85, .nilChk, [.t 84], none⟩,
  ⟨some 86, .addr 0, [.t 85], none⟩,
  ⟨some 87, .addr 1, [.t 14], none⟩,
  ⟨some 88, .load false 1, [.t 87], none⟩,
  ⟨some 89, .call 25, [.t 86, .t 88], none⟩] [] [] [2, 7, 11, 64, 65, 66] true [] []
noncomputable def c5_66 : ACode := .region false [⟨some 91, .bin .eql, [.t 71, .c (.val (.int .i64 4))], none⟩,
  ⟨some 90, .move, [.t 91], none⟩] [] [] [2, 7, 11, 14, 64, 65, 66, 90] false [] []
noncomputable def c5_68 : ACode := .region false [⟨some 92, .move, [.t 7], none⟩,
  ⟨some 93, .addr 1, [.t 14], none⟩,
  ⟨some 94, .load false 1, [.t 93], none⟩,
  ⟨some 95, .call 21, [.t 92, .t 94], none⟩] [] [] [2, 7, 11, 64, 65, 66] true [] []
noncomputable def c5_67 : ACode := .cond (.t 90) c5_68 .skip
noncomputable def c5_65 : ACode := .seq c5_66 c5_67
noncomputable def c5_63 : ACode := .cond (.t 82) c5_64 c5_65
noncomputable def c5_61 : ACode := .seq c5_62 c5_63
noncomputable def c5_59 : ACode := .cond (.t 78) c5_60 c5_61
noncomputable def c5_57 : ACode := .seq c5_58 c5_59
noncomputable def c5_55 : ACode := .cond (.t 72) c5_56 c5_57
noncomputable def c5_53 : ACode := .seq c5_54 c5_55
noncomputable def c5_52 : ACode := .block 4 c5_53
noncomputable def c5_50 : ACode := .seq c5_51 c5_52
noncomputable def c5_48 : ACode := .seq c5_49 c5_50
noncomputable def c5_47 : ACode := .block 3 c5_48
noncomputable def c5_69 : ACode := .region false [⟨some 96, .bin .add, [.t 66, .c (.val (.int .i64 1))], none⟩,
  ⟨some 66, .move, [.t 96], none⟩] [] [] [2, 7, 11, 64, 65, 66] false [] []
noncomputable def c5_46 : ACode := .seq c5_47 c5_69
noncomputable def c5_44 : ACode := .seq c5_45 c5_46
noncomputable def c5_42 : ACode := .seq c5_43 c5_44
noncomputable def c5_41 : ACode := .loop c5_42
noncomputable def c5_40 : ACode := .block 2 c5_41
noncomputable def c5_38 : ACode := .seq c5_39 c5_40
noncomputable def c5_71 : ACode := .region false [⟨some 97, .move, [.t 7], none⟩,
  ⟨some 98, .move, [.t 2], none⟩,
  ⟨some 99, .call 21, [.t 97, .t 98], none⟩] [] [] [7, 11] true [] []
noncomputable def c5_73 : ACode := .region false [⟨some 101, .move, [.t 7], none⟩,
  ⟨some 102, .call 19, [.t 101], none⟩,
  ⟨some 100, .move, [.t 102], none⟩,
  ⟨some 103, .ext 0, [.t 100], none⟩,
  ⟨some 104, .ext 1, [.t 100], none⟩,
  ⟨some 15, .move, [.t 103], none⟩,
  ⟨some 16, .move, [.t 104], none⟩] [] [] [7, 11, 15, 16] true [] []
noncomputable def c5_75 : ACode := .region true [⟨some 105, .move, [.t 16], none⟩,
  ⟨some 106, .bin .eql, [.t 105, .c (.val (.int .i64 0))], none⟩,
  ⟨some 107, .move, [.t 106], none⟩,
  ⟨some 108, .move, [.t 15], some (some 107, true)⟩,
  ⟨some 109, .len, [.t 108], some (some 107, true)⟩,
  ⟨some 110, .move, [.t 11], some (some 107, true)⟩,
  ⟨some 111, .len, [.t 110], some (some 107, true)⟩,
  ⟨some 112, .bin .geq, [.t 109, .t 111], some (some 107, true)⟩,
  ⟨some 113, .pick, [.t 107, .t 112, .c (.val (.bool false))], none⟩,
  ⟨some 114, .move, [.t 113], none⟩,
  ⟨some 115, .move, [.t 15], some (some 114, true)⟩,
  ⟨some 116, .move, [.t 11], some (some 114, true)⟩,
  ⟨some 117, .len, [.t 116], some (some 114, true)⟩,
  ⟨some 118, .slS 1 false true false, [.t 115, .t 117], some (some 114, true)⟩,
  ⟨some 119, .toStr, [.t 118], some (some 114, true)⟩,
  ⟨some 120, .move, [.t 11], some (some 114, true)⟩,
  ⟨some 121, .toStr, [.t 120], some (some 114, true)⟩,
  ⟨some 122, .bin .eql, [.t 119, .t 121], some (some 114, true)⟩,
  ⟨some 123, .pick, [.t 114, .t 122, .c (.val (.bool false))], none⟩,
  ⟨some 124, .move, [.t 123], none⟩,
  ⟨some 125, .move, [.t 7], some (some 124, true)⟩,
  ⟨some 126, .nilChk, [.t 125], some (some 124, true)⟩,
  ⟨some 127, .addr 0, [.t 126], some (some 124, true)⟩,
  ⟨some 128, .call 26, [.t 127], some (some 124, true)⟩,
  ⟨some 129, .pick, [.t 124, .t 128, .c (.val (.bool false))], none⟩,
  ⟨some 6, .move, [.t 129], none⟩] [] [] [6] true [] []
noncomputable def c5_74 : ACode := .seq c5_75 .ret
noncomputable def c5_72 : ACode := .seq c5_73 c5_74
noncomputable def c5_70 : ACode := .seq c5_71 c5_72
noncomputable def c5_37 : ACode := .seq c5_38 c5_70
noncomputable def c5_31 : ACode := .seq c5_32 c5_37
noncomputable def c5_29 : ACode := .seq c5_30 c5_31
noncomputable def c5_27 : ACode := .seq c5_28 c5_29
noncomputable def c5_12 : ACode := .seq c5_13 c5_27
noncomputable def c5_10 : ACode := .seq c5_11 c5_12
noncomputable def c5_8 : ACode := .seq c5_9 c5_10
noncomputable def c5_2 : ACode := .seq c5_3 c5_8
noncomputable def c5_0 : ACode := .seq c5_1 c5_2
noncomputable def code5 : Code := (Try.f5.body).getD .skip
theorem c5_ok : compC Try.prog 130 code5 = some (strip c5_0) := by kernel_rfl
theorem res5_ok : Try.f5.results.toList.mapM (resC Try.prog) = some [(6, none)] := by kernel_rfl
theorem keeps_walk (W : World) (sl sm : Sl AtD) (keep : Int) (hz : Sl.ok W 3 AtD.rep (AtD.ok W) sl) (hz2 : Sl.ok W 3 AtD.rep (AtD.ok W) sm) :
    Calls Try.prog 5 #[.slice sl.ad sl.l.length sl.cap, .slice sm.ad sm.l.length sm.cap, .int .i64 keep] W fun e W' => e = .returned (.bool true) ∧ Below W.heap.size W W' := by
  obtain ⟨ad, off, cap, l⟩ := sl
  obtain ⟨ad2, off2, cap2, m⟩ := sm
  have hall := hz.all
  have hall2 := hz2.all
  obtain ⟨hz, -, hl⟩ := hz
  obtain ⟨hz2, -, hl2⟩ := hz2
  have hl : l.length ≤ 9223372036854775807 := by simpa [maxLen] using hl
  have hl2 : m.length ≤ 9223372036854775807 := by simpa [maxLen] using hl2
  simp only at hz hall hz2 hall2
  have hr := at_ren off l
  have hlen := at_len off l
  have hr2 := at_ren off2 m
  have hlen2 := at_len off2 m
  have hf := fewD_any off l hl
  have hf2 := fewD_any off2 m hl2
  cases hs : fewD l with
  | false =>
    rw [hs] at hf
    refine top_call c5_ok Try.func5 rfl Try.ntmps5 res5_ok [ .val (.slice ad l.length cap), .val (.slice ad2 m.length cap2), I keep] (by simp) (by (repeat' (first | exact VRs_nil' _ | exact VR_val' _ _ | (refine VRs_cons' ?_ ?_) | (refine VR_agg' (by first | rfl | assumption) ?_; first | assumption | simp [Value.oneCell', AtD.rep])))) ?_; try simp (maxSteps := 9999999) (disch := omega) only [go_sem]
    refine AWpA.thawT 0 AtC hz (fun x => by simp [AtD.rep, Sl.rep]) rfl ?_
    (repeat' (first | refine AWpA.seq ?_ | refine AWpA.block ?_ | (with_reducible refine CondP.tt ?_) | (with_reducible refine CondP.ff ?_) | refine AWpA.condv (by simp (maxSteps := 9999999) (disch := omega) only [go_sem, hr]; rfl) ?_ | ((first | (apply AWpA.region; (focus (simp (maxSteps := 9999999) (disch := omega) only [go_sem, hr]; rfl))) | (apply AWpA.draw [] [] follows; (focus (first | rfl | decide)); (focus (simp (maxSteps := 9999999) (disch := omega) only [go_sem, hr]; rfl)); (focus (simp (maxSteps := 9999999) (disch := omega) only [go_sem, hr]; first | done | trivial)); (focus (simp (maxSteps := 9999999) (disch := omega) only [go_sem, hr]; rfl))) | (apply TailK.go; (focus (simp (maxSteps := 9999999) (disch := omega) only [go_sem, hr]; rfl))) | refine AWpA.skip ?_ | refine AWpA.exit ?_ | refine AWpA.ret ?_ | (with_reducible refine ARoundsA.succ ?_) | ((first | refine Runs.kt (by assumption) (fun h9 => ?_) | refine Runs.kf (by assumption) (fun h9 => ?_) | refine Runs.nt (by assumption) (fun h9 => ?_) | refine Runs.nf (by assumption) (fun h9 => ?_) | refine CondP.ht (by assumption) (fun h9 => ?_) | refine CondP.hf (by assumption) (fun h9 => ?_) | refine CondP.nt (by assumption) (fun h9 => ?_) | refine CondP.nf (by assumption) (fun h9 => ?_)); (try simp only [h9]); clear h9) | ((first | (with_reducible apply CallG.plain1 [] (speaks06)) | (with_reducible apply CallG.plain1 [0] (hf)) | (with_reducible apply CallG.draw1 [] (speaks06)) | (with_reducible apply CallG.draw1 [0] (hf))); (focus ((try refine And.intro (leAs_of_eq rfl) ?_); (try refine And.intro (leOL_of_eq rfl) ?_); simp (maxSteps := 9999999) (disch := omega) only [go_sem, hr]; first | done | (repeat' (first | rfl | (refine And.intro ?_ ?_))))); (focus (simp (maxSteps := 9999999) (disch := omega) only [go_sem, hr]; rfl)))); (try simp (maxSteps := 9999999) (disch := omega) only [go_sem, hr]); (try (refine And.intro ?_ ?_; (focus (first | omega | (simp only [go_sem]; done) | (simp; done) | (simp; omega) | assumption))))) | ((first | refine CondP.split (fun hif => ?_) (fun hif => ?_) | refine Runs.part (fun hif => ?_) (fun hif => ?_)) <;> ((try simp only [hif]); (try simp only [decide_eq_true_eq, decide_eq_false_iff_not, Bool.not_eq_true, Bool.not_eq_false, Bool.not_eq_true', Bool.not_eq_false', beq_iff_eq, bne_iff_ne, bne_eq_false_iff_eq, beq_eq_false_iff_ne, ne_eq, Bool.and_eq_true, Bool.or_eq_true, Bool.or_eq_false_iff] at hif); (try (have h9 : _ = true := hif; simp only [h9])); (try (have h9 : _ = false := hif; simp only [h9])); (try simp (maxSteps := 9999999) (disch := omega) only [go_sem, hr]); (try (refine And.intro ?_ ?_; (focus (first | omega | (simp only [go_sem]; done) | (simp; done) | (simp; omega) | assumption)))); (try (exfalso; omega; done))))))
    (refine TopPost.of (by first | exact .inl rfl | exact .inr rfl) (by (try simp (maxSteps := 9999999) (disch := omega) only [go_sem]); rfl) ?_; (try simp (maxSteps := 9999999) (disch := omega) only [go_sem]); (try (first | trivial | decide | (simp; done))))
  | true =>
  cases hs2 : fewD m with
  | false =>
    rw [hs] at hf
    rw [hs2] at hf2
    refine top_call c5_ok Try.func5 rfl Try.ntmps5 res5_ok [ .val (.slice ad l.length cap), .val (.slice ad2 m.length cap2), I keep] (by simp) (by (repeat' (first | exact VRs_nil' _ | exact VR_val' _ _ | (refine VRs_cons' ?_ ?_) | (refine VR_agg' (by first | rfl | assumption) ?_; first | assumption | simp [Value.oneCell', AtD.rep])))) ?_; try simp (maxSteps := 9999999) (disch := omega) only [go_sem]
    refine AWpA.thawT 0 AtC hz (fun x => by simp [AtD.rep, Sl.rep]) rfl ?_
    refine AWpA.thawT 1 AtC hz2 (fun x => by simp [AtD.rep, Sl.rep]) rfl ?_
    (repeat' (first | refine AWpA.seq ?_ | refine AWpA.block ?_ | (with_reducible refine CondP.tt ?_) | (with_reducible refine CondP.ff ?_) | refine AWpA.condv (by simp (maxSteps := 9999999) (disch := omega) only [go_sem, hr, hr2]; rfl) ?_ | ((first | (apply AWpA.region; (focus (simp (maxSteps := 9999999) (disch := omega) only [go_sem, hr, hr2]; rfl))) | (apply AWpA.draw [] [] follows; (focus (first | rfl | decide)); (focus (simp (maxSteps := 9999999) (disch := omega) only [go_sem, hr, hr2]; rfl)); (focus (simp (maxSteps := 9999999) (disch := omega) only [go_sem, hr, hr2]; first | done | trivial)); (focus (simp (maxSteps := 9999999) (disch := omega) only [go_sem, hr, hr2]; rfl))) | (apply TailK.go; (focus (simp (maxSteps := 9999999) (disch := omega) only [go_sem, hr, hr2]; rfl))) | refine AWpA.skip ?_ | refine AWpA.exit ?_ | refine AWpA.ret ?_ | (with_reducible refine ARoundsA.succ ?_) | ((first | refine Runs.kt (by assumption) (fun h9 => ?_) | refine Runs.kf (by assumption) (fun h9 => ?_) | refine Runs.nt (by assumption) (fun h9 => ?_) | refine Runs.nf (by assumption) (fun h9 => ?_) | refine CondP.ht (by assumption) (fun h9 => ?_) | refine CondP.hf (by assumption) (fun h9 => ?_) | refine CondP.nt (by assumption) (fun h9 => ?_) | refine CondP.nf (by assumption) (fun h9 => ?_)); (try simp only [h9]); clear h9) | ((first | (with_reducible apply CallG.plain1 [0] (hf)) | (with_reducible apply CallG.draw1 [0] (hf))); (focus ((try refine And.intro (leAs_of_eq rfl) ?_); (try refine And.intro (leOL_of_eq rfl) ?_); simp (maxSteps := 9999999) (disch := omega) only [go_sem, hr, hr2]; first | done | (repeat' (first | rfl | (refine And.intro ?_ ?_))))); (focus (simp (maxSteps := 9999999) (disch := omega) only [go_sem, hr, hr2]; rfl))) | ((first | (with_reducible apply CallG.plain1 [1] (hf2)) | (with_reducible apply CallG.draw1 [1] (hf2))); (focus ((try refine And.intro (leAs_of_eq rfl) ?_); (try refine And.intro (leOL_of_eq rfl) ?_); simp (maxSteps := 9999999) (disch := omega) only [go_sem, hr, hr2]; first | done | (repeat' (first | rfl | (refine And.intro ?_ ?_))))); (focus (simp (maxSteps := 9999999) (disch := omega) only [go_sem, hr, hr2]; rfl))) | ((first | (with_reducible apply CallG.plain1 [] (speaks06)) | (with_reducible apply CallG.draw1 [] (speaks06))); (focus ((try refine And.intro (leAs_of_eq rfl) ?_); (try refine And.intro (leOL_of_eq rfl) ?_); simp (maxSteps := 9999999) (disch := omega) only [go_sem, hr, hr2]; first | done | (repeat' (first | rfl | (refine And.intro ?_ ?_))))); (focus (simp (maxSteps := 9999999) (disch := omega) only [go_sem, hr, hr2]; rfl)))); (try simp (maxSteps := 9999999) (disch := omega) only [go_sem, hr, hr2]); (try (refine And.intro ?_ ?_; (focus (first | omega | (simp only [go_sem]; done) | (simp; done) | (simp; omega) | assumption))))) | ((first | refine CondP.split (fun hif => ?_) (fun hif => ?_) | refine Runs.part (fun hif => ?_) (fun hif => ?_)) <;> ((try simp only [hif]); (try simp only [decide_eq_true_eq, decide_eq_false_iff_not, Bool.not_eq_true, Bool.not_eq_false, Bool.not_eq_true', Bool.not_eq_false', beq_iff_eq, bne_iff_ne, bne_eq_false_iff_eq, beq_eq_false_iff_ne, ne_eq, Bool.and_eq_true, Bool.or_eq_true, Bool.or_eq_false_iff] at hif); (try (have h9 : _ = true := hif; simp only [h9])); (try (have h9 : _ = false := hif; simp only [h9])); (try simp (maxSteps := 9999999) (disch := omega) only [go_sem, hr, hr2]); (try (refine And.intro ?_ ?_; (focus (first | omega | (simp only [go_sem]; done) | (simp; done) | (simp; omega) | assumption)))); (try (exfalso; omega; done))))))
    (refine TopPost.of (by first | exact .inl rfl | exact .inr rfl) (by (try simp (maxSteps := 9999999) (disch := omega) only [go_sem]); rfl) ?_; (try simp (maxSteps := 9999999) (disch := omega) only [go_sem]); (try (first | trivial | decide | (simp; done))))
  | true =>
  rw [hs] at hf
  rw [hs2] at hf2
  have h60 : l.length ≤ 60 := by simp [fewD] at hs; exact hs.2
  have h100 : ∀ a ∈ l, a.b.l.length ≤ 100 := by simp [fewD] at hs; exact hs.1
  have h100m : ∀ a ∈ m, a.b.l.length ≤ 100 := by simp [fewD] at hs2; exact hs2.1
  clear hs hs2
  refine top_call c5_ok Try.func5 rfl Try.ntmps5 res5_ok [ .val (.slice ad l.length cap), .val (.slice ad2 m.length cap2), I keep] (by simp) (by (repeat' (first | exact VRs_nil' _ | exact VR_val' _ _ | (refine VRs_cons' ?_ ?_) | (refine VR_agg' (by first | rfl | assumption) ?_; first | assumption | simp [Value.oneCell', AtD.rep])))) ?_; try simp (maxSteps := 9999999) (disch := omega) only [go_sem]
  refine AWpA.thawT 0 AtC hz (fun x => by simp [AtD.rep, Sl.rep]) rfl ?_
  refine AWpA.thawT 1 AtC hz2 (fun x => by simp [AtD.rep, Sl.rep]) rfl ?_
  refine AWpA.dummy ?_
  (repeat' (first | refine AWpA.seq ?_ | refine AWpA.block ?_ | (with_reducible refine CondP.tt ?_) | (with_reducible refine CondP.ff ?_) | refine AWpA.condv (by simp (maxSteps := 9999999) (disch := omega) only [go_sem, hr, hr2]; rfl) ?_ | ((first | (apply AWpA.region; (focus (simp (maxSteps := 9999999) (disch := omega) only [go_sem, hr, hr2]; rfl))) | (apply AWpA.draw [] [] follows; (focus (first | rfl | decide)); (focus (simp (maxSteps := 9999999) (disch := omega) only [go_sem, hr, hr2]; rfl)); (focus (simp (maxSteps := 9999999) (disch := omega) only [go_sem, hr, hr2]; first | done | trivial)); (focus (simp (maxSteps := 9999999) (disch := omega) only [go_sem, hr, hr2]; rfl))) | (apply TailK.go; (focus (simp (maxSteps := 9999999) (disch := omega) only [go_sem, hr, hr2]; rfl))) | refine AWpA.skip ?_ | refine AWpA.exit ?_ | refine AWpA.ret ?_ | (with_reducible refine ARoundsA.succ ?_) | ((first | refine Runs.kt (by assumption) (fun h9 => ?_) | refine Runs.kf (by assumption) (fun h9 => ?_) | refine Runs.nt (by assumption) (fun h9 => ?_) | refine Runs.nf (by assumption) (fun h9 => ?_) | refine CondP.ht (by assumption) (fun h9 => ?_) | refine CondP.hf (by assumption) (fun h9 => ?_) | refine CondP.nt (by assumption) (fun h9 => ?_) | refine CondP.nf (by assumption) (fun h9 => ?_)); (try simp only [h9]); clear h9) | ((first | (with_reducible apply CallG.plain1 [0] (hf)) | (with_reducible apply CallG.draw1 [0] (hf))); (focus ((try refine And.intro (leAs_of_eq rfl) ?_); (try refine And.intro (leOL_of_eq rfl) ?_); simp (maxSteps := 9999999) (disch := omega) only [go_sem, hr, hr2]; first | done | (repeat' (first | rfl | (refine And.intro ?_ ?_))))); (focus (simp (maxSteps := 9999999) (disch := omega) only [go_sem, hr, hr2]; rfl))) | ((first | (with_reducible apply CallG.plain1 [1] (hf2)) | (with_reducible apply CallG.draw1 [1] (hf2))); (focus ((try refine And.intro (leAs_of_eq rfl) ?_); (try refine And.intro (leOL_of_eq rfl) ?_); simp (maxSteps := 9999999) (disch := omega) only [go_sem, hr, hr2]; first | done | (repeat' (first | rfl | (refine And.intro ?_ ?_))))); (focus (simp (maxSteps := 9999999) (disch := omega) only [go_sem, hr, hr2]; rfl))) | ((first | (with_reducible apply CallG.plain1 [] (speaks06)) | (with_reducible apply CallG.plain1 [] (dnew_any)) | (with_reducible apply CallG.plain1 [] (rdnew_any)) | (with_reducible apply CallG.draw1 [] (speaks06)) | (with_reducible apply CallG.draw1 [] (dnew_any)) | (with_reducible apply CallG.draw1 [] (rdnew_any))); (focus ((try refine And.intro (leAs_of_eq rfl) ?_); (try refine And.intro (leOL_of_eq rfl) ?_); simp (maxSteps := 9999999) (disch := omega) only [go_sem, hr, hr2]; first | done | (repeat' (first | rfl | (refine And.intro ?_ ?_))))); (focus (simp (maxSteps := 9999999) (disch := omega) only [go_sem, hr, hr2]; rfl)))); (try simp (maxSteps := 9999999) (disch := omega) only [go_sem, hr, hr2]); (try (refine And.intro ?_ ?_; (focus (first | omega | (simp only [go_sem]; done) | (simp; done) | (simp; omega) | assumption))))) | ((first | refine CondP.split (fun hif => ?_) (fun hif => ?_) | refine Runs.part (fun hif => ?_) (fun hif => ?_)) <;> ((try simp only [hif]); (try simp only [decide_eq_true_eq, decide_eq_false_iff_not, Bool.not_eq_true, Bool.not_eq_false, Bool.not_eq_true', Bool.not_eq_false', beq_iff_eq, bne_iff_ne, bne_eq_false_iff_eq, beq_eq_false_iff_ne, ne_eq, Bool.and_eq_true, Bool.or_eq_true, Bool.or_eq_false_iff] at hif); (try (have h9 : _ = true := hif; simp only [h9])); (try (have h9 : _ = false := hif; simp only [h9])); (try simp (maxSteps := 9999999) (disch := omega) only [go_sem, hr, hr2]); (try (refine And.intro ?_ ?_; (focus (first | omega | (simp only [go_sem]; done) | (simp; done) | (simp; omega) | assumption)))); (try (exfalso; omega; done))))))
  (apply AWpA.loopL (fun p : Nat × Dk × List AV => [(0, .sl 0 off l.length 3 none), (1, .sl 5 off2 m.length 3 none), (2, I keep), (7, .ptr 1 0), (8, .ptr 3 0), (32, .sl 0 off l.length 3 none), (33, I l.length), (34, I p.1)]) (fun p => [.cells true (rowsC off AtC l), DkO 2 p.2.1, .cells false (bA p.2.1.l), .cells false [.sl 4 0 p.2.1.l.length 1 none, I (p.2.1.s : Int), Bo p.2.1.off, I p.2.1.left], .cells false p.2.2, .cells true (rowsC off2 AtC m)]) (fun p => l.length - p.1) (fun p => p.1 ≤ l.length ∧ p.2.1.ok ∧ Seg p.2.2 0 p.2.1.l) ((0, ⟨[], 0, false, -1⟩, [])) [0, _, _, _, 2, 1]; rotate_left; (focus (simp (maxSteps := 9999999) (disch := omega) only [go_sem, hr, hr2, bA_nil, List.length_nil]; (try (repeat' (first | done | trivial | rfl | exact leAs_rfl _ | decide | (refine And.intro ?_ ?_) | (simp; done) | omega | (simp; decide)))))); rotate_right)
  · exact ⟨Nat.zero_le _, Dk.ok0, Seg.nil⟩
  rintro ⟨i, d, P⟩ ⟨hi, hok, p⟩
  (try simp only at hi hok p)
  by_cases hin : i < l.length
  · have k1 : ((i : Int) < (l.length : Int)) = True := eq_true (by omega)
    have hat := at_at off l i hin
    have hao := hall _ (List.getElem_mem hin)
    have hab := h100 _ (List.getElem_mem hin)
    generalize l[i] = a at *
    obtain ⟨k, n, ⟨bad, boff, bcap, B⟩⟩ := a
    have hzp := hao.b.fz
    have hn2 : n ≤ 9223372036854775807 := hao.n.2
    simp only at hzp hab
    have s := Seg.rows (off := boff) (l := B) (by omega)
    generalize hQ : rowsC boff (fun n : Int => [.val (.int .u8 n)]) B = Q at s
    have a1 := do_any d hok k n p s
    have hok2 := actD_ok hok k n B hn2
    have hsg := actD_seg p k n B
    cases hw : nwD d k n B with
    | false =>
      have p2 := hsg hw
      rw [hw] at a1
      simp only [cond_false] at a1
      clear hsg
      generalize actD d k n B = d2 at *
      (try simp (maxSteps := 9999999) (disch := omega) only [go_sem])
      (repeat' (first | (refine AWpA.thawO 54 2 (fun n : Int => [.val (.int .u8 n)]) hzp (fun _ => rfl) rfl rfl rfl ?_; (try simp only [hQ, List.set_cons_zero, List.set_cons_succ]); (try simp (maxSteps := 9999999) (disch := omega) only [go_sem, hr, hr2, k1, hlen, hat, p.ren, s.ren])) | refine AWpA.seq ?_ | refine AWpA.block ?_ | (with_reducible refine CondP.tt ?_) | (with_reducible refine CondP.ff ?_) | refine AWpA.condv (by simp (maxSteps := 9999999) (disch := omega) only [go_sem, hr, hr2, k1, hlen, hat, p.ren, s.ren]; rfl) ?_ | ((first | (apply AWpA.region; (focus (simp (maxSteps := 9999999) (disch := omega) only [go_sem, hr, hr2, k1, hlen, hat, p.ren, s.ren]; rfl))) | (apply AWpA.draw [] [] follows; (focus (first | rfl | decide)); (focus (simp (maxSteps := 9999999) (disch := omega) only [go_sem, hr, hr2, k1, hlen, hat, p.ren, s.ren]; rfl)); (focus (simp (maxSteps := 9999999) (disch := omega) only [go_sem, hr, hr2, k1, hlen, hat, p.ren, s.ren]; first | done | trivial)); (focus (simp (maxSteps := 9999999) (disch := omega) only [go_sem, hr, hr2, k1, hlen, hat, p.ren, s.ren]; rfl))) | (apply TailK.go; (focus (simp (maxSteps := 9999999) (disch := omega) only [go_sem, hr, hr2, k1, hlen, hat, p.ren, s.ren]; rfl))) | refine AWpA.skip ?_ | refine AWpA.exit ?_ | refine AWpA.ret ?_ | (with_reducible refine ARoundsA.succ ?_) | ((first | refine Runs.kt (by assumption) (fun h9 => ?_) | refine Runs.kf (by assumption) (fun h9 => ?_) | refine Runs.nt (by assumption) (fun h9 => ?_) | refine Runs.nf (by assumption) (fun h9 => ?_) | refine CondP.ht (by assumption) (fun h9 => ?_) | refine CondP.hf (by assumption) (fun h9 => ?_) | refine CondP.nt (by assumption) (fun h9 => ?_) | refine CondP.nf (by assumption) (fun h9 => ?_)); (try simp only [h9]); clear h9) | ((first | (with_reducible apply CallG.plain1 [1, 2, 4, 86] (a1)) | (with_reducible apply CallG.draw1 [1, 2, 4, 86] (a1))); (focus ((try refine And.intro (leAs_of_eq rfl) ?_); (try refine And.intro (leOL_of_eq rfl) ?_); simp (maxSteps := 9999999) (disch := omega) only [go_sem, hr, hr2, k1, hlen, hat, p.ren, s.ren]; first | done | (repeat' (first | rfl | (refine And.intro ?_ ?_))))); (focus (simp (maxSteps := 9999999) (disch := omega) only [go_sem, hr, hr2, k1, hlen, hat, p.ren, s.ren]; rfl)))); (try simp (maxSteps := 9999999) (disch := omega) only [go_sem, hr, hr2, k1, hlen, hat, p.ren, s.ren]); (try (refine And.intro ?_ ?_; (focus (first | omega | (simp only [go_sem]; done) | (simp; done) | (simp; omega) | assumption))))) | ((first | refine CondP.split (fun hif => ?_) (fun hif => ?_) | refine Runs.part (fun hif => ?_) (fun hif => ?_)) <;> ((try simp only [hif]); (try simp only [decide_eq_true_eq, decide_eq_false_iff_not, Bool.not_eq_true, Bool.not_eq_false, Bool.not_eq_true', Bool.not_eq_false', beq_iff_eq, bne_iff_ne, bne_eq_false_iff_eq, beq_eq_false_iff_ne, ne_eq, Bool.and_eq_true, Bool.or_eq_true, Bool.or_eq_false_iff] at hif); (try (have h9 : _ = true := hif; simp only [h9])); (try (have h9 : _ = false := hif; simp only [h9])); (try simp (maxSteps := 9999999) (disch := omega) only [go_sem, hr, hr2, k1, hlen, hat, p.ren, s.ren]); (try (refine And.intro ?_ ?_; (focus (first | omega | (simp only [go_sem]; done) | (simp; done) | (simp; omega) | assumption)))); (try (exfalso; omega; done))))))
      (apply Back.to (i + 1, d2, P) [0, 1, 135, 3, 4, 5]; (focus ((try simp (maxSteps := 9999999) (disch := omega) only [go_sem, hr, hr2, p.ren]); first | done | omega)); rotate_left; (focus (simp (maxSteps := 9999999) (disch := omega) only [go_sem, hr, hr2, p.ren]; (try (repeat' (first | done | trivial | rfl | exact leAs_rfl _ | decide | (refine And.intro ?_ ?_) | (simp; done) | omega | (simp; decide)))))))
      exact ⟨by simp only; omega, hok2, p2⟩
    | true =>
      rw [hw] at a1
      simp only [cond_true] at a1
      clear hsg
      generalize actD d k n B = d2 at *
      have p2 := Seg.all d2.l (by have := hok2.l; omega)
      (try simp (maxSteps := 9999999) (disch := omega) only [go_sem])
      (repeat' (first | (refine AWpA.thawO 54 2 (fun n : Int => [.val (.int .u8 n)]) hzp (fun _ => rfl) rfl rfl rfl ?_; (try simp only [hQ, List.set_cons_zero, List.set_cons_succ]); (try simp (maxSteps := 9999999) (disch := omega) only [go_sem, hr, hr2, k1, hlen, hat, p.ren, s.ren])) | refine AWpA.seq ?_ | refine AWpA.block ?_ | (with_reducible refine CondP.tt ?_) | (with_reducible refine CondP.ff ?_) | refine AWpA.condv (by simp (maxSteps := 9999999) (disch := omega) only [go_sem, hr, hr2, k1, hlen, hat, p.ren, s.ren]; rfl) ?_ | ((first | (apply AWpA.region; (focus (simp (maxSteps := 9999999) (disch := omega) only [go_sem, hr, hr2, k1, hlen, hat, p.ren, s.ren]; rfl))) | (apply AWpA.draw [] [] follows; (focus (first | rfl | decide)); (focus (simp (maxSteps := 9999999) (disch := omega) only [go_sem, hr, hr2, k1, hlen, hat, p.ren, s.ren]; rfl)); (focus (simp (maxSteps := 9999999) (disch := omega) only [go_sem, hr, hr2, k1, hlen, hat, p.ren, s.ren]; first | done | trivial)); (focus (simp (maxSteps := 9999999) (disch := omega) only [go_sem, hr, hr2, k1, hlen, hat, p.ren, s.ren]; rfl))) | (apply TailK.go; (focus (simp (maxSteps := 9999999) (disch := omega) only [go_sem, hr, hr2, k1, hlen, hat, p.ren, s.ren]; rfl))) | refine AWpA.skip ?_ | refine AWpA.exit ?_ | refine AWpA.ret ?_ | (with_reducible refine ARoundsA.succ ?_) | ((first | refine Runs.kt (by assumption) (fun h9 => ?_) | refine Runs.kf (by assumption) (fun h9 => ?_) | refine Runs.nt (by assumption) (fun h9 => ?_) | refine Runs.nf (by assumption) (fun h9 => ?_) | refine CondP.ht (by assumption) (fun h9 => ?_) | refine CondP.hf (by assumption) (fun h9 => ?_) | refine CondP.nt (by assumption) (fun h9 => ?_) | refine CondP.nf (by assumption) (fun h9 => ?_)); (try simp only [h9]); clear h9) | ((first | (with_reducible apply CallG.plain1 [1, 2, 4, 86] (a1)) | (with_reducible apply CallG.draw1 [1, 2, 4, 86] (a1))); (focus ((try refine And.intro (leAs_of_eq rfl) ?_); (try refine And.intro (leOL_of_eq rfl) ?_); simp (maxSteps := 9999999) (disch := omega) only [go_sem, hr, hr2, k1, hlen, hat, p.ren, s.ren]; first | done | (repeat' (first | rfl | (refine And.intro ?_ ?_))))); (focus (simp (maxSteps := 9999999) (disch := omega) only [go_sem, hr, hr2, k1, hlen, hat, p.ren, s.ren]; rfl)))); (try simp (maxSteps := 9999999) (disch := omega) only [go_sem, hr, hr2, k1, hlen, hat, p.ren, s.ren]); (try (refine And.intro ?_ ?_; (focus (first | omega | (simp only [go_sem]; done) | (simp; done) | (simp; omega) | assumption))))) | ((first | refine CondP.split (fun hif => ?_) (fun hif => ?_) | refine Runs.part (fun hif => ?_) (fun hif => ?_)) <;> ((try simp only [hif]); (try simp only [decide_eq_true_eq, decide_eq_false_iff_not, Bool.not_eq_true, Bool.not_eq_false, Bool.not_eq_true', Bool.not_eq_false', beq_iff_eq, bne_iff_ne, bne_eq_false_iff_eq, beq_eq_false_iff_ne, ne_eq, Bool.and_eq_true, Bool.or_eq_true, Bool.or_eq_false_iff] at hif); (try (have h9 : _ = true := hif; simp only [h9])); (try (have h9 : _ = false := hif; simp only [h9])); (try simp (maxSteps := 9999999) (disch := omega) only [go_sem, hr, hr2, k1, hlen, hat, p.ren, s.ren]); (try (refine And.intro ?_ ?_; (focus (first | omega | (simp only [go_sem]; done) | (simp; done) | (simp; omega) | assumption)))); (try (exfalso; omega; done))))))
      (apply Back.to (i + 1, d2, bA d2.l) [0, 1, 135, 3, 136, 5]; (focus ((try simp (maxSteps := 9999999) (disch := omega) only [go_sem, hr, hr2, p.ren]); first | done | omega)); rotate_left; (focus (simp (maxSteps := 9999999) (disch := omega) only [go_sem, hr, hr2, p.ren]; (try (repeat' (first | done | trivial | rfl | exact leAs_rfl _ | decide | (refine And.intro ?_ ?_) | (simp; done) | omega | (simp; decide)))))))
      exact ⟨by simp only; omega, hok2, p2⟩
  obtain rfl : i = l.length := by omega
  have k1 : ((l.length : Int) < (l.length : Int)) = False := eq_false (by omega)
  obtain ⟨d1, hd1⟩ : ∃ d1, crashF d (l.length : Int) = d1 := ⟨_, rfl⟩
  have hcr := dcrash_any d hok (l.length : Int)
  rw [hd1] at hcr
  have hok1 : d1.ok := by
    have := actD_ok hok 4 (l.length : Int) [] (by omega)
    rw [← hd1]; exact this
  have hof : d1.off = false := by rw [← hd1]; rfl
  have hsl : d1.s = d1.l.length := by
    have h1 := hok.s
    rw [← hd1]
    simp only [crashF, List.length_take, crashN]
    omega
  have c4 := dread_to (d := d1) (l := d1.l) (e := 0) hok1 (by simp [readL, hof]) (by simp [readE, hof])
  have c3 := dsafe_any d1
  have hheld : Held d1.l d1 := ⟨by omega, List.take_length⟩
  have hw20 := hok1.l
  rw [hof] at c4
  generalize crashN d (l.length : Int) = cn at *
  clear hd1 hin hi
  (try simp (maxSteps := 9999999) (disch := omega) only [go_sem])
  (repeat' (first | refine AWpA.seq ?_ | refine AWpA.block ?_ | (with_reducible refine CondP.tt ?_) | (with_reducible refine CondP.ff ?_) | refine AWpA.condv (by simp (maxSteps := 9999999) (disch := omega) only [go_sem, hr, hr2, k1, p.ren, hof, hsl]; rfl) ?_ | ((first | (apply AWpA.region; (focus (simp (maxSteps := 9999999) (disch := omega) only [go_sem, hr, hr2, k1, p.ren, hof, hsl]; rfl))) | (apply AWpA.draw [] [] follows; (focus (first | rfl | decide)); (focus (simp (maxSteps := 9999999) (disch := omega) only [go_sem, hr, hr2, k1, p.ren, hof, hsl]; rfl)); (focus (simp (maxSteps := 9999999) (disch := omega) only [go_sem, hr, hr2, k1, p.ren, hof, hsl]; first | done | trivial)); (focus (simp (maxSteps := 9999999) (disch := omega) only [go_sem, hr, hr2, k1, p.ren, hof, hsl]; rfl))) | (apply TailK.go; (focus (simp (maxSteps := 9999999) (disch := omega) only [go_sem, hr, hr2, k1, p.ren, hof, hsl]; rfl))) | refine AWpA.skip ?_ | refine AWpA.exit ?_ | refine AWpA.ret ?_ | (with_reducible refine ARoundsA.succ ?_) | ((first | refine Runs.kt (by assumption) (fun h9 => ?_) | refine Runs.kf (by assumption) (fun h9 => ?_) | refine Runs.nt (by assumption) (fun h9 => ?_) | refine Runs.nf (by assumption) (fun h9 => ?_) | refine CondP.ht (by assumption) (fun h9 => ?_) | refine CondP.hf (by assumption) (fun h9 => ?_) | refine CondP.nt (by assumption) (fun h9 => ?_) | refine CondP.nf (by assumption) (fun h9 => ?_)); (try simp only [h9]); clear h9) | ((first | (with_reducible apply CallG.plain1 [1, 2] (hcr)) | (with_reducible apply CallG.draw1 [1, 2] (hcr))); (focus ((try refine And.intro (leAs_of_eq rfl) ?_); (try refine And.intro (leOL_of_eq rfl) ?_); simp (maxSteps := 9999999) (disch := omega) only [go_sem, hr, hr2, k1, p.ren, hof, hsl]; first | done | (repeat' (first | rfl | (refine And.intro ?_ ?_))))); (focus (simp (maxSteps := 9999999) (disch := omega) only [go_sem, hr, hr2, k1, p.ren, hof, hsl]; rfl))) | ((first | (with_reducible apply CallG.plain1 [1, 2] (c4)) | (with_reducible apply CallG.draw1 [1, 2] (c4))); (focus ((try refine And.intro (leAs_of_eq rfl) ?_); (try refine And.intro (leOL_of_eq rfl) ?_); simp (maxSteps := 9999999) (disch := omega) only [go_sem, hr, hr2, k1, p.ren, hof, hsl]; first | done | (repeat' (first | rfl | (refine And.intro ?_ ?_))))); (focus (simp (maxSteps := 9999999) (disch := omega) only [go_sem, hr, hr2, k1, p.ren, hof, hsl]; rfl))) | ((first | (with_reducible apply CallG.plain1 [1] (c3)) | (with_reducible apply CallG.draw1 [1] (c3))); (focus ((try refine And.intro (leAs_of_eq rfl) ?_); (try refine And.intro (leOL_of_eq rfl) ?_); simp (maxSteps := 9999999) (disch := omega) only [go_sem, hr, hr2, k1, p.ren, hof, hsl]; first | done | (repeat' (first | rfl | (refine And.intro ?_ ?_))))); (focus (simp (maxSteps := 9999999) (disch := omega) only [go_sem, hr, hr2, k1, p.ren, hof, hsl]; rfl)))); (try simp (maxSteps := 9999999) (disch := omega) only [go_sem, hr, hr2, k1, p.ren, hof, hsl]); (try (refine And.intro ?_ ?_; (focus (first | omega | (simp only [go_sem]; done) | (simp; done) | (simp; omega) | assumption))))) | ((first | refine CondP.split (fun hif => ?_) (fun hif => ?_) | refine Runs.part (fun hif => ?_) (fun hif => ?_)) <;> ((try simp only [hif]); (try simp only [decide_eq_true_eq, decide_eq_false_iff_not, Bool.not_eq_true, Bool.not_eq_false, Bool.not_eq_true', Bool.not_eq_false', beq_iff_eq, bne_iff_ne, bne_eq_false_iff_eq, beq_eq_false_iff_ne, ne_eq, Bool.and_eq_true, Bool.or_eq_true, Bool.or_eq_false_iff] at hif); (try (have h9 : _ = true := hif; simp only [h9])); (try (have h9 : _ = false := hif; simp only [h9])); (try simp (maxSteps := 9999999) (disch := omega) only [go_sem, hr, hr2, k1, p.ren, hof, hsl]); (try (refine And.intro ?_ ?_; (focus (first | omega | (simp only [go_sem]; done) | (simp; done) | (simp; omega) | assumption)))); (try (exfalso; omega; done))))))
  clear k1 hcr c4 c3 hall h100 hf hf2 hlen
  obtain ⟨w, hw⟩ : ∃ w, d1.l = w := ⟨_, rfl⟩
  rw [hw] at hheld hsl hw20
  (apply AWpA.loopL (fun p : Nat × Dk => [(2, I keep), (7, .ptr 1 0), (11, .sl 3 0 w.length 1 none), (64, .sl 0 off2 m.length 3 none), (65, I m.length), (66, I p.1)]) (fun p => [.cells true (rowsC off2 AtC m), DkO 2 p.2, .cells false (bA p.2.l), .cells false (bA w)]) (fun p => m.length - p.1) (fun p => p.1 ≤ m.length ∧ p.2.ok ∧ Held w p.2) ((0, d1)) [5, 1, 2, 102]; rotate_left; (focus (simp (maxSteps := 9999999) (disch := omega) only [go_sem, hr2, hof, hsl, hw, p.ren]; (try (repeat' (first | done | trivial | rfl | exact leAs_rfl _ | decide | (refine And.intro ?_ ?_) | (simp; done) | omega | (simp; decide)))))); rotate_right)
  · exact ⟨Nat.zero_le _, hok1, hheld⟩
  clear hheld hof hsl hw hok1 p hok
  clear d d1 P
  rintro ⟨i, d⟩ ⟨hi, hok, hh⟩
  (try simp only at hi hok hh)
  by_cases hin : i < m.length
  · have k1 : ((i : Int) < (m.length : Int)) = True := eq_true (by omega)
    have hat := at_at off2 m i hin
    have hao := hall2 _ (List.getElem_mem hin)
    have hab := h100m _ (List.getElem_mem hin)
    generalize m[i] = a at *
    obtain ⟨k, n, ⟨bad, boff, bcap, B⟩⟩ := a
    have hzp := hao.b.fz
    have hn2 : n ≤ 9223372036854775807 := hao.n.2
    simp only at hzp hab
    have s := Seg.rows (off := boff) (l := B) (by omega)
    generalize hQ : rowsC boff (fun n : Int => [.val (.int .u8 n)]) B = Q at s
    have hok2 := sinD_ok hok k n B hn2
    have hh2 := sinD_held hh hok k n B
    by_cases k0 : k = 0
    · subst k0
      have a1 := dapp_any d hok s
      have e1 : sinD d 0 n B = doD d (appW d B.length) (appF B) := rfl
      rw [← e1] at a1
      generalize sinD d 0 n B = d2 at *
      generalize doE d (appW d B.length) = e at *
      (try simp (maxSteps := 9999999) (disch := omega) only [go_sem])
      (repeat' (first | (refine AWpA.thawO 52 2 (fun n : Int => [.val (.int .u8 n)]) hzp (fun _ => rfl) rfl rfl rfl ?_; (try simp only [hQ, List.set_cons_zero, List.set_cons_succ]); (try simp (maxSteps := 9999999) (disch := omega) only [go_sem, hr2, k1, hlen2, hat, s.ren])) | refine AWpA.seq ?_ | refine AWpA.block ?_ | (with_reducible refine CondP.tt ?_) | (with_reducible refine CondP.ff ?_) | refine AWpA.condv (by simp (maxSteps := 9999999) (disch := omega) only [go_sem, hr2, k1, hlen2, hat, s.ren]; rfl) ?_ | ((first | (apply AWpA.region; (focus (simp (maxSteps := 9999999) (disch := omega) only [go_sem, hr2, k1, hlen2, hat, s.ren]; rfl))) | (apply AWpA.draw [1, 2] [] follows; (focus (first | rfl | decide)); (focus (simp (maxSteps := 9999999) (disch := omega) only [go_sem, hr2, k1, hlen2, hat, s.ren]; rfl)); (focus (simp (maxSteps := 9999999) (disch := omega) only [go_sem, hr2, k1, hlen2, hat, s.ren]; first | done | trivial)); (focus (simp (maxSteps := 9999999) (disch := omega) only [go_sem, hr2, k1, hlen2, hat, s.ren]; rfl))) | (apply TailK.go; (focus (simp (maxSteps := 9999999) (disch := omega) only [go_sem, hr2, k1, hlen2, hat, s.ren]; rfl))) | refine AWpA.skip ?_ | refine AWpA.exit ?_ | refine AWpA.ret ?_ | (with_reducible refine ARoundsA.succ ?_) | ((first | refine Runs.kt (by assumption) (fun h9 => ?_) | refine Runs.kf (by assumption) (fun h9 => ?_) | refine Runs.nt (by assumption) (fun h9 => ?_) | refine Runs.nf (by assumption) (fun h9 => ?_) | refine CondP.ht (by assumption) (fun h9 => ?_) | refine CondP.hf (by assumption) (fun h9 => ?_) | refine CondP.nt (by assumption) (fun h9 => ?_) | refine CondP.nf (by assumption) (fun h9 => ?_)); (try simp only [h9]); clear h9) | ((first | (with_reducible apply CallG.plain1 [1, 2, 84] (a1)) | (with_reducible apply CallG.draw1 [1, 2, 84] (a1))); (focus ((try refine And.intro (leAs_of_eq rfl) ?_); (try refine And.intro (leOL_of_eq rfl) ?_); simp (maxSteps := 9999999) (disch := omega) only [go_sem, hr2, k1, hlen2, hat, s.ren]; first | done | (repeat' (first | rfl | (refine And.intro ?_ ?_))))); (focus (simp (maxSteps := 9999999) (disch := omega) only [go_sem, hr2, k1, hlen2, hat, s.ren]; rfl)))); (try simp (maxSteps := 9999999) (disch := omega) only [go_sem, hr2, k1, hlen2, hat, s.ren]); (try (refine And.intro ?_ ?_; (focus (first | omega | (simp only [go_sem]; done) | (simp; done) | (simp; omega) | assumption))))) | ((first | refine CondP.split (fun hif => ?_) (fun hif => ?_) | refine Runs.part (fun hif => ?_) (fun hif => ?_)) <;> ((try simp only [hif]); (try simp only [decide_eq_true_eq, decide_eq_false_iff_not, Bool.not_eq_true, Bool.not_eq_false, Bool.not_eq_true', Bool.not_eq_false', beq_iff_eq, bne_iff_ne, bne_eq_false_iff_eq, beq_eq_false_iff_ne, ne_eq, Bool.and_eq_true, Bool.or_eq_true, Bool.or_eq_false_iff] at hif); (try (have h9 : _ = true := hif; simp only [h9])); (try (have h9 : _ = false := hif; simp only [h9])); (try simp (maxSteps := 9999999) (disch := omega) only [go_sem, hr2, k1, hlen2, hat, s.ren]); (try (refine And.intro ?_ ?_; (focus (first | omega | (simp only [go_sem]; done) | (simp; done) | (simp; omega) | assumption)))); (try (exfalso; omega; done))))))
      (apply Back.to (i + 1, d2) [0, 1, 197, 3]; (focus ((try simp (maxSteps := 9999999) (disch := omega) only [go_sem, hr2]); first | done | omega)); rotate_left; (focus (simp (maxSteps := 9999999) (disch := omega) only [go_sem, hr2]; (try (repeat' (first | done | trivial | rfl | exact leAs_rfl _ | decide | (refine And.intro ?_ ?_) | (simp; done) | omega | (simp; decide)))))))
      exact ⟨by simp only; omega, hok2, hh2⟩
    have g0 : (k == 0) = false := by simpa using k0
    by_cases k1' : k = 1
    · subst k1'
      have a1 := dsync_any d hok
      have e1 : sinD d 1 n B = doD d 0 syncF := rfl
      have e3 : bA (doD d 0 syncF).l = bA d.l := by unfold doD syncF; split; rfl; split; rfl; split <;> rfl
      rw [← e1] at a1 e3
      rw [← e3] at a1
      generalize hd2 : sinD d 1 n B = d2 at *
      generalize doE d 0 = e at *
      rw [e3] at a1
      (try simp (maxSteps := 9999999) (disch := omega) only [go_sem])
      (repeat' (first | (refine AWpA.thawO 52 2 (fun n : Int => [.val (.int .u8 n)]) hzp (fun _ => rfl) rfl rfl rfl ?_; (try simp only [hQ, List.set_cons_zero, List.set_cons_succ]); (try simp (maxSteps := 9999999) (disch := omega) only [go_sem, hr2, k1, hlen2, hat, s.ren])) | refine AWpA.seq ?_ | refine AWpA.block ?_ | (with_reducible refine CondP.tt ?_) | (with_reducible refine CondP.ff ?_) | refine AWpA.condv (by simp (maxSteps := 9999999) (disch := omega) only [go_sem, hr2, k1, hlen2, hat, s.ren]; rfl) ?_ | ((first | (apply AWpA.region; (focus (simp (maxSteps := 9999999) (disch := omega) only [go_sem, hr2, k1, hlen2, hat, s.ren]; rfl))) | (apply AWpA.draw [1, 2] [] follows; (focus (first | rfl | decide)); (focus (simp (maxSteps := 9999999) (disch := omega) only [go_sem, hr2, k1, hlen2, hat, s.ren]; rfl)); (focus (simp (maxSteps := 9999999) (disch := omega) only [go_sem, hr2, k1, hlen2, hat, s.ren]; first | done | trivial)); (focus (simp (maxSteps := 9999999) (disch := omega) only [go_sem, hr2, k1, hlen2, hat, s.ren]; rfl))) | (apply TailK.go; (focus (simp (maxSteps := 9999999) (disch := omega) only [go_sem, hr2, k1, hlen2, hat, s.ren]; rfl))) | refine AWpA.skip ?_ | refine AWpA.exit ?_ | refine AWpA.ret ?_ | (with_reducible refine ARoundsA.succ ?_) | ((first | refine Runs.kt (by assumption) (fun h9 => ?_) | refine Runs.kf (by assumption) (fun h9 => ?_) | refine Runs.nt (by assumption) (fun h9 => ?_) | refine Runs.nf (by assumption) (fun h9 => ?_) | refine CondP.ht (by assumption) (fun h9 => ?_) | refine CondP.hf (by assumption) (fun h9 => ?_) | refine CondP.nt (by assumption) (fun h9 => ?_) | refine CondP.nf (by assumption) (fun h9 => ?_)); (try simp only [h9]); clear h9) | ((first | (with_reducible apply CallG.plain1 [1, 2] (a1)) | (with_reducible apply CallG.draw1 [1, 2] (a1))); (focus ((try refine And.intro (leAs_of_eq rfl) ?_); (try refine And.intro (leOL_of_eq rfl) ?_); simp (maxSteps := 9999999) (disch := omega) only [go_sem, hr2, k1, hlen2, hat, s.ren]; first | done | (repeat' (first | rfl | (refine And.intro ?_ ?_))))); (focus (simp (maxSteps := 9999999) (disch := omega) only [go_sem, hr2, k1, hlen2, hat, s.ren]; rfl)))); (try simp (maxSteps := 9999999) (disch := omega) only [go_sem, hr2, k1, hlen2, hat, s.ren]); (try (refine And.intro ?_ ?_; (focus (first | omega | (simp only [go_sem]; done) | (simp; done) | (simp; omega) | assumption))))) | ((first | refine CondP.split (fun hif => ?_) (fun hif => ?_) | refine Runs.part (fun hif => ?_) (fun hif => ?_)) <;> ((try simp only [hif]); (try simp only [decide_eq_true_eq, decide_eq_false_iff_not, Bool.not_eq_true, Bool.not_eq_false, Bool.not_eq_true', Bool.not_eq_false', beq_iff_eq, bne_iff_ne, bne_eq_false_iff_eq, beq_eq_false_iff_ne, ne_eq, Bool.and_eq_true, Bool.or_eq_true, Bool.or_eq_false_iff] at hif); (try (have h9 : _ = true := hif; simp only [h9])); (try (have h9 : _ = false := hif; simp only [h9])); (try simp (maxSteps := 9999999) (disch := omega) only [go_sem, hr2, k1, hlen2, hat, s.ren]); (try (refine And.intro ?_ ?_; (focus (first | omega | (simp only [go_sem]; done) | (simp; done) | (simp; omega) | assumption)))); (try (exfalso; omega; done))))))
      (apply Back.to (i + 1, d2) [0, 1, 2, 3]; (focus ((try simp (maxSteps := 9999999) (disch := omega) only [go_sem, hr2, e3]); first | done | omega)); rotate_left; (focus (simp (maxSteps := 9999999) (disch := omega) only [go_sem, hr2, e3]; (try (repeat' (first | done | trivial | rfl | exact leAs_rfl _ | decide | (refine And.intro ?_ ?_) | (simp; done) | omega | (simp; decide)))))))
      exact ⟨by simp only; omega, hok2, hh2⟩
    have g1 : (k == 1) = false := by simpa using k1'
    by_cases k3 : k = 3
    · subst k3
      have a1 := fuse_any d n
      have e1 : sinD d 3 n B = { d with left := if -1 > n then -1 else n } := rfl
      rw [e1] at hok2 hh2
      (try simp (maxSteps := 9999999) (disch := omega) only [go_sem])
      (repeat' (first | (refine AWpA.thawO 52 2 (fun n : Int => [.val (.int .u8 n)]) hzp (fun _ => rfl) rfl rfl rfl ?_; (try simp only [hQ, List.set_cons_zero, List.set_cons_succ]); (try simp (maxSteps := 9999999) (disch := omega) only [go_sem, hr2, k1, hlen2, hat, s.ren])) | refine AWpA.seq ?_ | refine AWpA.block ?_ | (with_reducible refine CondP.tt ?_) | (with_reducible refine CondP.ff ?_) | refine AWpA.condv (by simp (maxSteps := 9999999) (disch := omega) only [go_sem, hr2, k1, hlen2, hat, s.ren]; rfl) ?_ | ((first | (apply AWpA.region; (focus (simp (maxSteps := 9999999) (disch := omega) only [go_sem, hr2, k1, hlen2, hat, s.ren]; rfl))) | (apply AWpA.draw [1, 2] [] follows; (focus (first | rfl | decide)); (focus (simp (maxSteps := 9999999) (disch := omega) only [go_sem, hr2, k1, hlen2, hat, s.ren]; rfl)); (focus (simp (maxSteps := 9999999) (disch := omega) only [go_sem, hr2, k1, hlen2, hat, s.ren]; first | done | trivial)); (focus (simp (maxSteps := 9999999) (disch := omega) only [go_sem, hr2, k1, hlen2, hat, s.ren]; rfl))) | (apply TailK.go; (focus (simp (maxSteps := 9999999) (disch := omega) only [go_sem, hr2, k1, hlen2, hat, s.ren]; rfl))) | refine AWpA.skip ?_ | refine AWpA.exit ?_ | refine AWpA.ret ?_ | (with_reducible refine ARoundsA.succ ?_) | ((first | refine Runs.kt (by assumption) (fun h9 => ?_) | refine Runs.kf (by assumption) (fun h9 => ?_) | refine Runs.nt (by assumption) (fun h9 => ?_) | refine Runs.nf (by assumption) (fun h9 => ?_) | refine CondP.ht (by assumption) (fun h9 => ?_) | refine CondP.hf (by assumption) (fun h9 => ?_) | refine CondP.nt (by assumption) (fun h9 => ?_) | refine CondP.nf (by assumption) (fun h9 => ?_)); (try simp only [h9]); clear h9) | ((first | (with_reducible apply CallG.plain1 [1, 2] (a1)) | (with_reducible apply CallG.draw1 [1, 2] (a1))); (focus ((try refine And.intro (leAs_of_eq rfl) ?_); (try refine And.intro (leOL_of_eq rfl) ?_); simp (maxSteps := 9999999) (disch := omega) only [go_sem, hr2, k1, hlen2, hat, s.ren]; first | done | (repeat' (first | rfl | (refine And.intro ?_ ?_))))); (focus (simp (maxSteps := 9999999) (disch := omega) only [go_sem, hr2, k1, hlen2, hat, s.ren]; rfl)))); (try simp (maxSteps := 9999999) (disch := omega) only [go_sem, hr2, k1, hlen2, hat, s.ren]); (try (refine And.intro ?_ ?_; (focus (first | omega | (simp only [go_sem]; done) | (simp; done) | (simp; omega) | assumption))))) | ((first | refine CondP.split (fun hif => ?_) (fun hif => ?_) | refine Runs.part (fun hif => ?_) (fun hif => ?_)) <;> ((try simp only [hif]); (try simp only [decide_eq_true_eq, decide_eq_false_iff_not, Bool.not_eq_true, Bool.not_eq_false, Bool.not_eq_true', Bool.not_eq_false', beq_iff_eq, bne_iff_ne, bne_eq_false_iff_eq, beq_eq_false_iff_ne, ne_eq, Bool.and_eq_true, Bool.or_eq_true, Bool.or_eq_false_iff] at hif); (try (have h9 : _ = true := hif; simp only [h9])); (try (have h9 : _ = false := hif; simp only [h9])); (try simp (maxSteps := 9999999) (disch := omega) only [go_sem, hr2, k1, hlen2, hat, s.ren]); (try (refine And.intro ?_ ?_; (focus (first | omega | (simp only [go_sem]; done) | (simp; done) | (simp; omega) | assumption)))); (try (exfalso; omega; done))))))
      (apply Back.to (i + 1, { d with left := if -1 > n then -1 else n }) [0, 1, 2, 3]; (focus ((try simp (maxSteps := 9999999) (disch := omega) only [go_sem, hr2]); first | done | omega)); rotate_left; (focus (simp (maxSteps := 9999999) (disch := omega) only [go_sem, hr2]; (try (repeat' (first | done | trivial | rfl | exact leAs_rfl _ | decide | (refine And.intro ?_ ?_) | (simp; done) | omega | (simp; decide)))))))
      exact ⟨by simp only; omega, hok2, hh2⟩
    have g3 : (k == 3) = false := by simpa using k3
    by_cases k4 : k = 4
    · subst k4
      have a1 := dcrash_any d hok n
      have e1 : sinD d 4 n B = crashF d n := rfl
      rw [← e1] at a1
      generalize sinD d 4 n B = d2 at *
      generalize crashN d n = e at *
      (try simp (maxSteps := 9999999) (disch := omega) only [go_sem])
      (repeat' (first | (refine AWpA.thawO 52 2 (fun n : Int => [.val (.int .u8 n)]) hzp (fun _ => rfl) rfl rfl rfl ?_; (try simp only [hQ, List.set_cons_zero, List.set_cons_succ]); (try simp (maxSteps := 9999999) (disch := omega) only [go_sem, hr2, k1, hlen2, hat, s.ren])) | refine AWpA.seq ?_ | refine AWpA.block ?_ | (with_reducible refine CondP.tt ?_) | (with_reducible refine CondP.ff ?_) | refine AWpA.condv (by simp (maxSteps := 9999999) (disch := omega) only [go_sem, hr2, k1, hlen2, hat, s.ren]; rfl) ?_ | ((first | (apply AWpA.region; (focus (simp (maxSteps := 9999999) (disch := omega) only [go_sem, hr2, k1, hlen2, hat, s.ren]; rfl))) | (apply AWpA.draw [1, 2] [] follows; (focus (first | rfl | decide)); (focus (simp (maxSteps := 9999999) (disch := omega) only [go_sem, hr2, k1, hlen2, hat, s.ren]; rfl)); (focus (simp (maxSteps := 9999999) (disch := omega) only [go_sem, hr2, k1, hlen2, hat, s.ren]; first | done | trivial)); (focus (simp (maxSteps := 9999999) (disch := omega) only [go_sem, hr2, k1, hlen2, hat, s.ren]; rfl))) | (apply TailK.go; (focus (simp (maxSteps := 9999999) (disch := omega) only [go_sem, hr2, k1, hlen2, hat, s.ren]; rfl))) | refine AWpA.skip ?_ | refine AWpA.exit ?_ | refine AWpA.ret ?_ | (with_reducible refine ARoundsA.succ ?_) | ((first | refine Runs.kt (by assumption) (fun h9 => ?_) | refine Runs.kf (by assumption) (fun h9 => ?_) | refine Runs.nt (by assumption) (fun h9 => ?_) | refine Runs.nf (by assumption) (fun h9 => ?_) | refine CondP.ht (by assumption) (fun h9 => ?_) | refine CondP.hf (by assumption) (fun h9 => ?_) | refine CondP.nt (by assumption) (fun h9 => ?_) | refine CondP.nf (by assumption) (fun h9 => ?_)); (try simp only [h9]); clear h9) | ((first | (with_reducible apply CallG.plain1 [1, 2] (a1)) | (with_reducible apply CallG.draw1 [1, 2] (a1))); (focus ((try refine And.intro (leAs_of_eq rfl) ?_); (try refine And.intro (leOL_of_eq rfl) ?_); simp (maxSteps := 9999999) (disch := omega) only [go_sem, hr2, k1, hlen2, hat, s.ren]; first | done | (repeat' (first | rfl | (refine And.intro ?_ ?_))))); (focus (simp (maxSteps := 9999999) (disch := omega) only [go_sem, hr2, k1, hlen2, hat, s.ren]; rfl)))); (try simp (maxSteps := 9999999) (disch := omega) only [go_sem, hr2, k1, hlen2, hat, s.ren]); (try (refine And.intro ?_ ?_; (focus (first | omega | (simp only [go_sem]; done) | (simp; done) | (simp; omega) | assumption))))) | ((first | refine CondP.split (fun hif => ?_) (fun hif => ?_) | refine Runs.part (fun hif => ?_) (fun hif => ?_)) <;> ((try simp only [hif]); (try simp only [decide_eq_true_eq, decide_eq_false_iff_not, Bool.not_eq_true, Bool.not_eq_false, Bool.not_eq_true', Bool.not_eq_false', beq_iff_eq, bne_iff_ne, bne_eq_false_iff_eq, beq_eq_false_iff_ne, ne_eq, Bool.and_eq_true, Bool.or_eq_true, Bool.or_eq_false_iff] at hif); (try (have h9 : _ = true := hif; simp only [h9])); (try (have h9 : _ = false := hif; simp only [h9])); (try simp (maxSteps := 9999999) (disch := omega) only [go_sem, hr2, k1, hlen2, hat, s.ren]); (try (refine And.intro ?_ ?_; (focus (first | omega | (simp only [go_sem]; done) | (simp; done) | (simp; omega) | assumption)))); (try (exfalso; omega; done))))))
      (apply Back.to (i + 1, d2) [0, 1, 2, 3]; (focus ((try simp (maxSteps := 9999999) (disch := omega) only [go_sem, hr2]); first | done | omega)); rotate_left; (focus (simp (maxSteps := 9999999) (disch := omega) only [go_sem, hr2]; (try (repeat' (first | done | trivial | rfl | exact leAs_rfl _ | decide | (refine And.intro ?_ ?_) | (simp; done) | omega | (simp; decide)))))))
      exact ⟨by simp only; omega, hok2, hh2⟩
    have g4 : (k == 4) = false := by simpa using k4
    (try simp (maxSteps := 9999999) (disch := omega) only [go_sem])
    (repeat' (first | (refine AWpA.thawO 52 2 (fun n : Int => [.val (.int .u8 n)]) hzp (fun _ => rfl) rfl rfl rfl ?_; (try simp only [hQ, List.set_cons_zero, List.set_cons_succ]); (try simp (maxSteps := 9999999) (disch := omega) only [go_sem, hr2, k1, hlen2, hat, s.ren, g0, g1, g3, g4])) | refine AWpA.seq ?_ | refine AWpA.block ?_ | (with_reducible refine CondP.tt ?_) | (with_reducible refine CondP.ff ?_) | refine AWpA.condv (by simp (maxSteps := 9999999) (disch := omega) only [go_sem, hr2, k1, hlen2, hat, s.ren, g0, g1, g3, g4]; rfl) ?_ | ((first | (apply AWpA.region; (focus (simp (maxSteps := 9999999) (disch := omega) only [go_sem, hr2, k1, hlen2, hat, s.ren, g0, g1, g3, g4]; rfl))) | (apply AWpA.draw [] [] follows; (focus (first | rfl | decide)); (focus (simp (maxSteps := 9999999) (disch := omega) only [go_sem, hr2, k1, hlen2, hat, s.ren, g0, g1, g3, g4]; rfl)); (focus (simp (maxSteps := 9999999) (disch := omega) only [go_sem, hr2, k1, hlen2, hat, s.ren, g0, g1, g3, g4]; first | done | trivial)); (focus (simp (maxSteps := 9999999) (disch := omega) only [go_sem, hr2, k1, hlen2, hat, s.ren, g0, g1, g3, g4]; rfl))) | (apply TailK.go; (focus (simp (maxSteps := 9999999) (disch := omega) only [go_sem, hr2, k1, hlen2, hat, s.ren, g0, g1, g3, g4]; rfl))) | refine AWpA.skip ?_ | refine AWpA.exit ?_ | refine AWpA.ret ?_ | (with_reducible refine ARoundsA.succ ?_) | ((first | refine Runs.kt (by assumption) (fun h9 => ?_) | refine Runs.kf (by assumption) (fun h9 => ?_) | refine Runs.nt (by assumption) (fun h9 => ?_) | refine Runs.nf (by assumption) (fun h9 => ?_) | refine CondP.ht (by assumption) (fun h9 => ?_) | refine CondP.hf (by assumption) (fun h9 => ?_) | refine CondP.nt (by assumption) (fun h9 => ?_) | refine CondP.nf (by assumption) (fun h9 => ?_)); (try simp only [h9]); clear h9)); (try simp (maxSteps := 9999999) (disch := omega) only [go_sem, hr2, k1, hlen2, hat, s.ren, g0, g1, g3, g4]); (try (refine And.intro ?_ ?_; (focus (first | omega | (simp only [go_sem]; done) | (simp; done) | (simp; omega) | assumption))))) | ((first | refine CondP.split (fun hif => ?_) (fun hif => ?_) | refine Runs.part (fun hif => ?_) (fun hif => ?_)) <;> ((try simp only [hif]); (try simp only [decide_eq_true_eq, decide_eq_false_iff_not, Bool.not_eq_true, Bool.not_eq_false, Bool.not_eq_true', Bool.not_eq_false', beq_iff_eq, bne_iff_ne, bne_eq_false_iff_eq, beq_eq_false_iff_ne, ne_eq, Bool.and_eq_true, Bool.or_eq_true, Bool.or_eq_false_iff] at hif); (try (have h9 : _ = true := hif; simp only [h9])); (try (have h9 : _ = false := hif; simp only [h9])); (try simp (maxSteps := 9999999) (disch := omega) only [go_sem, hr2, k1, hlen2, hat, s.ren, g0, g1, g3, g4]); (try (refine And.intro ?_ ?_; (focus (first | omega | (simp only [go_sem]; done) | (simp; done) | (simp; omega) | assumption)))); (try (exfalso; omega; done))))))
    (apply Back.to (i + 1, d) [0, 1, 2, 3]; (focus ((try simp (maxSteps := 9999999) (disch := omega) only [go_sem, hr2]); first | done | omega)); rotate_left; (focus (simp (maxSteps := 9999999) (disch := omega) only [go_sem, hr2]; (try (repeat' (first | done | trivial | rfl | exact leAs_rfl _ | decide | (refine And.intro ?_ ?_) | (simp; done) | omega | (simp; decide)))))))
    exact ⟨by simp only; omega, hok, hh⟩
  obtain rfl : i = m.length := by omega
  have k1 : ((m.length : Int) < (m.length : Int)) = False := eq_false (by omega)
  obtain ⟨d1, hd1⟩ : ∃ d1, crashF d keep = d1 := ⟨_, rfl⟩
  have hcr := dcrash_any d hok keep
  rw [hd1] at hcr
  have hok1 : d1.ok := by
    have := actD_ok hok 4 (min keep 0) [] (by omega)
    have h1 := hok.s
    have h2 := hok.l
    rw [← hd1]
    refine ⟨?_, ?_, by simp [crashF], by simp [crashF]⟩
    · simp only [crashF, List.length_take, crashN]; omega
    · simp only [crashF, List.length_take, crashN]; omega
  have hof : d1.off = false := by rw [← hd1]; rfl
  have hh1 : Held w d1 := by
    have := sinD_held hh hok 4 keep []
    rw [← hd1]; exact this
  have c4 := dread_to (d := d1) (l := d1.l) (e := 0) hok1 (by simp [readL, hof]) (by simp [readE, hof])
  have c1 := on_any d1
  rw [hof] at c4 c1
  have hwl : w.length ≤ d1.l.length := by have := hh1.s; have := hok1.s; omega
  have g7 : ((w.length : Int) ≤ (d1.l.length : Int)) = True := eq_true (by omega)
  have hl1 := hok1.l
  have htk := hh1.l
  generalize crashN d keep = cn at *
  (try simp (maxSteps := 9999999) (disch := omega) only [go_sem])
  (repeat' (first | refine AWpA.seq ?_ | refine AWpA.block ?_ | (with_reducible refine CondP.tt ?_) | (with_reducible refine CondP.ff ?_) | refine AWpA.condv (by simp (maxSteps := 9999999) (disch := omega) only [go_sem, hr2, k1, hof, g7, htk]; rfl) ?_ | ((first | (apply AWpA.region; (focus (simp (maxSteps := 9999999) (disch := omega) only [go_sem, hr2, k1, hof, g7, htk]; rfl))) | (apply AWpA.draw [] [] follows; (focus (first | rfl | decide)); (focus (simp (maxSteps := 9999999) (disch := omega) only [go_sem, hr2, k1, hof, g7, htk]; rfl)); (focus (simp (maxSteps := 9999999) (disch := omega) only [go_sem, hr2, k1, hof, g7, htk]; first | done | trivial)); (focus (simp (maxSteps := 9999999) (disch := omega) only [go_sem, hr2, k1, hof, g7, htk]; rfl))) | (apply TailK.go; (focus (simp (maxSteps := 9999999) (disch := omega) only [go_sem, hr2, k1, hof, g7, htk]; rfl))) | refine AWpA.skip ?_ | refine AWpA.exit ?_ | refine AWpA.ret ?_ | (with_reducible refine ARoundsA.succ ?_) | ((first | refine Runs.kt (by assumption) (fun h9 => ?_) | refine Runs.kf (by assumption) (fun h9 => ?_) | refine Runs.nt (by assumption) (fun h9 => ?_) | refine Runs.nf (by assumption) (fun h9 => ?_) | refine CondP.ht (by assumption) (fun h9 => ?_) | refine CondP.hf (by assumption) (fun h9 => ?_) | refine CondP.nt (by assumption) (fun h9 => ?_) | refine CondP.nf (by assumption) (fun h9 => ?_)); (try simp only [h9]); clear h9) | ((first | (with_reducible apply CallG.plain1 [1, 2] (hcr)) | (with_reducible apply CallG.draw1 [1, 2] (hcr))); (focus ((try refine And.intro (leAs_of_eq rfl) ?_); (try refine And.intro (leOL_of_eq rfl) ?_); simp (maxSteps := 9999999) (disch := omega) only [go_sem, hr2, k1, hof, g7, htk]; first | done | (repeat' (first | rfl | (refine And.intro ?_ ?_))))); (focus (simp (maxSteps := 9999999) (disch := omega) only [go_sem, hr2, k1, hof, g7, htk]; rfl))) | ((first | (with_reducible apply CallG.plain1 [1, 2] (c4)) | (with_reducible apply CallG.draw1 [1, 2] (c4))); (focus ((try refine And.intro (leAs_of_eq rfl) ?_); (try refine And.intro (leOL_of_eq rfl) ?_); simp (maxSteps := 9999999) (disch := omega) only [go_sem, hr2, k1, hof, g7, htk]; first | done | (repeat' (first | rfl | (refine And.intro ?_ ?_))))); (focus (simp (maxSteps := 9999999) (disch := omega) only [go_sem, hr2, k1, hof, g7, htk]; rfl))) | ((first | (with_reducible apply CallG.plain1 [1] (c1)) | (with_reducible apply CallG.draw1 [1] (c1))); (focus ((try refine And.intro (leAs_of_eq rfl) ?_); (try refine And.intro (leOL_of_eq rfl) ?_); simp (maxSteps := 9999999) (disch := omega) only [go_sem, hr2, k1, hof, g7, htk]; first | done | (repeat' (first | rfl | (refine And.intro ?_ ?_))))); (focus (simp (maxSteps := 9999999) (disch := omega) only [go_sem, hr2, k1, hof, g7, htk]; rfl)))); (try simp (maxSteps := 9999999) (disch := omega) only [go_sem, hr2, k1, hof, g7, htk]); (try (refine And.intro ?_ ?_; (focus (first | omega | (simp only [go_sem]; done) | (simp; done) | (simp; omega) | assumption))))) | ((first | refine CondP.split (fun hif => ?_) (fun hif => ?_) | refine Runs.part (fun hif => ?_) (fun hif => ?_)) <;> ((try simp only [hif]); (try simp only [decide_eq_true_eq, decide_eq_false_iff_not, Bool.not_eq_true, Bool.not_eq_false, Bool.not_eq_true', Bool.not_eq_false', beq_iff_eq, bne_iff_ne, bne_eq_false_iff_eq, beq_eq_false_iff_ne, ne_eq, Bool.and_eq_true, Bool.or_eq_true, Bool.or_eq_false_iff] at hif); (try (have h9 : _ = true := hif; simp only [h9])); (try (have h9 : _ = false := hif; simp only [h9])); (try simp (maxSteps := 9999999) (disch := omega) only [go_sem, hr2, k1, hof, g7, htk]); (try (refine And.intro ?_ ?_; (focus (first | omega | (simp only [go_sem]; done) | (simp; done) | (simp; omega) | assumption)))); (try (exfalso; omega; done))))))
  (refine TopPost.of (by first | exact .inl rfl | exact .inr rfl) (by (try simp (maxSteps := 9999999) (disch := omega) only [go_sem]); rfl) ?_; (try simp (maxSteps := 9999999) (disch := omega) only [go_sem]); (try (first | trivial | decide | (simp; done))))
end Go.Proofs.Ytnadhhmlehifnaa
