/- The walk of DiskFull. -/
import Derived.Test.YtnadhhmlehifnaaAd3
namespace Go.Proofs.Ytnadhhmlehifnaa
set_option linter.unusedSimpArgs false
set_option linter.unusedVariables false
set_option maxHeartbeats 4000000
open Go Go.Am Go.RowKit Go.ChangeShapes Go.WideShapes Go.ChangeAt
set_option maxRecDepth 100000
theorem zeros_bA (n : Nat) : List.map AV.val (List.replicate n [Value.int .u8 0]).flatten = bA (List.replicate n 0) := by
  simp [bA]
theorem appD_ok {d : Dk} {b : List Int} (ho : d.off = false) (hw : d.l.length + b.length ≤ 1048576) (hl : d.left = -1) : doE d (appW d b.length) = 0 ∧ doD d (appW d b.length) (appF b) = { d with l := d.l ++ b } := by
  have h0 : appW d b.length = 0 := by unfold appW; rw [if_pos (by omega)]
  obtain ⟨l, s, off, left⟩ := d
  simp only at ho hl
  subst ho hl
  rw [h0]
  exact ⟨rfl, rfl⟩
theorem appD_full {d : Dk} {b : List Int} (ho : d.off = false) (hw : 1048576 < d.l.length + b.length) : doE d (appW d b.length) = 7 ∧ doD d (appW d b.length) (appF b) = d := by
  have h0 : appW d b.length = 7 := by unfold appW; rw [if_neg (by omega)]
  obtain ⟨l, s, off, left⟩ := d
  simp only at ho
  subst ho
  rw [h0]
  exact ⟨rfl, rfl⟩
/- quidnunc/quidnunclaw06.DiskFull -/
noncomputable def c3_1 : ACode := .region false [⟨some 4, .move, [.c (.val (.bool false))], none⟩] [] [] [0, 1] false [] []
noncomputable def c3_4 : ACode := .region false [⟨some 8, .call 13, [], none⟩,
  ⟨some 9, .un .not, [.t 8], none⟩,
  ⟨some 10, .move, [.t 9], none⟩,
  ⟨some 11, .move, [.t 1], some (some 10, false)⟩,
  ⟨some 12, .len, [.t 11], some (some 10, false)⟩,
  ⟨some 13, .bin .gtr, [.t 12, .c (.val (.int .i64 100))], some (some 10, false)⟩,
  ⟨some 14, .pick, [.t 10, .c (.val (.bool true)), .t 13], none⟩] [] [] [0, 1, 14] true [] []
noncomputable def c3_7 : ACode := .region false [⟨some 15, .call 13, [], none⟩,
  ⟨some 4, .move, [.t 15], none⟩] [] [] [4] true [] []
noncomputable def c3_6 : ACode := .seq c3_7 .ret
noncomputable def c3_5 : ACode := .cond (.t 14) c3_6 .skip
noncomputable def c3_3 : ACode := .seq c3_4 c3_5
noncomputable def c3_9 : ACode := .region false [⟨some 16, .call 14, [], none⟩,
  ⟨some 5, .move, [.t 16], none⟩] [] [] [0, 1, 5] true [] []
noncomputable def c3_11 : ACode := .region false [⟨some 17, .move, [.t 0], none⟩,
  ⟨some 18, .conv .i64, [.t 17], none⟩,
  ⟨some 19, .min, [.t 18, .c (.val (.int .i64 200))], none⟩,
  ⟨some 20, .bin .sub, [.c (.val (.int .i64 1048576)), .t 19], none⟩,
  ⟨some 6, .move, [.t 20], none⟩] [] [] [1, 5, 6] false [] []
noncomputable def c3_14 : ACode := .region false [⟨some 21, .move, [.t 5], none⟩,
  ⟨some 22, .move, [.t 6], none⟩,
  ⟨some 23, .makeSl 1 1 [(.int .u8 0)], [.t 22, .t 22], none⟩,
  ⟨some 24, .call 15, [.t 21, .t 23], none⟩,
  ⟨some 25, .bin .neq, [.t 24, .c (.val (.int .i64 0))], none⟩,
  ⟨some 26, .move, [.t 25], none⟩,
  ⟨some 27, .move, [.t 5], some (some 26, false)⟩,
  ⟨some 28, .call 16, [.t 27], some (some 26, false)⟩,
  ⟨some 29, .move, [.t 6], some (some 26, false)⟩,
  ⟨some 30, .bin .neq, [.t 28, .t 29], some (some 26, false)⟩,
  ⟨some 31, .pick, [.t 26, .c (.val (.bool true)), .t 30], none⟩] [] [] [1, 5, 6, 31] true [] []
noncomputable def c3_17 : ACode := .region false [⟨some 4, .move, [.c (.val (.bool false))], none⟩] [] [] [4] false [] []
noncomputable def c3_16 : ACode := .seq c3_17 .ret
noncomputable def c3_15 : ACode := .cond (.t 31) c3_16 .skip
noncomputable def c3_13 : ACode := .seq c3_14 c3_15
noncomputable def c3_19 : ACode := .region false [⟨some 32, .move, [.t 5], none⟩,
  ⟨some 33, .move, [.t 1], none⟩,
  ⟨some 34, .call 15, [.t 32, .t 33], none⟩,
  ⟨some 7, .move, [.t 34], none⟩] [] [] [1, 5, 6, 7] true [] []
noncomputable def c3_22 : ACode := .region false [⟨some 35, .move, [.t 1], none⟩,
  ⟨some 36, .len, [.t 35], none⟩,
  ⟨some 37, .move, [.t 6], none⟩,
  ⟨some 38, .bin .sub, [.c (.val (.int .i64 1048576)), .t 37], none⟩,
  ⟨some 39, .bin .gtr, [.t 36, .t 38], none⟩] [] [] [1, 5, 6, 7, 39] false [] []
noncomputable def c3_25 : ACode := .region false [⟨some 40, .move, [.t 7], none⟩,
  ⟨some 41, .bin .eql, [.t 40, .c (.val (.int .i64 7))], none⟩,
  ⟨some 42, .move, [.t 41], none⟩,
  ⟨some 43, .move, [.t 5], some (some 42, true)⟩,
  ⟨some 44, .call 16, [.t 43], some (some 42, true)⟩,
  ⟨some 45, .move, [.t 6], some (some 42, true)⟩,
  ⟨some 46, .bin .eql, [.t 44, .t 45], some (some 42, true)⟩,
  ⟨some 47, .pick, [.t 42, .t 46, .c (.val (.bool false))], none⟩,
  ⟨some 4, .move, [.t 47], none⟩] [] [] [4] true [] []
noncomputable def c3_24 : ACode := .seq c3_25 .ret
noncomputable def c3_23 : ACode := .cond (.t 39) c3_24 .skip
noncomputable def c3_21 : ACode := .seq c3_22 c3_23
noncomputable def c3_27 : ACode := .region false [⟨some 48, .move, [.t 7], none⟩,
  ⟨some 49, .bin .eql, [.t 48, .c (.val (.int .i64 0))], none⟩,
  ⟨some 50, .move, [.t 49], none⟩,
  ⟨some 51, .move, [.t 5], some (some 50, true)⟩,
  ⟨some 52, .call 16, [.t 51], some (some 50, true)⟩,
  ⟨some 53, .move, [.t 6], some (some 50, true)⟩,
  ⟨some 54, .move, [.t 1], some (some 50, true)⟩,
  ⟨some 55, .len, [.t 54], some (some 50, true)⟩,
  ⟨some 56, .bin .add, [.t 53, .t 55], some (some 50, true)⟩,
  ⟨some 57, .bin .eql, [.t 52, .t 56], some (some 50, true)⟩,
  ⟨some 58, .pick, [.t 50, .t 57, .c (.val (.bool false))], none⟩,
  ⟨some 59, .move, [.t 58], none⟩,
  ⟨some 60, .move, [.t 5], some (some 59, true)⟩,
  ⟨some 61, .call 17, [.t 60], some (some 59, true)⟩,
  ⟨some 62, .bin .eql, [.t 61, .c (.val (.int .i64 0))], some (some 59, true)⟩,
  ⟨some 63, .pick, [.t 59, .t 62, .c (.val (.bool false))], none⟩,
  ⟨some 64, .move, [.t 63], none⟩,
  ⟨some 65, .move, [.t 5], some (some 64, true)⟩,
  ⟨some 66, .call 18, [.t 65], some (some 64, true)⟩,
  ⟨some 67, .move, [.t 6], some (some 64, true)⟩,
  ⟨some 68, .move, [.t 1], some (some 64, true)⟩,
  ⟨some 69, .len, [.t 68], some (some 64, true)⟩,
  ⟨some 70, .bin .add, [.t 67, .t 69], some (some 64, true)⟩,
  ⟨some 71, .bin .eql, [.t 66, .t 70], some (some 64, true)⟩,
  ⟨some 72, .pick, [.t 64, .t 71, .c (.val (.bool false))], none⟩,
  ⟨some 4, .move, [.t 72], none⟩] [] [] [4] true [] []
noncomputable def c3_26 : ACode := .seq c3_27 .ret
noncomputable def c3_20 : ACode := .seq c3_21 c3_26
noncomputable def c3_18 : ACode := .seq c3_19 c3_20
noncomputable def c3_12 : ACode := .seq c3_13 c3_18
noncomputable def c3_10 : ACode := .seq c3_11 c3_12
noncomputable def c3_8 : ACode := .seq c3_9 c3_10
noncomputable def c3_2 : ACode := .seq c3_3 c3_8
noncomputable def c3_0 : ACode := .seq c3_1 c3_2
noncomputable def code3 : Code := (Try.f3.body).getD .skip
theorem c3_ok : compC Try.prog 73 code3 = some (strip c3_0) := by kernel_rfl
theorem res3_ok : Try.f3.results.toList.mapM (resC Try.prog) = some [(4, none)] := by kernel_rfl
theorem full_walk (W : World) (over : Int) (b : Sl Int) (ho : IntKind.u8.min ≤ over ∧ over ≤ IntKind.u8.max) (hb : b.ok W 1 (fun n : Int => [.int .u8 n]) (fun n : Int => IntKind.u8.min ≤ n ∧ n ≤ IntKind.u8.max)) :
    Calls Try.prog 3 #[.int .u8 over, .slice b.ad b.l.length b.cap] W fun e W' => e = .returned (.bool true) ∧ Below W.heap.size W W' := by
  obtain ⟨ad, off, cap, L⟩ := b
  have hz := hb.fz
  simp only at hz
  obtain ⟨ho1, ho2⟩ : 0 ≤ over ∧ over ≤ 255 := ho
  by_cases h100 : 100 < L.length
  · have h1 : ((100 : Int) < (L.length : Int)) = True := eq_true (by omega)
    refine top_call c3_ok Try.func3 rfl Try.ntmps3 res3_ok [ .val (.int .u8 over), .val (.slice ad L.length cap)] (by simp) (by (repeat' (first | exact VRs_nil' _ | exact VR_val' _ _ | (refine VRs_cons' ?_ ?_) | (refine VR_agg' rfl ?_; simp [Value.oneCell'])))) ?_; try simp (maxSteps := 9999999) (disch := omega) only [go_sem]
    (repeat' (first | refine AWpA.seq ?_ | refine AWpA.block ?_ | (with_reducible refine CondP.tt ?_) | (with_reducible refine CondP.ff ?_) | refine AWpA.condv (by simp (maxSteps := 9999999) (disch := omega) only [go_sem, h1]; rfl) ?_ | ((first | (apply AWpA.region; (focus (simp (maxSteps := 9999999) (disch := omega) only [go_sem, h1]; rfl))) | (apply AWpA.draw [] follows; (focus (simp (maxSteps := 9999999) (disch := omega) only [go_sem, h1]; rfl)); (focus (simp (maxSteps := 9999999) (disch := omega) only [go_sem, h1]; first | done | trivial)); (focus (simp (maxSteps := 9999999) (disch := omega) only [go_sem, h1]; rfl))) | (apply TailK.go; (focus (simp (maxSteps := 9999999) (disch := omega) only [go_sem, h1]; rfl))) | refine AWpA.skip ?_ | refine AWpA.exit ?_ | refine AWpA.ret ?_ | (with_reducible refine ARoundsA.succ ?_) | ((first | refine Runs.kt (by assumption) (fun h9 => ?_) | refine Runs.kf (by assumption) (fun h9 => ?_) | refine Runs.nt (by assumption) (fun h9 => ?_) | refine Runs.nf (by assumption) (fun h9 => ?_) | refine CondP.ht (by assumption) (fun h9 => ?_) | refine CondP.hf (by assumption) (fun h9 => ?_) | refine CondP.nt (by assumption) (fun h9 => ?_) | refine CondP.nf (by assumption) (fun h9 => ?_)); (try simp only [h9]); clear h9) | ((first | (with_reducible apply CallG.plain1 [] (speaks06)) | (with_reducible apply CallG.draw1 [] (speaks06))); (focus ((try refine And.intro (leAs_of_eq rfl) ?_); (try refine And.intro (leOL_of_eq rfl) ?_); simp (maxSteps := 9999999) (disch := omega) only [go_sem, h1]; first | done | (repeat' (first | rfl | (refine And.intro ?_ ?_))))); (focus (simp (maxSteps := 9999999) (disch := omega) only [go_sem, h1]; rfl)))); (try simp (maxSteps := 9999999) (disch := omega) only [go_sem, h1]); (try (refine And.intro ?_ ?_; (focus (first | omega | (simp only [go_sem]; done) | (simp; done) | (simp; omega) | assumption))))) | ((first | refine CondP.split (fun hif => ?_) (fun hif => ?_) | refine Runs.part (fun hif => ?_) (fun hif => ?_)) <;> ((try simp only [hif]); (try simp only [decide_eq_true_eq, decide_eq_false_iff_not, Bool.not_eq_true, Bool.not_eq_false, Bool.not_eq_true', Bool.not_eq_false', beq_iff_eq, bne_iff_ne, bne_eq_false_iff_eq, beq_eq_false_iff_ne, ne_eq, Bool.and_eq_true, Bool.or_eq_true, Bool.or_eq_false_iff] at hif); (try (have h9 : _ = true := hif; simp only [h9])); (try (have h9 : _ = false := hif; simp only [h9])); (try simp (maxSteps := 9999999) (disch := omega) only [go_sem, h1]); (try (refine And.intro ?_ ?_; (focus (first | omega | (simp only [go_sem]; done) | (simp; done) | (simp; omega) | assumption)))); (try (exfalso; omega; done))))))
    (refine TopPost.of (by first | exact .inl rfl | exact .inr rfl) (by (try simp (maxSteps := 9999999) (disch := omega) only [go_sem]); rfl) ?_; (try simp (maxSteps := 9999999) (disch := omega) only [go_sem]); (try (first | trivial | decide | (simp; done))))
  have h1 : ((100 : Int) < (L.length : Int)) = False := eq_false (by omega)
  have s := Seg.rows (off := off) (l := L) (by omega)
  obtain ⟨n, hn, hn1, hn2⟩ : ∃ n : Nat, (1048576 : Int) - (if 200 < over then 200 else over) = (n : Int) ∧ 1048376 ≤ n ∧ n ≤ 1048576 := ⟨(1048576 - (if 200 < over then 200 else over)).toNat, by split <;> omega, by split <;> omega, by split <;> omega⟩
  obtain ⟨z, hz0⟩ : ∃ z, z = List.replicate n (0 : Int) := ⟨_, rfl⟩
  have hzl : z.length = n := by rw [hz0]; simp
  have hzz := zeros_bA n
  rw [← hz0] at hzz
  have q1 := appD_ok (d := ⟨[], 0, false, -1⟩) (b := z) rfl (by simp; omega) rfl
  have a1 := dapp_to Dk.ok0 (Seg.all z (by omega)) q1.1 q1.2
  have hok : (⟨z, 0, false, -1⟩ : Dk).ok := ⟨by simp, by simp; omega, by simp, by simp⟩
  simp only [List.nil_append, List.length_nil, bA_nil, hzl] at a1
  clear hz0
  have l1 := dlen_any ⟨z, 0, false, -1⟩
  simp only [hzl] at l1
  by_cases hf : 1048576 < n + L.length
  · have hf1 : ((1048576 : Int) - (n : Int) < (L.length : Int)) = True := eq_true (by omega)
    have q2 := appD_full (d := ⟨z, 0, false, -1⟩) (b := L) rfl (by simp only; omega)
    have a2 := dapp_to hok s q2.1 q2.2
    simp only [hzl] at a2
    refine top_call c3_ok Try.func3 rfl Try.ntmps3 res3_ok [ .val (.int .u8 over), .val (.slice ad L.length cap)] (by simp) (by (repeat' (first | exact VRs_nil' _ | exact VR_val' _ _ | (refine VRs_cons' ?_ ?_) | (refine VR_agg' rfl ?_; simp [Value.oneCell'])))) ?_; try simp (maxSteps := 9999999) (disch := omega) only [go_sem]
    refine AWpA.thawT 1 (fun n : Int => [.val (.int .u8 n)]) hz (fun _ => rfl) rfl ?_
    generalize hP : rowsC off (fun n : Int => [.val (.int .u8 n)]) L = P at s a2
    (repeat' (first | refine AWpA.seq ?_ | refine AWpA.block ?_ | (with_reducible refine CondP.tt ?_) | (with_reducible refine CondP.ff ?_) | refine AWpA.condv (by simp (maxSteps := 9999999) (disch := omega) only [go_sem, h1, hn, hzz, s.ren, hf1, hzl]; rfl) ?_ | ((first | (apply AWpA.region; (focus (simp (maxSteps := 9999999) (disch := omega) only [go_sem, h1, hn, hzz, s.ren, hf1, hzl]; rfl))) | (apply AWpA.draw [] follows; (focus (simp (maxSteps := 9999999) (disch := omega) only [go_sem, h1, hn, hzz, s.ren, hf1, hzl]; rfl)); (focus (simp (maxSteps := 9999999) (disch := omega) only [go_sem, h1, hn, hzz, s.ren, hf1, hzl]; first | done | trivial)); (focus (simp (maxSteps := 9999999) (disch := omega) only [go_sem, h1, hn, hzz, s.ren, hf1, hzl]; rfl))) | (apply TailK.go; (focus (simp (maxSteps := 9999999) (disch := omega) only [go_sem, h1, hn, hzz, s.ren, hf1, hzl]; rfl))) | refine AWpA.skip ?_ | refine AWpA.exit ?_ | refine AWpA.ret ?_ | (with_reducible refine ARoundsA.succ ?_) | ((first | refine Runs.kt (by assumption) (fun h9 => ?_) | refine Runs.kf (by assumption) (fun h9 => ?_) | refine Runs.nt (by assumption) (fun h9 => ?_) | refine Runs.nf (by assumption) (fun h9 => ?_) | refine CondP.ht (by assumption) (fun h9 => ?_) | refine CondP.hf (by assumption) (fun h9 => ?_) | refine CondP.nt (by assumption) (fun h9 => ?_) | refine CondP.nf (by assumption) (fun h9 => ?_)); (try simp only [h9]); clear h9) | ((first | (with_reducible apply CallG.plain1 [129, 130, 273] (a1)) | (with_reducible apply CallG.draw1 [129, 130, 273] (a1))); (focus ((try refine And.intro (leAs_of_eq rfl) ?_); (try refine And.intro (leOL_of_eq rfl) ?_); simp (maxSteps := 9999999) (disch := omega) only [go_sem, h1, hn, hzz, s.ren, hf1, hzl]; first | done | (repeat' (first | rfl | (refine And.intro ?_ ?_))))); (focus (simp (maxSteps := 9999999) (disch := omega) only [go_sem, h1, hn, hzz, s.ren, hf1, hzl]; rfl))) | ((first | (with_reducible apply CallG.plain1 [129, 289] (l1)) | (with_reducible apply CallG.draw1 [129, 289] (l1))); (focus ((try refine And.intro (leAs_of_eq rfl) ?_); (try refine And.intro (leOL_of_eq rfl) ?_); simp (maxSteps := 9999999) (disch := omega) only [go_sem, h1, hn, hzz, s.ren, hf1, hzl]; first | done | (repeat' (first | rfl | (refine And.intro ?_ ?_))))); (focus (simp (maxSteps := 9999999) (disch := omega) only [go_sem, h1, hn, hzz, s.ren, hf1, hzl]; rfl))) | ((first | (with_reducible apply CallG.plain1 [129, 289, 0] (a2)) | (with_reducible apply CallG.draw1 [129, 289, 0] (a2))); (focus ((try refine And.intro (leAs_of_eq rfl) ?_); (try refine And.intro (leOL_of_eq rfl) ?_); simp (maxSteps := 9999999) (disch := omega) only [go_sem, h1, hn, hzz, s.ren, hf1, hzl]; first | done | (repeat' (first | rfl | (refine And.intro ?_ ?_))))); (focus (simp (maxSteps := 9999999) (disch := omega) only [go_sem, h1, hn, hzz, s.ren, hf1, hzl]; rfl))) | ((first | (with_reducible apply CallG.plain1 [129, 449] (l1)) | (with_reducible apply CallG.draw1 [129, 449] (l1))); (focus ((try refine And.intro (leAs_of_eq rfl) ?_); (try refine And.intro (leOL_of_eq rfl) ?_); simp (maxSteps := 9999999) (disch := omega) only [go_sem, h1, hn, hzz, s.ren, hf1, hzl]; first | done | (repeat' (first | rfl | (refine And.intro ?_ ?_))))); (focus (simp (maxSteps := 9999999) (disch := omega) only [go_sem, h1, hn, hzz, s.ren, hf1, hzl]; rfl))) | ((first | (with_reducible apply CallG.plain1 [] (speaks06)) | (with_reducible apply CallG.plain1 [] (dnew_any)) | (with_reducible apply CallG.draw1 [] (speaks06)) | (with_reducible apply CallG.draw1 [] (dnew_any))); (focus ((try refine And.intro (leAs_of_eq rfl) ?_); (try refine And.intro (leOL_of_eq rfl) ?_); simp (maxSteps := 9999999) (disch := omega) only [go_sem, h1, hn, hzz, s.ren, hf1, hzl]; first | done | (repeat' (first | rfl | (refine And.intro ?_ ?_))))); (focus (simp (maxSteps := 9999999) (disch := omega) only [go_sem, h1, hn, hzz, s.ren, hf1, hzl]; rfl)))); (try simp (maxSteps := 9999999) (disch := omega) only [go_sem, h1, hn, hzz, s.ren, hf1, hzl]); (try (refine And.intro ?_ ?_; (focus (first | omega | (simp only [go_sem]; done) | (simp; done) | (simp; omega) | assumption))))) | ((first | refine CondP.split (fun hif => ?_) (fun hif => ?_) | refine Runs.part (fun hif => ?_) (fun hif => ?_)) <;> ((try simp only [hif]); (try simp only [decide_eq_true_eq, decide_eq_false_iff_not, Bool.not_eq_true, Bool.not_eq_false, Bool.not_eq_true', Bool.not_eq_false', beq_iff_eq, bne_iff_ne, bne_eq_false_iff_eq, beq_eq_false_iff_ne, ne_eq, Bool.and_eq_true, Bool.or_eq_true, Bool.or_eq_false_iff] at hif); (try (have h9 : _ = true := hif; simp only [h9])); (try (have h9 : _ = false := hif; simp only [h9])); (try simp (maxSteps := 9999999) (disch := omega) only [go_sem, h1, hn, hzz, s.ren, hf1, hzl]); (try (refine And.intro ?_ ?_; (focus (first | omega | (simp only [go_sem]; done) | (simp; done) | (simp; omega) | assumption)))); (try (exfalso; omega; done))))))
    all_goals (refine TopPost.of (by first | exact .inl rfl | exact .inr rfl) (by (try simp (maxSteps := 9999999) (disch := omega) only [go_sem]); rfl) ?_; (try simp (maxSteps := 9999999) (disch := omega) only [go_sem]); (try (first | trivial | decide | (simp; done))))
  · have hf1 : ((1048576 : Int) - (n : Int) < (L.length : Int)) = False := eq_false (by omega)
    have q2 := appD_ok (d := ⟨z, 0, false, -1⟩) (b := L) rfl (by simp only; omega) rfl
    have a2 := dapp_to hok s q2.1 q2.2
    have hl2 : (z ++ L).length = n + L.length := by rw [List.length_append, hzl]
    have hok2 : (⟨z ++ L, 0, false, -1⟩ : Dk).ok := ⟨by simp, by simp only; omega, by simp, by simp⟩
    have l2 := dlen_any ⟨z ++ L, 0, false, -1⟩
    have a3 := dsync_to (d := ⟨z ++ L, 0, false, -1⟩) (d' := ⟨z ++ L, (z ++ L).length, false, -1⟩) (e := 0) hok2 rfl rfl
    have a4 := dsafe_any ⟨z ++ L, (z ++ L).length, false, -1⟩
    simp only [hzl, hl2] at a2 l2 a3 a4
    refine top_call c3_ok Try.func3 rfl Try.ntmps3 res3_ok [ .val (.int .u8 over), .val (.slice ad L.length cap)] (by simp) (by (repeat' (first | exact VRs_nil' _ | exact VR_val' _ _ | (refine VRs_cons' ?_ ?_) | (refine VR_agg' rfl ?_; simp [Value.oneCell'])))) ?_; try simp (maxSteps := 9999999) (disch := omega) only [go_sem]
    refine AWpA.thawT 1 (fun n : Int => [.val (.int .u8 n)]) hz (fun _ => rfl) rfl ?_
    generalize hP : rowsC off (fun n : Int => [.val (.int .u8 n)]) L = P at s a2
    (repeat' (first | refine AWpA.seq ?_ | refine AWpA.block ?_ | (with_reducible refine CondP.tt ?_) | (with_reducible refine CondP.ff ?_) | refine AWpA.condv (by simp (maxSteps := 9999999) (disch := omega) only [go_sem, h1, hn, hzz, s.ren, hf1, hzl]; rfl) ?_ | ((first | (apply AWpA.region; (focus (simp (maxSteps := 9999999) (disch := omega) only [go_sem, h1, hn, hzz, s.ren, hf1, hzl]; rfl))) | (apply AWpA.draw [] follows; (focus (simp (maxSteps := 9999999) (disch := omega) only [go_sem, h1, hn, hzz, s.ren, hf1, hzl]; rfl)); (focus (simp (maxSteps := 9999999) (disch := omega) only [go_sem, h1, hn, hzz, s.ren, hf1, hzl]; first | done | trivial)); (focus (simp (maxSteps := 9999999) (disch := omega) only [go_sem, h1, hn, hzz, s.ren, hf1, hzl]; rfl))) | (apply TailK.go; (focus (simp (maxSteps := 9999999) (disch := omega) only [go_sem, h1, hn, hzz, s.ren, hf1, hzl]; rfl))) | refine AWpA.skip ?_ | refine AWpA.exit ?_ | refine AWpA.ret ?_ | (with_reducible refine ARoundsA.succ ?_) | ((first | refine Runs.kt (by assumption) (fun h9 => ?_) | refine Runs.kf (by assumption) (fun h9 => ?_) | refine Runs.nt (by assumption) (fun h9 => ?_) | refine Runs.nf (by assumption) (fun h9 => ?_) | refine CondP.ht (by assumption) (fun h9 => ?_) | refine CondP.hf (by assumption) (fun h9 => ?_) | refine CondP.nt (by assumption) (fun h9 => ?_) | refine CondP.nf (by assumption) (fun h9 => ?_)); (try simp only [h9]); clear h9) | ((first | (with_reducible apply CallG.plain1 [129, 130, 273] (a1)) | (with_reducible apply CallG.draw1 [129, 130, 273] (a1))); (focus ((try refine And.intro (leAs_of_eq rfl) ?_); (try refine And.intro (leOL_of_eq rfl) ?_); simp (maxSteps := 9999999) (disch := omega) only [go_sem, h1, hn, hzz, s.ren, hf1, hzl]; first | done | (repeat' (first | rfl | (refine And.intro ?_ ?_))))); (focus (simp (maxSteps := 9999999) (disch := omega) only [go_sem, h1, hn, hzz, s.ren, hf1, hzl]; rfl))) | ((first | (with_reducible apply CallG.plain1 [129, 289] (l1)) | (with_reducible apply CallG.draw1 [129, 289] (l1))); (focus ((try refine And.intro (leAs_of_eq rfl) ?_); (try refine And.intro (leOL_of_eq rfl) ?_); simp (maxSteps := 9999999) (disch := omega) only [go_sem, h1, hn, hzz, s.ren, hf1, hzl]; first | done | (repeat' (first | rfl | (refine And.intro ?_ ?_))))); (focus (simp (maxSteps := 9999999) (disch := omega) only [go_sem, h1, hn, hzz, s.ren, hf1, hzl]; rfl))) | ((first | (with_reducible apply CallG.plain1 [129, 289, 0] (a2)) | (with_reducible apply CallG.draw1 [129, 289, 0] (a2))); (focus ((try refine And.intro (leAs_of_eq rfl) ?_); (try refine And.intro (leOL_of_eq rfl) ?_); simp (maxSteps := 9999999) (disch := omega) only [go_sem, h1, hn, hzz, s.ren, hf1, hzl]; first | done | (repeat' (first | rfl | (refine And.intro ?_ ?_))))); (focus (simp (maxSteps := 9999999) (disch := omega) only [go_sem, h1, hn, hzz, s.ren, hf1, hzl]; rfl))) | ((first | (with_reducible apply CallG.plain1 [129, 449] (l2)) | (with_reducible apply CallG.draw1 [129, 449] (l2))); (focus ((try refine And.intro (leAs_of_eq rfl) ?_); (try refine And.intro (leOL_of_eq rfl) ?_); simp (maxSteps := 9999999) (disch := omega) only [go_sem, h1, hn, hzz, s.ren, hf1, hzl]; first | done | (repeat' (first | rfl | (refine And.intro ?_ ?_))))); (focus (simp (maxSteps := 9999999) (disch := omega) only [go_sem, h1, hn, hzz, s.ren, hf1, hzl]; rfl))) | ((first | (with_reducible apply CallG.plain1 [] (speaks06)) | (with_reducible apply CallG.plain1 [] (dnew_any)) | (with_reducible apply CallG.plain1 [129, 449] (a3)) | (with_reducible apply CallG.plain1 [129] (a4)) | (with_reducible apply CallG.draw1 [] (speaks06)) | (with_reducible apply CallG.draw1 [] (dnew_any)) | (with_reducible apply CallG.draw1 [129, 449] (a3)) | (with_reducible apply CallG.draw1 [129] (a4))); (focus ((try refine And.intro (leAs_of_eq rfl) ?_); (try refine And.intro (leOL_of_eq rfl) ?_); simp (maxSteps := 9999999) (disch := omega) only [go_sem, h1, hn, hzz, s.ren, hf1, hzl]; first | done | (repeat' (first | rfl | (refine And.intro ?_ ?_))))); (focus (simp (maxSteps := 9999999) (disch := omega) only [go_sem, h1, hn, hzz, s.ren, hf1, hzl]; rfl)))); (try simp (maxSteps := 9999999) (disch := omega) only [go_sem, h1, hn, hzz, s.ren, hf1, hzl]); (try (refine And.intro ?_ ?_; (focus (first | omega | (simp only [go_sem]; done) | (simp; done) | (simp; omega) | assumption))))) | ((first | refine CondP.split (fun hif => ?_) (fun hif => ?_) | refine Runs.part (fun hif => ?_) (fun hif => ?_)) <;> ((try simp only [hif]); (try simp only [decide_eq_true_eq, decide_eq_false_iff_not, Bool.not_eq_true, Bool.not_eq_false, Bool.not_eq_true', Bool.not_eq_false', beq_iff_eq, bne_iff_ne, bne_eq_false_iff_eq, beq_eq_false_iff_ne, ne_eq, Bool.and_eq_true, Bool.or_eq_true, Bool.or_eq_false_iff] at hif); (try (have h9 : _ = true := hif; simp only [h9])); (try (have h9 : _ = false := hif; simp only [h9])); (try simp (maxSteps := 9999999) (disch := omega) only [go_sem, h1, hn, hzz, s.ren, hf1, hzl]); (try (refine And.intro ?_ ?_; (focus (first | omega | (simp only [go_sem]; done) | (simp; done) | (simp; omega) | assumption)))); (try (exfalso; omega; done))))))
    all_goals (refine TopPost.of (by first | exact .inl rfl | exact .inr rfl) (by (try simp (maxSteps := 9999999) (disch := omega) only [go_sem]); rfl) ?_; (try simp (maxSteps := 9999999) (disch := omega) only [go_sem]); (try (first | trivial | decide | (simp; done))))
end Go.Proofs.Ytnadhhmlehifnaa
