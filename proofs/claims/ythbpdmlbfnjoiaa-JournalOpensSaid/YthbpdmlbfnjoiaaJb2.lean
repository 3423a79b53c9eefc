/- The walk of JournalOpens. -/
import Derived.Test.YthbpdmlbfnjoiaaJb1
namespace Go.Proofs.Ythbpdmlbfnjoiaa
set_option linter.unusedSimpArgs false
set_option linter.unusedVariables false
set_option maxHeartbeats 4000000
open Go Go.Am Go.RowKit Go.ChangeShapes Go.WideShapes Go.ChangeAt Go.Crc
set_option linter.unusedSimpArgs false
set_option maxHeartbeats 4000000
set_option maxRecDepth 100000
/- quidnunc/quidnunclaw07.JournalOpens -/
noncomputable def c9_1 : ACode := .region false [⟨some 4, .move, [.c (.val (.bool false))], none⟩] [] [] [0, 1] false [] []
noncomputable def c9_4 : ACode := .region false [⟨some 14, .call 24, [], none⟩,
  ⟨some 15, .un .not, [.t 14], none⟩,
  ⟨some 16, .move, [.t 15], none⟩,
  ⟨some 17, .move, [.t 0], some (some 16, false)⟩,
  ⟨some 18, .len, [.t 17], some (some 16, false)⟩,
  ⟨some 19, .bin .gtr, [.t 18, .c (.val (.int .i64 2000))], some (some 16, false)⟩,
  ⟨some 20, .pick, [.t 16, .c (.val (.bool true)), .t 19], none⟩] [] [] [0, 1, 20] true [] []
noncomputable def c9_7 : ACode := .region false [⟨some 21, .call 24, [], none⟩,
  ⟨some 4, .move, [.t 21], none⟩] [] [] [4] true [] []
noncomputable def c9_6 : ACode := .seq c9_7 .ret
noncomputable def c9_5 : ACode := .cond (.t 20) c9_6 .skip
noncomputable def c9_3 : ACode := .seq c9_4 c9_5
noncomputable def c9_9 : ACode := .region false [⟨some 22, .call 32, [], none⟩,
  ⟨some 5, .move, [.t 22], none⟩] [] [] [0, 1, 5] true [] []
noncomputable def c9_12 : ACode := .region false [⟨some 23, .move, [.t 5], none⟩,
  ⟨some 24, .move, [.t 0], none⟩,
  ⟨some 25, .call 33, [.t 23, .t 24], none⟩,
  ⟨some 26, .bin .neq, [.t 25, .c (.val (.int .i64 0))], none⟩] [] [] [0, 1, 5, 26] true [] []
noncomputable def c9_15 : ACode := .region false [⟨some 4, .move, [.c (.val (.bool false))], none⟩] [] [] [4] false [] []
noncomputable def c9_14 : ACode := .seq c9_15 .ret
noncomputable def c9_13 : ACode := .cond (.t 26) c9_14 .skip
noncomputable def c9_11 : ACode := .seq c9_12 c9_13
noncomputable def c9_17 : ACode := .region false [⟨some 27, .move, [.t 5], none⟩,
  ⟨some 28, .nilChk, [.t 27], none⟩,
  ⟨some 29, .addr 0, [.t 28], none⟩,
  ⟨some 30, .move, [.t 1], none⟩,
  ⟨some 31, .call 34, [.t 29, .t 30], none⟩] [] [] [0, 1, 5] true [] []
noncomputable def c9_19 : ACode := .region false [⟨some 33, .move, [.t 5], none⟩,
  ⟨some 34, .call 35, [.t 33], none⟩,
  ⟨some 32, .move, [.t 34], none⟩,
  ⟨some 35, .ext 0, [.t 32], none⟩,
  ⟨some 36, .ext 1, [.t 32], none⟩,
  ⟨some 37, .ext 2, [.t 32], none⟩,
  ⟨some 6, .move, [.t 35], none⟩,
  ⟨some 7, .move, [.t 36], none⟩,
  ⟨some 8, .move, [.t 37], none⟩] [] [] [0, 1, 5, 6, 7, 8] true [] []
noncomputable def c9_21 : ACode := .region false [⟨some 39, .move, [.t 0], none⟩,
  ⟨some 40, .call 29, [.t 39], none⟩,
  ⟨some 38, .move, [.t 40], none⟩,
  ⟨some 41, .ext 0, [.t 38], none⟩,
  ⟨some 42, .ext 1, [.t 38], none⟩,
  ⟨some 43, .ext 2, [.t 38], none⟩,
  ⟨some 9, .move, [.t 41], none⟩,
  ⟨some 10, .move, [.t 42], none⟩,
  ⟨some 11, .move, [.t 43], none⟩] [] [] [0, 1, 5, 6, 7, 8, 9, 10, 11] true [] []
noncomputable def c9_24 : ACode := .region false [⟨some 44, .move, [.t 11], none⟩,
  ⟨some 45, .bin .eql, [.t 44, .c (.val (.int .i64 0))], none⟩,
  ⟨some 46, .move, [.t 45], none⟩,
  ⟨some 47, .move, [.t 10], some (some 46, true)⟩,
  ⟨some 48, .move, [.t 0], some (some 46, true)⟩,
  ⟨some 49, .len, [.t 48], some (some 46, true)⟩,
  ⟨some 50, .bin .lss, [.t 47, .t 49], some (some 46, true)⟩,
  ⟨some 51, .pick, [.t 46, .t 50, .c (.val (.bool false))], none⟩,
  ⟨some 52, .move, [.t 51], none⟩,
  ⟨some 53, .move, [.t 1], some (some 52, true)⟩,
  ⟨some 54, .bin .eql, [.t 53, .c (.val (.int .i64 0))], some (some 52, true)⟩,
  ⟨some 55, .pick, [.t 52, .t 54, .c (.val (.bool false))], none⟩] [] [] [0, 5, 6, 7, 8, 9, 10, 11, 55] false [] []
noncomputable def c9_27 : ACode := .region false [⟨some 56, .move, [.t 8], none⟩,
  ⟨some 57, .bin .eql, [.t 56, .c (.val (.int .i64 11))], none⟩,
  ⟨some 58, .move, [.t 57], none⟩,
  ⟨some 59, .move, [.t 6], some (some 58, true)⟩,
  ⟨some 60, .eqP false, [.t 59, .c (.val (.pointer none))], some (some 58, true)⟩,
  ⟨some 61, .pick, [.t 58, .t 60, .c (.val (.bool false))], none⟩,
  ⟨some 62, .move, [.t 61], none⟩,
  ⟨some 63, .move, [.t 7], some (some 62, true)⟩,
  ⟨some 64, .len, [.t 63], some (some 62, true)⟩,
  ⟨some 65, .bin .eql, [.t 64, .c (.val (.int .i64 0))], some (some 62, true)⟩,
  ⟨some 66, .pick, [.t 62, .t 65, .c (.val (.bool false))], none⟩,
  ⟨some 67, .move, [.t 66], none⟩,
  ⟨some 68, .move, [.t 5], some (some 67, true)⟩,
  ⟨some 69, .nilChk, [.t 68], some (some 67, true)⟩,
  ⟨some 70, .addr 0, [.t 69], some (some 67, true)⟩,
  ⟨some 71, .call 36, [.t 70], some (some 67, true)⟩,
  ⟨some 72, .un .not, [.t 71], some (some 67, true)⟩,
  ⟨some 73, .pick, [.t 67, .t 72, .c (.val (.bool false))], none⟩,
  ⟨some 74, .move, [.t 73], none⟩,
  ⟨some 75, .move, [.t 5], some (some 74, true)⟩,
  ⟨some 76, .call 37, [.t 75], some (some 74, true)⟩,
  ⟨some 77, .move, [.t 0], some (some 74, true)⟩,
  ⟨some 78, .len, [.t 77], some (some 74, true)⟩,
  ⟨some 79, .bin .eql, [.t 76, .t 78], some (some 74, true)⟩,
  ⟨some 80, .pick, [.t 74, .t 79, .c (.val (.bool false))], none⟩,
  ⟨some 4, .move, [.t 80], none⟩] [] [] [4] true [] []
noncomputable def c9_26 : ACode := .seq c9_27 .ret
noncomputable def c9_25 : ACode := .cond (.t 55) c9_26 .skip
noncomputable def c9_23 : ACode := .seq c9_24 c9_25
noncomputable def c9_30 : ACode := .region false [⟨some 81, .move, [.t 11], none⟩,
  ⟨some 82, .bin .neq, [.t 81, .c (.val (.int .i64 0))], none⟩] [] [] [0, 5, 6, 7, 8, 9, 10, 11, 82] false [] []
noncomputable def c9_33 : ACode := .region false [⟨some 83, .move, [.t 8], none⟩,
  ⟨some 84, .move, [.t 11], none⟩,
  ⟨some 85, .bin .eql, [.t 83, .t 84], none⟩,
  ⟨some 86, .move, [.t 85], none⟩,
  ⟨some 87, .move, [.t 6], some (some 86, true)⟩,
  ⟨some 88, .eqP false, [.t 87, .c (.val (.pointer none))], some (some 86, true)⟩,
  ⟨some 89, .pick, [.t 86, .t 88, .c (.val (.bool false))], none⟩,
  ⟨some 90, .move, [.t 89], none⟩,
  ⟨some 91, .move, [.t 7], some (some 90, true)⟩,
  ⟨some 92, .len, [.t 91], some (some 90, true)⟩,
  ⟨some 93, .bin .eql, [.t 92, .c (.val (.int .i64 0))], some (some 90, true)⟩,
  ⟨some 94, .pick, [.t 90, .t 93, .c (.val (.bool false))], none⟩,
  ⟨some 95, .move, [.t 94], none⟩,
  ⟨some 96, .move, [.t 5], some (some 95, true)⟩,
  ⟨some 97, .call 37, [.t 96], some (some 95, true)⟩,
  ⟨some 98, .move, [.t 0], some (some 95, true)⟩,
  ⟨some 99, .len, [.t 98], some (some 95, true)⟩,
  ⟨some 100, .bin .eql, [.t 97, .t 99], some (some 95, true)⟩,
  ⟨some 101, .pick, [.t 95, .t 100, .c (.val (.bool false))], none⟩,
  ⟨some 4, .move, [.t 101], none⟩] [] [] [4] true [] []
noncomputable def c9_32 : ACode := .seq c9_33 .ret
noncomputable def c9_31 : ACode := .cond (.t 82) c9_32 .skip
noncomputable def c9_29 : ACode := .seq c9_30 c9_31
noncomputable def c9_35 : ACode := .region false [⟨some 103, .move, [.t 5], none⟩,
  ⟨some 104, .call 38, [.t 103], none⟩,
  ⟨some 102, .move, [.t 104], none⟩,
  ⟨some 105, .ext 0, [.t 102], none⟩,
  ⟨some 106, .ext 1, [.t 102], none⟩,
  ⟨some 12, .move, [.t 105], none⟩,
  ⟨some 13, .move, [.t 106], none⟩] [] [] [0, 6, 7, 8, 9, 10, 12, 13] true [] []
noncomputable def c9_37 : ACode := .region true [⟨some 107, .move, [.t 8], none⟩,
  ⟨some 108, .bin .eql, [.t 107, .c (.val (.int .i64 0))], none⟩,
  ⟨some 109, .move, [.t 108], none⟩,
  ⟨some 110, .move, [.t 6], some (some 109, true)⟩,
  ⟨some 111, .eqP true, [.t 110, .c (.val (.pointer none))], some (some 109, true)⟩,
  ⟨some 112, .pick, [.t 109, .t 111, .c (.val (.bool false))], none⟩,
  ⟨some 113, .move, [.t 112], none⟩,
  ⟨some 114, .move, [.t 7], some (some 113, true)⟩,
  ⟨some 115, .move, [.t 9], some (some 113, true)⟩,
  ⟨some 116, .call 30, [.t 114, .t 115], some (some 113, true)⟩,
  ⟨some 117, .pick, [.t 113, .t 116, .c (.val (.bool false))], none⟩,
  ⟨some 118, .move, [.t 117], none⟩,
  ⟨some 119, .move, [.t 6], some (some 118, true)⟩,
  ⟨some 120, .call 39, [.t 119], some (some 118, true)⟩,
  ⟨some 121, .move, [.t 9], some (some 118, true)⟩,
  ⟨some 122, .len, [.t 121], some (some 118, true)⟩,
  ⟨some 123, .bin .eql, [.t 120, .t 122], some (some 118, true)⟩,
  ⟨some 124, .pick, [.t 118, .t 123, .c (.val (.bool false))], none⟩,
  ⟨some 125, .move, [.t 124], none⟩,
  ⟨some 126, .move, [.t 13], some (some 125, true)⟩,
  ⟨some 127, .bin .eql, [.t 126, .c (.val (.int .i64 0))], some (some 125, true)⟩,
  ⟨some 128, .pick, [.t 125, .t 127, .c (.val (.bool false))], none⟩,
  ⟨some 129, .move, [.t 128], none⟩,
  ⟨some 130, .move, [.t 12], some (some 129, true)⟩,
  ⟨some 131, .toStr, [.t 130], some (some 129, true)⟩,
  ⟨some 132, .move, [.t 0], some (some 129, true)⟩,
  ⟨some 133, .move, [.t 10], some (some 129, true)⟩,
  ⟨some 134, .slS 1 false true false, [.t 132, .t 133], some (some 129, true)⟩,
  ⟨some 135, .toStr, [.t 134], some (some 129, true)⟩,
  ⟨some 136, .bin .eql, [.t 131, .t 135], some (some 129, true)⟩,
  ⟨some 137, .pick, [.t 129, .t 136, .c (.val (.bool false))], none⟩,
  ⟨some 4, .move, [.t 137], none⟩] [] [] [4] true [] []
noncomputable def c9_36 : ACode := .seq c9_37 .ret
noncomputable def c9_34 : ACode := .seq c9_35 c9_36
noncomputable def c9_28 : ACode := .seq c9_29 c9_34
noncomputable def c9_22 : ACode := .seq c9_23 c9_28
noncomputable def c9_20 : ACode := .seq c9_21 c9_22
noncomputable def c9_18 : ACode := .seq c9_19 c9_20
noncomputable def c9_16 : ACode := .seq c9_17 c9_18
noncomputable def c9_10 : ACode := .seq c9_11 c9_16
noncomputable def c9_8 : ACode := .seq c9_9 c9_10
noncomputable def c9_2 : ACode := .seq c9_3 c9_8
noncomputable def c9_0 : ACode := .seq c9_1 c9_2
noncomputable def code9 : Code := (Try.f9.body).getD .skip
theorem c9_ok : compC Try.prog 138 code9 = some (strip c9_0) := by kernel_rfl
theorem res9_ok : Try.f9.results.toList.mapM (resC Try.prog) = some [(4, none)] := by kernel_rfl
theorem app_ok {d : Dk} {b : List Int} (ho : d.off = false) (hw : d.l.length + b.length ≤ 1048576) (hl : d.left = -1) : doE d (appW d b.length) = 0 ∧ doD d (appW d b.length) (appF b) = { d with l := d.l ++ b } := by
  have e : appW d b.length = 0 := by unfold appW; rw [if_pos (by omega)]
  rw [e]
  unfold doE doD
  simp [ho, hl, appF, leftU]
theorem jopens_walk (W : World) (x : Sl Int) (fu : Int) (hf : IntKind.i64.min ≤ fu ∧ fu ≤ IntKind.i64.max) (hx : x.ok W 1 (fun n : Int => [.int .u8 n]) (fun n : Int => IntKind.u8.min ≤ n ∧ n ≤ IntKind.u8.max)) :
    Calls Try.prog 9 #[.slice x.ad x.l.length x.cap, .int .i64 fu] W fun e W' => e = .returned (.bool true) ∧ Below W.heap.size W W' := by
  have hfx := frz_bytes hx.fz
  have hby : ∀ c ∈ x.l, 0 ≤ c ∧ c ≤ 255 := hx.all
  have hf2 : fu ≤ 9223372036854775807 := hf.2
  by_cases h1 : 2000 < x.l.length
  · have g1 : ((2000 : Int) < (x.l.length : Int)) = True := eq_true (by omega)
    refine top_call c9_ok Try.func9 rfl Try.ntmps9 res9_ok [ .val (.slice x.ad x.l.length x.cap), I fu] (by simp) (by (repeat' (first | exact VRs_nil' _ | exact VR_val' _ _ | (refine VRs_cons' ?_ ?_) | (refine VR_agg' (by first | rfl | assumption) ?_; first | assumption | simp [Value.oneCell'])))) ?_; try simp (maxSteps := 9999999) (disch := omega) only [go_sem]
    (have k9 := And.intro @g1 (k0); (repeat' (first | refine AWpA.seq ?_ | refine AWpA.block ?_ | (with_reducible refine CondP.tt ?_) | (with_reducible refine CondP.ff ?_) | refine AWpA.cg ?_ | ((first | refine AWpA.rg ?_ | refine AWpA.dg [] [] follows ?_ | refine TailK.tg ?_ | refine AWpA.skip ?_ | refine AWpA.exit ?_ | refine AWpA.ret ?_ | (with_reducible refine ARoundsA.succ ?_) | ((first | refine Runs.gkt (fun h9 => ?_) | refine Runs.gkf (fun h9 => ?_) | refine Runs.gnt (fun h9 => ?_) | refine Runs.gnf (fun h9 => ?_) | refine CondP.gt (fun h9 => ?_) | refine CondP.gf (fun h9 => ?_) | refine CondP.gnt (fun h9 => ?_) | refine CondP.gnf (fun h9 => ?_)); (try simp only [h9]); clear h9) | refine CallG.pg [] (speaks07_any) ?_ | refine CallG.dg [] (speaks07_any) ?_); (try simp (maxSteps := 9999999) (disch := omega) only [go_sem, k9]); (try refine cnd ?_)) | ((first | refine CondP.split (fun hif => ?_) (fun hif => ?_) | refine Runs.part (fun hif => ?_) (fun hif => ?_)) <;> ((try simp only [hif]); (try simp only [BL] at hif); (try (have h9 : _ = true := hif; simp only [h9])); (try (have h9 : _ = false := hif; simp only [h9])); (try simp (maxSteps := 9999999) (disch := omega) only [go_sem, k9]); (try refine cnd ?_); (try (exfalso; omega; done)))))); (all_goals (try clear k9)))
    (refine TopPost.of (by first | exact .inl rfl | exact .inr rfl) (by (try simp (maxSteps := 9999999) (disch := omega) only [go_sem]); rfl) ?_; (try simp (maxSteps := 9999999) (disch := omega) only [go_sem]); (try (first | trivial | decide | (simp; done))))
  have g1 : ((2000 : Int) < (x.l.length : Int)) = False := eq_false (by omega)
  refine top_call c9_ok Try.func9 rfl Try.ntmps9 res9_ok [ .val (.slice x.ad x.l.length x.cap), I fu] (by simp) (by (repeat' (first | exact VRs_nil' _ | exact VR_val' _ _ | (refine VRs_cons' ?_ ?_) | (refine VR_agg' (by first | rfl | assumption) ?_; first | assumption | simp [Value.oneCell'])))) ?_; try simp (maxSteps := 9999999) (disch := omega) only [go_sem]
  refine AWpA.frzT 0 rfl hfx ?_
  obtain ⟨_, _, _, b⟩ := x
  simp only at *
  clear hfx hx hf
  obtain ⟨F, hF⟩ : ∃ F : Int, (if -1 > fu then -1 else fu) = F := ⟨_, rfl⟩
  have hF0 : (fu == 0) = (F == 0) := by
    rw [← hF]
    split
    · have : fu ≠ 0 := by omega
      simp [this]
    · rfl
  have hFlo : -1 ≤ F ∧ F ≤ 9223372036854775807 := by rw [← hF]; split <;> omega
  have hok0 : (⟨[], 0, false, -1⟩ : Dk).ok := Dk.ok0
  have a1 := dapp_fz ⟨[], 0, false, -1⟩ hok0 (b := b) rfl (by omega)
  obtain ⟨e1, e2⟩ := app_ok (d := ⟨[], 0, false, -1⟩) (b := b) rfl (by simp; omega) rfl
  rw [e1, e2] at a1
  simp only [List.nil_append] at a1
  have a2 := fuse_any ⟨b, 0, false, -1⟩ fu
  simp only [hF] at a2
  have hok2 : (⟨b, 0, false, F⟩ : Dk).ok := ⟨Nat.zero_le _, by simp only; omega, hFlo.1, hFlo.2⟩
  have r4 := rread_any b (by omega) hby
  obtain ⟨i1, i2, i3⟩ := jread_inv b
  have i4 := jread_sub hby
  have c5 := same_ff (l := (jread b).1) (m := (jread b).1) (by omega) (by omega) i4 i4
  rw [decide_eq_true rfl] at c5
  have l1 := dlen_any ⟨b, 0, false, F⟩
  have l2 := dlen_any ⟨b, 0, true, F⟩
  have n2 := on_any ⟨b, 0, true, F⟩
  cases hz : (jread b).2.2
  case true =>
    have ee : opE ⟨b, 0, false, F⟩ = 12 := by unfold opE; rw [hz]; rfl
    have ed : opD ⟨b, 0, false, F⟩ = ⟨b, 0, false, F⟩ := by unfold opD; rw [hz]; rfl
    have o1 := opens_no ⟨b, 0, false, F⟩ hok2 rfl hby (by rw [ee]; decide)
    rw [ee, ed] at o1
    rw [hz] at r4
    clear ee ed hz
    generalize (jread b).1 = R at *
    generalize (jread b).2.1 = K at *
    (have k9 := And.intro @g1 (And.intro @hF (And.intro @hF0 (And.intro @bA_ren (And.intro @rowsB_ren (k0))))); (repeat' (first | refine AWpA.seq ?_ | refine AWpA.block ?_ | (with_reducible refine CondP.tt ?_) | (with_reducible refine CondP.ff ?_) | refine AWpA.cg ?_ | ((first | refine AWpA.rg ?_ | refine AWpA.dg [] [] follows ?_ | refine TailK.tg ?_ | refine AWpA.skip ?_ | refine AWpA.exit ?_ | refine AWpA.ret ?_ | (with_reducible refine ARoundsA.succ ?_) | ((first | refine Runs.gkt (fun h9 => ?_) | refine Runs.gkf (fun h9 => ?_) | refine Runs.gnt (fun h9 => ?_) | refine Runs.gnf (fun h9 => ?_) | refine CondP.gt (fun h9 => ?_) | refine CondP.gf (fun h9 => ?_) | refine CondP.gnt (fun h9 => ?_) | refine CondP.gnf (fun h9 => ?_)); (try simp only [h9]); clear h9) | refine CallG.pg [] (speaks07_any) ?_ | refine CallG.pg [] (dnew_any) ?_ | refine CallG.pg [128, 129] (a1) ?_ | refine CallG.pg [128, 192] (a2) ?_ | refine CallG.pg [128, 192] (o1) ?_ | refine CallG.pg [] (r4) ?_ | refine CallG.pg [128, 192] (l1) ?_ | refine CallG.dg [] (speaks07_any) ?_ | refine CallG.dg [] (dnew_any) ?_ | refine CallG.dg [128, 129] (a1) ?_ | refine CallG.dg [128, 192] (a2) ?_ | refine CallG.dg [128, 192] (o1) ?_ | refine CallG.dg [] (r4) ?_ | refine CallG.dg [128, 192] (l1) ?_); (try simp (maxSteps := 9999999) (disch := omega) only [go_sem, k9]); (try refine cnd ?_)) | ((first | refine CondP.split (fun hif => ?_) (fun hif => ?_) | refine Runs.part (fun hif => ?_) (fun hif => ?_)) <;> ((try simp only [hif]); (try simp only [BL] at hif); (try (have h9 : _ = true := hif; simp only [h9])); (try (have h9 : _ = false := hif; simp only [h9])); (try simp (maxSteps := 9999999) (disch := omega) only [go_sem, k9]); (try refine cnd ?_); (try (exfalso; omega; done)))))); (all_goals (try clear k9)))
    all_goals (refine TopPost.of (by first | exact .inl rfl | exact .inr rfl) (by (try simp (maxSteps := 9999999) (disch := omega) only [go_sem]); rfl) ?_; (try simp (maxSteps := 9999999) (disch := omega) only [go_sem]); (try (first | trivial | decide | (simp; done))))
  rw [hz] at r4
  by_cases hk : (jread b).2.1 < b.length
  · by_cases hf0 : F = 0
    · subst hf0
      have ee : opE ⟨b, 0, false, 0⟩ = 11 := by unfold opE; rw [hz]; simp only [Bool.false_eq_true, if_false]; rw [if_pos hk]; rfl
      have ed : opD ⟨b, 0, false, 0⟩ = ⟨b, 0, true, 0⟩ := by unfold opD; rw [hz]; simp only [Bool.false_eq_true, if_false]; rw [if_pos hk]; rfl
      have o1 := opens_no ⟨b, 0, false, 0⟩ hok2 rfl hby (by rw [ee]; decide)
      rw [ee, ed] at o1
      clear ee ed hz
      generalize (jread b).1 = R at *
      generalize (jread b).2.1 = K at *
      have g2 : ((K : Int) < (b.length : Int)) = True := eq_true (by omega)
      have g3 : (fu == 0) = true := by rw [hF0]; rfl
      (have k9 := And.intro @g1 (And.intro @g2 (And.intro @hF (And.intro @g3 (And.intro @bA_ren (And.intro @rowsB_ren (k0)))))); (repeat' (first | refine AWpA.seq ?_ | refine AWpA.block ?_ | (with_reducible refine CondP.tt ?_) | (with_reducible refine CondP.ff ?_) | refine AWpA.cg ?_ | ((first | refine AWpA.rg ?_ | refine AWpA.dg [] [] follows ?_ | refine TailK.tg ?_ | refine AWpA.skip ?_ | refine AWpA.exit ?_ | refine AWpA.ret ?_ | (with_reducible refine ARoundsA.succ ?_) | ((first | refine Runs.gkt (fun h9 => ?_) | refine Runs.gkf (fun h9 => ?_) | refine Runs.gnt (fun h9 => ?_) | refine Runs.gnf (fun h9 => ?_) | refine CondP.gt (fun h9 => ?_) | refine CondP.gf (fun h9 => ?_) | refine CondP.gnt (fun h9 => ?_) | refine CondP.gnf (fun h9 => ?_)); (try simp only [h9]); clear h9) | refine CallG.pg [] (speaks07_any) ?_ | refine CallG.pg [] (dnew_any) ?_ | refine CallG.pg [128, 129] (a1) ?_ | refine CallG.pg [128, 192] (a2) ?_ | refine CallG.pg [128, 192] (o1) ?_ | refine CallG.pg [] (r4) ?_ | refine CallG.pg [128, 192] (l2) ?_ | refine CallG.pg [128] (n2) ?_ | refine CallG.dg [] (speaks07_any) ?_ | refine CallG.dg [] (dnew_any) ?_ | refine CallG.dg [128, 129] (a1) ?_ | refine CallG.dg [128, 192] (a2) ?_ | refine CallG.dg [128, 192] (o1) ?_ | refine CallG.dg [] (r4) ?_ | refine CallG.dg [128, 192] (l2) ?_ | refine CallG.dg [128] (n2) ?_); (try simp (maxSteps := 9999999) (disch := omega) only [go_sem, k9]); (try refine cnd ?_)) | ((first | refine CondP.split (fun hif => ?_) (fun hif => ?_) | refine Runs.part (fun hif => ?_) (fun hif => ?_)) <;> ((try simp only [hif]); (try simp only [BL] at hif); (try (have h9 : _ = true := hif; simp only [h9])); (try (have h9 : _ = false := hif; simp only [h9])); (try simp (maxSteps := 9999999) (disch := omega) only [go_sem, k9]); (try refine cnd ?_); (try (exfalso; omega; done)))))); (all_goals (try clear k9)))
      all_goals (refine TopPost.of (by first | exact .inl rfl | exact .inr rfl) (by (try simp (maxSteps := 9999999) (disch := omega) only [go_sem]); rfl) ?_; (try simp (maxSteps := 9999999) (disch := omega) only [go_sem]); (try (first | trivial | decide | (simp; done))))
    · have ee : opE ⟨b, 0, false, F⟩ = 0 := by unfold opE; rw [hz]; simp only [Bool.false_eq_true, if_false]; rw [if_pos hk, if_neg hf0]
      have ed : opD ⟨b, 0, false, F⟩ = ⟨b.take (jread b).2.1, 0, false, leftU F⟩ := by unfold opD; rw [hz]; simp only [Bool.false_eq_true, if_false]; rw [if_pos hk, if_neg hf0]; simp [trimF]
      have o1 := opens_ok ⟨b, 0, false, F⟩ hok2 rfl hby ee
      rw [ed] at o1
      have hu := leftU_ok hFlo.1 hFlo.2
      have hok3 : (⟨b.take (jread b).2.1, 0, false, leftU F⟩ : Dk).ok := ⟨Nat.zero_le _, by simp only [List.length_take]; omega, hu.1, hu.2⟩
      have d1 := dread_to hok3 (l := b.take (jread b).2.1) (e := 0) rfl rfl
      have n3 := jlen_any (jread b).1.length
      have hs := ba_self (b.take (jread b).2.1)
      have htl : (b.take (jread b).2.1).length = (jread b).2.1 := by rw [List.length_take]; omega
      clear ee ed hz hok3
      simp only [htl] at o1 d1
      generalize (jread b).1 = R at *
      generalize (jread b).2.1 = K at *
      have g2 : ((K : Int) < (b.length : Int)) = True := eq_true (by omega)
      have g3 : (fu == 0) = false := by rw [hF0]; simpa using hf0
      have g4 : (K ≤ b.length) = True := eq_true i1
      have htt : (b.take K).take K = b.take K := List.take_of_length_le (by omega)
      (have k9 := And.intro @g1 (And.intro @g2 (And.intro @hF (And.intro @g3 (And.intro @g4 (And.intro @hs (And.intro @htl (And.intro @htt (And.intro @bA_ren (And.intro @rowsB_ren (k0)))))))))); (repeat' (first | (refine AWpA.freeze0 832 12 rfl rfl ?_ ?_; (focus ((try simp (maxSteps := 9999999) (disch := omega) only [go_sem, k9]); first | done | omega))) | refine AWpA.seq ?_ | refine AWpA.block ?_ | (with_reducible refine CondP.tt ?_) | (with_reducible refine CondP.ff ?_) | refine AWpA.cg ?_ | ((first | refine AWpA.rg ?_ | refine AWpA.dg [] [] follows ?_ | refine TailK.tg ?_ | refine AWpA.skip ?_ | refine AWpA.exit ?_ | refine AWpA.ret ?_ | (with_reducible refine ARoundsA.succ ?_) | ((first | refine Runs.gkt (fun h9 => ?_) | refine Runs.gkf (fun h9 => ?_) | refine Runs.gnt (fun h9 => ?_) | refine Runs.gnf (fun h9 => ?_) | refine CondP.gt (fun h9 => ?_) | refine CondP.gf (fun h9 => ?_) | refine CondP.gnt (fun h9 => ?_) | refine CondP.gnf (fun h9 => ?_)); (try simp only [h9]); clear h9) | refine CallG.pg [] (speaks07_any) ?_ | refine CallG.pg [] (dnew_any) ?_ | refine CallG.pg [128, 129] (a1) ?_ | refine CallG.pg [128, 192] (a2) ?_ | refine CallG.pg [128, 192] (o1) ?_ | refine CallG.pg [] (r4) ?_ | refine CallG.pg [128, 192] (d1) ?_ | refine CallG.pg [] (c5) ?_ | refine CallG.pg [320] (n3) ?_ | refine CallG.dg [] (speaks07_any) ?_ | refine CallG.dg [] (dnew_any) ?_ | refine CallG.dg [128, 129] (a1) ?_ | refine CallG.dg [128, 192] (a2) ?_ | refine CallG.dg [128, 192] (o1) ?_ | refine CallG.dg [] (r4) ?_ | refine CallG.dg [128, 192] (d1) ?_ | refine CallG.dg [] (c5) ?_ | refine CallG.dg [320] (n3) ?_); (try simp (maxSteps := 9999999) (disch := omega) only [go_sem, k9]); (try refine cnd ?_)) | ((first | refine CondP.split (fun hif => ?_) (fun hif => ?_) | refine Runs.part (fun hif => ?_) (fun hif => ?_)) <;> ((try simp only [hif]); (try simp only [BL] at hif); (try (have h9 : _ = true := hif; simp only [h9])); (try (have h9 : _ = false := hif; simp only [h9])); (try simp (maxSteps := 9999999) (disch := omega) only [go_sem, k9]); (try refine cnd ?_); (try (exfalso; omega; done)))))); (all_goals (try clear k9)))
      all_goals (refine TopPost.of (by first | exact .inl rfl | exact .inr rfl) (by (try simp (maxSteps := 9999999) (disch := omega) only [go_sem]); rfl) ?_; (try simp (maxSteps := 9999999) (disch := omega) only [go_sem]); (try (first | trivial | decide | (simp; done))))
  · have ee : opE ⟨b, 0, false, F⟩ = 0 := by unfold opE; rw [hz]; simp only [Bool.false_eq_true, if_false]; rw [if_neg hk]
    have ed : opD ⟨b, 0, false, F⟩ = ⟨b, 0, false, F⟩ := by unfold opD; rw [hz]; simp only [Bool.false_eq_true, if_false]; rw [if_neg hk]
    have o1 := opens_ok ⟨b, 0, false, F⟩ hok2 rfl hby ee
    rw [ed] at o1
    have d1 := dread_to hok2 (l := b) (e := 0) rfl rfl
    have n3 := jlen_any (jread b).1.length
    have hs := ba_self b
    have hK : (jread b).2.1 = b.length := by omega
    clear ee ed hz
    generalize (jread b).1 = R at *
    rw [hK] at r4 hk
    have g2 : ((b.length : Int) < (b.length : Int)) = False := eq_false (by omega)
    (have k9 := And.intro @g1 (And.intro @g2 (And.intro @hF (And.intro @hs (And.intro @bA_ren (And.intro @rowsB_ren (k0)))))); (repeat' (first | (refine AWpA.freeze0 832 12 rfl rfl ?_ ?_; (focus ((try simp (maxSteps := 9999999) (disch := omega) only [go_sem, k9]); first | done | omega))) | refine AWpA.seq ?_ | refine AWpA.block ?_ | (with_reducible refine CondP.tt ?_) | (with_reducible refine CondP.ff ?_) | refine AWpA.cg ?_ | ((first | refine AWpA.rg ?_ | refine AWpA.dg [] [] follows ?_ | refine TailK.tg ?_ | refine AWpA.skip ?_ | refine AWpA.exit ?_ | refine AWpA.ret ?_ | (with_reducible refine ARoundsA.succ ?_) | ((first | refine Runs.gkt (fun h9 => ?_) | refine Runs.gkf (fun h9 => ?_) | refine Runs.gnt (fun h9 => ?_) | refine Runs.gnf (fun h9 => ?_) | refine CondP.gt (fun h9 => ?_) | refine CondP.gf (fun h9 => ?_) | refine CondP.gnt (fun h9 => ?_) | refine CondP.gnf (fun h9 => ?_)); (try simp only [h9]); clear h9) | refine CallG.pg [] (speaks07_any) ?_ | refine CallG.pg [] (dnew_any) ?_ | refine CallG.pg [128, 129] (a1) ?_ | refine CallG.pg [128, 192] (a2) ?_ | refine CallG.pg [128, 192] (o1) ?_ | refine CallG.pg [] (r4) ?_ | refine CallG.pg [128, 192] (d1) ?_ | refine CallG.pg [] (c5) ?_ | refine CallG.pg [320] (n3) ?_ | refine CallG.dg [] (speaks07_any) ?_ | refine CallG.dg [] (dnew_any) ?_ | refine CallG.dg [128, 129] (a1) ?_ | refine CallG.dg [128, 192] (a2) ?_ | refine CallG.dg [128, 192] (o1) ?_ | refine CallG.dg [] (r4) ?_ | refine CallG.dg [128, 192] (d1) ?_ | refine CallG.dg [] (c5) ?_ | refine CallG.dg [320] (n3) ?_); (try simp (maxSteps := 9999999) (disch := omega) only [go_sem, k9]); (try refine cnd ?_)) | ((first | refine CondP.split (fun hif => ?_) (fun hif => ?_) | refine Runs.part (fun hif => ?_) (fun hif => ?_)) <;> ((try simp only [hif]); (try simp only [BL] at hif); (try (have h9 : _ = true := hif; simp only [h9])); (try (have h9 : _ = false := hif; simp only [h9])); (try simp (maxSteps := 9999999) (disch := omega) only [go_sem, k9]); (try refine cnd ?_); (try (exfalso; omega; done)))))); (all_goals (try clear k9)))
    all_goals (refine TopPost.of (by first | exact .inl rfl | exact .inr rfl) (by (try simp (maxSteps := 9999999) (disch := omega) only [go_sem]); rfl) ?_; (try simp (maxSteps := 9999999) (disch := omega) only [go_sem]); (try (first | trivial | decide | (simp; done))))
end Go.Proofs.Ythbpdmlbfnjoiaa
