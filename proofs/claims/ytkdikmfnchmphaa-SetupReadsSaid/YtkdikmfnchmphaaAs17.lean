/- The walk of SetupReads. -/
import Derived.Test.YtkdikmfnchmphaaAs16
namespace Go.Proofs.Ytkdikmfnchmphaa
set_option linter.unusedSimpArgs false
set_option linter.unusedVariables false
set_option maxHeartbeats 4000000
open Go Go.Am Go.RowKit Go.ChangeShapes Go.WideShapes Go.ChangeAt Go.Setup
set_option maxRecDepth 100000
/- quidnunc/quidnunclaw13.SetupReads -/
noncomputable def c9_1 : ACode := .region false [⟨some 2, .move, [.c (.val (.bool false))], none⟩] [] [] [0] false [] []
noncomputable def c9_4 : ACode := .region false [⟨some 7, .call 28, [], none⟩,
  ⟨some 8, .un .not, [.t 7], none⟩,
  ⟨some 9, .move, [.t 8], none⟩,
  ⟨some 10, .move, [.t 0], some (some 9, false)⟩,
  ⟨some 11, .len, [.t 10], some (some 9, false)⟩,
  ⟨some 12, .bin .gtr, [.t 11, .c (.val (.int .i64 200))], some (some 9, false)⟩,
  ⟨some 13, .pick, [.t 9, .c (.val (.bool true)), .t 12], none⟩] [] [] [0, 13] true [] []
noncomputable def c9_7 : ACode := .region false [⟨some 14, .call 28, [], none⟩,
  ⟨some 2, .move, [.t 14], none⟩] [] [] [2] true [] []
noncomputable def c9_6 : ACode := .seq c9_7 .ret
noncomputable def c9_5 : ACode := .cond (.t 13) c9_6 .skip
noncomputable def c9_3 : ACode := .seq c9_4 c9_5
noncomputable def c9_9 : ACode := .region false [⟨some 16, .move, [.t 0], none⟩,
  ⟨some 17, .call 46, [.t 16], none⟩,
  ⟨some 15, .move, [.t 17], none⟩,
  ⟨some 18, .ext 0, [.t 15], none⟩,
  ⟨some 19, .ext 1, [.t 15], none⟩,
  ⟨some 3, .alloc (List.replicate 20 (.int .i64 0)), [], none⟩,
  ⟨none, .store 20, [.t 3, .t 18], none⟩,
  ⟨some 4, .move, [.t 19], none⟩] [] [] [0, 3, 4] true [] []
noncomputable def c9_11 : ACode := .region false [⟨some 21, .move, [.t 0], none⟩,
  ⟨some 22, .call 47, [.t 21], none⟩,
  ⟨some 20, .move, [.t 22], none⟩,
  ⟨some 23, .ext 0, [.t 20], none⟩,
  ⟨some 24, .ext 1, [.t 20], none⟩,
  ⟨some 5, .alloc (List.replicate 20 (.int .i64 0)), [], none⟩,
  ⟨none, .store 20, [.t 5, .t 23], none⟩,
  ⟨some 6, .move, [.t 24], none⟩] [] [] [3, 4, 5, 6] true [] []
noncomputable def c9_13 : ACode := .region true [⟨some 25, .move, [.t 4], none⟩,
  ⟨some 26, .move, [.t 6], none⟩,
  ⟨some 27, .bin .eql, [.t 25, .t 26], none⟩,
  ⟨some 28, .move, [.t 27], none⟩,
  ⟨some 29, .load true 20, [.t 3], some (some 28, true)⟩,
  ⟨some 30, .load true 20, [.t 5], some (some 28, true)⟩,
  ⟨some 31, .call 30, [.t 30], some (some 28, true)⟩,
  ⟨some 32, .eqA false [(0, 0), (1, 0), (2, 0), (3, 0), (4, 0), (5, 0), (6, 0), (7, 0), (8, 0), (9, 0), (10, 0), (11, 0), (12, 0), (13, 0), (14, 0), (15, 0), (16, 0), (17, 0), (18, 0), (19, 0)], [.t 29, .t 31], some (some 28, true)⟩,
  ⟨some 33, .pick, [.t 28, .t 32, .c (.val (.bool false))], none⟩,
  ⟨some 2, .move, [.t 33], none⟩] [] [] [2] true [] []
noncomputable def c9_12 : ACode := .seq c9_13 .ret
noncomputable def c9_10 : ACode := .seq c9_11 c9_12
noncomputable def c9_8 : ACode := .seq c9_9 c9_10
noncomputable def c9_2 : ACode := .seq c9_3 c9_8
noncomputable def c9_0 : ACode := .seq c9_1 c9_2
noncomputable def code9 : Code := (Try.f9.body).getD .skip
theorem c9_ok : compC Try.prog 34 code9 = some (strip c9_0) := by kernel_rfl
theorem res9_ok : Try.f9.results.toList.mapM (resC Try.prog) = some [(2, none)] := by kernel_rfl
theorem reads13_walk (W : World) (x : Sl Int) (hx : x.ok W 1 (fun n : Int => [.int .u8 n]) (fun n : Int => IntKind.u8.min ≤ n ∧ n ≤ IntKind.u8.max)) :
    Calls Try.prog 9 #[.slice x.ad x.l.length x.cap] W fun e W' => e = .returned (.bool true) ∧ Below W.heap.size W W' := by
  obtain ⟨ad, off, cap, L⟩ := x
  have hz := hx.fz
  have hby : ∀ x ∈ L, 0 ≤ x ∧ x ≤ 255 := hx.all
  simp only at hz
  by_cases h200 : 200 < L.length
  · have h1 : ((200 : Int) < (L.length : Int)) = True := eq_true (by omega)
    refine top_call c9_ok Try.func9 rfl Try.ntmps9 res9_ok [ .val (.slice ad L.length cap)] (by simp) (by (repeat' (first | exact VRs_nil' _ | exact VR_val' _ _ | (refine VRs_cons' ?_ ?_) | (refine VR_agg' (by first | rfl | assumption) ?_; first | assumption | simp [Value.oneCell'])))) ?_; try simp (maxSteps := 9999999) (disch := omega) only [go_sem]
    (repeat' (first | refine AWpA.seq ?_ | refine AWpA.block ?_ | (with_reducible refine CondP.tt ?_) | (with_reducible refine CondP.ff ?_) | refine AWpA.condv (by simp (maxSteps := 9999999) (disch := omega) only [go_sem, h1]; rfl) ?_ | ((first | (apply AWpA.region; (focus (simp (maxSteps := 9999999) (disch := omega) only [go_sem, h1]; rfl))) | (apply AWpA.draw [] follows; (focus (simp (maxSteps := 9999999) (disch := omega) only [go_sem, h1]; rfl)); (focus (simp (maxSteps := 9999999) (disch := omega) only [go_sem, h1]; first | done | trivial)); (focus (simp (maxSteps := 9999999) (disch := omega) only [go_sem, h1]; rfl))) | (apply TailK.go; (focus (simp (maxSteps := 9999999) (disch := omega) only [go_sem, h1]; rfl))) | refine AWpA.skip ?_ | refine AWpA.exit ?_ | refine AWpA.ret ?_ | (with_reducible refine ARoundsA.succ ?_) | ((first | refine Runs.kt (by assumption) (fun h9 => ?_) | refine Runs.kf (by assumption) (fun h9 => ?_) | refine Runs.nt (by assumption) (fun h9 => ?_) | refine Runs.nf (by assumption) (fun h9 => ?_) | refine CondP.ht (by assumption) (fun h9 => ?_) | refine CondP.hf (by assumption) (fun h9 => ?_) | refine CondP.nt (by assumption) (fun h9 => ?_) | refine CondP.nf (by assumption) (fun h9 => ?_)); (try simp only [h9]); clear h9) | ((first | (with_reducible apply CallG.plain1 [] (speaks13_any)) | (with_reducible apply CallG.draw1 [] (speaks13_any))); (focus ((try refine And.intro (leAs_of_eq rfl) ?_); (try refine And.intro (leOL_of_eq rfl) ?_); simp (maxSteps := 9999999) (disch := omega) only [go_sem, h1]; first | done | (repeat' (first | rfl | (refine And.intro ?_ ?_))))); (focus (simp (maxSteps := 9999999) (disch := omega) only [go_sem, h1]; rfl)))); (try simp (maxSteps := 9999999) (disch := omega) only [go_sem, h1]); (try (refine And.intro ?_ ?_; (focus (first | omega | (simp only [go_sem]; done) | (simp; done) | (simp; omega) | assumption))))) | ((first | refine CondP.split (fun hif => ?_) (fun hif => ?_) | refine Runs.part (fun hif => ?_) (fun hif => ?_)) <;> ((try simp only [hif]); (try simp only [decide_eq_true_eq, decide_eq_false_iff_not, Bool.not_eq_true, Bool.not_eq_false, Bool.not_eq_true', Bool.not_eq_false', beq_iff_eq, bne_iff_ne, bne_eq_false_iff_eq, beq_eq_false_iff_ne, ne_eq, Bool.and_eq_true, Bool.or_eq_true, Bool.or_eq_false_iff] at hif); (try (have h9 : _ = true := hif; simp only [h9])); (try (have h9 : _ = false := hif; simp only [h9])); (try simp (maxSteps := 9999999) (disch := omega) only [go_sem, h1]); (try (refine And.intro ?_ ?_; (focus (first | omega | (simp only [go_sem]; done) | (simp; done) | (simp; omega) | assumption)))); (try (exfalso; omega; done))))))
    (refine TopPost.of (by first | exact .inl rfl | exact .inr rfl) (by (try simp (maxSteps := 9999999) (disch := omega) only [go_sem]); rfl) ?_; (try simp (maxSteps := 9999999) (disch := omega) only [go_sem]); (try (first | trivial | decide | (simp; done))))
  have h1 : ((200 : Int) < (L.length : Int)) = False := eq_false (by omega)
  have sg := Seg.rows (off := off) (l := L) (by omega)
  refine top_call c9_ok Try.func9 rfl Try.ntmps9 res9_ok [ .val (.slice ad L.length cap)] (by simp) (by (repeat' (first | exact VRs_nil' _ | exact VR_val' _ _ | (refine VRs_cons' ?_ ?_) | (refine VR_agg' (by first | rfl | assumption) ?_; first | assumption | simp [Value.oneCell'])))) ?_; try simp (maxSteps := 9999999) (disch := omega) only [go_sem]
  refine AWpA.thawT 0 (fun n : Int => [.val (.int .u8 n)]) hz (fun _ => rfl) rfl ?_
  generalize rowsC off (fun n : Int => [.val (.int .u8 n)]) L = P at sg
  have c1 := decode_any sg hby
  have c2 := rdecode_any sg hby
  have hl := dcL_len L
  generalize dcL L = l at *
  generalize dcE L = e at *
  have c3 := lawof_any l hl
  have hc := cI_len l
  have ht := cI_take hl
  have hd := cI_drop hl
  (repeat' (first | refine AWpA.seq ?_ | refine AWpA.block ?_ | (with_reducible refine CondP.tt ?_) | (with_reducible refine CondP.ff ?_) | refine AWpA.condv (by simp (maxSteps := 9999999) (disch := omega) only [go_sem, h1, sg.ren, cI_ren, hc, ht, hl, hd, cI_get]; rfl) ?_ | ((first | (apply AWpA.region; (focus (simp (maxSteps := 9999999) (disch := omega) only [go_sem, h1, sg.ren, cI_ren, hc, ht, hl, hd, cI_get]; rfl))) | (apply AWpA.draw [] follows; (focus (simp (maxSteps := 9999999) (disch := omega) only [go_sem, h1, sg.ren, cI_ren, hc, ht, hl, hd, cI_get]; rfl)); (focus (simp (maxSteps := 9999999) (disch := omega) only [go_sem, h1, sg.ren, cI_ren, hc, ht, hl, hd, cI_get]; first | done | trivial)); (focus (simp (maxSteps := 9999999) (disch := omega) only [go_sem, h1, sg.ren, cI_ren, hc, ht, hl, hd, cI_get]; rfl))) | (apply TailK.go; (focus (simp (maxSteps := 9999999) (disch := omega) only [go_sem, h1, sg.ren, cI_ren, hc, ht, hl, hd, cI_get]; rfl))) | refine AWpA.skip ?_ | refine AWpA.exit ?_ | refine AWpA.ret ?_ | (with_reducible refine ARoundsA.succ ?_) | ((first | refine Runs.kt (by assumption) (fun h9 => ?_) | refine Runs.kf (by assumption) (fun h9 => ?_) | refine Runs.nt (by assumption) (fun h9 => ?_) | refine Runs.nf (by assumption) (fun h9 => ?_) | refine CondP.ht (by assumption) (fun h9 => ?_) | refine CondP.hf (by assumption) (fun h9 => ?_) | refine CondP.nt (by assumption) (fun h9 => ?_) | refine CondP.nf (by assumption) (fun h9 => ?_)); (try simp only [h9]); clear h9) | ((first | (with_reducible apply CallG.plain1 [] (speaks13_any)) | (with_reducible apply CallG.plain1 [0] (c1)) | (with_reducible apply CallG.plain1 [0] (c2)) | (with_reducible apply CallG.plain1 [] (c3)) | (with_reducible apply CallG.draw1 [] (speaks13_any)) | (with_reducible apply CallG.draw1 [0] (c1)) | (with_reducible apply CallG.draw1 [0] (c2)) | (with_reducible apply CallG.draw1 [] (c3))); (focus ((try refine And.intro (leAs_of_eq rfl) ?_); (try refine And.intro (leOL_of_eq rfl) ?_); simp (maxSteps := 9999999) (disch := omega) only [go_sem, h1, sg.ren, cI_ren, hc, ht, hl, hd, cI_get]; first | done | (repeat' (first | rfl | (refine And.intro ?_ ?_))))); (focus (simp (maxSteps := 9999999) (disch := omega) only [go_sem, h1, sg.ren, cI_ren, hc, ht, hl, hd, cI_get]; rfl)))); (try simp (maxSteps := 9999999) (disch := omega) only [go_sem, h1, sg.ren, cI_ren, hc, ht, hl, hd, cI_get]); (try (refine And.intro ?_ ?_; (focus (first | omega | (simp only [go_sem]; done) | (simp; done) | (simp; omega) | assumption))))) | ((first | refine CondP.split (fun hif => ?_) (fun hif => ?_) | refine Runs.part (fun hif => ?_) (fun hif => ?_)) <;> ((try simp only [hif]); (try simp only [decide_eq_true_eq, decide_eq_false_iff_not, Bool.not_eq_true, Bool.not_eq_false, Bool.not_eq_true', Bool.not_eq_false', beq_iff_eq, bne_iff_ne, bne_eq_false_iff_eq, beq_eq_false_iff_ne, ne_eq, Bool.and_eq_true, Bool.or_eq_true, Bool.or_eq_false_iff] at hif); (try (have h9 : _ = true := hif; simp only [h9])); (try (have h9 : _ = false := hif; simp only [h9])); (try simp (maxSteps := 9999999) (disch := omega) only [go_sem, h1, sg.ren, cI_ren, hc, ht, hl, hd, cI_get]); (try (refine And.intro ?_ ?_; (focus (first | omega | (simp only [go_sem]; done) | (simp; done) | (simp; omega) | assumption)))); (try (exfalso; omega; done))))))
  all_goals (refine TopPost.of (by first | exact .inl rfl | exact .inr rfl) (by (try simp (maxSteps := 9999999) (disch := omega) only [go_sem]); rfl) ?_; (try simp (maxSteps := 9999999) (disch := omega) only [go_sem]); (try (first | trivial | decide | (simp; done))))
end Go.Proofs.Ytkdikmfnchmphaa
