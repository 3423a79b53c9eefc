/- Contract: frames are decoded, by the document. -/
import Derived.Test.YthbpdmlbfnjoiaaAf4
namespace Go.Proofs.Ythbpdmlbfnjoiaa
set_option linter.unusedSimpArgs false
set_option linter.unusedVariables false
set_option maxHeartbeats 4000000
open Go Go.Am Go.RowKit Go.Crc
set_option maxRecDepth 100000
theorem fA_get {L : List Int} {i : Nat} (h : i + 4 < L.length) : (fA L).getD i 0 = L.getD i 0 := by
  unfold fA
  rw [List.getD_eq_getElem?_getD, List.getD_eq_getElem?_getD, List.getElem?_take_of_lt (by omega)]
/- quidnunc/quidnuncref03.Decode -/
noncomputable def c15_1 : ACode := .region false [⟨some 2, .alloc [(.int .i64 0), (.int .i64 0), (.int .i64 0), (.slice none 0 0)], [], none⟩,
  ⟨some 3, .move, [.c (.val (.int .i64 0))], none⟩] [] [] [0, 2] true [] []
noncomputable def c15_4 : ACode := .region false [⟨some 5, .move, [.t 0], none⟩,
  ⟨some 6, .len, [.t 5], none⟩,
  ⟨some 7, .bin .lss, [.t 6, .c (.val (.int .i64 9))], none⟩] [] [] [0, 2, 7] false [] []
noncomputable def c15_7 : ACode := .region false [⟨some 8, .build [(.int .i64 0), (.int .i64 0), (.int .i64 0), (.slice none 0 0)] [], [], none⟩,
  ⟨none, .store 4, [.t 2, .t 8], none⟩,
  ⟨some 3, .move, [.c (.val (.int .i64 6))], none⟩] [] [] [2, 3] true [] []
noncomputable def c15_6 : ACode := .seq c15_7 .ret
noncomputable def c15_5 : ACode := .cond (.t 7) c15_6 .skip
noncomputable def c15_3 : ACode := .seq c15_4 c15_5
noncomputable def c15_10 : ACode := .region false [⟨some 9, .move, [.t 0], none⟩,
  ⟨some 10, .call 50, [.t 9], none⟩,
  ⟨some 11, .un .not, [.t 10], none⟩] [] [] [0, 2, 11] true [] []
noncomputable def c15_13 : ACode := .region false [⟨some 12, .build [(.int .i64 0), (.int .i64 0), (.int .i64 0), (.slice none 0 0)] [], [], none⟩,
  ⟨none, .store 4, [.t 2, .t 12], none⟩,
  ⟨some 3, .move, [.c (.val (.int .i64 5))], none⟩] [] [] [2, 3] true [] []
noncomputable def c15_12 : ACode := .seq c15_13 .ret
noncomputable def c15_11 : ACode := .cond (.t 11) c15_12 .skip
noncomputable def c15_9 : ACode := .seq c15_10 c15_11
noncomputable def c15_15 : ACode := .region true [⟨some 13, .move, [.t 0], none⟩,
  ⟨some 14, .ixS 1, [.t 13, .c (.val (.int .i64 0))], none⟩,
  ⟨some 15, .load false 1, [.t 14], none⟩,
  ⟨some 16, .conv .i64, [.t 15], none⟩,
  ⟨some 17, .move, [.t 0], none⟩,
  ⟨some 18, .ixS 1, [.t 17, .c (.val (.int .i64 1))], none⟩,
  ⟨some 19, .load false 1, [.t 18], none⟩,
  ⟨some 20, .conv .i64, [.t 19], none⟩,
  ⟨some 21, .move, [.t 0], none⟩,
  ⟨some 22, .ixS 1, [.t 21, .c (.val (.int .i64 2))], none⟩,
  ⟨some 23, .load false 1, [.t 22], none⟩,
  ⟨some 24, .conv .i64, [.t 23], none⟩,
  ⟨some 25, .move, [.t 0], none⟩,
  ⟨some 26, .move, [.t 0], none⟩,
  ⟨some 27, .len, [.t 26], none⟩,
  ⟨some 28, .bin .sub, [.t 27, .c (.val (.int .i64 4))], none⟩,
  ⟨some 29, .slS 1 true true false, [.t 25, .c (.val (.int .i64 5)), .t 28], none⟩,
  ⟨some 30, .build [(.int .i64 0), (.int .i64 0), (.int .i64 0), (.slice none 0 0)] [(0, 1), (1, 1), (2, 1), (3, 1)], [.t 16, .t 20, .t 24, .t 29], none⟩,
  ⟨some 4, .alloc [(.int .i64 0), (.int .i64 0), (.int .i64 0), (.slice none 0 0)], [], none⟩,
  ⟨none, .store 4, [.t 4, .t 30], none⟩] [] [] [0, 2, 4] true [] []
noncomputable def c15_18 : ACode := .region true [⟨some 31, .load true 4, [.t 4], none⟩,
  ⟨some 32, .call 18, [.t 31], none⟩,
  ⟨some 33, .bin .neq, [.t 32, .c (.val (.int .i64 0))], none⟩,
  ⟨some 34, .move, [.t 33], none⟩,
  ⟨some 35, .move, [.t 0], some (some 34, false)⟩,
  ⟨some 36, .slS 1 true true false, [.t 35, .c (.val (.int .i64 3)), .c (.val (.int .i64 5))], some (some 34, false)⟩,
  ⟨some 37, .call 51, [.t 36], some (some 34, false)⟩,
  ⟨some 38, .conv .i64, [.t 37], some (some 34, false)⟩,
  ⟨some 39, .addr 3, [.t 4], some (some 34, false)⟩,
  ⟨some 40, .load false 1, [.t 39], some (some 34, false)⟩,
  ⟨some 41, .len, [.t 40], some (some 34, false)⟩,
  ⟨some 42, .bin .neq, [.t 38, .t 41], some (some 34, false)⟩,
  ⟨some 43, .pick, [.t 34, .c (.val (.bool true)), .t 42], none⟩] [] [] [2, 4, 43] true [] []
noncomputable def c15_21 : ACode := .region false [⟨some 44, .build [(.int .i64 0), (.int .i64 0), (.int .i64 0), (.slice none 0 0)] [], [], none⟩,
  ⟨none, .store 4, [.t 2, .t 44], none⟩,
  ⟨some 3, .move, [.c (.val (.int .i64 4))], none⟩] [] [] [2, 3] true [] []
noncomputable def c15_20 : ACode := .seq c15_21 .ret
noncomputable def c15_19 : ACode := .cond (.t 43) c15_20 .skip
noncomputable def c15_17 : ACode := .seq c15_18 c15_19
noncomputable def c15_23 : ACode := .region false [⟨some 45, .load true 4, [.t 4], none⟩,
  ⟨none, .store 4, [.t 2, .t 45], none⟩,
  ⟨some 3, .move, [.c (.val (.int .i64 0))], none⟩] [] [] [2, 3] true [] []
noncomputable def c15_22 : ACode := .seq c15_23 .ret
noncomputable def c15_16 : ACode := .seq c15_17 c15_22
noncomputable def c15_14 : ACode := .seq c15_15 c15_16
noncomputable def c15_8 : ACode := .seq c15_9 c15_14
noncomputable def c15_2 : ACode := .seq c15_3 c15_8
noncomputable def c15_0 : ACode := .seq c15_1 c15_2
noncomputable def code15 : Code := (Try.f15.body).getD .skip
theorem c15_ok : compC Try.prog 46 code15 = some (strip c15_0) := by kernel_rfl
theorem res15_ok : Try.f15.results.toList.mapM (resC Try.prog) = some [(2, some (true, 4)), (3, none)] := by kernel_rfl
theorem rfdec_any {P : List AV} {o : Nat} {L : List Int} (sg : Seg P o L) (hb : ∀ x ∈ L, 0 ≤ x ∧ x ≤ 255) :
    (fdE L ≠ 0 → ACall Try.prog 15 [.sl 0 o L.length 1 none] [.cells true P] (Det (.tup [Fr0, I (fdE L)]) [.cells true P])) ∧
    (fdE L = 0 → ACall Try.prog 15 [.sl 0 o L.length 1 none] [.cells true P] (Det (.tup [FrA 0 (o + 5) (L.length - 9) ((fA L).getD 0 0) ((fA L).getD 1 0) ((fA L).getD 2 0), I 0]) [.cells true P])) := by
  have hle := sg.le
  have hsm := sg.small
  by_cases h9 : L.length < 9
  · have e : fdE L = 6 := by unfold fdE; rw [if_pos h9]
    have g1 : ((L.length : Int) < 9) = True := eq_true (by omega)
    refine ⟨fun _ => ?_, fun h => by rw [e] at h; cases h⟩
    rw [e]
    refine ACall.startA c15_ok Try.func15 rfl Try.ntmps15 (by kernel_rfl) res15_ok rfl rfl rfl ?_; simp (maxSteps := 9999999) (disch := omega) only [go_sem]
    (repeat' (first | refine AWpA.seq ?_ | refine AWpA.block ?_ | (with_reducible refine CondP.tt ?_) | (with_reducible refine CondP.ff ?_) | refine AWpA.condv (by simp (maxSteps := 9999999) (disch := omega) only [go_sem, sg.ren, g1]; rfl) ?_ | ((first | (apply AWpA.region; (focus (simp (maxSteps := 9999999) (disch := omega) only [go_sem, sg.ren, g1]; rfl))) | (apply AWpA.draw [] follows; (focus (simp (maxSteps := 9999999) (disch := omega) only [go_sem, sg.ren, g1]; rfl)); (focus (simp (maxSteps := 9999999) (disch := omega) only [go_sem, sg.ren, g1]; first | done | trivial)); (focus (simp (maxSteps := 9999999) (disch := omega) only [go_sem, sg.ren, g1]; rfl))) | (apply TailK.go; (focus (simp (maxSteps := 9999999) (disch := omega) only [go_sem, sg.ren, g1]; rfl))) | refine AWpA.skip ?_ | refine AWpA.exit ?_ | refine AWpA.ret ?_ | (with_reducible refine ARoundsA.succ ?_) | ((first | refine Runs.kt (by assumption) (fun h9 => ?_) | refine Runs.kf (by assumption) (fun h9 => ?_) | refine Runs.nt (by assumption) (fun h9 => ?_) | refine Runs.nf (by assumption) (fun h9 => ?_) | refine CondP.ht (by assumption) (fun h9 => ?_) | refine CondP.hf (by assumption) (fun h9 => ?_) | refine CondP.nt (by assumption) (fun h9 => ?_) | refine CondP.nf (by assumption) (fun h9 => ?_)); (try simp only [h9]); clear h9)); (try simp (maxSteps := 9999999) (disch := omega) only [go_sem, sg.ren, g1]); (try (refine And.intro ?_ ?_; (focus (first | omega | (simp only [go_sem]; done) | (simp; done) | (simp; omega) | assumption))))) | ((first | refine CondP.split (fun hif => ?_) (fun hif => ?_) | refine Runs.part (fun hif => ?_) (fun hif => ?_)) <;> ((try simp only [hif]); (try simp only [decide_eq_true_eq, decide_eq_false_iff_not, Bool.not_eq_true, Bool.not_eq_false, Bool.not_eq_true', Bool.not_eq_false', beq_iff_eq, bne_iff_ne, bne_eq_false_iff_eq, beq_eq_false_iff_ne, ne_eq, Bool.and_eq_true, Bool.or_eq_true, Bool.or_eq_false_iff] at hif); (try (have h9 : _ = true := hif; simp only [h9])); (try (have h9 : _ = false := hif; simp only [h9])); (try simp (maxSteps := 9999999) (disch := omega) only [go_sem, sg.ren, g1]); (try (refine And.intro ?_ ?_; (focus (first | omega | (simp only [go_sem]; done) | (simp; done) | (simp; omega) | assumption)))); (try (exfalso; omega; done))))))
    (apply Ret.det [0]; (focus (first | exact .inl rfl | exact .inr rfl)); (focus (simp (maxSteps := 9999999) (disch := omega) only [go_sem, sg.ren]; rfl)); (simp (maxSteps := 9999999) (disch := omega) only [go_sem, sg.ren]; (try (repeat' (first | done | trivial | rfl | exact leAs_rfl _ | decide | (refine And.intro ?_ ?_) | (simp; done) | omega | (simp; decide))))))
  have g1 : ((L.length : Int) < 9) = False := eq_false (by omega)
  have hh := rholds_any sg hb
  cases hm : mkdB L
  · have e : fdE L = 5 := by unfold fdE; rw [if_neg h9, if_pos hm]
    rw [hm] at hh
    refine ⟨fun _ => ?_, fun h => by rw [e] at h; cases h⟩
    rw [e]
    refine ACall.startA c15_ok Try.func15 rfl Try.ntmps15 (by kernel_rfl) res15_ok rfl rfl rfl ?_; simp (maxSteps := 9999999) (disch := omega) only [go_sem]
    (repeat' (first | refine AWpA.seq ?_ | refine AWpA.block ?_ | (with_reducible refine CondP.tt ?_) | (with_reducible refine CondP.ff ?_) | refine AWpA.condv (by simp (maxSteps := 9999999) (disch := omega) only [go_sem, sg.ren, g1]; rfl) ?_ | ((first | (apply AWpA.region; (focus (simp (maxSteps := 9999999) (disch := omega) only [go_sem, sg.ren, g1]; rfl))) | (apply AWpA.draw [] follows; (focus (simp (maxSteps := 9999999) (disch := omega) only [go_sem, sg.ren, g1]; rfl)); (focus (simp (maxSteps := 9999999) (disch := omega) only [go_sem, sg.ren, g1]; first | done | trivial)); (focus (simp (maxSteps := 9999999) (disch := omega) only [go_sem, sg.ren, g1]; rfl))) | (apply TailK.go; (focus (simp (maxSteps := 9999999) (disch := omega) only [go_sem, sg.ren, g1]; rfl))) | refine AWpA.skip ?_ | refine AWpA.exit ?_ | refine AWpA.ret ?_ | (with_reducible refine ARoundsA.succ ?_) | ((first | refine Runs.kt (by assumption) (fun h9 => ?_) | refine Runs.kf (by assumption) (fun h9 => ?_) | refine Runs.nt (by assumption) (fun h9 => ?_) | refine Runs.nf (by assumption) (fun h9 => ?_) | refine CondP.ht (by assumption) (fun h9 => ?_) | refine CondP.hf (by assumption) (fun h9 => ?_) | refine CondP.nt (by assumption) (fun h9 => ?_) | refine CondP.nf (by assumption) (fun h9 => ?_)); (try simp only [h9]); clear h9) | ((first | (with_reducible apply CallG.plain1 [0] (hh)) | (with_reducible apply CallG.draw1 [0] (hh))); (focus ((try refine And.intro (leAs_of_eq rfl) ?_); (try refine And.intro (leOL_of_eq rfl) ?_); simp (maxSteps := 9999999) (disch := omega) only [go_sem, sg.ren, g1]; first | done | (repeat' (first | rfl | (refine And.intro ?_ ?_))))); (focus (simp (maxSteps := 9999999) (disch := omega) only [go_sem, sg.ren, g1]; rfl)))); (try simp (maxSteps := 9999999) (disch := omega) only [go_sem, sg.ren, g1]); (try (refine And.intro ?_ ?_; (focus (first | omega | (simp only [go_sem]; done) | (simp; done) | (simp; omega) | assumption))))) | ((first | refine CondP.split (fun hif => ?_) (fun hif => ?_) | refine Runs.part (fun hif => ?_) (fun hif => ?_)) <;> ((try simp only [hif]); (try simp only [decide_eq_true_eq, decide_eq_false_iff_not, Bool.not_eq_true, Bool.not_eq_false, Bool.not_eq_true', Bool.not_eq_false', beq_iff_eq, bne_iff_ne, bne_eq_false_iff_eq, beq_eq_false_iff_ne, ne_eq, Bool.and_eq_true, Bool.or_eq_true, Bool.or_eq_false_iff] at hif); (try (have h9 : _ = true := hif; simp only [h9])); (try (have h9 : _ = false := hif; simp only [h9])); (try simp (maxSteps := 9999999) (disch := omega) only [go_sem, sg.ren, g1]); (try (refine And.intro ?_ ?_; (focus (first | omega | (simp only [go_sem]; done) | (simp; done) | (simp; omega) | assumption)))); (try (exfalso; omega; done))))))
    (apply Ret.det [0]; (focus (first | exact .inl rfl | exact .inr rfl)); (focus (simp (maxSteps := 9999999) (disch := omega) only [go_sem, sg.ren]; rfl)); (simp (maxSteps := 9999999) (disch := omega) only [go_sem, sg.ren]; (try (repeat' (first | done | trivial | rfl | exact leAs_rfl _ | decide | (refine And.intro ?_ ?_) | (simp; done) | omega | (simp; decide))))))
  rw [hm] at hh
  have hbl := fB_len L
  have hal := fA_len L
  have sB : Seg P (o + 5) (fB L) := (sg.takeS (L.length - 4) (by omega)).dropS 5 (by rw [show L.take (L.length - 4) = fA L from rfl, hal]; omega)
  have s2 : Seg P (o + 3) ((L.take 5).drop 3) := (sg.takeS 5 (by omega)).dropS 3 (by rw [List.length_take]; omega)
  have hl2 : ((L.take 5).drop 3).length = 2 := by rw [List.length_drop, List.length_take]; omega
  have hb2 : bytesB ((L.take 5).drop 3) := fun x hx => hb x (List.mem_of_mem_take (List.mem_of_mem_drop hx))
  have c8 := value_any s2 hb2 (by omega)
  have hv : valI ((L.take 5).drop 3) = fN L := by
    have : (L.take 5).drop 3 = [L.getD 3 0, L.getD 4 0] := by
      rw [List.drop_take]
      exact take2 (B := L) (a := 3) (by omega)
    rw [this]
    unfold fN
    rw [fA_get (by omega), fA_get (by omega)]
    simp [valI]
  rw [hl2, hv] at c8
  have pg : ∀ i, i + 4 < L.length → P.getD (o + i) .bad = U8 ((fA L).getD i 0) := fun i h => by
    rw [sg.byte i (by omega), fA_get h, List.getD_eq_getElem?_getD, List.getElem?_eq_getElem (by omega)]; rfl
  have p0 := pg 0 (by omega)
  have p1 := pg 1 (by omega)
  have p2 := pg 2 (by omega)
  rw [Nat.add_zero] at p0
  have hbA : ∀ x ∈ fA L, 0 ≤ x ∧ x ≤ 255 := fun x hx => hb x (List.mem_of_mem_take hx)
  have b0 := gd_ok hbA 0
  have b1 := gd_ok hbA 1
  have b2 := gd_ok hbA 2
  have b3 := gd_ok hbA 3
  have b4 := gd_ok hbA 4
  have hN : 0 ≤ fN L ∧ fN L ≤ 65535 := by unfold fN; omega
  have c7 := rfcheck_any sB ((fA L).getD 0 0) ((fA L).getD 1 0) ((fA L).getD 2 0)
  rw [hbl] at c7
  have ef : fdE L = if fN L = ((L.length - 9 : Nat) : Int) ∧ chkF ((fA L).getD 0 0) ((fA L).getD 1 0) ((fA L).getD 2 0) (L.length - 9) = 0 then 0 else 4 := by
    unfold fdE; rw [if_neg h9, if_neg (by rw [hm]; simp)]
  rw [ef]
  have hL4 : (L.length : Int) - 4 = ((L.length - 4 : Nat) : Int) := by omega
  have hL5 : L.length - 4 - 5 = L.length - 9 := by omega
  clear pg ef hm s2 hl2 hb2 hv hbA
  generalize (fA L).getD 0 0 = f at *
  generalize (fA L).getD 1 0 = t at *
  generalize (fA L).getD 2 0 = k at *
  generalize (fA L).getD 3 0 = y3 at *
  generalize (fA L).getD 4 0 = y4 at *
  generalize fN L = n at *
  by_cases hk : chkF f t k (L.length - 9) = 0
  · rw [hk] at c7
    by_cases hn : n = ((L.length - 9 : Nat) : Int)
    · rw [if_pos ⟨hn, hk⟩]
      have g2 : (n != ((L.length - 9 : Nat) : Int)) = false := by rw [hn]; simp
      refine ⟨fun h => absurd rfl h, fun _ => ?_⟩
      refine ACall.startA c15_ok Try.func15 rfl Try.ntmps15 (by kernel_rfl) res15_ok rfl rfl rfl ?_; simp (maxSteps := 9999999) (disch := omega) only [go_sem]
      (repeat' (first | refine AWpA.seq ?_ | refine AWpA.block ?_ | (with_reducible refine CondP.tt ?_) | (with_reducible refine CondP.ff ?_) | refine AWpA.condv (by simp (maxSteps := 9999999) (disch := omega) only [go_sem, sg.ren, g1, hL4, hL5, p0, p1, p2, g2]; rfl) ?_ | ((first | (apply AWpA.region; (focus (simp (maxSteps := 9999999) (disch := omega) only [go_sem, sg.ren, g1, hL4, hL5, p0, p1, p2, g2]; rfl))) | (apply AWpA.draw [] follows; (focus (simp (maxSteps := 9999999) (disch := omega) only [go_sem, sg.ren, g1, hL4, hL5, p0, p1, p2, g2]; rfl)); (focus (simp (maxSteps := 9999999) (disch := omega) only [go_sem, sg.ren, g1, hL4, hL5, p0, p1, p2, g2]; first | done | trivial)); (focus (simp (maxSteps := 9999999) (disch := omega) only [go_sem, sg.ren, g1, hL4, hL5, p0, p1, p2, g2]; rfl))) | (apply TailK.go; (focus (simp (maxSteps := 9999999) (disch := omega) only [go_sem, sg.ren, g1, hL4, hL5, p0, p1, p2, g2]; rfl))) | refine AWpA.skip ?_ | refine AWpA.exit ?_ | refine AWpA.ret ?_ | (with_reducible refine ARoundsA.succ ?_) | ((first | refine Runs.kt (by assumption) (fun h9 => ?_) | refine Runs.kf (by assumption) (fun h9 => ?_) | refine Runs.nt (by assumption) (fun h9 => ?_) | refine Runs.nf (by assumption) (fun h9 => ?_) | refine CondP.ht (by assumption) (fun h9 => ?_) | refine CondP.hf (by assumption) (fun h9 => ?_) | refine CondP.nt (by assumption) (fun h9 => ?_) | refine CondP.nf (by assumption) (fun h9 => ?_)); (try simp only [h9]); clear h9) | ((first | (with_reducible apply CallG.plain1 [0] (hh)) | (with_reducible apply CallG.draw1 [0] (hh))); (focus ((try refine And.intro (leAs_of_eq rfl) ?_); (try refine And.intro (leOL_of_eq rfl) ?_); simp (maxSteps := 9999999) (disch := omega) only [go_sem, sg.ren, g1, hL4, hL5, p0, p1, p2, g2]; first | done | (repeat' (first | rfl | (refine And.intro ?_ ?_))))); (focus (simp (maxSteps := 9999999) (disch := omega) only [go_sem, sg.ren, g1, hL4, hL5, p0, p1, p2, g2]; rfl))) | ((first | (with_reducible apply CallG.plain1 [0] (c7)) | (with_reducible apply CallG.draw1 [0] (c7))); (focus ((try refine And.intro (leAs_of_eq rfl) ?_); (try refine And.intro (leOL_of_eq rfl) ?_); simp (maxSteps := 9999999) (disch := omega) only [go_sem, sg.ren, g1, hL4, hL5, p0, p1, p2, g2]; first | done | (repeat' (first | rfl | (refine And.intro ?_ ?_))))); (focus (simp (maxSteps := 9999999) (disch := omega) only [go_sem, sg.ren, g1, hL4, hL5, p0, p1, p2, g2]; rfl))) | ((first | (with_reducible apply CallG.plain1 [0] (c8)) | (with_reducible apply CallG.draw1 [0] (c8))); (focus ((try refine And.intro (leAs_of_eq rfl) ?_); (try refine And.intro (leOL_of_eq rfl) ?_); simp (maxSteps := 9999999) (disch := omega) only [go_sem, sg.ren, g1, hL4, hL5, p0, p1, p2, g2]; first | done | (repeat' (first | rfl | (refine And.intro ?_ ?_))))); (focus (simp (maxSteps := 9999999) (disch := omega) only [go_sem, sg.ren, g1, hL4, hL5, p0, p1, p2, g2]; rfl)))); (try simp (maxSteps := 9999999) (disch := omega) only [go_sem, sg.ren, g1, hL4, hL5, p0, p1, p2, g2]); (try (refine And.intro ?_ ?_; (focus (first | omega | (simp only [go_sem]; done) | (simp; done) | (simp; omega) | assumption))))) | ((first | refine CondP.split (fun hif => ?_) (fun hif => ?_) | refine Runs.part (fun hif => ?_) (fun hif => ?_)) <;> ((try simp only [hif]); (try simp only [decide_eq_true_eq, decide_eq_false_iff_not, Bool.not_eq_true, Bool.not_eq_false, Bool.not_eq_true', Bool.not_eq_false', beq_iff_eq, bne_iff_ne, bne_eq_false_iff_eq, beq_eq_false_iff_ne, ne_eq, Bool.and_eq_true, Bool.or_eq_true, Bool.or_eq_false_iff] at hif); (try (have h9 : _ = true := hif; simp only [h9])); (try (have h9 : _ = false := hif; simp only [h9])); (try simp (maxSteps := 9999999) (disch := omega) only [go_sem, sg.ren, g1, hL4, hL5, p0, p1, p2, g2]); (try (refine And.intro ?_ ?_; (focus (first | omega | (simp only [go_sem]; done) | (simp; done) | (simp; omega) | assumption)))); (try (exfalso; omega; done))))))
      (apply Ret.det [0]; (focus (first | exact .inl rfl | exact .inr rfl)); (focus (simp (maxSteps := 9999999) (disch := omega) only [go_sem, sg.ren]; rfl)); (simp (maxSteps := 9999999) (disch := omega) only [go_sem, sg.ren]; (try (repeat' (first | done | trivial | rfl | exact leAs_rfl _ | decide | (refine And.intro ?_ ?_) | (simp; done) | omega | (simp; decide))))))
    · rw [if_neg (fun h => hn h.1)]
      have g2 : (n != ((L.length - 9 : Nat) : Int)) = true := by rw [bne_iff_ne]; exact hn
      refine ⟨fun _ => ?_, fun h => absurd h (by decide)⟩
      refine ACall.startA c15_ok Try.func15 rfl Try.ntmps15 (by kernel_rfl) res15_ok rfl rfl rfl ?_; simp (maxSteps := 9999999) (disch := omega) only [go_sem]
      (repeat' (first | refine AWpA.seq ?_ | refine AWpA.block ?_ | (with_reducible refine CondP.tt ?_) | (with_reducible refine CondP.ff ?_) | refine AWpA.condv (by simp (maxSteps := 9999999) (disch := omega) only [go_sem, sg.ren, g1, hL4, hL5, p0, p1, p2, g2]; rfl) ?_ | ((first | (apply AWpA.region; (focus (simp (maxSteps := 9999999) (disch := omega) only [go_sem, sg.ren, g1, hL4, hL5, p0, p1, p2, g2]; rfl))) | (apply AWpA.draw [] follows; (focus (simp (maxSteps := 9999999) (disch := omega) only [go_sem, sg.ren, g1, hL4, hL5, p0, p1, p2, g2]; rfl)); (focus (simp (maxSteps := 9999999) (disch := omega) only [go_sem, sg.ren, g1, hL4, hL5, p0, p1, p2, g2]; first | done | trivial)); (focus (simp (maxSteps := 9999999) (disch := omega) only [go_sem, sg.ren, g1, hL4, hL5, p0, p1, p2, g2]; rfl))) | (apply TailK.go; (focus (simp (maxSteps := 9999999) (disch := omega) only [go_sem, sg.ren, g1, hL4, hL5, p0, p1, p2, g2]; rfl))) | refine AWpA.skip ?_ | refine AWpA.exit ?_ | refine AWpA.ret ?_ | (with_reducible refine ARoundsA.succ ?_) | ((first | refine Runs.kt (by assumption) (fun h9 => ?_) | refine Runs.kf (by assumption) (fun h9 => ?_) | refine Runs.nt (by assumption) (fun h9 => ?_) | refine Runs.nf (by assumption) (fun h9 => ?_) | refine CondP.ht (by assumption) (fun h9 => ?_) | refine CondP.hf (by assumption) (fun h9 => ?_) | refine CondP.nt (by assumption) (fun h9 => ?_) | refine CondP.nf (by assumption) (fun h9 => ?_)); (try simp only [h9]); clear h9) | ((first | (with_reducible apply CallG.plain1 [0] (hh)) | (with_reducible apply CallG.draw1 [0] (hh))); (focus ((try refine And.intro (leAs_of_eq rfl) ?_); (try refine And.intro (leOL_of_eq rfl) ?_); simp (maxSteps := 9999999) (disch := omega) only [go_sem, sg.ren, g1, hL4, hL5, p0, p1, p2, g2]; first | done | (repeat' (first | rfl | (refine And.intro ?_ ?_))))); (focus (simp (maxSteps := 9999999) (disch := omega) only [go_sem, sg.ren, g1, hL4, hL5, p0, p1, p2, g2]; rfl))) | ((first | (with_reducible apply CallG.plain1 [0] (c7)) | (with_reducible apply CallG.draw1 [0] (c7))); (focus ((try refine And.intro (leAs_of_eq rfl) ?_); (try refine And.intro (leOL_of_eq rfl) ?_); simp (maxSteps := 9999999) (disch := omega) only [go_sem, sg.ren, g1, hL4, hL5, p0, p1, p2, g2]; first | done | (repeat' (first | rfl | (refine And.intro ?_ ?_))))); (focus (simp (maxSteps := 9999999) (disch := omega) only [go_sem, sg.ren, g1, hL4, hL5, p0, p1, p2, g2]; rfl))) | ((first | (with_reducible apply CallG.plain1 [0] (c8)) | (with_reducible apply CallG.draw1 [0] (c8))); (focus ((try refine And.intro (leAs_of_eq rfl) ?_); (try refine And.intro (leOL_of_eq rfl) ?_); simp (maxSteps := 9999999) (disch := omega) only [go_sem, sg.ren, g1, hL4, hL5, p0, p1, p2, g2]; first | done | (repeat' (first | rfl | (refine And.intro ?_ ?_))))); (focus (simp (maxSteps := 9999999) (disch := omega) only [go_sem, sg.ren, g1, hL4, hL5, p0, p1, p2, g2]; rfl)))); (try simp (maxSteps := 9999999) (disch := omega) only [go_sem, sg.ren, g1, hL4, hL5, p0, p1, p2, g2]); (try (refine And.intro ?_ ?_; (focus (first | omega | (simp only [go_sem]; done) | (simp; done) | (simp; omega) | assumption))))) | ((first | refine CondP.split (fun hif => ?_) (fun hif => ?_) | refine Runs.part (fun hif => ?_) (fun hif => ?_)) <;> ((try simp only [hif]); (try simp only [decide_eq_true_eq, decide_eq_false_iff_not, Bool.not_eq_true, Bool.not_eq_false, Bool.not_eq_true', Bool.not_eq_false', beq_iff_eq, bne_iff_ne, bne_eq_false_iff_eq, beq_eq_false_iff_ne, ne_eq, Bool.and_eq_true, Bool.or_eq_true, Bool.or_eq_false_iff] at hif); (try (have h9 : _ = true := hif; simp only [h9])); (try (have h9 : _ = false := hif; simp only [h9])); (try simp (maxSteps := 9999999) (disch := omega) only [go_sem, sg.ren, g1, hL4, hL5, p0, p1, p2, g2]); (try (refine And.intro ?_ ?_; (focus (first | omega | (simp only [go_sem]; done) | (simp; done) | (simp; omega) | assumption)))); (try (exfalso; omega; done))))))
      (apply Ret.det [0]; (focus (first | exact .inl rfl | exact .inr rfl)); (focus (simp (maxSteps := 9999999) (disch := omega) only [go_sem, sg.ren]; rfl)); (simp (maxSteps := 9999999) (disch := omega) only [go_sem, sg.ren]; (try (repeat' (first | done | trivial | rfl | exact leAs_rfl _ | decide | (refine And.intro ?_ ?_) | (simp; done) | omega | (simp; decide))))))
  · rw [if_neg (fun h => hk h.2)]
    have g2 : (chkF f t k (L.length - 9) != 0) = true := by rw [bne_iff_ne]; exact hk
    generalize chkF f t k (L.length - 9) = ck at *
    refine ⟨fun _ => ?_, fun h => absurd h (by decide)⟩
    refine ACall.startA c15_ok Try.func15 rfl Try.ntmps15 (by kernel_rfl) res15_ok rfl rfl rfl ?_; simp (maxSteps := 9999999) (disch := omega) only [go_sem]
    (repeat' (first | refine AWpA.seq ?_ | refine AWpA.block ?_ | (with_reducible refine CondP.tt ?_) | (with_reducible refine CondP.ff ?_) | refine AWpA.condv (by simp (maxSteps := 9999999) (disch := omega) only [go_sem, sg.ren, g1, hL4, hL5, p0, p1, p2, g2]; rfl) ?_ | ((first | (apply AWpA.region; (focus (simp (maxSteps := 9999999) (disch := omega) only [go_sem, sg.ren, g1, hL4, hL5, p0, p1, p2, g2]; rfl))) | (apply AWpA.draw [] follows; (focus (simp (maxSteps := 9999999) (disch := omega) only [go_sem, sg.ren, g1, hL4, hL5, p0, p1, p2, g2]; rfl)); (focus (simp (maxSteps := 9999999) (disch := omega) only [go_sem, sg.ren, g1, hL4, hL5, p0, p1, p2, g2]; first | done | trivial)); (focus (simp (maxSteps := 9999999) (disch := omega) only [go_sem, sg.ren, g1, hL4, hL5, p0, p1, p2, g2]; rfl))) | (apply TailK.go; (focus (simp (maxSteps := 9999999) (disch := omega) only [go_sem, sg.ren, g1, hL4, hL5, p0, p1, p2, g2]; rfl))) | refine AWpA.skip ?_ | refine AWpA.exit ?_ | refine AWpA.ret ?_ | (with_reducible refine ARoundsA.succ ?_) | ((first | refine Runs.kt (by assumption) (fun h9 => ?_) | refine Runs.kf (by assumption) (fun h9 => ?_) | refine Runs.nt (by assumption) (fun h9 => ?_) | refine Runs.nf (by assumption) (fun h9 => ?_) | refine CondP.ht (by assumption) (fun h9 => ?_) | refine CondP.hf (by assumption) (fun h9 => ?_) | refine CondP.nt (by assumption) (fun h9 => ?_) | refine CondP.nf (by assumption) (fun h9 => ?_)); (try simp only [h9]); clear h9) | ((first | (with_reducible apply CallG.plain1 [0] (hh)) | (with_reducible apply CallG.draw1 [0] (hh))); (focus ((try refine And.intro (leAs_of_eq rfl) ?_); (try refine And.intro (leOL_of_eq rfl) ?_); simp (maxSteps := 9999999) (disch := omega) only [go_sem, sg.ren, g1, hL4, hL5, p0, p1, p2, g2]; first | done | (repeat' (first | rfl | (refine And.intro ?_ ?_))))); (focus (simp (maxSteps := 9999999) (disch := omega) only [go_sem, sg.ren, g1, hL4, hL5, p0, p1, p2, g2]; rfl))) | ((first | (with_reducible apply CallG.plain1 [0] (c7)) | (with_reducible apply CallG.draw1 [0] (c7))); (focus ((try refine And.intro (leAs_of_eq rfl) ?_); (try refine And.intro (leOL_of_eq rfl) ?_); simp (maxSteps := 9999999) (disch := omega) only [go_sem, sg.ren, g1, hL4, hL5, p0, p1, p2, g2]; first | done | (repeat' (first | rfl | (refine And.intro ?_ ?_))))); (focus (simp (maxSteps := 9999999) (disch := omega) only [go_sem, sg.ren, g1, hL4, hL5, p0, p1, p2, g2]; rfl))) | ((first | (with_reducible apply CallG.plain1 [0] (c8)) | (with_reducible apply CallG.draw1 [0] (c8))); (focus ((try refine And.intro (leAs_of_eq rfl) ?_); (try refine And.intro (leOL_of_eq rfl) ?_); simp (maxSteps := 9999999) (disch := omega) only [go_sem, sg.ren, g1, hL4, hL5, p0, p1, p2, g2]; first | done | (repeat' (first | rfl | (refine And.intro ?_ ?_))))); (focus (simp (maxSteps := 9999999) (disch := omega) only [go_sem, sg.ren, g1, hL4, hL5, p0, p1, p2, g2]; rfl)))); (try simp (maxSteps := 9999999) (disch := omega) only [go_sem, sg.ren, g1, hL4, hL5, p0, p1, p2, g2]); (try (refine And.intro ?_ ?_; (focus (first | omega | (simp only [go_sem]; done) | (simp; done) | (simp; omega) | assumption))))) | ((first | refine CondP.split (fun hif => ?_) (fun hif => ?_) | refine Runs.part (fun hif => ?_) (fun hif => ?_)) <;> ((try simp only [hif]); (try simp only [decide_eq_true_eq, decide_eq_false_iff_not, Bool.not_eq_true, Bool.not_eq_false, Bool.not_eq_true', Bool.not_eq_false', beq_iff_eq, bne_iff_ne, bne_eq_false_iff_eq, beq_eq_false_iff_ne, ne_eq, Bool.and_eq_true, Bool.or_eq_true, Bool.or_eq_false_iff] at hif); (try (have h9 : _ = true := hif; simp only [h9])); (try (have h9 : _ = false := hif; simp only [h9])); (try simp (maxSteps := 9999999) (disch := omega) only [go_sem, sg.ren, g1, hL4, hL5, p0, p1, p2, g2]); (try (refine And.intro ?_ ?_; (focus (first | omega | (simp only [go_sem]; done) | (simp; done) | (simp; omega) | assumption)))); (try (exfalso; omega; done))))))
    (apply Ret.det [0]; (focus (first | exact .inl rfl | exact .inr rfl)); (focus (simp (maxSteps := 9999999) (disch := omega) only [go_sem, sg.ren]; rfl)); (simp (maxSteps := 9999999) (disch := omega) only [go_sem, sg.ren]; (try (repeat' (first | done | trivial | rfl | exact leAs_rfl _ | decide | (refine And.intro ?_ ?_) | (simp; done) | omega | (simp; decide))))))
end Go.Proofs.Ythbpdmlbfnjoiaa
