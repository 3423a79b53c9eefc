/- Contracts: slices of keys: cloned, grown, cut. -/
import Derived.Test.YtodnlihbmgigjaaBt1
import Derived.Test.YtodnlihbmgigjaaBo
namespace Go.Proofs.Ytodnlihbmgigjaa
set_option linter.unusedSimpArgs false
set_option linter.unusedVariables false
set_option maxHeartbeats 4000000
open Go Go.Am Go.RowKit
set_option maxRecDepth 100000
/- slices.Clone[[]quidnunc/table.Pair[int],quidnunc/table.Pair[int]] -/
noncomputable def c35_1 : ACode := .region false [⟨some 2, .move, [.c (.val (.slice none 0 0))], none⟩] [] [] [0] false [] []
noncomputable def c35_4 : ACode := .region false [⟨some 3, .move, [.t 0], none⟩,
  ⟨some 4, .eqS false, [.t 3, .c (.val (.slice none 0 0))], none⟩] [] [] [0, 4] false [] []
noncomputable def c35_7 : ACode := .region false [⟨some 2, .move, [.c (.val (.slice none 0 0))], none⟩] [] [] [2] false [] []
noncomputable def c35_6 : ACode := .seq c35_7 .ret
noncomputable def c35_5 : ACode := .cond (.t 4) c35_6 .skip
noncomputable def c35_3 : ACode := .seq c35_4 c35_5
noncomputable def c35_9 : ACode := .region false [⟨some 5, .buildSl 2 0 [(.string ⟨#[]⟩), (.int .i64 0)] [], [], none⟩,
  ⟨some 6, .move, [.t 0], none⟩,
  ⟨some 7, .append 2 24 false, [.t 5, .t 6], none⟩,
  ⟨some 2, .move, [.t 7], none⟩] [] [] [2] true [] []
noncomputable def c35_8 : ACode := .seq c35_9 .ret
noncomputable def c35_2 : ACode := .seq c35_3 c35_8
noncomputable def c35_0 : ACode := .seq c35_1 c35_2
noncomputable def code35 : Code := (Try.f35.body).getD .skip
theorem c35_ok : compC Try.prog 8 code35 = some (strip c35_0) := by kernel_rfl
theorem res35_ok : Try.f35.results.toList.mapM (resC Try.prog) = some [(2, none)] := by kernel_rfl
/- slices.Insert[[]quidnunc/table.Pair[int],quidnunc/table.Pair[int]] -/
noncomputable def c34_1 : ACode := .region false [⟨some 6, .move, [.c (.val (.slice none 0 0))], none⟩] [] [] [0, 1, 2] false [] []
noncomputable def c34_3 : ACode := .region false [⟨some 10, .move, [.t 0], none⟩,
  ⟨some 11, .move, [.t 1], none⟩,
  ⟨some 12, .slS 2 true false false, [.t 10, .t 11], none⟩] [] [] [0, 1, 2] false [] []
noncomputable def c34_5 : ACode := .region false [⟨some 13, .move, [.t 2], none⟩,
  ⟨some 14, .len, [.t 13], none⟩,
  ⟨some 7, .move, [.t 14], none⟩] [] [] [0, 1, 2, 7] false [] []
noncomputable def c34_8 : ACode := .region false [⟨some 15, .move, [.t 7], none⟩,
  ⟨some 16, .bin .eql, [.t 15, .c (.val (.int .i64 0))], none⟩] [] [] [0, 1, 2, 7, 16] false [] []
noncomputable def c34_11 : ACode := .region false [⟨some 17, .move, [.t 0], none⟩,
  ⟨some 6, .move, [.t 17], none⟩] [] [] [6] false [] []
noncomputable def c34_10 : ACode := .seq c34_11 .ret
noncomputable def c34_9 : ACode := .cond (.t 16) c34_10 .skip
noncomputable def c34_7 : ACode := .seq c34_8 c34_9
noncomputable def c34_13 : ACode := .region false [⟨some 18, .move, [.t 0], none⟩,
  ⟨some 19, .len, [.t 18], none⟩,
  ⟨some 8, .move, [.t 19], none⟩] [] [] [0, 1, 2, 7, 8] false [] []
noncomputable def c34_16 : ACode := .region false [⟨some 20, .move, [.t 1], none⟩,
  ⟨some 21, .move, [.t 8], none⟩,
  ⟨some 22, .bin .eql, [.t 20, .t 21], none⟩] [] [] [0, 1, 2, 7, 8, 22] false [] []
noncomputable def c34_19 : ACode := .region false [⟨some 23, .move, [.t 0], none⟩,
  ⟨some 24, .move, [.t 2], none⟩,
  ⟨some 25, .append 2 24 false, [.t 23, .t 24], none⟩,
  ⟨some 6, .move, [.t 25], none⟩] [] [] [6] true [] []
noncomputable def c34_18 : ACode := .seq c34_19 .ret
noncomputable def c34_17 : ACode := .cond (.t 22) c34_18 .skip
noncomputable def c34_15 : ACode := .seq c34_16 c34_17
noncomputable def c34_22 : ACode := .region false [⟨some 26, .move, [.t 8], none⟩,
  ⟨some 27, .move, [.t 7], none⟩,
  ⟨some 28, .bin .add, [.t 26, .t 27], none⟩,
  ⟨some 29, .move, [.t 0], none⟩,
  ⟨some 30, .cap, [.t 29], none⟩,
  ⟨some 31, .bin .gtr, [.t 28, .t 30], none⟩] [] [] [0, 1, 2, 7, 8, 31] false [] []
noncomputable def c34_25 : ACode := .region false [⟨some 32, .move, [.t 0], none⟩,
  ⟨some 33, .move, [.t 1], none⟩,
  ⟨some 34, .slS 2 false true false, [.t 32, .t 33], none⟩,
  ⟨some 35, .move, [.t 8], none⟩,
  ⟨some 36, .move, [.t 7], none⟩,
  ⟨some 37, .bin .add, [.t 35, .t 36], none⟩,
  ⟨some 38, .move, [.t 1], none⟩,
  ⟨some 39, .bin .sub, [.t 37, .t 38], none⟩,
  ⟨some 40, .growN 2 24, [.t 34, .t 39], none⟩,
  ⟨some 9, .move, [.t 40], none⟩] [] [] [0, 1, 2, 7, 9] true [] []
noncomputable def c34_27 : ACode := .region false [⟨some 41, .move, [.t 9], none⟩,
  ⟨some 42, .move, [.t 1], none⟩,
  ⟨some 43, .slS 2 true false false, [.t 41, .t 42], none⟩,
  ⟨some 44, .move, [.t 2], none⟩,
  ⟨some 45, .copy 2, [.t 43, .t 44], none⟩] [] [] [0, 1, 7, 9] true [] []
noncomputable def c34_29 : ACode := .region true [⟨some 46, .move, [.t 9], none⟩,
  ⟨some 47, .move, [.t 1], none⟩,
  ⟨some 48, .move, [.t 7], none⟩,
  ⟨some 49, .bin .add, [.t 47, .t 48], none⟩,
  ⟨some 50, .slS 2 true false false, [.t 46, .t 49], none⟩,
  ⟨some 51, .move, [.t 0], none⟩,
  ⟨some 52, .move, [.t 1], none⟩,
  ⟨some 53, .slS 2 true false false, [.t 51, .t 52], none⟩,
  ⟨some 54, .copy 2, [.t 50, .t 53], none⟩] [] [] [9] true [9] []
noncomputable def c34_31 : ACode := .region false [⟨some 55, .move, [.t 9], none⟩,
  ⟨some 6, .move, [.t 55], none⟩] [] [] [6] false [] []
noncomputable def c34_30 : ACode := .seq c34_31 .ret
noncomputable def c34_28 : ACode := .seq c34_29 c34_30
noncomputable def c34_26 : ACode := .seq c34_27 c34_28
noncomputable def c34_24 : ACode := .seq c34_25 c34_26
noncomputable def c34_23 : ACode := .cond (.t 31) c34_24 .skip
noncomputable def c34_21 : ACode := .seq c34_22 c34_23
noncomputable def c34_33 : ACode := .region false [⟨some 56, .move, [.t 0], none⟩,
  ⟨some 57, .move, [.t 8], none⟩,
  ⟨some 58, .move, [.t 7], none⟩,
  ⟨some 59, .bin .add, [.t 57, .t 58], none⟩,
  ⟨some 60, .slS 2 false true false, [.t 56, .t 59], none⟩,
  ⟨some 0, .move, [.t 60], none⟩] [] [] [0, 1, 2, 7, 8] false [] []
noncomputable def c34_36 : ACode := .region false [⟨some 61, .move, [.t 2], none⟩,
  ⟨some 62, .move, [.t 0], none⟩,
  ⟨some 63, .move, [.t 1], none⟩,
  ⟨some 64, .move, [.t 7], none⟩,
  ⟨some 65, .bin .add, [.t 63, .t 64], none⟩,
  ⟨some 66, .slS 2 true false false, [.t 62, .t 65], none⟩,
  ⟨some 67, .call 49, [.t 61, .t 66], none⟩,
  ⟨some 68, .un .not, [.t 67], none⟩] [] [] [0, 1, 2, 7, 8, 68] true [] []
noncomputable def c34_39 : ACode := .region true [⟨some 69, .move, [.t 0], none⟩,
  ⟨some 70, .move, [.t 1], none⟩,
  ⟨some 71, .move, [.t 7], none⟩,
  ⟨some 72, .bin .add, [.t 70, .t 71], none⟩,
  ⟨some 73, .slS 2 true false false, [.t 69, .t 72], none⟩,
  ⟨some 74, .move, [.t 0], none⟩,
  ⟨some 75, .move, [.t 1], none⟩,
  ⟨some 76, .slS 2 true false false, [.t 74, .t 75], none⟩,
  ⟨some 77, .copy 2, [.t 73, .t 76], none⟩] [] [] [0, 1, 2] true [0] []
noncomputable def c34_41 : ACode := .region false [⟨some 78, .move, [.t 0], none⟩,
  ⟨some 79, .move, [.t 1], none⟩,
  ⟨some 80, .slS 2 true false false, [.t 78, .t 79], none⟩,
  ⟨some 81, .move, [.t 2], none⟩,
  ⟨some 82, .copy 2, [.t 80, .t 81], none⟩] [] [] [0] true [] []
noncomputable def c34_43 : ACode := .region false [⟨some 83, .move, [.t 0], none⟩,
  ⟨some 6, .move, [.t 83], none⟩] [] [] [6] false [] []
noncomputable def c34_42 : ACode := .seq c34_43 .ret
noncomputable def c34_40 : ACode := .seq c34_41 c34_42
noncomputable def c34_38 : ACode := .seq c34_39 c34_40
noncomputable def c34_37 : ACode := .cond (.t 68) c34_38 .skip
noncomputable def c34_35 : ACode := .seq c34_36 c34_37
noncomputable def c34_45 : ACode := .region false [⟨some 84, .move, [.t 0], none⟩,
  ⟨some 85, .move, [.t 8], none⟩,
  ⟨some 86, .slS 2 true false false, [.t 84, .t 85], none⟩,
  ⟨some 87, .move, [.t 2], none⟩,
  ⟨some 88, .copy 2, [.t 86, .t 87], none⟩] [] [] [0, 1, 7] true [] []
noncomputable def c34_47 : ACode := .region false [⟨some 89, .move, [.t 0], none⟩,
  ⟨some 90, .move, [.t 1], none⟩,
  ⟨some 91, .slS 2 true false false, [.t 89, .t 90], none⟩,
  ⟨some 92, .move, [.t 7], none⟩,
  ⟨some 93, .call 50, [.t 91, .t 92], none⟩] [] [] [0] true [] []
noncomputable def c34_49 : ACode := .region false [⟨some 94, .move, [.t 0], none⟩,
  ⟨some 6, .move, [.t 94], none⟩] [] [] [6] false [] []
noncomputable def c34_48 : ACode := .seq c34_49 .ret
noncomputable def c34_46 : ACode := .seq c34_47 c34_48
noncomputable def c34_44 : ACode := .seq c34_45 c34_46
noncomputable def c34_34 : ACode := .seq c34_35 c34_44
noncomputable def c34_32 : ACode := .seq c34_33 c34_34
noncomputable def c34_20 : ACode := .seq c34_21 c34_32
noncomputable def c34_14 : ACode := .seq c34_15 c34_20
noncomputable def c34_12 : ACode := .seq c34_13 c34_14
noncomputable def c34_6 : ACode := .seq c34_7 c34_12
noncomputable def c34_4 : ACode := .seq c34_5 c34_6
noncomputable def c34_2 : ACode := .seq c34_3 c34_4
noncomputable def c34_0 : ACode := .seq c34_1 c34_2
noncomputable def code34 : Code := (Try.f34.body).getD .skip
theorem c34_ok : compC Try.prog 95 code34 = some (strip c34_0) := by kernel_rfl
theorem res34_ok : Try.f34.results.toList.mapM (resC Try.prog) = some [(6, none)] := by kernel_rfl
/- slices.Delete[[]quidnunc/table.Pair[int],quidnunc/table.Pair[int]] -/
noncomputable def c36_1 : ACode := .region false [⟨some 6, .move, [.c (.val (.slice none 0 0))], none⟩] [] [] [0, 1, 2] false [] []
noncomputable def c36_3 : ACode := .region false [⟨some 8, .move, [.t 0], none⟩,
  ⟨some 9, .move, [.t 1], none⟩,
  ⟨some 10, .move, [.t 2], none⟩,
  ⟨some 11, .move, [.t 0], none⟩,
  ⟨some 12, .len, [.t 11], none⟩,
  ⟨some 13, .slS 2 true true true, [.t 8, .t 9, .t 10, .t 12], none⟩] [] [] [0, 1, 2] false [] []
noncomputable def c36_6 : ACode := .region false [⟨some 14, .move, [.t 1], none⟩,
  ⟨some 15, .move, [.t 2], none⟩,
  ⟨some 16, .bin .eql, [.t 14, .t 15], none⟩] [] [] [0, 1, 2, 16] false [] []
noncomputable def c36_9 : ACode := .region false [⟨some 17, .move, [.t 0], none⟩,
  ⟨some 6, .move, [.t 17], none⟩] [] [] [6] false [] []
noncomputable def c36_8 : ACode := .seq c36_9 .ret
noncomputable def c36_7 : ACode := .cond (.t 16) c36_8 .skip
noncomputable def c36_5 : ACode := .seq c36_6 c36_7
noncomputable def c36_11 : ACode := .region false [⟨some 18, .move, [.t 0], none⟩,
  ⟨some 19, .len, [.t 18], none⟩,
  ⟨some 7, .move, [.t 19], none⟩] [] [] [0, 1, 2, 7] false [] []
noncomputable def c36_13 : ACode := .region true [⟨some 20, .move, [.t 0], none⟩,
  ⟨some 21, .move, [.t 1], none⟩,
  ⟨some 22, .slS 2 false true false, [.t 20, .t 21], none⟩,
  ⟨some 23, .move, [.t 0], none⟩,
  ⟨some 24, .move, [.t 2], none⟩,
  ⟨some 25, .slS 2 true false false, [.t 23, .t 24], none⟩,
  ⟨some 26, .append 2 24 false, [.t 22, .t 25], none⟩,
  ⟨some 0, .move, [.t 26], none⟩] [] [] [0, 7] true [0] []
noncomputable def c36_15 : ACode := .region false [⟨some 27, .move, [.t 0], none⟩,
  ⟨some 28, .move, [.t 0], none⟩,
  ⟨some 29, .len, [.t 28], none⟩,
  ⟨some 30, .move, [.t 7], none⟩,
  ⟨some 31, .slS 2 true true false, [.t 27, .t 29, .t 30], none⟩,
  ⟨none, .clearS 2 [(.string ⟨#[]⟩), (.int .i64 0)], [.t 31], none⟩] [] [] [0] true [] []
noncomputable def c36_17 : ACode := .region false [⟨some 32, .move, [.t 0], none⟩,
  ⟨some 6, .move, [.t 32], none⟩] [] [] [6] false [] []
noncomputable def c36_16 : ACode := .seq c36_17 .ret
noncomputable def c36_14 : ACode := .seq c36_15 c36_16
noncomputable def c36_12 : ACode := .seq c36_13 c36_14
noncomputable def c36_10 : ACode := .seq c36_11 c36_12
noncomputable def c36_4 : ACode := .seq c36_5 c36_10
noncomputable def c36_2 : ACode := .seq c36_3 c36_4
noncomputable def c36_0 : ACode := .seq c36_1 c36_2
noncomputable def code36 : Code := (Try.f36.body).getD .skip
theorem c36_ok : compC Try.prog 33 code36 = some (strip c36_0) := by kernel_rfl
theorem res36_ok : Try.f36.results.toList.mapM (resC Try.prog) = some [(6, none)] := by kernel_rfl
theorem over_any {o la o' lb : Nat} {ca cb : Option Nat} {C D : List AV} (hC : ∀ ρ, renL ρ C = C) (hD : ∀ ρ, renL ρ D = D) (hla : 0 < la) (hlb : 0 < lb) : ACall Try.prog 49 [.sl 0 o la 2 ca, .sl 1 o' lb 2 cb] [.cells false C, .cells false D] (Det (Bo false) [.cells false C, .cells false D]) :=
  overlaps_gen Try.func49 (by kernel_rfl) (by kernel_rfl) (by kernel_rfl) (tS := 43) (tR := 4) (e := 47) (by kernel_rfl) Try.underlying43 (by kernel_rfl) (by decide) hC hD hla hlb
theorem clonep_any (C : List AV) (off : Nat) (l : List Pi) (hl : l.length ≤ 1099511627776) (hr : ∀ ρ, renL ρ C = C) (hle : off + l.length * 2 ≤ C.length) (hseg : (C.drop off).take (l.length * 2) = Rp 0 l) : ACall Try.prog 35 [.sl 0 off l.length 2 none] [.cells true C] (Det (.sl 1 0 l.length 2 none) [.cells true C, .cells false (Rp 0 l)]) := by
  have hr2 := rp_ren
  have hno := rp_noAny
  by_cases h0 : l.length = 0
  · have hl : l = [] := List.length_eq_zero_iff.1 h0
    subst hl
    simp only [List.length_nil, Nat.zero_mul, Nat.add_zero] at hle
    clear hseg h0
    refine ACall.startA c35_ok Try.func35 rfl Try.ntmps35 (by kernel_rfl) res35_ok rfl rfl rfl ?_; simp (maxSteps := 9999999) (disch := omega) only [go_sem]
    refine AWpA.nilcase 0 rfl ?_ (fun q => ?_) (fun cp => ?_)
    · refine AWpA.dummy ?_
      (have k9 := And.intro @hr (And.intro @hr2 (k0)); (repeat' (first | refine AWpA.seq ?_ | refine AWpA.block ?_ | (with_reducible refine CondP.tt ?_) | (with_reducible refine CondP.ff ?_) | refine AWpA.cg ?_ | ((first | refine AWpA.rg ?_ | refine AWpA.dg [] [] follows ?_ | refine TailK.tg ?_ | refine AWpA.skip ?_ | refine AWpA.exit ?_ | refine AWpA.ret ?_ | (with_reducible refine ARoundsA.succ ?_) | ((first | refine Runs.gkt (fun h9 => ?_) | refine Runs.gkf (fun h9 => ?_) | refine Runs.gnt (fun h9 => ?_) | refine Runs.gnf (fun h9 => ?_) | refine CondP.gt (fun h9 => ?_) | refine CondP.gf (fun h9 => ?_) | refine CondP.gnt (fun h9 => ?_) | refine CondP.gnf (fun h9 => ?_)); (try simp only [h9]); clear h9)); (try simp (maxSteps := 9999999) (disch := omega) only [go_sem, k9]); (try refine cnd ?_)) | ((first | refine CondP.split (fun hif => ?_) (fun hif => ?_) | refine Runs.part (fun hif => ?_) (fun hif => ?_)) <;> ((try simp only [hif]); (try simp only [BL] at hif); (try (have h9 : _ = true := hif; simp only [h9])); (try (have h9 : _ = false := hif; simp only [h9])); (try simp (maxSteps := 9999999) (disch := omega) only [go_sem, k9]); (try refine cnd ?_); (try (exfalso; omega; done)))))); (all_goals (try clear k9)))
      (apply Ret.det [0, 1]; (focus (first | exact .inl rfl | exact .inr rfl)); (focus (simp (maxSteps := 9999999) (disch := omega) only [go_sem, hr, rp_nil]; rfl)); (simp (maxSteps := 9999999) (disch := omega) only [go_sem, hr, rp_nil]; (try (repeat' (first | done | trivial | rfl | exact leAs_rfl _ | decide | (refine And.intro ?_ ?_) | (simp; done) | omega | (simp; decide))))))
    · (have k9 := And.intro @hr (And.intro @hr2 (And.intro @hle (And.intro @rp_nil (k0)))); (repeat' (first | refine AWpA.seq ?_ | refine AWpA.block ?_ | (with_reducible refine CondP.tt ?_) | (with_reducible refine CondP.ff ?_) | refine AWpA.cg ?_ | ((first | refine AWpA.rg ?_ | refine AWpA.dg [] [] follows ?_ | refine TailK.tg ?_ | refine AWpA.skip ?_ | refine AWpA.exit ?_ | refine AWpA.ret ?_ | (with_reducible refine ARoundsA.succ ?_) | ((first | refine Runs.gkt (fun h9 => ?_) | refine Runs.gkf (fun h9 => ?_) | refine Runs.gnt (fun h9 => ?_) | refine Runs.gnf (fun h9 => ?_) | refine CondP.gt (fun h9 => ?_) | refine CondP.gf (fun h9 => ?_) | refine CondP.gnt (fun h9 => ?_) | refine CondP.gnf (fun h9 => ?_)); (try simp only [h9]); clear h9)); (try simp (maxSteps := 9999999) (disch := omega) only [go_sem, k9]); (try refine cnd ?_)) | ((first | refine CondP.split (fun hif => ?_) (fun hif => ?_) | refine Runs.part (fun hif => ?_) (fun hif => ?_)) <;> ((try simp only [hif]); (try simp only [BL] at hif); (try (have h9 : _ = true := hif; simp only [h9])); (try (have h9 : _ = false := hif; simp only [h9])); (try simp (maxSteps := 9999999) (disch := omega) only [go_sem, k9]); (try refine cnd ?_); (try (exfalso; omega; done)))))); (all_goals (try clear k9)))
      (apply Ret.det [0, _]; (focus (first | exact .inl rfl | exact .inr rfl)); (focus (simp (maxSteps := 9999999) (disch := omega) only [go_sem, hr, rp_nil]; rfl)); (simp (maxSteps := 9999999) (disch := omega) only [go_sem, hr, rp_nil]; (try (repeat' (first | done | trivial | rfl | exact leAs_rfl _ | decide | (refine And.intro ?_ ?_) | (simp; done) | omega | (simp; decide))))))
    · (have k9 := And.intro @hr (And.intro @hr2 (And.intro @hle (And.intro @rp_nil (k0)))); (repeat' (first | refine AWpA.seq ?_ | refine AWpA.block ?_ | (with_reducible refine CondP.tt ?_) | (with_reducible refine CondP.ff ?_) | refine AWpA.cg ?_ | ((first | refine AWpA.rg ?_ | refine AWpA.dg [] [] follows ?_ | refine TailK.tg ?_ | refine AWpA.skip ?_ | refine AWpA.exit ?_ | refine AWpA.ret ?_ | (with_reducible refine ARoundsA.succ ?_) | ((first | refine Runs.gkt (fun h9 => ?_) | refine Runs.gkf (fun h9 => ?_) | refine Runs.gnt (fun h9 => ?_) | refine Runs.gnf (fun h9 => ?_) | refine CondP.gt (fun h9 => ?_) | refine CondP.gf (fun h9 => ?_) | refine CondP.gnt (fun h9 => ?_) | refine CondP.gnf (fun h9 => ?_)); (try simp only [h9]); clear h9)); (try simp (maxSteps := 9999999) (disch := omega) only [go_sem, k9]); (try refine cnd ?_)) | ((first | refine CondP.split (fun hif => ?_) (fun hif => ?_) | refine Runs.part (fun hif => ?_) (fun hif => ?_)) <;> ((try simp only [hif]); (try simp only [BL] at hif); (try (have h9 : _ = true := hif; simp only [h9])); (try (have h9 : _ = false := hif; simp only [h9])); (try simp (maxSteps := 9999999) (disch := omega) only [go_sem, k9]); (try refine cnd ?_); (try (exfalso; omega; done)))))); (all_goals (try clear k9)))
      (apply Ret.det [0, _]; (focus (first | exact .inl rfl | exact .inr rfl)); (focus (simp (maxSteps := 9999999) (disch := omega) only [go_sem, hr, rp_nil]; rfl)); (simp (maxSteps := 9999999) (disch := omega) only [go_sem, hr, rp_nil]; (try (repeat' (first | done | trivial | rfl | exact leAs_rfl _ | decide | (refine And.intro ?_ ?_) | (simp; done) | omega | (simp; decide))))))
  · have h1 : (0 < l.length) = True := by simp; omega
    have h2 : (l.length ≤ 0) = False := eq_false (by omega)
    refine ACall.startA c35_ok Try.func35 rfl Try.ntmps35 (by kernel_rfl) res35_ok rfl rfl rfl ?_; simp (maxSteps := 9999999) (disch := omega) only [go_sem]
    (have k9 := And.intro @hr (And.intro @hr2 (And.intro @hle (And.intro @hseg (And.intro @hno (And.intro @h1 (And.intro @h2 (k0))))))); (repeat' (first | refine AWpA.seq ?_ | refine AWpA.block ?_ | (with_reducible refine CondP.tt ?_) | (with_reducible refine CondP.ff ?_) | refine AWpA.cg ?_ | ((first | refine AWpA.rg ?_ | refine AWpA.dg [] [] follows ?_ | refine TailK.tg ?_ | refine AWpA.skip ?_ | refine AWpA.exit ?_ | refine AWpA.ret ?_ | (with_reducible refine ARoundsA.succ ?_) | ((first | refine Runs.gkt (fun h9 => ?_) | refine Runs.gkf (fun h9 => ?_) | refine Runs.gnt (fun h9 => ?_) | refine Runs.gnf (fun h9 => ?_) | refine CondP.gt (fun h9 => ?_) | refine CondP.gf (fun h9 => ?_) | refine CondP.gnt (fun h9 => ?_) | refine CondP.gnf (fun h9 => ?_)); (try simp only [h9]); clear h9)); (try simp (maxSteps := 9999999) (disch := omega) only [go_sem, k9]); (try refine cnd ?_)) | ((first | refine CondP.split (fun hif => ?_) (fun hif => ?_) | refine Runs.part (fun hif => ?_) (fun hif => ?_)) <;> ((try simp only [hif]); (try simp only [BL] at hif); (try (have h9 : _ = true := hif; simp only [h9])); (try (have h9 : _ = false := hif; simp only [h9])); (try simp (maxSteps := 9999999) (disch := omega) only [go_sem, k9]); (try refine cnd ?_); (try (exfalso; omega; done)))))); (all_goals (try clear k9)))
    (apply Ret.det [0, _]; (focus (first | exact .inl rfl | exact .inr rfl)); (focus (simp (maxSteps := 9999999) (disch := omega) only [go_sem, hr, hr2]; rfl)); (simp (maxSteps := 9999999) (disch := omega) only [go_sem, hr, hr2]; (try (repeat' (first | done | trivial | rfl | exact leAs_rfl _ | decide | (refine And.intro ?_ ?_) | (simp; done) | omega | (simp; decide))))))
theorem ins_place {α : Type} {X Y : List α} {i m : Nat} (hX : X.length = i * 2) (hY : Y.length = m * 2) (a b k v : α) :
    List.take (i * 2) (List.take ((i + 1) * 2) (X ++ Y ++ [a, b]) ++ List.take (m * 2) (List.take ((m + 1) * 2) (List.drop (i * 2) (X ++ Y ++ [a, b]))) ++ List.drop ((i + 1) * 2 + m * 2) (X ++ Y ++ [a, b])) ++ [k, v] ++
      List.drop (i * 2 + 2) (List.take ((i + 1) * 2) (X ++ Y ++ [a, b]) ++ List.take (m * 2) (List.take ((m + 1) * 2) (List.drop (i * 2) (X ++ Y ++ [a, b]))) ++ List.drop ((i + 1) * 2 + m * 2) (X ++ Y ++ [a, b])) = X ++ [k, v] ++ Y := by
  have h1 : List.drop ((i + 1) * 2 + m * 2) (X ++ Y ++ [a, b]) = [] := List.drop_of_length_le (by simp; omega)
  have h2 : List.drop (i * 2) (X ++ Y ++ [a, b]) = Y ++ [a, b] := by rw [List.append_assoc, ← hX, List.drop_left]
  have h3 : List.take ((m + 1) * 2) (Y ++ [a, b]) = Y ++ [a, b] := List.take_of_length_le (by simp; omega)
  have h4 : List.take (m * 2) (Y ++ [a, b]) = Y := by rw [← hY, List.take_left]
  obtain ⟨W, hW⟩ : ∃ W, W = List.take 2 (Y ++ [a, b]) := ⟨_, rfl⟩
  have hWl : W.length = 2 := by rw [hW]; simp
  have h5 : List.take ((i + 1) * 2) (X ++ Y ++ [a, b]) = X ++ W := by
    rw [List.append_assoc, List.take_append, List.take_of_length_le (by omega), hX, hW, show (i + 1) * 2 - i * 2 = 2 by omega]
  rw [h1, h2, h3, h4, h5, List.append_nil]
  have h6 : List.take (i * 2) (X ++ W ++ Y) = X := by rw [List.append_assoc, ← hX, List.take_left]
  have h7 : List.drop (i * 2 + 2) (X ++ W ++ Y) = Y := by
    rw [show i * 2 + 2 = (X ++ W).length by simp; omega, List.drop_left]
  rw [h6, h7]
theorem rp_ins (l : List Pi) (i : Nat) (p : Pi) : Rp 0 (l.take i ++ p :: l.drop i) = Rp 0 (l.take i) ++ [.val (.string p.key), I p.v] ++ Rp 0 (l.drop i) := by rw [rp_app, rp_cons]; simp
theorem insert_any (l : List Pi) (i : Nat) (p : Pi) (hi : i ≤ l.length) (hl : l.length ≤ 1099511627776) : ACall Try.prog 34 [.sl 0 0 l.length 2 none, I i, .sl 1 0 1 2 (some 1)] [.cells false (Rp 0 l), .cells false (PiL p)] (Det (.sl 2 0 (l.length + 1) 2 none) [.gone, .cells false (PiL p), .cells false (Rp 0 (l.take i ++ p :: l.drop i))]) := by
  have hr := rp_ren 0
  have hlen := rp_len 0
  have hall := rp_all l (n := l.length * 2) rfl
  by_cases h0 : i = l.length
  · subst h0
    have g1 : l.take l.length ++ p :: l.drop l.length = l ++ [p] := by simp
    rw [g1]
    refine ACall.startA c34_ok Try.func34 rfl Try.ntmps34 (by kernel_rfl) res34_ok rfl rfl rfl ?_; simp (maxSteps := 9999999) (disch := omega) only [go_sem]
    (have k9 := And.intro @hr (And.intro @hlen (And.intro @hall (k0))); (repeat' (first | refine AWpA.seq ?_ | refine AWpA.block ?_ | (with_reducible refine CondP.tt ?_) | (with_reducible refine CondP.ff ?_) | refine AWpA.cg ?_ | ((first | refine AWpA.rg ?_ | refine AWpA.dg [] [] follows ?_ | refine TailK.tg ?_ | refine AWpA.skip ?_ | refine AWpA.exit ?_ | refine AWpA.ret ?_ | (with_reducible refine ARoundsA.succ ?_) | ((first | refine Runs.gkt (fun h9 => ?_) | refine Runs.gkf (fun h9 => ?_) | refine Runs.gnt (fun h9 => ?_) | refine Runs.gnf (fun h9 => ?_) | refine CondP.gt (fun h9 => ?_) | refine CondP.gf (fun h9 => ?_) | refine CondP.gnt (fun h9 => ?_) | refine CondP.gnf (fun h9 => ?_)); (try simp only [h9]); clear h9)); (try simp (maxSteps := 9999999) (disch := omega) only [go_sem, k9]); (try refine cnd ?_)) | ((first | refine CondP.split (fun hif => ?_) (fun hif => ?_) | refine Runs.part (fun hif => ?_) (fun hif => ?_)) <;> ((try simp only [hif]); (try simp only [BL] at hif); (try (have h9 : _ = true := hif; simp only [h9])); (try (have h9 : _ = false := hif; simp only [h9])); (try simp (maxSteps := 9999999) (disch := omega) only [go_sem, k9]); (try refine cnd ?_); (try (exfalso; omega; done)))))); (all_goals (try clear k9)))
    have g2 : Rp 0 (l ++ [p]) = Rp 0 l ++ [.val (.string p.key), I p.v] := by rw [rp_app, rp_one]
    rw [g2]
    (apply Ret.det [0, 1, 274]; (focus (first | exact .inl rfl | exact .inr rfl)); (focus (simp (maxSteps := 9999999) (disch := omega) only [go_sem, hr, renL_append]; rfl)); (simp (maxSteps := 9999999) (disch := omega) only [go_sem, hr, renL_append]; (try (repeat' (first | done | trivial | rfl | exact leAs_rfl _ | decide | (refine And.intro ?_ ?_) | (simp; done) | omega | (simp; decide))))))
  · have g1 : ((i : Int) = (l.length : Int)) = False := eq_false (by omega)
    obtain ⟨m, hm⟩ : ∃ m, l.length = i + m := ⟨l.length - i, by omega⟩
    have hm0 : 0 < m := by omega
    rw [rp_ins]
    have e0 : Rp 0 l = Rp 0 (l.take i) ++ Rp 0 (l.drop i) := by rw [← rp_app, List.take_append_drop]
    have hX := hlen (l.take i)
    have hY := hlen (l.drop i)
    rw [List.length_take, Nat.min_eq_left hi] at hX
    rw [List.length_drop, show l.length - i = m by omega] at hY
    have rX := hr (l.take i)
    have rY := hr (l.drop i)
    generalize Rp 0 (l.take i) = X at *
    generalize Rp 0 (l.drop i) = Y at *
    simp only [Nat.zero_add] at hX hY
    have t1 : ((i : Int) + 1).toNat = i + 1 := by omega
    have t2 : ((l.length : Int) + 1).toNat = l.length + 1 := by omega
    have t3 : l.length - i = m := by omega
    have t4 : l.length + 1 - (i + 1) = m := by omega
    have t5 : l.length + 1 - i = m + 1 := by omega
    have t6 : min 1 (m + 1) = 1 := by omega
    have t7 : min (m + 1) m = m := by omega
    refine ACall.startA c34_ok Try.func34 rfl Try.ntmps34 (by kernel_rfl) res34_ok rfl rfl rfl ?_; simp (maxSteps := 9999999) (disch := omega) only [go_sem]
    refine AWpA.capcase 0 rfl (by omega) (fun cp hcp => ?_)
    by_cases hc : l.length + 1 ≤ cp
    · have g2 : ((cp : Int) < (l.length : Int) + 1) = False := eq_false (by omega)
      have c := over_any (o := 0) (o' := (i + 1) * 2) (la := 1) (lb := m) (ca := some 1) (cb := some (cp - (i + 1))) (C := PiL p) (D := X ++ Y ++ [.any, .any]) (fun ρ => by simp [renL, ren]) (fun ρ => by rw [renL_append, renL_append, rX, rY]; simp [renL, ren]) (by omega) (by omega)
      rw [e0]
      refine AWpA.ext 0 0 2 rfl (by rw [List.length_append, hX, hY]; omega) rfl ?_
      (have k9 := And.intro @rX (And.intro @rY (And.intro @hX (And.intro @hY (And.intro @g1 (And.intro @g2 (And.intro @renL_append (And.intro @t1 (And.intro @t2 (And.intro @t3 (And.intro @t4 (And.intro @t5 (And.intro @t6 (And.intro @t7 (k0)))))))))))))); (repeat' (first | refine AWpA.seq ?_ | refine AWpA.block ?_ | (with_reducible refine CondP.tt ?_) | (with_reducible refine CondP.ff ?_) | refine AWpA.cg ?_ | ((first | refine AWpA.rg ?_ | refine AWpA.dg [] [] follows ?_ | refine TailK.tg ?_ | refine AWpA.skip ?_ | refine AWpA.exit ?_ | refine AWpA.ret ?_ | (with_reducible refine ARoundsA.succ ?_) | ((first | refine Runs.gkt (fun h9 => ?_) | refine Runs.gkf (fun h9 => ?_) | refine Runs.gnt (fun h9 => ?_) | refine Runs.gnf (fun h9 => ?_) | refine CondP.gt (fun h9 => ?_) | refine CondP.gf (fun h9 => ?_) | refine CondP.gnt (fun h9 => ?_) | refine CondP.gnf (fun h9 => ?_)); (try simp only [h9]); clear h9) | refine CallG.pg [1, 0] (c) ?_ | refine CallG.dg [1, 0] (c) ?_); (try simp (maxSteps := 9999999) (disch := omega) only [go_sem, k9]); (try refine cnd ?_)) | ((first | refine CondP.split (fun hif => ?_) (fun hif => ?_) | refine Runs.part (fun hif => ?_) (fun hif => ?_)) <;> ((try simp only [hif]); (try simp only [BL] at hif); (try (have h9 : _ = true := hif; simp only [h9])); (try (have h9 : _ = false := hif; simp only [h9])); (try simp (maxSteps := 9999999) (disch := omega) only [go_sem, k9]); (try refine cnd ?_); (try (exfalso; omega; done)))))); (all_goals (try clear k9)))
      rw [ins_place hX hY]
      (apply Ret.det [0, 1, 0]; (focus (first | exact .inl rfl | exact .inr rfl)); (focus (simp (maxSteps := 9999999) (disch := omega) only [go_sem, rX, rY, renL_append]; rfl)); (simp (maxSteps := 9999999) (disch := omega) only [go_sem, rX, rY, renL_append]; (try (repeat' (first | done | trivial | rfl | exact leAs_rfl _ | decide | (refine And.intro ?_ ?_) | (simp; done) | omega | (simp; decide))))))
    · have g2 : ((cp : Int) < (l.length : Int) + 1) = True := eq_true (by omega)
      have g3 : ((l.length : Int) + 1 - i).toNat = m + 1 := by omega
      have g4 : ((i : Int) + ((m : Int) + 1)).toNat = i + m + 1 := by omega
      have g5 : i + m + 1 - i = m + 1 := by omega
      have g6 : i + m + 1 - (i + 1) = m := by omega
      have q0 : List.take (i * 2) (Rp 0 l) = X := by rw [e0, ← hX, List.take_left]
      have q1 : List.take (i * 2) (X ++ List.replicate ((m + 1) * 2) AV.any) = X := by rw [← hX, List.take_left]
      have q2 : List.drop (i * 2 + 2) (X ++ List.replicate ((m + 1) * 2) AV.any) = List.replicate (m * 2) AV.any := by
        rw [List.drop_append, List.drop_of_length_le (by omega), hX, List.drop_replicate, List.nil_append, show (m + 1) * 2 - (i * 2 + 2 - i * 2) = m * 2 by omega]
      have hL := hlen l
      have hcp : i + (m + 1) ≤ cp ↔ False := iff_false_intro (by omega)
      have q3 : List.drop (i * 2) (Rp 0 l) = Y := by rw [e0, ← hX, List.drop_left]
      (have k9 := And.intro @rX (And.intro @rY (And.intro @hX (And.intro @hY (And.intro @hL (And.intro @g1 (And.intro @g2 (And.intro @g3 (And.intro @g4 (And.intro @g5 (And.intro @g6 (And.intro @q0 (And.intro @q1 (And.intro @q2 (And.intro @q3 (And.intro @hcp (And.intro @t1 (And.intro @t2 (And.intro @t3 (And.intro @t4 (And.intro @t5 (And.intro @t6 (And.intro @t7 (k0))))))))))))))))))))))); (repeat' (first | refine AWpA.seq ?_ | refine AWpA.block ?_ | (with_reducible refine CondP.tt ?_) | (with_reducible refine CondP.ff ?_) | refine AWpA.cg ?_ | ((first | refine AWpA.rg ?_ | refine AWpA.dg [] [] follows ?_ | refine TailK.tg ?_ | refine AWpA.skip ?_ | refine AWpA.exit ?_ | refine AWpA.ret ?_ | (with_reducible refine ARoundsA.succ ?_) | ((first | refine Runs.gkt (fun h9 => ?_) | refine Runs.gkf (fun h9 => ?_) | refine Runs.gnt (fun h9 => ?_) | refine Runs.gnf (fun h9 => ?_) | refine CondP.gt (fun h9 => ?_) | refine CondP.gf (fun h9 => ?_) | refine CondP.gnt (fun h9 => ?_) | refine CondP.gnf (fun h9 => ?_)); (try simp only [h9]); clear h9)); (try simp (maxSteps := 9999999) (disch := omega) only [go_sem, k9]); (try refine cnd ?_)) | ((first | refine CondP.split (fun hif => ?_) (fun hif => ?_) | refine Runs.part (fun hif => ?_) (fun hif => ?_)) <;> ((try simp only [hif]); (try simp only [BL] at hif); (try (have h9 : _ = true := hif; simp only [h9])); (try (have h9 : _ = false := hif; simp only [h9])); (try simp (maxSteps := 9999999) (disch := omega) only [go_sem, k9]); (try refine cnd ?_); (try (exfalso; omega; done)))))); (all_goals (try clear k9)))
      have q4 : List.take (m * 2) Y = Y := List.take_of_length_le (by omega)
      have q5 : ∀ k v : AV, List.drop ((i + 1) * 2 + m * 2) (X ++ [k, v] ++ List.replicate (m * 2) AV.any) = [] := fun k v => List.drop_of_length_le (by simp; omega)
      have q6 : ∀ k v : AV, List.take ((i + 1) * 2) (X ++ [k, v] ++ List.replicate (m * 2) AV.any) = X ++ [k, v] := fun k v => by
        rw [show (i + 1) * 2 = (X ++ [k, v]).length by simp; omega, List.take_left]
      rw [Nat.min_self, q4, q5, q6, List.append_nil]
      (apply Ret.det [0, 1, 466]; (focus (first | exact .inl rfl | exact .inr rfl)); (focus (simp (maxSteps := 9999999) (disch := omega) only [go_sem, rX, rY, renL_append, q4]; rfl)); (simp (maxSteps := 9999999) (disch := omega) only [go_sem, rX, rY, renL_append, q4]; (try (repeat' (first | done | trivial | rfl | exact leAs_rfl _ | decide | (refine And.intro ?_ ?_) | (simp; done) | omega | (simp; decide))))))
end Go.Proofs.Ytodnlihbmgigjaa
