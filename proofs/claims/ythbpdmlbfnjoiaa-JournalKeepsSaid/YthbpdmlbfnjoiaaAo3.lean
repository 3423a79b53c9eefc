/- Contracts: a writer. -/
import Derived.Test.YthbpdmlbfnjoiaaAo2
import Derived.Test.YthbpdmlbfnjoiaaAbc
namespace Go.Proofs.Ythbpdmlbfnjoiaa
set_option linter.unusedSimpArgs false
set_option linter.unusedVariables false
set_option maxHeartbeats 4000000
open Go Go.Am
set_option maxRecDepth 100000
/- (*quidnunc/octets.Writer).put -/
noncomputable def c73_1 : ACode := .region false [⟨some 4, .move, [.c (.val (.pointer none))], none⟩] [] [] [0, 1] false [] []
noncomputable def c73_4 : ACode := .region false [⟨some 5, .move, [.t 0], none⟩,
  ⟨some 6, .nilChk, [.t 5], none⟩,
  ⟨some 7, .addr 1, [.t 6], none⟩,
  ⟨some 8, .addr 0, [.t 7], none⟩,
  ⟨some 9, .load false 1, [.t 8], none⟩,
  ⟨some 10, .bin .eql, [.t 9, .c (.val (.int .i64 0))], none⟩] [] [] [0, 1, 10] false [] []
noncomputable def c73_6 : ACode := .region true [⟨some 11, .move, [.t 0], none⟩,
  ⟨some 12, .move, [.t 0], none⟩,
  ⟨some 13, .nilChk, [.t 12], none⟩,
  ⟨some 14, .addr 0, [.t 13], none⟩,
  ⟨some 15, .load false 1, [.t 14], none⟩,
  ⟨some 16, .move, [.t 1], none⟩,
  ⟨some 17, .call 81, [.t 16], none⟩,
  ⟨some 18, .append 1 1 false, [.t 15, .t 17], none⟩] [] [] [0] true [] [⟨some 19, .nilChk, [.t 11], none⟩,
  ⟨some 20, .addr 0, [.t 19], none⟩,
  ⟨none, .store 1, [.t 20, .t 18], none⟩]
noncomputable def c73_5 : ACode := .cond (.t 10) c73_6 .skip
noncomputable def c73_3 : ACode := .seq c73_4 c73_5
noncomputable def c73_8 : ACode := .region false [⟨some 21, .move, [.t 0], none⟩,
  ⟨some 4, .move, [.t 21], none⟩] [] [] [4] false [] []
noncomputable def c73_7 : ACode := .seq c73_8 .ret
noncomputable def c73_2 : ACode := .seq c73_3 c73_7
noncomputable def c73_0 : ACode := .seq c73_1 c73_2
noncomputable def code73 : Code := (Try.f73.body).getD .skip
theorem c73_ok : compC Try.prog 22 code73 = some (strip c73_0) := by kernel_rfl
theorem res73_ok : Try.f73.results.toList.mapM (resC Try.prog) = some [(4, none)] := by kernel_rfl
/- (*quidnunc/octets.mood).Fail -/
noncomputable def c69_1 : ACode := .region false [⟨some 4, .move, [.t 0], none⟩,
  ⟨some 5, .nilChk, [.t 4], none⟩,
  ⟨some 6, .addr 0, [.t 5], none⟩,
  ⟨some 7, .load false 1, [.t 6], none⟩,
  ⟨some 8, .bin .eql, [.t 7, .c (.val (.int .i64 0))], none⟩] [] [] [0, 1, 8] false [] []
noncomputable def c69_3 : ACode := .region false [⟨some 9, .move, [.t 0], none⟩,
  ⟨some 10, .move, [.t 1], none⟩,
  ⟨some 11, .nilChk, [.t 9], none⟩,
  ⟨some 12, .addr 0, [.t 11], none⟩,
  ⟨none, .store 1, [.t 12, .t 10], none⟩] [] [] [] true [] []
noncomputable def c69_2 : ACode := .cond (.t 8) c69_3 .skip
noncomputable def c69_0 : ACode := .seq c69_1 c69_2
noncomputable def code69 : Code := (Try.f69.body).getD .skip
theorem c69_ok : compC Try.prog 13 code69 = some (strip c69_0) := by kernel_rfl
theorem res69_ok : Try.f69.results.toList.mapM (resC Try.prog) = some [] := by kernel_rfl
/- (*quidnunc/octets.mood).Err -/
noncomputable def c75_1 : ACode := .region false [⟨some 2, .move, [.c (.val (.int .i64 0))], none⟩] [] [] [0] false [] []
noncomputable def c75_3 : ACode := .region false [⟨some 3, .move, [.t 0], none⟩,
  ⟨some 4, .nilChk, [.t 3], none⟩,
  ⟨some 5, .addr 0, [.t 4], none⟩,
  ⟨some 6, .load false 1, [.t 5], none⟩,
  ⟨some 2, .move, [.t 6], none⟩] [] [] [2] false [] []
noncomputable def c75_2 : ACode := .seq c75_3 .ret
noncomputable def c75_0 : ACode := .seq c75_1 c75_2
noncomputable def code75 : Code := (Try.f75.body).getD .skip
theorem c75_ok : compC Try.prog 7 code75 = some (strip c75_0) := by kernel_rfl
theorem res75_ok : Try.f75.results.toList.mapM (resC Try.prog) = some [(2, none)] := by kernel_rfl
/- (*quidnunc/octets.Writer).Err -/
noncomputable def c56_1 : ACode := .region false [⟨some 2, .move, [.c (.val (.int .i64 0))], none⟩] [] [] [0] false [] []
noncomputable def c56_3 : ACode := .region false [⟨some 3, .move, [.t 0], none⟩,
  ⟨some 4, .nilChk, [.t 3], none⟩,
  ⟨some 5, .addr 1, [.t 4], none⟩,
  ⟨some 6, .call 75, [.t 5], none⟩,
  ⟨some 2, .move, [.t 6], none⟩] [] [] [2] true [] []
noncomputable def c56_2 : ACode := .seq c56_3 .ret
noncomputable def c56_0 : ACode := .seq c56_1 c56_2
noncomputable def code56 : Code := (Try.f56.body).getD .skip
theorem c56_ok : compC Try.prog 7 code56 = some (strip c56_0) := by kernel_rfl
theorem res56_ok : Try.f56.results.toList.mapM (resC Try.prog) = some [(2, none)] := by kernel_rfl
/- (*quidnunc/octets.Writer).Bytes -/
noncomputable def c55_1 : ACode := .region false [⟨some 2, .move, [.c (.val (.slice none 0 0))], none⟩] [] [] [0] false [] []
noncomputable def c55_3 : ACode := .region false [⟨some 3, .move, [.t 0], none⟩,
  ⟨some 4, .nilChk, [.t 3], none⟩,
  ⟨some 5, .addr 0, [.t 4], none⟩,
  ⟨some 6, .load false 1, [.t 5], none⟩,
  ⟨some 7, .call 65, [.t 6], none⟩,
  ⟨some 2, .move, [.t 7], none⟩] [] [] [2] true [] []
noncomputable def c55_2 : ACode := .seq c55_3 .ret
noncomputable def c55_0 : ACode := .seq c55_1 c55_2
noncomputable def code55 : Code := (Try.f55.body).getD .skip
theorem c55_ok : compC Try.prog 8 code55 = some (strip c55_0) := by kernel_rfl
theorem res55_ok : Try.f55.results.toList.mapM (resC Try.prog) = some [(2, none)] := by kernel_rfl
/-- A writer: where its bytes are, how many, its error. -/
abbrev WrO (i n : Nat) (err : Int) : AObj := .cells false [.sl i 0 n 1 none, I err]
theorem put1_ok (l : List Int) (hl : l.length ≤ 1099511627776) {P1 : List AV} {o1 : Nat} {l1 : List Int} (s1 : Seg P1 o1 l1) : ACall Try.prog 73 [.ptr 0 0, .sl 2 0 1 1 none] [WrO 1 l.length 0, .cells false (bA l), .cells true [.sl 3 o1 l1.length 1 none], .cells true P1] (Det (.ptr 0 0) [WrO 4 (l ++ l1).length 0, .gone, .cells true [.sl 3 o1 l1.length 1 none], .cells true P1, .cells false (bA (l ++ l1))]) := by
  have h1a := s1.le
  have h1b := s1.small
  refine ACall.startA c73_ok Try.func73 rfl Try.ntmps73 (by kernel_rfl) res73_ok rfl rfl rfl ?_; simp (maxSteps := 9999999) (disch := omega) only [go_sem]
  (have k9 := And.intro @s1.ren (k0); (repeat' (first | refine AWpA.seq ?_ | refine AWpA.block ?_ | (with_reducible refine CondP.tt ?_) | (with_reducible refine CondP.ff ?_) | refine AWpA.cg ?_ | ((first | refine AWpA.rg ?_ | refine AWpA.dg [1] [] follows ?_ | refine TailK.tg ?_ | refine AWpA.skip ?_ | refine AWpA.exit ?_ | refine AWpA.ret ?_ | (with_reducible refine ARoundsA.succ ?_) | ((first | refine Runs.gkt (fun h9 => ?_) | refine Runs.gkf (fun h9 => ?_) | refine Runs.gnt (fun h9 => ?_) | refine Runs.gnf (fun h9 => ?_) | refine CondP.gt (fun h9 => ?_) | refine CondP.gf (fun h9 => ?_) | refine CondP.gnt (fun h9 => ?_) | refine CondP.gnf (fun h9 => ?_)); (try simp only [h9]); clear h9) | refine CallG.pg [2, 3] (concat1 s1) ?_ | refine CallG.dg [2, 3] (concat1 s1) ?_); (try simp (maxSteps := 9999999) (disch := omega) only [go_sem, k9]); (try refine cnd ?_)) | ((first | refine CondP.split (fun hif => ?_) (fun hif => ?_) | refine Runs.part (fun hif => ?_) (fun hif => ?_)) <;> ((try simp only [hif]); (try simp only [BL] at hif); (try (have h9 : _ = true := hif; simp only [h9])); (try (have h9 : _ = false := hif; simp only [h9])); (try simp (maxSteps := 9999999) (disch := omega) only [go_sem, k9]); (try refine cnd ?_); (try (exfalso; omega; done)))))); (all_goals (try clear k9)))
  (apply Ret.det [0, 1, 2, 3, _]; (focus (first | exact .inl rfl | exact .inr rfl)); (focus (simp (maxSteps := 9999999) (disch := omega) only [go_sem, s1.ren]; rfl)); (simp (maxSteps := 9999999) (disch := omega) only [go_sem, s1.ren]; (try (repeat' (first | done | trivial | rfl | exact leAs_rfl _ | decide | (refine And.intro ?_ ?_) | (simp; done) | omega | (simp; decide))))))
theorem put1_no (l : List Int) (err : Int) (he : (err == 0) = false) {P1 : List AV} {o1 : Nat} {l1 : List Int} (s1 : Seg P1 o1 l1) : ACall Try.prog 73 [.ptr 0 0, .sl 2 0 1 1 none] [WrO 1 l.length err, .cells false (bA l), .cells true [.sl 3 o1 l1.length 1 none], .cells true P1] (Det (.ptr 0 0) [WrO 1 l.length err, .cells false (bA l), .cells true [.sl 3 o1 l1.length 1 none], .cells true P1]) := by
  refine ACall.startA c73_ok Try.func73 rfl Try.ntmps73 (by kernel_rfl) res73_ok rfl rfl rfl ?_; simp (maxSteps := 9999999) (disch := omega) only [go_sem]
  (have k9 := And.intro @s1.ren (And.intro @he (k0)); (repeat' (first | refine AWpA.seq ?_ | refine AWpA.block ?_ | (with_reducible refine CondP.tt ?_) | (with_reducible refine CondP.ff ?_) | refine AWpA.cg ?_ | ((first | refine AWpA.rg ?_ | refine AWpA.dg [] [] follows ?_ | refine TailK.tg ?_ | refine AWpA.skip ?_ | refine AWpA.exit ?_ | refine AWpA.ret ?_ | (with_reducible refine ARoundsA.succ ?_) | ((first | refine Runs.gkt (fun h9 => ?_) | refine Runs.gkf (fun h9 => ?_) | refine Runs.gnt (fun h9 => ?_) | refine Runs.gnf (fun h9 => ?_) | refine CondP.gt (fun h9 => ?_) | refine CondP.gf (fun h9 => ?_) | refine CondP.gnt (fun h9 => ?_) | refine CondP.gnf (fun h9 => ?_)); (try simp only [h9]); clear h9)); (try simp (maxSteps := 9999999) (disch := omega) only [go_sem, k9]); (try refine cnd ?_)) | ((first | refine CondP.split (fun hif => ?_) (fun hif => ?_) | refine Runs.part (fun hif => ?_) (fun hif => ?_)) <;> ((try simp only [hif]); (try simp only [BL] at hif); (try (have h9 : _ = true := hif; simp only [h9])); (try (have h9 : _ = false := hif; simp only [h9])); (try simp (maxSteps := 9999999) (disch := omega) only [go_sem, k9]); (try refine cnd ?_); (try (exfalso; omega; done)))))); (all_goals (try clear k9)))
  (apply Ret.det [0, 1, 2, 3]; (focus (first | exact .inl rfl | exact .inr rfl)); (focus (simp (maxSteps := 9999999) (disch := omega) only [go_sem, s1.ren]; rfl)); (simp (maxSteps := 9999999) (disch := omega) only [go_sem, s1.ren]; (try (repeat' (first | done | trivial | rfl | exact leAs_rfl _ | decide | (refine And.intro ?_ ?_) | (simp; done) | omega | (simp; decide))))))
theorem put2_ok (l : List Int) (hl : l.length ≤ 1099511627776) {P1 : List AV} {o1 : Nat} {l1 : List Int} (s1 : Seg P1 o1 l1) {P2 : List AV} {o2 : Nat} {l2 : List Int} (s2 : Seg P2 o2 l2) : ACall Try.prog 73 [.ptr 0 0, .sl 2 0 2 1 none] [WrO 1 l.length 0, .cells false (bA l), .cells true [.sl 3 o1 l1.length 1 none, .sl 4 o2 l2.length 1 none], .cells true P1, .cells true P2] (Det (.ptr 0 0) [WrO 5 (l ++ (l1 ++ l2)).length 0, .gone, .cells true [.sl 3 o1 l1.length 1 none, .sl 4 o2 l2.length 1 none], .cells true P1, .cells true P2, .cells false (bA (l ++ (l1 ++ l2)))]) := by
  have h1a := s1.le
  have h1b := s1.small
  have h2a := s2.le
  have h2b := s2.small
  refine ACall.startA c73_ok Try.func73 rfl Try.ntmps73 (by kernel_rfl) res73_ok rfl rfl rfl ?_; simp (maxSteps := 9999999) (disch := omega) only [go_sem]
  (have k9 := And.intro @s1.ren (And.intro @s2.ren (k0)); (repeat' (first | refine AWpA.seq ?_ | refine AWpA.block ?_ | (with_reducible refine CondP.tt ?_) | (with_reducible refine CondP.ff ?_) | refine AWpA.cg ?_ | ((first | refine AWpA.rg ?_ | refine AWpA.dg [1] [] follows ?_ | refine TailK.tg ?_ | refine AWpA.skip ?_ | refine AWpA.exit ?_ | refine AWpA.ret ?_ | (with_reducible refine ARoundsA.succ ?_) | ((first | refine Runs.gkt (fun h9 => ?_) | refine Runs.gkf (fun h9 => ?_) | refine Runs.gnt (fun h9 => ?_) | refine Runs.gnf (fun h9 => ?_) | refine CondP.gt (fun h9 => ?_) | refine CondP.gf (fun h9 => ?_) | refine CondP.gnt (fun h9 => ?_) | refine CondP.gnf (fun h9 => ?_)); (try simp only [h9]); clear h9) | refine CallG.pg [2, 3, 4] (concat2 s1 s2) ?_ | refine CallG.dg [2, 3, 4] (concat2 s1 s2) ?_); (try simp (maxSteps := 9999999) (disch := omega) only [go_sem, k9]); (try refine cnd ?_)) | ((first | refine CondP.split (fun hif => ?_) (fun hif => ?_) | refine Runs.part (fun hif => ?_) (fun hif => ?_)) <;> ((try simp only [hif]); (try simp only [BL] at hif); (try (have h9 : _ = true := hif; simp only [h9])); (try (have h9 : _ = false := hif; simp only [h9])); (try simp (maxSteps := 9999999) (disch := omega) only [go_sem, k9]); (try refine cnd ?_); (try (exfalso; omega; done)))))); (all_goals (try clear k9)))
  (apply Ret.det [0, 1, 2, 3, 4, _]; (focus (first | exact .inl rfl | exact .inr rfl)); (focus (simp (maxSteps := 9999999) (disch := omega) only [go_sem, s1.ren, s2.ren]; rfl)); (simp (maxSteps := 9999999) (disch := omega) only [go_sem, s1.ren, s2.ren]; (try (repeat' (first | done | trivial | rfl | exact leAs_rfl _ | decide | (refine And.intro ?_ ?_) | (simp; done) | omega | (simp; decide))))))
theorem put2_no (l : List Int) (err : Int) (he : (err == 0) = false) {P1 : List AV} {o1 : Nat} {l1 : List Int} (s1 : Seg P1 o1 l1) {P2 : List AV} {o2 : Nat} {l2 : List Int} (s2 : Seg P2 o2 l2) : ACall Try.prog 73 [.ptr 0 0, .sl 2 0 2 1 none] [WrO 1 l.length err, .cells false (bA l), .cells true [.sl 3 o1 l1.length 1 none, .sl 4 o2 l2.length 1 none], .cells true P1, .cells true P2] (Det (.ptr 0 0) [WrO 1 l.length err, .cells false (bA l), .cells true [.sl 3 o1 l1.length 1 none, .sl 4 o2 l2.length 1 none], .cells true P1, .cells true P2]) := by
  refine ACall.startA c73_ok Try.func73 rfl Try.ntmps73 (by kernel_rfl) res73_ok rfl rfl rfl ?_; simp (maxSteps := 9999999) (disch := omega) only [go_sem]
  (have k9 := And.intro @s1.ren (And.intro @s2.ren (And.intro @he (k0))); (repeat' (first | refine AWpA.seq ?_ | refine AWpA.block ?_ | (with_reducible refine CondP.tt ?_) | (with_reducible refine CondP.ff ?_) | refine AWpA.cg ?_ | ((first | refine AWpA.rg ?_ | refine AWpA.dg [] [] follows ?_ | refine TailK.tg ?_ | refine AWpA.skip ?_ | refine AWpA.exit ?_ | refine AWpA.ret ?_ | (with_reducible refine ARoundsA.succ ?_) | ((first | refine Runs.gkt (fun h9 => ?_) | refine Runs.gkf (fun h9 => ?_) | refine Runs.gnt (fun h9 => ?_) | refine Runs.gnf (fun h9 => ?_) | refine CondP.gt (fun h9 => ?_) | refine CondP.gf (fun h9 => ?_) | refine CondP.gnt (fun h9 => ?_) | refine CondP.gnf (fun h9 => ?_)); (try simp only [h9]); clear h9)); (try simp (maxSteps := 9999999) (disch := omega) only [go_sem, k9]); (try refine cnd ?_)) | ((first | refine CondP.split (fun hif => ?_) (fun hif => ?_) | refine Runs.part (fun hif => ?_) (fun hif => ?_)) <;> ((try simp only [hif]); (try simp only [BL] at hif); (try (have h9 : _ = true := hif; simp only [h9])); (try (have h9 : _ = false := hif; simp only [h9])); (try simp (maxSteps := 9999999) (disch := omega) only [go_sem, k9]); (try refine cnd ?_); (try (exfalso; omega; done)))))); (all_goals (try clear k9)))
  (apply Ret.det [0, 1, 2, 3, 4]; (focus (first | exact .inl rfl | exact .inr rfl)); (focus (simp (maxSteps := 9999999) (disch := omega) only [go_sem, s1.ren, s2.ren]; rfl)); (simp (maxSteps := 9999999) (disch := omega) only [go_sem, s1.ren, s2.ren]; (try (repeat' (first | done | trivial | rfl | exact leAs_rfl _ | decide | (refine And.intro ?_ ?_) | (simp; done) | omega | (simp; decide))))))
theorem put3_ok (l : List Int) (hl : l.length ≤ 1099511627776) {P1 : List AV} {o1 : Nat} {l1 : List Int} (s1 : Seg P1 o1 l1) {P2 : List AV} {o2 : Nat} {l2 : List Int} (s2 : Seg P2 o2 l2) {P3 : List AV} {o3 : Nat} {l3 : List Int} (s3 : Seg P3 o3 l3) : ACall Try.prog 73 [.ptr 0 0, .sl 2 0 3 1 none] [WrO 1 l.length 0, .cells false (bA l), .cells true [.sl 3 o1 l1.length 1 none, .sl 4 o2 l2.length 1 none, .sl 5 o3 l3.length 1 none], .cells true P1, .cells true P2, .cells true P3] (Det (.ptr 0 0) [WrO 6 (l ++ ((l1 ++ l2) ++ l3)).length 0, .gone, .cells true [.sl 3 o1 l1.length 1 none, .sl 4 o2 l2.length 1 none, .sl 5 o3 l3.length 1 none], .cells true P1, .cells true P2, .cells true P3, .cells false (bA (l ++ ((l1 ++ l2) ++ l3)))]) := by
  have h1a := s1.le
  have h1b := s1.small
  have h2a := s2.le
  have h2b := s2.small
  have h3a := s3.le
  have h3b := s3.small
  refine ACall.startA c73_ok Try.func73 rfl Try.ntmps73 (by kernel_rfl) res73_ok rfl rfl rfl ?_; simp (maxSteps := 9999999) (disch := omega) only [go_sem]
  (have k9 := And.intro @s1.ren (And.intro @s2.ren (And.intro @s3.ren (k0))); (repeat' (first | refine AWpA.seq ?_ | refine AWpA.block ?_ | (with_reducible refine CondP.tt ?_) | (with_reducible refine CondP.ff ?_) | refine AWpA.cg ?_ | ((first | refine AWpA.rg ?_ | refine AWpA.dg [1] [] follows ?_ | refine TailK.tg ?_ | refine AWpA.skip ?_ | refine AWpA.exit ?_ | refine AWpA.ret ?_ | (with_reducible refine ARoundsA.succ ?_) | ((first | refine Runs.gkt (fun h9 => ?_) | refine Runs.gkf (fun h9 => ?_) | refine Runs.gnt (fun h9 => ?_) | refine Runs.gnf (fun h9 => ?_) | refine CondP.gt (fun h9 => ?_) | refine CondP.gf (fun h9 => ?_) | refine CondP.gnt (fun h9 => ?_) | refine CondP.gnf (fun h9 => ?_)); (try simp only [h9]); clear h9) | refine CallG.pg [2, 3, 4, 5] (concat3 s1 s2 s3) ?_ | refine CallG.dg [2, 3, 4, 5] (concat3 s1 s2 s3) ?_); (try simp (maxSteps := 9999999) (disch := omega) only [go_sem, k9]); (try refine cnd ?_)) | ((first | refine CondP.split (fun hif => ?_) (fun hif => ?_) | refine Runs.part (fun hif => ?_) (fun hif => ?_)) <;> ((try simp only [hif]); (try simp only [BL] at hif); (try (have h9 : _ = true := hif; simp only [h9])); (try (have h9 : _ = false := hif; simp only [h9])); (try simp (maxSteps := 9999999) (disch := omega) only [go_sem, k9]); (try refine cnd ?_); (try (exfalso; omega; done)))))); (all_goals (try clear k9)))
  (apply Ret.det [0, 1, 2, 3, 4, 5, _]; (focus (first | exact .inl rfl | exact .inr rfl)); (focus (simp (maxSteps := 9999999) (disch := omega) only [go_sem, s1.ren, s2.ren, s3.ren]; rfl)); (simp (maxSteps := 9999999) (disch := omega) only [go_sem, s1.ren, s2.ren, s3.ren]; (try (repeat' (first | done | trivial | rfl | exact leAs_rfl _ | decide | (refine And.intro ?_ ?_) | (simp; done) | omega | (simp; decide))))))
theorem put3_no (l : List Int) (err : Int) (he : (err == 0) = false) {P1 : List AV} {o1 : Nat} {l1 : List Int} (s1 : Seg P1 o1 l1) {P2 : List AV} {o2 : Nat} {l2 : List Int} (s2 : Seg P2 o2 l2) {P3 : List AV} {o3 : Nat} {l3 : List Int} (s3 : Seg P3 o3 l3) : ACall Try.prog 73 [.ptr 0 0, .sl 2 0 3 1 none] [WrO 1 l.length err, .cells false (bA l), .cells true [.sl 3 o1 l1.length 1 none, .sl 4 o2 l2.length 1 none, .sl 5 o3 l3.length 1 none], .cells true P1, .cells true P2, .cells true P3] (Det (.ptr 0 0) [WrO 1 l.length err, .cells false (bA l), .cells true [.sl 3 o1 l1.length 1 none, .sl 4 o2 l2.length 1 none, .sl 5 o3 l3.length 1 none], .cells true P1, .cells true P2, .cells true P3]) := by
  refine ACall.startA c73_ok Try.func73 rfl Try.ntmps73 (by kernel_rfl) res73_ok rfl rfl rfl ?_; simp (maxSteps := 9999999) (disch := omega) only [go_sem]
  (have k9 := And.intro @s1.ren (And.intro @s2.ren (And.intro @s3.ren (And.intro @he (k0)))); (repeat' (first | refine AWpA.seq ?_ | refine AWpA.block ?_ | (with_reducible refine CondP.tt ?_) | (with_reducible refine CondP.ff ?_) | refine AWpA.cg ?_ | ((first | refine AWpA.rg ?_ | refine AWpA.dg [] [] follows ?_ | refine TailK.tg ?_ | refine AWpA.skip ?_ | refine AWpA.exit ?_ | refine AWpA.ret ?_ | (with_reducible refine ARoundsA.succ ?_) | ((first | refine Runs.gkt (fun h9 => ?_) | refine Runs.gkf (fun h9 => ?_) | refine Runs.gnt (fun h9 => ?_) | refine Runs.gnf (fun h9 => ?_) | refine CondP.gt (fun h9 => ?_) | refine CondP.gf (fun h9 => ?_) | refine CondP.gnt (fun h9 => ?_) | refine CondP.gnf (fun h9 => ?_)); (try simp only [h9]); clear h9)); (try simp (maxSteps := 9999999) (disch := omega) only [go_sem, k9]); (try refine cnd ?_)) | ((first | refine CondP.split (fun hif => ?_) (fun hif => ?_) | refine Runs.part (fun hif => ?_) (fun hif => ?_)) <;> ((try simp only [hif]); (try simp only [BL] at hif); (try (have h9 : _ = true := hif; simp only [h9])); (try (have h9 : _ = false := hif; simp only [h9])); (try simp (maxSteps := 9999999) (disch := omega) only [go_sem, k9]); (try refine cnd ?_); (try (exfalso; omega; done)))))); (all_goals (try clear k9)))
  (apply Ret.det [0, 1, 2, 3, 4, 5]; (focus (first | exact .inl rfl | exact .inr rfl)); (focus (simp (maxSteps := 9999999) (disch := omega) only [go_sem, s1.ren, s2.ren, s3.ren]; rfl)); (simp (maxSteps := 9999999) (disch := omega) only [go_sem, s1.ren, s2.ren, s3.ren]; (try (repeat' (first | done | trivial | rfl | exact leAs_rfl _ | decide | (refine And.intro ?_ ?_) | (simp; done) | omega | (simp; decide))))))
def failI (err e : Int) : Int := if (err == 0) = true then e else err
theorem wfail_any (x : AV) (err e : Int) (hx : ∀ ρ, ren ρ x = x) (hc : leA x x = True) : ACall Try.prog 69 [.ptr 0 1, I e] [.cells false [x, I err]] (Det (.tup []) [.cells false [x, I (failI err e)]]) := by
  refine ACall.startA c69_ok Try.func69 rfl Try.ntmps69 (by kernel_rfl) res69_ok rfl rfl rfl ?_; simp (maxSteps := 9999999) (disch := omega) only [go_sem]
  (have k9 := k0; (repeat' (first | refine AWpA.seq ?_ | refine AWpA.block ?_ | (with_reducible refine CondP.tt ?_) | (with_reducible refine CondP.ff ?_) | refine AWpA.cg ?_ | ((first | refine AWpA.rg ?_ | refine AWpA.dg [] [] follows ?_ | refine TailK.tg ?_ | refine AWpA.skip ?_ | refine AWpA.exit ?_ | refine AWpA.ret ?_ | (with_reducible refine ARoundsA.succ ?_) | ((first | refine Runs.gkt (fun h9 => ?_) | refine Runs.gkf (fun h9 => ?_) | refine Runs.gnt (fun h9 => ?_) | refine Runs.gnf (fun h9 => ?_) | refine CondP.gt (fun h9 => ?_) | refine CondP.gf (fun h9 => ?_) | refine CondP.gnt (fun h9 => ?_) | refine CondP.gnf (fun h9 => ?_)); (try simp only [h9]); clear h9)); (try simp (maxSteps := 9999999) (disch := omega) only [go_sem, k9]); (try refine cnd ?_)) | ((first | refine CondP.split (fun hif => ?_) (fun hif => ?_) | refine Runs.part (fun hif => ?_) (fun hif => ?_)) <;> ((try simp only [hif]); (try simp only [BL] at hif); (try (have h9 : _ = true := hif; simp only [h9])); (try (have h9 : _ = false := hif; simp only [h9])); (try simp (maxSteps := 9999999) (disch := omega) only [go_sem, k9]); (try refine cnd ?_); (try (exfalso; omega; done)))))); (all_goals (try clear k9)))
  all_goals
    (apply Ret.det [0]; (focus (first | exact .inl rfl | exact .inr rfl)); (focus (simp (maxSteps := 9999999) (disch := omega) only [go_sem, hx]; rfl)); (simp (maxSteps := 9999999) (disch := omega) only [go_sem, hx]; (try (repeat' (first | done | trivial | rfl | exact leAs_rfl _ | decide | (refine And.intro ?_ ?_) | (simp; done) | omega | (simp; decide))))))
    all_goals (simp [failI, *])
theorem merr_any (x : AV) (err : Int) : ACall Try.prog 75 [.ptr 0 1] [.cells true [.any, I err]] (Det (I err) [.cells true [.any, I err]]) := by
  refine ACall.startA c75_ok Try.func75 rfl Try.ntmps75 (by kernel_rfl) res75_ok rfl rfl rfl ?_; simp (maxSteps := 9999999) (disch := omega) only [go_sem]
  (have k9 := k0; (repeat' (first | refine AWpA.seq ?_ | refine AWpA.block ?_ | (with_reducible refine CondP.tt ?_) | (with_reducible refine CondP.ff ?_) | refine AWpA.cg ?_ | ((first | refine AWpA.rg ?_ | refine AWpA.dg [] [] follows ?_ | refine TailK.tg ?_ | refine AWpA.skip ?_ | refine AWpA.exit ?_ | refine AWpA.ret ?_ | (with_reducible refine ARoundsA.succ ?_) | ((first | refine Runs.gkt (fun h9 => ?_) | refine Runs.gkf (fun h9 => ?_) | refine Runs.gnt (fun h9 => ?_) | refine Runs.gnf (fun h9 => ?_) | refine CondP.gt (fun h9 => ?_) | refine CondP.gf (fun h9 => ?_) | refine CondP.gnt (fun h9 => ?_) | refine CondP.gnf (fun h9 => ?_)); (try simp only [h9]); clear h9)); (try simp (maxSteps := 9999999) (disch := omega) only [go_sem, k9]); (try refine cnd ?_)) | ((first | refine CondP.split (fun hif => ?_) (fun hif => ?_) | refine Runs.part (fun hif => ?_) (fun hif => ?_)) <;> ((try simp only [hif]); (try simp only [BL] at hif); (try (have h9 : _ = true := hif; simp only [h9])); (try (have h9 : _ = false := hif; simp only [h9])); (try simp (maxSteps := 9999999) (disch := omega) only [go_sem, k9]); (try refine cnd ?_); (try (exfalso; omega; done)))))); (all_goals (try clear k9)))
  (apply Ret.det [0]; (focus (first | exact .inl rfl | exact .inr rfl)); (focus (simp (maxSteps := 9999999) (disch := omega) only [go_sem]; rfl)); (simp (maxSteps := 9999999) (disch := omega) only [go_sem]; (try (repeat' (first | done | trivial | rfl | exact leAs_rfl _ | decide | (refine And.intro ?_ ?_) | (simp; done) | omega | (simp; decide))))))
theorem werr_any (err : Int) : ACall Try.prog 56 [.ptr 0 0] [.cells true [.any, I err]] (Det (I err) [.cells true [.any, I err]]) := by
  refine ACall.startA c56_ok Try.func56 rfl Try.ntmps56 (by kernel_rfl) res56_ok rfl rfl rfl ?_; simp (maxSteps := 9999999) (disch := omega) only [go_sem]
  (have k9 := k0; (repeat' (first | refine AWpA.seq ?_ | refine AWpA.block ?_ | (with_reducible refine CondP.tt ?_) | (with_reducible refine CondP.ff ?_) | refine AWpA.cg ?_ | ((first | refine AWpA.rg ?_ | refine AWpA.dg [] [] follows ?_ | refine TailK.tg ?_ | refine AWpA.skip ?_ | refine AWpA.exit ?_ | refine AWpA.ret ?_ | (with_reducible refine ARoundsA.succ ?_) | ((first | refine Runs.gkt (fun h9 => ?_) | refine Runs.gkf (fun h9 => ?_) | refine Runs.gnt (fun h9 => ?_) | refine Runs.gnf (fun h9 => ?_) | refine CondP.gt (fun h9 => ?_) | refine CondP.gf (fun h9 => ?_) | refine CondP.gnt (fun h9 => ?_) | refine CondP.gnf (fun h9 => ?_)); (try simp only [h9]); clear h9) | refine CallG.pg [_] (merr_any (.any) err) ?_ | refine CallG.dg [_] (merr_any (.any) err) ?_); (try simp (maxSteps := 9999999) (disch := omega) only [go_sem, k9]); (try refine cnd ?_)) | ((first | refine CondP.split (fun hif => ?_) (fun hif => ?_) | refine Runs.part (fun hif => ?_) (fun hif => ?_)) <;> ((try simp only [hif]); (try simp only [BL] at hif); (try (have h9 : _ = true := hif; simp only [h9])); (try (have h9 : _ = false := hif; simp only [h9])); (try simp (maxSteps := 9999999) (disch := omega) only [go_sem, k9]); (try refine cnd ?_); (try (exfalso; omega; done)))))); (all_goals (try clear k9)))
  (apply Ret.det [0]; (focus (first | exact .inl rfl | exact .inr rfl)); (focus (simp (maxSteps := 9999999) (disch := omega) only [go_sem]; rfl)); (simp (maxSteps := 9999999) (disch := omega) only [go_sem]; (try (repeat' (first | done | trivial | rfl | exact leAs_rfl _ | decide | (refine And.intro ?_ ?_) | (simp; done) | omega | (simp; decide))))))
theorem bytes_any (l : List Int) (err : Int) (hl : l.length ≤ 1099511627776) : ACall Try.prog 55 [.ptr 0 0] [.cells true [.sl 1 0 l.length 1 none, I err], .cells true (bA l)] (Det (.sl 2 0 l.length 1 none) [.cells true [.sl 1 0 l.length 1 none, I err], .cells true (bA l), .cells false (bA l)]) := by
  refine ACall.startA c55_ok Try.func55 rfl Try.ntmps55 (by kernel_rfl) res55_ok rfl rfl rfl ?_; simp (maxSteps := 9999999) (disch := omega) only [go_sem]
  (have k9 := k0; (repeat' (first | refine AWpA.seq ?_ | refine AWpA.block ?_ | (with_reducible refine CondP.tt ?_) | (with_reducible refine CondP.ff ?_) | refine AWpA.cg ?_ | ((first | refine AWpA.rg ?_ | refine AWpA.dg [] [] follows ?_ | refine TailK.tg ?_ | refine AWpA.skip ?_ | refine AWpA.exit ?_ | refine AWpA.ret ?_ | (with_reducible refine ARoundsA.succ ?_) | ((first | refine Runs.gkt (fun h9 => ?_) | refine Runs.gkf (fun h9 => ?_) | refine Runs.gnt (fun h9 => ?_) | refine Runs.gnf (fun h9 => ?_) | refine CondP.gt (fun h9 => ?_) | refine CondP.gf (fun h9 => ?_) | refine CondP.gnt (fun h9 => ?_) | refine CondP.gnf (fun h9 => ?_)); (try simp only [h9]); clear h9) | refine CallG.pg [_] (clone_any (Seg.all l hl)) ?_ | refine CallG.dg [_] (clone_any (Seg.all l hl)) ?_); (try simp (maxSteps := 9999999) (disch := omega) only [go_sem, k9]); (try refine cnd ?_)) | ((first | refine CondP.split (fun hif => ?_) (fun hif => ?_) | refine Runs.part (fun hif => ?_) (fun hif => ?_)) <;> ((try simp only [hif]); (try simp only [BL] at hif); (try (have h9 : _ = true := hif; simp only [h9])); (try (have h9 : _ = false := hif; simp only [h9])); (try simp (maxSteps := 9999999) (disch := omega) only [go_sem, k9]); (try refine cnd ?_); (try (exfalso; omega; done)))))); (all_goals (try clear k9)))
  (apply Ret.det [0, 1, _]; (focus (first | exact .inl rfl | exact .inr rfl)); (focus (simp (maxSteps := 9999999) (disch := omega) only [go_sem]; rfl)); (simp (maxSteps := 9999999) (disch := omega) only [go_sem]; (try (repeat' (first | done | trivial | rfl | exact leAs_rfl _ | decide | (refine And.intro ?_ ?_) | (simp; done) | omega | (simp; decide))))))
end Go.Proofs.Ythbpdmlbfnjoiaa
