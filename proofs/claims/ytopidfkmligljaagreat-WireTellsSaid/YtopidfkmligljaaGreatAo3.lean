/- Contracts: a writer. -/
import Derived.Test.YtopidfkmligljaaGreatEg5
import Derived.Test.YtopidfkmligljaaGreatAo2
import Derived.Test.YtopidfkmligljaaGreatAbc
namespace Go.Proofs.YtopidfkmligljaaGreat
noncomputable section
set_option linter.unusedSimpArgs false
set_option linter.unusedVariables false
set_option maxHeartbeats 4000000
open Go Go.Am
set_option maxRecDepth 100000
/- (*quidnunc/octets.Writer).put -/
def c134_1 : ACode := .region false [⟨some 4, .move, [.c (.val (.pointer none))], none⟩] [] [] [0, 1] false [] []
def c134_4 : ACode := .region false [⟨some 5, .move, [.t 0], none⟩,
  ⟨some 6, .nilChk, [.t 5], none⟩,
  ⟨some 7, .addr 1, [.t 6], none⟩,
  ⟨some 8, .addr 0, [.t 7], none⟩,
  ⟨some 9, .load false 1, [.t 8], none⟩,
  ⟨some 10, .bin .eql, [.t 9, .c (.val (.int .i64 0))], none⟩] [] [] [0, 1, 10] false [] []
def c134_6 : ACode := .region true [⟨some 11, .move, [.t 0], none⟩,
  ⟨some 12, .move, [.t 0], none⟩,
  ⟨some 13, .nilChk, [.t 12], none⟩,
  ⟨some 14, .addr 0, [.t 13], none⟩,
  ⟨some 15, .load false 1, [.t 14], none⟩,
  ⟨some 16, .move, [.t 1], none⟩,
  ⟨some 17, .call 142, [.t 16], none⟩,
  ⟨some 18, .append 1 1 false, [.t 15, .t 17], none⟩] [] [] [0] true [] [⟨some 19, .nilChk, [.t 11], none⟩,
  ⟨some 20, .addr 0, [.t 19], none⟩,
  ⟨none, .store 1, [.t 20, .t 18], none⟩]
def c134_5 : ACode := .cond (.t 10) c134_6 .skip
def c134_3 : ACode := .seq c134_4 c134_5
def c134_8 : ACode := .region false [⟨some 21, .move, [.t 0], none⟩,
  ⟨some 4, .move, [.t 21], none⟩] [] [] [4] false [] []
def c134_7 : ACode := .seq c134_8 .ret
def c134_2 : ACode := .seq c134_3 c134_7
def c134_0 : ACode := .seq c134_1 c134_2
def code134 : Code := (Tryz.f134.body).getD .skip
theorem c134_ok : compC Tryz.prog 22 code134 = some (strip c134_0) := by kernel_rfl
theorem res134_ok : Tryz.f134.results.toList.mapM (resC Tryz.prog) = some [(4, none)] := by kernel_rfl
/- (*quidnunc/octets.mood).Fail -/
def c26_1 : ACode := .region false [⟨some 4, .move, [.t 0], none⟩,
  ⟨some 5, .nilChk, [.t 4], none⟩,
  ⟨some 6, .addr 0, [.t 5], none⟩,
  ⟨some 7, .load false 1, [.t 6], none⟩,
  ⟨some 8, .bin .eql, [.t 7, .c (.val (.int .i64 0))], none⟩] [] [] [0, 1, 8] false [] []
def c26_3 : ACode := .region false [⟨some 9, .move, [.t 0], none⟩,
  ⟨some 10, .move, [.t 1], none⟩,
  ⟨some 11, .nilChk, [.t 9], none⟩,
  ⟨some 12, .addr 0, [.t 11], none⟩,
  ⟨none, .store 1, [.t 12, .t 10], none⟩] [] [] [] true [] []
def c26_2 : ACode := .cond (.t 8) c26_3 .skip
def c26_0 : ACode := .seq c26_1 c26_2
def code26 : Code := (Tryz.f26.body).getD .skip
theorem c26_ok : compC Tryz.prog 13 code26 = some (strip c26_0) := by kernel_rfl
theorem res26_ok : Tryz.f26.results.toList.mapM (resC Tryz.prog) = some [] := by kernel_rfl
/- (*quidnunc/octets.mood).Err -/
def c25_1 : ACode := .region false [⟨some 2, .move, [.c (.val (.int .i64 0))], none⟩] [] [] [0] false [] []
def c25_3 : ACode := .region false [⟨some 3, .move, [.t 0], none⟩,
  ⟨some 4, .nilChk, [.t 3], none⟩,
  ⟨some 5, .addr 0, [.t 4], none⟩,
  ⟨some 6, .load false 1, [.t 5], none⟩,
  ⟨some 2, .move, [.t 6], none⟩] [] [] [2] false [] []
def c25_2 : ACode := .seq c25_3 .ret
def c25_0 : ACode := .seq c25_1 c25_2
def code25 : Code := (Tryz.f25.body).getD .skip
theorem c25_ok : compC Tryz.prog 7 code25 = some (strip c25_0) := by kernel_rfl
theorem res25_ok : Tryz.f25.results.toList.mapM (resC Tryz.prog) = some [(2, none)] := by kernel_rfl
/- (*quidnunc/octets.Writer).Err -/
def c38_1 : ACode := .region false [⟨some 2, .move, [.c (.val (.int .i64 0))], none⟩] [] [] [0] false [] []
def c38_3 : ACode := .region false [⟨some 3, .move, [.t 0], none⟩,
  ⟨some 4, .nilChk, [.t 3], none⟩,
  ⟨some 5, .addr 1, [.t 4], none⟩,
  ⟨some 6, .call 25, [.t 5], none⟩,
  ⟨some 2, .move, [.t 6], none⟩] [] [] [2] true [] []
def c38_2 : ACode := .seq c38_3 .ret
def c38_0 : ACode := .seq c38_1 c38_2
def code38 : Code := (Tryz.f38.body).getD .skip
theorem c38_ok : compC Tryz.prog 7 code38 = some (strip c38_0) := by kernel_rfl
theorem res38_ok : Tryz.f38.results.toList.mapM (resC Tryz.prog) = some [(2, none)] := by kernel_rfl
/- (*quidnunc/octets.Writer).Bytes -/
def c37_1 : ACode := .region false [⟨some 2, .move, [.c (.val (.slice none 0 0))], none⟩] [] [] [0] false [] []
def c37_3 : ACode := .region false [⟨some 3, .move, [.t 0], none⟩,
  ⟨some 4, .nilChk, [.t 3], none⟩,
  ⟨some 5, .addr 0, [.t 4], none⟩,
  ⟨some 6, .load false 1, [.t 5], none⟩,
  ⟨some 7, .call 61, [.t 6], none⟩,
  ⟨some 2, .move, [.t 7], none⟩] [] [] [2] true [] []
def c37_2 : ACode := .seq c37_3 .ret
def c37_0 : ACode := .seq c37_1 c37_2
def code37 : Code := (Tryz.f37.body).getD .skip
theorem c37_ok : compC Tryz.prog 8 code37 = some (strip c37_0) := by kernel_rfl
theorem res37_ok : Tryz.f37.results.toList.mapM (resC Tryz.prog) = some [(2, none)] := by kernel_rfl
/-- A writer: where its bytes are, how many, its error. -/
abbrev WrO (i n : Nat) (err : Int) : AObj := .cells false [.sl i 0 n 1 none, I err]
theorem put1_ok (l : List Int) (hl : l.length ≤ 1099511627776) {P1 : List AV} {o1 : Nat} {l1 : List Int} (s1 : Seg P1 o1 l1) : ACall Tryz.prog 134 [.ptr 0 0, .sl 2 0 1 1 none] [WrO 1 l.length 0, .cells false (bA l), .cells true [.sl 3 o1 l1.length 1 none], .cells true P1] (Det (.ptr 0 0) [WrO 4 (l ++ l1).length 0, .gone, .cells true [.sl 3 o1 l1.length 1 none], .cells true P1, .cells false (bA (l ++ l1))]) := by
  have h1a := s1.le
  have h1b := s1.small
  refine ACall.startA c134_ok Tryz.func134 rfl Tryz.ntmps134 (by kernel_rfl) res134_ok rfl rfl rfl ?_; simp (maxSteps := 9999999) (disch := omega) only [go_sem]
  (have k9 := And.intro @s1.ren (k0); have x9 := Xs.mk [1] []; have a1 := Arm.mk [2, 3] (concat1 s1); refine goK ?_; (try clear k9); (try clear a1))
  (have k9 := And.intro @s1.ren (k0); exact Ret.dk [0, 1, 2, 3, _])
theorem put2_ok (l : List Int) (hl : l.length ≤ 1099511627776) {P1 : List AV} {o1 : Nat} {l1 : List Int} (s1 : Seg P1 o1 l1) {P2 : List AV} {o2 : Nat} {l2 : List Int} (s2 : Seg P2 o2 l2) : ACall Tryz.prog 134 [.ptr 0 0, .sl 2 0 2 1 none] [WrO 1 l.length 0, .cells false (bA l), .cells true [.sl 3 o1 l1.length 1 none, .sl 4 o2 l2.length 1 none], .cells true P1, .cells true P2] (Det (.ptr 0 0) [WrO 5 (l ++ (l1 ++ l2)).length 0, .gone, .cells true [.sl 3 o1 l1.length 1 none, .sl 4 o2 l2.length 1 none], .cells true P1, .cells true P2, .cells false (bA (l ++ (l1 ++ l2)))]) := by
  have h1a := s1.le
  have h1b := s1.small
  have h2a := s2.le
  have h2b := s2.small
  refine ACall.startA c134_ok Tryz.func134 rfl Tryz.ntmps134 (by kernel_rfl) res134_ok rfl rfl rfl ?_; simp (maxSteps := 9999999) (disch := omega) only [go_sem]
  (have k9 := And.intro @s1.ren (And.intro @s2.ren (k0)); have x9 := Xs.mk [1] []; have a1 := Arm.mk [2, 3, 4] (concat2 s1 s2); refine goK ?_; (try clear k9); (try clear a1))
  (have k9 := And.intro @s1.ren (And.intro @s2.ren (k0)); exact Ret.dk [0, 1, 2, 3, 4, _])
def failI (err e : Int) : Int := if (err == 0) = true then e else err
theorem merr_any (x : AV) (err : Int) : ACall Tryz.prog 25 [.ptr 0 1] [.cells true [.any, I err]] (Det (I err) [.cells true [.any, I err]]) := by
  refine ACall.startA c25_ok Tryz.func25 rfl Tryz.ntmps25 (by kernel_rfl) res25_ok rfl rfl rfl ?_; simp (maxSteps := 9999999) (disch := omega) only [go_sem]
  (have k9 := k0; refine goK ?_; (try clear k9))
  (have k9 := k0; exact Ret.dk [0])
theorem werr_any (err : Int) : ACall Tryz.prog 38 [.ptr 0 0] [.cells true [.any, I err]] (Det (I err) [.cells true [.any, I err]]) := by
  refine ACall.startA c38_ok Tryz.func38 rfl Tryz.ntmps38 (by kernel_rfl) res38_ok rfl rfl rfl ?_; simp (maxSteps := 9999999) (disch := omega) only [go_sem]
  (have k9 := k0; (repeat' (first | refine goM ?_ | ((first | refine CallG.pg [_] (merr_any (.any) err) ?_ | refine CallG.dg [_] (merr_any (.any) err) ?_); refine goJ ?_) | ((first | refine CondP.split (fun hif => ?_) (fun hif => ?_) | refine Runs.part (fun hif => ?_) (fun hif => ?_)) <;> ((try simp only [BL] at hif); first | (exfalso; omega; done) | refine goI ?_)))); (all_goals (try clear k9)))
  (have k9 := k0; exact Ret.dk [0])
theorem bytes_any (l : List Int) (err : Int) (hl : l.length ≤ 1099511627776) : ACall Tryz.prog 37 [.ptr 0 0] [.cells true [.sl 1 0 l.length 1 none, I err], .cells true (bA l)] (Det (.sl 2 0 l.length 1 none) [.cells true [.sl 1 0 l.length 1 none, I err], .cells true (bA l), .cells false (bA l)]) := by
  refine ACall.startA c37_ok Tryz.func37 rfl Tryz.ntmps37 (by kernel_rfl) res37_ok rfl rfl rfl ?_; simp (maxSteps := 9999999) (disch := omega) only [go_sem]
  (have k9 := k0; (repeat' (first | refine goM ?_ | ((first | refine CallG.pg [_] (clone_any (Seg.all l hl)) ?_ | refine CallG.dg [_] (clone_any (Seg.all l hl)) ?_); refine goJ ?_) | ((first | refine CondP.split (fun hif => ?_) (fun hif => ?_) | refine Runs.part (fun hif => ?_) (fun hif => ?_)) <;> ((try simp only [BL] at hif); first | (exfalso; omega; done) | refine goI ?_)))); (all_goals (try clear k9)))
  (apply Ret.det [0, 1, _]; (focus (first | exact .inl rfl | exact .inr rfl)); (focus (simp (maxSteps := 9999999) (disch := omega) only [go_sem]; rfl)); (simp (maxSteps := 9999999) (disch := omega) only [go_sem]; (try (repeat' (first | done | trivial | rfl | exact leAs_rfl _ | decide | (refine And.intro ?_ ?_) | (simp; done) | omega | (simp; decide))))))
end
end Go.Proofs.YtopidfkmligljaaGreat
