/- Contracts: an entry's number, the program's and the document's; a sum of them. -/
import Derived.Test.YtkdikmfnchmphaaAe8
import Derived.Test.YtkdikmfnchmphaaAq1
import Derived.Test.YtkdikmfnchmphaaAb
namespace Go.Proofs.Ytkdikmfnchmphaa
set_option linter.unusedSimpArgs false
set_option linter.unusedVariables false
set_option maxHeartbeats 4000000
open Go Go.Am Go.RowKit
set_option maxRecDepth 100000
theorem seg_byteQ {P : List AV} {o : Nat} {l : List Int} (s : Seg P o l) (i : Nat) (h : i < l.length) : P.getD (o + i) .bad = .val (.int .u8 l[i]) := by
  have h1 := congrArg (fun q => q[i]?) s.seg
  simp only [List.getElem?_take, h, if_true, List.getElem?_drop] at h1
  rw [List.getD_eq_getElem?_getD, h1]
  simp [bA, h]
/-- A number, moved by a byte; by bytes. -/
def hst (n c : Int) : Int := IntKind.u64.wrap (bits .xor .u64 n c * 1099511628211)
def hsF (n : Int) (l : List Int) : Int := l.foldl hst n
theorem hsF_succ (n : Int) (l : List Int) (i : Nat) (h : i < l.length) : hsF n (l.take (i + 1)) = hst (hsF n (l.take i)) l[i] := by
  unfold hsF
  rw [List.take_add_one, List.getElem?_eq_getElem h, Option.toList, List.foldl_append]; rfl
/-- The bytes that count; an entry's number. -/
def enK (e : En) : List Int := (enB e).take (e.key.size + e.val.size + 13)
def hashE (e : En) : Int := if checkI e = 0 then hsF 14695981039346656037 (enK e) else 0
theorem enK_len (e : En) : (enK e).length = e.key.size + e.val.size + 13 := by unfold enK; rw [List.length_take, enB_len]; omega
theorem enB_small {e : En} (h : checkI e = 0) : (enB e).length ≤ 1000 := by
  have := check_ok h
  rw [enB_len]; omega
/- quidnunc/sums.Hash -/
noncomputable def c57_1 : ACode := .region false [⟨some 1, .box 0, [.t 0], none⟩,
  ⟨some 2, .move, [.c (.val (.int .u64 0))], none⟩] [] [] [1] true [] []
noncomputable def c57_3 : ACode := .region false [⟨some 9, .load true 9, [.t 1], none⟩,
  ⟨some 10, .call 81, [.t 9], none⟩,
  ⟨some 8, .move, [.t 10], none⟩,
  ⟨some 11, .ext 0, [.t 8], none⟩,
  ⟨some 12, .ext 1, [.t 8], none⟩,
  ⟨some 3, .move, [.t 11], none⟩,
  ⟨some 4, .move, [.t 12], none⟩] [] [] [3, 4] true [] []
noncomputable def c57_6 : ACode := .region false [⟨some 13, .move, [.t 4], none⟩,
  ⟨some 14, .bin .neq, [.t 13, .c (.val (.int .i64 0))], none⟩] [] [] [3, 14] false [] []
noncomputable def c57_9 : ACode := .region false [⟨some 2, .move, [.c (.val (.int .u64 0))], none⟩] [] [] [2] false [] []
noncomputable def c57_8 : ACode := .seq c57_9 .ret
noncomputable def c57_7 : ACode := .cond (.t 14) c57_8 .skip
noncomputable def c57_5 : ACode := .seq c57_6 c57_7
noncomputable def c57_11 : ACode := .region false [⟨some 5, .move, [.c (.val (.int .u64 14695981039346656037))], none⟩] [] [] [3, 5] false [] []
noncomputable def c57_14 : ACode := .region false [⟨some 15, .move, [.t 3], none⟩,
  ⟨some 16, .move, [.t 3], none⟩,
  ⟨some 17, .len, [.t 16], none⟩,
  ⟨some 18, .bin .sub, [.t 17, .c (.val (.int .i64 6))], none⟩,
  ⟨some 19, .slS 1 false true false, [.t 15, .t 18], none⟩,
  ⟨some 20, .len, [.t 19], none⟩,
  ⟨some 21, .move, [.c (.val (.int .i64 0))], none⟩] [] [] [5, 19, 20, 21] false [] []
noncomputable def c57_18 : ACode := .region false [⟨some 22, .bin .lss, [.t 21, .t 20], none⟩] [] [] [5, 19, 20, 21, 22] false [] []
noncomputable def c57_20 : ACode := .cond (.t 22) .skip (.exit 0)
noncomputable def c57_24 : ACode := .region false [⟨some 23, .ixS 1, [.t 19, .t 21], none⟩,
  ⟨some 24, .load false 1, [.t 23], none⟩,
  ⟨some 7, .move, [.t 24], none⟩] [] [] [5, 7, 19, 20, 21] false [] []
noncomputable def c57_25 : ACode := .region false [⟨some 25, .move, [.t 5], none⟩,
  ⟨some 26, .move, [.t 7], none⟩,
  ⟨some 27, .conv .u64, [.t 26], none⟩,
  ⟨some 28, .bin .xor, [.t 25, .t 27], none⟩,
  ⟨some 29, .bin .mul, [.t 28, .c (.val (.int .u64 1099511628211))], none⟩,
  ⟨some 5, .move, [.t 29], none⟩] [] [] [5, 19, 20, 21] false [] []
noncomputable def c57_23 : ACode := .seq c57_24 c57_25
noncomputable def c57_22 : ACode := .block 1 c57_23
noncomputable def c57_26 : ACode := .region false [⟨some 30, .bin .add, [.t 21, .c (.val (.int .i64 1))], none⟩,
  ⟨some 21, .move, [.t 30], none⟩] [] [] [5, 19, 20, 21] false [] []
noncomputable def c57_21 : ACode := .seq c57_22 c57_26
noncomputable def c57_19 : ACode := .seq c57_20 c57_21
noncomputable def c57_17 : ACode := .seq c57_18 c57_19
noncomputable def c57_16 : ACode := .loop c57_17
noncomputable def c57_15 : ACode := .block 0 c57_16
noncomputable def c57_13 : ACode := .seq c57_14 c57_15
noncomputable def c57_28 : ACode := .region false [⟨some 31, .move, [.t 5], none⟩,
  ⟨some 2, .move, [.t 31], none⟩] [] [] [2] false [] []
noncomputable def c57_27 : ACode := .seq c57_28 .ret
noncomputable def c57_12 : ACode := .seq c57_13 c57_27
noncomputable def c57_10 : ACode := .seq c57_11 c57_12
noncomputable def c57_4 : ACode := .seq c57_5 c57_10
noncomputable def c57_2 : ACode := .seq c57_3 c57_4
noncomputable def c57_0 : ACode := .seq c57_1 c57_2
noncomputable def code57 : Code := (Try.f57.body).getD .skip
theorem c57_ok : compC Try.prog 32 code57 = some (strip c57_0) := by kernel_rfl
theorem res57_ok : Try.f57.results.toList.mapM (resC Try.prog) = some [(2, none)] := by kernel_rfl
/- quidnunc/quidnuncref09.Hash -/
noncomputable def c50_1 : ACode := .region false [⟨some 1, .box 0, [.t 0], none⟩,
  ⟨some 2, .move, [.c (.val (.int .u64 0))], none⟩] [] [] [1] true [] []
noncomputable def c50_4 : ACode := .region false [⟨some 6, .load true 9, [.t 1], none⟩,
  ⟨some 7, .call 58, [.t 6], none⟩,
  ⟨some 8, .bin .neq, [.t 7, .c (.val (.int .i64 0))], none⟩] [] [] [1, 8] true [] []
noncomputable def c50_7 : ACode := .region false [⟨some 2, .move, [.c (.val (.int .u64 0))], none⟩] [] [] [2] false [] []
noncomputable def c50_6 : ACode := .seq c50_7 .ret
noncomputable def c50_5 : ACode := .cond (.t 8) c50_6 .skip
noncomputable def c50_3 : ACode := .seq c50_4 c50_5
noncomputable def c50_9 : ACode := .region false [⟨some 9, .load true 9, [.t 1], none⟩,
  ⟨some 10, .call 78, [.t 9], none⟩,
  ⟨some 3, .move, [.t 10], none⟩] [] [] [3] true [] []
noncomputable def c50_11 : ACode := .region false [⟨some 4, .move, [.c (.val (.int .u64 14695981039346656037))], none⟩] [] [] [3, 4] false [] []
noncomputable def c50_14 : ACode := .region false [⟨some 5, .move, [.c (.val (.int .i64 0))], none⟩] [] [] [3, 4, 5] false [] []
noncomputable def c50_19 : ACode := .region false [⟨some 11, .move, [.t 5], none⟩,
  ⟨some 12, .move, [.t 3], none⟩,
  ⟨some 13, .len, [.t 12], none⟩,
  ⟨some 14, .bin .sub, [.t 13, .c (.val (.int .i64 6))], none⟩,
  ⟨some 15, .bin .lss, [.t 11, .t 14], none⟩] [] [] [3, 4, 5, 15] false [] []
noncomputable def c50_20 : ACode := .cond (.t 15) .skip (.exit 0)
noncomputable def c50_18 : ACode := .seq c50_19 c50_20
noncomputable def c50_23 : ACode := .region false [⟨some 18, .move, [.t 4], none⟩,
  ⟨some 19, .move, [.t 3], none⟩,
  ⟨some 20, .move, [.t 5], none⟩,
  ⟨some 21, .ixS 1, [.t 19, .t 20], none⟩,
  ⟨some 22, .load false 1, [.t 21], none⟩,
  ⟨some 23, .conv .u64, [.t 22], none⟩,
  ⟨some 24, .bin .xor, [.t 18, .t 23], none⟩,
  ⟨some 25, .bin .mul, [.t 24, .c (.val (.int .u64 1099511628211))], none⟩,
  ⟨some 4, .move, [.t 25], none⟩] [] [] [3, 4, 5] false [] []
noncomputable def c50_22 : ACode := .block 1 c50_23
noncomputable def c50_24 : ACode := .region false [⟨some 16, .move, [.t 5], none⟩,
  ⟨some 17, .bin .add, [.t 16, .c (.val (.int .i64 1))], none⟩,
  ⟨some 5, .move, [.t 17], none⟩] [] [] [3, 4, 5] false [] []
noncomputable def c50_21 : ACode := .seq c50_22 c50_24
noncomputable def c50_17 : ACode := .seq c50_18 c50_21
noncomputable def c50_16 : ACode := .loop c50_17
noncomputable def c50_15 : ACode := .block 0 c50_16
noncomputable def c50_13 : ACode := .seq c50_14 c50_15
noncomputable def c50_26 : ACode := .region false [⟨some 26, .move, [.t 4], none⟩,
  ⟨some 2, .move, [.t 26], none⟩] [] [] [2] false [] []
noncomputable def c50_25 : ACode := .seq c50_26 .ret
noncomputable def c50_12 : ACode := .seq c50_13 c50_25
noncomputable def c50_10 : ACode := .seq c50_11 c50_12
noncomputable def c50_8 : ACode := .seq c50_9 c50_10
noncomputable def c50_2 : ACode := .seq c50_3 c50_8
noncomputable def c50_0 : ACode := .seq c50_1 c50_2
noncomputable def code50 : Code := (Try.f50.body).getD .skip
theorem c50_ok : compC Try.prog 27 code50 = some (strip c50_0) := by kernel_rfl
theorem res50_ok : Try.f50.results.toList.mapM (resC Try.prog) = some [(2, none)] := by kernel_rfl
/- (*quidnunc/sums.Sum).Add -/
noncomputable def c54_1 : ACode := .region false [⟨some 3, .box 0, [.t 1], none⟩,
  ⟨some 4, .move, [.c (.val (.int .u64 0))], none⟩] [] [] [0, 3] true [] []
noncomputable def c54_3 : ACode := .region true [⟨some 5, .move, [.t 0], none⟩,
  ⟨some 6, .nilChk, [.t 5], none⟩,
  ⟨some 7, .addr 0, [.t 6], none⟩,
  ⟨some 8, .load true 9, [.t 3], none⟩,
  ⟨some 9, .call 57, [.t 8], none⟩,
  ⟨some 10, .call 79, [.t 7, .t 9], none⟩,
  ⟨some 4, .move, [.t 10], none⟩] [] [] [4] true [] []
noncomputable def c54_2 : ACode := .seq c54_3 .ret
noncomputable def c54_0 : ACode := .seq c54_1 c54_2
noncomputable def code54 : Code := (Try.f54.body).getD .skip
theorem c54_ok : compC Try.prog 11 code54 = some (strip c54_0) := by kernel_rfl
theorem res54_ok : Try.f54.results.toList.mapM (resC Try.prog) = some [(4, none)] := by kernel_rfl
/- (*quidnunc/sums.Sum).Drop -/
noncomputable def c51_1 : ACode := .region false [⟨some 3, .box 0, [.t 1], none⟩,
  ⟨some 4, .move, [.c (.val (.int .u64 0))], none⟩] [] [] [0, 3] true [] []
noncomputable def c51_3 : ACode := .region true [⟨some 5, .move, [.t 0], none⟩,
  ⟨some 6, .nilChk, [.t 5], none⟩,
  ⟨some 7, .addr 0, [.t 6], none⟩,
  ⟨some 8, .load true 9, [.t 3], none⟩,
  ⟨some 9, .call 57, [.t 8], none⟩,
  ⟨some 10, .un .neg, [.t 9], none⟩,
  ⟨some 11, .call 79, [.t 7, .t 10], none⟩,
  ⟨some 4, .move, [.t 11], none⟩] [] [] [4] true [] []
noncomputable def c51_2 : ACode := .seq c51_3 .ret
noncomputable def c51_0 : ACode := .seq c51_1 c51_2
noncomputable def code51 : Code := (Try.f51.body).getD .skip
theorem c51_ok : compC Try.prog 12 code51 = some (strip c51_0) := by kernel_rfl
theorem res51_ok : Try.f51.results.toList.mapM (resC Try.prog) = some [(4, none)] := by kernel_rfl
/- (*quidnunc/sums.Sum).Turn -/
noncomputable def c53_1 : ACode := .region false [⟨some 4, .box 0, [.t 1], none⟩,
  ⟨some 5, .box 0, [.t 2], none⟩,
  ⟨some 6, .move, [.c (.val (.int .u64 0))], none⟩] [] [] [0, 4, 5] true [] []
noncomputable def c53_3 : ACode := .region false [⟨some 7, .move, [.t 0], none⟩,
  ⟨some 8, .load true 9, [.t 4], none⟩,
  ⟨some 9, .call 51, [.t 7, .t 8], none⟩] [] [] [0, 5] true [] []
noncomputable def c53_5 : ACode := .region false [⟨some 10, .move, [.t 0], none⟩,
  ⟨some 11, .load true 9, [.t 5], none⟩,
  ⟨some 12, .call 54, [.t 10, .t 11], none⟩,
  ⟨some 6, .move, [.t 12], none⟩] [] [] [6] true [] []
noncomputable def c53_4 : ACode := .seq c53_5 .ret
noncomputable def c53_2 : ACode := .seq c53_3 c53_4
noncomputable def c53_0 : ACode := .seq c53_1 c53_2
noncomputable def code53 : Code := (Try.f53.body).getD .skip
theorem c53_ok : compC Try.prog 13 code53 = some (strip c53_0) := by kernel_rfl
theorem res53_ok : Try.f53.results.toList.mapM (resC Try.prog) = some [(6, none)] := by kernel_rfl
/- (*quidnunc/sums.Sum).Value -/
noncomputable def c55_1 : ACode := .region false [⟨some 2, .move, [.c (.val (.int .u64 0))], none⟩] [] [] [0] false [] []
noncomputable def c55_3 : ACode := .region false [⟨some 3, .move, [.t 0], none⟩,
  ⟨some 4, .nilChk, [.t 3], none⟩,
  ⟨some 5, .addr 0, [.t 4], none⟩,
  ⟨some 6, .call 80, [.t 5], none⟩,
  ⟨some 2, .move, [.t 6], none⟩] [] [] [2] true [] []
noncomputable def c55_2 : ACode := .seq c55_3 .ret
noncomputable def c55_0 : ACode := .seq c55_1 c55_2
noncomputable def code55 : Code := (Try.f55.body).getD .skip
theorem c55_ok : compC Try.prog 7 code55 = some (strip c55_0) := by kernel_rfl
theorem res55_ok : Try.f55.results.toList.mapM (resC Try.prog) = some [(2, none)] := by kernel_rfl
theorem hash_any (e : En) : ACall Try.prog 57 [EnA e] [] (Det (U64 (hashE e)) []) := by
  have c1 := encode_any e
  by_cases he : checkI e = 0
  · have e1 : encL e = enB e := by simp [encL, he]
    have e2 : hashE e = hsF 14695981039346656037 (enK e) := by unfold hashE; rw [if_pos he]
    rw [e1, he] at c1
    rw [e2]
    have hsm := enB_small he
    have hkl := enK_len e
    have hln := enB_len e
    have hby := enB_bytes he
    have s := Seg.all (enB e) (by omega)
    have hge : 6 ≤ (enB e).length := by omega
    have sK : Seg (bA (enB e)) 0 (enK e) := s.takeS (e.key.size + e.val.size + 13) (by omega)
    have hbK : ∀ x ∈ enK e, 0 ≤ x ∧ x ≤ 255 := fun x hx => hby x (List.mem_of_mem_take hx)
    have hL6 : ((enB e).length : Int) - 6 = (((enK e).length : Nat) : Int) := by omega
    have h0 : hsF 14695981039346656037 ((enK e).take 0) = 14695981039346656037 := rfl
    clear hkl e1 e2
    have hKle := sK.le
    rw [bA_len] at hKle
    generalize enB e = B at *
    generalize enK e = K at *
    refine ACall.startA c57_ok Try.func57 rfl Try.ntmps57 (by kernel_rfl) res57_ok rfl rfl rfl ?_; simp (maxSteps := 9999999) (disch := omega) only [go_sem]
    (repeat' (first | refine AWpA.seq ?_ | refine AWpA.block ?_ | (with_reducible refine CondP.tt ?_) | (with_reducible refine CondP.ff ?_) | refine AWpA.condv (by simp (maxSteps := 9999999) (disch := omega) only [go_sem, bA_ren, hL6, s.ren]; rfl) ?_ | ((first | (apply AWpA.region; (focus (simp (maxSteps := 9999999) (disch := omega) only [go_sem, bA_ren, hL6, s.ren]; rfl))) | (apply AWpA.draw [] follows; (focus (simp (maxSteps := 9999999) (disch := omega) only [go_sem, bA_ren, hL6, s.ren]; rfl)); (focus (simp (maxSteps := 9999999) (disch := omega) only [go_sem, bA_ren, hL6, s.ren]; first | done | trivial)); (focus (simp (maxSteps := 9999999) (disch := omega) only [go_sem, bA_ren, hL6, s.ren]; rfl))) | (apply TailK.go; (focus (simp (maxSteps := 9999999) (disch := omega) only [go_sem, bA_ren, hL6, s.ren]; rfl))) | refine AWpA.skip ?_ | refine AWpA.exit ?_ | refine AWpA.ret ?_ | (with_reducible refine ARoundsA.succ ?_) | ((first | refine Runs.kt (by assumption) (fun h9 => ?_) | refine Runs.kf (by assumption) (fun h9 => ?_) | refine Runs.nt (by assumption) (fun h9 => ?_) | refine Runs.nf (by assumption) (fun h9 => ?_) | refine CondP.ht (by assumption) (fun h9 => ?_) | refine CondP.hf (by assumption) (fun h9 => ?_) | refine CondP.nt (by assumption) (fun h9 => ?_) | refine CondP.nf (by assumption) (fun h9 => ?_)); (try simp only [h9]); clear h9) | ((first | (with_reducible apply CallG.plain1 [] (c1)) | (with_reducible apply CallG.draw1 [] (c1))); (focus ((try refine And.intro (leAs_of_eq rfl) ?_); (try refine And.intro (leOL_of_eq rfl) ?_); simp (maxSteps := 9999999) (disch := omega) only [go_sem, bA_ren, hL6, s.ren]; first | done | (repeat' (first | rfl | (refine And.intro ?_ ?_))))); (focus (simp (maxSteps := 9999999) (disch := omega) only [go_sem, bA_ren, hL6, s.ren]; rfl)))); (try simp (maxSteps := 9999999) (disch := omega) only [go_sem, bA_ren, hL6, s.ren]); (try (refine And.intro ?_ ?_; (focus (first | omega | (simp only [go_sem]; done) | (simp; done) | (simp; omega) | assumption))))) | ((first | refine CondP.split (fun hif => ?_) (fun hif => ?_) | refine Runs.part (fun hif => ?_) (fun hif => ?_)) <;> ((try simp only [hif]); (try simp only [decide_eq_true_eq, decide_eq_false_iff_not, Bool.not_eq_true, Bool.not_eq_false, Bool.not_eq_true', Bool.not_eq_false', beq_iff_eq, bne_iff_ne, bne_eq_false_iff_eq, beq_eq_false_iff_ne, ne_eq, Bool.and_eq_true, Bool.or_eq_true, Bool.or_eq_false_iff] at hif); (try (have h9 : _ = true := hif; simp only [h9])); (try (have h9 : _ = false := hif; simp only [h9])); (try simp (maxSteps := 9999999) (disch := omega) only [go_sem, bA_ren, hL6, s.ren]); (try (refine And.intro ?_ ?_; (focus (first | omega | (simp only [go_sem]; done) | (simp; done) | (simp; omega) | assumption)))); (try (exfalso; omega; done))))))
    (apply AWpA.loopL (fun i : Nat => [(5, U64 (hsF 14695981039346656037 (K.take i))), (19, .sl 0 0 K.length 1 none), (20, I K.length), (21, I i)]) (fun i => [.cells false (bA B)]) (fun i => K.length - i) (fun i => i ≤ K.length) (0) [48]; rotate_left; (focus (simp (maxSteps := 9999999) (disch := omega) only [go_sem, bA_ren, h0]; (try (repeat' (first | done | trivial | rfl | exact leAs_rfl _ | decide | (refine And.intro ?_ ?_) | (simp; done) | omega | (simp; decide)))))); rotate_right)
    · exact Nat.zero_le _
    rintro i hi
    (try simp only at hi)
    by_cases hin : i < K.length
    · have g1 : ((i : Int) < (K.length : Int)) = True := eq_true (by omega)
      have hc := hbK K[i] (List.getElem_mem hin)
      have g2 : (bA B).getD i .bad = .val (.int .u8 K[i]) := by have := seg_byteQ sK i hin; rwa [Nat.zero_add] at this
      have g3 := hsF_succ 14695981039346656037 K i hin
      generalize K[i] = c at hc g2 g3
      generalize hv : hsF 14695981039346656037 (K.take i) = v at g3
      have g4 : IntKind.u64.wrap (bits .xor .u64 v c * 1099511628211) = hst v c := rfl
      (try simp (maxSteps := 9999999) (disch := omega) only [go_sem])
      (repeat' (first | refine AWpA.seq ?_ | refine AWpA.block ?_ | (with_reducible refine CondP.tt ?_) | (with_reducible refine CondP.ff ?_) | refine AWpA.condv (by simp (maxSteps := 9999999) (disch := omega) only [go_sem, g1, g2, g4, bA_ren, bA_len, hL6]; rfl) ?_ | ((first | (apply AWpA.region; (focus (simp (maxSteps := 9999999) (disch := omega) only [go_sem, g1, g2, g4, bA_ren, bA_len, hL6]; rfl))) | (apply AWpA.draw [] follows; (focus (simp (maxSteps := 9999999) (disch := omega) only [go_sem, g1, g2, g4, bA_ren, bA_len, hL6]; rfl)); (focus (simp (maxSteps := 9999999) (disch := omega) only [go_sem, g1, g2, g4, bA_ren, bA_len, hL6]; first | done | trivial)); (focus (simp (maxSteps := 9999999) (disch := omega) only [go_sem, g1, g2, g4, bA_ren, bA_len, hL6]; rfl))) | (apply TailK.go; (focus (simp (maxSteps := 9999999) (disch := omega) only [go_sem, g1, g2, g4, bA_ren, bA_len, hL6]; rfl))) | refine AWpA.skip ?_ | refine AWpA.exit ?_ | refine AWpA.ret ?_ | (with_reducible refine ARoundsA.succ ?_) | ((first | refine Runs.kt (by assumption) (fun h9 => ?_) | refine Runs.kf (by assumption) (fun h9 => ?_) | refine Runs.nt (by assumption) (fun h9 => ?_) | refine Runs.nf (by assumption) (fun h9 => ?_) | refine CondP.ht (by assumption) (fun h9 => ?_) | refine CondP.hf (by assumption) (fun h9 => ?_) | refine CondP.nt (by assumption) (fun h9 => ?_) | refine CondP.nf (by assumption) (fun h9 => ?_)); (try simp only [h9]); clear h9)); (try simp (maxSteps := 9999999) (disch := omega) only [go_sem, g1, g2, g4, bA_ren, bA_len, hL6]); (try (refine And.intro ?_ ?_; (focus (first | omega | (simp only [go_sem]; done) | (simp; done) | (simp; omega) | assumption))))) | ((first | refine CondP.split (fun hif => ?_) (fun hif => ?_) | refine Runs.part (fun hif => ?_) (fun hif => ?_)) <;> ((try simp only [hif]); (try simp only [decide_eq_true_eq, decide_eq_false_iff_not, Bool.not_eq_true, Bool.not_eq_false, Bool.not_eq_true', Bool.not_eq_false', beq_iff_eq, bne_iff_ne, bne_eq_false_iff_eq, beq_eq_false_iff_ne, ne_eq, Bool.and_eq_true, Bool.or_eq_true, Bool.or_eq_false_iff] at hif); (try (have h9 : _ = true := hif; simp only [h9])); (try (have h9 : _ = false := hif; simp only [h9])); (try simp (maxSteps := 9999999) (disch := omega) only [go_sem, g1, g2, g4, bA_ren, bA_len, hL6]); (try (refine And.intro ?_ ?_; (focus (first | omega | (simp only [go_sem]; done) | (simp; done) | (simp; omega) | assumption)))); (try (exfalso; omega; done))))))
      (apply Back.to (i + 1) [0]; (focus ((try simp (maxSteps := 9999999) (disch := omega) only [go_sem, g3, bA_ren]); first | done | omega)); rotate_left; (focus (simp (maxSteps := 9999999) (disch := omega) only [go_sem, g3, bA_ren]; (try (repeat' (first | done | trivial | rfl | exact leAs_rfl _ | decide | (refine And.intro ?_ ?_) | (simp; done) | omega | (simp; decide)))))))
      omega
    · obtain rfl : i = K.length := by omega
      have g1 : ((K.length : Int) < (K.length : Int)) = False := eq_false (by omega)
      (try simp (maxSteps := 9999999) (disch := omega) only [go_sem])
      (repeat' (first | refine AWpA.seq ?_ | refine AWpA.block ?_ | (with_reducible refine CondP.tt ?_) | (with_reducible refine CondP.ff ?_) | refine AWpA.condv (by simp (maxSteps := 9999999) (disch := omega) only [go_sem, g1, bA_ren, bA_len, hL6, List.take_length]; rfl) ?_ | ((first | (apply AWpA.region; (focus (simp (maxSteps := 9999999) (disch := omega) only [go_sem, g1, bA_ren, bA_len, hL6, List.take_length]; rfl))) | (apply AWpA.draw [] follows; (focus (simp (maxSteps := 9999999) (disch := omega) only [go_sem, g1, bA_ren, bA_len, hL6, List.take_length]; rfl)); (focus (simp (maxSteps := 9999999) (disch := omega) only [go_sem, g1, bA_ren, bA_len, hL6, List.take_length]; first | done | trivial)); (focus (simp (maxSteps := 9999999) (disch := omega) only [go_sem, g1, bA_ren, bA_len, hL6, List.take_length]; rfl))) | (apply TailK.go; (focus (simp (maxSteps := 9999999) (disch := omega) only [go_sem, g1, bA_ren, bA_len, hL6, List.take_length]; rfl))) | refine AWpA.skip ?_ | refine AWpA.exit ?_ | refine AWpA.ret ?_ | (with_reducible refine ARoundsA.succ ?_) | ((first | refine Runs.kt (by assumption) (fun h9 => ?_) | refine Runs.kf (by assumption) (fun h9 => ?_) | refine Runs.nt (by assumption) (fun h9 => ?_) | refine Runs.nf (by assumption) (fun h9 => ?_) | refine CondP.ht (by assumption) (fun h9 => ?_) | refine CondP.hf (by assumption) (fun h9 => ?_) | refine CondP.nt (by assumption) (fun h9 => ?_) | refine CondP.nf (by assumption) (fun h9 => ?_)); (try simp only [h9]); clear h9)); (try simp (maxSteps := 9999999) (disch := omega) only [go_sem, g1, bA_ren, bA_len, hL6, List.take_length]); (try (refine And.intro ?_ ?_; (focus (first | omega | (simp only [go_sem]; done) | (simp; done) | (simp; omega) | assumption))))) | ((first | refine CondP.split (fun hif => ?_) (fun hif => ?_) | refine Runs.part (fun hif => ?_) (fun hif => ?_)) <;> ((try simp only [hif]); (try simp only [decide_eq_true_eq, decide_eq_false_iff_not, Bool.not_eq_true, Bool.not_eq_false, Bool.not_eq_true', Bool.not_eq_false', beq_iff_eq, bne_iff_ne, bne_eq_false_iff_eq, beq_eq_false_iff_ne, ne_eq, Bool.and_eq_true, Bool.or_eq_true, Bool.or_eq_false_iff] at hif); (try (have h9 : _ = true := hif; simp only [h9])); (try (have h9 : _ = false := hif; simp only [h9])); (try simp (maxSteps := 9999999) (disch := omega) only [go_sem, g1, bA_ren, bA_len, hL6, List.take_length]); (try (refine And.intro ?_ ?_; (focus (first | omega | (simp only [go_sem]; done) | (simp; done) | (simp; omega) | assumption)))); (try (exfalso; omega; done))))))
      (apply Ret.det []; (focus (first | exact .inl rfl | exact .inr rfl)); (focus (simp (maxSteps := 9999999) (disch := omega) only [go_sem]; rfl)); (simp (maxSteps := 9999999) (disch := omega) only [go_sem]; (try (repeat' (first | done | trivial | rfl | exact leAs_rfl _ | decide | (refine And.intro ?_ ?_) | (simp; done) | omega | (simp; decide))))))
  · have e2 : hashE e = 0 := by unfold hashE; rw [if_neg he]
    have g1 : (checkI e != 0) = true := by rw [bne_iff_ne]; exact he
    rw [e2]
    generalize checkI e = c at *
    generalize encL e = B at *
    refine ACall.startA c57_ok Try.func57 rfl Try.ntmps57 (by kernel_rfl) res57_ok rfl rfl rfl ?_; simp (maxSteps := 9999999) (disch := omega) only [go_sem]
    (repeat' (first | refine AWpA.seq ?_ | refine AWpA.block ?_ | (with_reducible refine CondP.tt ?_) | (with_reducible refine CondP.ff ?_) | refine AWpA.condv (by simp (maxSteps := 9999999) (disch := omega) only [go_sem, bA_ren, g1]; rfl) ?_ | ((first | (apply AWpA.region; (focus (simp (maxSteps := 9999999) (disch := omega) only [go_sem, bA_ren, g1]; rfl))) | (apply AWpA.draw [] follows; (focus (simp (maxSteps := 9999999) (disch := omega) only [go_sem, bA_ren, g1]; rfl)); (focus (simp (maxSteps := 9999999) (disch := omega) only [go_sem, bA_ren, g1]; first | done | trivial)); (focus (simp (maxSteps := 9999999) (disch := omega) only [go_sem, bA_ren, g1]; rfl))) | (apply TailK.go; (focus (simp (maxSteps := 9999999) (disch := omega) only [go_sem, bA_ren, g1]; rfl))) | refine AWpA.skip ?_ | refine AWpA.exit ?_ | refine AWpA.ret ?_ | (with_reducible refine ARoundsA.succ ?_) | ((first | refine Runs.kt (by assumption) (fun h9 => ?_) | refine Runs.kf (by assumption) (fun h9 => ?_) | refine Runs.nt (by assumption) (fun h9 => ?_) | refine Runs.nf (by assumption) (fun h9 => ?_) | refine CondP.ht (by assumption) (fun h9 => ?_) | refine CondP.hf (by assumption) (fun h9 => ?_) | refine CondP.nt (by assumption) (fun h9 => ?_) | refine CondP.nf (by assumption) (fun h9 => ?_)); (try simp only [h9]); clear h9) | ((first | (with_reducible apply CallG.plain1 [] (c1)) | (with_reducible apply CallG.draw1 [] (c1))); (focus ((try refine And.intro (leAs_of_eq rfl) ?_); (try refine And.intro (leOL_of_eq rfl) ?_); simp (maxSteps := 9999999) (disch := omega) only [go_sem, bA_ren, g1]; first | done | (repeat' (first | rfl | (refine And.intro ?_ ?_))))); (focus (simp (maxSteps := 9999999) (disch := omega) only [go_sem, bA_ren, g1]; rfl)))); (try simp (maxSteps := 9999999) (disch := omega) only [go_sem, bA_ren, g1]); (try (refine And.intro ?_ ?_; (focus (first | omega | (simp only [go_sem]; done) | (simp; done) | (simp; omega) | assumption))))) | ((first | refine CondP.split (fun hif => ?_) (fun hif => ?_) | refine Runs.part (fun hif => ?_) (fun hif => ?_)) <;> ((try simp only [hif]); (try simp only [decide_eq_true_eq, decide_eq_false_iff_not, Bool.not_eq_true, Bool.not_eq_false, Bool.not_eq_true', Bool.not_eq_false', beq_iff_eq, bne_iff_ne, bne_eq_false_iff_eq, beq_eq_false_iff_ne, ne_eq, Bool.and_eq_true, Bool.or_eq_true, Bool.or_eq_false_iff] at hif); (try (have h9 : _ = true := hif; simp only [h9])); (try (have h9 : _ = false := hif; simp only [h9])); (try simp (maxSteps := 9999999) (disch := omega) only [go_sem, bA_ren, g1]); (try (refine And.intro ?_ ?_; (focus (first | omega | (simp only [go_sem]; done) | (simp; done) | (simp; omega) | assumption)))); (try (exfalso; omega; done))))))
    (apply Ret.det []; (focus (first | exact .inl rfl | exact .inr rfl)); (focus (simp (maxSteps := 9999999) (disch := omega) only [go_sem]; rfl)); (simp (maxSteps := 9999999) (disch := omega) only [go_sem]; (try (repeat' (first | done | trivial | rfl | exact leAs_rfl _ | decide | (refine And.intro ?_ ?_) | (simp; done) | omega | (simp; decide))))))
theorem rhash_any (e : En) : ACall Try.prog 50 [EnA e] [] (Det (U64 (hashE e)) []) := by
  have c0 := rcheck_any e
  by_cases he : checkI e = 0
  · have c1 := rbytes_any e he
    have e2 : hashE e = hsF 14695981039346656037 (enK e) := by unfold hashE; rw [if_pos he]
    rw [he] at c0
    rw [e2]
    have hsm := enB_small he
    have hkl := enK_len e
    have hln := enB_len e
    have hby := enB_bytes he
    have s := Seg.all (enB e) (by omega)
    have sK : Seg (bA (enB e)) 0 (enK e) := s.takeS (e.key.size + e.val.size + 13) (by omega)
    have hbK : ∀ x ∈ enK e, 0 ≤ x ∧ x ≤ 255 := fun x hx => hby x (List.mem_of_mem_take hx)
    have hL6 : ((enB e).length : Int) - 6 = (((enK e).length : Nat) : Int) := by omega
    have h0 : hsF 14695981039346656037 ((enK e).take 0) = 14695981039346656037 := rfl
    clear hkl e2
    have hKle := sK.le
    rw [bA_len] at hKle
    generalize enB e = B at *
    generalize enK e = K at *
    refine ACall.startA c50_ok Try.func50 rfl Try.ntmps50 (by kernel_rfl) res50_ok rfl rfl rfl ?_; simp (maxSteps := 9999999) (disch := omega) only [go_sem]
    (repeat' (first | refine AWpA.seq ?_ | refine AWpA.block ?_ | (with_reducible refine CondP.tt ?_) | (with_reducible refine CondP.ff ?_) | refine AWpA.condv (by simp (maxSteps := 9999999) (disch := omega) only [go_sem, bA_ren, hL6, s.ren]; rfl) ?_ | ((first | (apply AWpA.region; (focus (simp (maxSteps := 9999999) (disch := omega) only [go_sem, bA_ren, hL6, s.ren]; rfl))) | (apply AWpA.draw [] follows; (focus (simp (maxSteps := 9999999) (disch := omega) only [go_sem, bA_ren, hL6, s.ren]; rfl)); (focus (simp (maxSteps := 9999999) (disch := omega) only [go_sem, bA_ren, hL6, s.ren]; first | done | trivial)); (focus (simp (maxSteps := 9999999) (disch := omega) only [go_sem, bA_ren, hL6, s.ren]; rfl))) | (apply TailK.go; (focus (simp (maxSteps := 9999999) (disch := omega) only [go_sem, bA_ren, hL6, s.ren]; rfl))) | refine AWpA.skip ?_ | refine AWpA.exit ?_ | refine AWpA.ret ?_ | (with_reducible refine ARoundsA.succ ?_) | ((first | refine Runs.kt (by assumption) (fun h9 => ?_) | refine Runs.kf (by assumption) (fun h9 => ?_) | refine Runs.nt (by assumption) (fun h9 => ?_) | refine Runs.nf (by assumption) (fun h9 => ?_) | refine CondP.ht (by assumption) (fun h9 => ?_) | refine CondP.hf (by assumption) (fun h9 => ?_) | refine CondP.nt (by assumption) (fun h9 => ?_) | refine CondP.nf (by assumption) (fun h9 => ?_)); (try simp only [h9]); clear h9) | ((first | (with_reducible apply CallG.plain1 [] (c0)) | (with_reducible apply CallG.draw1 [] (c0))); (focus ((try refine And.intro (leAs_of_eq rfl) ?_); (try refine And.intro (leOL_of_eq rfl) ?_); simp (maxSteps := 9999999) (disch := omega) only [go_sem, bA_ren, hL6, s.ren]; first | done | (repeat' (first | rfl | (refine And.intro ?_ ?_))))); (focus (simp (maxSteps := 9999999) (disch := omega) only [go_sem, bA_ren, hL6, s.ren]; rfl))) | ((first | (with_reducible apply CallG.plain1 [] (c1)) | (with_reducible apply CallG.draw1 [] (c1))); (focus ((try refine And.intro (leAs_of_eq rfl) ?_); (try refine And.intro (leOL_of_eq rfl) ?_); simp (maxSteps := 9999999) (disch := omega) only [go_sem, bA_ren, hL6, s.ren]; first | done | (repeat' (first | rfl | (refine And.intro ?_ ?_))))); (focus (simp (maxSteps := 9999999) (disch := omega) only [go_sem, bA_ren, hL6, s.ren]; rfl)))); (try simp (maxSteps := 9999999) (disch := omega) only [go_sem, bA_ren, hL6, s.ren]); (try (refine And.intro ?_ ?_; (focus (first | omega | (simp only [go_sem]; done) | (simp; done) | (simp; omega) | assumption))))) | ((first | refine CondP.split (fun hif => ?_) (fun hif => ?_) | refine Runs.part (fun hif => ?_) (fun hif => ?_)) <;> ((try simp only [hif]); (try simp only [decide_eq_true_eq, decide_eq_false_iff_not, Bool.not_eq_true, Bool.not_eq_false, Bool.not_eq_true', Bool.not_eq_false', beq_iff_eq, bne_iff_ne, bne_eq_false_iff_eq, beq_eq_false_iff_ne, ne_eq, Bool.and_eq_true, Bool.or_eq_true, Bool.or_eq_false_iff] at hif); (try (have h9 : _ = true := hif; simp only [h9])); (try (have h9 : _ = false := hif; simp only [h9])); (try simp (maxSteps := 9999999) (disch := omega) only [go_sem, bA_ren, hL6, s.ren]); (try (refine And.intro ?_ ?_; (focus (first | omega | (simp only [go_sem]; done) | (simp; done) | (simp; omega) | assumption)))); (try (exfalso; omega; done))))))
    (apply AWpA.loopL (fun i : Nat => [(3, .sl 0 0 B.length 1 none), (4, U64 (hsF 14695981039346656037 (K.take i))), (5, I i)]) (fun i => [.cells false (bA B)]) (fun i => K.length - i) (fun i => i ≤ K.length) (0) [96]; rotate_left; (focus (simp (maxSteps := 9999999) (disch := omega) only [go_sem, bA_ren, h0]; (try (repeat' (first | done | trivial | rfl | exact leAs_rfl _ | decide | (refine And.intro ?_ ?_) | (simp; done) | omega | (simp; decide)))))); rotate_right)
    · exact Nat.zero_le _
    rintro i hi
    (try simp only at hi)
    by_cases hin : i < K.length
    · have g1 : ((i : Int) < (K.length : Int)) = True := eq_true (by omega)
      have hc := hbK K[i] (List.getElem_mem hin)
      have g2 : (bA B).getD i .bad = .val (.int .u8 K[i]) := by have := seg_byteQ sK i hin; rwa [Nat.zero_add] at this
      have g3 := hsF_succ 14695981039346656037 K i hin
      generalize K[i] = c at hc g2 g3
      generalize hv : hsF 14695981039346656037 (K.take i) = v at g3
      have g4 : IntKind.u64.wrap (bits .xor .u64 v c * 1099511628211) = hst v c := rfl
      (try simp (maxSteps := 9999999) (disch := omega) only [go_sem])
      (repeat' (first | refine AWpA.seq ?_ | refine AWpA.block ?_ | (with_reducible refine CondP.tt ?_) | (with_reducible refine CondP.ff ?_) | refine AWpA.condv (by simp (maxSteps := 9999999) (disch := omega) only [go_sem, g1, g2, g4, bA_ren, bA_len, hL6]; rfl) ?_ | ((first | (apply AWpA.region; (focus (simp (maxSteps := 9999999) (disch := omega) only [go_sem, g1, g2, g4, bA_ren, bA_len, hL6]; rfl))) | (apply AWpA.draw [] follows; (focus (simp (maxSteps := 9999999) (disch := omega) only [go_sem, g1, g2, g4, bA_ren, bA_len, hL6]; rfl)); (focus (simp (maxSteps := 9999999) (disch := omega) only [go_sem, g1, g2, g4, bA_ren, bA_len, hL6]; first | done | trivial)); (focus (simp (maxSteps := 9999999) (disch := omega) only [go_sem, g1, g2, g4, bA_ren, bA_len, hL6]; rfl))) | (apply TailK.go; (focus (simp (maxSteps := 9999999) (disch := omega) only [go_sem, g1, g2, g4, bA_ren, bA_len, hL6]; rfl))) | refine AWpA.skip ?_ | refine AWpA.exit ?_ | refine AWpA.ret ?_ | (with_reducible refine ARoundsA.succ ?_) | ((first | refine Runs.kt (by assumption) (fun h9 => ?_) | refine Runs.kf (by assumption) (fun h9 => ?_) | refine Runs.nt (by assumption) (fun h9 => ?_) | refine Runs.nf (by assumption) (fun h9 => ?_) | refine CondP.ht (by assumption) (fun h9 => ?_) | refine CondP.hf (by assumption) (fun h9 => ?_) | refine CondP.nt (by assumption) (fun h9 => ?_) | refine CondP.nf (by assumption) (fun h9 => ?_)); (try simp only [h9]); clear h9)); (try simp (maxSteps := 9999999) (disch := omega) only [go_sem, g1, g2, g4, bA_ren, bA_len, hL6]); (try (refine And.intro ?_ ?_; (focus (first | omega | (simp only [go_sem]; done) | (simp; done) | (simp; omega) | assumption))))) | ((first | refine CondP.split (fun hif => ?_) (fun hif => ?_) | refine Runs.part (fun hif => ?_) (fun hif => ?_)) <;> ((try simp only [hif]); (try simp only [decide_eq_true_eq, decide_eq_false_iff_not, Bool.not_eq_true, Bool.not_eq_false, Bool.not_eq_true', Bool.not_eq_false', beq_iff_eq, bne_iff_ne, bne_eq_false_iff_eq, beq_eq_false_iff_ne, ne_eq, Bool.and_eq_true, Bool.or_eq_true, Bool.or_eq_false_iff] at hif); (try (have h9 : _ = true := hif; simp only [h9])); (try (have h9 : _ = false := hif; simp only [h9])); (try simp (maxSteps := 9999999) (disch := omega) only [go_sem, g1, g2, g4, bA_ren, bA_len, hL6]); (try (refine And.intro ?_ ?_; (focus (first | omega | (simp only [go_sem]; done) | (simp; done) | (simp; omega) | assumption)))); (try (exfalso; omega; done))))))
      (apply Back.to (i + 1) [0]; (focus ((try simp (maxSteps := 9999999) (disch := omega) only [go_sem, g3, bA_ren]); first | done | omega)); rotate_left; (focus (simp (maxSteps := 9999999) (disch := omega) only [go_sem, g3, bA_ren]; (try (repeat' (first | done | trivial | rfl | exact leAs_rfl _ | decide | (refine And.intro ?_ ?_) | (simp; done) | omega | (simp; decide)))))))
      omega
    · obtain rfl : i = K.length := by omega
      have g1 : ((K.length : Int) < (K.length : Int)) = False := eq_false (by omega)
      (try simp (maxSteps := 9999999) (disch := omega) only [go_sem])
      (repeat' (first | refine AWpA.seq ?_ | refine AWpA.block ?_ | (with_reducible refine CondP.tt ?_) | (with_reducible refine CondP.ff ?_) | refine AWpA.condv (by simp (maxSteps := 9999999) (disch := omega) only [go_sem, g1, bA_ren, bA_len, hL6, List.take_length]; rfl) ?_ | ((first | (apply AWpA.region; (focus (simp (maxSteps := 9999999) (disch := omega) only [go_sem, g1, bA_ren, bA_len, hL6, List.take_length]; rfl))) | (apply AWpA.draw [] follows; (focus (simp (maxSteps := 9999999) (disch := omega) only [go_sem, g1, bA_ren, bA_len, hL6, List.take_length]; rfl)); (focus (simp (maxSteps := 9999999) (disch := omega) only [go_sem, g1, bA_ren, bA_len, hL6, List.take_length]; first | done | trivial)); (focus (simp (maxSteps := 9999999) (disch := omega) only [go_sem, g1, bA_ren, bA_len, hL6, List.take_length]; rfl))) | (apply TailK.go; (focus (simp (maxSteps := 9999999) (disch := omega) only [go_sem, g1, bA_ren, bA_len, hL6, List.take_length]; rfl))) | refine AWpA.skip ?_ | refine AWpA.exit ?_ | refine AWpA.ret ?_ | (with_reducible refine ARoundsA.succ ?_) | ((first | refine Runs.kt (by assumption) (fun h9 => ?_) | refine Runs.kf (by assumption) (fun h9 => ?_) | refine Runs.nt (by assumption) (fun h9 => ?_) | refine Runs.nf (by assumption) (fun h9 => ?_) | refine CondP.ht (by assumption) (fun h9 => ?_) | refine CondP.hf (by assumption) (fun h9 => ?_) | refine CondP.nt (by assumption) (fun h9 => ?_) | refine CondP.nf (by assumption) (fun h9 => ?_)); (try simp only [h9]); clear h9)); (try simp (maxSteps := 9999999) (disch := omega) only [go_sem, g1, bA_ren, bA_len, hL6, List.take_length]); (try (refine And.intro ?_ ?_; (focus (first | omega | (simp only [go_sem]; done) | (simp; done) | (simp; omega) | assumption))))) | ((first | refine CondP.split (fun hif => ?_) (fun hif => ?_) | refine Runs.part (fun hif => ?_) (fun hif => ?_)) <;> ((try simp only [hif]); (try simp only [decide_eq_true_eq, decide_eq_false_iff_not, Bool.not_eq_true, Bool.not_eq_false, Bool.not_eq_true', Bool.not_eq_false', beq_iff_eq, bne_iff_ne, bne_eq_false_iff_eq, beq_eq_false_iff_ne, ne_eq, Bool.and_eq_true, Bool.or_eq_true, Bool.or_eq_false_iff] at hif); (try (have h9 : _ = true := hif; simp only [h9])); (try (have h9 : _ = false := hif; simp only [h9])); (try simp (maxSteps := 9999999) (disch := omega) only [go_sem, g1, bA_ren, bA_len, hL6, List.take_length]); (try (refine And.intro ?_ ?_; (focus (first | omega | (simp only [go_sem]; done) | (simp; done) | (simp; omega) | assumption)))); (try (exfalso; omega; done))))))
      (apply Ret.det []; (focus (first | exact .inl rfl | exact .inr rfl)); (focus (simp (maxSteps := 9999999) (disch := omega) only [go_sem]; rfl)); (simp (maxSteps := 9999999) (disch := omega) only [go_sem]; (try (repeat' (first | done | trivial | rfl | exact leAs_rfl _ | decide | (refine And.intro ?_ ?_) | (simp; done) | omega | (simp; decide))))))
  · have e2 : hashE e = 0 := by unfold hashE; rw [if_neg he]
    have g1 : (checkI e != 0) = true := by rw [bne_iff_ne]; exact he
    rw [e2]
    generalize checkI e = c at *
    refine ACall.startA c50_ok Try.func50 rfl Try.ntmps50 (by kernel_rfl) res50_ok rfl rfl rfl ?_; simp (maxSteps := 9999999) (disch := omega) only [go_sem]
    (repeat' (first | refine AWpA.seq ?_ | refine AWpA.block ?_ | (with_reducible refine CondP.tt ?_) | (with_reducible refine CondP.ff ?_) | refine AWpA.condv (by simp (maxSteps := 9999999) (disch := omega) only [go_sem, bA_ren, g1]; rfl) ?_ | ((first | (apply AWpA.region; (focus (simp (maxSteps := 9999999) (disch := omega) only [go_sem, bA_ren, g1]; rfl))) | (apply AWpA.draw [] follows; (focus (simp (maxSteps := 9999999) (disch := omega) only [go_sem, bA_ren, g1]; rfl)); (focus (simp (maxSteps := 9999999) (disch := omega) only [go_sem, bA_ren, g1]; first | done | trivial)); (focus (simp (maxSteps := 9999999) (disch := omega) only [go_sem, bA_ren, g1]; rfl))) | (apply TailK.go; (focus (simp (maxSteps := 9999999) (disch := omega) only [go_sem, bA_ren, g1]; rfl))) | refine AWpA.skip ?_ | refine AWpA.exit ?_ | refine AWpA.ret ?_ | (with_reducible refine ARoundsA.succ ?_) | ((first | refine Runs.kt (by assumption) (fun h9 => ?_) | refine Runs.kf (by assumption) (fun h9 => ?_) | refine Runs.nt (by assumption) (fun h9 => ?_) | refine Runs.nf (by assumption) (fun h9 => ?_) | refine CondP.ht (by assumption) (fun h9 => ?_) | refine CondP.hf (by assumption) (fun h9 => ?_) | refine CondP.nt (by assumption) (fun h9 => ?_) | refine CondP.nf (by assumption) (fun h9 => ?_)); (try simp only [h9]); clear h9) | ((first | (with_reducible apply CallG.plain1 [] (c0)) | (with_reducible apply CallG.draw1 [] (c0))); (focus ((try refine And.intro (leAs_of_eq rfl) ?_); (try refine And.intro (leOL_of_eq rfl) ?_); simp (maxSteps := 9999999) (disch := omega) only [go_sem, bA_ren, g1]; first | done | (repeat' (first | rfl | (refine And.intro ?_ ?_))))); (focus (simp (maxSteps := 9999999) (disch := omega) only [go_sem, bA_ren, g1]; rfl)))); (try simp (maxSteps := 9999999) (disch := omega) only [go_sem, bA_ren, g1]); (try (refine And.intro ?_ ?_; (focus (first | omega | (simp only [go_sem]; done) | (simp; done) | (simp; omega) | assumption))))) | ((first | refine CondP.split (fun hif => ?_) (fun hif => ?_) | refine Runs.part (fun hif => ?_) (fun hif => ?_)) <;> ((try simp only [hif]); (try simp only [decide_eq_true_eq, decide_eq_false_iff_not, Bool.not_eq_true, Bool.not_eq_false, Bool.not_eq_true', Bool.not_eq_false', beq_iff_eq, bne_iff_ne, bne_eq_false_iff_eq, beq_eq_false_iff_ne, ne_eq, Bool.and_eq_true, Bool.or_eq_true, Bool.or_eq_false_iff] at hif); (try (have h9 : _ = true := hif; simp only [h9])); (try (have h9 : _ = false := hif; simp only [h9])); (try simp (maxSteps := 9999999) (disch := omega) only [go_sem, bA_ren, g1]); (try (refine And.intro ?_ ?_; (focus (first | omega | (simp only [go_sem]; done) | (simp; done) | (simp; omega) | assumption)))); (try (exfalso; omega; done))))))
    (apply Ret.det []; (focus (first | exact .inl rfl | exact .inr rfl)); (focus (simp (maxSteps := 9999999) (disch := omega) only [go_sem]; rfl)); (simp (maxSteps := 9999999) (disch := omega) only [go_sem]; (try (repeat' (first | done | trivial | rfl | exact leAs_rfl _ | decide | (refine And.intro ?_ ?_) | (simp; done) | omega | (simp; decide))))))
def w64 (n : Int) : Int := IntKind.u64.wrap n
theorem w64_eq (n : Int) : w64 n = n % 18446744073709551616 := by simp [w64, IntKind.wrap, IntKind.bits, IntKind.signed]
theorem w64_add (a b : Int) : IntKind.u64.wrap (w64 a + b) = w64 (a + b) := by
  show w64 (w64 a + b) = _
  rw [w64_eq, w64_eq, w64_eq]; omega
theorem w64_neg (a b : Int) : IntKind.u64.wrap (w64 a + IntKind.u64.wrap (0 - b)) = w64 (a - b) := by
  show w64 (w64 a + w64 (0 - b)) = _
  rw [w64_eq, w64_eq, w64_eq, w64_eq]; omega
theorem w64_sub (a b : Int) : IntKind.u64.wrap (w64 a - b) = w64 (a - b) := by
  show w64 (w64 a - b) = _
  rw [w64_eq, w64_eq, w64_eq]; omega
attribute [irreducible] w64
theorem sadd_any (S : Int) (e : En) : ACall Try.prog 54 [.ptr 0 0, EnA e] [.cells false [U64 (w64 S)]] (Det (U64 (w64 (S + hashE e))) [.cells false [U64 (w64 (S + hashE e))]]) := by
  have c1 := hash_any e
  have c2 := uadd_any (w64 S) (hashE e) []
  rw [w64_add] at c2
  generalize hashE e = h at *
  refine ACall.startA c54_ok Try.func54 rfl Try.ntmps54 (by kernel_rfl) res54_ok rfl rfl rfl ?_; simp (maxSteps := 9999999) (disch := omega) only [go_sem]
  (repeat' (first | refine AWpA.seq ?_ | refine AWpA.block ?_ | (with_reducible refine CondP.tt ?_) | (with_reducible refine CondP.ff ?_) | refine AWpA.condv (by simp (maxSteps := 9999999) (disch := omega) only [go_sem]; rfl) ?_ | ((first | (apply AWpA.region; (focus (simp (maxSteps := 9999999) (disch := omega) only [go_sem]; rfl))) | (apply AWpA.draw [0] follows; (focus (simp (maxSteps := 9999999) (disch := omega) only [go_sem]; rfl)); (focus (simp (maxSteps := 9999999) (disch := omega) only [go_sem]; first | done | trivial)); (focus (simp (maxSteps := 9999999) (disch := omega) only [go_sem]; rfl))) | (apply TailK.go; (focus (simp (maxSteps := 9999999) (disch := omega) only [go_sem]; rfl))) | refine AWpA.skip ?_ | refine AWpA.exit ?_ | refine AWpA.ret ?_ | (with_reducible refine ARoundsA.succ ?_) | ((first | refine Runs.kt (by assumption) (fun h9 => ?_) | refine Runs.kf (by assumption) (fun h9 => ?_) | refine Runs.nt (by assumption) (fun h9 => ?_) | refine Runs.nf (by assumption) (fun h9 => ?_) | refine CondP.ht (by assumption) (fun h9 => ?_) | refine CondP.hf (by assumption) (fun h9 => ?_) | refine CondP.nt (by assumption) (fun h9 => ?_) | refine CondP.nf (by assumption) (fun h9 => ?_)); (try simp only [h9]); clear h9) | ((first | (with_reducible apply CallG.plain1 [] (c1)) | (with_reducible apply CallG.draw1 [] (c1))); (focus ((try refine And.intro (leAs_of_eq rfl) ?_); (try refine And.intro (leOL_of_eq rfl) ?_); simp (maxSteps := 9999999) (disch := omega) only [go_sem]; first | done | (repeat' (first | rfl | (refine And.intro ?_ ?_))))); (focus (simp (maxSteps := 9999999) (disch := omega) only [go_sem]; rfl))) | ((first | (with_reducible apply CallG.plain1 [0] (c2)) | (with_reducible apply CallG.draw1 [0] (c2))); (focus ((try refine And.intro (leAs_of_eq rfl) ?_); (try refine And.intro (leOL_of_eq rfl) ?_); simp (maxSteps := 9999999) (disch := omega) only [go_sem]; first | done | (repeat' (first | rfl | (refine And.intro ?_ ?_))))); (focus (simp (maxSteps := 9999999) (disch := omega) only [go_sem]; rfl)))); (try simp (maxSteps := 9999999) (disch := omega) only [go_sem]); (try (refine And.intro ?_ ?_; (focus (first | omega | (simp only [go_sem]; done) | (simp; done) | (simp; omega) | assumption))))) | ((first | refine CondP.split (fun hif => ?_) (fun hif => ?_) | refine Runs.part (fun hif => ?_) (fun hif => ?_)) <;> ((try simp only [hif]); (try simp only [decide_eq_true_eq, decide_eq_false_iff_not, Bool.not_eq_true, Bool.not_eq_false, Bool.not_eq_true', Bool.not_eq_false', beq_iff_eq, bne_iff_ne, bne_eq_false_iff_eq, beq_eq_false_iff_ne, ne_eq, Bool.and_eq_true, Bool.or_eq_true, Bool.or_eq_false_iff] at hif); (try (have h9 : _ = true := hif; simp only [h9])); (try (have h9 : _ = false := hif; simp only [h9])); (try simp (maxSteps := 9999999) (disch := omega) only [go_sem]); (try (refine And.intro ?_ ?_; (focus (first | omega | (simp only [go_sem]; done) | (simp; done) | (simp; omega) | assumption)))); (try (exfalso; omega; done))))))
  (apply Ret.det [0]; (focus (first | exact .inl rfl | exact .inr rfl)); (focus (simp (maxSteps := 9999999) (disch := omega) only [go_sem]; rfl)); (simp (maxSteps := 9999999) (disch := omega) only [go_sem]; (try (repeat' (first | done | trivial | rfl | exact leAs_rfl _ | decide | (refine And.intro ?_ ?_) | (simp; done) | omega | (simp; decide))))))
theorem sdrop_any (S : Int) (e : En) : ACall Try.prog 51 [.ptr 0 0, EnA e] [.cells false [U64 (w64 S)]] (Det (U64 (w64 (S - hashE e))) [.cells false [U64 (w64 (S - hashE e))]]) := by
  have c1 := hash_any e
  have c2 := uadd_any (w64 S) (IntKind.u64.wrap (0 - hashE e)) []
  rw [w64_neg] at c2
  generalize hashE e = h at *
  refine ACall.startA c51_ok Try.func51 rfl Try.ntmps51 (by kernel_rfl) res51_ok rfl rfl rfl ?_; simp (maxSteps := 9999999) (disch := omega) only [go_sem]
  (repeat' (first | refine AWpA.seq ?_ | refine AWpA.block ?_ | (with_reducible refine CondP.tt ?_) | (with_reducible refine CondP.ff ?_) | refine AWpA.condv (by simp (maxSteps := 9999999) (disch := omega) only [go_sem]; rfl) ?_ | ((first | (apply AWpA.region; (focus (simp (maxSteps := 9999999) (disch := omega) only [go_sem]; rfl))) | (apply AWpA.draw [0] follows; (focus (simp (maxSteps := 9999999) (disch := omega) only [go_sem]; rfl)); (focus (simp (maxSteps := 9999999) (disch := omega) only [go_sem]; first | done | trivial)); (focus (simp (maxSteps := 9999999) (disch := omega) only [go_sem]; rfl))) | (apply TailK.go; (focus (simp (maxSteps := 9999999) (disch := omega) only [go_sem]; rfl))) | refine AWpA.skip ?_ | refine AWpA.exit ?_ | refine AWpA.ret ?_ | (with_reducible refine ARoundsA.succ ?_) | ((first | refine Runs.kt (by assumption) (fun h9 => ?_) | refine Runs.kf (by assumption) (fun h9 => ?_) | refine Runs.nt (by assumption) (fun h9 => ?_) | refine Runs.nf (by assumption) (fun h9 => ?_) | refine CondP.ht (by assumption) (fun h9 => ?_) | refine CondP.hf (by assumption) (fun h9 => ?_) | refine CondP.nt (by assumption) (fun h9 => ?_) | refine CondP.nf (by assumption) (fun h9 => ?_)); (try simp only [h9]); clear h9) | ((first | (with_reducible apply CallG.plain1 [] (c1)) | (with_reducible apply CallG.draw1 [] (c1))); (focus ((try refine And.intro (leAs_of_eq rfl) ?_); (try refine And.intro (leOL_of_eq rfl) ?_); simp (maxSteps := 9999999) (disch := omega) only [go_sem]; first | done | (repeat' (first | rfl | (refine And.intro ?_ ?_))))); (focus (simp (maxSteps := 9999999) (disch := omega) only [go_sem]; rfl))) | ((first | (with_reducible apply CallG.plain1 [0] (c2)) | (with_reducible apply CallG.draw1 [0] (c2))); (focus ((try refine And.intro (leAs_of_eq rfl) ?_); (try refine And.intro (leOL_of_eq rfl) ?_); simp (maxSteps := 9999999) (disch := omega) only [go_sem]; first | done | (repeat' (first | rfl | (refine And.intro ?_ ?_))))); (focus (simp (maxSteps := 9999999) (disch := omega) only [go_sem]; rfl)))); (try simp (maxSteps := 9999999) (disch := omega) only [go_sem]); (try (refine And.intro ?_ ?_; (focus (first | omega | (simp only [go_sem]; done) | (simp; done) | (simp; omega) | assumption))))) | ((first | refine CondP.split (fun hif => ?_) (fun hif => ?_) | refine Runs.part (fun hif => ?_) (fun hif => ?_)) <;> ((try simp only [hif]); (try simp only [decide_eq_true_eq, decide_eq_false_iff_not, Bool.not_eq_true, Bool.not_eq_false, Bool.not_eq_true', Bool.not_eq_false', beq_iff_eq, bne_iff_ne, bne_eq_false_iff_eq, beq_eq_false_iff_ne, ne_eq, Bool.and_eq_true, Bool.or_eq_true, Bool.or_eq_false_iff] at hif); (try (have h9 : _ = true := hif; simp only [h9])); (try (have h9 : _ = false := hif; simp only [h9])); (try simp (maxSteps := 9999999) (disch := omega) only [go_sem]); (try (refine And.intro ?_ ?_; (focus (first | omega | (simp only [go_sem]; done) | (simp; done) | (simp; omega) | assumption)))); (try (exfalso; omega; done))))))
  (apply Ret.det [0]; (focus (first | exact .inl rfl | exact .inr rfl)); (focus (simp (maxSteps := 9999999) (disch := omega) only [go_sem]; rfl)); (simp (maxSteps := 9999999) (disch := omega) only [go_sem]; (try (repeat' (first | done | trivial | rfl | exact leAs_rfl _ | decide | (refine And.intro ?_ ?_) | (simp; done) | omega | (simp; decide))))))
theorem sturn_any (S : Int) (a b : En) : ACall Try.prog 53 [.ptr 0 0, EnA a, EnA b] [.cells false [U64 (w64 S)]] (Det (U64 (w64 (S - hashE a + hashE b))) [.cells false [U64 (w64 (S - hashE a + hashE b))]]) := by
  have c1 := sdrop_any S a
  have c2 := sadd_any (S - hashE a) b
  generalize hashE a = h at *
  generalize hashE b = h' at *
  refine ACall.startA c53_ok Try.func53 rfl Try.ntmps53 (by kernel_rfl) res53_ok rfl rfl rfl ?_; simp (maxSteps := 9999999) (disch := omega) only [go_sem]
  (repeat' (first | refine AWpA.seq ?_ | refine AWpA.block ?_ | (with_reducible refine CondP.tt ?_) | (with_reducible refine CondP.ff ?_) | refine AWpA.condv (by simp (maxSteps := 9999999) (disch := omega) only [go_sem]; rfl) ?_ | ((first | (apply AWpA.region; (focus (simp (maxSteps := 9999999) (disch := omega) only [go_sem]; rfl))) | (apply AWpA.draw [] follows; (focus (simp (maxSteps := 9999999) (disch := omega) only [go_sem]; rfl)); (focus (simp (maxSteps := 9999999) (disch := omega) only [go_sem]; first | done | trivial)); (focus (simp (maxSteps := 9999999) (disch := omega) only [go_sem]; rfl))) | (apply TailK.go; (focus (simp (maxSteps := 9999999) (disch := omega) only [go_sem]; rfl))) | refine AWpA.skip ?_ | refine AWpA.exit ?_ | refine AWpA.ret ?_ | (with_reducible refine ARoundsA.succ ?_) | ((first | refine Runs.kt (by assumption) (fun h9 => ?_) | refine Runs.kf (by assumption) (fun h9 => ?_) | refine Runs.nt (by assumption) (fun h9 => ?_) | refine Runs.nf (by assumption) (fun h9 => ?_) | refine CondP.ht (by assumption) (fun h9 => ?_) | refine CondP.hf (by assumption) (fun h9 => ?_) | refine CondP.nt (by assumption) (fun h9 => ?_) | refine CondP.nf (by assumption) (fun h9 => ?_)); (try simp only [h9]); clear h9) | ((first | (with_reducible apply CallG.plain1 [0] (c1)) | (with_reducible apply CallG.draw1 [0] (c1))); (focus ((try refine And.intro (leAs_of_eq rfl) ?_); (try refine And.intro (leOL_of_eq rfl) ?_); simp (maxSteps := 9999999) (disch := omega) only [go_sem]; first | done | (repeat' (first | rfl | (refine And.intro ?_ ?_))))); (focus (simp (maxSteps := 9999999) (disch := omega) only [go_sem]; rfl))) | ((first | (with_reducible apply CallG.plain1 [0] (c2)) | (with_reducible apply CallG.draw1 [0] (c2))); (focus ((try refine And.intro (leAs_of_eq rfl) ?_); (try refine And.intro (leOL_of_eq rfl) ?_); simp (maxSteps := 9999999) (disch := omega) only [go_sem]; first | done | (repeat' (first | rfl | (refine And.intro ?_ ?_))))); (focus (simp (maxSteps := 9999999) (disch := omega) only [go_sem]; rfl)))); (try simp (maxSteps := 9999999) (disch := omega) only [go_sem]); (try (refine And.intro ?_ ?_; (focus (first | omega | (simp only [go_sem]; done) | (simp; done) | (simp; omega) | assumption))))) | ((first | refine CondP.split (fun hif => ?_) (fun hif => ?_) | refine Runs.part (fun hif => ?_) (fun hif => ?_)) <;> ((try simp only [hif]); (try simp only [decide_eq_true_eq, decide_eq_false_iff_not, Bool.not_eq_true, Bool.not_eq_false, Bool.not_eq_true', Bool.not_eq_false', beq_iff_eq, bne_iff_ne, bne_eq_false_iff_eq, beq_eq_false_iff_ne, ne_eq, Bool.and_eq_true, Bool.or_eq_true, Bool.or_eq_false_iff] at hif); (try (have h9 : _ = true := hif; simp only [h9])); (try (have h9 : _ = false := hif; simp only [h9])); (try simp (maxSteps := 9999999) (disch := omega) only [go_sem]); (try (refine And.intro ?_ ?_; (focus (first | omega | (simp only [go_sem]; done) | (simp; done) | (simp; omega) | assumption)))); (try (exfalso; omega; done))))))
  (apply Ret.det [0]; (focus (first | exact .inl rfl | exact .inr rfl)); (focus (simp (maxSteps := 9999999) (disch := omega) only [go_sem]; rfl)); (simp (maxSteps := 9999999) (disch := omega) only [go_sem]; (try (repeat' (first | done | trivial | rfl | exact leAs_rfl _ | decide | (refine And.intro ?_ ?_) | (simp; done) | omega | (simp; decide))))))
theorem svalue_any (S : Int) : ACall Try.prog 55 [.ptr 0 0] [.cells true [U64 (w64 S)]] (Det (U64 (w64 S)) [.cells true [U64 (w64 S)]]) := by
  have c1 := uload_any (w64 S) []
  refine ACall.startA c55_ok Try.func55 rfl Try.ntmps55 (by kernel_rfl) res55_ok rfl rfl rfl ?_; simp (maxSteps := 9999999) (disch := omega) only [go_sem]
  (repeat' (first | refine AWpA.seq ?_ | refine AWpA.block ?_ | (with_reducible refine CondP.tt ?_) | (with_reducible refine CondP.ff ?_) | refine AWpA.condv (by simp (maxSteps := 9999999) (disch := omega) only [go_sem]; rfl) ?_ | ((first | (apply AWpA.region; (focus (simp (maxSteps := 9999999) (disch := omega) only [go_sem]; rfl))) | (apply AWpA.draw [] follows; (focus (simp (maxSteps := 9999999) (disch := omega) only [go_sem]; rfl)); (focus (simp (maxSteps := 9999999) (disch := omega) only [go_sem]; first | done | trivial)); (focus (simp (maxSteps := 9999999) (disch := omega) only [go_sem]; rfl))) | (apply TailK.go; (focus (simp (maxSteps := 9999999) (disch := omega) only [go_sem]; rfl))) | refine AWpA.skip ?_ | refine AWpA.exit ?_ | refine AWpA.ret ?_ | (with_reducible refine ARoundsA.succ ?_) | ((first | refine Runs.kt (by assumption) (fun h9 => ?_) | refine Runs.kf (by assumption) (fun h9 => ?_) | refine Runs.nt (by assumption) (fun h9 => ?_) | refine Runs.nf (by assumption) (fun h9 => ?_) | refine CondP.ht (by assumption) (fun h9 => ?_) | refine CondP.hf (by assumption) (fun h9 => ?_) | refine CondP.nt (by assumption) (fun h9 => ?_) | refine CondP.nf (by assumption) (fun h9 => ?_)); (try simp only [h9]); clear h9) | ((first | (with_reducible apply CallG.plain1 [0] (c1)) | (with_reducible apply CallG.draw1 [0] (c1))); (focus ((try refine And.intro (leAs_of_eq rfl) ?_); (try refine And.intro (leOL_of_eq rfl) ?_); simp (maxSteps := 9999999) (disch := omega) only [go_sem]; first | done | (repeat' (first | rfl | (refine And.intro ?_ ?_))))); (focus (simp (maxSteps := 9999999) (disch := omega) only [go_sem]; rfl)))); (try simp (maxSteps := 9999999) (disch := omega) only [go_sem]); (try (refine And.intro ?_ ?_; (focus (first | omega | (simp only [go_sem]; done) | (simp; done) | (simp; omega) | assumption))))) | ((first | refine CondP.split (fun hif => ?_) (fun hif => ?_) | refine Runs.part (fun hif => ?_) (fun hif => ?_)) <;> ((try simp only [hif]); (try simp only [decide_eq_true_eq, decide_eq_false_iff_not, Bool.not_eq_true, Bool.not_eq_false, Bool.not_eq_true', Bool.not_eq_false', beq_iff_eq, bne_iff_ne, bne_eq_false_iff_eq, beq_eq_false_iff_ne, ne_eq, Bool.and_eq_true, Bool.or_eq_true, Bool.or_eq_false_iff] at hif); (try (have h9 : _ = true := hif; simp only [h9])); (try (have h9 : _ = false := hif; simp only [h9])); (try simp (maxSteps := 9999999) (disch := omega) only [go_sem]); (try (refine And.intro ?_ ?_; (focus (first | omega | (simp only [go_sem]; done) | (simp; done) | (simp; omega) | assumption)))); (try (exfalso; omega; done))))))
  (apply Ret.det [0]; (focus (first | exact .inl rfl | exact .inr rfl)); (focus (simp (maxSteps := 9999999) (disch := omega) only [go_sem]; rfl)); (simp (maxSteps := 9999999) (disch := omega) only [go_sem]; (try (repeat' (first | done | trivial | rfl | exact leAs_rfl _ | decide | (refine And.intro ?_ ?_) | (simp; done) | omega | (simp; decide))))))
end Go.Proofs.Ytkdikmfnchmphaa
