/- Contracts: numbers, marks and lists are put. -/
import Derived.Test.YtopidfkmligljaaGreatWq2
namespace Go.Proofs.YtopidfkmligljaaGreat
noncomputable section
set_option linter.unusedSimpArgs false
set_option linter.unusedVariables false
set_option maxHeartbeats 4000000
open Go Go.Am Go.RowKit
set_option maxRecDepth 100000
set_option maxHeartbeats 8000000
/- quidnunc/wire.layNode -/
def c88_0 : ACode := .region false [⟨some 4, .move, [.t 0], none⟩,
  ⟨some 5, .move, [.t 1], none⟩,
  ⟨some 6, .conv .u64, [.t 5], none⟩,
  ⟨some 7, .call 95, [.t 4, .t 6, .c (.val (.int .i64 1))], none⟩] [] [] [] true [] []
def code88 : Code := (Tryz.f88.body).getD .skip
theorem c88_ok : compC Tryz.prog 8 code88 = some (strip c88_0) := by kernel_rfl
theorem res88_ok : Tryz.f88.results.toList.mapM (resC Tryz.prog) = some [] := by kernel_rfl
/- quidnunc/wire.layMark -/
def c98_1 : ACode := .region false [⟨some 3, .box 0, [.t 1], none⟩] [] [] [0, 3] true [] []
def c98_2 : ACode := .region true [⟨some 4, .move, [.t 0], none⟩,
  ⟨some 5, .addr 0, [.t 3], none⟩,
  ⟨some 6, .addr 0, [.t 5], none⟩,
  ⟨some 7, .load false 1, [.t 6], none⟩,
  ⟨some 8, .conv .u64, [.t 7], none⟩,
  ⟨some 9, .call 95, [.t 4, .t 8, .c (.val (.int .i64 4))], none⟩,
  ⟨some 10, .addr 0, [.t 3], none⟩,
  ⟨some 11, .addr 1, [.t 10], none⟩,
  ⟨some 12, .load false 1, [.t 11], none⟩,
  ⟨some 13, .conv .u64, [.t 12], none⟩,
  ⟨some 14, .call 95, [.t 9, .t 13, .c (.val (.int .i64 1))], none⟩,
  ⟨some 15, .addr 2, [.t 3], none⟩,
  ⟨some 16, .load false 1, [.t 15], none⟩,
  ⟨some 17, .call 135, [.t 14, .t 16], none⟩] [] [] [] true [] []
def c98_0 : ACode := .seq c98_1 c98_2
def code98 : Code := (Tryz.f98.body).getD .skip
theorem c98_ok : compC Tryz.prog 18 code98 = some (strip c98_0) := by kernel_rfl
theorem res98_ok : Tryz.f98.results.toList.mapM (resC Tryz.prog) = some [] := by kernel_rfl
theorem laynode_any (n : Int) (hn : fitsI n 1 = true ∧ 0 ≤ n) (l : List Int) (hl : l.length ≤ 100000) : ACall Tryz.prog 88 [.ptr 0 0, I n] [WrO 1 l.length 0, .cells false (bA l)] (Det (.tup []) [WrO 2 (l ++ leI n 1).length 0, .gone, .cells false (bA (l ++ leI n 1))]) := by
  have h256 : n < 256 := by
    have h1 := hn.1
    rw [show (1 : Int) = ((1 : Nat) : Int) from rfl, fitsI_eq] at h1
    simp only [beq_iff_eq] at h1
    have := hn.2
    omega
  have h0 := hn.2
  have c := number_any l (by omega) 0 n 1 (by omega)
  have h := numL_ok (v := n) (k := 1) (by decide) (by decide) h0 (by omega) l
  rw [show ((1 : Nat) : Int) = 1 from rfl] at h
  rw [h.1, h.2] at c
  generalize l ++ leI n 1 = l2 at *
  clear h hn
  refine ACall.startA c88_ok Tryz.func88 rfl Tryz.ntmps88 (by kernel_rfl) res88_ok rfl rfl rfl ?_; simp (maxSteps := 9999999) (disch := omega) only [go_sem]
  (have k9 := k0; have a1 := Arm.mk [0, 1] c; refine goK ?_; (try clear k9); (try clear a1))
  (have k9 := k0; exact Ret.dk [0, 1, _])
theorem laymark_any (m : Mk) (hm : mkF m) (l : List Int) (hl : l.length ≤ 100000) : ACall Tryz.prog 98 [.ptr 0 0, MkG m] [WrO 1 l.length 0, .cells false (bA l)] (Det (.tup []) [WrO 2 (l ++ mkB m).length 0, .gone, .cells false (bA (l ++ mkB m))]) := by
  obtain ⟨⟨m1, m2⟩, ⟨m3, m4⟩, m5⟩ := hm
  have hB : l ++ mkB m = l ++ leI m.act.c 4 ++ leI m.act.s 1 ++ ((m.key.size : Int) :: txI m.key) := by simp only [mkB, txB, List.append_assoc]
  rw [hB]
  clear hB
  obtain ⟨⟨ac, ax⟩, key⟩ := m
  simp only at *
  have b4 : ac < 4294967296 := by
    rw [show (4 : Int) = ((4 : Nat) : Int) from rfl, fitsI_eq] at m1
    simp only [beq_iff_eq] at m1
    omega
  have b1 : ax < 256 := by
    rw [show (1 : Int) = ((1 : Nat) : Int) from rfl, fitsI_eq] at m3
    simp only [beq_iff_eq] at m3
    omega
  have c1 := number_any l (by omega) 0 ac 4 (by omega)
  have h1 := numL_ok (v := ac) (k := 4) (by decide) (by decide) (by omega) (by omega) l
  rw [show ((4 : Nat) : Int) = 4 from rfl] at h1
  rw [h1.1, h1.2] at c1
  obtain ⟨l1, q1⟩ : ∃ x, l ++ leI ac 4 = x := ⟨_, rfl⟩
  rw [q1] at c1 ⊢
  have n1 : l1.length = l.length + 4 := by rw [← q1]; simp [leI_len]
  have c2 := number_any l1 (by omega) 0 ax 1 (by omega)
  have h2 := numL_ok (v := ax) (k := 1) (by decide) (by decide) (by omega) (by omega) l1
  rw [show ((1 : Nat) : Int) = 1 from rfl] at h2
  rw [h2.1, h2.2] at c2
  obtain ⟨l2, q2⟩ : ∃ x, l1 ++ leI ax 1 = x := ⟨_, rfl⟩
  rw [q2] at c2 ⊢
  have n2 : l2.length = l1.length + 1 := by rw [← q2]; simp [leI_len]
  have c3 := text_any l2 (by omega) 0 key
  rw [(textL_ok (by omega) l2).1, (textL_ok (by omega) l2).2] at c3
  generalize l2 ++ ((key.size : Int) :: txI key) = l3 at *
  clear q1 q2 h1 h2 n1 n2 m1 m3 m5
  refine ACall.startA c98_ok Tryz.func98 rfl Tryz.ntmps98 (by kernel_rfl) res98_ok rfl rfl rfl ?_; simp (maxSteps := 9999999) (disch := omega) only [go_sem]
  (have k9 := k0; (repeat' (first | refine AWpA.seq ?_ | refine AWpA.block ?_ | (with_reducible refine CondP.tt ?_) | (with_reducible refine CondP.ff ?_) | refine AWpA.cg ?_ | ((first | refine AWpA.rg ?_ | refine AWpA.dg [0, 1] [] follows ?_ | refine TailK.tg ?_ | refine AWpA.skip ?_ | refine AWpA.exit ?_ | refine AWpA.ret ?_ | (with_reducible refine ARoundsA.succ ?_) | ((first | refine Runs.gkt (fun h9 => ?_) | refine Runs.gkf (fun h9 => ?_) | refine Runs.gnt (fun h9 => ?_) | refine Runs.gnf (fun h9 => ?_) | refine CondP.gt (fun h9 => ?_) | refine CondP.gf (fun h9 => ?_) | refine CondP.gnt (fun h9 => ?_) | refine CondP.gnf (fun h9 => ?_)); (try simp only [h9]); clear h9) | refine CallG.pg [0, 1] (c1) ?_ | refine CallG.pg [0, 98] (c2) ?_ | refine CallG.pg [0, 178] (c3) ?_ | refine CallG.dg [0, 1] (c1) ?_ | refine CallG.dg [0, 98] (c2) ?_ | refine CallG.dg [0, 178] (c3) ?_); (try simp (maxSteps := 9999999) (disch := omega) only [go_sem, k9]); (try refine cnd ?_)) | ((first | refine CondP.split (fun hif => ?_) (fun hif => ?_) | refine Runs.part (fun hif => ?_) (fun hif => ?_)) <;> ((try simp only [hif]); (try simp only [BL] at hif); (try (have h9 : _ = true := hif; simp only [h9])); (try (have h9 : _ = false := hif; simp only [h9])); (try simp (maxSteps := 9999999) (disch := omega) only [go_sem, k9]); (try refine cnd ?_); (try (exfalso; omega; done)))))); (all_goals (try clear k9)))
  all_goals (apply Ret.det [0, 1, _]; (focus (first | exact .inl rfl | exact .inr rfl)); (focus (simp (maxSteps := 9999999) (disch := omega) only [go_sem]; rfl)); (simp (maxSteps := 9999999) (disch := omega) only [go_sem]; (try (repeat' (first | done | trivial | rfl | exact leAs_rfl _ | decide | (refine And.intro ?_ ?_) | (simp; done) | omega | (simp; decide))))))
/- quidnunc/wire.layAll[int] -/
def c93_1 : ACode := .region false [⟨some 8, .move, [.t 0], none⟩,
  ⟨some 9, .move, [.t 1], none⟩,
  ⟨some 10, .len, [.t 9], none⟩,
  ⟨some 11, .conv .u64, [.t 10], none⟩,
  ⟨some 12, .call 95, [.t 8, .t 11, .c (.val (.int .i64 1))], none⟩] [] [] [0, 1, 2] true [] []
def c93_3 : ACode := .region false [⟨some 13, .move, [.t 1], none⟩,
  ⟨some 14, .len, [.t 13], none⟩,
  ⟨some 15, .move, [.c (.val (.int .i64 0))], none⟩] [] [] [0, 2, 13, 14, 15] false [] []
def c93_7 : ACode := .region false [⟨some 16, .bin .lss, [.t 15, .t 14], none⟩] [] [] [0, 2, 13, 14, 15, 16] false [] []
def c93_9 : ACode := .cond (.t 16) .skip (.exit 0)
def c93_13 : ACode := .region false [⟨some 17, .ixS 1, [.t 13, .t 15], none⟩,
  ⟨some 18, .load false 1, [.t 17], none⟩,
  ⟨some 7, .move, [.t 18], none⟩] [] [] [0, 2, 7, 13, 14, 15] false [] []
def c93_14 : ACode := .region false [⟨some 19, .move, [.t 2], none⟩,
  ⟨some 20, .move, [.t 0], none⟩,
  ⟨some 21, .move, [.t 7], none⟩,
  ⟨some 22, .callv, [.t 19, .t 20, .t 21], none⟩] [] [] [0, 2, 13, 14, 15] true [] []
def c93_12 : ACode := .seq c93_13 c93_14
def c93_11 : ACode := .block 1 c93_12
def c93_15 : ACode := .region false [⟨some 23, .bin .add, [.t 15, .c (.val (.int .i64 1))], none⟩,
  ⟨some 15, .move, [.t 23], none⟩] [] [] [0, 2, 13, 14, 15] false [] []
def c93_10 : ACode := .seq c93_11 c93_15
def c93_8 : ACode := .seq c93_9 c93_10
def c93_6 : ACode := .seq c93_7 c93_8
def c93_5 : ACode := .loop c93_6
def c93_4 : ACode := .block 0 c93_5
def c93_2 : ACode := .seq c93_3 c93_4
def c93_0 : ACode := .seq c93_1 c93_2
def code93 : Code := (Tryz.f93.body).getD .skip
theorem c93_ok : compC Tryz.prog 24 code93 = some (strip c93_0) := by kernel_rfl
theorem res93_ok : Tryz.f93.results.toList.mapM (resC Tryz.prog) = some [] := by kernel_rfl
theorem layalli_any {F : Nat} {enc : Int → List Int} (off : Nat) (q : List Int) (hq : q.length ≤ 8) (he : ∀ x ∈ q, (enc x).length ≤ 100)
    (hp : ∀ x ∈ q, ∀ l' : List Int, l'.length ≤ 100000 → ACall Tryz.prog F [.ptr 0 0, I x] [WrO 1 l'.length 0, .cells false (bA l')] (Det (.tup []) [WrO 2 (l' ++ enc x).length 0, .gone, .cells false (bA (l' ++ enc x))])) (l : List Int) (hl : l.length ≤ 10000) :
    ACall Tryz.prog 93 [.ptr 0 0, .sl 2 off q.length 1 none, .fn F [] []] [WrO 1 l.length 0, .cells false (bA l), .cells true (Ri off q)] (Det (.tup []) [WrO 3 (l ++ lsB enc q).length 0, .gone, .cells true (Ri off q), .cells false (bA (l ++ lsB enc q))]) := by
  have hr := ri_ren
  have hL := ri_len off q
  have c0 := number_any l (by omega) 0 (q.length : Int) 1 (by omega)
  have h := numL_ok (v := (q.length : Int)) (k := 1) (by decide) (by decide) (by omega) (by omega) l
  rw [show ((1 : Nat) : Int) = 1 from rfl] at h
  rw [h.1, h.2] at c0
  have hw : IntKind.u64.wrap (q.length : Int) = (q.length : Int) := wrap_u64 (by omega) (by omega)
  have hB : l ++ lsB enc q = (l ++ leI (q.length : Int) 1) ++ q.flatMap enc := by unfold lsB; rw [List.append_assoc]
  rw [hB]
  clear hB h
  have hlen : (l ++ leI (q.length : Int) 1).length = l.length + 1 := by rw [List.length_append, leI_len]
  generalize l ++ leI (q.length : Int) 1 = B at *
  refine ACall.startA c93_ok Tryz.func93 rfl Tryz.ntmps93 (by kernel_rfl) res93_ok rfl rfl rfl ?_; simp (maxSteps := 9999999) (disch := omega) only [go_sem]
  (have k9 := And.intro @hr (And.intro @hw (k0)); have a1 := Arm.mk [0, 1] c0; refine goK ?_; (try clear k9); (try clear a1))
  (apply AWpA.loopL (fun i : Nat => [(0, .ptr 0 0), (2, .fn F [] []), (13, .sl 2 off q.length 1 none), (14, I q.length), (15, I i)]) (fun i => [WrO 3 (B ++ (q.take i).flatMap enc).length 0, .gone, .cells true (Ri off q), .cells false (bA (B ++ (q.take i).flatMap enc))]) (fun i => q.length - i) (fun i => i ≤ q.length) (0) [0, 1, 2, 67]; rotate_left; (focus (simp (maxSteps := 9999999) (disch := omega) only [go_sem, hr, List.take_zero, List.flatMap_nil, List.append_nil, bA_ren]; (try (repeat' (first | done | trivial | rfl | exact leAs_rfl _ | decide | (refine And.intro ?_ ?_) | (simp; done) | omega | (simp; decide)))))); rotate_right)
  · exact Nat.zero_le _
  rintro i hi
  (try simp only at hi)
  by_cases hin : i < q.length
  · have g1 : ((i : Int) < (q.length : Int)) = True := eq_true (by omega)
    have hat := ri_at off q i hin
    have hfl : ((q.take i).flatMap enc).length ≤ 800 := by
      have := flat_len (enc := enc) (n := 100) (l := q.take i) fun x hx => he x (List.mem_of_mem_take hx)
      rw [List.length_take] at this
      have h8 : min i q.length ≤ 8 := by omega
      have := Nat.mul_le_mul_right 100 h8
      omega
    have hput : (q.take (i + 1)).flatMap enc = (q.take i).flatMap enc ++ enc q[i] := by rw [take_snoc q hin, List.flatMap_append, List.flatMap_singleton]
    have hx := hp _ (List.getElem_mem hin) (B ++ (q.take i).flatMap enc) (by rw [List.length_append]; omega)
    have hB2 : B ++ (q.take (i + 1)).flatMap enc = B ++ (q.take i).flatMap enc ++ enc q[i] := by rw [hput, List.append_assoc]
    clear hp he hput hfl
    generalize B ++ (q.take i).flatMap enc = C at *
    generalize q[i] = x at *
    have hB3 := congrArg List.length hB2
    rw [List.length_append, List.length_append] at hB3
    (try simp (maxSteps := 9999999) (disch := omega) only [go_sem])
    (have k9 := And.intro @hr (And.intro @hL (And.intro @g1 (And.intro @hat (k0)))); have a1 := Arm.mk [0, 3] hx; refine goK ?_; (try clear k9); (try clear a1))
    (have k9 := And.intro @hr (And.intro @hB2 (And.intro @hB3 (And.intro @bA_ren (k0)))); refine Back.tk (i + 1) [0, 1, 2, 116] ?_)
    omega
  · obtain rfl : i = q.length := by omega
    have g1 : ((q.length : Int) < (q.length : Int)) = False := eq_false (by omega)
    rw [List.take_length]
    clear hp he
    have hC : (B ++ q.flatMap enc).length = B.length + (q.flatMap enc).length := List.length_append
    generalize B ++ q.flatMap enc = C at *
    (try simp (maxSteps := 9999999) (disch := omega) only [go_sem])
    (have k9 := And.intro @hr (And.intro @g1 (k0)); refine goK ?_; (try clear k9))
    (have k9 := And.intro @hr (And.intro @hC (And.intro @bA_ren (k0))); exact Ret.dk [0, 1, 2, 3])
/- quidnunc/wire.layAll[quidnunc/api.Mark] -/
def c100_1 : ACode := .region false [⟨some 8, .move, [.t 0], none⟩,
  ⟨some 9, .move, [.t 1], none⟩,
  ⟨some 10, .len, [.t 9], none⟩,
  ⟨some 11, .conv .u64, [.t 10], none⟩,
  ⟨some 12, .call 95, [.t 8, .t 11, .c (.val (.int .i64 1))], none⟩] [] [] [0, 1, 2] true [] []
def c100_3 : ACode := .region false [⟨some 13, .move, [.t 1], none⟩,
  ⟨some 14, .len, [.t 13], none⟩,
  ⟨some 15, .move, [.c (.val (.int .i64 0))], none⟩] [] [] [0, 2, 13, 14, 15] false [] []
def c100_7 : ACode := .region false [⟨some 16, .bin .lss, [.t 15, .t 14], none⟩] [] [] [0, 2, 13, 14, 15, 16] false [] []
def c100_9 : ACode := .cond (.t 16) .skip (.exit 0)
def c100_13 : ACode := .region false [⟨some 17, .ixS 3, [.t 13, .t 15], none⟩,
  ⟨some 18, .load true 3, [.t 17], none⟩,
  ⟨some 7, .alloc [(.int .i64 0), (.int .i64 0), (.string ⟨#[]⟩)], [], none⟩,
  ⟨none, .store 3, [.t 7, .t 18], none⟩] [] [] [0, 2, 7, 13, 14, 15] true [] []
def c100_14 : ACode := .region false [⟨some 19, .move, [.t 2], none⟩,
  ⟨some 20, .move, [.t 0], none⟩,
  ⟨some 21, .load true 3, [.t 7], none⟩,
  ⟨some 22, .callv, [.t 19, .t 20, .t 21], none⟩] [] [] [0, 2, 13, 14, 15] true [] []
def c100_12 : ACode := .seq c100_13 c100_14
def c100_11 : ACode := .block 1 c100_12
def c100_15 : ACode := .region false [⟨some 23, .bin .add, [.t 15, .c (.val (.int .i64 1))], none⟩,
  ⟨some 15, .move, [.t 23], none⟩] [] [] [0, 2, 13, 14, 15] false [] []
def c100_10 : ACode := .seq c100_11 c100_15
def c100_8 : ACode := .seq c100_9 c100_10
def c100_6 : ACode := .seq c100_7 c100_8
def c100_5 : ACode := .loop c100_6
def c100_4 : ACode := .block 0 c100_5
def c100_2 : ACode := .seq c100_3 c100_4
def c100_0 : ACode := .seq c100_1 c100_2
def code100 : Code := (Tryz.f100.body).getD .skip
theorem c100_ok : compC Tryz.prog 24 code100 = some (strip c100_0) := by kernel_rfl
theorem res100_ok : Tryz.f100.results.toList.mapM (resC Tryz.prog) = some [] := by kernel_rfl
theorem layallm_any {F : Nat} {enc : Mk → List Int} (off : Nat) (q : List Mk) (hq : q.length ≤ 8) (he : ∀ x ∈ q, (enc x).length ≤ 100)
    (hp : ∀ x ∈ q, ∀ l' : List Int, l'.length ≤ 100000 → ACall Tryz.prog F [.ptr 0 0, MkG x] [WrO 1 l'.length 0, .cells false (bA l')] (Det (.tup []) [WrO 2 (l' ++ enc x).length 0, .gone, .cells false (bA (l' ++ enc x))])) (l : List Int) (hl : l.length ≤ 10000) :
    ACall Tryz.prog 100 [.ptr 0 0, .sl 2 off q.length 3 none, .fn F [] []] [WrO 1 l.length 0, .cells false (bA l), .cells true (Rm off q)] (Det (.tup []) [WrO 3 (l ++ lsB enc q).length 0, .gone, .cells true (Rm off q), .cells false (bA (l ++ lsB enc q))]) := by
  have hr := rm_ren
  have hL := rm_len off q
  have c0 := number_any l (by omega) 0 (q.length : Int) 1 (by omega)
  have h := numL_ok (v := (q.length : Int)) (k := 1) (by decide) (by decide) (by omega) (by omega) l
  rw [show ((1 : Nat) : Int) = 1 from rfl] at h
  rw [h.1, h.2] at c0
  have hw : IntKind.u64.wrap (q.length : Int) = (q.length : Int) := wrap_u64 (by omega) (by omega)
  have hB : l ++ lsB enc q = (l ++ leI (q.length : Int) 1) ++ q.flatMap enc := by unfold lsB; rw [List.append_assoc]
  rw [hB]
  clear hB h
  have hlen : (l ++ leI (q.length : Int) 1).length = l.length + 1 := by rw [List.length_append, leI_len]
  generalize l ++ leI (q.length : Int) 1 = B at *
  refine ACall.startA c100_ok Tryz.func100 rfl Tryz.ntmps100 (by kernel_rfl) res100_ok rfl rfl rfl ?_; simp (maxSteps := 9999999) (disch := omega) only [go_sem]
  (have k9 := And.intro @hr (And.intro @hw (k0)); have a1 := Arm.mk [0, 1] c0; refine goK ?_; (try clear k9); (try clear a1))
  (apply AWpA.loopL (fun i : Nat => [(0, .ptr 0 0), (2, .fn F [] []), (13, .sl 2 off q.length 3 none), (14, I q.length), (15, I i)]) (fun i => [WrO 3 (B ++ (q.take i).flatMap enc).length 0, .gone, .cells true (Rm off q), .cells false (bA (B ++ (q.take i).flatMap enc))]) (fun i => q.length - i) (fun i => i ≤ q.length) (0) [0, 1, 2, 67]; rotate_left; (focus (simp (maxSteps := 9999999) (disch := omega) only [go_sem, hr, List.take_zero, List.flatMap_nil, List.append_nil, bA_ren]; (try (repeat' (first | done | trivial | rfl | exact leAs_rfl _ | decide | (refine And.intro ?_ ?_) | (simp; done) | omega | (simp; decide)))))); rotate_right)
  · exact Nat.zero_le _
  rintro i hi
  (try simp only at hi)
  by_cases hin : i < q.length
  · have g1 : ((i : Int) < (q.length : Int)) = True := eq_true (by omega)
    have hat := rm_at off q i hin
    have hfl : ((q.take i).flatMap enc).length ≤ 800 := by
      have := flat_len (enc := enc) (n := 100) (l := q.take i) fun x hx => he x (List.mem_of_mem_take hx)
      rw [List.length_take] at this
      have h8 : min i q.length ≤ 8 := by omega
      have := Nat.mul_le_mul_right 100 h8
      omega
    have hput : (q.take (i + 1)).flatMap enc = (q.take i).flatMap enc ++ enc q[i] := by rw [take_snoc q hin, List.flatMap_append, List.flatMap_singleton]
    have hx := hp _ (List.getElem_mem hin) (B ++ (q.take i).flatMap enc) (by rw [List.length_append]; omega)
    have hB2 : B ++ (q.take (i + 1)).flatMap enc = B ++ (q.take i).flatMap enc ++ enc q[i] := by rw [hput, List.append_assoc]
    clear hp he hput hfl
    generalize B ++ (q.take i).flatMap enc = C at *
    generalize q[i] = x at *
    have hB3 := congrArg List.length hB2
    rw [List.length_append, List.length_append] at hB3
    (try simp (maxSteps := 9999999) (disch := omega) only [go_sem])
    (have k9 := And.intro @hr (And.intro @hL (And.intro @g1 (And.intro @hat (k0)))); have a1 := Arm.mk [0, 3] hx; refine goK ?_; (try clear k9); (try clear a1))
    (have k9 := And.intro @hr (And.intro @hB2 (And.intro @hB3 (And.intro @bA_ren (k0)))); refine Back.tk (i + 1) [0, 1, 2, 132] ?_)
    omega
  · obtain rfl : i = q.length := by omega
    have g1 : ((q.length : Int) < (q.length : Int)) = False := eq_false (by omega)
    rw [List.take_length]
    clear hp he
    have hC : (B ++ q.flatMap enc).length = B.length + (q.flatMap enc).length := List.length_append
    generalize B ++ q.flatMap enc = C at *
    (try simp (maxSteps := 9999999) (disch := omega) only [go_sem])
    (have k9 := And.intro @hr (And.intro @g1 (k0)); refine goK ?_; (try clear k9))
    (have k9 := And.intro @hr (And.intro @hC (And.intro @bA_ren (k0))); exact Ret.dk [0, 1, 2, 3])
/- quidnunc/wire.layAll[quidnunc/api.Entry] -/
def c102_1 : ACode := .region false [⟨some 8, .move, [.t 0], none⟩,
  ⟨some 9, .move, [.t 1], none⟩,
  ⟨some 10, .len, [.t 9], none⟩,
  ⟨some 11, .conv .u64, [.t 10], none⟩,
  ⟨some 12, .call 95, [.t 8, .t 11, .c (.val (.int .i64 1))], none⟩] [] [] [0, 1, 2] true [] []
def c102_3 : ACode := .region false [⟨some 13, .move, [.t 1], none⟩,
  ⟨some 14, .len, [.t 13], none⟩,
  ⟨some 15, .move, [.c (.val (.int .i64 0))], none⟩] [] [] [0, 2, 13, 14, 15] false [] []
def c102_7 : ACode := .region false [⟨some 16, .bin .lss, [.t 15, .t 14], none⟩] [] [] [0, 2, 13, 14, 15, 16] false [] []
def c102_9 : ACode := .cond (.t 16) .skip (.exit 0)
def c102_13 : ACode := .region false [⟨some 17, .ixS 9, [.t 13, .t 15], none⟩,
  ⟨some 18, .load true 9, [.t 17], none⟩,
  ⟨some 7, .alloc [(.string ⟨#[]⟩), (.string ⟨#[]⟩), (.bool false), (.int .i64 0), (.int .i64 0), (.int .i64 0), (.int .i64 0), (.int .i64 0), (.int .i64 0)], [], none⟩,
  ⟨none, .store 9, [.t 7, .t 18], none⟩] [] [] [0, 2, 7, 13, 14, 15] true [] []
def c102_14 : ACode := .region false [⟨some 19, .move, [.t 2], none⟩,
  ⟨some 20, .move, [.t 0], none⟩,
  ⟨some 21, .load true 9, [.t 7], none⟩,
  ⟨some 22, .callv, [.t 19, .t 20, .t 21], none⟩] [] [] [0, 2, 13, 14, 15] true [] []
def c102_12 : ACode := .seq c102_13 c102_14
def c102_11 : ACode := .block 1 c102_12
def c102_15 : ACode := .region false [⟨some 23, .bin .add, [.t 15, .c (.val (.int .i64 1))], none⟩,
  ⟨some 15, .move, [.t 23], none⟩] [] [] [0, 2, 13, 14, 15] false [] []
def c102_10 : ACode := .seq c102_11 c102_15
def c102_8 : ACode := .seq c102_9 c102_10
def c102_6 : ACode := .seq c102_7 c102_8
def c102_5 : ACode := .loop c102_6
def c102_4 : ACode := .block 0 c102_5
def c102_2 : ACode := .seq c102_3 c102_4
def c102_0 : ACode := .seq c102_1 c102_2
def code102 : Code := (Tryz.f102.body).getD .skip
theorem c102_ok : compC Tryz.prog 24 code102 = some (strip c102_0) := by kernel_rfl
theorem res102_ok : Tryz.f102.results.toList.mapM (resC Tryz.prog) = some [] := by kernel_rfl
theorem layalle_any {F : Nat} {enc : En → List Int} (off : Nat) (q : List En) (hq : q.length ≤ 8) (he : ∀ x ∈ q, (enc x).length ≤ 100)
    (hp : ∀ x ∈ q, ∀ l' : List Int, l'.length ≤ 100000 → ACall Tryz.prog F [.ptr 0 0, EnA x] [WrO 1 l'.length 0, .cells false (bA l')] (Det (.tup []) [WrO 2 (l' ++ enc x).length 0, .gone, .cells false (bA (l' ++ enc x))])) (l : List Int) (hl : l.length ≤ 10000) :
    ACall Tryz.prog 102 [.ptr 0 0, .sl 2 off q.length 9 none, .fn F [] []] [WrO 1 l.length 0, .cells false (bA l), .cells true (Re off q)] (Det (.tup []) [WrO 3 (l ++ lsB enc q).length 0, .gone, .cells true (Re off q), .cells false (bA (l ++ lsB enc q))]) := by
  have hr := re_ren
  have hL := re_len off q
  have c0 := number_any l (by omega) 0 (q.length : Int) 1 (by omega)
  have h := numL_ok (v := (q.length : Int)) (k := 1) (by decide) (by decide) (by omega) (by omega) l
  rw [show ((1 : Nat) : Int) = 1 from rfl] at h
  rw [h.1, h.2] at c0
  have hw : IntKind.u64.wrap (q.length : Int) = (q.length : Int) := wrap_u64 (by omega) (by omega)
  have hB : l ++ lsB enc q = (l ++ leI (q.length : Int) 1) ++ q.flatMap enc := by unfold lsB; rw [List.append_assoc]
  rw [hB]
  clear hB h
  have hlen : (l ++ leI (q.length : Int) 1).length = l.length + 1 := by rw [List.length_append, leI_len]
  generalize l ++ leI (q.length : Int) 1 = B at *
  refine ACall.startA c102_ok Tryz.func102 rfl Tryz.ntmps102 (by kernel_rfl) res102_ok rfl rfl rfl ?_; simp (maxSteps := 9999999) (disch := omega) only [go_sem]
  (have k9 := And.intro @hr (And.intro @hw (k0)); have a1 := Arm.mk [0, 1] c0; refine goK ?_; (try clear k9); (try clear a1))
  (apply AWpA.loopL (fun i : Nat => [(0, .ptr 0 0), (2, .fn F [] []), (13, .sl 2 off q.length 9 none), (14, I q.length), (15, I i)]) (fun i => [WrO 3 (B ++ (q.take i).flatMap enc).length 0, .gone, .cells true (Re off q), .cells false (bA (B ++ (q.take i).flatMap enc))]) (fun i => q.length - i) (fun i => i ≤ q.length) (0) [0, 1, 2, 67]; rotate_left; (focus (simp (maxSteps := 9999999) (disch := omega) only [go_sem, hr, List.take_zero, List.flatMap_nil, List.append_nil, bA_ren]; (try (repeat' (first | done | trivial | rfl | exact leAs_rfl _ | decide | (refine And.intro ?_ ?_) | (simp; done) | omega | (simp; decide)))))); rotate_right)
  · exact Nat.zero_le _
  rintro i hi
  (try simp only at hi)
  by_cases hin : i < q.length
  · have g1 : ((i : Int) < (q.length : Int)) = True := eq_true (by omega)
    have hat := re_at off q i hin
    have hfl : ((q.take i).flatMap enc).length ≤ 800 := by
      have := flat_len (enc := enc) (n := 100) (l := q.take i) fun x hx => he x (List.mem_of_mem_take hx)
      rw [List.length_take] at this
      have h8 : min i q.length ≤ 8 := by omega
      have := Nat.mul_le_mul_right 100 h8
      omega
    have hput : (q.take (i + 1)).flatMap enc = (q.take i).flatMap enc ++ enc q[i] := by rw [take_snoc q hin, List.flatMap_append, List.flatMap_singleton]
    have hx := hp _ (List.getElem_mem hin) (B ++ (q.take i).flatMap enc) (by rw [List.length_append]; omega)
    have hB2 : B ++ (q.take (i + 1)).flatMap enc = B ++ (q.take i).flatMap enc ++ enc q[i] := by rw [hput, List.append_assoc]
    clear hp he hput hfl
    generalize B ++ (q.take i).flatMap enc = C at *
    generalize q[i] = x at *
    have hB3 := congrArg List.length hB2
    rw [List.length_append, List.length_append] at hB3
    (try simp (maxSteps := 9999999) (disch := omega) only [go_sem])
    (have k9 := And.intro @hr (And.intro @hL (And.intro @g1 (And.intro @hat (k0)))); have a1 := Arm.mk [0, 3] hx; refine goK ?_; (try clear k9); (try clear a1))
    (have k9 := And.intro @hr (And.intro @hB2 (And.intro @hB3 (And.intro @bA_ren (k0)))); refine Back.tk (i + 1) [0, 1, 2, 132] ?_)
    omega
  · obtain rfl : i = q.length := by omega
    have g1 : ((q.length : Int) < (q.length : Int)) = False := eq_false (by omega)
    rw [List.take_length]
    clear hp he
    have hC : (B ++ q.flatMap enc).length = B.length + (q.flatMap enc).length := List.length_append
    generalize B ++ q.flatMap enc = C at *
    (try simp (maxSteps := 9999999) (disch := omega) only [go_sem])
    (have k9 := And.intro @hr (And.intro @g1 (k0)); refine goK ?_; (try clear k9))
    (have k9 := And.intro @hr (And.intro @hC (And.intro @bA_ren (k0))); exact Ret.dk [0, 1, 2, 3])
end
end Go.Proofs.YtopidfkmligljaaGreat
