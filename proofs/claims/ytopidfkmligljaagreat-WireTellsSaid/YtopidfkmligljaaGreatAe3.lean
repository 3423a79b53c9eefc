/- Contracts: entries that are written. -/
import Derived.Test.YtopidfkmligljaaGreatAe1
namespace Go.Proofs.YtopidfkmligljaaGreat
noncomputable section
set_option linter.unusedSimpArgs false
set_option linter.unusedVariables false
set_option maxHeartbeats 4000000
open Go Go.Am Go.RowKit Go.ChangeShapes Go.WideShapes Go.ChangeAt
set_option maxRecDepth 100000
theorem numL_ok {v : Int} {k : Nat} (hk : 1 ≤ k) (hk' : k ≤ 8) (h0 : 0 ≤ v) (h1 : v < 256 ^ k) (l : List Int) : numL v (k : Int) 0 l = l ++ leI v k ∧ numE v (k : Int) 0 = 0 := by
  have hw : wideB (k : Int) = true := by unfold wideB; exact decide_eq_true (by omega)
  have hf : fitsI v (k : Int) = true := by rw [fitsI_eq, Int.ediv_eq_zero_of_lt h0 h1]; rfl
  unfold numL numE
  rw [hw, hf]
  exact ⟨by simp [wput], rfl⟩
theorem textL_ok {s : ByteArray} (h : s.size ≤ 255) (l : List Int) : textL s 0 l = l ++ ((s.size : Int) :: txI s) ∧ textE s 0 = 0 := by
  unfold textL textE
  rw [decide_eq_false (by omega)]
  exact ⟨rfl, rfl⟩
/-- What an entry that may be has for numbers and texts. -/
theorem check_ok {e : En} (h : checkI e = 0) : 1 ≤ e.key.size ∧ e.key.size ≤ 16 ∧ e.val.size ≤ 32 ∧ (1 ≤ e.st.c ∧ e.st.c ≤ 4294967295) ∧ (0 ≤ e.st.s ∧ e.st.s < 12) ∧ (1 ≤ e.act.c ∧ e.act.c ≤ 4294967295) ∧ (0 ≤ e.act.s ∧ e.act.s < 12) ∧ (0 ≤ e.keep ∧ e.keep ≤ 4095) ∧ (0 ≤ e.age ∧ e.age ≤ 2147483647) := by
  unfold checkI at h
  split at h
  · cases h
  · split at h
    · cases h
    · split at h
      · cases h
      · split at h
        · cases h
        · split at h
          · rename_i h1 h2 h3 h4 h5
            simp only [shapeB, goodB, Bool.and_eq_true, decide_eq_true_eq] at h5
            obtain ⟨⟨g1, g2, g3, g4⟩, ⟨g5, g6, g7, g8⟩, -⟩ := h5
            split at h
            · split at h
              · rename_i h6
                simp only [keptB, Bool.and_eq_true, decide_eq_true_eq] at h6
                exact ⟨by omega, by omega, by omega, by omega, by omega, by omega, by omega, by omega, by omega⟩
              · cases h
            · split at h
              · rename_i h6
                simp only [plainB, Bool.and_eq_true, beq_iff_eq] at h6
                exact ⟨by omega, by omega, by omega, by omega, by omega, by omega, by omega, by omega, by omega⟩
              · cases h
          · cases h
/-- The bytes of an entry. -/
def enB (e : En) : List Int := ((e.key.size : Int) :: txI e.key) ++ [cond e.dead 1 0] ++ ((e.val.size : Int) :: txI e.val) ++ leI e.st.c 4 ++ leI e.st.s 1 ++ leI e.act.c 4 ++ leI e.act.s 1 ++ leI e.keep 2 ++ leI e.age 4
theorem enB_len (e : En) : (enB e).length = e.key.size + e.val.size + 19 := by
  simp only [enB, List.length_append, List.length_cons, List.length_nil, leI_len, txI_len]
  omega
/- quidnunc/entry.Lay -/
def c103_1 : ACode := .region false [⟨some 3, .box 0, [.t 1], none⟩] [] [] [0, 3] true [] []
def c103_3 : ACode := .region true [⟨some 6, .move, [.t 0], none⟩,
  ⟨some 7, .addr 0, [.t 3], none⟩,
  ⟨some 8, .load false 1, [.t 7], none⟩,
  ⟨some 9, .call 135, [.t 6, .t 8], none⟩,
  ⟨some 10, .addr 2, [.t 3], none⟩,
  ⟨some 11, .load false 1, [.t 10], none⟩,
  ⟨some 12, .call 91, [.t 9, .t 11], none⟩,
  ⟨some 13, .addr 1, [.t 3], none⟩,
  ⟨some 14, .load false 1, [.t 13], none⟩,
  ⟨some 15, .call 135, [.t 12, .t 14], none⟩] [] [] [0, 3] true [] []
def c103_6 : ACode := .region false [⟨some 16, .addr 3, [.t 3], none⟩,
  ⟨some 17, .load true 2, [.t 16], none⟩,
  ⟨some 18, .addr 5, [.t 3], none⟩,
  ⟨some 19, .load true 2, [.t 18], none⟩,
  ⟨some 20, .build [(.int .i64 0), (.int .i64 0), (.int .i64 0), (.int .i64 0)] [(0, 2), (2, 2)], [.t 17, .t 19], none⟩,
  ⟨some 21, .move, [.c (.val (.int .i64 0))], none⟩] [] [] [0, 3, 20, 21] false [] []
def c103_10 : ACode := .region false [⟨some 22, .bin .lss, [.t 21, .c (.val (.int .i64 2))], none⟩] [] [] [0, 3, 20, 21, 22] false [] []
def c103_12 : ACode := .cond (.t 22) .skip (.exit 0)
def c103_16 : ACode := .region false [⟨some 23, .ixV true 2 2, [.t 20, .t 21], none⟩,
  ⟨some 5, .alloc [(.int .i64 0), (.int .i64 0)], [], none⟩,
  ⟨none, .store 2, [.t 5, .t 23], none⟩] [] [] [0, 3, 5, 20, 21] true [] []
def c103_17 : ACode := .region true [⟨some 24, .move, [.t 0], none⟩,
  ⟨some 25, .addr 0, [.t 5], none⟩,
  ⟨some 26, .load false 1, [.t 25], none⟩,
  ⟨some 27, .conv .u64, [.t 26], none⟩,
  ⟨some 28, .call 95, [.t 24, .t 27, .c (.val (.int .i64 4))], none⟩,
  ⟨some 29, .addr 1, [.t 5], none⟩,
  ⟨some 30, .load false 1, [.t 29], none⟩,
  ⟨some 31, .conv .u64, [.t 30], none⟩,
  ⟨some 32, .call 95, [.t 28, .t 31, .c (.val (.int .i64 1))], none⟩] [] [] [0, 3, 20, 21] true [] []
def c103_15 : ACode := .seq c103_16 c103_17
def c103_14 : ACode := .block 1 c103_15
def c103_18 : ACode := .region false [⟨some 33, .bin .add, [.t 21, .c (.val (.int .i64 1))], none⟩,
  ⟨some 21, .move, [.t 33], none⟩] [] [] [0, 3, 20, 21] false [] []
def c103_13 : ACode := .seq c103_14 c103_18
def c103_11 : ACode := .seq c103_12 c103_13
def c103_9 : ACode := .seq c103_10 c103_11
def c103_8 : ACode := .loop c103_9
def c103_7 : ACode := .block 0 c103_8
def c103_5 : ACode := .seq c103_6 c103_7
def c103_19 : ACode := .region true [⟨some 34, .move, [.t 0], none⟩,
  ⟨some 35, .addr 7, [.t 3], none⟩,
  ⟨some 36, .load false 1, [.t 35], none⟩,
  ⟨some 37, .conv .u64, [.t 36], none⟩,
  ⟨some 38, .call 95, [.t 34, .t 37, .c (.val (.int .i64 2))], none⟩,
  ⟨some 39, .addr 8, [.t 3], none⟩,
  ⟨some 40, .load false 1, [.t 39], none⟩,
  ⟨some 41, .conv .u64, [.t 40], none⟩,
  ⟨some 42, .call 95, [.t 38, .t 41, .c (.val (.int .i64 4))], none⟩] [] [] [] true [] []
def c103_4 : ACode := .seq c103_5 c103_19
def c103_2 : ACode := .seq c103_3 c103_4
def c103_0 : ACode := .seq c103_1 c103_2
def code103 : Code := (Tryz.f103.body).getD .skip
theorem c103_ok : compC Tryz.prog 43 code103 = some (strip c103_0) := by kernel_rfl
theorem res103_ok : Tryz.f103.results.toList.mapM (resC Tryz.prog) = some [] := by kernel_rfl
theorem lay_any (e : En) (he : checkI e = 0) (l : List Int) (hl : l.length ≤ 100000) : ACall Tryz.prog 103 [.ptr 0 0, EnA e] [WrO 1 l.length 0, .cells false (bA l)] (Det (.tup []) [WrO 2 (l ++ enB e).length 0, .gone, .cells false (bA (l ++ enB e))]) := by
  obtain ⟨k1, k2, k3, k4, k5, k6, k7, k8, k9⟩ := check_ok he
  have hB : l ++ enB e = l ++ ((e.key.size : Int) :: txI e.key) ++ [cond e.dead 1 0] ++ ((e.val.size : Int) :: txI e.val) ++ leI e.st.c 4 ++ leI e.st.s 1 ++ leI e.act.c 4 ++ leI e.act.s 1 ++ leI e.keep 2 ++ leI e.age 4 := by
    simp only [enB, List.append_assoc]
  rw [hB]
  clear hB
  obtain ⟨key, val, dead, ⟨sc, ss⟩, ⟨ac, ax⟩, keep, age⟩ := e
  simp only at k1 k2 k3 k4 k5 k6 k7 k8 k9
  simp only
  have c1 := text_any l (by omega) 0 key
  rw [(textL_ok (by omega) l).1, (textL_ok (by omega) l).2] at c1
  obtain ⟨l1, q1⟩ : ∃ x, l ++ ((key.size : Int) :: txI key) = x := ⟨_, rfl⟩
  rw [q1] at c1 ⊢
  have n1 : l1.length = l.length + (key.size + 1) := by rw [← q1]; simp [txI_len]
  have c2 := flag_any l1 (by omega) 0 dead
  have hf : numL (cond dead 1 0) 1 0 l1 = l1 ++ [cond dead 1 0] ∧ numE (cond dead 1 0) 1 0 = 0 := by
    cases dead
    · exact numL_ok (v := 0) (k := 1) (by decide) (by decide) (by decide) (by decide) l1
    · exact numL_ok (v := 1) (k := 1) (by decide) (by decide) (by decide) (by decide) l1
  rw [hf.1, hf.2] at c2
  obtain ⟨l2, q2⟩ : ∃ x, l1 ++ [cond dead 1 0] = x := ⟨_, rfl⟩
  rw [q2] at c2 ⊢
  have n2 : l2.length = l1.length + 1 := by rw [← q2]; simp
  have c3 := text_any l2 (by omega) 0 val
  rw [(textL_ok (by omega) l2).1, (textL_ok (by omega) l2).2] at c3
  obtain ⟨l3, q3⟩ : ∃ x, l2 ++ ((val.size : Int) :: txI val) = x := ⟨_, rfl⟩
  rw [q3] at c3 ⊢
  have n3 : l3.length = l2.length + (val.size + 1) := by rw [← q3]; simp [txI_len]
  have c4 := number_any l3 (by omega) 0 sc 4 (by omega)
  have h4 := numL_ok (v := sc) (k := 4) (by decide) (by decide) (by omega) (by omega) l3
  rw [show ((4 : Nat) : Int) = 4 from rfl] at h4
  rw [h4.1, h4.2] at c4
  obtain ⟨l4, q4⟩ : ∃ x, l3 ++ leI sc 4 = x := ⟨_, rfl⟩
  rw [q4] at c4 ⊢
  have n4 : l4.length = l3.length + 4 := by rw [← q4]; simp [leI_len]
  have c5 := number_any l4 (by omega) 0 ss 1 (by omega)
  have h5 := numL_ok (v := ss) (k := 1) (by decide) (by decide) (by omega) (by omega) l4
  rw [show ((1 : Nat) : Int) = 1 from rfl] at h5
  rw [h5.1, h5.2] at c5
  obtain ⟨l5, q5⟩ : ∃ x, l4 ++ leI ss 1 = x := ⟨_, rfl⟩
  rw [q5] at c5 ⊢
  have n5 : l5.length = l4.length + 1 := by rw [← q5]; simp [leI_len]
  have c6 := number_any l5 (by omega) 0 ac 4 (by omega)
  have h6 := numL_ok (v := ac) (k := 4) (by decide) (by decide) (by omega) (by omega) l5
  rw [show ((4 : Nat) : Int) = 4 from rfl] at h6
  rw [h6.1, h6.2] at c6
  obtain ⟨l6, q6⟩ : ∃ x, l5 ++ leI ac 4 = x := ⟨_, rfl⟩
  rw [q6] at c6 ⊢
  have n6 : l6.length = l5.length + 4 := by rw [← q6]; simp [leI_len]
  have c7 := number_any l6 (by omega) 0 ax 1 (by omega)
  have h7 := numL_ok (v := ax) (k := 1) (by decide) (by decide) (by omega) (by omega) l6
  rw [show ((1 : Nat) : Int) = 1 from rfl] at h7
  rw [h7.1, h7.2] at c7
  obtain ⟨l7, q7⟩ : ∃ x, l6 ++ leI ax 1 = x := ⟨_, rfl⟩
  rw [q7] at c7 ⊢
  have n7 : l7.length = l6.length + 1 := by rw [← q7]; simp [leI_len]
  have c8 := number_any l7 (by omega) 0 keep 2 (by omega)
  have h8 := numL_ok (v := keep) (k := 2) (by decide) (by decide) (by omega) (by omega) l7
  rw [show ((2 : Nat) : Int) = 2 from rfl] at h8
  rw [h8.1, h8.2] at c8
  obtain ⟨l8, q8⟩ : ∃ x, l7 ++ leI keep 2 = x := ⟨_, rfl⟩
  rw [q8] at c8 ⊢
  have n8 : l8.length = l7.length + 2 := by rw [← q8]; simp [leI_len]
  have c9 := number_any l8 (by omega) 0 age 4 (by omega)
  have h9 := numL_ok (v := age) (k := 4) (by decide) (by decide) (by omega) (by omega) l8
  rw [show ((4 : Nat) : Int) = 4 from rfl] at h9
  rw [h9.1, h9.2] at c9
  generalize l8 ++ leI age 4 = l9 at c9 ⊢
  clear q1 q2 q3 q4 q5 q6 q7 q8 n1 n2 n3 n4 n5 n6 n7 n8 h4 h5 h6 h7 h8 h9 hf he
  refine ACall.startA c103_ok Tryz.func103 rfl Tryz.ntmps103 (by kernel_rfl) res103_ok rfl rfl rfl ?_; simp (maxSteps := 9999999) (disch := omega) only [go_sem]
  (have k9 := k0; (repeat' (first | refine AWpA.seq ?_ | refine AWpA.block ?_ | (with_reducible refine CondP.tt ?_) | (with_reducible refine CondP.ff ?_) | refine AWpA.cg ?_ | ((first | refine AWpA.rg ?_ | refine AWpA.dg [0, 1] [] follows ?_ | refine TailK.tg ?_ | refine AWpA.skip ?_ | refine AWpA.exit ?_ | refine AWpA.ret ?_ | (with_reducible refine ARoundsA.succ ?_) | ((first | refine Runs.gkt (fun h9 => ?_) | refine Runs.gkf (fun h9 => ?_) | refine Runs.gnt (fun h9 => ?_) | refine Runs.gnf (fun h9 => ?_) | refine CondP.gt (fun h9 => ?_) | refine CondP.gf (fun h9 => ?_) | refine CondP.gnt (fun h9 => ?_) | refine CondP.gnf (fun h9 => ?_)); (try simp only [h9]); clear h9) | refine CallG.pg [0, 1] (c1) ?_ | refine CallG.pg [0, 66] (c2) ?_ | refine CallG.pg [0, 114] (c3) ?_ | refine CallG.dg [0, 1] (c1) ?_ | refine CallG.dg [0, 66] (c2) ?_ | refine CallG.dg [0, 114] (c3) ?_); (try simp (maxSteps := 9999999) (disch := omega) only [go_sem, k9]); (try refine cnd ?_)) | ((first | refine CondP.split (fun hif => ?_) (fun hif => ?_) | refine Runs.part (fun hif => ?_) (fun hif => ?_)) <;> ((try simp only [hif]); (try simp only [BL] at hif); (try (have h9 : _ = true := hif; simp only [h9])); (try (have h9 : _ = false := hif; simp only [h9])); (try simp (maxSteps := 9999999) (disch := omega) only [go_sem, k9]); (try refine cnd ?_); (try (exfalso; omega; done)))))); (all_goals (try clear k9)))
  refine AWpA.rounds 3 ?_
  (have k9 := k0; (repeat' (first | refine AWpA.seq ?_ | refine AWpA.block ?_ | (with_reducible refine CondP.tt ?_) | (with_reducible refine CondP.ff ?_) | refine AWpA.cg ?_ | ((first | refine AWpA.rg ?_ | refine AWpA.dg [0, 162, 466, 706] [] follows ?_ | refine TailK.tg ?_ | refine AWpA.skip ?_ | refine AWpA.exit ?_ | refine AWpA.ret ?_ | (with_reducible refine ARoundsA.succ ?_) | ((first | refine Runs.gkt (fun h9 => ?_) | refine Runs.gkf (fun h9 => ?_) | refine Runs.gnt (fun h9 => ?_) | refine Runs.gnf (fun h9 => ?_) | refine CondP.gt (fun h9 => ?_) | refine CondP.gf (fun h9 => ?_) | refine CondP.gnt (fun h9 => ?_) | refine CondP.gnf (fun h9 => ?_)); (try simp only [h9]); clear h9) | refine CallG.pg [0, 162] (c4) ?_ | refine CallG.pg [0, 402] (c5) ?_ | refine CallG.pg [0, 466] (c6) ?_ | refine CallG.pg [0, 642] (c7) ?_ | refine CallG.pg [0, 706] (c8) ?_ | refine CallG.pg [0, 834] (c9) ?_ | refine CallG.dg [0, 162] (c4) ?_ | refine CallG.dg [0, 402] (c5) ?_ | refine CallG.dg [0, 466] (c6) ?_ | refine CallG.dg [0, 642] (c7) ?_ | refine CallG.dg [0, 706] (c8) ?_ | refine CallG.dg [0, 834] (c9) ?_); (try simp (maxSteps := 9999999) (disch := omega) only [go_sem, k9]); (try refine cnd ?_)) | ((first | refine CondP.split (fun hif => ?_) (fun hif => ?_) | refine Runs.part (fun hif => ?_) (fun hif => ?_)) <;> ((try simp only [hif]); (try simp only [BL] at hif); (try (have h9 : _ = true := hif; simp only [h9])); (try (have h9 : _ = false := hif; simp only [h9])); (try simp (maxSteps := 9999999) (disch := omega) only [go_sem, k9]); (try refine cnd ?_); (try (exfalso; omega; done)))))); (all_goals (try clear k9)))
  all_goals (apply Ret.det [0, 1, _]; (focus (first | exact .inl rfl | exact .inr rfl)); (focus (simp (maxSteps := 9999999) (disch := omega) only [go_sem]; rfl)); (simp (maxSteps := 9999999) (disch := omega) only [go_sem]; (try (repeat' (first | done | trivial | rfl | exact leAs_rfl _ | decide | (refine And.intro ?_ ?_) | (simp; done) | omega | (simp; decide))))))
end
end Go.Proofs.YtopidfkmligljaaGreat
