/- Contracts: a reader's numbers, flags, texts; the document's cursor. -/
import Derived.Test.YthbpdmlbfnjoiaaAo9
namespace Go.Proofs.Ythbpdmlbfnjoiaa
set_option linter.unusedSimpArgs false
set_option linter.unusedVariables false
set_option maxHeartbeats 4000000
open Go Go.Am
set_option maxRecDepth 100000
/- quidnunc/quidnuncref01.Value -/
noncomputable def c51_1 : ACode := .region false [⟨some 2, .move, [.c (.val (.int .u64 0))], none⟩] [] [] [0] false [] []
noncomputable def c51_3 : ACode := .region false [⟨some 3, .move, [.c (.val (.int .u64 0))], none⟩] [] [] [0, 3] false [] []
noncomputable def c51_6 : ACode := .region false [⟨some 5, .move, [.t 0], none⟩,
  ⟨some 6, .len, [.t 5], none⟩,
  ⟨some 7, .bin .sub, [.t 6, .c (.val (.int .i64 1))], none⟩,
  ⟨some 4, .move, [.t 7], none⟩] [] [] [0, 3, 4] false [] []
noncomputable def c51_11 : ACode := .region false [⟨some 8, .move, [.t 4], none⟩,
  ⟨some 9, .bin .geq, [.t 8, .c (.val (.int .i64 0))], none⟩] [] [] [0, 3, 4, 9] false [] []
noncomputable def c51_12 : ACode := .cond (.t 9) .skip (.exit 0)
noncomputable def c51_10 : ACode := .seq c51_11 c51_12
noncomputable def c51_15 : ACode := .region false [⟨some 12, .move, [.t 3], none⟩,
  ⟨some 13, .bin .mul, [.c (.val (.int .u64 256)), .t 12], none⟩,
  ⟨some 14, .move, [.t 0], none⟩,
  ⟨some 15, .move, [.t 4], none⟩,
  ⟨some 16, .ixS 1, [.t 14, .t 15], none⟩,
  ⟨some 17, .load false 1, [.t 16], none⟩,
  ⟨some 18, .conv .u64, [.t 17], none⟩,
  ⟨some 19, .bin .add, [.t 13, .t 18], none⟩,
  ⟨some 3, .move, [.t 19], none⟩] [] [] [0, 3, 4] false [] []
noncomputable def c51_14 : ACode := .block 1 c51_15
noncomputable def c51_16 : ACode := .region false [⟨some 10, .move, [.t 4], none⟩,
  ⟨some 11, .bin .sub, [.t 10, .c (.val (.int .i64 1))], none⟩,
  ⟨some 4, .move, [.t 11], none⟩] [] [] [0, 3, 4] false [] []
noncomputable def c51_13 : ACode := .seq c51_14 c51_16
noncomputable def c51_9 : ACode := .seq c51_10 c51_13
noncomputable def c51_8 : ACode := .loop c51_9
noncomputable def c51_7 : ACode := .block 0 c51_8
noncomputable def c51_5 : ACode := .seq c51_6 c51_7
noncomputable def c51_18 : ACode := .region false [⟨some 20, .move, [.t 3], none⟩,
  ⟨some 2, .move, [.t 20], none⟩] [] [] [2] false [] []
noncomputable def c51_17 : ACode := .seq c51_18 .ret
noncomputable def c51_4 : ACode := .seq c51_5 c51_17
noncomputable def c51_2 : ACode := .seq c51_3 c51_4
noncomputable def c51_0 : ACode := .seq c51_1 c51_2
noncomputable def code51 : Code := (Try.f51.body).getD .skip
theorem c51_ok : compC Try.prog 21 code51 = some (strip c51_0) := by kernel_rfl
theorem res51_ok : Try.f51.results.toList.mapM (resC Try.prog) = some [(2, none)] := by kernel_rfl
/- (*quidnunc/octets.Reader).Number -/
noncomputable def c47_1 : ACode := .region false [⟨some 4, .move, [.c (.val (.int .u64 0))], none⟩] [] [] [0, 1] false [] []
noncomputable def c47_4 : ACode := .region false [⟨some 8, .move, [.t 1], none⟩,
  ⟨some 9, .bin .lss, [.t 8, .c (.val (.int .i64 1))], none⟩,
  ⟨some 10, .move, [.t 9], none⟩,
  ⟨some 11, .move, [.t 1], some (some 10, false)⟩,
  ⟨some 12, .bin .gtr, [.t 11, .c (.val (.int .i64 8))], some (some 10, false)⟩,
  ⟨some 13, .pick, [.t 10, .c (.val (.bool true)), .t 12], none⟩] [] [] [0, 1, 13] false [] []
noncomputable def c47_7 : ACode := .region false [⟨some 14, .move, [.t 0], none⟩,
  ⟨some 15, .nilChk, [.t 14], none⟩,
  ⟨some 16, .addr 0, [.t 15], none⟩,
  ⟨some 17, .call 69, [.t 16, .c (.val (.int .i64 1))], none⟩] [] [] [] true [] []
noncomputable def c47_9 : ACode := .region false [⟨some 4, .move, [.c (.val (.int .u64 0))], none⟩] [] [] [4] false [] []
noncomputable def c47_8 : ACode := .seq c47_9 .ret
noncomputable def c47_6 : ACode := .seq c47_7 c47_8
noncomputable def c47_5 : ACode := .cond (.t 13) c47_6 .skip
noncomputable def c47_3 : ACode := .seq c47_4 c47_5
noncomputable def c47_12 : ACode := .region false [⟨some 18, .move, [.t 0], none⟩,
  ⟨some 19, .move, [.t 1], none⟩,
  ⟨some 20, .call 70, [.t 18, .t 19], none⟩,
  ⟨some 21, .un .not, [.t 20], none⟩] [] [] [0, 1, 21] true [] []
noncomputable def c47_15 : ACode := .region false [⟨some 4, .move, [.c (.val (.int .u64 0))], none⟩] [] [] [4] false [] []
noncomputable def c47_14 : ACode := .seq c47_15 .ret
noncomputable def c47_13 : ACode := .cond (.t 21) c47_14 .skip
noncomputable def c47_11 : ACode := .seq c47_12 c47_13
noncomputable def c47_17 : ACode := .region false [⟨some 5, .move, [.c (.val (.int .u64 0))], none⟩] [] [] [0, 1, 5] false [] []
noncomputable def c47_20 : ACode := .region false [⟨some 22, .move, [.t 0], none⟩,
  ⟨some 23, .move, [.t 1], none⟩,
  ⟨some 24, .call 71, [.t 22, .t 23], none⟩,
  ⟨some 25, .len, [.t 24], none⟩,
  ⟨some 26, .move, [.c (.val (.int .i64 0))], none⟩] [] [] [5, 24, 25, 26] true [] []
noncomputable def c47_24 : ACode := .region false [⟨some 27, .bin .lss, [.t 26, .t 25], none⟩] [] [] [5, 24, 25, 26, 27] false [] []
noncomputable def c47_26 : ACode := .cond (.t 27) .skip (.exit 0)
noncomputable def c47_30 : ACode := .region false [⟨some 28, .move, [.t 26], none⟩,
  ⟨some 29, .ixS 1, [.t 24, .t 26], none⟩,
  ⟨some 30, .load false 1, [.t 29], none⟩,
  ⟨some 6, .move, [.t 28], none⟩,
  ⟨some 7, .move, [.t 30], none⟩] [] [] [5, 6, 7, 24, 25, 26] false [] []
noncomputable def c47_31 : ACode := .region false [⟨some 31, .move, [.t 5], none⟩,
  ⟨some 32, .move, [.t 7], none⟩,
  ⟨some 33, .conv .u64, [.t 32], none⟩,
  ⟨some 34, .move, [.t 6], none⟩,
  ⟨some 35, .bin .mul, [.c (.val (.int .i64 8)), .t 34], none⟩,
  ⟨some 36, .bin .shl, [.t 33, .t 35], none⟩,
  ⟨some 37, .bin .or, [.t 31, .t 36], none⟩,
  ⟨some 5, .move, [.t 37], none⟩] [] [] [5, 24, 25, 26] false [] []
noncomputable def c47_29 : ACode := .seq c47_30 c47_31
noncomputable def c47_28 : ACode := .block 1 c47_29
noncomputable def c47_32 : ACode := .region false [⟨some 38, .bin .add, [.t 26, .c (.val (.int .i64 1))], none⟩,
  ⟨some 26, .move, [.t 38], none⟩] [] [] [5, 24, 25, 26] false [] []
noncomputable def c47_27 : ACode := .seq c47_28 c47_32
noncomputable def c47_25 : ACode := .seq c47_26 c47_27
noncomputable def c47_23 : ACode := .seq c47_24 c47_25
noncomputable def c47_22 : ACode := .loop c47_23
noncomputable def c47_21 : ACode := .block 0 c47_22
noncomputable def c47_19 : ACode := .seq c47_20 c47_21
noncomputable def c47_34 : ACode := .region false [⟨some 39, .move, [.t 5], none⟩,
  ⟨some 4, .move, [.t 39], none⟩] [] [] [4] false [] []
noncomputable def c47_33 : ACode := .seq c47_34 .ret
noncomputable def c47_18 : ACode := .seq c47_19 c47_33
noncomputable def c47_16 : ACode := .seq c47_17 c47_18
noncomputable def c47_10 : ACode := .seq c47_11 c47_16
noncomputable def c47_2 : ACode := .seq c47_3 c47_10
noncomputable def c47_0 : ACode := .seq c47_1 c47_2
noncomputable def code47 : Code := (Try.f47.body).getD .skip
theorem c47_ok : compC Try.prog 40 code47 = some (strip c47_0) := by kernel_rfl
theorem res47_ok : Try.f47.results.toList.mapM (resC Try.prog) = some [(4, none)] := by kernel_rfl
abbrev U64 (n : Int) : AV := .val (.int .u64 n)
theorem _root_.Go.Am.Seg.get {P : List AV} {o : Nat} {l : List Int} (s : Seg P o l) (i : Nat) (h : i < l.length) : P.getD (o + i) .bad = U8 l[i] := by
  have h1 := congrArg (fun q => q[i]?) s.seg
  simp only [List.getElem?_take, h, if_true, List.getElem?_drop] at h1
  rw [List.getD_eq_getElem?_getD, h1]
  simp [bA, h]
theorem bytesB_drop {l : List Int} (h : bytesB l) (n : Nat) : bytesB (l.drop n) := fun c hc => h c (List.mem_of_mem_drop hc)
theorem bytesB_take {l : List Int} (h : bytesB l) (n : Nat) : bytesB (l.take n) := fun c hc => h c (List.mem_of_mem_take hc)
theorem pow_le8 {k : Nat} (h : k ≤ 8) : (256 : Int) ^ k ≤ 18446744073709551616 := by
  match k, h with
  | 0, _ | 1, _ | 2, _ | 3, _ | 4, _ | 5, _ | 6, _ | 7, _ | 8, _ => decide
theorem valI_u64 {l : List Int} (h : bytesB l) (h8 : l.length ≤ 8) : 0 ≤ valI l ∧ valI l ≤ 18446744073709551615 := by
  have h1 := valI_lt h
  have h2 := pow_le8 h8
  omega
theorem value_any {P : List AV} {off : Nat} {l : List Int} (s : Seg P off l) (hb : bytesB l) (h8 : l.length ≤ 8) : ACall Try.prog 51 [.sl 0 off l.length 1 none] [.cells true P] (Det (U64 (valI l)) [.cells true P]) := by
  have hle := s.le
  refine ACall.startA c51_ok Try.func51 rfl Try.ntmps51 (by kernel_rfl) res51_ok rfl rfl rfl ?_; simp (maxSteps := 9999999) (disch := omega) only [go_sem]
  (have k9 := And.intro @s.ren (k0); (repeat' (first | refine AWpA.seq ?_ | refine AWpA.block ?_ | (with_reducible refine CondP.tt ?_) | (with_reducible refine CondP.ff ?_) | refine AWpA.cg ?_ | ((first | refine AWpA.rg ?_ | refine AWpA.dg [] [] follows ?_ | refine TailK.tg ?_ | refine AWpA.skip ?_ | refine AWpA.exit ?_ | refine AWpA.ret ?_ | (with_reducible refine ARoundsA.succ ?_) | ((first | refine Runs.gkt (fun h9 => ?_) | refine Runs.gkf (fun h9 => ?_) | refine Runs.gnt (fun h9 => ?_) | refine Runs.gnf (fun h9 => ?_) | refine CondP.gt (fun h9 => ?_) | refine CondP.gf (fun h9 => ?_) | refine CondP.gnt (fun h9 => ?_) | refine CondP.gnf (fun h9 => ?_)); (try simp only [h9]); clear h9)); (try simp (maxSteps := 9999999) (disch := omega) only [go_sem, k9]); (try refine cnd ?_)) | ((first | refine CondP.split (fun hif => ?_) (fun hif => ?_) | refine Runs.part (fun hif => ?_) (fun hif => ?_)) <;> ((try simp only [hif]); (try simp only [BL] at hif); (try (have h9 : _ = true := hif; simp only [h9])); (try (have h9 : _ = false := hif; simp only [h9])); (try simp (maxSteps := 9999999) (disch := omega) only [go_sem, k9]); (try refine cnd ?_); (try (exfalso; omega; done)))))); (all_goals (try clear k9)))
  (apply AWpA.loopL (fun m : Nat => [(0, .sl 0 off l.length 1 none), (3, U64 (valI (l.drop m))), (4, I ((m : Int) - 1))]) (fun _ => [.cells true P]) (fun m => m) (fun m => m ≤ l.length) (l.length) [0]; rotate_left; (focus (simp (maxSteps := 9999999) (disch := omega) only [go_sem, s.ren, List.drop_length, valI]; (try (repeat' (first | done | trivial | rfl | exact leAs_rfl _ | decide | (refine And.intro ?_ ?_) | (simp; done) | omega | (simp; decide)))))); rotate_right)
  · exact Nat.le_refl _
  rintro m hm
  (try simp only at hm)
  cases m with
  | zero =>
    (try simp (maxSteps := 9999999) (disch := omega) only [go_sem])
    (have k9 := And.intro @s.ren (k0); (repeat' (first | refine AWpA.seq ?_ | refine AWpA.block ?_ | (with_reducible refine CondP.tt ?_) | (with_reducible refine CondP.ff ?_) | refine AWpA.cg ?_ | ((first | refine AWpA.rg ?_ | refine AWpA.dg [] [] follows ?_ | refine TailK.tg ?_ | refine AWpA.skip ?_ | refine AWpA.exit ?_ | refine AWpA.ret ?_ | (with_reducible refine ARoundsA.succ ?_) | ((first | refine Runs.gkt (fun h9 => ?_) | refine Runs.gkf (fun h9 => ?_) | refine Runs.gnt (fun h9 => ?_) | refine Runs.gnf (fun h9 => ?_) | refine CondP.gt (fun h9 => ?_) | refine CondP.gf (fun h9 => ?_) | refine CondP.gnt (fun h9 => ?_) | refine CondP.gnf (fun h9 => ?_)); (try simp only [h9]); clear h9)); (try simp (maxSteps := 9999999) (disch := omega) only [go_sem, k9]); (try refine cnd ?_)) | ((first | refine CondP.split (fun hif => ?_) (fun hif => ?_) | refine Runs.part (fun hif => ?_) (fun hif => ?_)) <;> ((try simp only [hif]); (try simp only [BL] at hif); (try (have h9 : _ = true := hif; simp only [h9])); (try (have h9 : _ = false := hif; simp only [h9])); (try simp (maxSteps := 9999999) (disch := omega) only [go_sem, k9]); (try refine cnd ?_); (try (exfalso; omega; done)))))); (all_goals (try clear k9)))
    (apply Ret.det [0]; (focus (first | exact .inl rfl | exact .inr rfl)); (focus (simp (maxSteps := 9999999) (disch := omega) only [go_sem, s.ren]; rfl)); (simp (maxSteps := 9999999) (disch := omega) only [go_sem, s.ren]; (try (repeat' (first | done | trivial | rfl | exact leAs_rfl _ | decide | (refine And.intro ?_ ?_) | (simp; done) | omega | (simp; decide))))))
  | succ i =>
    have hx := s.get i (by omega)
    have hd : l.drop i = l[i] :: l.drop (i + 1) := List.drop_eq_getElem_cons (by omega)
    have hv : valI (l.drop i) = l[i] + 256 * valI (l.drop (i + 1)) := by rw [hd]; rfl
    have hc := hb l[i] (List.getElem_mem _)
    have hu := valI_u64 (bytesB_drop hb i) (by simp; omega)
    have hu1 := valI_u64 (bytesB_drop hb (i + 1)) (by simp; omega)
    have e0 : (((i + 1 : Nat) : Int) - 1) = (i : Int) := by omega
    rw [e0]
    generalize l[i] = c at hx hd hv hc
    (try simp (maxSteps := 9999999) (disch := omega) only [go_sem])
    (have k9 := And.intro @s.ren (And.intro @hx (And.intro @e0 (k0))); (repeat' (first | refine AWpA.seq ?_ | refine AWpA.block ?_ | (with_reducible refine CondP.tt ?_) | (with_reducible refine CondP.ff ?_) | refine AWpA.cg ?_ | ((first | refine AWpA.rg ?_ | refine AWpA.dg [] [] follows ?_ | refine TailK.tg ?_ | refine AWpA.skip ?_ | refine AWpA.exit ?_ | refine AWpA.ret ?_ | (with_reducible refine ARoundsA.succ ?_) | ((first | refine Runs.gkt (fun h9 => ?_) | refine Runs.gkf (fun h9 => ?_) | refine Runs.gnt (fun h9 => ?_) | refine Runs.gnf (fun h9 => ?_) | refine CondP.gt (fun h9 => ?_) | refine CondP.gf (fun h9 => ?_) | refine CondP.gnt (fun h9 => ?_) | refine CondP.gnf (fun h9 => ?_)); (try simp only [h9]); clear h9)); (try simp (maxSteps := 9999999) (disch := omega) only [go_sem, k9]); (try refine cnd ?_)) | ((first | refine CondP.split (fun hif => ?_) (fun hif => ?_) | refine Runs.part (fun hif => ?_) (fun hif => ?_)) <;> ((try simp only [hif]); (try simp only [BL] at hif); (try (have h9 : _ = true := hif; simp only [h9])); (try (have h9 : _ = false := hif; simp only [h9])); (try simp (maxSteps := 9999999) (disch := omega) only [go_sem, k9]); (try refine cnd ?_); (try (exfalso; omega; done)))))); (all_goals (try clear k9)))
    (apply Back.to i [0]; (focus ((try simp (maxSteps := 9999999) (disch := omega) only [go_sem, s.ren]); first | done | omega)); rotate_left; (focus (simp (maxSteps := 9999999) (disch := omega) only [go_sem, s.ren]; (try (repeat' (first | done | trivial | rfl | exact leAs_rfl _ | decide | (refine And.intro ?_ ?_) | (simp; done) | omega | (simp; decide)))))))
    · rw [hv, Int.add_comm]
    · omega
/-- A cursor of bytes. -/
abbrev CurA (off n a : Nat) (e : Int) : AV := .agg [.sl 0 off n 1 none, I (a : Int), I e]
/-- Where a reader stands, and its error. -/
structure Cu where
  a : Nat
  e : Int
abbrev Cu.left (L : List Int) (c : Cu) : Int := ((L.length - c.a : Nat) : Int)
theorem failI_ne (e k : Int) (h : k ≠ 0) : failI e k ≠ 0 := by
  unfold failI
  split
  · exact h
  · rename_i h1; simpa using h1
theorem rawOk_yes {e n left : Int} (h : rawOk e n left = true) : e = 0 ∧ 0 ≤ n ∧ n ≤ left ∧ rawE e n left = 0 ∧ (∀ a, rawA e n left a = a + n.toNat) ∧ ∀ a L, rawL e n left a L = (L.drop a).take n.toNat := by
  have h' := h
  simp only [rawOk, Bool.and_eq_true, decide_eq_true_eq, beq_iff_eq] at h'
  obtain ⟨⟨h1, h2⟩, h3⟩ := h'
  refine ⟨h3, h1, h2, ?_, fun a => by simp [rawA, h], fun a L => by simp [rawL, h]⟩
  unfold rawE hasE
  rw [decide_eq_false (by omega), decide_eq_false (by omega), h3]
  rfl
theorem rawOk_no {e n left : Int} (h : rawOk e n left = false) : rawE e n left ≠ 0 ∧ (∀ a, rawA e n left a = a) ∧ ∀ a L, rawL e n left a L = [] := by
  refine ⟨?_, fun a => by simp [rawA, h], fun a L => by simp [rawL, h]⟩
  unfold rawE hasE
  by_cases h1 : n < 0
  · rw [decide_eq_true h1]; exact failI_ne e 1 (by decide)
  · rw [decide_eq_false h1]
    by_cases h2 : left < n
    · rw [decide_eq_true h2]; exact failI_ne e 6 (by decide)
    · rw [decide_eq_false h2]
      simp only [rawOk, decide_eq_true (show 0 ≤ n ∧ n ≤ left by omega), Bool.true_and] at h
      simpa using h
theorem rawE_has {e n left : Int} (h : 0 ≤ n) : rawE e n left = hasE e n left := by
  unfold rawE
  rw [decide_eq_false (by omega)]; rfl
theorem has_ok {e n left : Int} (h : 0 ≤ n) : (hasE e n left == 0) = rawOk e n left := by
  rw [← rawE_has h]
  cases h1 : rawOk e n left with
  | true => rw [(rawOk_yes h1).2.2.2.1]; rfl
  | false => simpa using (rawOk_no h1).1
def rawC (L : List Int) (n : Int) (c : Cu) : Cu := ⟨rawA c.e n (c.left L) c.a, rawE c.e n (c.left L)⟩
def rawV (L : List Int) (n : Int) (c : Cu) : List Int := rawL c.e n (c.left L) c.a L
def numC (L : List Int) (w : Int) (c : Cu) : Cu := cond (wideB w) (rawC L w c) ⟨c.a, failI c.e 1⟩
def numV (L : List Int) (w : Int) (c : Cu) : Int := cond (wideB w) (valI (rawV L w c)) 0
def flagC (L : List Int) (c : Cu) : Cu := cond (rawOk c.e 1 (c.left L)) (cond (decide (1 < L.getD c.a 0)) ⟨c.a, 4⟩ ⟨c.a + 1, 0⟩) ⟨c.a, rawE c.e 1 (c.left L)⟩
def flagV (L : List Int) (c : Cu) : Bool := rawOk c.e 1 (c.left L) && (L.getD c.a 0 == 1)
/-- Bytes as a text. -/
def baI (l : List Int) : ByteArray := ⟨(toB l).toArray⟩
def textC (L : List Int) (m : Int) (c : Cu) : Cu := cond (rawOk c.e 1 (c.left L)) (cond (decide (m < L.getD c.a 0)) ⟨c.a, 4⟩ (cond (decide (1 + L.getD c.a 0 ≤ c.left L)) ⟨c.a + (1 + (L.getD c.a 0).toNat), 0⟩ ⟨c.a, 6⟩)) ⟨c.a, rawE c.e 1 (c.left L)⟩
def textV (L : List Int) (m : Int) (c : Cu) : ByteArray := cond (rawOk c.e 1 (c.left L) && (!decide (m < L.getD c.a 0) && decide (1 + L.getD c.a 0 ≤ c.left L))) (baI ((L.drop (c.a + 1)).take (L.getD c.a 0).toNat)) ByteArray.empty
def doneC (L : List Int) (c : Cu) : Cu := ⟨c.a, doneE c.e (L.length - c.a)⟩
theorem getD_get {L : List Int} {a : Nat} (h : a < L.length) : L.getD a 0 = L[a] := by simp [List.getD_eq_getElem?_getD, h]
theorem wideB_yes {n : Int} (h : wideB n = true) : 0 < n ∧ n < 9 := by simpa [wideB] using h
theorem rawL_len8 {e n left : Int} {a : Nat} {L : List Int} (h : wideB n = true) : (rawL e n left a L).length ≤ 8 := by
  have := wideB_yes h
  unfold rawL
  cases rawOk e n left
  · simp
  · simp; omega
theorem rawL_bytes {e n left : Int} {a : Nat} {L : List Int} (h : bytesB L) : bytesB (rawL e n left a L) := by
  unfold rawL
  cases rawOk e n left
  · intro c hc; cases hc
  · exact bytesB_take (bytesB_drop h a) _
theorem _root_.Go.Am.Seg.sub {P : List AV} {o : Nat} {l : List Int} (s : Seg P o l) {e n : Int} {a : Nat} (ha : a ≤ l.length) : Seg P (o + a) (rawL e n (l.length - a : Nat) a l) := by
  have h1 := s.le
  have h2 := s.small
  cases h : rawOk e n (l.length - a : Nat) with
  | true =>
    obtain ⟨-, h3, h4, -, -, h5⟩ := rawOk_yes h
    rw [h5]
    have hl : ((l.drop a).take n.toNat).length = n.toNat := by simp; omega
    refine ⟨?_, by rw [hl]; omega, s.ren, by rw [hl]; omega⟩
    have h6 := congrArg (fun q => (q.drop a).take n.toNat) s.seg
    simp only [List.drop_take, List.drop_drop, List.take_take, bA_drop, bA_take] at h6
    rw [hl, ← h6, Nat.min_eq_left (by omega)]
  | false =>
    rw [(rawOk_no h).2.2]
    exact ⟨by simp [bA_nil], by simp; omega, s.ren, by simp⟩
end Go.Proofs.Ythbpdmlbfnjoiaa
