/- Contracts: keys in order, looked up. -/
import Derived.Test.YtodnlihbmgigjaaBs
namespace Go.Proofs.Ytodnlihbmgigjaa
set_option linter.unusedSimpArgs false
set_option linter.unusedVariables false
set_option maxHeartbeats 4000000
open Go Go.Am Go.RowKit
set_option maxRecDepth 100000
/-- A key, and the number that it has. -/
structure Pi where
  key : ByteArray
  v : Int
abbrev PiL (p : Pi) : List AV := [.val (.string p.key), I p.v]
abbrev PiG (p : Pi) : AV := .agg [.val (.string p.key), I p.v]
abbrev Rp (off : Nat) (l : List Pi) : List AV := rowsC off PiL l
theorem rp_ren (off : Nat) (l : List Pi) (ρ : List Nat) : renL ρ (Rp off l) = Rp off l := rowsC_ren (fun ρ x => by simp [renL, ren]) ρ l
theorem rp_len (off : Nat) (l : List Pi) : (Rp off l).length = off + l.length * 2 := rowsC_len (f := PiL) (k := 2) (fun _ => rfl) l
theorem rp_at (off : Nat) (l : List Pi) (i : Nat) (h : i < l.length) : ((Rp off l).drop (off + i * 2)).take 2 = PiL l[i] := rowsC_at (f := PiL) (k := 2) (fun _ => rfl) l i h
theorem rp_nil : Rp 0 [] = [] := rfl
theorem rp_one (m : Pi) : Rp 0 [m] = PiL m := rfl
theorem rp_cons (m : Pi) (l : List Pi) : Rp 0 (m :: l) = .val (.string m.key) :: I m.v :: Rp 0 l := rfl
theorem rp_app (l m : List Pi) : Rp 0 (l ++ m) = Rp 0 l ++ Rp 0 m := by simp [Rp, rowsC]
theorem rp_all (l : List Pi) {n : Nat} (h : n = l.length * 2) : (Rp 0 l).take n = Rp 0 l := List.take_of_length_le (by rw [rp_len]; omega)
theorem rp_seg (off : Nat) (l : List Pi) {n : Nat} (h : n = l.length * 2) : ((Rp off l).drop off).take n = Rp 0 l := by
  unfold Rp rowsC
  rw [List.drop_append]
  simp only [List.length_replicate, Nat.sub_self, List.drop_zero, List.replicate_zero, List.nil_append]
  rw [List.drop_of_length_le (by simp), List.nil_append]
  exact List.take_of_length_le (by rw [show (l.flatMap PiL).length = l.length * 2 by have := rp_len 0 l; simpa [Rp, rowsC] using this]; omega)
theorem rp_take (l : List Pi) (i : Nat) {n : Nat} (h : n = i * 2) (hi : i ≤ l.length) : (Rp 0 l).take n = Rp 0 (l.take i) := by
  have e : Rp 0 l = Rp 0 (l.take i) ++ Rp 0 (l.drop i) := by rw [← rp_app, List.take_append_drop]
  have hl := rp_len 0 (l.take i)
  rw [List.length_take, Nat.min_eq_left hi] at hl
  rw [e, List.take_append_of_le_length (by omega), List.take_of_length_le (by omega)]
theorem rp_drop (l : List Pi) (i : Nat) {n : Nat} (h : n = i * 2) (hi : i ≤ l.length) : (Rp 0 l).drop n = Rp 0 (l.drop i) := by
  have e : Rp 0 l = Rp 0 (l.take i) ++ Rp 0 (l.drop i) := by rw [← rp_app, List.take_append_drop]
  have hl := rp_len 0 (l.take i)
  rw [List.length_take, Nat.min_eq_left hi] at hl
  rw [e, show n = (Rp 0 (l.take i)).length by omega, List.drop_left]
theorem rp_noAny (l : List Pi) : noAny (Rp 0 l) := noAny_rows (fun x => by simp [noAny]) _
/-- Keys rise. -/
def Rise (l : List Pi) : Prop := l.Pairwise fun a b => ltK a.key b.key = true
/-- How many are below a key; is it there? -/
def rankP (l : List Pi) (k : ByteArray) : Nat := (l.takeWhile fun p => ltK p.key k).length
def hasP' (l : List Pi) (k : ByteArray) : Bool := match l[rankP l k]? with | some p => decide (p.key = k) | none => false
theorem rankP_le (l : List Pi) (k : ByteArray) : rankP l k ≤ l.length := (List.takeWhile_sublist _).length_le
theorem rankP_eq : ∀ {l : List Pi} {k : ByteArray} {i : Nat}, i ≤ l.length → (∀ q (h : q < l.length), q < i → ltK l[q].key k = true) → (∀ q (h : q < l.length), i ≤ q → ltK l[q].key k = false) → rankP l k = i
  | [], k, i, hi, _, _ => by simp at hi; subst hi; rfl
  | p :: l, k, 0, hi, h1, h2 => by
    have := h2 0 (by simp) (Nat.le_refl _)
    simp only [List.getElem_cons_zero] at this
    simp [rankP, List.takeWhile_cons, this]
  | p :: l, k, i + 1, hi, h1, h2 => by
    have h0 := h1 0 (by simp) (by omega)
    simp only [List.getElem_cons_zero] at h0
    have ih := rankP_eq (l := l) (k := k) (i := i) (by simpa using hi) (fun q h hq => h1 (q + 1) (by simp only [List.length_cons]; omega) (by omega)) (fun q h hq => h2 (q + 1) (by simp only [List.length_cons]; omega) (by omega))
    simp only [rankP] at ih
    simp [rankP, List.takeWhile_cons, h0, ih]
theorem Rise.lt {l : List Pi} (h : Rise l) {i j : Nat} (hi : i < l.length) (hj : j < l.length) (hij : i < j) : ltK l[i].key l[j].key = true := List.pairwise_iff_getElem.1 h i j hi hj hij
/- (*quidnunc/table.Table[int]).find$1 -/
noncomputable def c48_1 : ACode := .region false [⟨some 2, .box 0, [.t 0], none⟩,
  ⟨some 4, .move, [.c (.val (.int .i64 0))], none⟩] [] [] [1, 2] true [] []
noncomputable def c48_3 : ACode := .region false [⟨some 5, .addr 0, [.t 2], none⟩,
  ⟨some 6, .load false 1, [.t 5], none⟩,
  ⟨some 7, .move, [.t 1], none⟩,
  ⟨some 8, .call 44, [.t 6, .t 7], none⟩,
  ⟨some 4, .move, [.t 8], none⟩] [] [] [4] true [] []
noncomputable def c48_2 : ACode := .seq c48_3 .ret
noncomputable def c48_0 : ACode := .seq c48_1 c48_2
noncomputable def code48 : Code := (Try.f48.body).getD .skip
theorem c48_ok : compC Try.prog 9 code48 = some (strip c48_0) := by kernel_rfl
theorem res48_ok : Try.f48.results.toList.mapM (resC Try.prog) = some [(4, none)] := by kernel_rfl
/- slices.BinarySearchFunc[[]quidnunc/table.Pair[int],quidnunc/table.Pair[int],string] -/
noncomputable def c47_1 : ACode := .region false [⟨some 6, .move, [.c (.val (.int .i64 0))], none⟩,
  ⟨some 7, .move, [.c (.val (.bool false))], none⟩] [] [] [0, 1, 2] false [] []
noncomputable def c47_3 : ACode := .region false [⟨some 12, .move, [.t 0], none⟩,
  ⟨some 13, .len, [.t 12], none⟩,
  ⟨some 8, .move, [.t 13], none⟩] [] [] [0, 1, 2, 8] false [] []
noncomputable def c47_5 : ACode := .region false [⟨some 14, .move, [.t 8], none⟩,
  ⟨some 9, .move, [.c (.val (.int .i64 0))], none⟩,
  ⟨some 10, .move, [.t 14], none⟩] [] [] [0, 1, 2, 8, 9, 10] false [] []
noncomputable def c47_11 : ACode := .region false [⟨some 15, .move, [.t 9], none⟩,
  ⟨some 16, .move, [.t 10], none⟩,
  ⟨some 17, .bin .lss, [.t 15, .t 16], none⟩] [] [] [0, 1, 2, 8, 9, 10, 17] false [] []
noncomputable def c47_12 : ACode := .cond (.t 17) .skip (.exit 0)
noncomputable def c47_10 : ACode := .seq c47_11 c47_12
noncomputable def c47_15 : ACode := .region false [⟨some 18, .move, [.t 9], none⟩,
  ⟨some 19, .move, [.t 10], none⟩,
  ⟨some 20, .bin .add, [.t 18, .t 19], none⟩,
  ⟨some 21, .conv .u64, [.t 20], none⟩,
  ⟨some 22, .bin .shr, [.t 21, .c (.val (.int .u64 1))], none⟩,
  ⟨some 23, .conv .i64, [.t 22], none⟩,
  ⟨some 11, .move, [.t 23], none⟩] [] [] [0, 1, 2, 8, 9, 10, 11] false [] []
noncomputable def c47_17 : ACode := .region false [⟨some 24, .move, [.t 2], none⟩,
  ⟨some 25, .move, [.t 0], none⟩,
  ⟨some 26, .move, [.t 11], none⟩,
  ⟨some 27, .ixS 2, [.t 25, .t 26], none⟩,
  ⟨some 28, .load true 2, [.t 27], none⟩,
  ⟨some 29, .move, [.t 1], none⟩,
  ⟨some 30, .callv, [.t 24, .t 28, .t 29], none⟩,
  ⟨some 31, .bin .lss, [.t 30, .c (.val (.int .i64 0))], none⟩] [] [] [0, 1, 2, 8, 9, 10, 11, 31] true [] []
noncomputable def c47_19 : ACode := .region false [⟨some 32, .move, [.t 11], none⟩,
  ⟨some 33, .bin .add, [.t 32, .c (.val (.int .i64 1))], none⟩,
  ⟨some 9, .move, [.t 33], none⟩] [] [] [0, 1, 2, 8, 9, 10] false [] []
noncomputable def c47_20 : ACode := .region false [⟨some 34, .move, [.t 11], none⟩,
  ⟨some 10, .move, [.t 34], none⟩] [] [] [0, 1, 2, 8, 9, 10] false [] []
noncomputable def c47_18 : ACode := .cond (.t 31) c47_19 c47_20
noncomputable def c47_16 : ACode := .seq c47_17 c47_18
noncomputable def c47_14 : ACode := .seq c47_15 c47_16
noncomputable def c47_13 : ACode := .block 1 c47_14
noncomputable def c47_9 : ACode := .seq c47_10 c47_13
noncomputable def c47_8 : ACode := .loop c47_9
noncomputable def c47_7 : ACode := .block 0 c47_8
noncomputable def c47_22 : ACode := .region false [⟨some 35, .move, [.t 9], none⟩,
  ⟨some 36, .move, [.t 9], none⟩,
  ⟨some 37, .move, [.t 8], none⟩,
  ⟨some 38, .bin .lss, [.t 36, .t 37], none⟩,
  ⟨some 39, .move, [.t 38], none⟩,
  ⟨some 40, .move, [.t 2], some (some 39, true)⟩,
  ⟨some 41, .move, [.t 0], some (some 39, true)⟩,
  ⟨some 42, .move, [.t 9], some (some 39, true)⟩,
  ⟨some 43, .ixS 2, [.t 41, .t 42], some (some 39, true)⟩,
  ⟨some 44, .load true 2, [.t 43], some (some 39, true)⟩,
  ⟨some 45, .move, [.t 1], some (some 39, true)⟩,
  ⟨some 46, .callv, [.t 40, .t 44, .t 45], some (some 39, true)⟩,
  ⟨some 47, .bin .eql, [.t 46, .c (.val (.int .i64 0))], some (some 39, true)⟩,
  ⟨some 48, .pick, [.t 39, .t 47, .c (.val (.bool false))], none⟩,
  ⟨some 6, .move, [.t 35], none⟩,
  ⟨some 7, .move, [.t 48], none⟩] [] [] [6, 7] true [] []
noncomputable def c47_21 : ACode := .seq c47_22 .ret
noncomputable def c47_6 : ACode := .seq c47_7 c47_21
noncomputable def c47_4 : ACode := .seq c47_5 c47_6
noncomputable def c47_2 : ACode := .seq c47_3 c47_4
noncomputable def c47_0 : ACode := .seq c47_1 c47_2
noncomputable def code47 : Code := (Try.f47.body).getD .skip
theorem c47_ok : compC Try.prog 49 code47 = some (strip c47_0) := by kernel_rfl
theorem res47_ok : Try.f47.results.toList.mapM (resC Try.prog) = some [(6, none), (7, none)] := by kernel_rfl
/- (*quidnunc/table.Table[int]).find -/
noncomputable def c33_1 : ACode := .region false [⟨some 4, .move, [.c (.val (.int .i64 0))], none⟩,
  ⟨some 5, .move, [.c (.val (.bool false))], none⟩] [] [] [0, 1] false [] []
noncomputable def c33_3 : ACode := .region false [⟨some 6, .move, [.t 0], none⟩,
  ⟨some 7, .nilChk, [.t 6], none⟩,
  ⟨some 8, .addr 1, [.t 7], none⟩,
  ⟨some 9, .load false 1, [.t 8], none⟩,
  ⟨some 10, .move, [.t 1], none⟩,
  ⟨some 11, .call 47, [.t 9, .t 10, .c (.fn 48 [] [])], none⟩,
  ⟨some 12, .ext 0, [.t 11], none⟩,
  ⟨some 13, .ext 1, [.t 11], none⟩,
  ⟨some 4, .move, [.t 12], none⟩,
  ⟨some 5, .move, [.t 13], none⟩] [] [] [4, 5] true [] []
noncomputable def c33_2 : ACode := .seq c33_3 .ret
noncomputable def c33_0 : ACode := .seq c33_1 c33_2
noncomputable def code33 : Code := (Try.f33.body).getD .skip
theorem c33_ok : compC Try.prog 14 code33 = some (strip c33_0) := by kernel_rfl
theorem res33_ok : Try.f33.results.toList.mapM (resC Try.prog) = some [(4, none), (5, none)] := by kernel_rfl
theorem find1_any (p : Pi) (k : ByteArray) : ACall Try.prog 48 [PiG p, .val (.string k)] [] (Det (I (cmpK p.key k)) []) := by
  have c := cmpS_any p.key k
  refine ACall.startA c48_ok Try.func48 rfl Try.ntmps48 (by kernel_rfl) res48_ok rfl rfl rfl ?_; simp (maxSteps := 9999999) (disch := omega) only [go_sem]
  (have k9 := k0; (repeat' (first | refine AWpA.seq ?_ | refine AWpA.block ?_ | (with_reducible refine CondP.tt ?_) | (with_reducible refine CondP.ff ?_) | refine AWpA.cg ?_ | ((first | refine AWpA.rg ?_ | refine AWpA.dg [] [] follows ?_ | refine TailK.tg ?_ | refine AWpA.skip ?_ | refine AWpA.exit ?_ | refine AWpA.ret ?_ | (with_reducible refine ARoundsA.succ ?_) | ((first | refine Runs.gkt (fun h9 => ?_) | refine Runs.gkf (fun h9 => ?_) | refine Runs.gnt (fun h9 => ?_) | refine Runs.gnf (fun h9 => ?_) | refine CondP.gt (fun h9 => ?_) | refine CondP.gf (fun h9 => ?_) | refine CondP.gnt (fun h9 => ?_) | refine CondP.gnf (fun h9 => ?_)); (try simp only [h9]); clear h9) | refine CallG.pg [] (c) ?_ | refine CallG.dg [] (c) ?_); (try simp (maxSteps := 9999999) (disch := omega) only [go_sem, k9]); (try refine cnd ?_)) | ((first | refine CondP.split (fun hif => ?_) (fun hif => ?_) | refine Runs.part (fun hif => ?_) (fun hif => ?_)) <;> ((try simp only [hif]); (try simp only [BL] at hif); (try (have h9 : _ = true := hif; simp only [h9])); (try (have h9 : _ = false := hif; simp only [h9])); (try simp (maxSteps := 9999999) (disch := omega) only [go_sem, k9]); (try refine cnd ?_); (try (exfalso; omega; done)))))); (all_goals (try clear k9)))
  (apply Ret.det []; (focus (first | exact .inl rfl | exact .inr rfl)); (focus (simp (maxSteps := 9999999) (disch := omega) only [go_sem]; rfl)); (simp (maxSteps := 9999999) (disch := omega) only [go_sem]; (try (repeat' (first | done | trivial | rfl | exact leAs_rfl _ | decide | (refine And.intro ?_ ?_) | (simp; done) | omega | (simp; decide))))))
theorem bsf_any (off : Nat) (l : List Pi) (k : ByteArray) (hs : Rise l) (hl : l.length ≤ 1099511627776) : ACall Try.prog 47 [.sl 0 off l.length 2 none, .val (.string k), .fn 48 [] []] [.cells true (Rp off l)] (Det (.tup [I (rankP l k), Bo (hasP' l k)]) [.cells true (Rp off l)]) := by
  have hr := rp_ren off l
  have hlen := rp_len off l
  refine ACall.startA c47_ok Try.func47 rfl Try.ntmps47 (by kernel_rfl) res47_ok rfl rfl rfl ?_; simp (maxSteps := 9999999) (disch := omega) only [go_sem]
  (have k9 := And.intro @hr (k0); (repeat' (first | refine AWpA.seq ?_ | refine AWpA.block ?_ | (with_reducible refine CondP.tt ?_) | (with_reducible refine CondP.ff ?_) | refine AWpA.cg ?_ | ((first | refine AWpA.rg ?_ | refine AWpA.dg [] [] follows ?_ | refine TailK.tg ?_ | refine AWpA.skip ?_ | refine AWpA.exit ?_ | refine AWpA.ret ?_ | (with_reducible refine ARoundsA.succ ?_) | ((first | refine Runs.gkt (fun h9 => ?_) | refine Runs.gkf (fun h9 => ?_) | refine Runs.gnt (fun h9 => ?_) | refine Runs.gnf (fun h9 => ?_) | refine CondP.gt (fun h9 => ?_) | refine CondP.gf (fun h9 => ?_) | refine CondP.gnt (fun h9 => ?_) | refine CondP.gnf (fun h9 => ?_)); (try simp only [h9]); clear h9)); (try simp (maxSteps := 9999999) (disch := omega) only [go_sem, k9]); (try refine cnd ?_)) | ((first | refine CondP.split (fun hif => ?_) (fun hif => ?_) | refine Runs.part (fun hif => ?_) (fun hif => ?_)) <;> ((try simp only [hif]); (try simp only [BL] at hif); (try (have h9 : _ = true := hif; simp only [h9])); (try (have h9 : _ = false := hif; simp only [h9])); (try simp (maxSteps := 9999999) (disch := omega) only [go_sem, k9]); (try refine cnd ?_); (try (exfalso; omega; done)))))); (all_goals (try clear k9)))
  (apply AWpA.loopL (fun p : Nat × Nat => [(0, .sl 0 off l.length 2 none), (1, .val (.string k)), (2, .fn 48 [] []), (8, I l.length), (9, I p.1), (10, I p.2)]) (fun p => [.cells true (Rp off l)]) (fun p => p.2 - p.1) (fun p => p.1 ≤ p.2 ∧ p.2 ≤ l.length ∧ (∀ q (h : q < l.length), q < p.1 → ltK l[q].key k = true) ∧ (∀ q (h : q < l.length), p.2 ≤ q → ltK l[q].key k = false)) ((0, l.length)) [0]; rotate_left; (focus (simp (maxSteps := 9999999) (disch := omega) only [go_sem, hr]; (try (repeat' (first | done | trivial | rfl | exact leAs_rfl _ | decide | (refine And.intro ?_ ?_) | (simp; done) | omega | (simp; decide)))))); rotate_right)
  · exact ⟨Nat.zero_le _, Nat.le_refl _, fun q h hq => by simp at hq, fun q h hq => by simp only at hq; omega⟩
  rintro ⟨i, j⟩ ⟨hij, hj, h1, h2⟩
  (try simp only at hij hj h1 h2)
  by_cases hin : i < j
  · have g1 : ((i : Int) < (j : Int)) = True := eq_true (by omega)
    obtain ⟨m, hm⟩ : ∃ m, m = (i + j) / 2 := ⟨_, rfl⟩
    have hml : m < l.length := by omega
    have hat := rp_at off l m hml
    have c := find1_any l[m] k
    have hlt := cmpK_lt l[m].key k
    have hsm : ∀ q (h : q < l.length), q ≤ m → ltK l[m].key k = true → ltK l[q].key k = true := fun q h hq hk => by
      rcases Nat.lt_or_eq_of_le hq with h' | rfl
      · exact ltK_trans (hs.lt h hml h') hk
      · exact hk
    have hsn : ∀ q (h : q < l.length), m ≤ q → ltK l[m].key k = false → ltK l[q].key k = false := fun q h hq hk => by
      rcases Nat.lt_or_eq_of_le hq with h' | rfl
      · cases e : ltK l[q].key k with
        | false => rfl
        | true => rw [ltK_trans (hs.lt hml h h') e] at hk; cases hk
      · exact hk
    have hdv : Int.fdiv ((i : Int) + (j : Int)) (2 ^ min 1 64) = (m : Int) := by
      rw [show (2 : Int) ^ (min 1 64) = 2 by decide, Int.fdiv_eq_ediv_of_nonneg _ (by omega)]; omega
    generalize l[m] = x at *
    cases hk : ltK x.key k with
    | true =>
      have g2 : (cmpK x.key k < 0) = True := eq_true (hlt.2 hk)
      (try simp (maxSteps := 9999999) (disch := omega) only [go_sem])
      (have k9 := And.intro @hr (And.intro @hlen (And.intro @g1 (And.intro @g2 (And.intro @hat (And.intro @hdv (k0)))))); (repeat' (first | refine AWpA.seq ?_ | refine AWpA.block ?_ | (with_reducible refine CondP.tt ?_) | (with_reducible refine CondP.ff ?_) | refine AWpA.cg ?_ | ((first | refine AWpA.rg ?_ | refine AWpA.dg [] [] follows ?_ | refine TailK.tg ?_ | refine AWpA.skip ?_ | refine AWpA.exit ?_ | refine AWpA.ret ?_ | (with_reducible refine ARoundsA.succ ?_) | ((first | refine Runs.gkt (fun h9 => ?_) | refine Runs.gkf (fun h9 => ?_) | refine Runs.gnt (fun h9 => ?_) | refine Runs.gnf (fun h9 => ?_) | refine CondP.gt (fun h9 => ?_) | refine CondP.gf (fun h9 => ?_) | refine CondP.gnt (fun h9 => ?_) | refine CondP.gnf (fun h9 => ?_)); (try simp only [h9]); clear h9) | refine CallG.pg [] (c) ?_ | refine CallG.dg [] (c) ?_); (try simp (maxSteps := 9999999) (disch := omega) only [go_sem, k9]); (try refine cnd ?_)) | ((first | refine CondP.split (fun hif => ?_) (fun hif => ?_) | refine Runs.part (fun hif => ?_) (fun hif => ?_)) <;> ((try simp only [hif]); (try simp only [BL] at hif); (try (have h9 : _ = true := hif; simp only [h9])); (try (have h9 : _ = false := hif; simp only [h9])); (try simp (maxSteps := 9999999) (disch := omega) only [go_sem, k9]); (try refine cnd ?_); (try (exfalso; omega; done)))))); (all_goals (try clear k9)))
      (apply Back.to (m + 1, j) [0]; (focus ((try simp (maxSteps := 9999999) (disch := omega) only [go_sem, hr]); first | done | omega)); rotate_left; (focus (simp (maxSteps := 9999999) (disch := omega) only [go_sem, hr]; (try (repeat' (first | done | trivial | rfl | exact leAs_rfl _ | decide | (refine And.intro ?_ ?_) | (simp; done) | omega | (simp; decide)))))))
      exact ⟨by simp only; omega, hj, fun q h hq => hsm q h (by simp only at hq; omega) hk, h2⟩
    | false =>
      have g2 : (cmpK x.key k < 0) = False := eq_false (fun e => by rw [hlt.1 e] at hk; cases hk)
      (try simp (maxSteps := 9999999) (disch := omega) only [go_sem])
      (have k9 := And.intro @hr (And.intro @hlen (And.intro @g1 (And.intro @g2 (And.intro @hat (And.intro @hdv (k0)))))); (repeat' (first | refine AWpA.seq ?_ | refine AWpA.block ?_ | (with_reducible refine CondP.tt ?_) | (with_reducible refine CondP.ff ?_) | refine AWpA.cg ?_ | ((first | refine AWpA.rg ?_ | refine AWpA.dg [] [] follows ?_ | refine TailK.tg ?_ | refine AWpA.skip ?_ | refine AWpA.exit ?_ | refine AWpA.ret ?_ | (with_reducible refine ARoundsA.succ ?_) | ((first | refine Runs.gkt (fun h9 => ?_) | refine Runs.gkf (fun h9 => ?_) | refine Runs.gnt (fun h9 => ?_) | refine Runs.gnf (fun h9 => ?_) | refine CondP.gt (fun h9 => ?_) | refine CondP.gf (fun h9 => ?_) | refine CondP.gnt (fun h9 => ?_) | refine CondP.gnf (fun h9 => ?_)); (try simp only [h9]); clear h9) | refine CallG.pg [] (c) ?_ | refine CallG.dg [] (c) ?_); (try simp (maxSteps := 9999999) (disch := omega) only [go_sem, k9]); (try refine cnd ?_)) | ((first | refine CondP.split (fun hif => ?_) (fun hif => ?_) | refine Runs.part (fun hif => ?_) (fun hif => ?_)) <;> ((try simp only [hif]); (try simp only [BL] at hif); (try (have h9 : _ = true := hif; simp only [h9])); (try (have h9 : _ = false := hif; simp only [h9])); (try simp (maxSteps := 9999999) (disch := omega) only [go_sem, k9]); (try refine cnd ?_); (try (exfalso; omega; done)))))); (all_goals (try clear k9)))
      (apply Back.to (i, m) [0]; (focus ((try simp (maxSteps := 9999999) (disch := omega) only [go_sem, hr]); first | done | omega)); rotate_left; (focus (simp (maxSteps := 9999999) (disch := omega) only [go_sem, hr]; (try (repeat' (first | done | trivial | rfl | exact leAs_rfl _ | decide | (refine And.intro ?_ ?_) | (simp; done) | omega | (simp; decide)))))))
      exact ⟨by simp only; omega, by simp only; omega, h1, fun q h hq => hsn q h hq hk⟩
  · obtain rfl : i = j := by omega
    have g1 : ((i : Int) < (i : Int)) = False := eq_false (by omega)
    have hrk : rankP l k = i := rankP_eq hj h1 h2
    rcases Nat.lt_or_ge i l.length with hil | hil
    · have g2 : ((i : Int) < (l.length : Int)) = True := eq_true (by omega)
      have hat := rp_at off l i hil
      have c := find1_any l[i] k
      have hh : hasP' l k = decide (l[i].key = k) := by unfold hasP'; rw [hrk, List.getElem?_eq_getElem hil]
      have hc0 : (cmpK l[i].key k == 0) = decide (l[i].key = k) := by
        by_cases e : l[i].key = k
        · rw [decide_eq_true e, (cmpK_eq _ _).2 e]; rfl
        · rw [decide_eq_false e]; simpa using fun h => e ((cmpK_eq _ _).1 h)
      rw [hh, hrk]
      clear h1 h2 hh
      generalize l[i] = x at *
      generalize decide (x.key = k) = bb at *
      (try simp (maxSteps := 9999999) (disch := omega) only [go_sem])
      (have k9 := And.intro @hr (And.intro @hlen (And.intro @g1 (And.intro @g2 (And.intro @hat (And.intro @hc0 (k0)))))); (repeat' (first | refine AWpA.seq ?_ | refine AWpA.block ?_ | (with_reducible refine CondP.tt ?_) | (with_reducible refine CondP.ff ?_) | refine AWpA.cg ?_ | ((first | refine AWpA.rg ?_ | refine AWpA.dg [] [] follows ?_ | refine TailK.tg ?_ | refine AWpA.skip ?_ | refine AWpA.exit ?_ | refine AWpA.ret ?_ | (with_reducible refine ARoundsA.succ ?_) | ((first | refine Runs.gkt (fun h9 => ?_) | refine Runs.gkf (fun h9 => ?_) | refine Runs.gnt (fun h9 => ?_) | refine Runs.gnf (fun h9 => ?_) | refine CondP.gt (fun h9 => ?_) | refine CondP.gf (fun h9 => ?_) | refine CondP.gnt (fun h9 => ?_) | refine CondP.gnf (fun h9 => ?_)); (try simp only [h9]); clear h9) | refine CallG.pg [] (c) ?_ | refine CallG.dg [] (c) ?_); (try simp (maxSteps := 9999999) (disch := omega) only [go_sem, k9]); (try refine cnd ?_)) | ((first | refine CondP.split (fun hif => ?_) (fun hif => ?_) | refine Runs.part (fun hif => ?_) (fun hif => ?_)) <;> ((try simp only [hif]); (try simp only [BL] at hif); (try (have h9 : _ = true := hif; simp only [h9])); (try (have h9 : _ = false := hif; simp only [h9])); (try simp (maxSteps := 9999999) (disch := omega) only [go_sem, k9]); (try refine cnd ?_); (try (exfalso; omega; done)))))); (all_goals (try clear k9)))
      (apply Ret.det [0]; (focus (first | exact .inl rfl | exact .inr rfl)); (focus (simp (maxSteps := 9999999) (disch := omega) only [go_sem, hr]; rfl)); (simp (maxSteps := 9999999) (disch := omega) only [go_sem, hr]; (try (repeat' (first | done | trivial | rfl | exact leAs_rfl _ | decide | (refine And.intro ?_ ?_) | (simp; done) | omega | (simp; decide))))))
    · obtain rfl : i = l.length := by omega
      have g2 : ((l.length : Int) < (l.length : Int)) = False := eq_false (by omega)
      have hh : hasP' l k = false := by unfold hasP'; rw [hrk, List.getElem?_eq_none (Nat.le_refl _)]
      rw [hh, hrk]
      clear h1 h2
      (try simp (maxSteps := 9999999) (disch := omega) only [go_sem])
      (have k9 := And.intro @hr (And.intro @hlen (And.intro @g1 (And.intro @g2 (k0)))); (repeat' (first | refine AWpA.seq ?_ | refine AWpA.block ?_ | (with_reducible refine CondP.tt ?_) | (with_reducible refine CondP.ff ?_) | refine AWpA.cg ?_ | ((first | refine AWpA.rg ?_ | refine AWpA.dg [] [] follows ?_ | refine TailK.tg ?_ | refine AWpA.skip ?_ | refine AWpA.exit ?_ | refine AWpA.ret ?_ | (with_reducible refine ARoundsA.succ ?_) | ((first | refine Runs.gkt (fun h9 => ?_) | refine Runs.gkf (fun h9 => ?_) | refine Runs.gnt (fun h9 => ?_) | refine Runs.gnf (fun h9 => ?_) | refine CondP.gt (fun h9 => ?_) | refine CondP.gf (fun h9 => ?_) | refine CondP.gnt (fun h9 => ?_) | refine CondP.gnf (fun h9 => ?_)); (try simp only [h9]); clear h9)); (try simp (maxSteps := 9999999) (disch := omega) only [go_sem, k9]); (try refine cnd ?_)) | ((first | refine CondP.split (fun hif => ?_) (fun hif => ?_) | refine Runs.part (fun hif => ?_) (fun hif => ?_)) <;> ((try simp only [hif]); (try simp only [BL] at hif); (try (have h9 : _ = true := hif; simp only [h9])); (try (have h9 : _ = false := hif; simp only [h9])); (try simp (maxSteps := 9999999) (disch := omega) only [go_sem, k9]); (try refine cnd ?_); (try (exfalso; omega; done)))))); (all_goals (try clear k9)))
      (apply Ret.det [0]; (focus (first | exact .inl rfl | exact .inr rfl)); (focus (simp (maxSteps := 9999999) (disch := omega) only [go_sem, hr]; rfl)); (simp (maxSteps := 9999999) (disch := omega) only [go_sem, hr]; (try (repeat' (first | done | trivial | rfl | exact leAs_rfl _ | decide | (refine And.intro ?_ ?_) | (simp; done) | omega | (simp; decide))))))
end Go.Proofs.Ytodnlihbmgigjaa
