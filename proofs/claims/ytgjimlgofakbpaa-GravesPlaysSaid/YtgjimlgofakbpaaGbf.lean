/- Contract: the document's graves: one set. -/
import Derived.Test.YtgjimlgofakbpaaGbe
namespace Go.Proofs.Ytgjimlgofakbpaa
set_option linter.unusedSimpArgs false
set_option linter.unusedVariables false
set_option maxHeartbeats 4000000
open Go Go.Am Go.RowKit
set_option maxRecDepth 100000
/- quidnunc/quidnuncref11.Set -/
noncomputable def c73_1 : ACode := .region false [⟨some 3, .box 0, [.t 1], none⟩,
  ⟨some 4, .move, [.c (.val (.slice none 0 0))], none⟩] [] [] [0, 3] true [] []
noncomputable def c73_3 : ACode := .region false [⟨some 8, .buildSl 9 0 [(.string ⟨#[]⟩), (.string ⟨#[]⟩), (.bool false), (.int .i64 0), (.int .i64 0), (.int .i64 0), (.int .i64 0), (.int .i64 0), (.int .i64 0)] [], [], none⟩,
  ⟨some 5, .move, [.t 8], none⟩] [] [] [0, 3, 5] true [] []
noncomputable def c73_5 : ACode := .region false [⟨some 6, .move, [.c (.val (.bool false))], none⟩] [] [] [0, 3, 5, 6] false [] []
noncomputable def c73_8 : ACode := .region false [⟨some 7, .move, [.c (.val (.int .i64 0))], none⟩] [] [] [0, 3, 5, 6, 7] false [] []
noncomputable def c73_13 : ACode := .region false [⟨some 9, .move, [.t 7], none⟩,
  ⟨some 10, .move, [.t 0], none⟩,
  ⟨some 11, .len, [.t 10], none⟩,
  ⟨some 12, .bin .lss, [.t 9, .t 11], none⟩] [] [] [0, 3, 5, 6, 7, 12] false [] []
noncomputable def c73_14 : ACode := .cond (.t 12) .skip (.exit 0)
noncomputable def c73_12 : ACode := .seq c73_13 c73_14
noncomputable def c73_19 : ACode := .region true [⟨some 15, .move, [.t 6], none⟩,
  ⟨some 16, .un .not, [.t 15], none⟩,
  ⟨some 17, .move, [.t 16], none⟩,
  ⟨some 18, .move, [.t 0], some (some 17, true)⟩,
  ⟨some 19, .move, [.t 7], some (some 17, true)⟩,
  ⟨some 20, .ixS 9, [.t 18, .t 19], some (some 17, true)⟩,
  ⟨some 21, .addr 0, [.t 20], some (some 17, true)⟩,
  ⟨some 22, .load false 1, [.t 21], some (some 17, true)⟩,
  ⟨some 23, .addr 0, [.t 3], some (some 17, true)⟩,
  ⟨some 24, .load false 1, [.t 23], some (some 17, true)⟩,
  ⟨some 25, .bin .geq, [.t 22, .t 24], some (some 17, true)⟩,
  ⟨some 26, .pick, [.t 17, .t 25, .c (.val (.bool false))], none⟩] [] [] [0, 3, 5, 6, 7, 26] false [] []
noncomputable def c73_22 : ACode := .region false [⟨some 27, .move, [.t 5], none⟩,
  ⟨some 28, .load true 9, [.t 3], none⟩,
  ⟨some 29, .buildSl 9 1 [(.string ⟨#[]⟩), (.string ⟨#[]⟩), (.bool false), (.int .i64 0), (.int .i64 0), (.int .i64 0), (.int .i64 0), (.int .i64 0), (.int .i64 0)] [(0, 9)], [.t 28], none⟩,
  ⟨some 30, .append 9 88 false, [.t 27, .t 29], none⟩,
  ⟨some 5, .move, [.t 30], none⟩] [] [] [0, 3, 5, 7] true [] []
noncomputable def c73_23 : ACode := .region false [⟨some 6, .move, [.c (.val (.bool true))], none⟩] [] [] [0, 3, 5, 6, 7] false [] []
noncomputable def c73_21 : ACode := .seq c73_22 c73_23
noncomputable def c73_20 : ACode := .cond (.t 26) c73_21 .skip
noncomputable def c73_18 : ACode := .seq c73_19 c73_20
noncomputable def c73_25 : ACode := .region true [⟨some 31, .move, [.t 0], none⟩,
  ⟨some 32, .move, [.t 7], none⟩,
  ⟨some 33, .ixS 9, [.t 31, .t 32], none⟩,
  ⟨some 34, .addr 0, [.t 33], none⟩,
  ⟨some 35, .load false 1, [.t 34], none⟩,
  ⟨some 36, .addr 0, [.t 3], none⟩,
  ⟨some 37, .load false 1, [.t 36], none⟩,
  ⟨some 38, .bin .neq, [.t 35, .t 37], none⟩] [] [] [0, 3, 5, 6, 7, 38] false [] []
noncomputable def c73_27 : ACode := .region false [⟨some 39, .move, [.t 5], none⟩,
  ⟨some 40, .move, [.t 0], none⟩,
  ⟨some 41, .move, [.t 7], none⟩,
  ⟨some 42, .ixS 9, [.t 40, .t 41], none⟩,
  ⟨some 43, .load true 9, [.t 42], none⟩,
  ⟨some 44, .buildSl 9 1 [(.string ⟨#[]⟩), (.string ⟨#[]⟩), (.bool false), (.int .i64 0), (.int .i64 0), (.int .i64 0), (.int .i64 0), (.int .i64 0), (.int .i64 0)] [(0, 9)], [.t 43], none⟩,
  ⟨some 45, .append 9 88 false, [.t 39, .t 44], none⟩,
  ⟨some 5, .move, [.t 45], none⟩] [] [] [0, 3, 5, 6, 7] true [] []
noncomputable def c73_26 : ACode := .cond (.t 38) c73_27 .skip
noncomputable def c73_24 : ACode := .seq c73_25 c73_26
noncomputable def c73_17 : ACode := .seq c73_18 c73_24
noncomputable def c73_16 : ACode := .block 1 c73_17
noncomputable def c73_28 : ACode := .region false [⟨some 13, .move, [.t 7], none⟩,
  ⟨some 14, .bin .add, [.t 13, .c (.val (.int .i64 1))], none⟩,
  ⟨some 7, .move, [.t 14], none⟩] [] [] [0, 3, 5, 6, 7] false [] []
noncomputable def c73_15 : ACode := .seq c73_16 c73_28
noncomputable def c73_11 : ACode := .seq c73_12 c73_15
noncomputable def c73_10 : ACode := .loop c73_11
noncomputable def c73_9 : ACode := .block 0 c73_10
noncomputable def c73_7 : ACode := .seq c73_8 c73_9
noncomputable def c73_31 : ACode := .region false [⟨some 46, .move, [.t 6], none⟩,
  ⟨some 47, .un .not, [.t 46], none⟩] [] [] [3, 5, 47] false [] []
noncomputable def c73_33 : ACode := .region false [⟨some 48, .move, [.t 5], none⟩,
  ⟨some 49, .load true 9, [.t 3], none⟩,
  ⟨some 50, .buildSl 9 1 [(.string ⟨#[]⟩), (.string ⟨#[]⟩), (.bool false), (.int .i64 0), (.int .i64 0), (.int .i64 0), (.int .i64 0), (.int .i64 0), (.int .i64 0)] [(0, 9)], [.t 49], none⟩,
  ⟨some 51, .append 9 88 false, [.t 48, .t 50], none⟩,
  ⟨some 5, .move, [.t 51], none⟩] [] [] [5] true [] []
noncomputable def c73_32 : ACode := .cond (.t 47) c73_33 .skip
noncomputable def c73_30 : ACode := .seq c73_31 c73_32
noncomputable def c73_35 : ACode := .region false [⟨some 52, .move, [.t 5], none⟩,
  ⟨some 4, .move, [.t 52], none⟩] [] [] [4] false [] []
noncomputable def c73_34 : ACode := .seq c73_35 .ret
noncomputable def c73_29 : ACode := .seq c73_30 c73_34
noncomputable def c73_6 : ACode := .seq c73_7 c73_29
noncomputable def c73_4 : ACode := .seq c73_5 c73_6
noncomputable def c73_2 : ACode := .seq c73_3 c73_4
noncomputable def c73_0 : ACode := .seq c73_1 c73_2
noncomputable def code73 : Code := (Try.f73.body).getD .skip
theorem c73_ok : compC Try.prog 53 code73 = some (strip c73_0) := by kernel_rfl
theorem res73_ok : Try.f73.results.toList.mapM (resC Try.prog) = some [(4, none)] := by kernel_rfl
def outS (L : List En) (r : Nat) (has : Bool) (e : En) (i : Nat) : List En := if i ≤ r then L.take i else L.take r ++ e :: (L.take i).drop (if has = true then r + 1 else r)
theorem outS_low {L : List En} {r : Nat} {has : Bool} {e : En} {i : Nat} (h : i < r) (hi : i < L.length) : outS L r has e (i + 1) = outS L r has e i ++ [L[i]] := by
  unfold outS
  rw [if_pos (by omega), if_pos (by omega), List.take_succ_eq_append_getElem hi]
theorem outS_at {L : List En} {has : Bool} {e : En} {i : Nat} (hi : i < L.length) : outS L i has e (i + 1) = outS L i has e i ++ (if has = true then [e] else [e, L[i]]) := by
  unfold outS
  rw [if_neg (by omega), if_pos (Nat.le_refl _)]
  have hl : (L.take (i + 1)).length = i + 1 := by simp; omega
  congr 1
  cases has with
  | true => rw [if_pos rfl, if_pos rfl, List.drop_of_length_le (by omega)]
  | false =>
    rw [if_neg (by decide), if_neg (by decide), List.take_succ_eq_append_getElem hi, List.drop_append_of_le_length (by simp; omega), List.drop_of_length_le (by simp; omega)]
    rfl
theorem outS_high {L : List En} {r : Nat} {has : Bool} {e : En} {i : Nat} (h : r < i) (hi : i < L.length) : outS L r has e (i + 1) = outS L r has e i ++ [L[i]] := by
  unfold outS
  rw [if_neg (show ¬ i + 1 ≤ r by omega), if_neg (show ¬ i ≤ r by omega), List.take_succ_eq_append_getElem hi]
  have hl : (L.take i).length = i := by simp; omega
  rw [List.drop_append_of_le_length (by split <;> omega)]
  simp
theorem outS_len {L : List En} {r : Nat} {has : Bool} {e : En} {i : Nat} : (outS L r has e i).length ≤ i + 1 := by
  unfold outS
  split
  · simp; omega
  · simp only [List.length_append, List.length_cons, List.length_drop, List.length_take]
    split <;> omega
theorem outS_end {l : List PE} (e : En) : (if Ue.rankP l e.key < l.length then outS (vsP l) (Ue.rankP l e.key) (Ue.hasP' l e.key) e l.length else outS (vsP l) (Ue.rankP l e.key) (Ue.hasP' l e.key) e l.length ++ [e]) = vsP (Ue.putP l e.key e) := by
  have hle := Ue.rankP_le l e.key
  have hv : (vsP l).take l.length = vsP l := List.take_of_length_le (by rw [vs_len]; omega)
  have hput : vsP (Ue.putP l e.key e) = (vsP l).take (Ue.rankP l e.key) ++ e :: (vsP l).drop (if Ue.hasP' l e.key = true then Ue.rankP l e.key + 1 else Ue.rankP l e.key) := by
    unfold Ue.putP vsP
    cases hh : Ue.hasP' l e.key with
    | true => simp [List.map_take, List.map_drop]
    | false => simp [List.map_take, List.map_drop]
  rw [hput]
  unfold outS
  by_cases h : Ue.rankP l e.key < l.length
  · rw [if_pos h, if_neg (by omega), hv]
  · have hr : Ue.rankP l e.key = l.length := by omega
    have hh : Ue.hasP' l e.key = false := by
      cases hq : Ue.hasP' l e.key with
      | false => rfl
      | true => exact absurd (Ue.hasP_lt hq) h
    rw [if_neg h, if_pos (by omega), hh, if_neg (by decide), hr, hv, List.drop_of_length_le (by rw [vs_len]; omega)]
theorem set_lt {l : List PE} (h : Ue.Rise l) (hk : ∀ p ∈ l, p.v.key = p.key) (k : ByteArray) {i : Nat} (hi : i < (vsP l).length) : ltK (vsP l)[i].key k = decide (i < Ue.rankP l k) ∧ ((vsP l)[i].key == k) = (decide (i = Ue.rankP l k) && Ue.hasP' l k) := by
  have hi2 : i < l.length := by rw [vs_len] at hi; exact hi
  rw [List.getElem_map, hk _ (List.getElem_mem hi2)]
  refine ⟨Ue.lt_rank h k i hi2, ?_⟩
  rw [ba_dec]
  by_cases hq : l[i].key = k
  · have h1 := Ue.rank_at h hi2
    have h2 := Ue.has_at h hi2
    rw [hq] at h1 h2
    rw [h2, decide_eq_true hq, decide_eq_true h1.symm]; rfl
  · rw [decide_eq_false hq]
    symm
    rw [Bool.and_eq_false_iff]
    by_cases h3 : i = Ue.rankP l k
    · right
      cases h4 : Ue.hasP' l k with
      | false => rfl
      | true =>
        have := Ue.hasP_key h4
        subst h3
        exact absurd this hq
    · left; exact decide_eq_false h3
attribute [irreducible] outS
theorem rset_any (l : List PE) (e : En) (hl : l.length ≤ 1099511627776) (h : Ue.Rise l) (hk : ∀ p ∈ l, p.v.key = p.key) : ACall Try.prog 73 [.sl 0 0 l.length 9 none, EnA e] [.cells true (Re 0 (vsP l))] (Det (.sl 1 0 (Ue.putP l e.key e).length 9 none) [.cells true (Re 0 (vsP l)), .cells false (Re 0 (vsP (Ue.putP l e.key e)))]) := by
  have hr := re_ren
  have hL := re_len 0 (vsP l)
  have hvl := vs_len l
  have hend := outS_end (l := l) e
  have hpl : (Ue.putP l e.key e).length = (vsP (Ue.putP l e.key e)).length := (vs_len _).symm
  have hst := fun i (hi : i < (vsP l).length) => set_lt h hk e.key hi
  have hlow := fun i => @outS_low (vsP l) (Ue.rankP l e.key) (Ue.hasP' l e.key) e i
  have hat0 := fun i (hi : i < (vsP l).length) (hq : i = Ue.rankP l e.key) => show outS (vsP l) (Ue.rankP l e.key) (Ue.hasP' l e.key) e (i + 1) = outS (vsP l) (Ue.rankP l e.key) (Ue.hasP' l e.key) e i ++ (if Ue.hasP' l e.key = true then [e] else [e, (vsP l)[i]]) from by subst hq; exact outS_at hi
  have hhigh := fun i => @outS_high (vsP l) (Ue.rankP l e.key) (Ue.hasP' l e.key) e i
  have hlen0 := fun i => @outS_len (vsP l) (Ue.rankP l e.key) (Ue.hasP' l e.key) e i
  have hz : outS (vsP l) (Ue.rankP l e.key) (Ue.hasP' l e.key) e 0 = [] := by unfold outS; simp
  have hrle := Ue.rankP_le l e.key
  rw [hpl]
  rw [hvl] at hL
  generalize vsP (Ue.putP l e.key e) = R at *
  generalize hO : outS (vsP l) (Ue.rankP l e.key) (Ue.hasP' l e.key) e = O at *
  generalize vsP l = L at *
  generalize Ue.rankP l e.key = r at *
  generalize Ue.hasP' l e.key = has at *
  rw [← hvl] at hL hl hrle hend ⊢
  clear hpl h hk hO hvl
  refine ACall.startA c73_ok Try.func73 rfl Try.ntmps73 (by kernel_rfl) res73_ok rfl rfl rfl ?_; simp (maxSteps := 9999999) (disch := omega) only [go_sem]
  refine AWpA.dummy ?_
  (repeat' (first | refine AWpA.seq ?_ | refine AWpA.block ?_ | (with_reducible refine CondP.tt ?_) | (with_reducible refine CondP.ff ?_) | refine AWpA.condv (by simp (maxSteps := 9999999) (disch := omega) only [go_sem, hr]; rfl) ?_ | ((first | (apply AWpA.region; (focus (simp (maxSteps := 9999999) (disch := omega) only [go_sem, hr]; rfl))) | (apply AWpA.draw [] [] follows; (focus (first | rfl | decide)); (focus (simp (maxSteps := 9999999) (disch := omega) only [go_sem, hr]; rfl)); (focus (simp (maxSteps := 9999999) (disch := omega) only [go_sem, hr]; first | done | trivial)); (focus (simp (maxSteps := 9999999) (disch := omega) only [go_sem, hr]; rfl))) | (apply TailK.go; (focus (simp (maxSteps := 9999999) (disch := omega) only [go_sem, hr]; rfl))) | refine AWpA.skip ?_ | refine AWpA.exit ?_ | refine AWpA.ret ?_ | (with_reducible refine ARoundsA.succ ?_) | ((first | refine Runs.kt (by assumption) (fun h9 => ?_) | refine Runs.kf (by assumption) (fun h9 => ?_) | refine Runs.nt (by assumption) (fun h9 => ?_) | refine Runs.nf (by assumption) (fun h9 => ?_) | refine CondP.ht (by assumption) (fun h9 => ?_) | refine CondP.hf (by assumption) (fun h9 => ?_) | refine CondP.nt (by assumption) (fun h9 => ?_) | refine CondP.nf (by assumption) (fun h9 => ?_)); (try simp only [h9]); clear h9)); (try simp (maxSteps := 9999999) (disch := omega) only [go_sem, hr]); (try (refine And.intro ?_ ?_; (focus (first | omega | (simp only [go_sem]; done) | (simp; done) | (simp; omega) | assumption))))) | ((first | refine CondP.split (fun hif => ?_) (fun hif => ?_) | refine Runs.part (fun hif => ?_) (fun hif => ?_)) <;> ((try simp only [hif]); (try simp only [decide_eq_true_eq, decide_eq_false_iff_not, Bool.not_eq_true, Bool.not_eq_false, Bool.not_eq_true', Bool.not_eq_false', beq_iff_eq, bne_iff_ne, bne_eq_false_iff_eq, beq_eq_false_iff_ne, ne_eq, Bool.and_eq_true, Bool.or_eq_true, Bool.or_eq_false_iff] at hif); (try (have h9 : _ = true := hif; simp only [h9])); (try (have h9 : _ = false := hif; simp only [h9])); (try simp (maxSteps := 9999999) (disch := omega) only [go_sem, hr]); (try (refine And.intro ?_ ?_; (focus (first | omega | (simp only [go_sem]; done) | (simp; done) | (simp; omega) | assumption)))); (try (exfalso; omega; done))))))
  (apply AWpA.loopL (fun i : Nat => [(0, .sl 0 0 L.length 9 none), (3, .ptr 1 0), (5, .sl 2 0 (O i).length 9 none), (6, Bo (decide (r < i))), (7, I i)]) (fun i => [.cells true (Re 0 L), .cells false (EnL e), .cells false (Re 0 (O i))]) (fun i => L.length - i) (fun i => i ≤ L.length) (0) [0, _, _]; rotate_left; (focus (simp (maxSteps := 9999999) (disch := omega) only [go_sem, hr, hz, re_nil]; (try (repeat' (first | done | trivial | rfl | exact leAs_rfl _ | decide | (refine And.intro ?_ ?_) | (simp; done) | omega | (simp; decide)))))); rotate_right)
  · exact Nat.zero_le _
  rintro i hi
  (try simp only at hi)
  by_cases hin : i < L.length
  · have g1 : ((i : Int) < (L.length : Int)) = True := eq_true (by omega)
    have hat := re_at 0 L i hin
    have hkey := (re_fst L i hin).2.2.2
    rw [Nat.zero_add] at hat
    obtain ⟨s1, s2⟩ := hst i hin
    have hll := hlen0 i
    have hLo := re_len 0 (O i)
    rw [Nat.zero_add] at hLo
    have hfo := re_all (O i) (n := (O i).length * 9) rfl
    rcases Nat.lt_trichotomy i r with hir | hir | hir
    · have hn := hlow i hir hin
      have hon := re_app (O i) [L[i]]
      rw [re_one] at hon
      have d1 : decide (r < i) = false := decide_eq_false (by omega)
      have d2 : decide (r < i + 1) = false := decide_eq_false (by omega)
      rw [decide_eq_true hir] at s1
      rw [decide_eq_false (by omega), Bool.false_and] at s2
      clear hst hlow hat0 hhigh hend
      generalize L[i] = x at *
      generalize hoi : O i = o at *
      (try simp (maxSteps := 9999999) (disch := omega) only [go_sem])
      (repeat' (first | refine AWpA.seq ?_ | refine AWpA.block ?_ | (with_reducible refine CondP.tt ?_) | (with_reducible refine CondP.ff ?_) | refine AWpA.condv (by simp (maxSteps := 9999999) (disch := omega) only [go_sem, hr, hL, hLo, hat, hkey, g1, d1, ltK_def, s1, s2]; rfl) ?_ | ((first | (apply AWpA.region; (focus (simp (maxSteps := 9999999) (disch := omega) only [go_sem, hr, hL, hLo, hat, hkey, g1, d1, ltK_def, s1, s2]; rfl))) | (apply AWpA.draw [] [] follows; (focus (first | rfl | decide)); (focus (simp (maxSteps := 9999999) (disch := omega) only [go_sem, hr, hL, hLo, hat, hkey, g1, d1, ltK_def, s1, s2]; rfl)); (focus (simp (maxSteps := 9999999) (disch := omega) only [go_sem, hr, hL, hLo, hat, hkey, g1, d1, ltK_def, s1, s2]; first | done | trivial)); (focus (simp (maxSteps := 9999999) (disch := omega) only [go_sem, hr, hL, hLo, hat, hkey, g1, d1, ltK_def, s1, s2]; rfl))) | (apply TailK.go; (focus (simp (maxSteps := 9999999) (disch := omega) only [go_sem, hr, hL, hLo, hat, hkey, g1, d1, ltK_def, s1, s2]; rfl))) | refine AWpA.skip ?_ | refine AWpA.exit ?_ | refine AWpA.ret ?_ | (with_reducible refine ARoundsA.succ ?_) | ((first | refine Runs.kt (by assumption) (fun h9 => ?_) | refine Runs.kf (by assumption) (fun h9 => ?_) | refine Runs.nt (by assumption) (fun h9 => ?_) | refine Runs.nf (by assumption) (fun h9 => ?_) | refine CondP.ht (by assumption) (fun h9 => ?_) | refine CondP.hf (by assumption) (fun h9 => ?_) | refine CondP.nt (by assumption) (fun h9 => ?_) | refine CondP.nf (by assumption) (fun h9 => ?_)); (try simp only [h9]); clear h9)); (try simp (maxSteps := 9999999) (disch := omega) only [go_sem, hr, hL, hLo, hat, hkey, g1, d1, ltK_def, s1, s2]); (try (refine And.intro ?_ ?_; (focus (first | omega | (simp only [go_sem]; done) | (simp; done) | (simp; omega) | assumption))))) | ((first | refine CondP.split (fun hif => ?_) (fun hif => ?_) | refine Runs.part (fun hif => ?_) (fun hif => ?_)) <;> ((try simp only [hif]); (try simp only [decide_eq_true_eq, decide_eq_false_iff_not, Bool.not_eq_true, Bool.not_eq_false, Bool.not_eq_true', Bool.not_eq_false', beq_iff_eq, bne_iff_ne, bne_eq_false_iff_eq, beq_eq_false_iff_ne, ne_eq, Bool.and_eq_true, Bool.or_eq_true, Bool.or_eq_false_iff] at hif); (try (have h9 : _ = true := hif; simp only [h9])); (try (have h9 : _ = false := hif; simp only [h9])); (try simp (maxSteps := 9999999) (disch := omega) only [go_sem, hr, hL, hLo, hat, hkey, g1, d1, ltK_def, s1, s2]); (try (refine And.intro ?_ ?_; (focus (first | omega | (simp only [go_sem]; done) | (simp; done) | (simp; omega) | assumption)))); (try (exfalso; omega; done))))))
      (apply Back.to (i + 1) [0, 1, 483]; (focus ((try simp (maxSteps := 9999999) (disch := omega) only [go_sem, hr, hfo, hn, hon, d2, renL_append, List.length_append, List.length_singleton]); first | done | omega)); rotate_left; (focus (simp (maxSteps := 9999999) (disch := omega) only [go_sem, hr, hfo, hn, hon, d2, renL_append, List.length_append, List.length_singleton]; (try (repeat' (first | done | trivial | rfl | exact leAs_rfl _ | decide | (refine And.intro ?_ ?_) | (simp; done) | omega | (simp; decide)))))))
      omega
    · have hn := hat0 i hin hir
      have d1 : decide (r < i) = false := decide_eq_false (by omega)
      have d2 : decide (r < i + 1) = true := decide_eq_true (by omega)
      rw [decide_eq_false (by omega)] at s1
      rw [decide_eq_true hir, Bool.true_and] at s2
      cases has with
      | true =>
        rw [if_pos rfl] at hn
        have hon := re_app (O i) [e]
        rw [re_one] at hon
        clear hst hlow hat0 hhigh hend
        generalize L[i] = x at *
        generalize hoi : O i = o at *
        (try simp (maxSteps := 9999999) (disch := omega) only [go_sem])
        (repeat' (first | refine AWpA.seq ?_ | refine AWpA.block ?_ | (with_reducible refine CondP.tt ?_) | (with_reducible refine CondP.ff ?_) | refine AWpA.condv (by simp (maxSteps := 9999999) (disch := omega) only [go_sem, hr, hL, hLo, hat, hkey, g1, d1, ltK_def, s1, s2]; rfl) ?_ | ((first | (apply AWpA.region; (focus (simp (maxSteps := 9999999) (disch := omega) only [go_sem, hr, hL, hLo, hat, hkey, g1, d1, ltK_def, s1, s2]; rfl))) | (apply AWpA.draw [] [] follows; (focus (first | rfl | decide)); (focus (simp (maxSteps := 9999999) (disch := omega) only [go_sem, hr, hL, hLo, hat, hkey, g1, d1, ltK_def, s1, s2]; rfl)); (focus (simp (maxSteps := 9999999) (disch := omega) only [go_sem, hr, hL, hLo, hat, hkey, g1, d1, ltK_def, s1, s2]; first | done | trivial)); (focus (simp (maxSteps := 9999999) (disch := omega) only [go_sem, hr, hL, hLo, hat, hkey, g1, d1, ltK_def, s1, s2]; rfl))) | (apply TailK.go; (focus (simp (maxSteps := 9999999) (disch := omega) only [go_sem, hr, hL, hLo, hat, hkey, g1, d1, ltK_def, s1, s2]; rfl))) | refine AWpA.skip ?_ | refine AWpA.exit ?_ | refine AWpA.ret ?_ | (with_reducible refine ARoundsA.succ ?_) | ((first | refine Runs.kt (by assumption) (fun h9 => ?_) | refine Runs.kf (by assumption) (fun h9 => ?_) | refine Runs.nt (by assumption) (fun h9 => ?_) | refine Runs.nf (by assumption) (fun h9 => ?_) | refine CondP.ht (by assumption) (fun h9 => ?_) | refine CondP.hf (by assumption) (fun h9 => ?_) | refine CondP.nt (by assumption) (fun h9 => ?_) | refine CondP.nf (by assumption) (fun h9 => ?_)); (try simp only [h9]); clear h9)); (try simp (maxSteps := 9999999) (disch := omega) only [go_sem, hr, hL, hLo, hat, hkey, g1, d1, ltK_def, s1, s2]); (try (refine And.intro ?_ ?_; (focus (first | omega | (simp only [go_sem]; done) | (simp; done) | (simp; omega) | assumption))))) | ((first | refine CondP.split (fun hif => ?_) (fun hif => ?_) | refine Runs.part (fun hif => ?_) (fun hif => ?_)) <;> ((try simp only [hif]); (try simp only [decide_eq_true_eq, decide_eq_false_iff_not, Bool.not_eq_true, Bool.not_eq_false, Bool.not_eq_true', Bool.not_eq_false', beq_iff_eq, bne_iff_ne, bne_eq_false_iff_eq, beq_eq_false_iff_ne, ne_eq, Bool.and_eq_true, Bool.or_eq_true, Bool.or_eq_false_iff] at hif); (try (have h9 : _ = true := hif; simp only [h9])); (try (have h9 : _ = false := hif; simp only [h9])); (try simp (maxSteps := 9999999) (disch := omega) only [go_sem, hr, hL, hLo, hat, hkey, g1, d1, ltK_def, s1, s2]); (try (refine And.intro ?_ ?_; (focus (first | omega | (simp only [go_sem]; done) | (simp; done) | (simp; omega) | assumption)))); (try (exfalso; omega; done))))))
        (apply Back.to (i + 1) [0, 1, 307]; (focus ((try simp (maxSteps := 9999999) (disch := omega) only [go_sem, hr, hfo, hn, hon, d2, renL_append, List.length_append, List.length_singleton]); first | done | omega)); rotate_left; (focus (simp (maxSteps := 9999999) (disch := omega) only [go_sem, hr, hfo, hn, hon, d2, renL_append, List.length_append, List.length_singleton]; (try (repeat' (first | done | trivial | rfl | exact leAs_rfl _ | decide | (refine And.intro ?_ ?_) | (simp; done) | omega | (simp; decide)))))))
        omega
      | false =>
        rw [if_neg (by decide)] at hn
        have hon := re_app (O i) [e, L[i]]
        have hon2 : Re 0 [e, L[i]] = EnL e ++ EnL L[i] := rfl
        rw [hon2] at hon
        have hfo2 : (Re 0 (O i) ++ EnL e).take (((O i).length + 1) * 9) = Re 0 (O i) ++ EnL e := List.take_of_length_le (by rw [List.length_append, hLo]; simp; omega)
        clear hst hlow hat0 hhigh hend hon2
        generalize L[i] = x at *
        generalize hoi : O i = o at *
        (try simp (maxSteps := 9999999) (disch := omega) only [go_sem])
        (repeat' (first | refine AWpA.seq ?_ | refine AWpA.block ?_ | (with_reducible refine CondP.tt ?_) | (with_reducible refine CondP.ff ?_) | refine AWpA.condv (by simp (maxSteps := 9999999) (disch := omega) only [go_sem, hr, hL, hLo, hfo, hat, hkey, g1, d1, ltK_def, s1, s2, List.length_append, List.length_cons, List.length_nil]; rfl) ?_ | ((first | (apply AWpA.region; (focus (simp (maxSteps := 9999999) (disch := omega) only [go_sem, hr, hL, hLo, hfo, hat, hkey, g1, d1, ltK_def, s1, s2, List.length_append, List.length_cons, List.length_nil]; rfl))) | (apply AWpA.draw [] [] follows; (focus (first | rfl | decide)); (focus (simp (maxSteps := 9999999) (disch := omega) only [go_sem, hr, hL, hLo, hfo, hat, hkey, g1, d1, ltK_def, s1, s2, List.length_append, List.length_cons, List.length_nil]; rfl)); (focus (simp (maxSteps := 9999999) (disch := omega) only [go_sem, hr, hL, hLo, hfo, hat, hkey, g1, d1, ltK_def, s1, s2, List.length_append, List.length_cons, List.length_nil]; first | done | trivial)); (focus (simp (maxSteps := 9999999) (disch := omega) only [go_sem, hr, hL, hLo, hfo, hat, hkey, g1, d1, ltK_def, s1, s2, List.length_append, List.length_cons, List.length_nil]; rfl))) | (apply TailK.go; (focus (simp (maxSteps := 9999999) (disch := omega) only [go_sem, hr, hL, hLo, hfo, hat, hkey, g1, d1, ltK_def, s1, s2, List.length_append, List.length_cons, List.length_nil]; rfl))) | refine AWpA.skip ?_ | refine AWpA.exit ?_ | refine AWpA.ret ?_ | (with_reducible refine ARoundsA.succ ?_) | ((first | refine Runs.kt (by assumption) (fun h9 => ?_) | refine Runs.kf (by assumption) (fun h9 => ?_) | refine Runs.nt (by assumption) (fun h9 => ?_) | refine Runs.nf (by assumption) (fun h9 => ?_) | refine CondP.ht (by assumption) (fun h9 => ?_) | refine CondP.hf (by assumption) (fun h9 => ?_) | refine CondP.nt (by assumption) (fun h9 => ?_) | refine CondP.nf (by assumption) (fun h9 => ?_)); (try simp only [h9]); clear h9)); (try simp (maxSteps := 9999999) (disch := omega) only [go_sem, hr, hL, hLo, hfo, hat, hkey, g1, d1, ltK_def, s1, s2, List.length_append, List.length_cons, List.length_nil]); (try (refine And.intro ?_ ?_; (focus (first | omega | (simp only [go_sem]; done) | (simp; done) | (simp; omega) | assumption))))) | ((first | refine CondP.split (fun hif => ?_) (fun hif => ?_) | refine Runs.part (fun hif => ?_) (fun hif => ?_)) <;> ((try simp only [hif]); (try simp only [decide_eq_true_eq, decide_eq_false_iff_not, Bool.not_eq_true, Bool.not_eq_false, Bool.not_eq_true', Bool.not_eq_false', beq_iff_eq, bne_iff_ne, bne_eq_false_iff_eq, beq_eq_false_iff_ne, ne_eq, Bool.and_eq_true, Bool.or_eq_true, Bool.or_eq_false_iff] at hif); (try (have h9 : _ = true := hif; simp only [h9])); (try (have h9 : _ = false := hif; simp only [h9])); (try simp (maxSteps := 9999999) (disch := omega) only [go_sem, hr, hL, hLo, hfo, hat, hkey, g1, d1, ltK_def, s1, s2, List.length_append, List.length_cons, List.length_nil]); (try (refine And.intro ?_ ?_; (focus (first | omega | (simp only [go_sem]; done) | (simp; done) | (simp; omega) | assumption)))); (try (exfalso; omega; done))))))
        have hlen2 : (o ++ [e, x]).length = o.length + 1 + 1 := by simp
        rw [← List.append_assoc] at hon
        (apply Back.to (i + 1) [0, 1, 579]; (focus ((try simp (maxSteps := 9999999) (disch := omega) only [go_sem, hr, hfo2, hn, hon, d2, hlen2, renL_append]); first | done | omega)); rotate_left; (focus (simp (maxSteps := 9999999) (disch := omega) only [go_sem, hr, hfo2, hn, hon, d2, hlen2, renL_append]; (try (repeat' (first | done | trivial | rfl | exact leAs_rfl _ | decide | (refine And.intro ?_ ?_) | (simp; done) | omega | (simp; decide)))))))
        omega
    · have hn := hhigh i hir hin
      have hon := re_app (O i) [L[i]]
      rw [re_one] at hon
      have d1 : decide (r < i) = true := decide_eq_true (by omega)
      have d2 : decide (r < i + 1) = true := decide_eq_true (by omega)
      rw [decide_eq_false (by omega)] at s1
      rw [decide_eq_false (by omega), Bool.false_and] at s2
      clear hst hlow hat0 hhigh hend
      generalize L[i] = x at *
      generalize hoi : O i = o at *
      (try simp (maxSteps := 9999999) (disch := omega) only [go_sem])
      (repeat' (first | refine AWpA.seq ?_ | refine AWpA.block ?_ | (with_reducible refine CondP.tt ?_) | (with_reducible refine CondP.ff ?_) | refine AWpA.condv (by simp (maxSteps := 9999999) (disch := omega) only [go_sem, hr, hL, hLo, hat, hkey, g1, d1, ltK_def, s1, s2]; rfl) ?_ | ((first | (apply AWpA.region; (focus (simp (maxSteps := 9999999) (disch := omega) only [go_sem, hr, hL, hLo, hat, hkey, g1, d1, ltK_def, s1, s2]; rfl))) | (apply AWpA.draw [] [] follows; (focus (first | rfl | decide)); (focus (simp (maxSteps := 9999999) (disch := omega) only [go_sem, hr, hL, hLo, hat, hkey, g1, d1, ltK_def, s1, s2]; rfl)); (focus (simp (maxSteps := 9999999) (disch := omega) only [go_sem, hr, hL, hLo, hat, hkey, g1, d1, ltK_def, s1, s2]; first | done | trivial)); (focus (simp (maxSteps := 9999999) (disch := omega) only [go_sem, hr, hL, hLo, hat, hkey, g1, d1, ltK_def, s1, s2]; rfl))) | (apply TailK.go; (focus (simp (maxSteps := 9999999) (disch := omega) only [go_sem, hr, hL, hLo, hat, hkey, g1, d1, ltK_def, s1, s2]; rfl))) | refine AWpA.skip ?_ | refine AWpA.exit ?_ | refine AWpA.ret ?_ | (with_reducible refine ARoundsA.succ ?_) | ((first | refine Runs.kt (by assumption) (fun h9 => ?_) | refine Runs.kf (by assumption) (fun h9 => ?_) | refine Runs.nt (by assumption) (fun h9 => ?_) | refine Runs.nf (by assumption) (fun h9 => ?_) | refine CondP.ht (by assumption) (fun h9 => ?_) | refine CondP.hf (by assumption) (fun h9 => ?_) | refine CondP.nt (by assumption) (fun h9 => ?_) | refine CondP.nf (by assumption) (fun h9 => ?_)); (try simp only [h9]); clear h9)); (try simp (maxSteps := 9999999) (disch := omega) only [go_sem, hr, hL, hLo, hat, hkey, g1, d1, ltK_def, s1, s2]); (try (refine And.intro ?_ ?_; (focus (first | omega | (simp only [go_sem]; done) | (simp; done) | (simp; omega) | assumption))))) | ((first | refine CondP.split (fun hif => ?_) (fun hif => ?_) | refine Runs.part (fun hif => ?_) (fun hif => ?_)) <;> ((try simp only [hif]); (try simp only [decide_eq_true_eq, decide_eq_false_iff_not, Bool.not_eq_true, Bool.not_eq_false, Bool.not_eq_true', Bool.not_eq_false', beq_iff_eq, bne_iff_ne, bne_eq_false_iff_eq, beq_eq_false_iff_ne, ne_eq, Bool.and_eq_true, Bool.or_eq_true, Bool.or_eq_false_iff] at hif); (try (have h9 : _ = true := hif; simp only [h9])); (try (have h9 : _ = false := hif; simp only [h9])); (try simp (maxSteps := 9999999) (disch := omega) only [go_sem, hr, hL, hLo, hat, hkey, g1, d1, ltK_def, s1, s2]); (try (refine And.intro ?_ ?_; (focus (first | omega | (simp only [go_sem]; done) | (simp; done) | (simp; omega) | assumption)))); (try (exfalso; omega; done))))))
      (apply Back.to (i + 1) [0, 1, 483]; (focus ((try simp (maxSteps := 9999999) (disch := omega) only [go_sem, hr, hfo, hn, hon, d2, renL_append, List.length_append, List.length_singleton]); first | done | omega)); rotate_left; (focus (simp (maxSteps := 9999999) (disch := omega) only [go_sem, hr, hfo, hn, hon, d2, renL_append, List.length_append, List.length_singleton]; (try (repeat' (first | done | trivial | rfl | exact leAs_rfl _ | decide | (refine And.intro ?_ ?_) | (simp; done) | omega | (simp; decide)))))))
      omega
  · obtain rfl : i = L.length := by omega
    have g1 : ((L.length : Int) < (L.length : Int)) = False := eq_false (by omega)
    clear hst hlow hat0 hhigh
    have hll := hlen0 L.length
    have hLo := re_len 0 (O L.length)
    rw [Nat.zero_add] at hLo
    have hfo := re_all (O L.length) (n := (O L.length).length * 9) rfl
    by_cases hrl : r < L.length
    · rw [if_pos hrl] at hend
      have d1 : decide (r < L.length) = true := decide_eq_true hrl
      rw [hend]
      clear hend
      (try simp (maxSteps := 9999999) (disch := omega) only [go_sem])
      (repeat' (first | refine AWpA.seq ?_ | refine AWpA.block ?_ | (with_reducible refine CondP.tt ?_) | (with_reducible refine CondP.ff ?_) | refine AWpA.condv (by simp (maxSteps := 9999999) (disch := omega) only [go_sem, hr, g1, d1]; rfl) ?_ | ((first | (apply AWpA.region; (focus (simp (maxSteps := 9999999) (disch := omega) only [go_sem, hr, g1, d1]; rfl))) | (apply AWpA.draw [] [] follows; (focus (first | rfl | decide)); (focus (simp (maxSteps := 9999999) (disch := omega) only [go_sem, hr, g1, d1]; rfl)); (focus (simp (maxSteps := 9999999) (disch := omega) only [go_sem, hr, g1, d1]; first | done | trivial)); (focus (simp (maxSteps := 9999999) (disch := omega) only [go_sem, hr, g1, d1]; rfl))) | (apply TailK.go; (focus (simp (maxSteps := 9999999) (disch := omega) only [go_sem, hr, g1, d1]; rfl))) | refine AWpA.skip ?_ | refine AWpA.exit ?_ | refine AWpA.ret ?_ | (with_reducible refine ARoundsA.succ ?_) | ((first | refine Runs.kt (by assumption) (fun h9 => ?_) | refine Runs.kf (by assumption) (fun h9 => ?_) | refine Runs.nt (by assumption) (fun h9 => ?_) | refine Runs.nf (by assumption) (fun h9 => ?_) | refine CondP.ht (by assumption) (fun h9 => ?_) | refine CondP.hf (by assumption) (fun h9 => ?_) | refine CondP.nt (by assumption) (fun h9 => ?_) | refine CondP.nf (by assumption) (fun h9 => ?_)); (try simp only [h9]); clear h9)); (try simp (maxSteps := 9999999) (disch := omega) only [go_sem, hr, g1, d1]); (try (refine And.intro ?_ ?_; (focus (first | omega | (simp only [go_sem]; done) | (simp; done) | (simp; omega) | assumption))))) | ((first | refine CondP.split (fun hif => ?_) (fun hif => ?_) | refine Runs.part (fun hif => ?_) (fun hif => ?_)) <;> ((try simp only [hif]); (try simp only [decide_eq_true_eq, decide_eq_false_iff_not, Bool.not_eq_true, Bool.not_eq_false, Bool.not_eq_true', Bool.not_eq_false', beq_iff_eq, bne_iff_ne, bne_eq_false_iff_eq, beq_eq_false_iff_ne, ne_eq, Bool.and_eq_true, Bool.or_eq_true, Bool.or_eq_false_iff] at hif); (try (have h9 : _ = true := hif; simp only [h9])); (try (have h9 : _ = false := hif; simp only [h9])); (try simp (maxSteps := 9999999) (disch := omega) only [go_sem, hr, g1, d1]); (try (refine And.intro ?_ ?_; (focus (first | omega | (simp only [go_sem]; done) | (simp; done) | (simp; omega) | assumption)))); (try (exfalso; omega; done))))))
      (apply Ret.det [0, 2]; (focus (first | exact .inl rfl | exact .inr rfl)); (focus (simp (maxSteps := 9999999) (disch := omega) only [go_sem, hr]; rfl)); (simp (maxSteps := 9999999) (disch := omega) only [go_sem, hr]; (try (repeat' (first | done | trivial | rfl | exact leAs_rfl _ | decide | (refine And.intro ?_ ?_) | (simp; done) | omega | (simp; decide))))))
    · rw [if_neg hrl] at hend
      have d1 : decide (r < L.length) = false := decide_eq_false hrl
      have hon := re_app (O L.length) [e]
      rw [re_one] at hon
      rw [← hend]
      clear hend
      generalize O L.length = o at *
      (try simp (maxSteps := 9999999) (disch := omega) only [go_sem])
      (repeat' (first | refine AWpA.seq ?_ | refine AWpA.block ?_ | (with_reducible refine CondP.tt ?_) | (with_reducible refine CondP.ff ?_) | refine AWpA.condv (by simp (maxSteps := 9999999) (disch := omega) only [go_sem, hr, g1, d1, hLo, hfo]; rfl) ?_ | ((first | (apply AWpA.region; (focus (simp (maxSteps := 9999999) (disch := omega) only [go_sem, hr, g1, d1, hLo, hfo]; rfl))) | (apply AWpA.draw [] [] follows; (focus (first | rfl | decide)); (focus (simp (maxSteps := 9999999) (disch := omega) only [go_sem, hr, g1, d1, hLo, hfo]; rfl)); (focus (simp (maxSteps := 9999999) (disch := omega) only [go_sem, hr, g1, d1, hLo, hfo]; first | done | trivial)); (focus (simp (maxSteps := 9999999) (disch := omega) only [go_sem, hr, g1, d1, hLo, hfo]; rfl))) | (apply TailK.go; (focus (simp (maxSteps := 9999999) (disch := omega) only [go_sem, hr, g1, d1, hLo, hfo]; rfl))) | refine AWpA.skip ?_ | refine AWpA.exit ?_ | refine AWpA.ret ?_ | (with_reducible refine ARoundsA.succ ?_) | ((first | refine Runs.kt (by assumption) (fun h9 => ?_) | refine Runs.kf (by assumption) (fun h9 => ?_) | refine Runs.nt (by assumption) (fun h9 => ?_) | refine Runs.nf (by assumption) (fun h9 => ?_) | refine CondP.ht (by assumption) (fun h9 => ?_) | refine CondP.hf (by assumption) (fun h9 => ?_) | refine CondP.nt (by assumption) (fun h9 => ?_) | refine CondP.nf (by assumption) (fun h9 => ?_)); (try simp only [h9]); clear h9)); (try simp (maxSteps := 9999999) (disch := omega) only [go_sem, hr, g1, d1, hLo, hfo]); (try (refine And.intro ?_ ?_; (focus (first | omega | (simp only [go_sem]; done) | (simp; done) | (simp; omega) | assumption))))) | ((first | refine CondP.split (fun hif => ?_) (fun hif => ?_) | refine Runs.part (fun hif => ?_) (fun hif => ?_)) <;> ((try simp only [hif]); (try simp only [decide_eq_true_eq, decide_eq_false_iff_not, Bool.not_eq_true, Bool.not_eq_false, Bool.not_eq_true', Bool.not_eq_false', beq_iff_eq, bne_iff_ne, bne_eq_false_iff_eq, beq_eq_false_iff_ne, ne_eq, Bool.and_eq_true, Bool.or_eq_true, Bool.or_eq_false_iff] at hif); (try (have h9 : _ = true := hif; simp only [h9])); (try (have h9 : _ = false := hif; simp only [h9])); (try simp (maxSteps := 9999999) (disch := omega) only [go_sem, hr, g1, d1, hLo, hfo]); (try (refine And.intro ?_ ?_; (focus (first | omega | (simp only [go_sem]; done) | (simp; done) | (simp; omega) | assumption)))); (try (exfalso; omega; done))))))
      (apply Ret.det [0, _]; (focus (first | exact .inl rfl | exact .inr rfl)); (focus (simp (maxSteps := 9999999) (disch := omega) only [go_sem, hr, hfo, hon, renL_append, List.length_append, List.length_singleton]; rfl)); (simp (maxSteps := 9999999) (disch := omega) only [go_sem, hr, hfo, hon, renL_append, List.length_append, List.length_singleton]; (try (repeat' (first | done | trivial | rfl | exact leAs_rfl _ | decide | (refine And.intro ?_ ?_) | (simp; done) | omega | (simp; decide))))))
end Go.Proofs.Ytgjimlgofakbpaa
