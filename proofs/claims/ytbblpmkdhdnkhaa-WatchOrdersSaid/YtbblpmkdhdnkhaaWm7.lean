/- Contracts: what lives; Tos. -/
import Derived.Test.YtbblpmkdhdnkhaaWm3
import Derived.Test.YtbblpmkdhdnkhaaAc10
namespace Go.Proofs.Ytbblpmkdhdnkhaa
set_option linter.unusedSimpArgs false
set_option linter.unusedVariables false
set_option maxHeartbeats 4000000
open Go Go.Am Go.RowKit
set_option maxRecDepth 100000
set_option maxHeartbeats 1000000
/- quidnunc/quidnunclaw11.Tos -/
noncomputable def c30_1 : ACode := .region false [⟨some 2, .move, [.c (.val (.slice none 0 0))], none⟩] [] [] [0] false [] []
noncomputable def c30_3 : ACode := .region false [⟨some 6, .buildSl 9 0 [(.string ⟨#[]⟩), (.string ⟨#[]⟩), (.bool false), (.int .i64 0), (.int .i64 0), (.int .i64 0), (.int .i64 0), (.int .i64 0), (.int .i64 0)] [], [], none⟩,
  ⟨some 3, .move, [.t 6], none⟩] [] [] [0, 3] true [] []
noncomputable def c30_6 : ACode := .region false [⟨some 7, .move, [.t 0], none⟩,
  ⟨some 8, .len, [.t 7], none⟩,
  ⟨some 9, .move, [.c (.val (.int .i64 0))], none⟩] [] [] [3, 7, 8, 9] false [] []
noncomputable def c30_10 : ACode := .region false [⟨some 10, .bin .lss, [.t 9, .t 8], none⟩] [] [] [3, 7, 8, 9, 10] false [] []
noncomputable def c30_12 : ACode := .cond (.t 10) .skip (.exit 0)
noncomputable def c30_16 : ACode := .region false [⟨some 11, .ixS 9, [.t 7, .t 9], none⟩,
  ⟨some 12, .load true 9, [.t 11], none⟩,
  ⟨some 5, .alloc [(.string ⟨#[]⟩), (.string ⟨#[]⟩), (.bool false), (.int .i64 0), (.int .i64 0), (.int .i64 0), (.int .i64 0), (.int .i64 0), (.int .i64 0)], [], none⟩,
  ⟨none, .store 9, [.t 5, .t 12], none⟩] [] [] [3, 5, 7, 8, 9] true [] []
noncomputable def c30_17 : ACode := .region false [⟨some 13, .move, [.t 3], none⟩,
  ⟨some 14, .load true 9, [.t 5], none⟩,
  ⟨some 15, .call 54, [.t 14], none⟩,
  ⟨some 16, .buildSl 9 1 [(.string ⟨#[]⟩), (.string ⟨#[]⟩), (.bool false), (.int .i64 0), (.int .i64 0), (.int .i64 0), (.int .i64 0), (.int .i64 0), (.int .i64 0)] [(0, 9)], [.t 15], none⟩,
  ⟨some 17, .append 9 88 false, [.t 13, .t 16], none⟩,
  ⟨some 3, .move, [.t 17], none⟩] [] [] [3, 7, 8, 9] true [] []
noncomputable def c30_15 : ACode := .seq c30_16 c30_17
noncomputable def c30_14 : ACode := .block 1 c30_15
noncomputable def c30_18 : ACode := .region false [⟨some 18, .bin .add, [.t 9, .c (.val (.int .i64 1))], none⟩,
  ⟨some 9, .move, [.t 18], none⟩] [] [] [3, 7, 8, 9] false [] []
noncomputable def c30_13 : ACode := .seq c30_14 c30_18
noncomputable def c30_11 : ACode := .seq c30_12 c30_13
noncomputable def c30_9 : ACode := .seq c30_10 c30_11
noncomputable def c30_8 : ACode := .loop c30_9
noncomputable def c30_7 : ACode := .block 0 c30_8
noncomputable def c30_5 : ACode := .seq c30_6 c30_7
noncomputable def c30_20 : ACode := .region false [⟨some 19, .move, [.t 3], none⟩,
  ⟨some 2, .move, [.t 19], none⟩] [] [] [2] false [] []
noncomputable def c30_19 : ACode := .seq c30_20 .ret
noncomputable def c30_4 : ACode := .seq c30_5 c30_19
noncomputable def c30_2 : ACode := .seq c30_3 c30_4
noncomputable def c30_0 : ACode := .seq c30_1 c30_2
noncomputable def code30 : Code := (Try.f30.body).getD .skip
theorem c30_ok : compC Try.prog 20 code30 = some (strip c30_0) := by kernel_rfl
theorem res30_ok : Try.f30.results.toList.mapM (resC Try.prog) = some [(2, none)] := by kernel_rfl
abbrev PrL (e : En) : List AV := [Str e.key, Str e.val]
abbrev Rl (l : List En) : List AV := rowsC 0 PrL l
theorem rl_ren (l : List En) (ρ : List Nat) : renL ρ (Rl l) = Rl l := rowsC_ren (fun ρ x => by simp [renL, ren]) ρ l
theorem rl_len (l : List En) : (Rl l).length = l.length * 2 := by have := rowsC_len (off := 0) (f := PrL) (k := 2) (fun _ => rfl) l; simpa using this
theorem rl_at (l : List En) (i : Nat) (h : i < l.length) : ((Rl l).drop (i * 2)).take 2 = PrL l[i] := by have := rowsC_at (off := 0) (f := PrL) (k := 2) (fun _ => rfl) l i h; simpa using this
theorem rl_app (l m : List En) : Rl (l ++ m) = Rl l ++ Rl m := by simp [Rl, rowsC]
theorem rl_one (m : En) : Rl [m] = PrL m := rfl
theorem rl_nil : Rl [] = [] := rfl
theorem rl_all (l : List En) {n : Nat} (h : n = l.length * 2) : (Rl l).take n = Rl l := List.take_of_length_le (by rw [rl_len]; omega)
def liveL (l : List En) : List En := l.filter fun e => !e.dead
theorem live_put (l : List En) (i : Nat) (h : i < l.length) : liveL (l.take (i + 1)) = if l[i].dead = true then liveL (l.take i) else liveL (l.take i) ++ [l[i]] := by
  unfold liveL
  rw [List.take_add_one, List.getElem?_eq_getElem h, Option.toList, List.filter_append]
  cases hd : l[i].dead <;> simp [hd]
theorem live_at (l : List En) (i : Nat) (h : i < l.length) (hd : l[i].dead = false) : ∃ h2 : (liveL (l.take i)).length < (liveL l).length, (liveL l)[(liveL (l.take i)).length] = l[i] := by
  have e : liveL l = liveL (l.take i) ++ l[i] :: liveL (l.drop (i + 1)) := by
    unfold liveL
    have : l = l.take i ++ l[i] :: l.drop (i + 1) := by rw [← List.drop_eq_getElem_cons h, List.take_append_drop]
    conv => lhs; rw [this]
    rw [List.filter_append, List.filter_cons, if_pos (by simp [hd])]
  refine ⟨by rw [e]; simp, ?_⟩
  simp [e]
theorem live_le (l : List En) : (liveL l).length ≤ l.length := List.length_filter_le _ _
theorem live_any (l : List En) (hl : l.length ≤ 4096) : ACall Try.prog 28 [.sl 0 0 l.length 9 none] [.cells true (Re 0 l)] (Det (.sl 1 0 (liveL l).length 2 none) [.cells true (Re 0 l), .cells false (Rl (liveL l))]) := by
  have hr := re_ren
  have hrl := rl_ren
  have hL := re_len 0 l
  refine ACall.startA c28_ok Try.func28 rfl Try.ntmps28 (by kernel_rfl) res28_ok rfl rfl rfl ?_; simp (maxSteps := 9999999) (disch := omega) only [go_sem]
  refine AWpA.dummy ?_
  (have k9 := And.intro @hr (k0); (repeat' (first | refine AWpA.seq ?_ | refine AWpA.block ?_ | (with_reducible refine CondP.tt ?_) | (with_reducible refine CondP.ff ?_) | refine AWpA.cg ?_ | ((first | refine AWpA.rg ?_ | refine AWpA.dg [] [] follows ?_ | refine TailK.tg ?_ | refine AWpA.skip ?_ | refine AWpA.exit ?_ | refine AWpA.ret ?_ | (with_reducible refine ARoundsA.succ ?_) | ((first | refine Runs.gkt (fun h9 => ?_) | refine Runs.gkf (fun h9 => ?_) | refine Runs.gnt (fun h9 => ?_) | refine Runs.gnf (fun h9 => ?_) | refine CondP.gt (fun h9 => ?_) | refine CondP.gf (fun h9 => ?_) | refine CondP.gnt (fun h9 => ?_) | refine CondP.gnf (fun h9 => ?_)); (try simp only [h9]); clear h9)); (try simp (maxSteps := 9999999) (disch := omega) only [go_sem, k9]); (try refine cnd ?_)) | ((first | refine CondP.split (fun hif => ?_) (fun hif => ?_) | refine Runs.part (fun hif => ?_) (fun hif => ?_)) <;> ((try simp only [hif]); (try simp only [BL] at hif); (try (have h9 : _ = true := hif; simp only [h9])); (try (have h9 : _ = false := hif; simp only [h9])); (try simp (maxSteps := 9999999) (disch := omega) only [go_sem, k9]); (try refine cnd ?_); (try (exfalso; omega; done)))))); (all_goals (try clear k9)))
  (apply AWpA.loopL (fun i : Nat => [(3, .sl 1 0 (liveL (l.take i)).length 2 none), (6, .sl 0 0 l.length 9 none), (7, I l.length), (8, I i)]) (fun i => [.cells true (Re 0 l), .cells false (Rl (liveL (l.take i)))]) (fun i => l.length - i) (fun i => i ≤ l.length) (0) [0, 1]; rotate_left; (focus (simp (maxSteps := 9999999) (disch := omega) only [go_sem, hr, hrl, liveL, List.take_zero, List.filter_nil, rl_nil, List.length_nil]; (try (repeat' (first | done | trivial | rfl | exact leAs_rfl _ | decide | (refine And.intro ?_ ?_) | (simp; done) | omega | (simp; decide)))))); rotate_right)
  · exact Nat.zero_le _
  rintro i hi
  (try simp only at hi)
  have hll := live_le (l.take i)
  rw [List.length_take] at hll
  by_cases hin : i < l.length
  · have g1 : ((i : Int) < (l.length : Int)) = True := eq_true (by omega)
    have hat := re_at 0 l i hin
    rw [Nat.zero_add] at hat
    have hp := live_put l i hin
    generalize l[i] = x at *
    generalize liveL (l.take i) = out at *
    have hL2 := rl_len out
    have hfu := rl_all out rfl
    cases hd : x.dead with
    | true =>
      rw [if_pos hd] at hp
      (try simp (maxSteps := 9999999) (disch := omega) only [go_sem])
      (have k9 := And.intro @hr (And.intro @hrl (And.intro @hL (And.intro @hL2 (And.intro @g1 (And.intro @hat (And.intro @hd (k0))))))); (repeat' (first | refine AWpA.seq ?_ | refine AWpA.block ?_ | (with_reducible refine CondP.tt ?_) | (with_reducible refine CondP.ff ?_) | refine AWpA.cg ?_ | ((first | refine AWpA.rg ?_ | refine AWpA.dg [] [] follows ?_ | refine TailK.tg ?_ | refine AWpA.skip ?_ | refine AWpA.exit ?_ | refine AWpA.ret ?_ | (with_reducible refine ARoundsA.succ ?_) | ((first | refine Runs.gkt (fun h9 => ?_) | refine Runs.gkf (fun h9 => ?_) | refine Runs.gnt (fun h9 => ?_) | refine Runs.gnf (fun h9 => ?_) | refine CondP.gt (fun h9 => ?_) | refine CondP.gf (fun h9 => ?_) | refine CondP.gnt (fun h9 => ?_) | refine CondP.gnf (fun h9 => ?_)); (try simp only [h9]); clear h9)); (try simp (maxSteps := 9999999) (disch := omega) only [go_sem, k9]); (try refine cnd ?_)) | ((first | refine CondP.split (fun hif => ?_) (fun hif => ?_) | refine Runs.part (fun hif => ?_) (fun hif => ?_)) <;> ((try simp only [hif]); (try simp only [BL] at hif); (try (have h9 : _ = true := hif; simp only [h9])); (try (have h9 : _ = false := hif; simp only [h9])); (try simp (maxSteps := 9999999) (disch := omega) only [go_sem, k9]); (try refine cnd ?_); (try (exfalso; omega; done)))))); (all_goals (try clear k9)))
      (apply Back.to (i + 1) [0, 1]; (focus ((try simp (maxSteps := 9999999) (disch := omega) only [go_sem, hr, hrl, hp]); first | done | omega)); rotate_left; (focus (simp (maxSteps := 9999999) (disch := omega) only [go_sem, hr, hrl, hp]; (try (repeat' (first | done | trivial | rfl | exact leAs_rfl _ | decide | (refine And.intro ?_ ?_) | (simp; done) | omega | (simp; decide)))))))
      omega
    | false =>
      rw [if_neg (by simp [hd])] at hp
      (try simp (maxSteps := 9999999) (disch := omega) only [go_sem])
      (have k9 := And.intro @hr (And.intro @hrl (And.intro @hL (And.intro @hL2 (And.intro @g1 (And.intro @hat (And.intro @hd (k0))))))); (repeat' (first | refine AWpA.seq ?_ | refine AWpA.block ?_ | (with_reducible refine CondP.tt ?_) | (with_reducible refine CondP.ff ?_) | refine AWpA.cg ?_ | ((first | refine AWpA.rg ?_ | refine AWpA.dg [] [] follows ?_ | refine TailK.tg ?_ | refine AWpA.skip ?_ | refine AWpA.exit ?_ | refine AWpA.ret ?_ | (with_reducible refine ARoundsA.succ ?_) | ((first | refine Runs.gkt (fun h9 => ?_) | refine Runs.gkf (fun h9 => ?_) | refine Runs.gnt (fun h9 => ?_) | refine Runs.gnf (fun h9 => ?_) | refine CondP.gt (fun h9 => ?_) | refine CondP.gf (fun h9 => ?_) | refine CondP.gnt (fun h9 => ?_) | refine CondP.gnf (fun h9 => ?_)); (try simp only [h9]); clear h9)); (try simp (maxSteps := 9999999) (disch := omega) only [go_sem, k9]); (try refine cnd ?_)) | ((first | refine CondP.split (fun hif => ?_) (fun hif => ?_) | refine Runs.part (fun hif => ?_) (fun hif => ?_)) <;> ((try simp only [hif]); (try simp only [BL] at hif); (try (have h9 : _ = true := hif; simp only [h9])); (try (have h9 : _ = false := hif; simp only [h9])); (try simp (maxSteps := 9999999) (disch := omega) only [go_sem, k9]); (try refine cnd ?_); (try (exfalso; omega; done)))))); (all_goals (try clear k9)))
      (apply Back.to (i + 1) [0, _]; (focus ((try simp (maxSteps := 9999999) (disch := omega) only [go_sem, hr, hrl, hp, hfu, rl_app, rl_one, renL_append, List.length_append, List.length_singleton]); first | done | omega)); rotate_left; (focus (simp (maxSteps := 9999999) (disch := omega) only [go_sem, hr, hrl, hp, hfu, rl_app, rl_one, renL_append, List.length_append, List.length_singleton]; (try (repeat' (first | done | trivial | rfl | exact leAs_rfl _ | decide | (refine And.intro ?_ ?_) | (simp; done) | omega | (simp; decide)))))))
      omega
  · obtain rfl : i = l.length := by omega
    have g1 : ((l.length : Int) < (l.length : Int)) = False := eq_false (by omega)
    rw [List.take_length]
    (try simp (maxSteps := 9999999) (disch := omega) only [go_sem])
    (have k9 := And.intro @hr (And.intro @hrl (And.intro @g1 (k0))); (repeat' (first | refine AWpA.seq ?_ | refine AWpA.block ?_ | (with_reducible refine CondP.tt ?_) | (with_reducible refine CondP.ff ?_) | refine AWpA.cg ?_ | ((first | refine AWpA.rg ?_ | refine AWpA.dg [] [] follows ?_ | refine TailK.tg ?_ | refine AWpA.skip ?_ | refine AWpA.exit ?_ | refine AWpA.ret ?_ | (with_reducible refine ARoundsA.succ ?_) | ((first | refine Runs.gkt (fun h9 => ?_) | refine Runs.gkf (fun h9 => ?_) | refine Runs.gnt (fun h9 => ?_) | refine Runs.gnf (fun h9 => ?_) | refine CondP.gt (fun h9 => ?_) | refine CondP.gf (fun h9 => ?_) | refine CondP.gnt (fun h9 => ?_) | refine CondP.gnf (fun h9 => ?_)); (try simp only [h9]); clear h9)); (try simp (maxSteps := 9999999) (disch := omega) only [go_sem, k9]); (try refine cnd ?_)) | ((first | refine CondP.split (fun hif => ?_) (fun hif => ?_) | refine Runs.part (fun hif => ?_) (fun hif => ?_)) <;> ((try simp only [hif]); (try simp only [BL] at hif); (try (have h9 : _ = true := hif; simp only [h9])); (try (have h9 : _ = false := hif; simp only [h9])); (try simp (maxSteps := 9999999) (disch := omega) only [go_sem, k9]); (try refine cnd ?_); (try (exfalso; omega; done)))))); (all_goals (try clear k9)))
    (apply Ret.det [0, 1]; (focus (first | exact .inl rfl | exact .inr rfl)); (focus (simp (maxSteps := 9999999) (disch := omega) only [go_sem, hr, hrl]; rfl)); (simp (maxSteps := 9999999) (disch := omega) only [go_sem, hr, hrl]; (try (repeat' (first | done | trivial | rfl | exact leAs_rfl _ | decide | (refine And.intro ?_ ?_) | (simp; done) | omega | (simp; decide))))))
theorem wtos_any (off : Nat) (l : List En) (hl : l.length ≤ 1099511627776) : ACall Try.prog 30 [.sl 0 off l.length 9 none] [.cells true (Re off l)] (Det (.sl 1 0 l.length 9 none) [.cells true (Re off l), .cells false (Re 0 l)]) := by
  have hr := re_ren
  have hlen := re_len off l
  refine ACall.startA c30_ok Try.func30 rfl Try.ntmps30 (by kernel_rfl) res30_ok rfl rfl rfl ?_; simp (maxSteps := 9999999) (disch := omega) only [go_sem]
  refine AWpA.dummy ?_
  (have k9 := And.intro @hr (k0); (repeat' (first | refine AWpA.seq ?_ | refine AWpA.block ?_ | (with_reducible refine CondP.tt ?_) | (with_reducible refine CondP.ff ?_) | refine AWpA.cg ?_ | ((first | refine AWpA.rg ?_ | refine AWpA.dg [] [] follows ?_ | refine TailK.tg ?_ | refine AWpA.skip ?_ | refine AWpA.exit ?_ | refine AWpA.ret ?_ | (with_reducible refine ARoundsA.succ ?_) | ((first | refine Runs.gkt (fun h9 => ?_) | refine Runs.gkf (fun h9 => ?_) | refine Runs.gnt (fun h9 => ?_) | refine Runs.gnf (fun h9 => ?_) | refine CondP.gt (fun h9 => ?_) | refine CondP.gf (fun h9 => ?_) | refine CondP.gnt (fun h9 => ?_) | refine CondP.gnf (fun h9 => ?_)); (try simp only [h9]); clear h9)); (try simp (maxSteps := 9999999) (disch := omega) only [go_sem, k9]); (try refine cnd ?_)) | ((first | refine CondP.split (fun hif => ?_) (fun hif => ?_) | refine Runs.part (fun hif => ?_) (fun hif => ?_)) <;> ((try simp only [hif]); (try simp only [BL] at hif); (try (have h9 : _ = true := hif; simp only [h9])); (try (have h9 : _ = false := hif; simp only [h9])); (try simp (maxSteps := 9999999) (disch := omega) only [go_sem, k9]); (try refine cnd ?_); (try (exfalso; omega; done)))))); (all_goals (try clear k9)))
  (apply AWpA.loopL (fun i : Nat => [(3, .sl 1 0 i 9 none), (7, .sl 0 off l.length 9 none), (8, I l.length), (9, I i)]) (fun i => [.cells true (Re off l), .cells false (Re 0 (l.take i))]) (fun i => l.length - i) (fun i => i ≤ l.length) (0) [0, _]; rotate_left; (focus (simp (maxSteps := 9999999) (disch := omega) only [go_sem, hr, re_nil, List.take_zero]; (try (repeat' (first | done | trivial | rfl | exact leAs_rfl _ | decide | (refine And.intro ?_ ?_) | (simp; done) | omega | (simp; decide)))))); rotate_right)
  · exact Nat.zero_le _
  rintro i hi
  (try simp only at hi)
  by_cases hin : i < l.length
  · have g1 : ((i : Int) < (l.length : Int)) = True := eq_true (by omega)
    have hat := re_at off l i hin
    have hp := re_put l i hin
    have hl2 := re_len 0 (l.take i)
    rw [List.length_take, Nat.min_eq_left hi] at hl2
    have hfu := re_all (l.take i) (n := i * 9) (by rw [List.length_take, Nat.min_eq_left hi])
    have o1 := to05_any l[i]
    generalize l[i] = e at *
    (try simp (maxSteps := 9999999) (disch := omega) only [go_sem])
    (have k9 := And.intro @hr (And.intro @hlen (And.intro @hat (And.intro @g1 (And.intro @hl2 (k0))))); (repeat' (first | refine AWpA.seq ?_ | refine AWpA.block ?_ | (with_reducible refine CondP.tt ?_) | (with_reducible refine CondP.ff ?_) | refine AWpA.cg ?_ | ((first | refine AWpA.rg ?_ | refine AWpA.dg [] [] follows ?_ | refine TailK.tg ?_ | refine AWpA.skip ?_ | refine AWpA.exit ?_ | refine AWpA.ret ?_ | (with_reducible refine ARoundsA.succ ?_) | ((first | refine Runs.gkt (fun h9 => ?_) | refine Runs.gkf (fun h9 => ?_) | refine Runs.gnt (fun h9 => ?_) | refine Runs.gnf (fun h9 => ?_) | refine CondP.gt (fun h9 => ?_) | refine CondP.gf (fun h9 => ?_) | refine CondP.gnt (fun h9 => ?_) | refine CondP.gnf (fun h9 => ?_)); (try simp only [h9]); clear h9) | refine CallG.pg [] (o1) ?_ | refine CallG.dg [] (o1) ?_); (try simp (maxSteps := 9999999) (disch := omega) only [go_sem, k9]); (try refine cnd ?_)) | ((first | refine CondP.split (fun hif => ?_) (fun hif => ?_) | refine Runs.part (fun hif => ?_) (fun hif => ?_)) <;> ((try simp only [hif]); (try simp only [BL] at hif); (try (have h9 : _ = true := hif; simp only [h9])); (try (have h9 : _ = false := hif; simp only [h9])); (try simp (maxSteps := 9999999) (disch := omega) only [go_sem, k9]); (try refine cnd ?_); (try (exfalso; omega; done)))))); (all_goals (try clear k9)))
    (apply Back.to (i + 1) [0, _]; (focus ((try simp (maxSteps := 9999999) (disch := omega) only [go_sem, hfu, hp, hr, renL_append]); first | done | omega)); rotate_left; (focus (simp (maxSteps := 9999999) (disch := omega) only [go_sem, hfu, hp, hr, renL_append]; (try (repeat' (first | done | trivial | rfl | exact leAs_rfl _ | decide | (refine And.intro ?_ ?_) | (simp; done) | omega | (simp; decide)))))))
    omega
  · obtain rfl : i = l.length := by omega
    have g1 : ((l.length : Int) < (l.length : Int)) = False := eq_false (by omega)
    rw [List.take_length]
    (try simp (maxSteps := 9999999) (disch := omega) only [go_sem])
    (have k9 := And.intro @hr (And.intro @g1 (k0)); (repeat' (first | refine AWpA.seq ?_ | refine AWpA.block ?_ | (with_reducible refine CondP.tt ?_) | (with_reducible refine CondP.ff ?_) | refine AWpA.cg ?_ | ((first | refine AWpA.rg ?_ | refine AWpA.dg [] [] follows ?_ | refine TailK.tg ?_ | refine AWpA.skip ?_ | refine AWpA.exit ?_ | refine AWpA.ret ?_ | (with_reducible refine ARoundsA.succ ?_) | ((first | refine Runs.gkt (fun h9 => ?_) | refine Runs.gkf (fun h9 => ?_) | refine Runs.gnt (fun h9 => ?_) | refine Runs.gnf (fun h9 => ?_) | refine CondP.gt (fun h9 => ?_) | refine CondP.gf (fun h9 => ?_) | refine CondP.gnt (fun h9 => ?_) | refine CondP.gnf (fun h9 => ?_)); (try simp only [h9]); clear h9)); (try simp (maxSteps := 9999999) (disch := omega) only [go_sem, k9]); (try refine cnd ?_)) | ((first | refine CondP.split (fun hif => ?_) (fun hif => ?_) | refine Runs.part (fun hif => ?_) (fun hif => ?_)) <;> ((try simp only [hif]); (try simp only [BL] at hif); (try (have h9 : _ = true := hif; simp only [h9])); (try (have h9 : _ = false := hif; simp only [h9])); (try simp (maxSteps := 9999999) (disch := omega) only [go_sem, k9]); (try refine cnd ?_); (try (exfalso; omega; done)))))); (all_goals (try clear k9)))
    (apply Ret.det [0, 1]; (focus (first | exact .inl rfl | exact .inr rfl)); (focus (simp (maxSteps := 9999999) (disch := omega) only [go_sem, hr]; rfl)); (simp (maxSteps := 9999999) (disch := omega) only [go_sem, hr]; (try (repeat' (first | done | trivial | rfl | exact leAs_rfl _ | decide | (refine And.intro ?_ ?_) | (simp; done) | omega | (simp; decide))))))
end Go.Proofs.Ytbblpmkdhdnkhaa
