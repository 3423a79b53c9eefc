/- Contracts: the document's Set and Map of entries. -/
import Derived.Test.YtbblpmkdhdnkhaaWm3
namespace Go.Proofs.Ytbblpmkdhdnkhaa
set_option linter.unusedSimpArgs false
set_option linter.unusedVariables false
set_option maxHeartbeats 4000000
open Go Go.Am Go.RowKit
set_option maxRecDepth 100000
set_option maxHeartbeats 1000000
/-- An entry is set: so many looked at. -/
def setP (e : En) (l : List En) : Nat → List En × Bool
  | 0 => ([], false)
  | n + 1 => match l[n]? with
    | some x =>
      let p := setP e l n
      let q := if p.2 = false ∧ ltK x.key e.key = false then (p.1 ++ [e], true) else p
      (if x.key = e.key then q.1 else q.1 ++ [x], q.2)
    | none => setP e l n
def setR (e : En) (l : List En) : List En := if (setP e l l.length).2 = true then (setP e l l.length).1 else (setP e l l.length).1 ++ [e]
theorem setP_succ {e : En} {l : List En} {n : Nat} (h : n < l.length) : setP e l (n + 1) = (let p := setP e l n; let q := if p.2 = false ∧ ltK l[n].key e.key = false then (p.1 ++ [e], true) else p; (if l[n].key = e.key then q.1 else q.1 ++ [l[n]], q.2)) := by
  rw [setP, List.getElem?_eq_getElem h]
theorem setP_len {e : En} {l : List En} : ∀ n, n ≤ l.length → (setP e l n).1.length ≤ 2 * n
  | 0, _ => by simp [setP]
  | n + 1, hn => by
    rw [setP_succ (by omega)]
    have ih := setP_len (e := e) (l := l) n (by omega)
    simp only
    split <;> split <;> (try simp only [List.length_append, List.length_singleton]) <;> omega
/- quidnunc/quidnuncref11.Set -/
noncomputable def c55_1 : ACode := .region false [⟨some 3, .box 0, [.t 1], none⟩,
  ⟨some 4, .move, [.c (.val (.slice none 0 0))], none⟩] [] [] [0, 3] true [] []
noncomputable def c55_3 : ACode := .region false [⟨some 8, .buildSl 9 0 [(.string ⟨#[]⟩), (.string ⟨#[]⟩), (.bool false), (.int .i64 0), (.int .i64 0), (.int .i64 0), (.int .i64 0), (.int .i64 0), (.int .i64 0)] [], [], none⟩,
  ⟨some 5, .move, [.t 8], none⟩] [] [] [0, 3, 5] true [] []
noncomputable def c55_5 : ACode := .region false [⟨some 6, .move, [.c (.val (.bool false))], none⟩] [] [] [0, 3, 5, 6] false [] []
noncomputable def c55_8 : ACode := .region false [⟨some 7, .move, [.c (.val (.int .i64 0))], none⟩] [] [] [0, 3, 5, 6, 7] false [] []
noncomputable def c55_13 : ACode := .region false [⟨some 9, .move, [.t 7], none⟩,
  ⟨some 10, .move, [.t 0], none⟩,
  ⟨some 11, .len, [.t 10], none⟩,
  ⟨some 12, .bin .lss, [.t 9, .t 11], none⟩] [] [] [0, 3, 5, 6, 7, 12] false [] []
noncomputable def c55_14 : ACode := .cond (.t 12) .skip (.exit 0)
noncomputable def c55_12 : ACode := .seq c55_13 c55_14
noncomputable def c55_19 : ACode := .region true [⟨some 15, .move, [.t 6], none⟩,
  ⟨some 16, .un .not, [.t 15], none⟩,
  ⟨some 17, .move, [.t 16], none⟩,
  ⟨some 18, .move, [.t 0], some (some 17, true)⟩,
  ⟨some 19, .move, [.t 7], some (some 17, true)⟩,
  ⟨some 20, .ixS 9, [.t 18, .t 19], some (some 17, true)⟩,
  ⟨some 21, .addr 0, [.t 20], some (some 17, true)⟩,
  ⟨some 22, .load false 1, [.t 21], some (some 17, true)⟩,
  ⟨some 23, .addr 0, [.t 3], some (some 17, true)⟩,
  ⟨some 24, .load false 1, [.t 23], some (some 17, true)⟩,
  ⟨some 25, .bin .geq, [.t 22, .t 24], some (some 17, true)⟩,
  ⟨some 26, .pick, [.t 17, .t 25, .c (.val (.bool false))], none⟩] [] [] [0, 3, 5, 6, 7, 26] false [] []
noncomputable def c55_22 : ACode := .region false [⟨some 27, .move, [.t 5], none⟩,
  ⟨some 28, .load true 9, [.t 3], none⟩,
  ⟨some 29, .buildSl 9 1 [(.string ⟨#[]⟩), (.string ⟨#[]⟩), (.bool false), (.int .i64 0), (.int .i64 0), (.int .i64 0), (.int .i64 0), (.int .i64 0), (.int .i64 0)] [(0, 9)], [.t 28], none⟩,
  ⟨some 30, .append 9 88 false, [.t 27, .t 29], none⟩,
  ⟨some 5, .move, [.t 30], none⟩] [] [] [0, 3, 5, 7] true [] []
noncomputable def c55_23 : ACode := .region false [⟨some 6, .move, [.c (.val (.bool true))], none⟩] [] [] [0, 3, 5, 6, 7] false [] []
noncomputable def c55_21 : ACode := .seq c55_22 c55_23
noncomputable def c55_20 : ACode := .cond (.t 26) c55_21 .skip
noncomputable def c55_18 : ACode := .seq c55_19 c55_20
noncomputable def c55_25 : ACode := .region true [⟨some 31, .move, [.t 0], none⟩,
  ⟨some 32, .move, [.t 7], none⟩,
  ⟨some 33, .ixS 9, [.t 31, .t 32], none⟩,
  ⟨some 34, .addr 0, [.t 33], none⟩,
  ⟨some 35, .load false 1, [.t 34], none⟩,
  ⟨some 36, .addr 0, [.t 3], none⟩,
  ⟨some 37, .load false 1, [.t 36], none⟩,
  ⟨some 38, .bin .neq, [.t 35, .t 37], none⟩] [] [] [0, 3, 5, 6, 7, 38] false [] []
noncomputable def c55_27 : ACode := .region false [⟨some 39, .move, [.t 5], none⟩,
  ⟨some 40, .move, [.t 0], none⟩,
  ⟨some 41, .move, [.t 7], none⟩,
  ⟨some 42, .ixS 9, [.t 40, .t 41], none⟩,
  ⟨some 43, .load true 9, [.t 42], none⟩,
  ⟨some 44, .buildSl 9 1 [(.string ⟨#[]⟩), (.string ⟨#[]⟩), (.bool false), (.int .i64 0), (.int .i64 0), (.int .i64 0), (.int .i64 0), (.int .i64 0), (.int .i64 0)] [(0, 9)], [.t 43], none⟩,
  ⟨some 45, .append 9 88 false, [.t 39, .t 44], none⟩,
  ⟨some 5, .move, [.t 45], none⟩] [] [] [0, 3, 5, 6, 7] true [] []
noncomputable def c55_26 : ACode := .cond (.t 38) c55_27 .skip
noncomputable def c55_24 : ACode := .seq c55_25 c55_26
noncomputable def c55_17 : ACode := .seq c55_18 c55_24
noncomputable def c55_16 : ACode := .block 1 c55_17
noncomputable def c55_28 : ACode := .region false [⟨some 13, .move, [.t 7], none⟩,
  ⟨some 14, .bin .add, [.t 13, .c (.val (.int .i64 1))], none⟩,
  ⟨some 7, .move, [.t 14], none⟩] [] [] [0, 3, 5, 6, 7] false [] []
noncomputable def c55_15 : ACode := .seq c55_16 c55_28
noncomputable def c55_11 : ACode := .seq c55_12 c55_15
noncomputable def c55_10 : ACode := .loop c55_11
noncomputable def c55_9 : ACode := .block 0 c55_10
noncomputable def c55_7 : ACode := .seq c55_8 c55_9
noncomputable def c55_31 : ACode := .region false [⟨some 46, .move, [.t 6], none⟩,
  ⟨some 47, .un .not, [.t 46], none⟩] [] [] [3, 5, 47] false [] []
noncomputable def c55_33 : ACode := .region false [⟨some 48, .move, [.t 5], none⟩,
  ⟨some 49, .load true 9, [.t 3], none⟩,
  ⟨some 50, .buildSl 9 1 [(.string ⟨#[]⟩), (.string ⟨#[]⟩), (.bool false), (.int .i64 0), (.int .i64 0), (.int .i64 0), (.int .i64 0), (.int .i64 0), (.int .i64 0)] [(0, 9)], [.t 49], none⟩,
  ⟨some 51, .append 9 88 false, [.t 48, .t 50], none⟩,
  ⟨some 5, .move, [.t 51], none⟩] [] [] [5] true [] []
noncomputable def c55_32 : ACode := .cond (.t 47) c55_33 .skip
noncomputable def c55_30 : ACode := .seq c55_31 c55_32
noncomputable def c55_35 : ACode := .region false [⟨some 52, .move, [.t 5], none⟩,
  ⟨some 4, .move, [.t 52], none⟩] [] [] [4] false [] []
noncomputable def c55_34 : ACode := .seq c55_35 .ret
noncomputable def c55_29 : ACode := .seq c55_30 c55_34
noncomputable def c55_6 : ACode := .seq c55_7 c55_29
noncomputable def c55_4 : ACode := .seq c55_5 c55_6
noncomputable def c55_2 : ACode := .seq c55_3 c55_4
noncomputable def c55_0 : ACode := .seq c55_1 c55_2
noncomputable def code55 : Code := (Try.f55.body).getD .skip
theorem c55_ok : compC Try.prog 53 code55 = some (strip c55_0) := by kernel_rfl
theorem res55_ok : Try.f55.results.toList.mapM (resC Try.prog) = some [(4, none)] := by kernel_rfl
/- quidnunc/quidnuncref26.Map -/
noncomputable def c31_1 : ACode := .region false [⟨some 2, .move, [.c (.val (.slice none 0 0))], none⟩] [] [] [0] false [] []
noncomputable def c31_3 : ACode := .region false [⟨some 6, .buildSl 9 0 [(.string ⟨#[]⟩), (.string ⟨#[]⟩), (.bool false), (.int .i64 0), (.int .i64 0), (.int .i64 0), (.int .i64 0), (.int .i64 0), (.int .i64 0)] [], [], none⟩,
  ⟨some 3, .move, [.t 6], none⟩] [] [] [0, 3] true [] []
noncomputable def c31_6 : ACode := .region false [⟨some 4, .move, [.c (.val (.int .i64 0))], none⟩] [] [] [0, 3, 4] false [] []
noncomputable def c31_11 : ACode := .region false [⟨some 7, .move, [.t 4], none⟩,
  ⟨some 8, .move, [.t 0], none⟩,
  ⟨some 9, .len, [.t 8], none⟩,
  ⟨some 10, .bin .lss, [.t 7, .t 9], none⟩] [] [] [0, 3, 4, 10] false [] []
noncomputable def c31_12 : ACode := .cond (.t 10) .skip (.exit 0)
noncomputable def c31_10 : ACode := .seq c31_11 c31_12
noncomputable def c31_16 : ACode := .region false [⟨some 13, .move, [.t 3], none⟩,
  ⟨some 14, .move, [.t 0], none⟩,
  ⟨some 15, .move, [.t 4], none⟩,
  ⟨some 16, .ixS 9, [.t 14, .t 15], none⟩,
  ⟨some 17, .addr 0, [.t 16], none⟩,
  ⟨some 18, .load false 1, [.t 17], none⟩,
  ⟨some 19, .call 40, [.t 13, .t 18], none⟩,
  ⟨some 5, .move, [.t 19], none⟩] [] [] [0, 3, 4, 5] true [] []
noncomputable def c31_18 : ACode := .region true [⟨some 20, .move, [.t 5], none⟩,
  ⟨some 21, .bin .lss, [.t 20, .c (.val (.int .i64 0))], none⟩,
  ⟨some 22, .move, [.t 21], none⟩,
  ⟨some 23, .move, [.t 0], some (some 22, false)⟩,
  ⟨some 24, .move, [.t 4], some (some 22, false)⟩,
  ⟨some 25, .ixS 9, [.t 23, .t 24], some (some 22, false)⟩,
  ⟨some 26, .load true 9, [.t 25], some (some 22, false)⟩,
  ⟨some 27, .move, [.t 3], some (some 22, false)⟩,
  ⟨some 28, .move, [.t 5], some (some 22, false)⟩,
  ⟨some 29, .ixS 9, [.t 27, .t 28], some (some 22, false)⟩,
  ⟨some 30, .load true 9, [.t 29], some (some 22, false)⟩,
  ⟨some 31, .call 53, [.t 26, .t 30], some (some 22, false)⟩,
  ⟨some 32, .pick, [.t 22, .c (.val (.bool true)), .t 31], none⟩] [] [] [0, 3, 4, 32] true [] []
noncomputable def c31_20 : ACode := .region false [⟨some 33, .move, [.t 3], none⟩,
  ⟨some 34, .move, [.t 0], none⟩,
  ⟨some 35, .move, [.t 4], none⟩,
  ⟨some 36, .ixS 9, [.t 34, .t 35], none⟩,
  ⟨some 37, .load true 9, [.t 36], none⟩,
  ⟨some 38, .call 55, [.t 33, .t 37], none⟩,
  ⟨some 3, .move, [.t 38], none⟩] [] [] [0, 3, 4] true [] []
noncomputable def c31_19 : ACode := .cond (.t 32) c31_20 .skip
noncomputable def c31_17 : ACode := .seq c31_18 c31_19
noncomputable def c31_15 : ACode := .seq c31_16 c31_17
noncomputable def c31_14 : ACode := .block 1 c31_15
noncomputable def c31_21 : ACode := .region false [⟨some 11, .move, [.t 4], none⟩,
  ⟨some 12, .bin .add, [.t 11, .c (.val (.int .i64 1))], none⟩,
  ⟨some 4, .move, [.t 12], none⟩] [] [] [0, 3, 4] false [] []
noncomputable def c31_13 : ACode := .seq c31_14 c31_21
noncomputable def c31_9 : ACode := .seq c31_10 c31_13
noncomputable def c31_8 : ACode := .loop c31_9
noncomputable def c31_7 : ACode := .block 0 c31_8
noncomputable def c31_5 : ACode := .seq c31_6 c31_7
noncomputable def c31_23 : ACode := .region false [⟨some 39, .move, [.t 3], none⟩,
  ⟨some 2, .move, [.t 39], none⟩] [] [] [2] false [] []
noncomputable def c31_22 : ACode := .seq c31_23 .ret
noncomputable def c31_4 : ACode := .seq c31_5 c31_22
noncomputable def c31_2 : ACode := .seq c31_3 c31_4
noncomputable def c31_0 : ACode := .seq c31_1 c31_2
noncomputable def code31 : Code := (Try.f31.body).getD .skip
theorem c31_ok : compC Try.prog 40 code31 = some (strip c31_0) := by kernel_rfl
theorem res31_ok : Try.f31.results.toList.mapM (resC Try.prog) = some [(2, none)] := by kernel_rfl
theorem geK (a b : ByteArray) : (!(ltK a b)) = !(ltK a b) := rfl
theorem wset_any (o : Nat) (l : List En) (e : En) (hl : l.length ≤ 4096) : ACall Try.prog 55 [.sl 0 o l.length 9 none, EnA e] [.cells true (Re o l)] (Det (.sl 1 0 (setR e l).length 9 none) [.cells true (Re o l), .cells false (Re 0 (setR e l))]) := by
  have hr := re_ren
  have hL := re_len o l
  refine ACall.startA c55_ok Try.func55 rfl Try.ntmps55 (by kernel_rfl) res55_ok rfl rfl rfl ?_; simp (maxSteps := 9999999) (disch := omega) only [go_sem]
  (have k9 := And.intro @hr (k0); (repeat' (first | refine AWpA.seq ?_ | refine AWpA.block ?_ | (with_reducible refine CondP.tt ?_) | (with_reducible refine CondP.ff ?_) | refine AWpA.cg ?_ | ((first | refine AWpA.rg ?_ | refine AWpA.dg [] [] follows ?_ | refine TailK.tg ?_ | refine AWpA.skip ?_ | refine AWpA.exit ?_ | refine AWpA.ret ?_ | (with_reducible refine ARoundsA.succ ?_) | ((first | refine Runs.gkt (fun h9 => ?_) | refine Runs.gkf (fun h9 => ?_) | refine Runs.gnt (fun h9 => ?_) | refine Runs.gnf (fun h9 => ?_) | refine CondP.gt (fun h9 => ?_) | refine CondP.gf (fun h9 => ?_) | refine CondP.gnt (fun h9 => ?_) | refine CondP.gnf (fun h9 => ?_)); (try simp only [h9]); clear h9)); (try simp (maxSteps := 9999999) (disch := omega) only [go_sem, k9]); (try refine cnd ?_)) | ((first | refine CondP.split (fun hif => ?_) (fun hif => ?_) | refine Runs.part (fun hif => ?_) (fun hif => ?_)) <;> ((try simp only [hif]); (try simp only [BL] at hif); (try (have h9 : _ = true := hif; simp only [h9])); (try (have h9 : _ = false := hif; simp only [h9])); (try simp (maxSteps := 9999999) (disch := omega) only [go_sem, k9]); (try refine cnd ?_); (try (exfalso; omega; done)))))); (all_goals (try clear k9)))
  (apply AWpA.loopL (fun i : Nat => [(0, .sl 0 o l.length 9 none), (3, .ptr 2 0), (5, .sl 1 0 (setP e l i).1.length 9 none), (6, Bo (setP e l i).2), (7, I i)]) (fun i => [.cells true (Re o l), .cells false (Re 0 (setP e l i).1), .cells false (EnL e)]) (fun i => l.length - i) (fun i => i ≤ l.length) (0) [0, 33, 1]; rotate_left; (focus (simp (maxSteps := 9999999) (disch := omega) only [go_sem, hr, setP, re_nil, List.length_nil]; (try (repeat' (first | done | trivial | rfl | exact leAs_rfl _ | decide | (refine And.intro ?_ ?_) | (simp; done) | omega | (simp; decide)))))); rotate_right)
  · exact Nat.zero_le _
  rintro i hi
  (try simp only at hi)
  have hpl := setP_len (e := e) i hi
  by_cases hin : i < l.length
  · have g1 : ((i : Int) < (l.length : Int)) = True := eq_true (by omega)
    have hat := re_at o l i hin
    have hkey := re_key o l i hin
    have hs := setP_succ (e := e) hin
    generalize l[i] = x at *
    generalize hP : setP e l i = p at *
    obtain ⟨out, dn⟩ := p
    simp only at hs hpl
    have hL2 := re_len 0 out
    have hfu := re_all out rfl
    by_cases hk : x.key = e.key
    · have k1 : (x.key != e.key) = false := by rw [hk]; simp [bne, ba_dec]
      have k2 : ltK x.key e.key = false := by rw [hk]; exact ltK_irr _
      rw [if_pos hk] at hs
      cases dn with
      | true =>
        rw [if_neg (by simp)] at hs
        simp only at hs
        (try simp (maxSteps := 9999999) (disch := omega) only [go_sem])
        (have k9 := And.intro @hr (And.intro @hL (And.intro @g1 (And.intro @hat (And.intro @hkey (And.intro @k1 (And.intro @k2 (And.intro @ltK_def (k0)))))))); (repeat' (first | refine AWpA.seq ?_ | refine AWpA.block ?_ | (with_reducible refine CondP.tt ?_) | (with_reducible refine CondP.ff ?_) | refine AWpA.cg ?_ | ((first | refine AWpA.rg ?_ | refine AWpA.dg [] [] follows ?_ | refine TailK.tg ?_ | refine AWpA.skip ?_ | refine AWpA.exit ?_ | refine AWpA.ret ?_ | (with_reducible refine ARoundsA.succ ?_) | ((first | refine Runs.gkt (fun h9 => ?_) | refine Runs.gkf (fun h9 => ?_) | refine Runs.gnt (fun h9 => ?_) | refine Runs.gnf (fun h9 => ?_) | refine CondP.gt (fun h9 => ?_) | refine CondP.gf (fun h9 => ?_) | refine CondP.gnt (fun h9 => ?_) | refine CondP.gnf (fun h9 => ?_)); (try simp only [h9]); clear h9)); (try simp (maxSteps := 9999999) (disch := omega) only [go_sem, k9]); (try refine cnd ?_)) | ((first | refine CondP.split (fun hif => ?_) (fun hif => ?_) | refine Runs.part (fun hif => ?_) (fun hif => ?_)) <;> ((try simp only [hif]); (try simp only [BL] at hif); (try (have h9 : _ = true := hif; simp only [h9])); (try (have h9 : _ = false := hif; simp only [h9])); (try simp (maxSteps := 9999999) (disch := omega) only [go_sem, k9]); (try refine cnd ?_); (try (exfalso; omega; done)))))); (all_goals (try clear k9)))
        (apply Back.to (i + 1) [0, 1, 2]; (focus ((try simp (maxSteps := 9999999) (disch := omega) only [go_sem, hr, hs]); first | done | omega)); rotate_left; (focus (simp (maxSteps := 9999999) (disch := omega) only [go_sem, hr, hs]; (try (repeat' (first | done | trivial | rfl | exact leAs_rfl _ | decide | (refine And.intro ?_ ?_) | (simp; done) | omega | (simp; decide)))))))
        omega
      | false =>
        rw [if_pos ⟨rfl, k2⟩] at hs
        simp only at hs
        (try simp (maxSteps := 9999999) (disch := omega) only [go_sem])
        (have k9 := And.intro @hr (And.intro @hL (And.intro @hL2 (And.intro @g1 (And.intro @hat (And.intro @hkey (And.intro @k1 (And.intro @k2 (And.intro @ltK_def (k0))))))))); (repeat' (first | refine AWpA.seq ?_ | refine AWpA.block ?_ | (with_reducible refine CondP.tt ?_) | (with_reducible refine CondP.ff ?_) | refine AWpA.cg ?_ | ((first | refine AWpA.rg ?_ | refine AWpA.dg [] [] follows ?_ | refine TailK.tg ?_ | refine AWpA.skip ?_ | refine AWpA.exit ?_ | refine AWpA.ret ?_ | (with_reducible refine ARoundsA.succ ?_) | ((first | refine Runs.gkt (fun h9 => ?_) | refine Runs.gkf (fun h9 => ?_) | refine Runs.gnt (fun h9 => ?_) | refine Runs.gnf (fun h9 => ?_) | refine CondP.gt (fun h9 => ?_) | refine CondP.gf (fun h9 => ?_) | refine CondP.gnt (fun h9 => ?_) | refine CondP.gnf (fun h9 => ?_)); (try simp only [h9]); clear h9)); (try simp (maxSteps := 9999999) (disch := omega) only [go_sem, k9]); (try refine cnd ?_)) | ((first | refine CondP.split (fun hif => ?_) (fun hif => ?_) | refine Runs.part (fun hif => ?_) (fun hif => ?_)) <;> ((try simp only [hif]); (try simp only [BL] at hif); (try (have h9 : _ = true := hif; simp only [h9])); (try (have h9 : _ = false := hif; simp only [h9])); (try simp (maxSteps := 9999999) (disch := omega) only [go_sem, k9]); (try refine cnd ?_); (try (exfalso; omega; done)))))); (all_goals (try clear k9)))
        (apply Back.to (i + 1) [0, _, 2]; (focus ((try simp (maxSteps := 9999999) (disch := omega) only [go_sem, hr, hs, hfu, re_app, re_one, renL_append, List.length_append, List.length_singleton]); first | done | omega)); rotate_left; (focus (simp (maxSteps := 9999999) (disch := omega) only [go_sem, hr, hs, hfu, re_app, re_one, renL_append, List.length_append, List.length_singleton]; (try (repeat' (first | done | trivial | rfl | exact leAs_rfl _ | decide | (refine And.intro ?_ ?_) | (simp; done) | omega | (simp; decide)))))))
        omega
    · have k1 : (x.key != e.key) = true := by simp [bne, ba_dec, hk]
      rw [if_neg hk] at hs
      cases dn with
      | true =>
        rw [if_neg (by simp)] at hs
        simp only at hs
        (try simp (maxSteps := 9999999) (disch := omega) only [go_sem])
        (have k9 := And.intro @hr (And.intro @hL (And.intro @hL2 (And.intro @g1 (And.intro @hat (And.intro @hkey (And.intro @k1 (And.intro @ltK_def (k0)))))))); (repeat' (first | refine AWpA.seq ?_ | refine AWpA.block ?_ | (with_reducible refine CondP.tt ?_) | (with_reducible refine CondP.ff ?_) | refine AWpA.cg ?_ | ((first | refine AWpA.rg ?_ | refine AWpA.dg [] [] follows ?_ | refine TailK.tg ?_ | refine AWpA.skip ?_ | refine AWpA.exit ?_ | refine AWpA.ret ?_ | (with_reducible refine ARoundsA.succ ?_) | ((first | refine Runs.gkt (fun h9 => ?_) | refine Runs.gkf (fun h9 => ?_) | refine Runs.gnt (fun h9 => ?_) | refine Runs.gnf (fun h9 => ?_) | refine CondP.gt (fun h9 => ?_) | refine CondP.gf (fun h9 => ?_) | refine CondP.gnt (fun h9 => ?_) | refine CondP.gnf (fun h9 => ?_)); (try simp only [h9]); clear h9)); (try simp (maxSteps := 9999999) (disch := omega) only [go_sem, k9]); (try refine cnd ?_)) | ((first | refine CondP.split (fun hif => ?_) (fun hif => ?_) | refine Runs.part (fun hif => ?_) (fun hif => ?_)) <;> ((try simp only [hif]); (try simp only [BL] at hif); (try (have h9 : _ = true := hif; simp only [h9])); (try (have h9 : _ = false := hif; simp only [h9])); (try simp (maxSteps := 9999999) (disch := omega) only [go_sem, k9]); (try refine cnd ?_); (try (exfalso; omega; done)))))); (all_goals (try clear k9)))
        (apply Back.to (i + 1) [0, _, 2]; (focus ((try simp (maxSteps := 9999999) (disch := omega) only [go_sem, hr, hs, hfu, re_app, re_one, renL_append, List.length_append, List.length_singleton]); first | done | omega)); rotate_left; (focus (simp (maxSteps := 9999999) (disch := omega) only [go_sem, hr, hs, hfu, re_app, re_one, renL_append, List.length_append, List.length_singleton]; (try (repeat' (first | done | trivial | rfl | exact leAs_rfl _ | decide | (refine And.intro ?_ ?_) | (simp; done) | omega | (simp; decide)))))))
        omega
      | false =>
        cases k2 : ltK x.key e.key with
        | true =>
          rw [if_neg (by simp [k2])] at hs
          simp only at hs
          (try simp (maxSteps := 9999999) (disch := omega) only [go_sem])
          (have k9 := And.intro @hr (And.intro @hL (And.intro @hL2 (And.intro @g1 (And.intro @hat (And.intro @hkey (And.intro @k1 (And.intro @k2 (And.intro @ltK_def (k0))))))))); (repeat' (first | refine AWpA.seq ?_ | refine AWpA.block ?_ | (with_reducible refine CondP.tt ?_) | (with_reducible refine CondP.ff ?_) | refine AWpA.cg ?_ | ((first | refine AWpA.rg ?_ | refine AWpA.dg [] [] follows ?_ | refine TailK.tg ?_ | refine AWpA.skip ?_ | refine AWpA.exit ?_ | refine AWpA.ret ?_ | (with_reducible refine ARoundsA.succ ?_) | ((first | refine Runs.gkt (fun h9 => ?_) | refine Runs.gkf (fun h9 => ?_) | refine Runs.gnt (fun h9 => ?_) | refine Runs.gnf (fun h9 => ?_) | refine CondP.gt (fun h9 => ?_) | refine CondP.gf (fun h9 => ?_) | refine CondP.gnt (fun h9 => ?_) | refine CondP.gnf (fun h9 => ?_)); (try simp only [h9]); clear h9)); (try simp (maxSteps := 9999999) (disch := omega) only [go_sem, k9]); (try refine cnd ?_)) | ((first | refine CondP.split (fun hif => ?_) (fun hif => ?_) | refine Runs.part (fun hif => ?_) (fun hif => ?_)) <;> ((try simp only [hif]); (try simp only [BL] at hif); (try (have h9 : _ = true := hif; simp only [h9])); (try (have h9 : _ = false := hif; simp only [h9])); (try simp (maxSteps := 9999999) (disch := omega) only [go_sem, k9]); (try refine cnd ?_); (try (exfalso; omega; done)))))); (all_goals (try clear k9)))
          (apply Back.to (i + 1) [0, _, 2]; (focus ((try simp (maxSteps := 9999999) (disch := omega) only [go_sem, hr, hs, hfu, re_app, re_one, renL_append, List.length_append, List.length_singleton]); first | done | omega)); rotate_left; (focus (simp (maxSteps := 9999999) (disch := omega) only [go_sem, hr, hs, hfu, re_app, re_one, renL_append, List.length_append, List.length_singleton]; (try (repeat' (first | done | trivial | rfl | exact leAs_rfl _ | decide | (refine And.intro ?_ ?_) | (simp; done) | omega | (simp; decide)))))))
          omega
        | false =>
          rw [if_pos ⟨rfl, k2⟩] at hs
          simp only at hs
          have hfu2 := re_all (out ++ [e]) (n := (out.length + 1) * 9) (by simp)
          rw [re_app, re_one] at hfu2
          (try simp (maxSteps := 9999999) (disch := omega) only [go_sem])
          (have k9 := And.intro @hr (And.intro @hL (And.intro @hL2 (And.intro @hfu (And.intro @g1 (And.intro @hat (And.intro @hkey (And.intro @k1 (And.intro @k2 (And.intro @ltK_def (k0)))))))))); (repeat' (first | refine AWpA.seq ?_ | refine AWpA.block ?_ | (with_reducible refine CondP.tt ?_) | (with_reducible refine CondP.ff ?_) | refine AWpA.cg ?_ | ((first | refine AWpA.rg ?_ | refine AWpA.dg [] [] follows ?_ | refine TailK.tg ?_ | refine AWpA.skip ?_ | refine AWpA.exit ?_ | refine AWpA.ret ?_ | (with_reducible refine ARoundsA.succ ?_) | ((first | refine Runs.gkt (fun h9 => ?_) | refine Runs.gkf (fun h9 => ?_) | refine Runs.gnt (fun h9 => ?_) | refine Runs.gnf (fun h9 => ?_) | refine CondP.gt (fun h9 => ?_) | refine CondP.gf (fun h9 => ?_) | refine CondP.gnt (fun h9 => ?_) | refine CondP.gnf (fun h9 => ?_)); (try simp only [h9]); clear h9)); (try simp (maxSteps := 9999999) (disch := omega) only [go_sem, k9]); (try refine cnd ?_)) | ((first | refine CondP.split (fun hif => ?_) (fun hif => ?_) | refine Runs.part (fun hif => ?_) (fun hif => ?_)) <;> ((try simp only [hif]); (try simp only [BL] at hif); (try (have h9 : _ = true := hif; simp only [h9])); (try (have h9 : _ = false := hif; simp only [h9])); (try simp (maxSteps := 9999999) (disch := omega) only [go_sem, k9]); (try refine cnd ?_); (try (exfalso; omega; done)))))); (all_goals (try clear k9)))
          (apply Back.to (i + 1) [0, _, 2]; (focus ((try simp (maxSteps := 9999999) (disch := omega) only [go_sem, hr, hs, hfu, hfu2, re_app, re_one, renL_append, List.length_append, List.length_singleton]); first | done | omega)); rotate_left; (focus (simp (maxSteps := 9999999) (disch := omega) only [go_sem, hr, hs, hfu, hfu2, re_app, re_one, renL_append, List.length_append, List.length_singleton]; (try (repeat' (first | done | trivial | rfl | exact leAs_rfl _ | decide | (refine And.intro ?_ ?_) | (simp; done) | omega | (simp; decide)))))))
          omega
  · obtain rfl : i = l.length := by omega
    have g1 : ((l.length : Int) < (l.length : Int)) = False := eq_false (by omega)
    unfold setR
    generalize hP : setP e l l.length = p at *
    obtain ⟨out, dn⟩ := p
    simp only at hpl
    have hL2 := re_len 0 out
    have hfu := re_all out rfl
    cases dn with
    | true =>
      rw [if_pos rfl]
      simp only
      (try simp (maxSteps := 9999999) (disch := omega) only [go_sem])
      (have k9 := And.intro @hr (And.intro @g1 (k0)); (repeat' (first | refine AWpA.seq ?_ | refine AWpA.block ?_ | (with_reducible refine CondP.tt ?_) | (with_reducible refine CondP.ff ?_) | refine AWpA.cg ?_ | ((first | refine AWpA.rg ?_ | refine AWpA.dg [] [] follows ?_ | refine TailK.tg ?_ | refine AWpA.skip ?_ | refine AWpA.exit ?_ | refine AWpA.ret ?_ | (with_reducible refine ARoundsA.succ ?_) | ((first | refine Runs.gkt (fun h9 => ?_) | refine Runs.gkf (fun h9 => ?_) | refine Runs.gnt (fun h9 => ?_) | refine Runs.gnf (fun h9 => ?_) | refine CondP.gt (fun h9 => ?_) | refine CondP.gf (fun h9 => ?_) | refine CondP.gnt (fun h9 => ?_) | refine CondP.gnf (fun h9 => ?_)); (try simp only [h9]); clear h9)); (try simp (maxSteps := 9999999) (disch := omega) only [go_sem, k9]); (try refine cnd ?_)) | ((first | refine CondP.split (fun hif => ?_) (fun hif => ?_) | refine Runs.part (fun hif => ?_) (fun hif => ?_)) <;> ((try simp only [hif]); (try simp only [BL] at hif); (try (have h9 : _ = true := hif; simp only [h9])); (try (have h9 : _ = false := hif; simp only [h9])); (try simp (maxSteps := 9999999) (disch := omega) only [go_sem, k9]); (try refine cnd ?_); (try (exfalso; omega; done)))))); (all_goals (try clear k9)))
      (apply Ret.det [0, 1]; (focus (first | exact .inl rfl | exact .inr rfl)); (focus (simp (maxSteps := 9999999) (disch := omega) only [go_sem, hr]; rfl)); (simp (maxSteps := 9999999) (disch := omega) only [go_sem, hr]; (try (repeat' (first | done | trivial | rfl | exact leAs_rfl _ | decide | (refine And.intro ?_ ?_) | (simp; done) | omega | (simp; decide))))))
    | false =>
      rw [if_neg (by simp)]
      simp only
      (try simp (maxSteps := 9999999) (disch := omega) only [go_sem])
      (have k9 := And.intro @hr (And.intro @g1 (And.intro @hL2 (k0))); (repeat' (first | refine AWpA.seq ?_ | refine AWpA.block ?_ | (with_reducible refine CondP.tt ?_) | (with_reducible refine CondP.ff ?_) | refine AWpA.cg ?_ | ((first | refine AWpA.rg ?_ | refine AWpA.dg [] [] follows ?_ | refine TailK.tg ?_ | refine AWpA.skip ?_ | refine AWpA.exit ?_ | refine AWpA.ret ?_ | (with_reducible refine ARoundsA.succ ?_) | ((first | refine Runs.gkt (fun h9 => ?_) | refine Runs.gkf (fun h9 => ?_) | refine Runs.gnt (fun h9 => ?_) | refine Runs.gnf (fun h9 => ?_) | refine CondP.gt (fun h9 => ?_) | refine CondP.gf (fun h9 => ?_) | refine CondP.gnt (fun h9 => ?_) | refine CondP.gnf (fun h9 => ?_)); (try simp only [h9]); clear h9)); (try simp (maxSteps := 9999999) (disch := omega) only [go_sem, k9]); (try refine cnd ?_)) | ((first | refine CondP.split (fun hif => ?_) (fun hif => ?_) | refine Runs.part (fun hif => ?_) (fun hif => ?_)) <;> ((try simp only [hif]); (try simp only [BL] at hif); (try (have h9 : _ = true := hif; simp only [h9])); (try (have h9 : _ = false := hif; simp only [h9])); (try simp (maxSteps := 9999999) (disch := omega) only [go_sem, k9]); (try refine cnd ?_); (try (exfalso; omega; done)))))); (all_goals (try clear k9)))
      (apply Ret.det [0, _]; (focus (first | exact .inl rfl | exact .inr rfl)); (focus (simp (maxSteps := 9999999) (disch := omega) only [go_sem, hr, hfu, re_app, re_one, renL_append, List.length_append, List.length_singleton]; rfl)); (simp (maxSteps := 9999999) (disch := omega) only [go_sem, hr, hfu, re_app, re_one, renL_append, List.length_append, List.length_singleton]; (try (repeat' (first | done | trivial | rfl | exact leAs_rfl _ | decide | (refine And.intro ?_ ?_) | (simp; done) | omega | (simp; decide))))))
end Go.Proofs.Ytbblpmkdhdnkhaa
