/- Contract: the document's Map of entries. -/
import Derived.Test.YtbblpmkdhdnkhaaWm4
namespace Go.Proofs.Ytbblpmkdhdnkhaa
set_option linter.unusedSimpArgs false
set_option linter.unusedVariables false
set_option maxHeartbeats 4000000
open Go Go.Am Go.RowKit
set_option maxRecDepth 100000
set_option maxHeartbeats 1000000
theorem setP_len2 {e : En} {l : List En} : ∀ n, n ≤ l.length → (setP e l n).1.length ≤ n + (if (setP e l n).2 = true then 1 else 0)
  | 0, _ => by simp [setP]
  | n + 1, hn => by
    rw [setP_succ (by omega)]
    have ih := setP_len2 (e := e) (l := l) n (by omega)
    generalize setP e l n = p at *
    obtain ⟨out, dn⟩ := p
    simp only at ih ⊢
    by_cases h1 : dn = false ∧ ltK l[n].key e.key = false
    · rw [if_pos h1]
      rw [h1.1] at ih
      simp only [Bool.false_eq_true, if_false] at ih
      by_cases h2 : l[n].key = e.key
      · simp only [if_pos h2, if_true, List.length_append, List.length_singleton]; omega
      · simp only [if_neg h2, if_true, List.length_append, List.length_singleton]; omega
    · rw [if_neg h1]
      by_cases h2 : l[n].key = e.key
      · simp only [if_pos h2]; omega
      · simp only [if_neg h2, List.length_append, List.length_singleton]; omega
theorem setR_len (e : En) (l : List En) : (setR e l).length ≤ l.length + 1 := by
  have h := setP_len2 (e := e) (l := l) l.length (Nat.le_refl _)
  unfold setR
  split
  · rename_i h1; rw [if_pos h1] at h; exact h
  · rename_i h1; rw [if_neg h1] at h; simp only [List.length_append, List.length_singleton]; omega
/-- The document's map, so many entries looked at. -/
def mapR (l : List En) : Nat → List En
  | 0 => []
  | n + 1 => match l[n]? with
    | some e => if fellP (mapR l n) e = true then setR e (mapR l n) else mapR l n
    | none => mapR l n
theorem mapR_succ {l : List En} {n : Nat} (h : n < l.length) : mapR l (n + 1) = if fellP (mapR l n) l[n] = true then setR l[n] (mapR l n) else mapR l n := by
  rw [mapR, List.getElem?_eq_getElem h]
theorem mapR_len {l : List En} : ∀ n, n ≤ l.length → (mapR l n).length ≤ n
  | 0, _ => by simp [mapR]
  | n + 1, hn => by
    rw [mapR_succ (by omega)]
    have ih := mapR_len (l := l) n (by omega)
    split
    · have := setR_len l[n] (mapR l n)
      omega
    · omega
theorem rmap_any (o : Nat) (l : List En) (hl : l.length ≤ 4096) : ACall Try.prog 31 [.sl 0 o l.length 9 none] [.cells true (Re o l)] (Det (.sl 1 0 (mapR l l.length).length 9 none) [.cells true (Re o l), .cells false (Re 0 (mapR l l.length))]) := by
  have hr := re_ren
  have hL := re_len o l
  refine ACall.startA c31_ok Try.func31 rfl Try.ntmps31 (by kernel_rfl) res31_ok rfl rfl rfl ?_; simp (maxSteps := 9999999) (disch := omega) only [go_sem]
  (have k9 := And.intro @hr (k0); (repeat' (first | refine AWpA.seq ?_ | refine AWpA.block ?_ | (with_reducible refine CondP.tt ?_) | (with_reducible refine CondP.ff ?_) | refine AWpA.cg ?_ | ((first | refine AWpA.rg ?_ | refine AWpA.dg [] [] follows ?_ | refine TailK.tg ?_ | refine AWpA.skip ?_ | refine AWpA.exit ?_ | refine AWpA.ret ?_ | (with_reducible refine ARoundsA.succ ?_) | ((first | refine Runs.gkt (fun h9 => ?_) | refine Runs.gkf (fun h9 => ?_) | refine Runs.gnt (fun h9 => ?_) | refine Runs.gnf (fun h9 => ?_) | refine CondP.gt (fun h9 => ?_) | refine CondP.gf (fun h9 => ?_) | refine CondP.gnt (fun h9 => ?_) | refine CondP.gnf (fun h9 => ?_)); (try simp only [h9]); clear h9)); (try simp (maxSteps := 9999999) (disch := omega) only [go_sem, k9]); (try refine cnd ?_)) | ((first | refine CondP.split (fun hif => ?_) (fun hif => ?_) | refine Runs.part (fun hif => ?_) (fun hif => ?_)) <;> ((try simp only [hif]); (try simp only [BL] at hif); (try (have h9 : _ = true := hif; simp only [h9])); (try (have h9 : _ = false := hif; simp only [h9])); (try simp (maxSteps := 9999999) (disch := omega) only [go_sem, k9]); (try refine cnd ?_); (try (exfalso; omega; done)))))); (all_goals (try clear k9)))
  (apply AWpA.loopL (fun i : Nat => [(0, .sl 0 o l.length 9 none), (3, .sl 1 0 (mapR l i).length 9 none), (4, I i)]) (fun i => [.cells true (Re o l), .cells false (Re 0 (mapR l i))]) (fun i => l.length - i) (fun i => i ≤ l.length) (0) [0, _]; rotate_left; (focus (simp (maxSteps := 9999999) (disch := omega) only [go_sem, hr, mapR, re_nil, List.length_nil]; (try (repeat' (first | done | trivial | rfl | exact leAs_rfl _ | decide | (refine And.intro ?_ ?_) | (simp; done) | omega | (simp; decide)))))); rotate_right)
  · exact Nat.zero_le _
  rintro i hi
  (try simp only at hi)
  have hml := mapR_len i hi
  by_cases hin : i < l.length
  · have g1 : ((i : Int) < (l.length : Int)) = True := eq_true (by omega)
    have hat := re_at o l i hin
    have hkey := re_key o l i hin
    have hs := mapR_succ hin
    generalize mapR l i = out at *
    generalize l[i] = x at *
    have hL2 := re_len 0 out
    have f1 := efind_any 0 out x.key (by omega)
    have s1 := wset_any 0 out x (by omega)
    rcases idxI_cases out (fun e => decide (e.key = x.key)) with ⟨e1, -⟩ | ⟨j, hj, e1, -⟩
    · have e2 : firstK out x.key = -1 := e1
      rw [e2] at f1
      have e3 : fellP out x = true := by unfold fellP; rw [if_pos e2]
      rw [if_pos e3] at hs
      (try simp (maxSteps := 9999999) (disch := omega) only [go_sem])
      (have k9 := And.intro @hr (And.intro @hL (And.intro @g1 (And.intro @hat (And.intro @hkey (k0))))); (repeat' (first | refine AWpA.seq ?_ | refine AWpA.block ?_ | (with_reducible refine CondP.tt ?_) | (with_reducible refine CondP.ff ?_) | refine AWpA.cg ?_ | ((first | refine AWpA.rg ?_ | refine AWpA.dg [] [] follows ?_ | refine TailK.tg ?_ | refine AWpA.skip ?_ | refine AWpA.exit ?_ | refine AWpA.ret ?_ | (with_reducible refine ARoundsA.succ ?_) | ((first | refine Runs.gkt (fun h9 => ?_) | refine Runs.gkf (fun h9 => ?_) | refine Runs.gnt (fun h9 => ?_) | refine Runs.gnf (fun h9 => ?_) | refine CondP.gt (fun h9 => ?_) | refine CondP.gf (fun h9 => ?_) | refine CondP.gnt (fun h9 => ?_) | refine CondP.gnf (fun h9 => ?_)); (try simp only [h9]); clear h9) | refine CallG.pg [1] (f1) ?_ | refine CallG.pg [1] (s1) ?_ | refine CallG.dg [1] (f1) ?_ | refine CallG.dg [1] (s1) ?_); (try simp (maxSteps := 9999999) (disch := omega) only [go_sem, k9]); (try refine cnd ?_)) | ((first | refine CondP.split (fun hif => ?_) (fun hif => ?_) | refine Runs.part (fun hif => ?_) (fun hif => ?_)) <;> ((try simp only [hif]); (try simp only [BL] at hif); (try (have h9 : _ = true := hif; simp only [h9])); (try (have h9 : _ = false := hif; simp only [h9])); (try simp (maxSteps := 9999999) (disch := omega) only [go_sem, k9]); (try refine cnd ?_); (try (exfalso; omega; done)))))); (all_goals (try clear k9)))
      (apply Back.to (i + 1) [0, _]; (focus ((try simp (maxSteps := 9999999) (disch := omega) only [go_sem, hr, hs]); first | done | omega)); rotate_left; (focus (simp (maxSteps := 9999999) (disch := omega) only [go_sem, hr, hs]; (try (repeat' (first | done | trivial | rfl | exact leAs_rfl _ | decide | (refine And.intro ?_ ?_) | (simp; done) | omega | (simp; decide)))))))
      omega
    · have e2 : firstK out x.key = (j : Int) := e1
      rw [e2] at f1
      have e3 : fellP out x = newerB x out[j] := by
        unfold fellP
        rw [if_neg (by omega), e2, show ((j : Int)).toNat = j by omega, List.getElem?_eq_getElem hj]
      rw [e3] at hs
      have hat2 := re_at 0 out j hj
      rw [Nat.zero_add] at hat2
      have n1 := wnewer_any x out[j]
      have g2 : ((j : Int) < 0) = False := eq_false (by omega)
      generalize out[j] = y at *
      cases hb : newerB x y with
      | true =>
        rw [hb] at n1
        rw [if_pos hb] at hs
        (try simp (maxSteps := 9999999) (disch := omega) only [go_sem])
        (have k9 := And.intro @hr (And.intro @hL (And.intro @hL2 (And.intro @g1 (And.intro @g2 (And.intro @hat (And.intro @hat2 (And.intro @hkey (k0)))))))); (repeat' (first | refine AWpA.seq ?_ | refine AWpA.block ?_ | (with_reducible refine CondP.tt ?_) | (with_reducible refine CondP.ff ?_) | refine AWpA.cg ?_ | ((first | refine AWpA.rg ?_ | refine AWpA.dg [] [] follows ?_ | refine TailK.tg ?_ | refine AWpA.skip ?_ | refine AWpA.exit ?_ | refine AWpA.ret ?_ | (with_reducible refine ARoundsA.succ ?_) | ((first | refine Runs.gkt (fun h9 => ?_) | refine Runs.gkf (fun h9 => ?_) | refine Runs.gnt (fun h9 => ?_) | refine Runs.gnf (fun h9 => ?_) | refine CondP.gt (fun h9 => ?_) | refine CondP.gf (fun h9 => ?_) | refine CondP.gnt (fun h9 => ?_) | refine CondP.gnf (fun h9 => ?_)); (try simp only [h9]); clear h9) | refine CallG.pg [1] (f1) ?_ | refine CallG.pg [1] (s1) ?_ | refine CallG.pg [] (n1) ?_ | refine CallG.dg [1] (f1) ?_ | refine CallG.dg [1] (s1) ?_ | refine CallG.dg [] (n1) ?_); (try simp (maxSteps := 9999999) (disch := omega) only [go_sem, k9]); (try refine cnd ?_)) | ((first | refine CondP.split (fun hif => ?_) (fun hif => ?_) | refine Runs.part (fun hif => ?_) (fun hif => ?_)) <;> ((try simp only [hif]); (try simp only [BL] at hif); (try (have h9 : _ = true := hif; simp only [h9])); (try (have h9 : _ = false := hif; simp only [h9])); (try simp (maxSteps := 9999999) (disch := omega) only [go_sem, k9]); (try refine cnd ?_); (try (exfalso; omega; done)))))); (all_goals (try clear k9)))
        (apply Back.to (i + 1) [0, _]; (focus ((try simp (maxSteps := 9999999) (disch := omega) only [go_sem, hr, hs]); first | done | omega)); rotate_left; (focus (simp (maxSteps := 9999999) (disch := omega) only [go_sem, hr, hs]; (try (repeat' (first | done | trivial | rfl | exact leAs_rfl _ | decide | (refine And.intro ?_ ?_) | (simp; done) | omega | (simp; decide)))))))
        omega
      | false =>
        rw [hb] at n1
        rw [if_neg (by simp [hb])] at hs
        (try simp (maxSteps := 9999999) (disch := omega) only [go_sem])
        (have k9 := And.intro @hr (And.intro @hL (And.intro @hL2 (And.intro @g1 (And.intro @g2 (And.intro @hat (And.intro @hat2 (And.intro @hkey (k0)))))))); (repeat' (first | refine AWpA.seq ?_ | refine AWpA.block ?_ | (with_reducible refine CondP.tt ?_) | (with_reducible refine CondP.ff ?_) | refine AWpA.cg ?_ | ((first | refine AWpA.rg ?_ | refine AWpA.dg [] [] follows ?_ | refine TailK.tg ?_ | refine AWpA.skip ?_ | refine AWpA.exit ?_ | refine AWpA.ret ?_ | (with_reducible refine ARoundsA.succ ?_) | ((first | refine Runs.gkt (fun h9 => ?_) | refine Runs.gkf (fun h9 => ?_) | refine Runs.gnt (fun h9 => ?_) | refine Runs.gnf (fun h9 => ?_) | refine CondP.gt (fun h9 => ?_) | refine CondP.gf (fun h9 => ?_) | refine CondP.gnt (fun h9 => ?_) | refine CondP.gnf (fun h9 => ?_)); (try simp only [h9]); clear h9) | refine CallG.pg [1] (f1) ?_ | refine CallG.pg [1] (s1) ?_ | refine CallG.pg [] (n1) ?_ | refine CallG.dg [1] (f1) ?_ | refine CallG.dg [1] (s1) ?_ | refine CallG.dg [] (n1) ?_); (try simp (maxSteps := 9999999) (disch := omega) only [go_sem, k9]); (try refine cnd ?_)) | ((first | refine CondP.split (fun hif => ?_) (fun hif => ?_) | refine Runs.part (fun hif => ?_) (fun hif => ?_)) <;> ((try simp only [hif]); (try simp only [BL] at hif); (try (have h9 : _ = true := hif; simp only [h9])); (try (have h9 : _ = false := hif; simp only [h9])); (try simp (maxSteps := 9999999) (disch := omega) only [go_sem, k9]); (try refine cnd ?_); (try (exfalso; omega; done)))))); (all_goals (try clear k9)))
        (apply Back.to (i + 1) [0, 1]; (focus ((try simp (maxSteps := 9999999) (disch := omega) only [go_sem, hr, hs]); first | done | omega)); rotate_left; (focus (simp (maxSteps := 9999999) (disch := omega) only [go_sem, hr, hs]; (try (repeat' (first | done | trivial | rfl | exact leAs_rfl _ | decide | (refine And.intro ?_ ?_) | (simp; done) | omega | (simp; decide)))))))
        omega
  · obtain rfl : i = l.length := by omega
    have g1 : ((l.length : Int) < (l.length : Int)) = False := eq_false (by omega)
    (try simp (maxSteps := 9999999) (disch := omega) only [go_sem])
    (have k9 := And.intro @hr (And.intro @g1 (k0)); (repeat' (first | refine AWpA.seq ?_ | refine AWpA.block ?_ | (with_reducible refine CondP.tt ?_) | (with_reducible refine CondP.ff ?_) | refine AWpA.cg ?_ | ((first | refine AWpA.rg ?_ | refine AWpA.dg [] [] follows ?_ | refine TailK.tg ?_ | refine AWpA.skip ?_ | refine AWpA.exit ?_ | refine AWpA.ret ?_ | (with_reducible refine ARoundsA.succ ?_) | ((first | refine Runs.gkt (fun h9 => ?_) | refine Runs.gkf (fun h9 => ?_) | refine Runs.gnt (fun h9 => ?_) | refine Runs.gnf (fun h9 => ?_) | refine CondP.gt (fun h9 => ?_) | refine CondP.gf (fun h9 => ?_) | refine CondP.gnt (fun h9 => ?_) | refine CondP.gnf (fun h9 => ?_)); (try simp only [h9]); clear h9)); (try simp (maxSteps := 9999999) (disch := omega) only [go_sem, k9]); (try refine cnd ?_)) | ((first | refine CondP.split (fun hif => ?_) (fun hif => ?_) | refine Runs.part (fun hif => ?_) (fun hif => ?_)) <;> ((try simp only [hif]); (try simp only [BL] at hif); (try (have h9 : _ = true := hif; simp only [h9])); (try (have h9 : _ = false := hif; simp only [h9])); (try simp (maxSteps := 9999999) (disch := omega) only [go_sem, k9]); (try refine cnd ?_); (try (exfalso; omega; done)))))); (all_goals (try clear k9)))
    (apply Ret.det [0, 1]; (focus (first | exact .inl rfl | exact .inr rfl)); (focus (simp (maxSteps := 9999999) (disch := omega) only [go_sem, hr]; rfl)); (simp (maxSteps := 9999999) (disch := omega) only [go_sem, hr]; (try (repeat' (first | done | trivial | rfl | exact leAs_rfl _ | decide | (refine And.intro ?_ ?_) | (simp; done) | omega | (simp; decide))))))
end Go.Proofs.Ytbblpmkdhdnkhaa
