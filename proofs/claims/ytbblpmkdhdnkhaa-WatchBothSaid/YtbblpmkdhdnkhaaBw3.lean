/- Contracts: what nobody wrote; what isn't there. -/
import Derived.Test.YtbblpmkdhdnkhaaBw2
namespace Go.Proofs.Ytbblpmkdhdnkhaa
set_option linter.unusedSimpArgs false
set_option linter.unusedVariables false
set_option maxHeartbeats 4000000
open Go Go.Am Go.RowKit
set_option maxRecDepth 100000
/-- The map of what updates have in common with their entries. -/
def knM (l : List Up) : Nat → List (En × Int)
  | 0 => []
  | n + 1 => match l[n]? with
    | some u => updG (coreE u.e) (n : Int) (knM l n)
    | none => knM l n
theorem kn_succ {l : List Up} {n : Nat} (h : n < l.length) : knM l (n + 1) = updG (coreE l[n].e) (n : Int) (knM l n) := by
  rw [knM, List.getElem?_eq_getElem h]
def knownB (l : List Up) (e : En) : Bool := l.any fun u => decide (coreE e = coreE u.e)
theorem kn_look {l : List Up} (e : En) : ∀ n, n ≤ l.length → (lookG (coreE e) (knM l n)).isSome = knownB (l.take n) e
  | 0, _ => by simp [knM, lookG, knownB]
  | n + 1, h => by
    have ih := kn_look (l := l) e n (by omega)
    rw [kn_succ (l := l) (n := n) (by omega), look_upd]
    unfold knownB at ih ⊢
    rw [List.take_succ_eq_append_getElem (by omega), List.any_append, ← ih]
    simp only [List.any_cons, List.any_nil, Bool.or_false]
    split
    · rename_i h1; simp [h1]
    · rename_i h1; simp [h1]
def strangeI (table : List En) (l : List Up) : Int := idxI table fun e => !knownB l e
abbrev EsN (l : List Up) : List (AV × AV) := EsG EnA (knM l l.length)
theorem strange1_any (l : List Up) (e : En) : ACall Try.prog 34 [EnA e, .ptr 0 0] [.cells true [.mp 1], .map true (EsN l)] (Det (Bo (!knownB l e)) [.cells true [.mp 1], .map true (EsN l)]) := by
  have hg := fun ρ M => ren_G (enc := EnA) en_ren ρ M
  have c := core_any e
  have hk := key_en (coreE e) (coreE e)
  rw [decide_eq_true rfl] at hk
  have hf := find_G key_en (coreE e) (knM l l.length)
  have hs := kn_look (l := l) e l.length (Nat.le_refl _)
  rw [List.take_length] at hs
  rw [← hs]
  cases hlk : lookG (coreE e) (knM l l.length) with
  | none =>
    rw [hlk] at hf
    simp only [Option.map_none] at hf
    simp only [Option.isSome_none, Bool.not_false]
    clear hs hlk
    generalize coreE e = x at *
    refine ACall.startA c34_ok Try.func34 rfl Try.ntmps34 (by kernel_rfl) res34_ok rfl rfl rfl ?_; simp (maxSteps := 9999999) (disch := omega) only [go_sem]
    (have k9 := And.intro @hg (And.intro @hk (And.intro @hf (k0))); (repeat' (first | refine AWpA.seq ?_ | refine AWpA.block ?_ | (with_reducible refine CondP.tt ?_) | (with_reducible refine CondP.ff ?_) | refine AWpA.cg ?_ | ((first | refine AWpA.rg ?_ | refine AWpA.dg [] [] follows ?_ | refine TailK.tg ?_ | refine AWpA.skip ?_ | refine AWpA.exit ?_ | refine AWpA.ret ?_ | (with_reducible refine ARoundsA.succ ?_) | ((first | refine Runs.gkt (fun h9 => ?_) | refine Runs.gkf (fun h9 => ?_) | refine Runs.gnt (fun h9 => ?_) | refine Runs.gnf (fun h9 => ?_) | refine CondP.gt (fun h9 => ?_) | refine CondP.gf (fun h9 => ?_) | refine CondP.gnt (fun h9 => ?_) | refine CondP.gnf (fun h9 => ?_)); (try simp only [h9]); clear h9) | refine CallG.pg [] (c) ?_ | refine CallG.dg [] (c) ?_); (try simp (maxSteps := 9999999) (disch := omega) only [go_sem, k9]); (try refine cnd ?_)) | ((first | refine CondP.split (fun hif => ?_) (fun hif => ?_) | refine Runs.part (fun hif => ?_) (fun hif => ?_)) <;> ((try simp only [hif]); (try simp only [BL] at hif); (try (have h9 : _ = true := hif; simp only [h9])); (try (have h9 : _ = false := hif; simp only [h9])); (try simp (maxSteps := 9999999) (disch := omega) only [go_sem, k9]); (try refine cnd ?_); (try (exfalso; omega; done)))))); (all_goals (try clear k9)))
    (apply Ret.det [0, 1]; (focus (first | exact .inl rfl | exact .inr rfl)); (focus (simp (maxSteps := 9999999) (disch := omega) only [go_sem, hg]; rfl)); (simp (maxSteps := 9999999) (disch := omega) only [go_sem, hg]; (try (repeat' (first | done | trivial | rfl | exact leAs_rfl _ | decide | (refine And.intro ?_ ?_) | (simp; done) | omega | (simp; decide))))))
  | some v =>
    rw [hlk] at hf
    simp only [Option.map_some] at hf
    simp only [Option.isSome_some, Bool.not_true]
    clear hs hlk
    generalize coreE e = x at *
    refine ACall.startA c34_ok Try.func34 rfl Try.ntmps34 (by kernel_rfl) res34_ok rfl rfl rfl ?_; simp (maxSteps := 9999999) (disch := omega) only [go_sem]
    (have k9 := And.intro @hg (And.intro @hk (And.intro @hf (k0))); (repeat' (first | refine AWpA.seq ?_ | refine AWpA.block ?_ | (with_reducible refine CondP.tt ?_) | (with_reducible refine CondP.ff ?_) | refine AWpA.cg ?_ | ((first | refine AWpA.rg ?_ | refine AWpA.dg [] [] follows ?_ | refine TailK.tg ?_ | refine AWpA.skip ?_ | refine AWpA.exit ?_ | refine AWpA.ret ?_ | (with_reducible refine ARoundsA.succ ?_) | ((first | refine Runs.gkt (fun h9 => ?_) | refine Runs.gkf (fun h9 => ?_) | refine Runs.gnt (fun h9 => ?_) | refine Runs.gnf (fun h9 => ?_) | refine CondP.gt (fun h9 => ?_) | refine CondP.gf (fun h9 => ?_) | refine CondP.gnt (fun h9 => ?_) | refine CondP.gnf (fun h9 => ?_)); (try simp only [h9]); clear h9) | refine CallG.pg [] (c) ?_ | refine CallG.dg [] (c) ?_); (try simp (maxSteps := 9999999) (disch := omega) only [go_sem, k9]); (try refine cnd ?_)) | ((first | refine CondP.split (fun hif => ?_) (fun hif => ?_) | refine Runs.part (fun hif => ?_) (fun hif => ?_)) <;> ((try simp only [hif]); (try simp only [BL] at hif); (try (have h9 : _ = true := hif; simp only [h9])); (try (have h9 : _ = false := hif; simp only [h9])); (try simp (maxSteps := 9999999) (disch := omega) only [go_sem, k9]); (try refine cnd ?_); (try (exfalso; omega; done)))))); (all_goals (try clear k9)))
    (apply Ret.det [0, 1]; (focus (first | exact .inl rfl | exact .inr rfl)); (focus (simp (maxSteps := 9999999) (disch := omega) only [go_sem, hg]; rfl)); (simp (maxSteps := 9999999) (disch := omega) only [go_sem, hg]; (try (repeat' (first | done | trivial | rfl | exact leAs_rfl _ | decide | (refine And.intro ?_ ?_) | (simp; done) | omega | (simp; decide))))))
theorem idxfS_any (table : List En) (l : List Up) (ht : table.length ≤ 1099511627776) : ACall Try.prog 33 [.sl 0 0 table.length 9 none, .fn 34 [] [.ptr 1 0]] [.cells true (Re 0 table), .cells true [.mp 2], .map true (EsN l)] (Det (I (strangeI table l)) [.cells true (Re 0 table), .cells true [.mp 2], .map true (EsN l)]) := by
  have hr := re_ren 0 table
  have hL := re_len 0 table
  have hg := fun ρ M => ren_G (enc := EnA) en_ren ρ M
  refine ACall.startA c33_ok Try.func33 rfl Try.ntmps33 (by kernel_rfl) res33_ok rfl rfl rfl ?_; simp (maxSteps := 9999999) (disch := omega) only [go_sem]
  (have k9 := And.intro @hr (And.intro @hg (k0)); (repeat' (first | refine AWpA.seq ?_ | refine AWpA.block ?_ | (with_reducible refine CondP.tt ?_) | (with_reducible refine CondP.ff ?_) | refine AWpA.cg ?_ | ((first | refine AWpA.rg ?_ | refine AWpA.dg [] [] follows ?_ | refine TailK.tg ?_ | refine AWpA.skip ?_ | refine AWpA.exit ?_ | refine AWpA.ret ?_ | (with_reducible refine ARoundsA.succ ?_) | ((first | refine Runs.gkt (fun h9 => ?_) | refine Runs.gkf (fun h9 => ?_) | refine Runs.gnt (fun h9 => ?_) | refine Runs.gnf (fun h9 => ?_) | refine CondP.gt (fun h9 => ?_) | refine CondP.gf (fun h9 => ?_) | refine CondP.gnt (fun h9 => ?_) | refine CondP.gnf (fun h9 => ?_)); (try simp only [h9]); clear h9)); (try simp (maxSteps := 9999999) (disch := omega) only [go_sem, k9]); (try refine cnd ?_)) | ((first | refine CondP.split (fun hif => ?_) (fun hif => ?_) | refine Runs.part (fun hif => ?_) (fun hif => ?_)) <;> ((try simp only [hif]); (try simp only [BL] at hif); (try (have h9 : _ = true := hif; simp only [h9])); (try (have h9 : _ = false := hif; simp only [h9])); (try simp (maxSteps := 9999999) (disch := omega) only [go_sem, k9]); (try refine cnd ?_); (try (exfalso; omega; done)))))); (all_goals (try clear k9)))
  (apply AWpA.loopL (fun i : Nat => [(0, .sl 0 0 table.length 9 none), (1, .fn 34 [] [.ptr 1 0]), (7, I table.length), (8, I i)]) (fun i => [.cells true (Re 0 table), .cells true [.mp 2], .map true (EsN l)]) (fun i => table.length - i) (fun i => i ≤ table.length ∧ ∀ q (h : q < table.length), q < i → (!knownB l table[q]) = false) (0) [0, 1, 2]; rotate_left; (focus (simp (maxSteps := 9999999) (disch := omega) only [go_sem, hr, hg]; (try (repeat' (first | done | trivial | rfl | exact leAs_rfl _ | decide | (refine And.intro ?_ ?_) | (simp; done) | omega | (simp; decide)))))); rotate_right)
  · exact ⟨Nat.zero_le _, fun q h hq => by omega⟩
  rintro i ⟨hi, hq⟩
  (try simp only at hi hq)
  by_cases hin : i < table.length
  · have g1 : ((i : Int) < (table.length : Int)) = True := eq_true (by omega)
    have hat := re_at 0 table i hin
    rw [Nat.zero_add] at hat
    have c := strange1_any l table[i]
    have hfe : (!knownB l table[i]) = true → strangeI table l = i := fun h => idxI_at hin hq h
    have hn : (!knownB l table[i]) = false → ∀ q (h : q < table.length), q < i + 1 → (!knownB l table[q]) = false := fun h q hl hq' => by
      rcases Nat.lt_or_eq_of_le (Nat.le_of_lt_succ hq') with h' | rfl
      · exact hq q hl h'
      · exact h
    clear hq
    generalize table[i] = x at *
    cases hb : (!knownB l x) with
    | true =>
      rw [hb] at c
      rw [hfe hb]
      clear hfe hn hb
      (try simp (maxSteps := 9999999) (disch := omega) only [go_sem])
      (have k9 := And.intro @hr (And.intro @hg (And.intro @hL (And.intro @g1 (And.intro @hat (k0))))); (repeat' (first | refine AWpA.seq ?_ | refine AWpA.block ?_ | (with_reducible refine CondP.tt ?_) | (with_reducible refine CondP.ff ?_) | refine AWpA.cg ?_ | ((first | refine AWpA.rg ?_ | refine AWpA.dg [] [] follows ?_ | refine TailK.tg ?_ | refine AWpA.skip ?_ | refine AWpA.exit ?_ | refine AWpA.ret ?_ | (with_reducible refine ARoundsA.succ ?_) | ((first | refine Runs.gkt (fun h9 => ?_) | refine Runs.gkf (fun h9 => ?_) | refine Runs.gnt (fun h9 => ?_) | refine Runs.gnf (fun h9 => ?_) | refine CondP.gt (fun h9 => ?_) | refine CondP.gf (fun h9 => ?_) | refine CondP.gnt (fun h9 => ?_) | refine CondP.gnf (fun h9 => ?_)); (try simp only [h9]); clear h9) | refine CallG.pg [1, 2] (c) ?_ | refine CallG.dg [1, 2] (c) ?_); (try simp (maxSteps := 9999999) (disch := omega) only [go_sem, k9]); (try refine cnd ?_)) | ((first | refine CondP.split (fun hif => ?_) (fun hif => ?_) | refine Runs.part (fun hif => ?_) (fun hif => ?_)) <;> ((try simp only [hif]); (try simp only [BL] at hif); (try (have h9 : _ = true := hif; simp only [h9])); (try (have h9 : _ = false := hif; simp only [h9])); (try simp (maxSteps := 9999999) (disch := omega) only [go_sem, k9]); (try refine cnd ?_); (try (exfalso; omega; done)))))); (all_goals (try clear k9)))
      (apply Ret.det [0, 1, 2]; (focus (first | exact .inl rfl | exact .inr rfl)); (focus (simp (maxSteps := 9999999) (disch := omega) only [go_sem, hr, hg]; rfl)); (simp (maxSteps := 9999999) (disch := omega) only [go_sem, hr, hg]; (try (repeat' (first | done | trivial | rfl | exact leAs_rfl _ | decide | (refine And.intro ?_ ?_) | (simp; done) | omega | (simp; decide))))))
    | false =>
      rw [hb] at c
      have hn := hn hb
      clear hfe hb
      (try simp (maxSteps := 9999999) (disch := omega) only [go_sem])
      (have k9 := And.intro @hr (And.intro @hg (And.intro @hL (And.intro @g1 (And.intro @hat (k0))))); (repeat' (first | refine AWpA.seq ?_ | refine AWpA.block ?_ | (with_reducible refine CondP.tt ?_) | (with_reducible refine CondP.ff ?_) | refine AWpA.cg ?_ | ((first | refine AWpA.rg ?_ | refine AWpA.dg [] [] follows ?_ | refine TailK.tg ?_ | refine AWpA.skip ?_ | refine AWpA.exit ?_ | refine AWpA.ret ?_ | (with_reducible refine ARoundsA.succ ?_) | ((first | refine Runs.gkt (fun h9 => ?_) | refine Runs.gkf (fun h9 => ?_) | refine Runs.gnt (fun h9 => ?_) | refine Runs.gnf (fun h9 => ?_) | refine CondP.gt (fun h9 => ?_) | refine CondP.gf (fun h9 => ?_) | refine CondP.gnt (fun h9 => ?_) | refine CondP.gnf (fun h9 => ?_)); (try simp only [h9]); clear h9) | refine CallG.pg [1, 2] (c) ?_ | refine CallG.dg [1, 2] (c) ?_); (try simp (maxSteps := 9999999) (disch := omega) only [go_sem, k9]); (try refine cnd ?_)) | ((first | refine CondP.split (fun hif => ?_) (fun hif => ?_) | refine Runs.part (fun hif => ?_) (fun hif => ?_)) <;> ((try simp only [hif]); (try simp only [BL] at hif); (try (have h9 : _ = true := hif; simp only [h9])); (try (have h9 : _ = false := hif; simp only [h9])); (try simp (maxSteps := 9999999) (disch := omega) only [go_sem, k9]); (try refine cnd ?_); (try (exfalso; omega; done)))))); (all_goals (try clear k9)))
      (apply Back.to (i + 1) [0, 1, 2]; (focus ((try simp (maxSteps := 9999999) (disch := omega) only [go_sem, hr, hg]); first | done | omega)); rotate_left; (focus (simp (maxSteps := 9999999) (disch := omega) only [go_sem, hr, hg]; (try (repeat' (first | done | trivial | rfl | exact leAs_rfl _ | decide | (refine And.intro ?_ ?_) | (simp; done) | omega | (simp; decide)))))))
      exact ⟨by omega, hn⟩
  · obtain rfl : i = table.length := by omega
    have g1 : ((table.length : Int) < (table.length : Int)) = False := eq_false (by omega)
    have hno : strangeI table l = -1 := idxI_no fun q h => hq q h h
    rw [hno]
    clear hq
    (try simp (maxSteps := 9999999) (disch := omega) only [go_sem])
    (have k9 := And.intro @hr (And.intro @hg (And.intro @g1 (k0))); (repeat' (first | refine AWpA.seq ?_ | refine AWpA.block ?_ | (with_reducible refine CondP.tt ?_) | (with_reducible refine CondP.ff ?_) | refine AWpA.cg ?_ | ((first | refine AWpA.rg ?_ | refine AWpA.dg [] [] follows ?_ | refine TailK.tg ?_ | refine AWpA.skip ?_ | refine AWpA.exit ?_ | refine AWpA.ret ?_ | (with_reducible refine ARoundsA.succ ?_) | ((first | refine Runs.gkt (fun h9 => ?_) | refine Runs.gkf (fun h9 => ?_) | refine Runs.gnt (fun h9 => ?_) | refine Runs.gnf (fun h9 => ?_) | refine CondP.gt (fun h9 => ?_) | refine CondP.gf (fun h9 => ?_) | refine CondP.gnt (fun h9 => ?_) | refine CondP.gnf (fun h9 => ?_)); (try simp only [h9]); clear h9)); (try simp (maxSteps := 9999999) (disch := omega) only [go_sem, k9]); (try refine cnd ?_)) | ((first | refine CondP.split (fun hif => ?_) (fun hif => ?_) | refine Runs.part (fun hif => ?_) (fun hif => ?_)) <;> ((try simp only [hif]); (try simp only [BL] at hif); (try (have h9 : _ = true := hif; simp only [h9])); (try (have h9 : _ = false := hif; simp only [h9])); (try simp (maxSteps := 9999999) (disch := omega) only [go_sem, k9]); (try refine cnd ?_); (try (exfalso; omega; done)))))); (all_goals (try clear k9)))
    (apply Ret.det [0, 1, 2]; (focus (first | exact .inl rfl | exact .inr rfl)); (focus (simp (maxSteps := 9999999) (disch := omega) only [go_sem, hr, hg]; rfl)); (simp (maxSteps := 9999999) (disch := omega) only [go_sem, hr, hg]; (try (repeat' (first | done | trivial | rfl | exact leAs_rfl _ | decide | (refine And.intro ?_ ?_) | (simp; done) | omega | (simp; decide))))))
theorem strange_any (table : List En) (l : List Up) (ht : table.length ≤ 1099511627776) (hl : l.length ≤ 1099511627776) : ACall Try.prog 11 [.sl 0 0 table.length 9 none, .sl 1 0 l.length 10 none] [.cells true (Re 0 table), .cells true (Ru 0 l)] (Det (I (strangeI table l)) [.cells true (Re 0 table), .cells true (Ru 0 l)]) := by
  have hr := re_ren 0 table
  have hu := ru_ren 0 l
  have hL := ru_len 0 l
  have hg := fun ρ M => ren_G (enc := EnA) en_ren ρ M
  refine ACall.startA c11_ok Try.func11 rfl Try.ntmps11 (by kernel_rfl) res11_ok rfl rfl rfl ?_; simp (maxSteps := 9999999) (disch := omega) only [go_sem]
  (have k9 := And.intro @hr (And.intro @hu (k0)); (repeat' (first | refine AWpA.seq ?_ | refine AWpA.block ?_ | (with_reducible refine CondP.tt ?_) | (with_reducible refine CondP.ff ?_) | refine AWpA.cg ?_ | ((first | refine AWpA.rg ?_ | refine AWpA.dg [] [] follows ?_ | refine TailK.tg ?_ | refine AWpA.skip ?_ | refine AWpA.exit ?_ | refine AWpA.ret ?_ | (with_reducible refine ARoundsA.succ ?_) | ((first | refine Runs.gkt (fun h9 => ?_) | refine Runs.gkf (fun h9 => ?_) | refine Runs.gnt (fun h9 => ?_) | refine Runs.gnf (fun h9 => ?_) | refine CondP.gt (fun h9 => ?_) | refine CondP.gf (fun h9 => ?_) | refine CondP.gnt (fun h9 => ?_) | refine CondP.gnf (fun h9 => ?_)); (try simp only [h9]); clear h9)); (try simp (maxSteps := 9999999) (disch := omega) only [go_sem, k9]); (try refine cnd ?_)) | ((first | refine CondP.split (fun hif => ?_) (fun hif => ?_) | refine Runs.part (fun hif => ?_) (fun hif => ?_)) <;> ((try simp only [hif]); (try simp only [BL] at hif); (try (have h9 : _ = true := hif; simp only [h9])); (try (have h9 : _ = false := hif; simp only [h9])); (try simp (maxSteps := 9999999) (disch := omega) only [go_sem, k9]); (try refine cnd ?_); (try (exfalso; omega; done)))))); (all_goals (try clear k9)))
  (apply AWpA.loopL (fun i : Nat => [(0, .sl 0 0 table.length 9 none), (5, .ptr 2 0), (11, .sl 1 0 l.length 10 none), (12, I l.length), (13, I i)]) (fun i => [.cells true (Re 0 table), .cells true (Ru 0 l), .cells false [.mp 3], .map false (EsG EnA (knM l i))]) (fun i => l.length - i) (fun i => i ≤ l.length) (0) [0, 1, _, _]; rotate_left; (focus (simp (maxSteps := 9999999) (disch := omega) only [go_sem, hr, hu, hg, knM, List.map_nil]; (try (repeat' (first | done | trivial | rfl | exact leAs_rfl _ | decide | (refine And.intro ?_ ?_) | (simp; done) | omega | (simp; decide)))))); rotate_right)
  · exact Nat.zero_le _
  rintro i hi
  (try simp only at hi)
  by_cases hin : i < l.length
  · have g1 : ((i : Int) < (l.length : Int)) = True := eq_true (by omega)
    have hat := ru_at 0 l i hin
    rw [Nat.zero_add] at hat
    have c := core_any l[i].e
    have hup := upd_G key_en (coreE l[i].e) (i : Int) (knM l i)
    rw [← kn_succ hin] at hup
    have hk := key_en (coreE l[i].e) (coreE l[i].e)
    rw [decide_eq_true rfl] at hk
    generalize coreE l[i].e = x at *
    generalize l[i] = u at *
    (try simp (maxSteps := 9999999) (disch := omega) only [go_sem])
    (have k9 := And.intro @hr (And.intro @hu (And.intro @hg (And.intro @hL (And.intro @g1 (And.intro @hat (And.intro @hk (And.intro @hup (k0)))))))); (repeat' (first | refine AWpA.seq ?_ | refine AWpA.block ?_ | (with_reducible refine CondP.tt ?_) | (with_reducible refine CondP.ff ?_) | refine AWpA.cg ?_ | ((first | refine AWpA.rg ?_ | refine AWpA.dg [3] [] follows ?_ | refine TailK.tg ?_ | refine AWpA.skip ?_ | refine AWpA.exit ?_ | refine AWpA.ret ?_ | (with_reducible refine ARoundsA.succ ?_) | ((first | refine Runs.gkt (fun h9 => ?_) | refine Runs.gkf (fun h9 => ?_) | refine Runs.gnt (fun h9 => ?_) | refine Runs.gnf (fun h9 => ?_) | refine CondP.gt (fun h9 => ?_) | refine CondP.gf (fun h9 => ?_) | refine CondP.gnt (fun h9 => ?_) | refine CondP.gnf (fun h9 => ?_)); (try simp only [h9]); clear h9) | refine CallG.pg [] (c) ?_ | refine CallG.dg [] (c) ?_); (try simp (maxSteps := 9999999) (disch := omega) only [go_sem, k9]); (try refine cnd ?_)) | ((first | refine CondP.split (fun hif => ?_) (fun hif => ?_) | refine Runs.part (fun hif => ?_) (fun hif => ?_)) <;> ((try simp only [hif]); (try simp only [BL] at hif); (try (have h9 : _ = true := hif; simp only [h9])); (try (have h9 : _ = false := hif; simp only [h9])); (try simp (maxSteps := 9999999) (disch := omega) only [go_sem, k9]); (try refine cnd ?_); (try (exfalso; omega; done)))))); (all_goals (try clear k9)))
    (apply Back.to (i + 1) [0, 1, 2, 3]; (focus ((try simp (maxSteps := 9999999) (disch := omega) only [go_sem, hr, hu, hg]); first | done | omega)); rotate_left; (focus (simp (maxSteps := 9999999) (disch := omega) only [go_sem, hr, hu, hg]; (try (repeat' (first | done | trivial | rfl | exact leAs_rfl _ | decide | (refine And.intro ?_ ?_) | (simp; done) | omega | (simp; decide)))))))
    omega
  · obtain rfl : i = l.length := by omega
    have g1 : ((l.length : Int) < (l.length : Int)) = False := eq_false (by omega)
    have c := idxfS_any table l ht
    generalize strangeI table l = r at *
    (try simp (maxSteps := 9999999) (disch := omega) only [go_sem])
    (have k9 := And.intro @hr (And.intro @hu (And.intro @hg (And.intro @g1 (k0)))); (repeat' (first | refine AWpA.seq ?_ | refine AWpA.block ?_ | (with_reducible refine CondP.tt ?_) | (with_reducible refine CondP.ff ?_) | refine AWpA.cg ?_ | ((first | refine AWpA.rg ?_ | refine AWpA.dg [] [] follows ?_ | refine TailK.tg ?_ | refine AWpA.skip ?_ | refine AWpA.exit ?_ | refine AWpA.ret ?_ | (with_reducible refine ARoundsA.succ ?_) | ((first | refine Runs.gkt (fun h9 => ?_) | refine Runs.gkf (fun h9 => ?_) | refine Runs.gnt (fun h9 => ?_) | refine Runs.gnf (fun h9 => ?_) | refine CondP.gt (fun h9 => ?_) | refine CondP.gf (fun h9 => ?_) | refine CondP.gnt (fun h9 => ?_) | refine CondP.gnf (fun h9 => ?_)); (try simp only [h9]); clear h9) | refine CallG.pg [0, 2, 3] (c) ?_ | refine CallG.dg [0, 2, 3] (c) ?_); (try simp (maxSteps := 9999999) (disch := omega) only [go_sem, k9]); (try refine cnd ?_)) | ((first | refine CondP.split (fun hif => ?_) (fun hif => ?_) | refine Runs.part (fun hif => ?_) (fun hif => ?_)) <;> ((try simp only [hif]); (try simp only [BL] at hif); (try (have h9 : _ = true := hif; simp only [h9])); (try (have h9 : _ = false := hif; simp only [h9])); (try simp (maxSteps := 9999999) (disch := omega) only [go_sem, k9]); (try refine cnd ?_); (try (exfalso; omega; done)))))); (all_goals (try clear k9)))
    (apply Ret.det [0, 1]; (focus (first | exact .inl rfl | exact .inr rfl)); (focus (simp (maxSteps := 9999999) (disch := omega) only [go_sem, hr, hu]; rfl)); (simp (maxSteps := 9999999) (disch := omega) only [go_sem, hr, hu]; (try (repeat' (first | done | trivial | rfl | exact leAs_rfl _ | decide | (refine And.intro ?_ ?_) | (simp; done) | omega | (simp; decide))))))
/- quidnunc/watch.Short$1 -/
noncomputable def c38_1 : ACode := .region false [⟨some 4, .box 0, [.t 0], none⟩,
  ⟨some 5, .move, [.c (.val (.bool false))], none⟩] [] [] [1, 2, 3, 4] true [] []
noncomputable def c38_4 : ACode := .region false [⟨some 8, .addr 9, [.t 4], none⟩,
  ⟨some 9, .load false 1, [.t 8], none⟩,
  ⟨some 10, .un .not, [.t 9], none⟩,
  ⟨some 11, .move, [.t 10], none⟩,
  ⟨some 12, .addr 0, [.t 4], some (some 11, false)⟩,
  ⟨some 13, .addr 3, [.t 12], some (some 11, false)⟩,
  ⟨some 14, .addr 1, [.t 13], some (some 11, false)⟩,
  ⟨some 15, .load false 1, [.t 14], some (some 11, false)⟩,
  ⟨some 16, .load false 1, [.t 1], some (some 11, false)⟩,
  ⟨some 17, .bin .neq, [.t 15, .t 16], some (some 11, false)⟩,
  ⟨some 18, .pick, [.t 11, .c (.val (.bool true)), .t 17], none⟩] [] [] [2, 3, 4, 18] false [] []
noncomputable def c38_7 : ACode := .region false [⟨some 5, .move, [.c (.val (.bool false))], none⟩] [] [] [5] false [] []
noncomputable def c38_6 : ACode := .seq c38_7 .ret
noncomputable def c38_5 : ACode := .cond (.t 18) c38_6 .skip
noncomputable def c38_3 : ACode := .seq c38_4 c38_5
noncomputable def c38_9 : ACode := .region false [⟨some 20, .load false 1, [.t 2], none⟩,
  ⟨some 21, .addr 0, [.t 4], none⟩,
  ⟨some 22, .addr 0, [.t 21], none⟩,
  ⟨some 23, .load false 1, [.t 22], none⟩,
  ⟨some 24, .lookup [(0, 1)] (.int .i64 0) true, [.t 20, .t 23], none⟩,
  ⟨some 19, .move, [.t 24], none⟩,
  ⟨some 25, .ext 0, [.t 19], none⟩,
  ⟨some 26, .ext 1, [.t 19], none⟩,
  ⟨some 6, .move, [.t 25], none⟩,
  ⟨some 7, .move, [.t 26], none⟩] [] [] [3, 4, 6, 7] false [] []
noncomputable def c38_11 : ACode := .region true [⟨some 27, .move, [.t 7], none⟩,
  ⟨some 28, .un .not, [.t 27], none⟩,
  ⟨some 29, .move, [.t 28], none⟩,
  ⟨some 30, .load false 1, [.t 3], some (some 29, false)⟩,
  ⟨some 31, .move, [.t 6], some (some 29, false)⟩,
  ⟨some 32, .ixS 9, [.t 30, .t 31], some (some 29, false)⟩,
  ⟨some 33, .addr 3, [.t 32], some (some 29, false)⟩,
  ⟨some 34, .load true 2, [.t 33], some (some 29, false)⟩,
  ⟨some 35, .addr 0, [.t 4], some (some 29, false)⟩,
  ⟨some 36, .addr 3, [.t 35], some (some 29, false)⟩,
  ⟨some 37, .load true 2, [.t 36], some (some 29, false)⟩,
  ⟨some 38, .call 39, [.t 34, .t 37], some (some 29, false)⟩,
  ⟨some 39, .bin .lss, [.t 38, .c (.val (.int .i64 0))], some (some 29, false)⟩,
  ⟨some 40, .pick, [.t 29, .c (.val (.bool true)), .t 39], none⟩,
  ⟨some 5, .move, [.t 40], none⟩] [] [] [5] true [] []
noncomputable def c38_10 : ACode := .seq c38_11 .ret
noncomputable def c38_8 : ACode := .seq c38_9 c38_10
noncomputable def c38_2 : ACode := .seq c38_3 c38_8
noncomputable def c38_0 : ACode := .seq c38_1 c38_2
noncomputable def code38 : Code := (Try.f38.body).getD .skip
theorem c38_ok : compC Try.prog 41 code38 = some (strip c38_0) := by kernel_rfl
theorem res38_ok : Try.f38.results.toList.mapM (resC Try.prog) = some [(5, none)] := by kernel_rfl
/- slices.IndexFunc[[]quidnunc/watch.Update,quidnunc/watch.Update] -/
noncomputable def c37_1 : ACode := .region false [⟨some 4, .move, [.c (.val (.int .i64 0))], none⟩] [] [] [0, 1] false [] []
noncomputable def c37_4 : ACode := .region false [⟨some 6, .move, [.t 0], none⟩,
  ⟨some 7, .len, [.t 6], none⟩,
  ⟨some 8, .move, [.c (.val (.int .i64 0))], none⟩] [] [] [0, 1, 7, 8] false [] []
noncomputable def c37_8 : ACode := .region false [⟨some 9, .bin .lss, [.t 8, .t 7], none⟩] [] [] [0, 1, 7, 8, 9] false [] []
noncomputable def c37_10 : ACode := .cond (.t 9) .skip (.exit 0)
noncomputable def c37_14 : ACode := .region false [⟨some 10, .move, [.t 8], none⟩,
  ⟨some 5, .move, [.t 10], none⟩] [] [] [0, 1, 5, 7, 8] false [] []
noncomputable def c37_16 : ACode := .region false [⟨some 11, .move, [.t 1], none⟩,
  ⟨some 12, .move, [.t 0], none⟩,
  ⟨some 13, .move, [.t 5], none⟩,
  ⟨some 14, .ixS 10, [.t 12, .t 13], none⟩,
  ⟨some 15, .load true 10, [.t 14], none⟩,
  ⟨some 16, .callv, [.t 11, .t 15], none⟩] [] [] [0, 1, 5, 7, 8, 16] true [] []
noncomputable def c37_19 : ACode := .region false [⟨some 17, .move, [.t 5], none⟩,
  ⟨some 4, .move, [.t 17], none⟩] [] [] [4] false [] []
noncomputable def c37_18 : ACode := .seq c37_19 .ret
noncomputable def c37_17 : ACode := .cond (.t 16) c37_18 .skip
noncomputable def c37_15 : ACode := .seq c37_16 c37_17
noncomputable def c37_13 : ACode := .seq c37_14 c37_15
noncomputable def c37_12 : ACode := .block 1 c37_13
noncomputable def c37_20 : ACode := .region false [⟨some 18, .bin .add, [.t 8, .c (.val (.int .i64 1))], none⟩,
  ⟨some 8, .move, [.t 18], none⟩] [] [] [0, 1, 7, 8] false [] []
noncomputable def c37_11 : ACode := .seq c37_12 c37_20
noncomputable def c37_9 : ACode := .seq c37_10 c37_11
noncomputable def c37_7 : ACode := .seq c37_8 c37_9
noncomputable def c37_6 : ACode := .loop c37_7
noncomputable def c37_5 : ACode := .block 0 c37_6
noncomputable def c37_3 : ACode := .seq c37_4 c37_5
noncomputable def c37_22 : ACode := .region false [⟨some 4, .move, [.c (.val (.int .i64 (-1)))], none⟩] [] [] [4] false [] []
noncomputable def c37_21 : ACode := .seq c37_22 .ret
noncomputable def c37_2 : ACode := .seq c37_3 c37_21
noncomputable def c37_0 : ACode := .seq c37_1 c37_2
noncomputable def code37 : Code := (Try.f37.body).getD .skip
theorem c37_ok : compC Try.prog 19 code37 = some (strip c37_0) := by kernel_rfl
theorem res37_ok : Try.f37.results.toList.mapM (resC Try.prog) = some [(4, none)] := by kernel_rfl
/- quidnunc/watch.Short -/
noncomputable def c15_1 : ACode := .region false [⟨some 3, .box 0, [.t 0], none⟩,
  ⟨some 4, .box 0, [.t 1], none⟩,
  ⟨some 6, .move, [.c (.val (.int .i64 0))], none⟩] [] [] [2, 3, 4] true [] []
noncomputable def c15_3 : ACode := .region false [⟨some 8, .load false 1, [.t 3], none⟩,
  ⟨some 9, .call 36, [.t 8], none⟩,
  ⟨some 7, .alloc [(.map none)], [], none⟩,
  ⟨none, .store 1, [.t 7, .t 9], none⟩] [] [] [2, 3, 4, 7] true [] []
noncomputable def c15_5 : ACode := .region false [⟨some 10, .move, [.t 2], none⟩,
  ⟨some 11, .mkFn 38 0, [.t 4, .t 7, .t 3], none⟩,
  ⟨some 12, .call 37, [.t 10, .t 11], none⟩,
  ⟨some 6, .move, [.t 12], none⟩] [] [] [6] true [] []
noncomputable def c15_4 : ACode := .seq c15_5 .ret
noncomputable def c15_2 : ACode := .seq c15_3 c15_4
noncomputable def c15_0 : ACode := .seq c15_1 c15_2
noncomputable def code15 : Code := (Try.f15.body).getD .skip
theorem c15_ok : compC Try.prog 13 code15 = some (strip c15_0) := by kernel_rfl
theorem res15_ok : Try.f15.results.toList.mapM (resC Try.prog) = some [(6, none)] := by kernel_rfl
/-- A sure update of a site that isn't there. -/
def shortP (table : List En) (site : Int) (u : Up) : Bool := u.sure && (decide (u.e.st.s = site) && (if firstK table u.e.key = -1 then true else match table[(firstK table u.e.key).toNat]? with | some x => laterB u.e.st x.st | none => true))
def shortI (table : List En) (site : Int) (l : List Up) : Int := idxI l (shortP table site)
theorem short1_any (table : List En) (site : Int) (u : Up) (ht : table.length ≤ 1099511627776) : ACall Try.prog 38 [UpA u, .ptr 0 0, .ptr 1 0, .ptr 3 0] [.cells true [I site], .cells true [.mp 2], .map true (EsK table), .cells true [.sl 4 0 table.length 9 none], .cells true (Re 0 table)]
    (Det (Bo (shortP table site u)) [.cells true [I site], .cells true [.mp 2], .map true (EsK table), .cells true [.sl 4 0 table.length 9 none], .cells true (Re 0 table)]) := by
  have hr := re_ren 0 table
  have hL := re_len 0 table
  have hg := fun ρ M => ren_G (enc := Str) str_ren ρ M
  have hk := key_str u.e.key u.e.key
  rw [decide_eq_true rfl] at hk
  have hf := find_G key_str u.e.key (bkM table table.length)
  rw [bk_all] at hf
  cases hs : u.sure with
  | false =>
    have e : shortP table site u = false := by unfold shortP; rw [hs]; rfl
    rw [e]
    refine ACall.startA c38_ok Try.func38 rfl Try.ntmps38 (by kernel_rfl) res38_ok rfl rfl rfl ?_; simp (maxSteps := 9999999) (disch := omega) only [go_sem]
    (have k9 := And.intro @hr (And.intro @hg (And.intro @hs (k0))); (repeat' (first | refine AWpA.seq ?_ | refine AWpA.block ?_ | (with_reducible refine CondP.tt ?_) | (with_reducible refine CondP.ff ?_) | refine AWpA.cg ?_ | ((first | refine AWpA.rg ?_ | refine AWpA.dg [] [] follows ?_ | refine TailK.tg ?_ | refine AWpA.skip ?_ | refine AWpA.exit ?_ | refine AWpA.ret ?_ | (with_reducible refine ARoundsA.succ ?_) | ((first | refine Runs.gkt (fun h9 => ?_) | refine Runs.gkf (fun h9 => ?_) | refine Runs.gnt (fun h9 => ?_) | refine Runs.gnf (fun h9 => ?_) | refine CondP.gt (fun h9 => ?_) | refine CondP.gf (fun h9 => ?_) | refine CondP.gnt (fun h9 => ?_) | refine CondP.gnf (fun h9 => ?_)); (try simp only [h9]); clear h9)); (try simp (maxSteps := 9999999) (disch := omega) only [go_sem, k9]); (try refine cnd ?_)) | ((first | refine CondP.split (fun hif => ?_) (fun hif => ?_) | refine Runs.part (fun hif => ?_) (fun hif => ?_)) <;> ((try simp only [hif]); (try simp only [BL] at hif); (try (have h9 : _ = true := hif; simp only [h9])); (try (have h9 : _ = false := hif; simp only [h9])); (try simp (maxSteps := 9999999) (disch := omega) only [go_sem, k9]); (try refine cnd ?_); (try (exfalso; omega; done)))))); (all_goals (try clear k9)))
    (apply Ret.det [0, 1, 2, 3, 4]; (focus (first | exact .inl rfl | exact .inr rfl)); (focus (simp (maxSteps := 9999999) (disch := omega) only [go_sem, hr, hg]; rfl)); (simp (maxSteps := 9999999) (disch := omega) only [go_sem, hr, hg]; (try (repeat' (first | done | trivial | rfl | exact leAs_rfl _ | decide | (refine And.intro ?_ ?_) | (simp; done) | omega | (simp; decide))))))
  | true =>
    by_cases hst : u.e.st.s = site
    · rcases idxI_cases table (fun e => decide (e.key = u.e.key)) with ⟨e1, -⟩ | ⟨j, hj, e1, -⟩
      · have e2 : firstK table u.e.key = -1 := e1
        have e : shortP table site u = true := by unfold shortP; rw [hs, decide_eq_true hst, if_pos e2]; rfl
        rw [e2] at hf
        simp only [if_true, Option.map_none] at hf
        rw [e]
        clear e1 e2 e
        refine ACall.startA c38_ok Try.func38 rfl Try.ntmps38 (by kernel_rfl) res38_ok rfl rfl rfl ?_; simp (maxSteps := 9999999) (disch := omega) only [go_sem]
        (have k9 := And.intro @hr (And.intro @hg (And.intro @hs (And.intro @hst (And.intro @hk (And.intro @hf (k0)))))); (repeat' (first | refine AWpA.seq ?_ | refine AWpA.block ?_ | (with_reducible refine CondP.tt ?_) | (with_reducible refine CondP.ff ?_) | refine AWpA.cg ?_ | ((first | refine AWpA.rg ?_ | refine AWpA.dg [] [] follows ?_ | refine TailK.tg ?_ | refine AWpA.skip ?_ | refine AWpA.exit ?_ | refine AWpA.ret ?_ | (with_reducible refine ARoundsA.succ ?_) | ((first | refine Runs.gkt (fun h9 => ?_) | refine Runs.gkf (fun h9 => ?_) | refine Runs.gnt (fun h9 => ?_) | refine Runs.gnf (fun h9 => ?_) | refine CondP.gt (fun h9 => ?_) | refine CondP.gf (fun h9 => ?_) | refine CondP.gnt (fun h9 => ?_) | refine CondP.gnf (fun h9 => ?_)); (try simp only [h9]); clear h9)); (try simp (maxSteps := 9999999) (disch := omega) only [go_sem, k9]); (try refine cnd ?_)) | ((first | refine CondP.split (fun hif => ?_) (fun hif => ?_) | refine Runs.part (fun hif => ?_) (fun hif => ?_)) <;> ((try simp only [hif]); (try simp only [BL] at hif); (try (have h9 : _ = true := hif; simp only [h9])); (try (have h9 : _ = false := hif; simp only [h9])); (try simp (maxSteps := 9999999) (disch := omega) only [go_sem, k9]); (try refine cnd ?_); (try (exfalso; omega; done)))))); (all_goals (try clear k9)))
        (apply Ret.det [0, 1, 2, 3, 4]; (focus (first | exact .inl rfl | exact .inr rfl)); (focus (simp (maxSteps := 9999999) (disch := omega) only [go_sem, hr, hg]; rfl)); (simp (maxSteps := 9999999) (disch := omega) only [go_sem, hr, hg]; (try (repeat' (first | done | trivial | rfl | exact leAs_rfl _ | decide | (refine And.intro ?_ ?_) | (simp; done) | omega | (simp; decide))))))
      · have e2 : firstK table u.e.key = (j : Int) := e1
        have e : shortP table site u = laterB u.e.st table[j].st := by
          unfold shortP
          rw [hs, decide_eq_true hst, if_neg (by omega), e2, show ((j : Int)).toNat = j by omega, List.getElem?_eq_getElem hj]
          rfl
        rw [e2, if_neg (by omega)] at hf
        simp only [Option.map_some] at hf
        have hat2 := re_at 0 table j hj
        rw [Nat.zero_add] at hat2
        have hst2 : ((Re 0 table).drop (j * 9 + 3)).take 2 = [I table[j].st.c, I table[j].st.s] := by
          have := congrArg (fun x => (x.drop 3).take 2) hat2
          simp only [List.drop_take, List.drop_drop, List.take_take] at this
          simpa using this
        have c2 := compare_any table[j].st u.e.st
        have hcl := cmpS_lt table[j].st u.e.st
        rw [e]
        clear e1 e2 e
        generalize table[j].st = y at *
        refine ACall.startA c38_ok Try.func38 rfl Try.ntmps38 (by kernel_rfl) res38_ok rfl rfl rfl ?_; simp (maxSteps := 9999999) (disch := omega) only [go_sem]
        (have k9 := And.intro @hr (And.intro @hg (And.intro @hL (And.intro @hs (And.intro @hst (And.intro @hk (And.intro @hf (And.intro @hst2 (And.intro @hcl (k0))))))))); (repeat' (first | refine AWpA.seq ?_ | refine AWpA.block ?_ | (with_reducible refine CondP.tt ?_) | (with_reducible refine CondP.ff ?_) | refine AWpA.cg ?_ | ((first | refine AWpA.rg ?_ | refine AWpA.dg [] [] follows ?_ | refine TailK.tg ?_ | refine AWpA.skip ?_ | refine AWpA.exit ?_ | refine AWpA.ret ?_ | (with_reducible refine ARoundsA.succ ?_) | ((first | refine Runs.gkt (fun h9 => ?_) | refine Runs.gkf (fun h9 => ?_) | refine Runs.gnt (fun h9 => ?_) | refine Runs.gnf (fun h9 => ?_) | refine CondP.gt (fun h9 => ?_) | refine CondP.gf (fun h9 => ?_) | refine CondP.gnt (fun h9 => ?_) | refine CondP.gnf (fun h9 => ?_)); (try simp only [h9]); clear h9) | refine CallG.pg [] (c2) ?_ | refine CallG.dg [] (c2) ?_); (try simp (maxSteps := 9999999) (disch := omega) only [go_sem, k9]); (try refine cnd ?_)) | ((first | refine CondP.split (fun hif => ?_) (fun hif => ?_) | refine Runs.part (fun hif => ?_) (fun hif => ?_)) <;> ((try simp only [hif]); (try simp only [BL] at hif); (try (have h9 : _ = true := hif; simp only [h9])); (try (have h9 : _ = false := hif; simp only [h9])); (try simp (maxSteps := 9999999) (disch := omega) only [go_sem, k9]); (try refine cnd ?_); (try (exfalso; omega; done)))))); (all_goals (try clear k9)))
        (apply Ret.det [0, 1, 2, 3, 4]; (focus (first | exact .inl rfl | exact .inr rfl)); (focus (simp (maxSteps := 9999999) (disch := omega) only [go_sem, hr, hg, hcl]; rfl)); (simp (maxSteps := 9999999) (disch := omega) only [go_sem, hr, hg, hcl]; (try (repeat' (first | done | trivial | rfl | exact leAs_rfl _ | decide | (refine And.intro ?_ ?_) | (simp; done) | omega | (simp; decide))))))
    · have e : shortP table site u = false := by unfold shortP; rw [hs, decide_eq_false hst]; rfl
      rw [e]
      have hst' : (u.e.st.s = site) = False := eq_false hst
      clear e
      refine ACall.startA c38_ok Try.func38 rfl Try.ntmps38 (by kernel_rfl) res38_ok rfl rfl rfl ?_; simp (maxSteps := 9999999) (disch := omega) only [go_sem]
      (have k9 := And.intro @hr (And.intro @hg (And.intro @hs (And.intro @hst' (k0)))); (repeat' (first | refine AWpA.seq ?_ | refine AWpA.block ?_ | (with_reducible refine CondP.tt ?_) | (with_reducible refine CondP.ff ?_) | refine AWpA.cg ?_ | ((first | refine AWpA.rg ?_ | refine AWpA.dg [] [] follows ?_ | refine TailK.tg ?_ | refine AWpA.skip ?_ | refine AWpA.exit ?_ | refine AWpA.ret ?_ | (with_reducible refine ARoundsA.succ ?_) | ((first | refine Runs.gkt (fun h9 => ?_) | refine Runs.gkf (fun h9 => ?_) | refine Runs.gnt (fun h9 => ?_) | refine Runs.gnf (fun h9 => ?_) | refine CondP.gt (fun h9 => ?_) | refine CondP.gf (fun h9 => ?_) | refine CondP.gnt (fun h9 => ?_) | refine CondP.gnf (fun h9 => ?_)); (try simp only [h9]); clear h9)); (try simp (maxSteps := 9999999) (disch := omega) only [go_sem, k9]); (try refine cnd ?_)) | ((first | refine CondP.split (fun hif => ?_) (fun hif => ?_) | refine Runs.part (fun hif => ?_) (fun hif => ?_)) <;> ((try simp only [hif]); (try simp only [BL] at hif); (try (have h9 : _ = true := hif; simp only [h9])); (try (have h9 : _ = false := hif; simp only [h9])); (try simp (maxSteps := 9999999) (disch := omega) only [go_sem, k9]); (try refine cnd ?_); (try (exfalso; omega; done)))))); (all_goals (try clear k9)))
      (apply Ret.det [0, 1, 2, 3, 4]; (focus (first | exact .inl rfl | exact .inr rfl)); (focus (simp (maxSteps := 9999999) (disch := omega) only [go_sem, hr, hg]; rfl)); (simp (maxSteps := 9999999) (disch := omega) only [go_sem, hr, hg]; (try (repeat' (first | done | trivial | rfl | exact leAs_rfl _ | decide | (refine And.intro ?_ ?_) | (simp; done) | omega | (simp; decide))))))
end Go.Proofs.Ytbblpmkdhdnkhaa
