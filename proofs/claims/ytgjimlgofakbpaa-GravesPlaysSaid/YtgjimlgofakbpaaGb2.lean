/- Contracts: graves grow older; over an entry. -/
import Derived.Test.YtgjimlgofakbpaaGb1
namespace Go.Proofs.Ytgjimlgofakbpaa
set_option linter.unusedSimpArgs false
set_option linter.unusedVariables false
set_option maxHeartbeats 4000000
open Go Go.Am Go.RowKit
set_option maxRecDepth 100000
abbrev KsL (s : ByteArray) : List AV := [Str s]
abbrev Rk (l : List ByteArray) : List AV := rowsC 0 KsL l
theorem rk_ren (l : List ByteArray) (ρ : List Nat) : renL ρ (Rk l) = Rk l := rowsC_ren (fun ρ x => by simp [renL, ren]) ρ l
theorem rk_len (l : List ByteArray) : (Rk l).length = l.length := by have h := rowsC_len (off := 0) (f := KsL) (k := 1) (fun _ => rfl) l; show (rowsC 0 KsL l).length = l.length; omega
theorem rk_app (l m : List ByteArray) : Rk (l ++ m) = Rk l ++ Rk m := by simp [Rk, rowsC]
theorem rk_one (s : ByteArray) : Rk [s] = [Str s] := rfl
theorem rk_nil : Rk [] = [] := rfl
theorem rk_all (l : List ByteArray) {n : Nat} (h : n = l.length) : (Rk l).take n = Rk l := List.take_of_length_le (by rw [rk_len]; omega)
theorem over_any (site t2 : Int) (t : Ue.Tb) (e : En) (ht : t.ok) : ACall Try.prog 50 [.ptr 0 0, EnA e] [GrR 1 site t2, Ue.TbR 2 t, .cells true (Ue.Rp 0 t.l)]
    (Det (Bo (Ue.hasP' t.l e.key && laterB (Ue.getP t.l e.key).st e.st)) [GrR 1 site t2, Ue.TbR 2 t, .cells true (Ue.Rp 0 t.l)]) := by
  have hr := Ue.rp_ren 0
  have c := Ue.tget_any t e.key ht
  cases hh : Ue.hasP' t.l e.key with
  | false =>
    rw [hh] at c
    rw [Bool.false_and]
    clear hh
    generalize Ue.getP t.l e.key = was at *
    refine ACall.startA c50_ok Try.func50 rfl Try.ntmps50 (by kernel_rfl) res50_ok rfl rfl rfl ?_; simp (maxSteps := 9999999) (disch := omega) only [go_sem]
    (repeat' (first | refine AWpA.seq ?_ | refine AWpA.block ?_ | (with_reducible refine CondP.tt ?_) | (with_reducible refine CondP.ff ?_) | refine AWpA.condv (by simp (maxSteps := 9999999) (disch := omega) only [go_sem, hr]; rfl) ?_ | ((first | (apply AWpA.region; (focus (simp (maxSteps := 9999999) (disch := omega) only [go_sem, hr]; rfl))) | (apply AWpA.draw [] [] follows; (focus (first | rfl | decide)); (focus (simp (maxSteps := 9999999) (disch := omega) only [go_sem, hr]; rfl)); (focus (simp (maxSteps := 9999999) (disch := omega) only [go_sem, hr]; first | done | trivial)); (focus (simp (maxSteps := 9999999) (disch := omega) only [go_sem, hr]; rfl))) | (apply TailK.go; (focus (simp (maxSteps := 9999999) (disch := omega) only [go_sem, hr]; rfl))) | refine AWpA.skip ?_ | refine AWpA.exit ?_ | refine AWpA.ret ?_ | (with_reducible refine ARoundsA.succ ?_) | ((first | refine Runs.kt (by assumption) (fun h9 => ?_) | refine Runs.kf (by assumption) (fun h9 => ?_) | refine Runs.nt (by assumption) (fun h9 => ?_) | refine Runs.nf (by assumption) (fun h9 => ?_) | refine CondP.ht (by assumption) (fun h9 => ?_) | refine CondP.hf (by assumption) (fun h9 => ?_) | refine CondP.nt (by assumption) (fun h9 => ?_) | refine CondP.nf (by assumption) (fun h9 => ?_)); (try simp only [h9]); clear h9) | ((first | (with_reducible apply CallG.plain1 [1, 2] (c)) | (with_reducible apply CallG.draw1 [1, 2] (c))); (focus ((try refine And.intro (leAs_of_eq rfl) ?_); (try refine And.intro (leOL_of_eq rfl) ?_); simp (maxSteps := 9999999) (disch := omega) only [go_sem, hr]; first | done | (repeat' (first | rfl | (refine And.intro ?_ ?_))))); (focus (simp (maxSteps := 9999999) (disch := omega) only [go_sem, hr]; rfl)))); (try simp (maxSteps := 9999999) (disch := omega) only [go_sem, hr]); (try (refine And.intro ?_ ?_; (focus (first | omega | (simp only [go_sem]; done) | (simp; done) | (simp; omega) | assumption))))) | ((first | refine CondP.split (fun hif => ?_) (fun hif => ?_) | refine Runs.part (fun hif => ?_) (fun hif => ?_)) <;> ((try simp only [hif]); (try simp only [decide_eq_true_eq, decide_eq_false_iff_not, Bool.not_eq_true, Bool.not_eq_false, Bool.not_eq_true', Bool.not_eq_false', beq_iff_eq, bne_iff_ne, bne_eq_false_iff_eq, beq_eq_false_iff_ne, ne_eq, Bool.and_eq_true, Bool.or_eq_true, Bool.or_eq_false_iff] at hif); (try (have h9 : _ = true := hif; simp only [h9])); (try (have h9 : _ = false := hif; simp only [h9])); (try simp (maxSteps := 9999999) (disch := omega) only [go_sem, hr]); (try (refine And.intro ?_ ?_; (focus (first | omega | (simp only [go_sem]; done) | (simp; done) | (simp; omega) | assumption)))); (try (exfalso; omega; done))))))
    (apply Ret.det [0, 1, 2]; (focus (first | exact .inl rfl | exact .inr rfl)); (focus (simp (maxSteps := 9999999) (disch := omega) only [go_sem, hr]; rfl)); (simp (maxSteps := 9999999) (disch := omega) only [go_sem, hr]; (try (repeat' (first | done | trivial | rfl | exact leAs_rfl _ | decide | (refine And.intro ?_ ?_) | (simp; done) | omega | (simp; decide))))))
  | true =>
    rw [hh] at c
    rw [Bool.true_and]
    have k5 := compare_any (Ue.getP t.l e.key).st e.st
    have kgt := cmpS_gt (Ue.getP t.l e.key).st e.st
    clear hh
    generalize Ue.getP t.l e.key = was at *
    refine ACall.startA c50_ok Try.func50 rfl Try.ntmps50 (by kernel_rfl) res50_ok rfl rfl rfl ?_; simp (maxSteps := 9999999) (disch := omega) only [go_sem]
    (repeat' (first | refine AWpA.seq ?_ | refine AWpA.block ?_ | (with_reducible refine CondP.tt ?_) | (with_reducible refine CondP.ff ?_) | refine AWpA.condv (by simp (maxSteps := 9999999) (disch := omega) only [go_sem, hr, kgt]; rfl) ?_ | ((first | (apply AWpA.region; (focus (simp (maxSteps := 9999999) (disch := omega) only [go_sem, hr, kgt]; rfl))) | (apply AWpA.draw [] [] follows; (focus (first | rfl | decide)); (focus (simp (maxSteps := 9999999) (disch := omega) only [go_sem, hr, kgt]; rfl)); (focus (simp (maxSteps := 9999999) (disch := omega) only [go_sem, hr, kgt]; first | done | trivial)); (focus (simp (maxSteps := 9999999) (disch := omega) only [go_sem, hr, kgt]; rfl))) | (apply TailK.go; (focus (simp (maxSteps := 9999999) (disch := omega) only [go_sem, hr, kgt]; rfl))) | refine AWpA.skip ?_ | refine AWpA.exit ?_ | refine AWpA.ret ?_ | (with_reducible refine ARoundsA.succ ?_) | ((first | refine Runs.kt (by assumption) (fun h9 => ?_) | refine Runs.kf (by assumption) (fun h9 => ?_) | refine Runs.nt (by assumption) (fun h9 => ?_) | refine Runs.nf (by assumption) (fun h9 => ?_) | refine CondP.ht (by assumption) (fun h9 => ?_) | refine CondP.hf (by assumption) (fun h9 => ?_) | refine CondP.nt (by assumption) (fun h9 => ?_) | refine CondP.nf (by assumption) (fun h9 => ?_)); (try simp only [h9]); clear h9) | ((first | (with_reducible apply CallG.plain1 [1, 2] (c)) | (with_reducible apply CallG.draw1 [1, 2] (c))); (focus ((try refine And.intro (leAs_of_eq rfl) ?_); (try refine And.intro (leOL_of_eq rfl) ?_); simp (maxSteps := 9999999) (disch := omega) only [go_sem, hr, kgt]; first | done | (repeat' (first | rfl | (refine And.intro ?_ ?_))))); (focus (simp (maxSteps := 9999999) (disch := omega) only [go_sem, hr, kgt]; rfl))) | ((first | (with_reducible apply CallG.plain1 [] (k5)) | (with_reducible apply CallG.draw1 [] (k5))); (focus ((try refine And.intro (leAs_of_eq rfl) ?_); (try refine And.intro (leOL_of_eq rfl) ?_); simp (maxSteps := 9999999) (disch := omega) only [go_sem, hr, kgt]; first | done | (repeat' (first | rfl | (refine And.intro ?_ ?_))))); (focus (simp (maxSteps := 9999999) (disch := omega) only [go_sem, hr, kgt]; rfl)))); (try simp (maxSteps := 9999999) (disch := omega) only [go_sem, hr, kgt]); (try (refine And.intro ?_ ?_; (focus (first | omega | (simp only [go_sem]; done) | (simp; done) | (simp; omega) | assumption))))) | ((first | refine CondP.split (fun hif => ?_) (fun hif => ?_) | refine Runs.part (fun hif => ?_) (fun hif => ?_)) <;> ((try simp only [hif]); (try simp only [decide_eq_true_eq, decide_eq_false_iff_not, Bool.not_eq_true, Bool.not_eq_false, Bool.not_eq_true', Bool.not_eq_false', beq_iff_eq, bne_iff_ne, bne_eq_false_iff_eq, beq_eq_false_iff_ne, ne_eq, Bool.and_eq_true, Bool.or_eq_true, Bool.or_eq_false_iff] at hif); (try (have h9 : _ = true := hif; simp only [h9])); (try (have h9 : _ = false := hif; simp only [h9])); (try simp (maxSteps := 9999999) (disch := omega) only [go_sem, hr, kgt]); (try (refine And.intro ?_ ?_; (focus (first | omega | (simp only [go_sem]; done) | (simp; done) | (simp; omega) | assumption)))); (try (exfalso; omega; done))))))
    (apply Ret.det [0, 1, 2]; (focus (first | exact .inl rfl | exact .inr rfl)); (focus (simp (maxSteps := 9999999) (disch := omega) only [go_sem, hr, kgt]; rfl)); (simp (maxSteps := 9999999) (disch := omega) only [go_sem, hr, kgt]; (try (repeat' (first | done | trivial | rfl | exact leAs_rfl _ | decide | (refine And.intro ?_ ?_) | (simp; done) | omega | (simp; decide))))))
/-- Graves that may be. -/
structure GOk (l : List PE) : Prop where
  rise : Ue.Rise l
  keys : ∀ p ∈ l, p.v.key = p.key
  age : ∀ p ∈ l, 0 ≤ p.v.age ∧ p.v.age ≤ 2147483647
abbrev agedE (e : En) : En := { e with age := e.age + 1 }
def tickL (t2 : Int) (l : List PE) : List PE := (l.filter fun p => decide (p.v.age + 1 < t2)).map fun p => ⟨p.key, agedE p.v⟩
def goneL (t2 : Int) (l : List PE) : List ByteArray := (l.filter fun p => !decide (p.v.age + 1 < t2)).map (·.key)
theorem rise_keys {l : List PE} : Ue.Rise l ↔ (l.map (·.key)).Pairwise fun a b => ltK a b = true := by unfold Ue.Rise; rw [List.pairwise_map]
theorem tick_keys (t2 : Int) (l : List PE) : ((tickL t2 l).map (·.key)).Sublist (l.map (·.key)) := by
  unfold tickL
  rw [List.map_map]
  exact (List.filter_sublist).map _
theorem rise_cur {t2 : Int} {l : List PE} (h : Ue.Rise l) (i : Nat) : Ue.Rise (tickL t2 (l.take i) ++ l.drop i) := by
  rw [rise_keys] at h ⊢
  refine h.sublist ?_
  conv => rhs; rw [← List.take_append_drop i l]
  rw [List.map_append, List.map_append]
  exact (tick_keys t2 _).append (List.Sublist.refl _)
theorem mid_rank {A D : List PE} {x : PE} (h : Ue.Rise (A ++ x :: D)) : Ue.rankP (A ++ x :: D) x.key = A.length ∧ Ue.hasP' (A ++ x :: D) x.key = true := by
  have hl : A.length < (A ++ x :: D).length := by simp
  have hx : (A ++ x :: D)[A.length] = x := by simp
  have h1 := Ue.rank_at h hl
  have h2 := Ue.has_at h hl
  rw [hx] at h1 h2
  exact ⟨h1, h2⟩
theorem mid_put {A D : List PE} {x : PE} (h : Ue.Rise (A ++ x :: D)) (v : En) : Ue.putP (A ++ x :: D) x.key v = A ++ ⟨x.key, v⟩ :: D := by
  unfold Ue.putP
  rw [(mid_rank h).1, (mid_rank h).2]
  simp
theorem mid_drop {A D : List PE} {x : PE} (h : Ue.Rise (A ++ x :: D)) : Ue.dropP (A ++ x :: D) x.key = A ++ D := by
  unfold Ue.dropP
  rw [(mid_rank h).1, (mid_rank h).2]
  simp
theorem tick_succ {t2 : Int} {l : List PE} {i : Nat} (hi : i < l.length) : tickL t2 (l.take (i + 1)) = tickL t2 (l.take i) ++ (if l[i].v.age + 1 < t2 then [⟨l[i].key, agedE l[i].v⟩] else []) := by
  unfold tickL
  rw [List.take_succ_eq_append_getElem hi, List.filter_append, List.map_append]
  congr 1
  split
  · rename_i h; rw [List.filter_cons_of_pos (by simpa using h)]; rfl
  · rename_i h; rw [List.filter_cons_of_neg (by simpa using h)]; rfl
theorem gone_succ {t2 : Int} {l : List PE} {i : Nat} (hi : i < l.length) : goneL t2 (l.take (i + 1)) = goneL t2 (l.take i) ++ (if l[i].v.age + 1 < t2 then [] else [l[i].key]) := by
  unfold goneL
  rw [List.take_succ_eq_append_getElem hi, List.filter_append, List.map_append]
  congr 1
  split
  · rename_i h; rw [List.filter_cons_of_neg (by simpa using h)]; rfl
  · rename_i h; rw [List.filter_cons_of_pos (by simpa using h)]; rfl
theorem tick_len (t2 : Int) (l : List PE) : (tickL t2 l).length ≤ l.length := by
  unfold tickL; rw [List.length_map]; exact List.length_filter_le _ _
theorem gone_len (t2 : Int) (l : List PE) : (goneL t2 l).length ≤ l.length := by
  unfold goneL; rw [List.length_map]; exact List.length_filter_le _ _
theorem tick_any (site t2 room : Int) (l : List PE) (hl : GOk l) (hll : l.length ≤ 4096) : ACall Try.prog 33 [.ptr 0 0] [GrR 1 site t2, Ue.TbO 2 ⟨room, l⟩, .cells false (Ue.Rp 0 l)]
    (Det (.sl 4 0 (goneL t2 l).length 1 none) [GrR 1 site t2, Ue.TbO 3 ⟨room, tickL t2 l⟩, .gone, .cells false (Ue.Rp 0 (tickL t2 l)), .cells false (Rk (goneL t2 l))]) := by
  have hr := Ue.rp_ren 0
  have hk := rk_ren
  have he := re_ren 0
  have c0 := gall_any site t2 ⟨room, l⟩ (by simp only; omega)
  have hLe := re_len 0 (l.map (·.v))
  have hml : (l.map (·.v)).length = l.length := List.length_map _
  refine ACall.startA c33_ok Try.func33 rfl Try.ntmps33 (by kernel_rfl) res33_ok rfl rfl rfl ?_; simp (maxSteps := 9999999) (disch := omega) only [go_sem]
  refine AWpA.dummy ?_
  (repeat' (first | refine AWpA.seq ?_ | refine AWpA.block ?_ | (with_reducible refine CondP.tt ?_) | (with_reducible refine CondP.ff ?_) | refine AWpA.condv (by simp (maxSteps := 9999999) (disch := omega) only [go_sem, hr, hk, he]; rfl) ?_ | ((first | (apply AWpA.region; (focus (simp (maxSteps := 9999999) (disch := omega) only [go_sem, hr, hk, he]; rfl))) | (apply AWpA.draw [] [] follows; (focus (first | rfl | decide)); (focus (simp (maxSteps := 9999999) (disch := omega) only [go_sem, hr, hk, he]; rfl)); (focus (simp (maxSteps := 9999999) (disch := omega) only [go_sem, hr, hk, he]; first | done | trivial)); (focus (simp (maxSteps := 9999999) (disch := omega) only [go_sem, hr, hk, he]; rfl))) | (apply TailK.go; (focus (simp (maxSteps := 9999999) (disch := omega) only [go_sem, hr, hk, he]; rfl))) | refine AWpA.skip ?_ | refine AWpA.exit ?_ | refine AWpA.ret ?_ | (with_reducible refine ARoundsA.succ ?_) | ((first | refine Runs.kt (by assumption) (fun h9 => ?_) | refine Runs.kf (by assumption) (fun h9 => ?_) | refine Runs.nt (by assumption) (fun h9 => ?_) | refine Runs.nf (by assumption) (fun h9 => ?_) | refine CondP.ht (by assumption) (fun h9 => ?_) | refine CondP.hf (by assumption) (fun h9 => ?_) | refine CondP.nt (by assumption) (fun h9 => ?_) | refine CondP.nf (by assumption) (fun h9 => ?_)); (try simp only [h9]); clear h9) | ((first | (with_reducible apply CallG.plain1 [0, 1, 2] (c0)) | (with_reducible apply CallG.draw1 [0, 1, 2] (c0))); (focus ((try refine And.intro (leAs_of_eq rfl) ?_); (try refine And.intro (leOL_of_eq rfl) ?_); simp (maxSteps := 9999999) (disch := omega) only [go_sem, hr, hk, he]; first | done | (repeat' (first | rfl | (refine And.intro ?_ ?_))))); (focus (simp (maxSteps := 9999999) (disch := omega) only [go_sem, hr, hk, he]; rfl)))); (try simp (maxSteps := 9999999) (disch := omega) only [go_sem, hr, hk, he]); (try (refine And.intro ?_ ?_; (focus (first | omega | (simp only [go_sem]; done) | (simp; done) | (simp; omega) | assumption))))) | ((first | refine CondP.split (fun hif => ?_) (fun hif => ?_) | refine Runs.part (fun hif => ?_) (fun hif => ?_)) <;> ((try simp only [hif]); (try simp only [decide_eq_true_eq, decide_eq_false_iff_not, Bool.not_eq_true, Bool.not_eq_false, Bool.not_eq_true', Bool.not_eq_false', beq_iff_eq, bne_iff_ne, bne_eq_false_iff_eq, beq_eq_false_iff_ne, ne_eq, Bool.and_eq_true, Bool.or_eq_true, Bool.or_eq_false_iff] at hif); (try (have h9 : _ = true := hif; simp only [h9])); (try (have h9 : _ = false := hif; simp only [h9])); (try simp (maxSteps := 9999999) (disch := omega) only [go_sem, hr, hk, he]); (try (refine And.intro ?_ ?_; (focus (first | omega | (simp only [go_sem]; done) | (simp; done) | (simp; omega) | assumption)))); (try (exfalso; omega; done))))))
  (apply AWpA.loopL (fun p : Nat × List PE × List ByteArray => [(0, .ptr 0 0), (3, .sl 5 0 p.2.2.length 1 none), (7, .sl 4 0 l.length 9 none), (8, I l.length), (9, I p.1)]) (fun p => [GrR 1 site t2, Ue.TbO 3 ⟨room, p.2.1⟩, .gone, .cells false (Ue.Rp 0 p.2.1), .cells false (Re 0 (l.map (·.v))), .cells false (Rk p.2.2)]) (fun p => l.length - p.1) (fun p => p.1 ≤ l.length ∧ p.2.1 = tickL t2 (l.take p.1) ++ l.drop p.1 ∧ p.2.2 = goneL t2 (l.take p.1)) ((0, l, [])) [0, 1, 2, 2, 52, 3]; rotate_left; (focus (simp (maxSteps := 9999999) (disch := omega) only [go_sem, hr, hk, he, rk_nil]; (try (repeat' (first | done | trivial | rfl | exact leAs_rfl _ | decide | (refine And.intro ?_ ?_) | (simp; done) | omega | (simp; decide)))))); rotate_right)
  · exact ⟨Nat.zero_le _, by simp [tickL], by simp [goneL]⟩
  rintro ⟨i, cur, gone⟩ ⟨hi, hcur, hgone⟩
  (try simp only at hi hcur hgone)
  by_cases hin : i < l.length
  · have k1 : ((i : Int) < (l.length : Int)) = True := eq_true (by omega)
    have hat := re_at 0 (l.map (·.v)) i (by omega)
    rw [Nat.zero_add, List.getElem_map] at hat
    have hrc := rise_cur (t2 := t2) hl.rise i
    have hts := tick_succ (t2 := t2) hin
    have hgs := gone_succ (t2 := t2) hin
    have hxk := hl.keys l[i] (List.getElem_mem hin)
    have hxa := hl.age l[i] (List.getElem_mem hin)
    have hAl := tick_len t2 (l.take i)
    have hGl := gone_len t2 (l.take i)
    rw [← hgone] at hgs hGl
    rw [List.drop_eq_getElem_cons hin] at hrc hcur
    have hgl : gone.length ≤ 4096 := by have := hGl; simp at this; omega
    have hclen : cur.length ≤ 4096 := by rw [hcur]; simp at hAl ⊢; omega
    generalize tickL t2 (l.take i) = A at *
    generalize hD : l.drop (i + 1) = D at *
    generalize l[i] = x at *
    have hput := mid_put hrc (agedE x.v)
    have hdrop := mid_drop hrc
    have hmr := mid_rank hrc
    rw [← hcur] at hput hdrop hmr
    have hcok : (⟨room, cur⟩ : Ue.Tb).ok := ⟨by rw [hcur]; exact hrc, by simp only; omega⟩
    have hLk := rk_len gone
    have hfu := rk_all gone (n := gone.length) rfl
    by_cases hag : x.v.age + 1 < t2
    · have g1 : (x.v.age + 1 < t2) = True := eq_true hag
      have c1 := Ue.tput_any ⟨room, cur⟩ x.v.key (agedE x.v) hcok
      have e3 : Ue.putE ⟨room, cur⟩ x.v.key = 0 := by unfold Ue.putE; simp only; rw [hxk, hmr.2]; rfl
      have e4 : Ue.putT ⟨room, cur⟩ x.v.key (agedE x.v) = ⟨room, A ++ ⟨x.key, agedE x.v⟩ :: D⟩ := by unfold Ue.putT; simp only; rw [hxk, hmr.2, hput]; rfl
      rw [e3, e4] at c1
      rw [if_pos hag] at hts hgs
      have hnew : A ++ (⟨x.key, agedE x.v⟩ : PE) :: D = tickL t2 (l.take (i + 1)) ++ l.drop (i + 1) := by rw [hts, hD]; simp
      rw [List.append_nil] at hgs
      clear e3 e4 hput hdrop hmr hcok hrc hcur hts
      generalize A ++ (⟨x.key, agedE x.v⟩ : PE) :: D = cur' at *
      (try simp (maxSteps := 9999999) (disch := omega) only [go_sem])
      (repeat' (first | refine AWpA.seq ?_ | refine AWpA.block ?_ | (with_reducible refine CondP.tt ?_) | (with_reducible refine CondP.ff ?_) | refine AWpA.condv (by simp (maxSteps := 9999999) (disch := omega) only [go_sem, hr, hk, he, hLe, hml, k1, hat, g1]; rfl) ?_ | ((first | (apply AWpA.region; (focus (simp (maxSteps := 9999999) (disch := omega) only [go_sem, hr, hk, he, hLe, hml, k1, hat, g1]; rfl))) | (apply AWpA.draw [1, 3] [] follows; (focus (first | rfl | decide)); (focus (simp (maxSteps := 9999999) (disch := omega) only [go_sem, hr, hk, he, hLe, hml, k1, hat, g1]; rfl)); (focus (simp (maxSteps := 9999999) (disch := omega) only [go_sem, hr, hk, he, hLe, hml, k1, hat, g1]; first | done | trivial)); (focus (simp (maxSteps := 9999999) (disch := omega) only [go_sem, hr, hk, he, hLe, hml, k1, hat, g1]; rfl))) | (apply TailK.go; (focus (simp (maxSteps := 9999999) (disch := omega) only [go_sem, hr, hk, he, hLe, hml, k1, hat, g1]; rfl))) | refine AWpA.skip ?_ | refine AWpA.exit ?_ | refine AWpA.ret ?_ | (with_reducible refine ARoundsA.succ ?_) | ((first | refine Runs.kt (by assumption) (fun h9 => ?_) | refine Runs.kf (by assumption) (fun h9 => ?_) | refine Runs.nt (by assumption) (fun h9 => ?_) | refine Runs.nf (by assumption) (fun h9 => ?_) | refine CondP.ht (by assumption) (fun h9 => ?_) | refine CondP.hf (by assumption) (fun h9 => ?_) | refine CondP.nt (by assumption) (fun h9 => ?_) | refine CondP.nf (by assumption) (fun h9 => ?_)); (try simp only [h9]); clear h9) | ((first | (with_reducible apply CallG.plain1 [1, 3] (c1)) | (with_reducible apply CallG.draw1 [1, 3] (c1))); (focus ((try refine And.intro (leAs_of_eq rfl) ?_); (try refine And.intro (leOL_of_eq rfl) ?_); simp (maxSteps := 9999999) (disch := omega) only [go_sem, hr, hk, he, hLe, hml, k1, hat, g1]; first | done | (repeat' (first | rfl | (refine And.intro ?_ ?_))))); (focus (simp (maxSteps := 9999999) (disch := omega) only [go_sem, hr, hk, he, hLe, hml, k1, hat, g1]; rfl)))); (try simp (maxSteps := 9999999) (disch := omega) only [go_sem, hr, hk, he, hLe, hml, k1, hat, g1]); (try (refine And.intro ?_ ?_; (focus (first | omega | (simp only [go_sem]; done) | (simp; done) | (simp; omega) | assumption))))) | ((first | refine CondP.split (fun hif => ?_) (fun hif => ?_) | refine Runs.part (fun hif => ?_) (fun hif => ?_)) <;> ((try simp only [hif]); (try simp only [decide_eq_true_eq, decide_eq_false_iff_not, Bool.not_eq_true, Bool.not_eq_false, Bool.not_eq_true', Bool.not_eq_false', beq_iff_eq, bne_iff_ne, bne_eq_false_iff_eq, beq_eq_false_iff_ne, ne_eq, Bool.and_eq_true, Bool.or_eq_true, Bool.or_eq_false_iff] at hif); (try (have h9 : _ = true := hif; simp only [h9])); (try (have h9 : _ = false := hif; simp only [h9])); (try simp (maxSteps := 9999999) (disch := omega) only [go_sem, hr, hk, he, hLe, hml, k1, hat, g1]); (try (refine And.intro ?_ ?_; (focus (first | omega | (simp only [go_sem]; done) | (simp; done) | (simp; omega) | assumption)))); (try (exfalso; omega; done))))))
      (apply Back.to (i + 1, cur', gone) [0, 1, 2, 390, 4, 5]; (focus ((try simp (maxSteps := 9999999) (disch := omega) only [go_sem, hr, hk, he]); first | done | omega)); rotate_left; (focus (simp (maxSteps := 9999999) (disch := omega) only [go_sem, hr, hk, he]; (try (repeat' (first | done | trivial | rfl | exact leAs_rfl _ | decide | (refine And.intro ?_ ?_) | (simp; done) | omega | (simp; decide)))))))
      exact ⟨by simp only; omega, hnew, hgs.symm⟩
    · have g1 : (x.v.age + 1 < t2) = False := eq_false hag
      have c1 := Ue.tdrop_any ⟨room, cur⟩ x.v.key hcok
      simp only at c1
      rw [hxk, hmr.2, hdrop, ← hxk] at c1
      rw [if_neg hag] at hts hgs
      have hnew : A ++ D = tickL t2 (l.take (i + 1)) ++ l.drop (i + 1) := by rw [hts, hD]; simp
      rw [← hxk] at hgs
      have hsn := rk_app gone [x.v.key]
      rw [rk_one] at hsn
      clear hput hdrop hmr hcok hrc hcur hts hxk
      generalize A ++ D = cur' at *
      (try simp (maxSteps := 9999999) (disch := omega) only [go_sem])
      (repeat' (first | refine AWpA.seq ?_ | refine AWpA.block ?_ | (with_reducible refine CondP.tt ?_) | (with_reducible refine CondP.ff ?_) | refine AWpA.condv (by simp (maxSteps := 9999999) (disch := omega) only [go_sem, hr, hk, he, hLe, hLk, hml, k1, hat, g1]; rfl) ?_ | ((first | (apply AWpA.region; (focus (simp (maxSteps := 9999999) (disch := omega) only [go_sem, hr, hk, he, hLe, hLk, hml, k1, hat, g1]; rfl))) | (apply AWpA.draw [1, 3] [] follows; (focus (first | rfl | decide)); (focus (simp (maxSteps := 9999999) (disch := omega) only [go_sem, hr, hk, he, hLe, hLk, hml, k1, hat, g1]; rfl)); (focus (simp (maxSteps := 9999999) (disch := omega) only [go_sem, hr, hk, he, hLe, hLk, hml, k1, hat, g1]; first | done | trivial)); (focus (simp (maxSteps := 9999999) (disch := omega) only [go_sem, hr, hk, he, hLe, hLk, hml, k1, hat, g1]; rfl))) | (apply TailK.go; (focus (simp (maxSteps := 9999999) (disch := omega) only [go_sem, hr, hk, he, hLe, hLk, hml, k1, hat, g1]; rfl))) | refine AWpA.skip ?_ | refine AWpA.exit ?_ | refine AWpA.ret ?_ | (with_reducible refine ARoundsA.succ ?_) | ((first | refine Runs.kt (by assumption) (fun h9 => ?_) | refine Runs.kf (by assumption) (fun h9 => ?_) | refine Runs.nt (by assumption) (fun h9 => ?_) | refine Runs.nf (by assumption) (fun h9 => ?_) | refine CondP.ht (by assumption) (fun h9 => ?_) | refine CondP.hf (by assumption) (fun h9 => ?_) | refine CondP.nt (by assumption) (fun h9 => ?_) | refine CondP.nf (by assumption) (fun h9 => ?_)); (try simp only [h9]); clear h9) | ((first | (with_reducible apply CallG.plain1 [1, 3] (c1)) | (with_reducible apply CallG.draw1 [1, 3] (c1))); (focus ((try refine And.intro (leAs_of_eq rfl) ?_); (try refine And.intro (leOL_of_eq rfl) ?_); simp (maxSteps := 9999999) (disch := omega) only [go_sem, hr, hk, he, hLe, hLk, hml, k1, hat, g1]; first | done | (repeat' (first | rfl | (refine And.intro ?_ ?_))))); (focus (simp (maxSteps := 9999999) (disch := omega) only [go_sem, hr, hk, he, hLe, hLk, hml, k1, hat, g1]; rfl)))); (try simp (maxSteps := 9999999) (disch := omega) only [go_sem, hr, hk, he, hLe, hLk, hml, k1, hat, g1]); (try (refine And.intro ?_ ?_; (focus (first | omega | (simp only [go_sem]; done) | (simp; done) | (simp; omega) | assumption))))) | ((first | refine CondP.split (fun hif => ?_) (fun hif => ?_) | refine Runs.part (fun hif => ?_) (fun hif => ?_)) <;> ((try simp only [hif]); (try simp only [decide_eq_true_eq, decide_eq_false_iff_not, Bool.not_eq_true, Bool.not_eq_false, Bool.not_eq_true', Bool.not_eq_false', beq_iff_eq, bne_iff_ne, bne_eq_false_iff_eq, beq_eq_false_iff_ne, ne_eq, Bool.and_eq_true, Bool.or_eq_true, Bool.or_eq_false_iff] at hif); (try (have h9 : _ = true := hif; simp only [h9])); (try (have h9 : _ = false := hif; simp only [h9])); (try simp (maxSteps := 9999999) (disch := omega) only [go_sem, hr, hk, he, hLe, hLk, hml, k1, hat, g1]); (try (refine And.intro ?_ ?_; (focus (first | omega | (simp only [go_sem]; done) | (simp; done) | (simp; omega) | assumption)))); (try (exfalso; omega; done))))))
      (apply Back.to (i + 1, cur', gone ++ [x.v.key]) [0, 1, 2, 374, 4, 454]; (focus ((try simp (maxSteps := 9999999) (disch := omega) only [go_sem, hr, hk, he, hfu, hsn, renL_append, List.length_append, List.length_singleton]); first | done | omega)); rotate_left; (focus (simp (maxSteps := 9999999) (disch := omega) only [go_sem, hr, hk, he, hfu, hsn, renL_append, List.length_append, List.length_singleton]; (try (repeat' (first | done | trivial | rfl | exact leAs_rfl _ | decide | (refine And.intro ?_ ?_) | (simp; done) | omega | (simp; decide)))))))
      exact ⟨by simp only; omega, hnew, hgs.symm⟩
  · obtain rfl : i = l.length := by omega
    have k1 : ((l.length : Int) < (l.length : Int)) = False := eq_false (by omega)
    rw [List.take_length] at hcur hgone
    rw [List.drop_length, List.append_nil] at hcur
    rw [← hcur, ← hgone]
    clear hcur hgone
    (try simp (maxSteps := 9999999) (disch := omega) only [go_sem])
    (repeat' (first | refine AWpA.seq ?_ | refine AWpA.block ?_ | (with_reducible refine CondP.tt ?_) | (with_reducible refine CondP.ff ?_) | refine AWpA.condv (by simp (maxSteps := 9999999) (disch := omega) only [go_sem, hr, hk, he, k1]; rfl) ?_ | ((first | (apply AWpA.region; (focus (simp (maxSteps := 9999999) (disch := omega) only [go_sem, hr, hk, he, k1]; rfl))) | (apply AWpA.draw [] [] follows; (focus (first | rfl | decide)); (focus (simp (maxSteps := 9999999) (disch := omega) only [go_sem, hr, hk, he, k1]; rfl)); (focus (simp (maxSteps := 9999999) (disch := omega) only [go_sem, hr, hk, he, k1]; first | done | trivial)); (focus (simp (maxSteps := 9999999) (disch := omega) only [go_sem, hr, hk, he, k1]; rfl))) | (apply TailK.go; (focus (simp (maxSteps := 9999999) (disch := omega) only [go_sem, hr, hk, he, k1]; rfl))) | refine AWpA.skip ?_ | refine AWpA.exit ?_ | refine AWpA.ret ?_ | (with_reducible refine ARoundsA.succ ?_) | ((first | refine Runs.kt (by assumption) (fun h9 => ?_) | refine Runs.kf (by assumption) (fun h9 => ?_) | refine Runs.nt (by assumption) (fun h9 => ?_) | refine Runs.nf (by assumption) (fun h9 => ?_) | refine CondP.ht (by assumption) (fun h9 => ?_) | refine CondP.hf (by assumption) (fun h9 => ?_) | refine CondP.nt (by assumption) (fun h9 => ?_) | refine CondP.nf (by assumption) (fun h9 => ?_)); (try simp only [h9]); clear h9)); (try simp (maxSteps := 9999999) (disch := omega) only [go_sem, hr, hk, he, k1]); (try (refine And.intro ?_ ?_; (focus (first | omega | (simp only [go_sem]; done) | (simp; done) | (simp; omega) | assumption))))) | ((first | refine CondP.split (fun hif => ?_) (fun hif => ?_) | refine Runs.part (fun hif => ?_) (fun hif => ?_)) <;> ((try simp only [hif]); (try simp only [decide_eq_true_eq, decide_eq_false_iff_not, Bool.not_eq_true, Bool.not_eq_false, Bool.not_eq_true', Bool.not_eq_false', beq_iff_eq, bne_iff_ne, bne_eq_false_iff_eq, beq_eq_false_iff_ne, ne_eq, Bool.and_eq_true, Bool.or_eq_true, Bool.or_eq_false_iff] at hif); (try (have h9 : _ = true := hif; simp only [h9])); (try (have h9 : _ = false := hif; simp only [h9])); (try simp (maxSteps := 9999999) (disch := omega) only [go_sem, hr, hk, he, k1]); (try (refine And.intro ?_ ?_; (focus (first | omega | (simp only [go_sem]; done) | (simp; done) | (simp; omega) | assumption)))); (try (exfalso; omega; done))))))
    (apply Ret.det [0, 1, 2, 3, 5]; (focus (first | exact .inl rfl | exact .inr rfl)); (focus (simp (maxSteps := 9999999) (disch := omega) only [go_sem, hr, hk, he]; rfl)); (simp (maxSteps := 9999999) (disch := omega) only [go_sem, hr, hk, he]; (try (repeat' (first | done | trivial | rfl | exact leAs_rfl _ | decide | (refine And.intro ?_ ?_) | (simp; done) | omega | (simp; decide))))))
end Go.Proofs.Ytgjimlgofakbpaa
