/- Contracts: the document's table: put, scan. -/
import Derived.Test.YtodnlihbmgigjaaBt5
namespace Go.Proofs.Ytodnlihbmgigjaa
set_option linter.unusedSimpArgs false
set_option linter.unusedVariables false
set_option maxHeartbeats 4000000
open Go Go.Am Go.RowKit
set_option maxRecDepth 100000
theorem rput_any (t : Tb) (k : ByteArray) (v : Int) (ht : t.ok) (hroom : (t.l.length : Int) ≤ t.room) : ACall Try.prog 37 [.agg [I t.room, .sl 0 0 t.l.length 2 none], .val (.string k), I v] [.cells false (Rp 0 t.l)] (Det (.tup [.agg [I t.room, .sl 1 0 (putT t k v).l.length 2 none], I (putE t k)]) [.gone, .cells false (Rp 0 (putT t k v).l)]) := by
  obtain ⟨r, l⟩ := t
  obtain ⟨hs, hl⟩ := ht
  simp only at hs hl hroom ⊢
  have c := rfind_any r l k hs hl
  have d := rrank_any r l k hs hl
  have hr := rp_ren 0
  have hlen := rp_len 0
  have hrk := rankP_le l k
  have hL := hlen l
  have rL := hr l
  have hall := rp_all l (n := l.length * 2) rfl
  cases hh : hasP' l k with
  | true =>
    have hlt := hasP_lt hh
    have he : putE ⟨r, l⟩ k = 0 := by unfold putE; simp only [hh]; rfl
    have hp : (putT ⟨r, l⟩ k v).l = l.take (rankP l k) ++ ⟨k, v⟩ :: l.drop (rankP l k + 1) := by unfold putT putP; simp only [hh]; rfl
    have hf : findP l k = rankP l k := by unfold findP; rw [hh]
    have hw := rp_putv l (rankP l k) hlt v
    rw [hasP_key hh] at hw
    have hl' : (l.take (rankP l k) ++ (⟨k, v⟩ : Pi) :: l.drop (rankP l k + 1)).length = l.length := by simp; omega
    have t2 : (l.length ≤ 0) = False := eq_false (by omega)
    rw [hf] at c
    rw [he, hp, hl']
    have rN := hr (l.take (rankP l k) ++ (⟨k, v⟩ : Pi) :: l.drop (rankP l k + 1))
    generalize l.take (rankP l k) ++ (⟨k, v⟩ : Pi) :: l.drop (rankP l k + 1) = l' at *
    clear hp he hh hf
    generalize rankP l k = i at *
    have t1 : (0 ≤ (i : Int)) = True := eq_true (by omega)
    refine ACall.startA c37_ok Try.func37 rfl Try.ntmps37 (by kernel_rfl) res37_ok rfl rfl rfl ?_; simp (maxSteps := 9999999) (disch := omega) only [go_sem]
    (have k9 := And.intro @rL (And.intro @rN (And.intro @hL (And.intro @hall (And.intro @hw (And.intro @t1 (And.intro @t2 (k0))))))); (repeat' (first | refine AWpA.seq ?_ | refine AWpA.block ?_ | (with_reducible refine CondP.tt ?_) | (with_reducible refine CondP.ff ?_) | refine AWpA.cg ?_ | ((first | refine AWpA.rg ?_ | refine AWpA.dg [] [] follows ?_ | refine TailK.tg ?_ | refine AWpA.skip ?_ | refine AWpA.exit ?_ | refine AWpA.ret ?_ | (with_reducible refine ARoundsA.succ ?_) | ((first | refine Runs.gkt (fun h9 => ?_) | refine Runs.gkf (fun h9 => ?_) | refine Runs.gnt (fun h9 => ?_) | refine Runs.gnf (fun h9 => ?_) | refine CondP.gt (fun h9 => ?_) | refine CondP.gf (fun h9 => ?_) | refine CondP.gnt (fun h9 => ?_) | refine CondP.gnf (fun h9 => ?_)); (try simp only [h9]); clear h9) | refine CallG.pg [0] (c) ?_ | refine CallG.dg [0] (c) ?_); (try simp (maxSteps := 9999999) (disch := omega) only [go_sem, k9]); (try refine cnd ?_)) | ((first | refine CondP.split (fun hif => ?_) (fun hif => ?_) | refine Runs.part (fun hif => ?_) (fun hif => ?_)) <;> ((try simp only [hif]); (try simp only [BL] at hif); (try (have h9 : _ = true := hif; simp only [h9])); (try (have h9 : _ = false := hif; simp only [h9])); (try simp (maxSteps := 9999999) (disch := omega) only [go_sem, k9]); (try refine cnd ?_); (try (exfalso; omega; done)))))); (all_goals (try clear k9)))
    (apply Ret.det [0, 97]; (focus (first | exact .inl rfl | exact .inr rfl)); (focus (simp (maxSteps := 9999999) (disch := omega) only [go_sem, rL, rN]; rfl)); (simp (maxSteps := 9999999) (disch := omega) only [go_sem, rL, rN]; (try (repeat' (first | done | trivial | rfl | exact leAs_rfl _ | decide | (refine And.intro ?_ ?_) | (simp; done) | omega | (simp; decide))))))
  | false =>
    have hf : findP l k = -1 := by unfold findP; rw [hh]
    rw [hf] at c
    by_cases hfull : (l.length : Int) = r
    · have he : putE ⟨r, l⟩ k = 7 := by unfold putE; simp only [hh, decide_eq_true hfull]; rfl
      have hp : (putT ⟨r, l⟩ k v).l = l := by unfold putT; simp only [hh, decide_eq_true hfull]; rfl
      rw [he, hp]
      clear hp he hh hf
      have t1 : (r ≤ (l.length : Int)) = True := eq_true (by omega)
      rcases Nat.eq_zero_or_pos l.length with h0 | h0
      · have t2 : (l.length ≤ 0) = True := eq_true (by omega)
        refine ACall.startA c37_ok Try.func37 rfl Try.ntmps37 (by kernel_rfl) res37_ok rfl rfl rfl ?_; simp (maxSteps := 9999999) (disch := omega) only [go_sem]
        (have k9 := And.intro @rL (And.intro @hL (And.intro @hall (And.intro @t1 (And.intro @t2 (k0))))); (repeat' (first | refine AWpA.seq ?_ | refine AWpA.block ?_ | (with_reducible refine CondP.tt ?_) | (with_reducible refine CondP.ff ?_) | refine AWpA.cg ?_ | ((first | refine AWpA.rg ?_ | refine AWpA.dg [] [] follows ?_ | refine TailK.tg ?_ | refine AWpA.skip ?_ | refine AWpA.exit ?_ | refine AWpA.ret ?_ | (with_reducible refine ARoundsA.succ ?_) | ((first | refine Runs.gkt (fun h9 => ?_) | refine Runs.gkf (fun h9 => ?_) | refine Runs.gnt (fun h9 => ?_) | refine Runs.gnf (fun h9 => ?_) | refine CondP.gt (fun h9 => ?_) | refine CondP.gf (fun h9 => ?_) | refine CondP.gnt (fun h9 => ?_) | refine CondP.gnf (fun h9 => ?_)); (try simp only [h9]); clear h9) | refine CallG.pg [0] (c) ?_ | refine CallG.dg [0] (c) ?_); (try simp (maxSteps := 9999999) (disch := omega) only [go_sem, k9]); (try refine cnd ?_)) | ((first | refine CondP.split (fun hif => ?_) (fun hif => ?_) | refine Runs.part (fun hif => ?_) (fun hif => ?_)) <;> ((try simp only [hif]); (try simp only [BL] at hif); (try (have h9 : _ = true := hif; simp only [h9])); (try (have h9 : _ = false := hif; simp only [h9])); (try simp (maxSteps := 9999999) (disch := omega) only [go_sem, k9]); (try refine cnd ?_); (try (exfalso; omega; done)))))); (all_goals (try clear k9)))
        (apply Ret.det [0, 0]; (focus (first | exact .inl rfl | exact .inr rfl)); (focus (simp (maxSteps := 9999999) (disch := omega) only [go_sem, rL]; rfl)); (simp (maxSteps := 9999999) (disch := omega) only [go_sem, rL]; (try (repeat' (first | done | trivial | rfl | exact leAs_rfl _ | decide | (refine And.intro ?_ ?_) | (simp; done) | omega | (simp; decide))))))
      · have t2 : (l.length ≤ 0) = False := eq_false (by omega)
        refine ACall.startA c37_ok Try.func37 rfl Try.ntmps37 (by kernel_rfl) res37_ok rfl rfl rfl ?_; simp (maxSteps := 9999999) (disch := omega) only [go_sem]
        (have k9 := And.intro @rL (And.intro @hL (And.intro @hall (And.intro @t1 (And.intro @t2 (k0))))); (repeat' (first | refine AWpA.seq ?_ | refine AWpA.block ?_ | (with_reducible refine CondP.tt ?_) | (with_reducible refine CondP.ff ?_) | refine AWpA.cg ?_ | ((first | refine AWpA.rg ?_ | refine AWpA.dg [] [] follows ?_ | refine TailK.tg ?_ | refine AWpA.skip ?_ | refine AWpA.exit ?_ | refine AWpA.ret ?_ | (with_reducible refine ARoundsA.succ ?_) | ((first | refine Runs.gkt (fun h9 => ?_) | refine Runs.gkf (fun h9 => ?_) | refine Runs.gnt (fun h9 => ?_) | refine Runs.gnf (fun h9 => ?_) | refine CondP.gt (fun h9 => ?_) | refine CondP.gf (fun h9 => ?_) | refine CondP.gnt (fun h9 => ?_) | refine CondP.gnf (fun h9 => ?_)); (try simp only [h9]); clear h9) | refine CallG.pg [0] (c) ?_ | refine CallG.dg [0] (c) ?_); (try simp (maxSteps := 9999999) (disch := omega) only [go_sem, k9]); (try refine cnd ?_)) | ((first | refine CondP.split (fun hif => ?_) (fun hif => ?_) | refine Runs.part (fun hif => ?_) (fun hif => ?_)) <;> ((try simp only [hif]); (try simp only [BL] at hif); (try (have h9 : _ = true := hif; simp only [h9])); (try (have h9 : _ = false := hif; simp only [h9])); (try simp (maxSteps := 9999999) (disch := omega) only [go_sem, k9]); (try refine cnd ?_); (try (exfalso; omega; done)))))); (all_goals (try clear k9)))
        (apply Ret.det [0, 0]; (focus (first | exact .inl rfl | exact .inr rfl)); (focus (simp (maxSteps := 9999999) (disch := omega) only [go_sem, rL]; rfl)); (simp (maxSteps := 9999999) (disch := omega) only [go_sem, rL]; (try (repeat' (first | done | trivial | rfl | exact leAs_rfl _ | decide | (refine And.intro ?_ ?_) | (simp; done) | omega | (simp; decide))))))
    · have he : putE ⟨r, l⟩ k = 0 := by unfold putE; simp only [hh, decide_eq_false hfull]; rfl
      have hp : (putT ⟨r, l⟩ k v).l = l.take (rankP l k) ++ ⟨k, v⟩ :: l.drop (rankP l k) := by unfold putT putP; simp only [hh, decide_eq_false hfull]; rfl
      have hl' : (l.take (rankP l k) ++ (⟨k, v⟩ : Pi) :: l.drop (rankP l k)).length = l.length + 1 := by simp; omega
      rw [he, hp, hl', rp_ins]
      clear hp he hh hf hl'
      generalize rankP l k = i at *
      have q1 := rp_take l i (n := i * 2) rfl (by omega)
      have q2 := rp_drop l i (n := i * 2) rfl (by omega)
      have hX := rp_lenT l i (by omega)
      have hY := hlen (l.drop i)
      rw [List.length_drop] at hY
      have rX := hr (l.take i)
      have rY := hr (l.drop i)
      generalize Rp 0 (l.take i) = X at *
      generalize Rp 0 (l.drop i) = Y at *
      obtain ⟨m, hm⟩ : ∃ m, l.length = i + m := ⟨l.length - i, by omega⟩
      have t1 : (r ≤ (l.length : Int)) = False := eq_false (by omega)
      have t3 : l.length - i = m := by omega
      rw [t3] at hY
      have q3 : List.take (m * 2) Y = Y := List.take_of_length_le (by omega)
      have q6 : List.take (i * 2) X = X := List.take_of_length_le (by omega)
      have q7 : ∀ a b : AV, List.take ((i + 1) * 2) (X ++ [a, b]) = X ++ [a, b] := fun a b => List.take_of_length_le (by simp; omega)
      have hXl : ∀ a b : AV, (X ++ [a, b]).length = (i + 1) * 2 := fun a b => by simp; omega
      have t4 : i + 1 + m = l.length + 1 := by omega
      have p0 : l.length ≤ 0 ↔ l.length = 0 := by omega
      have p1 : i ≤ 0 ↔ i = 0 := by omega
      rcases Nat.eq_zero_or_pos l.length with h0 | h0
      · have p2 : (l.length = 0) = True := eq_true h0
        have p3 : (i = 0) = True := eq_true (by omega)
        refine ACall.startA c37_ok Try.func37 rfl Try.ntmps37 (by kernel_rfl) res37_ok rfl rfl rfl ?_; simp (maxSteps := 9999999) (disch := omega) only [go_sem]
        (have k9 := And.intro @rL (And.intro @hL (And.intro @hall (And.intro @rX (And.intro @rY (And.intro @hX (And.intro @hY (And.intro @hXl (And.intro @t1 (And.intro @t3 (And.intro @t4 (And.intro @q1 (And.intro @q2 (And.intro @q3 (And.intro @q6 (And.intro @p0 (And.intro @p1 (And.intro @p2 (And.intro @p3 (And.intro @renL_append (k0)))))))))))))))))))); (repeat' (first | refine AWpA.seq ?_ | refine AWpA.block ?_ | (with_reducible refine CondP.tt ?_) | (with_reducible refine CondP.ff ?_) | refine AWpA.cg ?_ | ((first | refine AWpA.rg ?_ | refine AWpA.dg [] [] follows ?_ | refine TailK.tg ?_ | refine AWpA.skip ?_ | refine AWpA.exit ?_ | refine AWpA.ret ?_ | (with_reducible refine ARoundsA.succ ?_) | ((first | refine Runs.gkt (fun h9 => ?_) | refine Runs.gkf (fun h9 => ?_) | refine Runs.gnt (fun h9 => ?_) | refine Runs.gnf (fun h9 => ?_) | refine CondP.gt (fun h9 => ?_) | refine CondP.gf (fun h9 => ?_) | refine CondP.gnt (fun h9 => ?_) | refine CondP.gnf (fun h9 => ?_)); (try simp only [h9]); clear h9) | refine CallG.pg [0] (c) ?_ | refine CallG.pg [0] (d) ?_ | refine CallG.dg [0] (c) ?_ | refine CallG.dg [0] (d) ?_); (try simp (maxSteps := 9999999) (disch := omega) only [go_sem, k9]); (try refine cnd ?_)) | ((first | refine CondP.split (fun hif => ?_) (fun hif => ?_) | refine Runs.part (fun hif => ?_) (fun hif => ?_)) <;> ((try simp only [hif]); (try simp only [BL] at hif); (try (have h9 : _ = true := hif; simp only [h9])); (try (have h9 : _ = false := hif; simp only [h9])); (try simp (maxSteps := 9999999) (disch := omega) only [go_sem, k9]); (try refine cnd ?_); (try (exfalso; omega; done)))))); (all_goals (try clear k9)))
        rw [q7]
        (apply Ret.det [0, 641]; (focus (first | exact .inl rfl | exact .inr rfl)); (focus (simp (maxSteps := 9999999) (disch := omega) only [go_sem, rX, rY, renL_append]; rfl)); (simp (maxSteps := 9999999) (disch := omega) only [go_sem, rX, rY, renL_append]; (try (repeat' (first | done | trivial | rfl | exact leAs_rfl _ | decide | (refine And.intro ?_ ?_) | (simp; done) | omega | (simp; decide))))))
      · have p2 : (l.length = 0) = False := eq_false (by omega)
        rcases Nat.eq_zero_or_pos i with hi0 | hi0
        · have p3 : (i = 0) = True := eq_true hi0
          refine ACall.startA c37_ok Try.func37 rfl Try.ntmps37 (by kernel_rfl) res37_ok rfl rfl rfl ?_; simp (maxSteps := 9999999) (disch := omega) only [go_sem]
          (have k9 := And.intro @rL (And.intro @hL (And.intro @hall (And.intro @rX (And.intro @rY (And.intro @hX (And.intro @hY (And.intro @hXl (And.intro @t1 (And.intro @t3 (And.intro @t4 (And.intro @q1 (And.intro @q2 (And.intro @q3 (And.intro @q6 (And.intro @p0 (And.intro @p1 (And.intro @p2 (And.intro @p3 (And.intro @renL_append (k0)))))))))))))))))))); (repeat' (first | refine AWpA.seq ?_ | refine AWpA.block ?_ | (with_reducible refine CondP.tt ?_) | (with_reducible refine CondP.ff ?_) | refine AWpA.cg ?_ | ((first | refine AWpA.rg ?_ | refine AWpA.dg [] [] follows ?_ | refine TailK.tg ?_ | refine AWpA.skip ?_ | refine AWpA.exit ?_ | refine AWpA.ret ?_ | (with_reducible refine ARoundsA.succ ?_) | ((first | refine Runs.gkt (fun h9 => ?_) | refine Runs.gkf (fun h9 => ?_) | refine Runs.gnt (fun h9 => ?_) | refine Runs.gnf (fun h9 => ?_) | refine CondP.gt (fun h9 => ?_) | refine CondP.gf (fun h9 => ?_) | refine CondP.gnt (fun h9 => ?_) | refine CondP.gnf (fun h9 => ?_)); (try simp only [h9]); clear h9) | refine CallG.pg [0] (c) ?_ | refine CallG.pg [0] (d) ?_ | refine CallG.dg [0] (c) ?_ | refine CallG.dg [0] (d) ?_); (try simp (maxSteps := 9999999) (disch := omega) only [go_sem, k9]); (try refine cnd ?_)) | ((first | refine CondP.split (fun hif => ?_) (fun hif => ?_) | refine Runs.part (fun hif => ?_) (fun hif => ?_)) <;> ((try simp only [hif]); (try simp only [BL] at hif); (try (have h9 : _ = true := hif; simp only [h9])); (try (have h9 : _ = false := hif; simp only [h9])); (try simp (maxSteps := 9999999) (disch := omega) only [go_sem, k9]); (try refine cnd ?_); (try (exfalso; omega; done)))))); (all_goals (try clear k9)))
          rw [q7]
          (apply Ret.det [0, 641]; (focus (first | exact .inl rfl | exact .inr rfl)); (focus (simp (maxSteps := 9999999) (disch := omega) only [go_sem, rX, rY, renL_append]; rfl)); (simp (maxSteps := 9999999) (disch := omega) only [go_sem, rX, rY, renL_append]; (try (repeat' (first | done | trivial | rfl | exact leAs_rfl _ | decide | (refine And.intro ?_ ?_) | (simp; done) | omega | (simp; decide))))))
        · have p3 : (i = 0) = False := eq_false (by omega)
          refine ACall.startA c37_ok Try.func37 rfl Try.ntmps37 (by kernel_rfl) res37_ok rfl rfl rfl ?_; simp (maxSteps := 9999999) (disch := omega) only [go_sem]
          (have k9 := And.intro @rL (And.intro @hL (And.intro @hall (And.intro @rX (And.intro @rY (And.intro @hX (And.intro @hY (And.intro @hXl (And.intro @t1 (And.intro @t3 (And.intro @t4 (And.intro @q1 (And.intro @q2 (And.intro @q3 (And.intro @q6 (And.intro @p0 (And.intro @p1 (And.intro @p2 (And.intro @p3 (And.intro @renL_append (k0)))))))))))))))))))); (repeat' (first | refine AWpA.seq ?_ | refine AWpA.block ?_ | (with_reducible refine CondP.tt ?_) | (with_reducible refine CondP.ff ?_) | refine AWpA.cg ?_ | ((first | refine AWpA.rg ?_ | refine AWpA.dg [] [] follows ?_ | refine TailK.tg ?_ | refine AWpA.skip ?_ | refine AWpA.exit ?_ | refine AWpA.ret ?_ | (with_reducible refine ARoundsA.succ ?_) | ((first | refine Runs.gkt (fun h9 => ?_) | refine Runs.gkf (fun h9 => ?_) | refine Runs.gnt (fun h9 => ?_) | refine Runs.gnf (fun h9 => ?_) | refine CondP.gt (fun h9 => ?_) | refine CondP.gf (fun h9 => ?_) | refine CondP.gnt (fun h9 => ?_) | refine CondP.gnf (fun h9 => ?_)); (try simp only [h9]); clear h9) | refine CallG.pg [0] (c) ?_ | refine CallG.pg [0] (d) ?_ | refine CallG.dg [0] (c) ?_ | refine CallG.dg [0] (d) ?_); (try simp (maxSteps := 9999999) (disch := omega) only [go_sem, k9]); (try refine cnd ?_)) | ((first | refine CondP.split (fun hif => ?_) (fun hif => ?_) | refine Runs.part (fun hif => ?_) (fun hif => ?_)) <;> ((try simp only [hif]); (try simp only [BL] at hif); (try (have h9 : _ = true := hif; simp only [h9])); (try (have h9 : _ = false := hif; simp only [h9])); (try simp (maxSteps := 9999999) (disch := omega) only [go_sem, k9]); (try refine cnd ?_); (try (exfalso; omega; done)))))); (all_goals (try clear k9)))
          rw [q7]
          (apply Ret.det [0, 641]; (focus (first | exact .inl rfl | exact .inr rfl)); (focus (simp (maxSteps := 9999999) (disch := omega) only [go_sem, rX, rY, renL_append]; rfl)); (simp (maxSteps := 9999999) (disch := omega) only [go_sem, rX, rY, renL_append]; (try (repeat' (first | done | trivial | rfl | exact leAs_rfl _ | decide | (refine And.intro ?_ ?_) | (simp; done) | omega | (simp; decide))))))
/-- What is found up to a place. -/
def outP (l : List Pi) (r nn i : Nat) : List Pi := ((l.take i).drop r).take nn
theorem outP_len (l : List Pi) (r nn i : Nat) (hi : i ≤ l.length) : (outP l r nn i).length = min nn (i - r) := by simp [outP]; omega
theorem outP_in {l : List Pi} {r nn i : Nat} (hi : i < l.length) (h1 : r ≤ i) (h2 : min nn (i - r) < nn) : outP l r nn (i + 1) = outP l r nn i ++ [l[i]] := by
  unfold outP
  have hA : ((l.take i).drop r).length = i - r := by simp; omega
  rw [List.take_add_one, List.getElem?_eq_getElem hi, Option.toList, List.drop_append_of_le_length (by simp; omega)]
  generalize (l.take i).drop r = A at *
  have e1 : List.take nn (A ++ [l[i]]) = A ++ [l[i]] := List.take_of_length_le (by simp; omega)
  have e2 : List.take nn A = A := List.take_of_length_le (by omega)
  rw [e1, e2]
theorem outP_out {l : List Pi} {r nn i : Nat} (hi : i < l.length) (h : i < r ∨ ¬ min nn (i - r) < nn) : outP l r nn (i + 1) = outP l r nn i := by
  unfold outP
  rcases Nat.lt_or_ge i r with h' | h'
  · rw [List.drop_of_length_le (by simp; omega), List.drop_of_length_le (by simp; omega)]
  · have h2 : nn ≤ i - r := by omega
    rw [List.take_add_one, List.getElem?_eq_getElem hi, Option.toList, List.drop_append_of_le_length (by simp; omega), List.take_append_of_le_length (by simp; omega)]
theorem outP_all (l : List Pi) (k : ByteArray) (n : Int) : outP l (rankP l k) (max n 0).toNat l.length = scanP l k n := by
  unfold outP scanP
  rw [List.take_length, List.take_eq_take_iff]
  simp
attribute [irreducible] outP
theorem rscan_any (r : Int) (l : List Pi) (k : ByteArray) (n : Int) (hs : Rise l) (hl : l.length ≤ 1099511627776) : ACall Try.prog 26 [.agg [I r, .sl 0 0 l.length 2 none], .val (.string k), I n] [.cells true (Rp 0 l)] (Det (.sl 1 0 (scanP l k n).length 2 none) [.cells true (Rp 0 l), .cells false (Rp 0 (scanP l k n))]) := by
  have hr := rp_ren 0
  have hlen := rp_len 0
  have hL := hlen l
  rw [← outP_all]
  have hlt := lt_rank hs k
  generalize rankP l k = q at *
  obtain ⟨nn, hnn⟩ : ∃ nn, nn = (max n 0).toNat := ⟨_, rfl⟩
  rw [← hnn]
  have hol := outP_len l q nn
  refine ACall.startA c26_ok Try.func26 rfl Try.ntmps26 (by kernel_rfl) res26_ok rfl rfl rfl ?_; simp (maxSteps := 9999999) (disch := omega) only [go_sem]
  (have k9 := And.intro @hr (k0); (repeat' (first | refine AWpA.seq ?_ | refine AWpA.block ?_ | (with_reducible refine CondP.tt ?_) | (with_reducible refine CondP.ff ?_) | refine AWpA.cg ?_ | ((first | refine AWpA.rg ?_ | refine AWpA.dg [] [] follows ?_ | refine TailK.tg ?_ | refine AWpA.skip ?_ | refine AWpA.exit ?_ | refine AWpA.ret ?_ | (with_reducible refine ARoundsA.succ ?_) | ((first | refine Runs.gkt (fun h9 => ?_) | refine Runs.gkf (fun h9 => ?_) | refine Runs.gnt (fun h9 => ?_) | refine Runs.gnf (fun h9 => ?_) | refine CondP.gt (fun h9 => ?_) | refine CondP.gf (fun h9 => ?_) | refine CondP.gnt (fun h9 => ?_) | refine CondP.gnf (fun h9 => ?_)); (try simp only [h9]); clear h9)); (try simp (maxSteps := 9999999) (disch := omega) only [go_sem, k9]); (try refine cnd ?_)) | ((first | refine CondP.split (fun hif => ?_) (fun hif => ?_) | refine Runs.part (fun hif => ?_) (fun hif => ?_)) <;> ((try simp only [hif]); (try simp only [BL] at hif); (try (have h9 : _ = true := hif; simp only [h9])); (try (have h9 : _ = false := hif; simp only [h9])); (try simp (maxSteps := 9999999) (disch := omega) only [go_sem, k9]); (try refine cnd ?_); (try (exfalso; omega; done)))))); (all_goals (try clear k9)))
  have o0 : outP l q nn 0 = [] := List.length_eq_zero_iff.1 (by rw [hol 0 (by omega)]; omega)
  (apply AWpA.loopL (fun i : Nat => [(1, .val (.string k)), (2, I n), (3, .ptr 1 0), (7, .sl 2 0 (outP l q nn i).length 2 none), (8, I i)]) (fun i => [.cells true (Rp 0 l), .cells false [I r, .sl 0 0 l.length 2 none], .cells false (Rp 0 (outP l q nn i))]) (fun i => l.length - i) (fun i => i ≤ l.length) (0) [0, 1, 33]; rotate_left; (focus (simp (maxSteps := 9999999) (disch := omega) only [go_sem, hr, o0, rp_nil]; (try (repeat' (first | done | trivial | rfl | exact leAs_rfl _ | decide | (refine And.intro ?_ ?_) | (simp; done) | omega | (simp; decide)))))); rotate_right)
  · simp
  rintro i hi
  (try simp only at hi)
  by_cases hil : i < l.length
  · have g1 : ((i : Int) < (l.length : Int)) = True := eq_true (by omega)
    have hat := rp_at 0 l i hil
    rw [Nat.zero_add] at hat
    have hk0 := rp_k l i hil
    have hlt := hlt i hil
    have hoi := hol i hi
    have hin := @outP_in l q nn i hil
    have hout := @outP_out l q nn i hil
    have hoL := hlen (outP l q nn i)
    have hall := rp_all (outP l q nn i) (n := (outP l q nn i).length * 2) rfl
    generalize outP l q nn i = A at *
    generalize l[i] = x at *
    by_cases hq : q ≤ i
    · rw [decide_eq_false (by omega)] at hlt
      by_cases ha : (A.length : Int) < n
      · have g2 : ((A.length : Int) < n) = True := eq_true ha
        have hB := hin hq (by omega)
        have hBl : (outP l q nn (i + 1)).length = A.length + 1 := by rw [hB]; simp
        have hAl : A.length ≤ l.length := by omega
        have hBr : Rp 0 (outP l q nn (i + 1)) = Rp 0 A ++ PiL x := by rw [hB, rp_app, rp_one]
        clear hin hout hB ha hoi hnn hol
        (try simp (maxSteps := 9999999) (disch := omega) only [go_sem])
        (have k9 := And.intro @hr (And.intro @hL (And.intro @hoL (And.intro @hall (And.intro @hAl (And.intro @g1 (And.intro @g2 (And.intro @hat (And.intro @hk0 (And.intro @hlt (k0)))))))))); (repeat' (first | refine AWpA.seq ?_ | refine AWpA.block ?_ | (with_reducible refine CondP.tt ?_) | (with_reducible refine CondP.ff ?_) | refine AWpA.cg ?_ | ((first | refine AWpA.rg ?_ | refine AWpA.dg [] [] follows ?_ | refine TailK.tg ?_ | refine AWpA.skip ?_ | refine AWpA.exit ?_ | refine AWpA.ret ?_ | (with_reducible refine ARoundsA.succ ?_) | ((first | refine Runs.gkt (fun h9 => ?_) | refine Runs.gkf (fun h9 => ?_) | refine Runs.gnt (fun h9 => ?_) | refine Runs.gnf (fun h9 => ?_) | refine CondP.gt (fun h9 => ?_) | refine CondP.gf (fun h9 => ?_) | refine CondP.gnt (fun h9 => ?_) | refine CondP.gnf (fun h9 => ?_)); (try simp only [h9]); clear h9)); (try simp (maxSteps := 9999999) (disch := omega) only [go_sem, k9]); (try refine cnd ?_)) | ((first | refine CondP.split (fun hif => ?_) (fun hif => ?_) | refine Runs.part (fun hif => ?_) (fun hif => ?_)) <;> ((try simp only [hif]); (try simp only [BL] at hif); (try (have h9 : _ = true := hif; simp only [h9])); (try (have h9 : _ = false := hif; simp only [h9])); (try simp (maxSteps := 9999999) (disch := omega) only [go_sem, k9]); (try refine cnd ?_); (try (exfalso; omega; done)))))); (all_goals (try clear k9)))
        (apply Back.to (i + 1) [0, 1, 419]; (focus ((try simp (maxSteps := 9999999) (disch := omega) only [go_sem, hr, hBl, hBr, renL_append]); first | done | omega)); rotate_left; (focus (simp (maxSteps := 9999999) (disch := omega) only [go_sem, hr, hBl, hBr, renL_append]; (try (repeat' (first | done | trivial | rfl | exact leAs_rfl _ | decide | (refine And.intro ?_ ?_) | (simp; done) | omega | (simp; decide)))))))
        all_goals omega
      · have g2 : ((A.length : Int) < n) = False := eq_false ha
        have hB := hout (by omega)
        clear hin hout ha hoi hnn hol
        (try simp (maxSteps := 9999999) (disch := omega) only [go_sem])
        (have k9 := And.intro @hr (And.intro @hL (And.intro @hoL (And.intro @hall (And.intro @g1 (And.intro @g2 (And.intro @hat (And.intro @hk0 (And.intro @hlt (k0))))))))); (repeat' (first | refine AWpA.seq ?_ | refine AWpA.block ?_ | (with_reducible refine CondP.tt ?_) | (with_reducible refine CondP.ff ?_) | refine AWpA.cg ?_ | ((first | refine AWpA.rg ?_ | refine AWpA.dg [] [] follows ?_ | refine TailK.tg ?_ | refine AWpA.skip ?_ | refine AWpA.exit ?_ | refine AWpA.ret ?_ | (with_reducible refine ARoundsA.succ ?_) | ((first | refine Runs.gkt (fun h9 => ?_) | refine Runs.gkf (fun h9 => ?_) | refine Runs.gnt (fun h9 => ?_) | refine Runs.gnf (fun h9 => ?_) | refine CondP.gt (fun h9 => ?_) | refine CondP.gf (fun h9 => ?_) | refine CondP.gnt (fun h9 => ?_) | refine CondP.gnf (fun h9 => ?_)); (try simp only [h9]); clear h9)); (try simp (maxSteps := 9999999) (disch := omega) only [go_sem, k9]); (try refine cnd ?_)) | ((first | refine CondP.split (fun hif => ?_) (fun hif => ?_) | refine Runs.part (fun hif => ?_) (fun hif => ?_)) <;> ((try simp only [hif]); (try simp only [BL] at hif); (try (have h9 : _ = true := hif; simp only [h9])); (try (have h9 : _ = false := hif; simp only [h9])); (try simp (maxSteps := 9999999) (disch := omega) only [go_sem, k9]); (try refine cnd ?_); (try (exfalso; omega; done)))))); (all_goals (try clear k9)))
        (apply Back.to (i + 1) [0, 1, 2]; (focus ((try simp (maxSteps := 9999999) (disch := omega) only [go_sem, hr, hB]); first | done | omega)); rotate_left; (focus (simp (maxSteps := 9999999) (disch := omega) only [go_sem, hr, hB]; (try (repeat' (first | done | trivial | rfl | exact leAs_rfl _ | decide | (refine And.intro ?_ ?_) | (simp; done) | omega | (simp; decide)))))))
        all_goals omega
    · rw [decide_eq_true (by omega)] at hlt
      have hB := hout (by omega)
      clear hin hout hoi hnn hol
      (try simp (maxSteps := 9999999) (disch := omega) only [go_sem])
      (have k9 := And.intro @hr (And.intro @hL (And.intro @hoL (And.intro @hall (And.intro @g1 (And.intro @hat (And.intro @hk0 (And.intro @hlt (k0)))))))); (repeat' (first | refine AWpA.seq ?_ | refine AWpA.block ?_ | (with_reducible refine CondP.tt ?_) | (with_reducible refine CondP.ff ?_) | refine AWpA.cg ?_ | ((first | refine AWpA.rg ?_ | refine AWpA.dg [] [] follows ?_ | refine TailK.tg ?_ | refine AWpA.skip ?_ | refine AWpA.exit ?_ | refine AWpA.ret ?_ | (with_reducible refine ARoundsA.succ ?_) | ((first | refine Runs.gkt (fun h9 => ?_) | refine Runs.gkf (fun h9 => ?_) | refine Runs.gnt (fun h9 => ?_) | refine Runs.gnf (fun h9 => ?_) | refine CondP.gt (fun h9 => ?_) | refine CondP.gf (fun h9 => ?_) | refine CondP.gnt (fun h9 => ?_) | refine CondP.gnf (fun h9 => ?_)); (try simp only [h9]); clear h9)); (try simp (maxSteps := 9999999) (disch := omega) only [go_sem, k9]); (try refine cnd ?_)) | ((first | refine CondP.split (fun hif => ?_) (fun hif => ?_) | refine Runs.part (fun hif => ?_) (fun hif => ?_)) <;> ((try simp only [hif]); (try simp only [BL] at hif); (try (have h9 : _ = true := hif; simp only [h9])); (try (have h9 : _ = false := hif; simp only [h9])); (try simp (maxSteps := 9999999) (disch := omega) only [go_sem, k9]); (try refine cnd ?_); (try (exfalso; omega; done)))))); (all_goals (try clear k9)))
      (apply Back.to (i + 1) [0, 1, 2]; (focus ((try simp (maxSteps := 9999999) (disch := omega) only [go_sem, hr, hB]); first | done | omega)); rotate_left; (focus (simp (maxSteps := 9999999) (disch := omega) only [go_sem, hr, hB]; (try (repeat' (first | done | trivial | rfl | exact leAs_rfl _ | decide | (refine And.intro ?_ ?_) | (simp; done) | omega | (simp; decide)))))))
      all_goals omega
  · obtain rfl : i = l.length := by omega
    have g1 : ((l.length : Int) < (l.length : Int)) = False := eq_false (by omega)
    generalize outP l q nn l.length = A at *
    clear hnn hol
    (try simp (maxSteps := 9999999) (disch := omega) only [go_sem])
    (have k9 := And.intro @hr (And.intro @hL (And.intro @g1 (k0))); (repeat' (first | refine AWpA.seq ?_ | refine AWpA.block ?_ | (with_reducible refine CondP.tt ?_) | (with_reducible refine CondP.ff ?_) | refine AWpA.cg ?_ | ((first | refine AWpA.rg ?_ | refine AWpA.dg [] [] follows ?_ | refine TailK.tg ?_ | refine AWpA.skip ?_ | refine AWpA.exit ?_ | refine AWpA.ret ?_ | (with_reducible refine ARoundsA.succ ?_) | ((first | refine Runs.gkt (fun h9 => ?_) | refine Runs.gkf (fun h9 => ?_) | refine Runs.gnt (fun h9 => ?_) | refine Runs.gnf (fun h9 => ?_) | refine CondP.gt (fun h9 => ?_) | refine CondP.gf (fun h9 => ?_) | refine CondP.gnt (fun h9 => ?_) | refine CondP.gnf (fun h9 => ?_)); (try simp only [h9]); clear h9)); (try simp (maxSteps := 9999999) (disch := omega) only [go_sem, k9]); (try refine cnd ?_)) | ((first | refine CondP.split (fun hif => ?_) (fun hif => ?_) | refine Runs.part (fun hif => ?_) (fun hif => ?_)) <;> ((try simp only [hif]); (try simp only [BL] at hif); (try (have h9 : _ = true := hif; simp only [h9])); (try (have h9 : _ = false := hif; simp only [h9])); (try simp (maxSteps := 9999999) (disch := omega) only [go_sem, k9]); (try refine cnd ?_); (try (exfalso; omega; done)))))); (all_goals (try clear k9)))
    (apply Ret.det [0, 2]; (focus (first | exact .inl rfl | exact .inr rfl)); (focus (simp (maxSteps := 9999999) (disch := omega) only [go_sem, hr]; rfl)); (simp (maxSteps := 9999999) (disch := omega) only [go_sem, hr]; (try (repeat' (first | done | trivial | rfl | exact leAs_rfl _ | decide | (refine And.intro ?_ ?_) | (simp; done) | omega | (simp; decide))))))
end Go.Proofs.Ytodnlihbmgigjaa
