/- Contracts: the document's put and drop, and an act, where the document's list is only read: it is kept, or there is a new one. -/
import Derived.Test.YtodnlihbmgigjaaBt7
namespace Go.Proofs.Ytodnlihbmgigjaa
set_option linter.unusedSimpArgs false
set_option linter.unusedVariables false
set_option maxHeartbeats 4000000
open Go Go.Am Go.RowKit
set_option maxRecDepth 100000
theorem rputK_any (t : Tb) (k : ByteArray) (v : Int) (ht : t.ok) (hh : hasP' t.l k = false) (hfull : (t.l.length : Int) = t.room) : ACall Try.prog 37 [.agg [I t.room, .sl 0 0 t.l.length 2 none], .val (.string k), I v] [.cells true (Rp 0 t.l)] (Det (.tup [.agg [I t.room, .sl 0 0 t.l.length 2 none], I 7]) [.cells true (Rp 0 t.l)]) := by
  obtain ⟨r, l⟩ := t
  obtain ⟨hs, hl⟩ := ht
  simp only at hs hl hh hfull ⊢
  have c := rfind_any r l k hs hl
  have d := rrank_any r l k hs hl
  have hr := rp_ren 0
  have hlen := rp_len 0
  have hna := eq_true (rp_noAny l)
  have hrk := rankP_le l k
  have hL := hlen l
  have rL := hr l
  have hall := rp_all l (n := l.length * 2) rfl
  have hf : findP l k = -1 := by unfold findP; rw [hh]
  rw [hf] at c
  clear hh hf
  have t1 : (r ≤ (l.length : Int)) = True := eq_true (by omega)
  rcases Nat.eq_zero_or_pos l.length with h0 | h0
  · have t2 : (l.length ≤ 0) = True := eq_true (by omega)
    refine ACall.startA c37_ok Try.func37 rfl Try.ntmps37 (by kernel_rfl) res37_ok rfl rfl rfl ?_; simp (maxSteps := 9999999) (disch := omega) only [go_sem]
    (have k9 := And.intro @hna (And.intro @rL (And.intro @hL (And.intro @hall (And.intro @t1 (And.intro @t2 (k0)))))); (repeat' (first | refine AWpA.seq ?_ | refine AWpA.block ?_ | (with_reducible refine CondP.tt ?_) | (with_reducible refine CondP.ff ?_) | refine AWpA.cg ?_ | ((first | refine AWpA.rg ?_ | refine AWpA.dg [] [] follows ?_ | refine TailK.tg ?_ | refine AWpA.skip ?_ | refine AWpA.exit ?_ | refine AWpA.ret ?_ | (with_reducible refine ARoundsA.succ ?_) | ((first | refine Runs.gkt (fun h9 => ?_) | refine Runs.gkf (fun h9 => ?_) | refine Runs.gnt (fun h9 => ?_) | refine Runs.gnf (fun h9 => ?_) | refine CondP.gt (fun h9 => ?_) | refine CondP.gf (fun h9 => ?_) | refine CondP.gnt (fun h9 => ?_) | refine CondP.gnf (fun h9 => ?_)); (try simp only [h9]); clear h9) | refine CallG.pg [0] (c) ?_ | refine CallG.dg [0] (c) ?_); (try simp (maxSteps := 9999999) (disch := omega) only [go_sem, k9]); (try refine cnd ?_)) | ((first | refine CondP.split (fun hif => ?_) (fun hif => ?_) | refine Runs.part (fun hif => ?_) (fun hif => ?_)) <;> ((try simp only [hif]); (try simp only [BL] at hif); (try (have h9 : _ = true := hif; simp only [h9])); (try (have h9 : _ = false := hif; simp only [h9])); (try simp (maxSteps := 9999999) (disch := omega) only [go_sem, k9]); (try refine cnd ?_); (try (exfalso; omega; done)))))); (all_goals (try clear k9)))
    (apply Ret.det [0]; (focus (first | exact .inl rfl | exact .inr rfl)); (focus (simp (maxSteps := 9999999) (disch := omega) only [go_sem, rL]; rfl)); (simp (maxSteps := 9999999) (disch := omega) only [go_sem, rL]; (try (repeat' (first | done | trivial | rfl | exact leAs_rfl _ | decide | (refine And.intro ?_ ?_) | (simp; done) | omega | (simp; decide))))))
  · have t2 : (l.length ≤ 0) = False := eq_false (by omega)
    refine ACall.startA c37_ok Try.func37 rfl Try.ntmps37 (by kernel_rfl) res37_ok rfl rfl rfl ?_; simp (maxSteps := 9999999) (disch := omega) only [go_sem]
    (have k9 := And.intro @hna (And.intro @rL (And.intro @hL (And.intro @hall (And.intro @t1 (And.intro @t2 (k0)))))); (repeat' (first | refine AWpA.seq ?_ | refine AWpA.block ?_ | (with_reducible refine CondP.tt ?_) | (with_reducible refine CondP.ff ?_) | refine AWpA.cg ?_ | ((first | refine AWpA.rg ?_ | refine AWpA.dg [] [] follows ?_ | refine TailK.tg ?_ | refine AWpA.skip ?_ | refine AWpA.exit ?_ | refine AWpA.ret ?_ | (with_reducible refine ARoundsA.succ ?_) | ((first | refine Runs.gkt (fun h9 => ?_) | refine Runs.gkf (fun h9 => ?_) | refine Runs.gnt (fun h9 => ?_) | refine Runs.gnf (fun h9 => ?_) | refine CondP.gt (fun h9 => ?_) | refine CondP.gf (fun h9 => ?_) | refine CondP.gnt (fun h9 => ?_) | refine CondP.gnf (fun h9 => ?_)); (try simp only [h9]); clear h9) | refine CallG.pg [0] (c) ?_ | refine CallG.dg [0] (c) ?_); (try simp (maxSteps := 9999999) (disch := omega) only [go_sem, k9]); (try refine cnd ?_)) | ((first | refine CondP.split (fun hif => ?_) (fun hif => ?_) | refine Runs.part (fun hif => ?_) (fun hif => ?_)) <;> ((try simp only [hif]); (try simp only [BL] at hif); (try (have h9 : _ = true := hif; simp only [h9])); (try (have h9 : _ = false := hif; simp only [h9])); (try simp (maxSteps := 9999999) (disch := omega) only [go_sem, k9]); (try refine cnd ?_); (try (exfalso; omega; done)))))); (all_goals (try clear k9)))
    (apply Ret.det [0]; (focus (first | exact .inl rfl | exact .inr rfl)); (focus (simp (maxSteps := 9999999) (disch := omega) only [go_sem, rL]; rfl)); (simp (maxSteps := 9999999) (disch := omega) only [go_sem, rL]; (try (repeat' (first | done | trivial | rfl | exact leAs_rfl _ | decide | (refine And.intro ?_ ?_) | (simp; done) | omega | (simp; decide))))))
theorem rputN_any (t : Tb) (k : ByteArray) (v : Int) (ht : t.ok) (hroom : (t.l.length : Int) ≤ t.room) (hn : hasP' t.l k = false → ¬ (t.l.length : Int) = t.room) : ACall Try.prog 37 [.agg [I t.room, .sl 0 0 t.l.length 2 none], .val (.string k), I v] [.cells true (Rp 0 t.l)] (Det (.tup [.agg [I t.room, .sl 1 0 (putT t k v).l.length 2 none], I (putE t k)]) [.cells true (Rp 0 t.l), .cells false (Rp 0 (putT t k v).l)]) := by
  obtain ⟨r, l⟩ := t
  obtain ⟨hs, hl⟩ := ht
  simp only at hs hl hroom hn ⊢
  have c := rfind_any r l k hs hl
  have d := rrank_any r l k hs hl
  have hr := rp_ren 0
  have hlen := rp_len 0
  have hna := eq_true (rp_noAny l)
  have hrk := rankP_le l k
  have hL := hlen l
  have rL := hr l
  have hall := rp_all l (n := l.length * 2) rfl
  cases hh : hasP' l k with
  | true =>
    have hlt := hasP_lt hh
    have he : putE ⟨r, l⟩ k = 0 := by unfold putE; simp only [hh]; rfl
    have hp : (putT ⟨r, l⟩ k v).l = l.take (rankP l k) ++ ⟨k, v⟩ :: l.drop (rankP l k + 1) := by unfold putT putP; simp only [hh]; rfl
    have hf : findP l k = rankP l k := by unfold findP; rw [hh]
    have hw := rp_putv l (rankP l k) hlt v
    rw [hasP_key hh] at hw
    have hl' : (l.take (rankP l k) ++ (⟨k, v⟩ : Pi) :: l.drop (rankP l k + 1)).length = l.length := by simp; omega
    have t2 : (l.length ≤ 0) = False := eq_false (by omega)
    rw [hf] at c
    rw [he, hp, hl']
    have rN := hr (l.take (rankP l k) ++ (⟨k, v⟩ : Pi) :: l.drop (rankP l k + 1))
    generalize l.take (rankP l k) ++ (⟨k, v⟩ : Pi) :: l.drop (rankP l k + 1) = l' at *
    clear hp he hh hf
    generalize rankP l k = i at *
    have t1 : (0 ≤ (i : Int)) = True := eq_true (by omega)
    refine ACall.startA c37_ok Try.func37 rfl Try.ntmps37 (by kernel_rfl) res37_ok rfl rfl rfl ?_; simp (maxSteps := 9999999) (disch := omega) only [go_sem]
    (have k9 := And.intro @hna (And.intro @rL (And.intro @rN (And.intro @hL (And.intro @hall (And.intro @hw (And.intro @t1 (And.intro @t2 (k0)))))))); (repeat' (first | refine AWpA.seq ?_ | refine AWpA.block ?_ | (with_reducible refine CondP.tt ?_) | (with_reducible refine CondP.ff ?_) | refine AWpA.cg ?_ | ((first | refine AWpA.rg ?_ | refine AWpA.dg [] [] follows ?_ | refine TailK.tg ?_ | refine AWpA.skip ?_ | refine AWpA.exit ?_ | refine AWpA.ret ?_ | (with_reducible refine ARoundsA.succ ?_) | ((first | refine Runs.gkt (fun h9 => ?_) | refine Runs.gkf (fun h9 => ?_) | refine Runs.gnt (fun h9 => ?_) | refine Runs.gnf (fun h9 => ?_) | refine CondP.gt (fun h9 => ?_) | refine CondP.gf (fun h9 => ?_) | refine CondP.gnt (fun h9 => ?_) | refine CondP.gnf (fun h9 => ?_)); (try simp only [h9]); clear h9) | refine CallG.pg [0] (c) ?_ | refine CallG.dg [0] (c) ?_); (try simp (maxSteps := 9999999) (disch := omega) only [go_sem, k9]); (try refine cnd ?_)) | ((first | refine CondP.split (fun hif => ?_) (fun hif => ?_) | refine Runs.part (fun hif => ?_) (fun hif => ?_)) <;> ((try simp only [hif]); (try simp only [BL] at hif); (try (have h9 : _ = true := hif; simp only [h9])); (try (have h9 : _ = false := hif; simp only [h9])); (try simp (maxSteps := 9999999) (disch := omega) only [go_sem, k9]); (try refine cnd ?_); (try (exfalso; omega; done)))))); (all_goals (try clear k9)))
    (apply Ret.det [0, 97]; (focus (first | exact .inl rfl | exact .inr rfl)); (focus (simp (maxSteps := 9999999) (disch := omega) only [go_sem, rL, rN]; rfl)); (simp (maxSteps := 9999999) (disch := omega) only [go_sem, rL, rN]; (try (repeat' (first | done | trivial | rfl | exact leAs_rfl _ | decide | (refine And.intro ?_ ?_) | (simp; done) | omega | (simp; decide))))))
  | false =>
    have hf : findP l k = -1 := by unfold findP; rw [hh]
    rw [hf] at c
    by_cases hfull : (l.length : Int) = r
    · exact absurd hfull (hn hh)
    · have he : putE ⟨r, l⟩ k = 0 := by unfold putE; simp only [hh, decide_eq_false hfull]; rfl
      have hp : (putT ⟨r, l⟩ k v).l = l.take (rankP l k) ++ ⟨k, v⟩ :: l.drop (rankP l k) := by unfold putT putP; simp only [hh, decide_eq_false hfull]; rfl
      have hl' : (l.take (rankP l k) ++ (⟨k, v⟩ : Pi) :: l.drop (rankP l k)).length = l.length + 1 := by simp; omega
      rw [he, hp, hl', rp_ins]
      clear hp he hh hf hl'
      generalize rankP l k = i at *
      have q1 := rp_take l i (n := i * 2) rfl (by omega)
      have q2 := rp_drop l i (n := i * 2) rfl (by omega)
      have hX := rp_lenT l i (by omega)
      have hY := hlen (l.drop i)
      rw [List.length_drop] at hY
      have rX := hr (l.take i)
      have rY := hr (l.drop i)
      generalize Rp 0 (l.take i) = X at *
      generalize Rp 0 (l.drop i) = Y at *
      obtain ⟨m, hm⟩ : ∃ m, l.length = i + m := ⟨l.length - i, by omega⟩
      have t1 : (r ≤ (l.length : Int)) = False := eq_false (by omega)
      have t3 : l.length - i = m := by omega
      rw [t3] at hY
      have q3 : List.take (m * 2) Y = Y := List.take_of_length_le (by omega)
      have q6 : List.take (i * 2) X = X := List.take_of_length_le (by omega)
      have q7 : ∀ a b : AV, List.take ((i + 1) * 2) (X ++ [a, b]) = X ++ [a, b] := fun a b => List.take_of_length_le (by simp; omega)
      have hXl : ∀ a b : AV, (X ++ [a, b]).length = (i + 1) * 2 := fun a b => by simp; omega
      have t4 : i + 1 + m = l.length + 1 := by omega
      have p0 : l.length ≤ 0 ↔ l.length = 0 := by omega
      have p1 : i ≤ 0 ↔ i = 0 := by omega
      rcases Nat.eq_zero_or_pos l.length with h0 | h0
      · have p2 : (l.length = 0) = True := eq_true h0
        have p3 : (i = 0) = True := eq_true (by omega)
        refine ACall.startA c37_ok Try.func37 rfl Try.ntmps37 (by kernel_rfl) res37_ok rfl rfl rfl ?_; simp (maxSteps := 9999999) (disch := omega) only [go_sem]
        (have k9 := And.intro @hna (And.intro @rL (And.intro @hL (And.intro @hall (And.intro @rX (And.intro @rY (And.intro @hX (And.intro @hY (And.intro @hXl (And.intro @t1 (And.intro @t3 (And.intro @t4 (And.intro @q1 (And.intro @q2 (And.intro @q3 (And.intro @q6 (And.intro @p0 (And.intro @p1 (And.intro @p2 (And.intro @p3 (And.intro @renL_append (k0))))))))))))))))))))); (repeat' (first | refine AWpA.seq ?_ | refine AWpA.block ?_ | (with_reducible refine CondP.tt ?_) | (with_reducible refine CondP.ff ?_) | refine AWpA.cg ?_ | ((first | refine AWpA.rg ?_ | refine AWpA.dg [] [] follows ?_ | refine TailK.tg ?_ | refine AWpA.skip ?_ | refine AWpA.exit ?_ | refine AWpA.ret ?_ | (with_reducible refine ARoundsA.succ ?_) | ((first | refine Runs.gkt (fun h9 => ?_) | refine Runs.gkf (fun h9 => ?_) | refine Runs.gnt (fun h9 => ?_) | refine Runs.gnf (fun h9 => ?_) | refine CondP.gt (fun h9 => ?_) | refine CondP.gf (fun h9 => ?_) | refine CondP.gnt (fun h9 => ?_) | refine CondP.gnf (fun h9 => ?_)); (try simp only [h9]); clear h9) | refine CallG.pg [0] (c) ?_ | refine CallG.pg [0] (d) ?_ | refine CallG.dg [0] (c) ?_ | refine CallG.dg [0] (d) ?_); (try simp (maxSteps := 9999999) (disch := omega) only [go_sem, k9]); (try refine cnd ?_)) | ((first | refine CondP.split (fun hif => ?_) (fun hif => ?_) | refine Runs.part (fun hif => ?_) (fun hif => ?_)) <;> ((try simp only [hif]); (try simp only [BL] at hif); (try (have h9 : _ = true := hif; simp only [h9])); (try (have h9 : _ = false := hif; simp only [h9])); (try simp (maxSteps := 9999999) (disch := omega) only [go_sem, k9]); (try refine cnd ?_); (try (exfalso; omega; done)))))); (all_goals (try clear k9)))
        rw [q7]
        (apply Ret.det [0, 641]; (focus (first | exact .inl rfl | exact .inr rfl)); (focus (simp (maxSteps := 9999999) (disch := omega) only [go_sem, rL, rX, rY, renL_append]; rfl)); (simp (maxSteps := 9999999) (disch := omega) only [go_sem, rL, rX, rY, renL_append]; (try (repeat' (first | done | trivial | rfl | exact leAs_rfl _ | decide | (refine And.intro ?_ ?_) | (simp; done) | omega | (simp; decide))))))
      · have p2 : (l.length = 0) = False := eq_false (by omega)
        rcases Nat.eq_zero_or_pos i with hi0 | hi0
        · have p3 : (i = 0) = True := eq_true hi0
          refine ACall.startA c37_ok Try.func37 rfl Try.ntmps37 (by kernel_rfl) res37_ok rfl rfl rfl ?_; simp (maxSteps := 9999999) (disch := omega) only [go_sem]
          (have k9 := And.intro @hna (And.intro @rL (And.intro @hL (And.intro @hall (And.intro @rX (And.intro @rY (And.intro @hX (And.intro @hY (And.intro @hXl (And.intro @t1 (And.intro @t3 (And.intro @t4 (And.intro @q1 (And.intro @q2 (And.intro @q3 (And.intro @q6 (And.intro @p0 (And.intro @p1 (And.intro @p2 (And.intro @p3 (And.intro @renL_append (k0))))))))))))))))))))); (repeat' (first | refine AWpA.seq ?_ | refine AWpA.block ?_ | (with_reducible refine CondP.tt ?_) | (with_reducible refine CondP.ff ?_) | refine AWpA.cg ?_ | ((first | refine AWpA.rg ?_ | refine AWpA.dg [] [] follows ?_ | refine TailK.tg ?_ | refine AWpA.skip ?_ | refine AWpA.exit ?_ | refine AWpA.ret ?_ | (with_reducible refine ARoundsA.succ ?_) | ((first | refine Runs.gkt (fun h9 => ?_) | refine Runs.gkf (fun h9 => ?_) | refine Runs.gnt (fun h9 => ?_) | refine Runs.gnf (fun h9 => ?_) | refine CondP.gt (fun h9 => ?_) | refine CondP.gf (fun h9 => ?_) | refine CondP.gnt (fun h9 => ?_) | refine CondP.gnf (fun h9 => ?_)); (try simp only [h9]); clear h9) | refine CallG.pg [0] (c) ?_ | refine CallG.pg [0] (d) ?_ | refine CallG.dg [0] (c) ?_ | refine CallG.dg [0] (d) ?_); (try simp (maxSteps := 9999999) (disch := omega) only [go_sem, k9]); (try refine cnd ?_)) | ((first | refine CondP.split (fun hif => ?_) (fun hif => ?_) | refine Runs.part (fun hif => ?_) (fun hif => ?_)) <;> ((try simp only [hif]); (try simp only [BL] at hif); (try (have h9 : _ = true := hif; simp only [h9])); (try (have h9 : _ = false := hif; simp only [h9])); (try simp (maxSteps := 9999999) (disch := omega) only [go_sem, k9]); (try refine cnd ?_); (try (exfalso; omega; done)))))); (all_goals (try clear k9)))
          rw [q7]
          (apply Ret.det [0, 641]; (focus (first | exact .inl rfl | exact .inr rfl)); (focus (simp (maxSteps := 9999999) (disch := omega) only [go_sem, rL, rX, rY, renL_append]; rfl)); (simp (maxSteps := 9999999) (disch := omega) only [go_sem, rL, rX, rY, renL_append]; (try (repeat' (first | done | trivial | rfl | exact leAs_rfl _ | decide | (refine And.intro ?_ ?_) | (simp; done) | omega | (simp; decide))))))
        · have p3 : (i = 0) = False := eq_false (by omega)
          refine ACall.startA c37_ok Try.func37 rfl Try.ntmps37 (by kernel_rfl) res37_ok rfl rfl rfl ?_; simp (maxSteps := 9999999) (disch := omega) only [go_sem]
          (have k9 := And.intro @hna (And.intro @rL (And.intro @hL (And.intro @hall (And.intro @rX (And.intro @rY (And.intro @hX (And.intro @hY (And.intro @hXl (And.intro @t1 (And.intro @t3 (And.intro @t4 (And.intro @q1 (And.intro @q2 (And.intro @q3 (And.intro @q6 (And.intro @p0 (And.intro @p1 (And.intro @p2 (And.intro @p3 (And.intro @renL_append (k0))))))))))))))))))))); (repeat' (first | refine AWpA.seq ?_ | refine AWpA.block ?_ | (with_reducible refine CondP.tt ?_) | (with_reducible refine CondP.ff ?_) | refine AWpA.cg ?_ | ((first | refine AWpA.rg ?_ | refine AWpA.dg [] [] follows ?_ | refine TailK.tg ?_ | refine AWpA.skip ?_ | refine AWpA.exit ?_ | refine AWpA.ret ?_ | (with_reducible refine ARoundsA.succ ?_) | ((first | refine Runs.gkt (fun h9 => ?_) | refine Runs.gkf (fun h9 => ?_) | refine Runs.gnt (fun h9 => ?_) | refine Runs.gnf (fun h9 => ?_) | refine CondP.gt (fun h9 => ?_) | refine CondP.gf (fun h9 => ?_) | refine CondP.gnt (fun h9 => ?_) | refine CondP.gnf (fun h9 => ?_)); (try simp only [h9]); clear h9) | refine CallG.pg [0] (c) ?_ | refine CallG.pg [0] (d) ?_ | refine CallG.dg [0] (c) ?_ | refine CallG.dg [0] (d) ?_); (try simp (maxSteps := 9999999) (disch := omega) only [go_sem, k9]); (try refine cnd ?_)) | ((first | refine CondP.split (fun hif => ?_) (fun hif => ?_) | refine Runs.part (fun hif => ?_) (fun hif => ?_)) <;> ((try simp only [hif]); (try simp only [BL] at hif); (try (have h9 : _ = true := hif; simp only [h9])); (try (have h9 : _ = false := hif; simp only [h9])); (try simp (maxSteps := 9999999) (disch := omega) only [go_sem, k9]); (try refine cnd ?_); (try (exfalso; omega; done)))))); (all_goals (try clear k9)))
          rw [q7]
          (apply Ret.det [0, 641]; (focus (first | exact .inl rfl | exact .inr rfl)); (focus (simp (maxSteps := 9999999) (disch := omega) only [go_sem, rL, rX, rY, renL_append]; rfl)); (simp (maxSteps := 9999999) (disch := omega) only [go_sem, rL, rX, rY, renL_append]; (try (repeat' (first | done | trivial | rfl | exact leAs_rfl _ | decide | (refine And.intro ?_ ?_) | (simp; done) | omega | (simp; decide))))))
theorem rdropK_any (r : Int) (l : List Pi) (k : ByteArray) (hs : Rise l) (hl : l.length ≤ 1099511627776) (hh : hasP' l k = false) : ACall Try.prog 38 [.agg [I r, .sl 0 0 l.length 2 none], .val (.string k)] [.cells true (Rp 0 l)] (Det (.tup [.agg [I r, .sl 0 0 l.length 2 none], Bo false]) [.cells true (Rp 0 l)]) := by
  have c := rfind_any r l k hs hl
  have hr := rp_ren 0
  have hlen := rp_len 0
  have hna := eq_true (rp_noAny l)
  have hf : findP l k = -1 := by unfold findP; rw [hh]
  rw [hf] at c
  clear hf hh
  refine ACall.startA c38_ok Try.func38 rfl Try.ntmps38 (by kernel_rfl) res38_ok rfl rfl rfl ?_; simp (maxSteps := 9999999) (disch := omega) only [go_sem]
  (have k9 := And.intro @hna (And.intro @hr (k0)); (repeat' (first | refine AWpA.seq ?_ | refine AWpA.block ?_ | (with_reducible refine CondP.tt ?_) | (with_reducible refine CondP.ff ?_) | refine AWpA.cg ?_ | ((first | refine AWpA.rg ?_ | refine AWpA.dg [] [] follows ?_ | refine TailK.tg ?_ | refine AWpA.skip ?_ | refine AWpA.exit ?_ | refine AWpA.ret ?_ | (with_reducible refine ARoundsA.succ ?_) | ((first | refine Runs.gkt (fun h9 => ?_) | refine Runs.gkf (fun h9 => ?_) | refine Runs.gnt (fun h9 => ?_) | refine Runs.gnf (fun h9 => ?_) | refine CondP.gt (fun h9 => ?_) | refine CondP.gf (fun h9 => ?_) | refine CondP.gnt (fun h9 => ?_) | refine CondP.gnf (fun h9 => ?_)); (try simp only [h9]); clear h9) | refine CallG.pg [0] (c) ?_ | refine CallG.dg [0] (c) ?_); (try simp (maxSteps := 9999999) (disch := omega) only [go_sem, k9]); (try refine cnd ?_)) | ((first | refine CondP.split (fun hif => ?_) (fun hif => ?_) | refine Runs.part (fun hif => ?_) (fun hif => ?_)) <;> ((try simp only [hif]); (try simp only [BL] at hif); (try (have h9 : _ = true := hif; simp only [h9])); (try (have h9 : _ = false := hif; simp only [h9])); (try simp (maxSteps := 9999999) (disch := omega) only [go_sem, k9]); (try refine cnd ?_); (try (exfalso; omega; done)))))); (all_goals (try clear k9)))
  (apply Ret.det [0]; (focus (first | exact .inl rfl | exact .inr rfl)); (focus (simp (maxSteps := 9999999) (disch := omega) only [go_sem, hr]; rfl)); (simp (maxSteps := 9999999) (disch := omega) only [go_sem, hr]; (try (repeat' (first | done | trivial | rfl | exact leAs_rfl _ | decide | (refine And.intro ?_ ?_) | (simp; done) | omega | (simp; decide))))))
theorem rdropN_any (r : Int) (l : List Pi) (k : ByteArray) (hs : Rise l) (hl : l.length ≤ 1099511627776) (hh : hasP' l k = true) : ACall Try.prog 38 [.agg [I r, .sl 0 0 l.length 2 none], .val (.string k)] [.cells true (Rp 0 l)] (Det (.tup [.agg [I r, .sl 1 0 (dropP l k).length 2 none], Bo true]) [.cells true (Rp 0 l), .cells false (Rp 0 (dropP l k))]) := by
  have c := rfind_any r l k hs hl
  have hr := rp_ren 0
  have hlen := rp_len 0
  have hna := eq_true (rp_noAny l)
  have hlt := hasP_lt hh
  have hd : dropP l k = l.take (rankP l k) ++ l.drop (rankP l k + 1) := by unfold dropP; rw [hh]
  have hf : findP l k = rankP l k := by unfold findP; rw [hh]
  have hl' : (l.take (rankP l k) ++ l.drop (rankP l k + 1)).length = l.length - 1 := by simp; omega
  rw [hf] at c
  rw [hd, hl', rp_app]
  clear hd hf hh
  generalize rankP l k = i at *
  have q1 := rp_take l i (n := i * 2) rfl (by omega)
  have q2 := rp_drop l (i + 1) (n := (i + 1) * 2) rfl (by omega)
  have hX := rp_lenT l i (by omega)
  have hY := hlen (l.drop (i + 1))
  rw [List.length_drop] at hY
  have rX := hr (l.take i)
  have rY := hr (l.drop (i + 1))
  have hL := hlen l
  have rL := hr l
  have nX := eq_true (rp_noAny (l.take i))
  have nY := eq_true (rp_noAny (l.drop (i + 1)))
  generalize Rp 0 (l.take i) = X at *
  generalize Rp 0 (l.drop (i + 1)) = Y at *
  obtain ⟨m, hm⟩ : ∃ m, l.length = i + m + 1 := ⟨l.length - i - 1, by omega⟩
  have t1 : ((i : Int) + 1).toNat = i + 1 := by omega
  have t2 : ((i : Int) < 0) = False := eq_false (by omega)
  have t3 : l.length - (i + 1) = m := by omega
  have t4 : l.length - 1 = i + m := by omega
  rw [t3] at hY
  have q3 : List.take (m * 2) Y = Y := List.take_of_length_le (by omega)
  have p0 : i ≤ 0 ↔ i = 0 := by omega
  have p1 : i + m ≤ i ↔ m = 0 := by omega
  refine ACall.startA c38_ok Try.func38 rfl Try.ntmps38 (by kernel_rfl) res38_ok rfl rfl rfl ?_; simp (maxSteps := 9999999) (disch := omega) only [go_sem]
  rcases Nat.eq_zero_or_pos i with hi0 | hi0
  · have p2 : (i = 0) = True := eq_true hi0
    rcases Nat.eq_zero_or_pos m with hm0 | hm0
    · have p3 : i + m ≤ 0 := by omega
      (have k9 := And.intro @hna (And.intro @nX (And.intro @nY (And.intro @rX (And.intro @rY (And.intro @rL (And.intro @hX (And.intro @hY (And.intro @hL (And.intro @t1 (And.intro @t2 (And.intro @t3 (And.intro @t4 (And.intro @q1 (And.intro @q2 (And.intro @q3 (And.intro @p0 (And.intro @p2 (And.intro @p3 (And.intro @renL_append (k0)))))))))))))))))))); (repeat' (first | refine AWpA.seq ?_ | refine AWpA.block ?_ | (with_reducible refine CondP.tt ?_) | (with_reducible refine CondP.ff ?_) | refine AWpA.cg ?_ | ((first | refine AWpA.rg ?_ | refine AWpA.dg [] [] follows ?_ | refine TailK.tg ?_ | refine AWpA.skip ?_ | refine AWpA.exit ?_ | refine AWpA.ret ?_ | (with_reducible refine ARoundsA.succ ?_) | ((first | refine Runs.gkt (fun h9 => ?_) | refine Runs.gkf (fun h9 => ?_) | refine Runs.gnt (fun h9 => ?_) | refine Runs.gnf (fun h9 => ?_) | refine CondP.gt (fun h9 => ?_) | refine CondP.gf (fun h9 => ?_) | refine CondP.gnt (fun h9 => ?_) | refine CondP.gnf (fun h9 => ?_)); (try simp only [h9]); clear h9) | refine CallG.pg [0] (c) ?_ | refine CallG.dg [0] (c) ?_); (try simp (maxSteps := 9999999) (disch := omega) only [go_sem, k9]); (try refine cnd ?_)) | ((first | refine CondP.split (fun hif => ?_) (fun hif => ?_) | refine Runs.part (fun hif => ?_) (fun hif => ?_)) <;> ((try simp only [hif]); (try simp only [BL] at hif); (try (have h9 : _ = true := hif; simp only [h9])); (try (have h9 : _ = false := hif; simp only [h9])); (try simp (maxSteps := 9999999) (disch := omega) only [go_sem, k9]); (try refine cnd ?_); (try (exfalso; omega; done)))))); (all_goals (try clear k9)))
      have q6 : List.take (i * 2) X = X := List.take_of_length_le (by omega)
      have q7 : List.drop ((i + m) * 2) X = [] := List.drop_of_length_le (by omega)
      rw [q6, q7, List.append_nil]
      (apply Ret.det [0, 177]; (focus (first | exact .inl rfl | exact .inr rfl)); (focus (simp (maxSteps := 9999999) (disch := omega) only [go_sem, rL, rX, rY, renL_append]; rfl)); (simp (maxSteps := 9999999) (disch := omega) only [go_sem, rL, rX, rY, renL_append]; (try (repeat' (first | done | trivial | rfl | exact leAs_rfl _ | decide | (refine And.intro ?_ ?_) | (simp; done) | omega | (simp; decide))))))
    · have p3 : i + m ≤ 0 ↔ False := iff_false_intro (by omega)
      (have k9 := And.intro @hna (And.intro @nX (And.intro @nY (And.intro @rX (And.intro @rY (And.intro @rL (And.intro @hX (And.intro @hY (And.intro @hL (And.intro @t1 (And.intro @t2 (And.intro @t3 (And.intro @t4 (And.intro @q1 (And.intro @q2 (And.intro @q3 (And.intro @p0 (And.intro @p2 (And.intro @p3 (And.intro @renL_append (k0)))))))))))))))))))); (repeat' (first | refine AWpA.seq ?_ | refine AWpA.block ?_ | (with_reducible refine CondP.tt ?_) | (with_reducible refine CondP.ff ?_) | refine AWpA.cg ?_ | ((first | refine AWpA.rg ?_ | refine AWpA.dg [] [] follows ?_ | refine TailK.tg ?_ | refine AWpA.skip ?_ | refine AWpA.exit ?_ | refine AWpA.ret ?_ | (with_reducible refine ARoundsA.succ ?_) | ((first | refine Runs.gkt (fun h9 => ?_) | refine Runs.gkf (fun h9 => ?_) | refine Runs.gnt (fun h9 => ?_) | refine Runs.gnf (fun h9 => ?_) | refine CondP.gt (fun h9 => ?_) | refine CondP.gf (fun h9 => ?_) | refine CondP.gnt (fun h9 => ?_) | refine CondP.gnf (fun h9 => ?_)); (try simp only [h9]); clear h9) | refine CallG.pg [0] (c) ?_ | refine CallG.dg [0] (c) ?_); (try simp (maxSteps := 9999999) (disch := omega) only [go_sem, k9]); (try refine cnd ?_)) | ((first | refine CondP.split (fun hif => ?_) (fun hif => ?_) | refine Runs.part (fun hif => ?_) (fun hif => ?_)) <;> ((try simp only [hif]); (try simp only [BL] at hif); (try (have h9 : _ = true := hif; simp only [h9])); (try (have h9 : _ = false := hif; simp only [h9])); (try simp (maxSteps := 9999999) (disch := omega) only [go_sem, k9]); (try refine cnd ?_); (try (exfalso; omega; done)))))); (all_goals (try clear k9)))
      have q6 : List.take (i * 2) X = X := List.take_of_length_le (by omega)
      rw [q6]
      (apply Ret.det [0, 353]; (focus (first | exact .inl rfl | exact .inr rfl)); (focus (simp (maxSteps := 9999999) (disch := omega) only [go_sem, rL, rX, rY, renL_append]; rfl)); (simp (maxSteps := 9999999) (disch := omega) only [go_sem, rL, rX, rY, renL_append]; (try (repeat' (first | done | trivial | rfl | exact leAs_rfl _ | decide | (refine And.intro ?_ ?_) | (simp; done) | omega | (simp; decide))))))
  · have p2 : (i = 0) = False := eq_false (by omega)
    (have k9 := And.intro @hna (And.intro @nX (And.intro @nY (And.intro @rX (And.intro @rY (And.intro @rL (And.intro @hX (And.intro @hY (And.intro @hL (And.intro @t1 (And.intro @t2 (And.intro @t3 (And.intro @t4 (And.intro @q1 (And.intro @q2 (And.intro @q3 (And.intro @p0 (And.intro @p2 (And.intro @renL_append (k0))))))))))))))))))); (repeat' (first | refine AWpA.seq ?_ | refine AWpA.block ?_ | (with_reducible refine CondP.tt ?_) | (with_reducible refine CondP.ff ?_) | refine AWpA.cg ?_ | ((first | refine AWpA.rg ?_ | refine AWpA.dg [] [] follows ?_ | refine TailK.tg ?_ | refine AWpA.skip ?_ | refine AWpA.exit ?_ | refine AWpA.ret ?_ | (with_reducible refine ARoundsA.succ ?_) | ((first | refine Runs.gkt (fun h9 => ?_) | refine Runs.gkf (fun h9 => ?_) | refine Runs.gnt (fun h9 => ?_) | refine Runs.gnf (fun h9 => ?_) | refine CondP.gt (fun h9 => ?_) | refine CondP.gf (fun h9 => ?_) | refine CondP.gnt (fun h9 => ?_) | refine CondP.gnf (fun h9 => ?_)); (try simp only [h9]); clear h9) | refine CallG.pg [0] (c) ?_ | refine CallG.dg [0] (c) ?_); (try simp (maxSteps := 9999999) (disch := omega) only [go_sem, k9]); (try refine cnd ?_)) | ((first | refine CondP.split (fun hif => ?_) (fun hif => ?_) | refine Runs.part (fun hif => ?_) (fun hif => ?_)) <;> ((try simp only [hif]); (try simp only [BL] at hif); (try (have h9 : _ = true := hif; simp only [h9])); (try (have h9 : _ = false := hif; simp only [h9])); (try simp (maxSteps := 9999999) (disch := omega) only [go_sem, k9]); (try refine cnd ?_); (try (exfalso; omega; done)))))); (all_goals (try clear k9)))
    have q6 : List.take (i * 2) X = X := List.take_of_length_le (by omega)
    rw [q6]
    (apply Ret.det [0, 353]; (focus (first | exact .inl rfl | exact .inr rfl)); (focus (simp (maxSteps := 9999999) (disch := omega) only [go_sem, rL, rX, rY, renL_append]; rfl)); (simp (maxSteps := 9999999) (disch := omega) only [go_sem, rL, rX, rY, renL_append]; (try (repeat' (first | done | trivial | rfl | exact leAs_rfl _ | decide | (refine And.intro ?_ ?_) | (simp; done) | omega | (simp; decide))))))
/-- Does an act leave the document's table as it is? -/
def keepB (t : Tb) (kind : Int) (k : ByteArray) : Bool := if kind = 0 then !hasP' t.l k && decide ((t.l.length : Int) = t.room) else if kind = 1 then !hasP' t.l k else true
theorem keep_act {t : Tb} {kind v : Int} {k : ByteArray} (h : keepB t kind k = true) : actT t kind v k = t := by
  unfold keepB at h
  unfold actT
  by_cases h0 : kind = 0
  · rw [if_pos h0] at h ⊢
    unfold putT
    rw [h]
  · rw [if_neg h0] at h ⊢
    by_cases h1 : kind = 1
    · rw [if_pos h1] at h ⊢
      unfold dropP
      rw [show hasP' t.l k = false by simpa using h]
    · rw [if_neg h1]
theorem doK_any (t : Tb) (kind v N : Int) (k q : ByteArray) (ht : t.ok) (hk : keepB t kind k = true) : ACall Try.prog 21 [.ptr 0 0, .agg [I t.room, .sl 2 0 t.l.length 2 none], .agg [I kind, I v, .val (.string k), .val (.string q), I N]] [TbO 1 t, .cells false (Rp 0 t.l), .cells true (Rp 0 t.l)]
    (Det (.tup [.agg [I t.room, .sl 2 0 t.l.length 2 none], Bo true]) [TbO 3 t, .gone, .cells true (Rp 0 t.l), .cells false (Rp 0 t.l)]) := by
  have hr := rp_ren 0
  unfold keepB at hk
  by_cases h0 : kind = 0
  · subst h0
    rw [if_pos rfl] at hk
    have e : putT t k v = t := by unfold putT; rw [hk]
    have e7 : putE t k = 7 := by unfold putE; rw [hk]
    rw [Bool.and_eq_true, Bool.not_eq_true', decide_eq_true_eq] at hk
    have c := rputK_any t k v ht hk.1 hk.2
    have d := tput_any t k v ht
    rw [e, e7] at d
    clear e e7 hk
    refine ACall.startA c21_ok Try.func21 rfl Try.ntmps21 (by kernel_rfl) res21_ok rfl rfl rfl ?_; simp (maxSteps := 9999999) (disch := omega) only [go_sem]
    (have k9 := And.intro @hr (k0); (repeat' (first | refine AWpA.seq ?_ | refine AWpA.block ?_ | (with_reducible refine CondP.tt ?_) | (with_reducible refine CondP.ff ?_) | refine AWpA.cg ?_ | ((first | refine AWpA.rg ?_ | refine AWpA.dg [0, 1] [] follows ?_ | refine TailK.tg ?_ | refine AWpA.skip ?_ | refine AWpA.exit ?_ | refine AWpA.ret ?_ | (with_reducible refine ARoundsA.succ ?_) | ((first | refine Runs.gkt (fun h9 => ?_) | refine Runs.gkf (fun h9 => ?_) | refine Runs.gnt (fun h9 => ?_) | refine Runs.gnf (fun h9 => ?_) | refine CondP.gt (fun h9 => ?_) | refine CondP.gf (fun h9 => ?_) | refine CondP.gnt (fun h9 => ?_) | refine CondP.gnf (fun h9 => ?_)); (try simp only [h9]); clear h9) | refine CallG.pg [2] (c) ?_ | refine CallG.pg [0, 1] (d) ?_ | refine CallG.dg [2] (c) ?_ | refine CallG.dg [0, 1] (d) ?_); (try simp (maxSteps := 9999999) (disch := omega) only [go_sem, k9]); (try refine cnd ?_)) | ((first | refine CondP.split (fun hif => ?_) (fun hif => ?_) | refine Runs.part (fun hif => ?_) (fun hif => ?_)) <;> ((try simp only [hif]); (try simp only [BL] at hif); (try (have h9 : _ = true := hif; simp only [h9])); (try (have h9 : _ = false := hif; simp only [h9])); (try simp (maxSteps := 9999999) (disch := omega) only [go_sem, k9]); (try refine cnd ?_); (try (exfalso; omega; done)))))); (all_goals (try clear k9)))
    (apply Ret.det [0, 1, 2, 419]; (focus (first | exact .inl rfl | exact .inr rfl)); (focus (simp (maxSteps := 9999999) (disch := omega) only [go_sem, hr]; rfl)); (simp (maxSteps := 9999999) (disch := omega) only [go_sem, hr]; (try (repeat' (first | done | trivial | rfl | exact leAs_rfl _ | decide | (refine And.intro ?_ ?_) | (simp; done) | omega | (simp; decide))))))
  · have g0 : (kind = 0) = False := eq_false h0
    rw [if_neg h0] at hk
    by_cases h1 : kind = 1
    · subst h1
      rw [if_pos rfl] at hk
      have hh : hasP' t.l k = false := by simpa using hk
      have e : dropP t.l k = t.l := by unfold dropP; rw [hh]
      have c := rdropK_any t.room t.l k ht.1 ht.2 hh
      have d := tdrop_any t k ht
      rw [e, hh] at d
      clear e h0 g0 hh hk
      refine ACall.startA c21_ok Try.func21 rfl Try.ntmps21 (by kernel_rfl) res21_ok rfl rfl rfl ?_; simp (maxSteps := 9999999) (disch := omega) only [go_sem]
      (have k9 := And.intro @hr (k0); (repeat' (first | refine AWpA.seq ?_ | refine AWpA.block ?_ | (with_reducible refine CondP.tt ?_) | (with_reducible refine CondP.ff ?_) | refine AWpA.cg ?_ | ((first | refine AWpA.rg ?_ | refine AWpA.dg [0, 1] [] follows ?_ | refine TailK.tg ?_ | refine AWpA.skip ?_ | refine AWpA.exit ?_ | refine AWpA.ret ?_ | (with_reducible refine ARoundsA.succ ?_) | ((first | refine Runs.gkt (fun h9 => ?_) | refine Runs.gkf (fun h9 => ?_) | refine Runs.gnt (fun h9 => ?_) | refine Runs.gnf (fun h9 => ?_) | refine CondP.gt (fun h9 => ?_) | refine CondP.gf (fun h9 => ?_) | refine CondP.gnt (fun h9 => ?_) | refine CondP.gnf (fun h9 => ?_)); (try simp only [h9]); clear h9) | refine CallG.pg [2] (c) ?_ | refine CallG.pg [0, 1] (d) ?_ | refine CallG.dg [2] (c) ?_ | refine CallG.dg [0, 1] (d) ?_); (try simp (maxSteps := 9999999) (disch := omega) only [go_sem, k9]); (try refine cnd ?_)) | ((first | refine CondP.split (fun hif => ?_) (fun hif => ?_) | refine Runs.part (fun hif => ?_) (fun hif => ?_)) <;> ((try simp only [hif]); (try simp only [BL] at hif); (try (have h9 : _ = true := hif; simp only [h9])); (try (have h9 : _ = false := hif; simp only [h9])); (try simp (maxSteps := 9999999) (disch := omega) only [go_sem, k9]); (try refine cnd ?_); (try (exfalso; omega; done)))))); (all_goals (try clear k9)))
      (apply Ret.det [0, 1, 2, 387]; (focus (first | exact .inl rfl | exact .inr rfl)); (focus (simp (maxSteps := 9999999) (disch := omega) only [go_sem, hr]; rfl)); (simp (maxSteps := 9999999) (disch := omega) only [go_sem, hr]; (try (repeat' (first | done | trivial | rfl | exact leAs_rfl _ | decide | (refine And.intro ?_ ?_) | (simp; done) | omega | (simp; decide))))))
    · have g1 : (kind = 1) = False := eq_false h1
      clear hk
      refine ACall.startA c21_ok Try.func21 rfl Try.ntmps21 (by kernel_rfl) res21_ok rfl rfl rfl ?_; simp (maxSteps := 9999999) (disch := omega) only [go_sem]
      (have k9 := And.intro @hr (And.intro @g0 (And.intro @g1 (k0))); (repeat' (first | refine AWpA.seq ?_ | refine AWpA.block ?_ | (with_reducible refine CondP.tt ?_) | (with_reducible refine CondP.ff ?_) | refine AWpA.cg ?_ | ((first | refine AWpA.rg ?_ | refine AWpA.dg [] [] follows ?_ | refine TailK.tg ?_ | refine AWpA.skip ?_ | refine AWpA.exit ?_ | refine AWpA.ret ?_ | (with_reducible refine ARoundsA.succ ?_) | ((first | refine Runs.gkt (fun h9 => ?_) | refine Runs.gkf (fun h9 => ?_) | refine Runs.gnt (fun h9 => ?_) | refine Runs.gnf (fun h9 => ?_) | refine CondP.gt (fun h9 => ?_) | refine CondP.gf (fun h9 => ?_) | refine CondP.gnt (fun h9 => ?_) | refine CondP.gnf (fun h9 => ?_)); (try simp only [h9]); clear h9)); (try simp (maxSteps := 9999999) (disch := omega) only [go_sem, k9]); (try refine cnd ?_)) | ((first | refine CondP.split (fun hif => ?_) (fun hif => ?_) | refine Runs.part (fun hif => ?_) (fun hif => ?_)) <;> ((try simp only [hif]); (try simp only [BL] at hif); (try (have h9 : _ = true := hif; simp only [h9])); (try (have h9 : _ = false := hif; simp only [h9])); (try simp (maxSteps := 9999999) (disch := omega) only [go_sem, k9]); (try refine cnd ?_); (try (exfalso; omega; done)))))); (all_goals (try clear k9)))
      (apply Ret.det [0, 1, 2, 1]; (focus (first | exact .inl rfl | exact .inr rfl)); (focus (simp (maxSteps := 9999999) (disch := omega) only [go_sem, hr]; rfl)); (simp (maxSteps := 9999999) (disch := omega) only [go_sem, hr]; (try (repeat' (first | done | trivial | rfl | exact leAs_rfl _ | decide | (refine And.intro ?_ ?_) | (simp; done) | omega | (simp; decide))))))
theorem doN_any (t : Tb) (kind v N : Int) (k q : ByteArray) (ht : t.ok) (hroom : (t.l.length : Int) ≤ t.room) (hk : keepB t kind k = false) : ACall Try.prog 21 [.ptr 0 0, .agg [I t.room, .sl 2 0 t.l.length 2 none], .agg [I kind, I v, .val (.string k), .val (.string q), I N]] [TbO 1 t, .cells false (Rp 0 t.l), .cells true (Rp 0 t.l)]
    (Det (.tup [.agg [I (actT t kind v k).room, .sl 4 0 (actT t kind v k).l.length 2 none], Bo true]) [TbO 3 (actT t kind v k), .gone, .cells true (Rp 0 t.l), .cells false (Rp 0 (actT t kind v k).l), .cells false (Rp 0 (actT t kind v k).l)]) := by
  have hr := rp_ren 0
  unfold keepB at hk
  by_cases h0 : kind = 0
  · subst h0
    rw [if_pos rfl] at hk
    have e : actT t 0 v k = putT t k v := by unfold actT; simp
    have er : (putT t k v).room = t.room := by unfold putT; split <;> rfl
    have c := rputN_any t k v ht hroom (fun h hf => by rw [h, decide_eq_true hf] at hk; cases hk)
    have d := tput_any t k v ht
    rw [e]
    generalize putT t k v = t' at *
    clear e hk
    refine ACall.startA c21_ok Try.func21 rfl Try.ntmps21 (by kernel_rfl) res21_ok rfl rfl rfl ?_; simp (maxSteps := 9999999) (disch := omega) only [go_sem]
    (have k9 := And.intro @hr (k0); (repeat' (first | refine AWpA.seq ?_ | refine AWpA.block ?_ | (with_reducible refine CondP.tt ?_) | (with_reducible refine CondP.ff ?_) | refine AWpA.cg ?_ | ((first | refine AWpA.rg ?_ | refine AWpA.dg [0, 1] [] follows ?_ | refine TailK.tg ?_ | refine AWpA.skip ?_ | refine AWpA.exit ?_ | refine AWpA.ret ?_ | (with_reducible refine ARoundsA.succ ?_) | ((first | refine Runs.gkt (fun h9 => ?_) | refine Runs.gkf (fun h9 => ?_) | refine Runs.gnt (fun h9 => ?_) | refine Runs.gnf (fun h9 => ?_) | refine CondP.gt (fun h9 => ?_) | refine CondP.gf (fun h9 => ?_) | refine CondP.gnt (fun h9 => ?_) | refine CondP.gnf (fun h9 => ?_)); (try simp only [h9]); clear h9) | refine CallG.pg [2] (c) ?_ | refine CallG.pg [0, 1] (d) ?_ | refine CallG.dg [2] (c) ?_ | refine CallG.dg [0, 1] (d) ?_); (try simp (maxSteps := 9999999) (disch := omega) only [go_sem, k9]); (try refine cnd ?_)) | ((first | refine CondP.split (fun hif => ?_) (fun hif => ?_) | refine Runs.part (fun hif => ?_) (fun hif => ?_)) <;> ((try simp only [hif]); (try simp only [BL] at hif); (try (have h9 : _ = true := hif; simp only [h9])); (try (have h9 : _ = false := hif; simp only [h9])); (try simp (maxSteps := 9999999) (disch := omega) only [go_sem, k9]); (try refine cnd ?_); (try (exfalso; omega; done)))))); (all_goals (try clear k9)))
    (apply Ret.det [0, 1, 2, 419, 211]; (focus (first | exact .inl rfl | exact .inr rfl)); (focus (simp (maxSteps := 9999999) (disch := omega) only [go_sem, hr, er]; rfl)); (simp (maxSteps := 9999999) (disch := omega) only [go_sem, hr, er]; (try (repeat' (first | done | trivial | rfl | exact leAs_rfl _ | decide | (refine And.intro ?_ ?_) | (simp; done) | omega | (simp; decide))))))
  · rw [if_neg h0] at hk
    by_cases h1 : kind = 1
    · subst h1
      rw [if_pos rfl] at hk
      have hh : hasP' t.l k = true := by simpa using hk
      have e : actT t 1 v k = ⟨t.room, dropP t.l k⟩ := by unfold actT; simp
      have c := rdropN_any t.room t.l k ht.1 ht.2 hh
      have d := tdrop_any t k ht
      rw [hh] at d
      rw [e]
      generalize dropP t.l k = l' at *
      clear e h0 hh hk
      refine ACall.startA c21_ok Try.func21 rfl Try.ntmps21 (by kernel_rfl) res21_ok rfl rfl rfl ?_; simp (maxSteps := 9999999) (disch := omega) only [go_sem]
      (have k9 := And.intro @hr (k0); (repeat' (first | refine AWpA.seq ?_ | refine AWpA.block ?_ | (with_reducible refine CondP.tt ?_) | (with_reducible refine CondP.ff ?_) | refine AWpA.cg ?_ | ((first | refine AWpA.rg ?_ | refine AWpA.dg [0, 1] [] follows ?_ | refine TailK.tg ?_ | refine AWpA.skip ?_ | refine AWpA.exit ?_ | refine AWpA.ret ?_ | (with_reducible refine ARoundsA.succ ?_) | ((first | refine Runs.gkt (fun h9 => ?_) | refine Runs.gkf (fun h9 => ?_) | refine Runs.gnt (fun h9 => ?_) | refine Runs.gnf (fun h9 => ?_) | refine CondP.gt (fun h9 => ?_) | refine CondP.gf (fun h9 => ?_) | refine CondP.gnt (fun h9 => ?_) | refine CondP.gnf (fun h9 => ?_)); (try simp only [h9]); clear h9) | refine CallG.pg [2] (c) ?_ | refine CallG.pg [0, 1] (d) ?_ | refine CallG.dg [2] (c) ?_ | refine CallG.dg [0, 1] (d) ?_); (try simp (maxSteps := 9999999) (disch := omega) only [go_sem, k9]); (try refine cnd ?_)) | ((first | refine CondP.split (fun hif => ?_) (fun hif => ?_) | refine Runs.part (fun hif => ?_) (fun hif => ?_)) <;> ((try simp only [hif]); (try simp only [BL] at hif); (try (have h9 : _ = true := hif; simp only [h9])); (try (have h9 : _ = false := hif; simp only [h9])); (try simp (maxSteps := 9999999) (disch := omega) only [go_sem, k9]); (try refine cnd ?_); (try (exfalso; omega; done)))))); (all_goals (try clear k9)))
      (apply Ret.det [0, 1, 2, 387, 211]; (focus (first | exact .inl rfl | exact .inr rfl)); (focus (simp (maxSteps := 9999999) (disch := omega) only [go_sem, hr]; rfl)); (simp (maxSteps := 9999999) (disch := omega) only [go_sem, hr]; (try (repeat' (first | done | trivial | rfl | exact leAs_rfl _ | decide | (refine And.intro ?_ ?_) | (simp; done) | omega | (simp; decide))))))
    · rw [if_neg h1] at hk
      cases hk
end Go.Proofs.Ytodnlihbmgigjaa
