/- Own theory, no program in sight: a map is gone through. -/
import Derived.Test.YtbblpmkdhdnkhaaEg4
import Derived.Maps.RangeRun
namespace Go.Am
set_option linter.unusedSimpArgs false
set_option linter.unusedVariables false
set_option maxHeartbeats 4000000
open Go Go.RowKit
set_option linter.unusedVariables false
set_option linter.unusedSimpArgs false
section
variable {P : Program} {N : Nat}
open Go.ChangeMaps (setBlock)
/-- As long as a map is gone through: nobody writes it, nor its iterator. -/
def Ctx.less (C : Ctx) (bm r : Nat) (w : World) : Ctx := ⟨w, fun b => w.heap.size ≤ b ∨ (C.mine b ∧ b ≠ bm ∧ b ≠ r), fun _ h => .inl h, C.n, C.B0⟩
theorem OR.solid {B : BM} {o : AObj} {b n : Nat} {w : World} (h : OR B o (some (b, n)) w) (hl : o.live = true) : (∃ arr T fz, w.heap[b]? = some (.cells arr T fz)) ∨ ∃ arr c, w.heap[b]? = some (.map arr c) := by
  cases o with
  | gone => cases hl
  | cells ro cs =>
    obtain ⟨arr, T, fz, h1, _⟩ := h.at_block
    exact .inl ⟨arr, T, fz, h1⟩
  | map ro es =>
    obtain ⟨b', n', arr, c, h1, h2, _⟩ := h
    cases h1
    exact .inr ⟨arr, c, h2⟩
/-- The map is put aside. -/
theorem Sms.less_in {C : Ctx} {B : BM} {x : St} {a : Act} {w w2 : World} (hs : Sms C N B x a w) {mid bm m r : Nat} (hB : B mid = some (bm, m)) (hlive : (x.s.h mid).live = true) (hmap : ∃ arr cl, w.heap[bm]? = some (.map arr cl)) (hr : w.heap.size ≤ r)
    (hk : ∀ b, b < w.heap.size → w2.heap[b]? = w.heap[b]?) : Sms (C.less bm r w2) N B ⟨⟨x.s.t, upd x.s.h mid .gone⟩, x.n⟩ a w2 := by
  obtain ⟨⟨h1, h2, h3, h4, h5, h6, h7, hza, hzm⟩, h8, h9⟩ := hs
  have hne : ∀ {i}, (upd x.s.h mid .gone i).live = true → i ≠ mid := fun {i} h e => by subst e; rw [upd_same] at h; cases h
  have hsub : ∀ {i}, (upd x.s.h mid .gone i).live = true → upd x.s.h mid .gone i = x.s.h i := fun {i} h => upd_ne _ _ (hne h)
  refine ⟨⟨h1, h2, h3, ⟨fun i => ?_, fun i j b n k hij hi hj => ?_, h4.zr.keep rfl (fun b ar hb => hk b (h4.zr.lt hb)) fun i b n hi hb => ?_⟩, fun i b n hi hb => ?_, Kept.refl _ _, h7, hza, fun b ar hb => ?_⟩, h8, h9⟩
  · by_cases e : i = mid
    · subst e; simp only [upd_same]; trivial
    · simp only [upd_ne _ _ e]
      refine (h4.obj i).congr fun hl b n hb => hk b ?_
      have := h4.obj i
      rw [hb] at this
      exact this.block hl
  · have e1 := hsub (AObj.own_live hi)
    have e2 := hsub hj
    simp only at e1 e2 hi hj
    rw [e1] at hi
    rw [e2] at hj
    exact h4.apart i j b n k hij hi hj
  · have e1 := hsub (AObj.own_live hi)
    simp only at e1 hi
    rw [e1] at hi
    exact h4.zr.free i b n hi hb
  · have e1 := hsub (AObj.own_live hi)
    have e0 := hne (AObj.own_live hi)
    simp only at e1 hi
    rw [e1] at hi
    have hlt : b < w.heap.size := by
      have := h4.obj i
      rw [hb] at this
      exact this.block (AObj.own_live hi)
    refine .inr ⟨h5 i b n hi hb, fun e => ?_, by omega⟩
    subst e
    exact h4.apart i mid b n m e0 hi hlive hb hB
  · rcases hzm b ar hb with h | h
    · exact .inl h
    · have hlt := h4.zr.lt hb
      obtain ⟨T, fz, hc⟩ := h4.zr.held b ar hb
      obtain ⟨arr, cl, hm⟩ := hmap
      refine .inr (.inr ⟨h, fun e => ?_, by omega⟩)
      subst e
      rw [hc] at hm
      cases hm
/-- The iterator's block turns. -/
theorem Sms.less_step {C : Ctx} {B : BM} {x : St} {a : Act} {w w2 : World} {bm r : Nat} (hs : Sms (C.less bm r w) N B x a w) {m : Option Nat} {s1 : Nat} {sn : Array Nat} {c1 : Nat} (hi : w.heap[r]? = some (.mapIter m s1 sn c1))
    (hsz : w2.heap.size = w.heap.size) (hk : ∀ b, b ≠ r → w2.heap[b]? = w.heap[b]?) : Sms (C.less bm r w2) N B x a w2 := by
  obtain ⟨⟨h1, h2, h3, h4, h5, h6, h7, hza, hzm⟩, h8, h9⟩ := hs
  have hz : ∀ b ar, B.z b = some ar → b ≠ r := fun b ar hb e => by
    subst e
    obtain ⟨T, fz, hc⟩ := h4.zr.held b ar hb
    rw [hi] at hc
    cases hc
  refine ⟨⟨h1, h2, h3, ⟨fun i => ?_, h4.apart, h4.zr.keep rfl (fun b ar hb => hk b (hz b ar hb)) h4.zr.free⟩, fun i b n hi hb => ?_, Kept.refl _ _, h7, hza, fun b ar hb => ?_⟩, h8, h9⟩
  · refine (h4.obj i).congr fun hl b n hb => hk b fun e => ?_
    subst e
    have := h4.obj i
    rw [hb] at this
    rcases this.solid hl with ⟨_, _, _, h⟩ | ⟨_, _, h⟩ <;> rw [hi] at h <;> cases h
  · rcases h5 i b n hi hb with h | h
    · left; rw [hsz]; exact h
    · exact .inr h
  · rcases hzm b ar hb with h | h | h
    · exact .inl h
    · right; left; rw [hsz]; exact h
    · exact .inr (.inr h)
/-- All is done: who looked on goes on. -/
theorem Sms.less_out {C : Ctx} {B : BM} {x : St} {a : Act} {w w2 : World} {bm r : Nat} (hs : Sms (C.less bm r w) N B x a w2) (hk : Kept C.mine C.w0 w) : Sms C N B x a w2 := by
  obtain ⟨⟨h1, h2, h3, h4, h5, h6, h7, hza, hzm⟩, h8, h9⟩ := hs
  have hm : ∀ b, (C.less bm r w).mine b → C.mine b := fun b h => by
    rcases h with h | h
    · exact C.new b (Nat.le_trans hk.size h)
    · exact h.1
  refine ⟨⟨h1, h2, h3, h4, fun i b n hi hb => hm b (h5 i b n hi hb), hk.trans h6 fun b hb h => ?_, h7, hza, fun b ar hb => ?_⟩, h8, h9⟩
  · exact hm b h
  · rcases hzm b ar hb with h | h
    · exact .inl h
    · exact .inr (hm b h)
theorem Sms.put {C : Ctx} {B : BM} {x : St} {a : Act} {w : World} (hs : Sms C N B x a w) {d : Nat} (hd : d < N) {v : AV} {r : Value} (hv : VR B v r) : Sms C N B ⟨⟨Am.put x.s.t (some d) v, x.s.h⟩, x.n⟩ (a.put (some d) r) w := by
  obtain ⟨⟨h1, h2, h3, h4, h5, h6, h7, hza, hzm⟩, h8, h9⟩ := hs
  exact ⟨⟨by simp [Act.put, h1], h2, put_rel (dst := some d) h1 (fun d' e => by cases e; exact hd) h3 hv, h4, h5, h6, h7, hza, hzm⟩, h8, h9⟩
theorem Sms.later {C : Ctx} {B : BM} {x : St} {a : Act} {w : World} (hs : Sms C N B x a w) {n : Nat} (hn : x.n ≤ n) : Sms C N B ⟨x.s, n⟩ a w :=
  ⟨hs.sim, fun k hk => hs.fr k (Nat.le_trans hn hk), Nat.le_trans hs.base hn⟩
theorem compL_2 {ops : Array Oper} {x y : AOper} (h : compOps P N ops = some [x, y]) : ∃ o1 o2, ops[0]? = some o1 ∧ ops[1]? = some o2 ∧ ops.size = 2 ∧ compO P N ops o1 = some x ∧ compO P N ops o2 = some y := by
  obtain ⟨hl, hg⟩ := compL_get h
  have hs : ops.size = 2 := by simpa using hl
  obtain ⟨_, e1, h1⟩ := hg 0 ops[0] (by simp [hs])
  obtain ⟨_, e2, h2⟩ := hg 1 ops[1] (by simp [hs])
  cases e1
  cases e2
  exact ⟨_, _, by simp [hs], by simp [hs], hs, h1, h2⟩
theorem compL_1 {ops : Array Oper} {x : AOper} {l : List AOper} (h : compOps P N ops = some (x :: l)) : ∃ o1, ops[0]? = some o1 ∧ compO P N ops o1 = some x ∧ ops.size = l.length + 1 := by
  obtain ⟨hl, hg⟩ := compL_get h
  obtain ⟨l'⟩ := ops
  match l', hl, hg with
  | o1 :: l', hl, hg =>
    obtain ⟨_, e1, h1⟩ := hg 0 o1 rfl
    cases e1
    exact ⟨o1, rfl, h1, by simpa using hl⟩
attribute [local irreducible] compOp compileOp in
theorem compO_inv {ops : Array Oper} {o : Oper} {d : Nat} {op : AOp} {xs : List Opd} (h : compO P N ops o = some ⟨some d, op, xs, none⟩) : d < N ∧ o.dst = some d ∧ o.guard = none ∧ compOp P o = (op, xs) := by
  unfold compO at h
  generalize compOp P o = q at h ⊢
  obtain ⟨q1, q2⟩ := q
  cases hdst : o.dst with
  | none =>
    rw [hdst] at h
    simp only [if_true, Option.some.injEq, AOper.mk.injEq] at h
    exact absurd h.1 (by simp)
  | some d' =>
    rw [hdst] at h
    simp only at h
    cases hd : Nat.blt d' N with
    | false => rw [hd] at h; simp at h
    | true =>
      rw [hd] at h
      simp only [if_true, Option.some.injEq, AOper.mk.injEq, Option.map_eq_none_iff] at h
      obtain ⟨h1, h2, h3, h4⟩ := h
      refine ⟨?_, by rw [h1], h4, by rw [h2, h3]⟩
      rw [← h1]
      simpa using hd
theorem wants_free {ops : Array Oper} {o : Oper} {t : Array Value} (h : o.guard = none) : Region.wanted o (yielded ops t) = true := by unfold Region.wanted; rw [h]
end
end Go.Am
