/- Own theory, no program in sight: the engine (Am21, Am22, Am23, AmF). -/
import Derived.Test.YtopidfkmligljaaGreatEg3
import Derived.ProofKit
import Derived.OpenShut
import Derived.ShutString
import Derived.ChangeOld
import Derived.Deep.Slices
import Derived.WideShapes
import Derived.ChangeAt
/- Own theory, no program in sight: a law's call; what came in, read when it is wanted. -/
namespace Go.Am
set_option linter.unusedSimpArgs false
set_option linter.unusedVariables false
set_option maxHeartbeats 4000000
open Go Go.RowKit
set_option linter.unusedVariables false
set_option linter.unusedSimpArgs false

theorem VRs_nil' (B : BM) : VRs B [] [] := by simp [VRs]
theorem VRs_cons' {B : BM} {x : AV} {l : List AV} {v : Value} {vs : List Value} (h : VR B x v) (k : VRs B l vs) : VRs B (x :: l) (v :: vs) := by simp only [VRs]; exact ⟨v, vs, rfl, h, k⟩
theorem VR_val' (B : BM) (v : Value) : VR B (.val v) v := by simp [VR]
theorem VR_agg' {B : BM} {l' : List AV} {l : List Value} (e : l' = l.map .val) (h : ∀ x ∈ l, x.oneCell' = true) : VR B (.agg l') (.agg l.toArray) := by
  subst e; simp only [VR]; exact ⟨_, rfl, VRs.vals l, by simpa using h⟩
/-- A slice that came in: what it holds in the world of the call. -/
def Fz (W : World) (ad : Option Addr) (len cap k off : Nat) (cs : List Value) : Prop :=
  (len = 0 ∧ cap = 0 ∧ off = 0 ∧ cs = []) ∨
  ∃ b o arr T fz, ad = some ⟨b, o, none⟩ ∧ W.heap[b]? = some (.cells arr T fz) ∧ len ≤ cap ∧ off + cap * k ≤ arr.size ∧ (o = off ∨ cap = 0) ∧ cs = (arr.toList.drop off).take (len * k) ∧ ∀ x ∈ cs, x.oneCell' = true
/-- The call itself: nothing that was there is anybody's to write. -/
def topN (W : World) : NN := ⟨0, fun C => C.w0 = W ∧ (∀ b, C.mine b → W.heap.size ≤ b) ∧ ∀ b a T fz, W.heap[b]? = some (.cells a T fz) → C.B0.z b = some a⟩
/-- At the call nobody has an id; what is there nobody writes. -/
def BW (W : World) : BM := ⟨fun _ => none, fun b => match W.heap[b]? with
  | some (.cells a _ _) => some a
  | _ => none⟩
theorem BW_z {W : World} {b : Nat} {a : Array Value} : (BW W).z b = some a ↔ ∃ T fz, W.heap[b]? = some (.cells a T fz) := by
  simp only [BW]
  split
  · rename_i a' T fz h
    simp only [Option.some.injEq, h, Obj.cells.injEq]
    constructor
    · intro e
      exact ⟨T, fz, e, rfl, rfl⟩
    · rintro ⟨_, _, e, _⟩
      exact e
  · rename_i h
    constructor
    · intro e
      cases e
    · rintro ⟨T, fz, e⟩
      exact (h _ _ _ e).elim
theorem topN_n (W : World) : (topN W).n = 0 := rfl
attribute [go_sem] topN_n

section
variable {P : Program} {N : Nat} {Q : Exit → St → Prop} {W : World}

theorem lt_of_get {w : World} {b : Nat} {x : Obj} (e : w.heap[b]? = some x) : b < w.heap.size := by
  rcases Nat.lt_or_ge b w.heap.size with h | h
  · exact h
  · rw [Array.getElem?_eq_none h] at e; cases e

theorem ones_to {ro : Bool} {l l' : List AV} {vs : List Value} (hl : l.length = l'.length) (h : ∀ q : Nat, l[q]? = some .any → l'[q]? = some .any) (ho : Ones ro l vs) : Ones ro l' vs := fun i a x ha hx => by
  have hlt := (List.getElem?_eq_some_iff.1 ha).1
  have e : l[i]? = some l[i] := List.getElem?_eq_getElem (by omega)
  rcases ho i _ x e hx with ⟨h1, h2⟩ | h1
  · rw [h2] at e
    rw [h i e] at ha
    cases ha
    exact .inl ⟨h1, rfl⟩
  · exact .inr h1
theorem Sms.thaw {C : Ctx} {B : BM} {x : St} {a : Act} {w : World} (hC : (topN W).fits C) (hs : Sms C N B x a w) {ad : Option Addr} {len cap k off : Nat} {cs : List Value} (hz : Fz W ad len cap k off cs) :
    ∃ B', BLe B B' ∧ VR B' (.sl x.n off len k none) (.slice ad len cap) ∧
      ∀ s' : S, (∀ j, VR B' (s'.t j) (a.tmps.getD j undef)) → (∀ i, i ≠ x.n → (∃ ro l l', x.s.h i = .cells ro l ∧ s'.h i = .cells ro l' ∧ l.length = l'.length ∧ (∀ vs, VRs B l vs → VRs B' l' vs) ∧ (∀ q : Nat, l[q]? = some .any → l'[q]? = some .any)) ∨ s'.h i = x.s.h i) →
        s'.h x.n = .cells true (List.replicate off .any ++ cs.map .val) → Sms C N B' ⟨s', x.n + 1⟩ a w := by
  obtain ⟨⟨h1, h2, h3, h4, h5, h6, h7, hza, hzm⟩, h8, h9⟩ := hs
  obtain ⟨hn, hw0, hmine, hZ⟩ := hC
  rcases hz with ⟨rfl, rfl, rfl, rfl⟩ | ⟨b, o, arr, T, fz, rfl, hh, hlc, hoff, ho, hcs, h1c⟩
  · refine ⟨B, BLe.refl B, by simp [VR], fun s' ht hh' hnew => ?_⟩
    have hobj : ∀ i, OR B (s'.h i) (B i) w := fun i => by
      by_cases hi : i = x.n
      · subst hi; rw [hnew, h8 _ (Nat.le_refl _)]; exact .inl ⟨rfl, rfl⟩
      · rcases hh' i hi with ⟨ro, l, l', e1, e2, e3, e4, e5⟩ | e
        · rw [e2]
          have := h4.obj i
          rw [e1] at this
          rcases this with h | ⟨b, n, arr, T, fz, g1, g2, g3, g4, g5, g6⟩
          · exact .inl ⟨List.length_eq_zero_iff.1 (by rw [← e3, h.1]; rfl), h.2⟩
          · exact .inr ⟨b, n, arr, T, fz, g1, g2, g3, by rw [← e3]; exact e4 _ g4, by rw [← e3]; exact ones_to e3 e5 g5, g6⟩
        · rw [e]; exact h4.obj i
    have hown : ∀ i, (s'.h i).own = true → (x.s.h i).own = true ∧ i ≠ x.n := fun i ho => by
      by_cases hi : i = x.n
      · subst hi; rw [hnew] at ho; cases ho
      · rcases hh' i hi with ⟨ro, l, l', e1, e2, e3, e4, e5⟩ | e
        · rw [e2] at ho; rw [e1]; exact ⟨ho, hi⟩
        · rw [e] at ho; exact ⟨ho, hi⟩
    refine ⟨⟨h1, h2, ht, ⟨hobj, fun i j b n m hij ho hl hb => ?_, h4.zr.keep rfl (fun _ _ _ => rfl) fun i b n ho hb => h4.zr.free i b n (hown i ho).1 hb⟩, fun i b n ho hb => h5 i b n (hown i ho).1 hb, h6, h7, hza, hzm⟩, fun k hk => h8 k (by simp only at hk; omega), by simp only; omega⟩
    by_cases hj : j = x.n
    · subst hj; rw [h8 _ (Nat.le_refl _)]; simp
    · refine h4.apart i j b n m hij (hown i ho).1 ?_ hb
      rcases hh' j hj with ⟨ro, l, l', e1, e2, e3, e4, e5⟩ | e
      · rw [e1]; rfl
      · rw [← e]; exact hl
  · have hbl : b < W.heap.size := lt_of_get hh
    have hnm : ¬ C.mine b := fun h => by have := hmine b h; omega
    have hw : w.heap[b]? = some (.cells arr T fz) := by
      rw [h6.block b (by rw [hw0]; exact hbl) hnm, hw0]; exact hh
    have hlk : len * k ≤ cap * k := Nat.mul_le_mul_right _ hlc
    have hcl : cs.length = len * k := by rw [hcs]; simp; omega
    let B' : BM := ⟨fun i => if i = x.n then some (b, arr.size) else B i, B.z⟩
    have hBn : B' x.n = some (b, arr.size) := by simp [B']
    have hBo : ∀ i, i ≠ x.n → B' i = B i := fun i hi => by simp [B', hi]
    have hle : BLe B B' := ⟨fun i p e => by
      by_cases hi : i = x.n
      · subst hi; rw [h8 _ (Nat.le_refl _)] at e; cases e
      · rw [hBo i hi]; exact e, fun _ _ h => h⟩
    refine ⟨B', hle, ?_, fun s' ht hh' hnew => ?_⟩
    · simp only [VR]
      exact .inr ⟨b, arr.size, cap, o, hBn, rfl, hlc, hoff, ho, fun m hm => by cases hm⟩
    have hown : ∀ i, (s'.h i).own = true → (x.s.h i).own = true ∧ i ≠ x.n := fun i ho => by
      by_cases hi : i = x.n
      · subst hi; rw [hnew] at ho; cases ho
      · rcases hh' i hi with ⟨ro, l, l', e1, e2, e3, e4, e5⟩ | e
        · rw [e2] at ho; rw [e1]; exact ⟨ho, hi⟩
        · rw [e] at ho; exact ⟨ho, hi⟩
    have hobj : ∀ i, OR B' (s'.h i) (B' i) w := fun i => by
      by_cases hi : i = x.n
      · subst hi
        rw [hnew, hBn]
        refine .inr ⟨b, arr.size, arr, T, fz, rfl, hw, rfl, ?_, ?_, fun h => by cases h⟩
        · have hl : (List.replicate off AV.any ++ cs.map AV.val).length = off + len * k := by simp [hcl]
          rw [hl]
          have : arr.toList.take (off + len * k) = arr.toList.take off ++ cs := by
            rw [hcs, List.take_add]
          rw [this]
          refine VRs.append ?_ (VRs.vals cs)
          refine VRs.of_get (by simp; omega) fun i a r ha hr => ?_
          rw [List.getElem?_replicate] at ha
          split at ha
          · cases ha; simp [VR]
          · cases ha
        · intro q u y hq hy
          rcases Nat.lt_or_ge q off with hqo | hqo
          · rw [List.getElem?_append_left (by simpa using hqo), List.getElem?_replicate, if_pos hqo] at hq
            cases hq
            exact .inl ⟨rfl, rfl⟩
          · refine .inr (h1c y ?_)
            have hl : (List.replicate off AV.any ++ cs.map AV.val).length = off + len * k := by simp [hcl]
            rw [hl] at hy
            have : arr.toList.take (off + len * k) = arr.toList.take off ++ cs := by
              rw [hcs, List.take_add]
            rw [this, List.getElem?_append_right (by simp; omega)] at hy
            exact List.mem_of_getElem? hy
      · rcases hh' i hi with ⟨ro, l, l', e1, e2, e3, e4, e5⟩ | e
        · rw [e2, hBo i hi]
          have := h4.obj i
          rw [e1] at this
          rcases this with h | ⟨b, n, arr, T, fz, g1, g2, g3, g4, g5, g6⟩
          · exact .inl ⟨List.length_eq_zero_iff.1 (by rw [← e3, h.1]; rfl), h.2⟩
          · exact .inr ⟨b, n, arr, T, fz, g1, g2, g3, by rw [← e3]; exact e4 _ g4, by rw [← e3]; exact ones_to e3 e5 g5, g6⟩
        · rw [e, hBo i hi]; exact (h4.obj i).mono hle
    refine ⟨⟨h1, h2, ht, ⟨hobj, fun i j b1 n1 m hij ho hl hb => ?_, h4.zr.keep rfl (fun _ _ _ => rfl) fun i b1 n1 ho hb => ?_⟩, fun i b1 n1 ho hb => ?_, h6, fun k hk => ?_, hza, hzm⟩, fun k hk => ?_, by simp only; omega⟩
    · obtain ⟨ho', hi⟩ := hown i ho
      rw [hBo i hi] at hb
      by_cases hj : j = x.n
      · subst hj
        rw [hBn]
        intro e
        cases e
        exact hnm (h5 i _ _ ho' hb)
      · rw [hBo j hj]
        refine h4.apart i j b1 n1 m hij ho' ?_ hb
        rcases hh' j hj with ⟨ro, l, l', e1, e2, e3, e4, e5⟩ | e
        · rw [e1]; rfl
        · rw [← e]; exact hl
    · obtain ⟨ho', hi⟩ := hown i ho
      rw [hBo i hi] at hb
      exact h4.zr.free i b1 n1 ho' hb
    · obtain ⟨ho', hi⟩ := hown i ho
      rw [hBo i hi] at hb
      exact h5 i b1 n1 ho' hb
    · rw [hBo k (by omega)]; exact h7 k hk
    · simp only at hk
      rw [hBo k (by omega)]; exact h8 k (by omega)

/-- A cell of an aggregate. -/
theorem AWp.thawA {c : Code} {T : List (Nat × AV)} {b : Nat → AV} {H : List (Nat × AObj)} {hb : Nat → AObj} {n : Nat} (i j : Nat) {l : List AV} {ad : Option Addr} {len cap k off : Nat} {cs : List Value} (hz : Fz W ad len cap k off cs) (hi : fT T b i = .agg l) (hj : l[j]? = some (.val (.slice ad len cap)))
    (h : AWp P N (topN W) c Q (mk ((i, .agg (l.set j (.sl n off len k none))) :: T) b ((n, .cells true (List.replicate off .any ++ cs.map .val)) :: H) hb (n + 1))) : AWp P N (topN W) c Q (mk T b H hb n) := by
  intro C B a w hn hs
  obtain ⟨B', hle, hv, kk⟩ := hs.thaw hn hz
  refine h C B' a w hn (kk ⟨fT ((i, .agg (l.set j (.sl n off len _ none))) :: T) b, fH ((n, _) :: H) hb⟩ (fun q => ?_) (fun q hq => .inr ?_) ?_)
  · simp only [fT]
    cases e : Nat.beq i q with
    | true =>
      have := Nat.eq_of_beq_eq_true e
      subst this
      have h1 := hs.sim.t i
      simp only [Am.mk] at h1
      rw [hi] at h1
      simp only [VR] at h1 ⊢
      obtain ⟨a', e', hvs, h1c⟩ := h1
      refine ⟨a', e', ?_, h1c⟩
      have hlen := hvs.length
      refine VRs.of_get (by simp only [List.length_set]; exact hlen) fun m x r hx hr => ?_
      by_cases hm : m = j
      · subst hm
        have hml : m < l.length := (List.getElem?_eq_some_iff.1 hj).1
        rw [List.getElem?_set_self hml] at hx
        cases hx
        obtain ⟨r', h1, h2⟩ := hvs.get m hj
        rw [hr] at h1
        cases h1
        rw [vr_val] at h2
        rw [h2]
        exact hv
      · rw [List.getElem?_set_ne (Ne.symm hm)] at hx
        obtain ⟨r', h1, h2⟩ := hvs.get m hx
        rw [hr] at h1
        cases h1
        exact h2.mono hle
    | false => exact (hs.sim.t q).mono hle
  · have e : Nat.beq n q = false := by
      cases e : Nat.beq n q with
      | false => rfl
      | true => exact absurd (Nat.eq_of_beq_eq_true e).symm hq
    simp only [fH, e, Am.mk]
  · simp only [fH, Am.mk, Nat.beq_refl]
section
attribute [local semireducible] AWpA
theorem AWpA.thawA {β : Type} {ac : ACode} {T : List (Nat × AV)} {b : Nat → AV} {H : List (Nat × AObj)} {hb : Nat → AObj} {n : Nat} (i j : Nat) {l0 : List AV} {ad : Option Addr} {cap k off : Nat} {rep : β → List Value} (f : β → List AV) {l : List β} (hz : Fz W ad l.length cap k off (l.flatMap rep)) (hf : ∀ x, (rep x).map .val = f x) (hi : fT T b i = .agg l0) (hj : l0[j]? = some (.val (.slice ad l.length cap)))
    (h : AWpA P N (topN W) ac Q (mk ((i, .agg (l0.set j (.sl n off l.length k none))) :: T) b ((n, .cells true (rowsC off f l)) :: H) hb (n + 1))) : AWpA P N (topN W) ac Q (mk T b H hb n) := by
  intro c hc
  refine AWp.thawA i j hz hi hj ?_
  have := h c hc
  unfold rowsC at this
  rwa [List.map_flatMap, show (fun x => (rep x).map AV.val) = f from funext hf]
/-- The call of a law: it says true, and nothing that was there is written. -/
def TopPost (rs : List (Nat × Option (Bool × Nat))) : Exit → St → Prop
  | .normal, x => ∃ c, resAll x.s rs = some (c, [.val (.bool true)]) ∧ c
  | .ret, x => ∃ c, resAll x.s rs = some (c, [.val (.bool true)]) ∧ c
  | _, _ => False
theorem TopPost.of {rs : List (Nat × Option (Bool × Nat))} {e : Exit} {x : St} {c : Prop} (he : e = .ret ∨ e = .normal) (h : resAll x.s rs = some (c, [.val (.bool true)])) (hc : c) : TopPost rs e x := by
  rcases he with rfl | rfl <;> exact ⟨c, h, hc⟩
theorem top_call {g : FuncId} {fn : Func} {c : Code} {ac : ACode} {rs : List (Nat × Option (Bool × Nat))} {ra : Array Value} (hc : compC P N c = some (strip ac)) (hf : P.funcs[g]? = some fn) (hb : fn.body = some c) (hN0 : fn.ntmps = N)
    (hrs : fn.results.toList.mapM (resC P) = some rs) (args : List AV) (hN : args.length ≤ N) (hargs : VRs (BW W) args ra.toList)
    (h : AWpA P N (topN W) ac (TopPost rs) (mk [] (args0 args) [] gone0 0)) : Calls P g ra W fun e w' => e = .returned (.bool true) ∧ Below W.heap.size W w' := by
  subst hN0
  refine calls_of_wp hf hb ?_
  let C : Ctx := { w0 := W, mine := fun b => W.heap.size ≤ b, new := fun b hb => hb, n := 0, B0 := BW W }
  have hal := hargs.length
  have hsz : ra.size = args.length := by simpa using hal
  have start : Sms C fn.ntmps (BW W) (mk [] (args0 args) [] gone0 0) { tmps := ra ++ Array.replicate (fn.ntmps - ra.size) undef, defers := [] } W := by
    refine ⟨⟨?_, rfl, fun j => ?_, ⟨fun i => by simp [Am.mk, fH, gone0, OR], fun i j b n m _ h => by simp [Am.mk, fH, gone0, AObj.own] at h, ⟨fun b a hb => BW_z.1 hb, fun i b n hi => by simp [Am.mk, fH, gone0, AObj.own] at hi⟩⟩, fun i b n hi => by simp [Am.mk, fH, gone0, AObj.own] at hi, Kept.refl _ _, fun k _ => rfl, fun _ _ h => h, fun _ _ h => .inl h⟩, fun _ _ => rfl, Nat.le_refl _⟩
    · simp; omega
    · simp only [Am.mk, fT, args0]
      simp only [Array.getD_eq_getD_getElem?, List.getD_eq_getElem?_getD]
      rw [Array.getElem?_append]
      rcases Nat.lt_or_ge j args.length with hj | hj
      · obtain ⟨r, h1, h2⟩ := hargs.get j (List.getElem?_eq_getElem hj)
        rw [if_pos (by omega), List.getElem?_eq_getElem hj]
        have : ra[j]? = some r := by simpa using h1
        rw [this]
        exact h2
      · rw [if_neg (by omega), List.getElem?_eq_none hj]
        simp only [Option.getD_none]
        rw [Array.getElem?_replicate]
        split <;> simp [VR]
  refine wp_mono (h c hc C _ _ W ⟨rfl, rfl, fun b hb => hb, fun b a T fz h => BW_z.2 ⟨T, fz, h⟩⟩ start) ?_
  rintro e a' w' ⟨B', x', hq, hs'⟩
  have fin : (∃ c, resAll x'.s rs = some (c, [.val (.bool true)]) ∧ c) → a'.defers = [] ∧ ∃ v, (results fn a'.tmps).run P w' = .ok v w' ∧ (fun e w' => e = Ending.returned (.bool true) ∧ Below W.heap.size W w') (.returned v) w' := by
    rintro ⟨cc, hres, hcc⟩
    obtain ⟨vals, k1, k2⟩ := resAll_ok (P := P) hs'.sim.t hs'.sim.hr hrs hres hcc
    simp only [VRs] at k2
    obtain ⟨v, rest, rfl, hv, rfl⟩ := k2
    rw [vr_val] at hv
    subst hv
    refine ⟨hs'.sim.dfr, .bool true, ?_, rfl, ?_⟩
    · have : (fn.results.mapM (resS a'.tmps)).run P w' = .ok [Value.bool true].toArray w' := by
        rw [Array.mapM_eq_mapM_toList, Sem.run_map, k1]
        rfl
      unfold results
      rw [Sem.run_bind]
      show ((fn.results.mapM (resS a'.tmps)).run P w').andThen _ = _
      rw [this]
      rfl
    · have hk := hs'.sim.kept
      exact ⟨hk.os, hk.tape, hk.output, hk.size, fun b hb => hk.block b hb (fun hm => by simp only [C] at hm; omega)⟩
  cases e with
  | normal => exact fin hq
  | ret => exact fin hq
  | _ => exact hq.elim
end
end
end Go.Am
/- Own theory, no program in sight: what comes in, opened; any nesting of slices. -/
namespace Go.Am
open Go Go.RowKit Go.ChangeShapes Go.WideShapes Go.ChangeAt Go.Deep
set_option linter.unusedVariables false
set_option linter.unusedSimpArgs false

section
variable {H : Type} {enc : TypeId × Value → H} {P : Program} {W : World} {base : Nat} {held : Bool}
/-- Cells of a type, and what they are. -/
def Rd (enc : TypeId × Value → H) (P : Program) (W : World) (base : Nat) (held : Bool) {α : Type} (T : TypeId) (rep : α → List Value) (ok : α → Prop) : Prop :=
  ∀ n cs x, DataW.trod enc P W base (fun _ => true) held n T cs = some x → (∀ v ∈ cs, v.oneCell' = true) ∧ ∃ a, cs = rep a ∧ ok a
structure Sl (α : Type) where
  ad : Option Addr
  off : Nat
  cap : Nat
  l : List α
abbrev Sl.rep {α : Type} (s : Sl α) : List Value := [.slice s.ad s.l.length s.cap]
structure Sl.ok {α : Type} (W : World) (sz : Nat) (rep : α → List Value) (p : α → Prop) (s : Sl α) : Prop where
  fz : Fz W s.ad s.l.length s.cap sz s.off (s.l.flatMap rep)
  all : ∀ a ∈ s.l, p a
  len : s.l.length ≤ maxLen
theorem rd_bool {T : TypeId} (h : P.underlying T = some .bool) : Rd enc P W base held T (fun b : Bool => [.bool b]) (fun _ => True) := fun n cs x e => by
  obtain ⟨b, h1, _⟩ := DataW.trod_bool h e
  exact ⟨by rw [h1]; simp [Value.oneCell'], b, h1, trivial⟩
theorem rd_int {T : TypeId} {k : IntKind} (h : P.underlying T = some (.int k)) : Rd enc P W base held T (fun n : Int => [.int k n]) (fun n => k.min ≤ n ∧ n ≤ k.max) := fun n cs x e => by
  obtain ⟨b, h1, _, h2⟩ := DataW.trod_int h e
  refine ⟨by rw [h1]; simp [Value.oneCell'], b, h1, ?_⟩
  simpa [Lit.wf] using h2
theorem rd_string {T : TypeId} (h : P.underlying T = some .string) : Rd enc P W base held T (fun s : ByteArray => [.string s]) (fun s => s.size ≤ maxLen) := fun n cs x e => by
  obtain ⟨b, h1, _, h2⟩ := DataW.trod_string h e
  exact ⟨by rw [h1]; simp [Value.oneCell'], b, h1, h2⟩
theorem rd_slice {T e sz : Nat} {α : Type} {rep : α → List Value} {ok : α → Prop} (ht : P.underlying T = some (.slice e)) (hc : P.cellsOf e = sz) (hsz : 0 < sz) (hr : Rd enc P W base held e rep ok) :
    Rd enc P W base held T (fun s : Sl α => s.rep) (Sl.ok W sz rep ok) := fun n cs x h => by
  rcases open_slice ht h with ⟨rfl, _⟩ | ⟨a, len, cap, m, n', D, Pl, rfl, hb, hl, hm, hmm, _, hi⟩
  · exact ⟨by simp [Value.oneCell'], ⟨none, 0, 0, []⟩, rfl, .inl ⟨rfl, rfl, rfl, rfl⟩, by simp, by simp [maxLen]⟩
  · have hmc : m = cap := by simpa using hmm
    subst hmc
    refine ⟨by simp [Value.oneCell'], ?_⟩
    rcases Nat.eq_zero_or_pos m with h0 | h0
    · subst h0
      obtain rfl : len = 0 := by omega
      exact ⟨⟨some a, 0, 0, []⟩, rfl, .inl ⟨rfl, rfl, rfl, rfl⟩, by simp, by simp [maxLen]⟩
    · have hcell0 : ∀ i, i < m → ∃ cs', cs'.length = sz ∧ (∀ j, j < sz → W.cell? ((a.add (i * sz)).add j) = cs'[j]?) ∧ DataW.trod enc P W base (fun _ => true) held n' e cs' = some (D i, Pl i) := by
        intro i him
        obtain ⟨cs', h1, h2⟩ := hi i him
        rw [hc] at h1
        obtain ⟨_, h3, h4⟩ := World.cells?_some h1
        exact ⟨cs', h3, h4, h2⟩
      obtain ⟨cs0, q1, q2, _⟩ := hcell0 0 h0
      have q3 : W.cell? a = some cs0[0] := by
        have := q2 0 hsz
        rw [List.getElem?_eq_getElem (by omega)] at this
        simpa [Addr.add] using this
      have hsp := World.cell?_spot q3
      obtain ⟨b, o, sp⟩ := a
      simp only at hsp
      subst hsp
      obtain ⟨arr, T', fz, hh⟩ : ∃ arr T' fz, W.heap[b]? = some (.cells arr T' fz) := by
        unfold World.cell? at q3
        simp only at q3
        split at q3
        · rename_i c e f hh; exact ⟨_, _, _, hh⟩
        · cases q3
      have hcell : ∀ i, i < m → ∃ cs', cs'.length = sz ∧ (∀ j, j < sz → arr[o + i * sz + j]? = cs'[j]?) ∧ DataW.trod enc P W base (fun _ => true) held n' e cs' = some (D i, Pl i) := by
        intro i him
        obtain ⟨cs', h3, h4, h2⟩ := hcell0 i him
        refine ⟨cs', h3, fun j hj => ?_, h2⟩
        rw [← h4 j hj, addr_add, addr_add, cell_at hh]
      have hsize : o + m * sz ≤ arr.size := by
        obtain ⟨cs', h1, h2, _⟩ := hcell (m - 1) (by omega)
        have h3 := h2 (sz - 1) (by omega)
        rw [List.getElem?_eq_getElem (by omega)] at h3
        obtain ⟨h4, _⟩ := Array.getElem?_eq_some_iff.1 h3
        have : m * sz = (m - 1) * sz + sz := by
          obtain ⟨q, rfl⟩ : ∃ q, m = q + 1 := ⟨m - 1, by omega⟩
          rw [Nat.add_sub_cancel, Nat.succ_mul]
        omega
      have hlist : ∀ q, q ≤ len → ∃ l : List α, l.length = q ∧ l.flatMap rep = (arr.toList.drop o).take (q * sz) ∧ (∀ y ∈ l, ok y) ∧ ∀ v ∈ l.flatMap rep, v.oneCell' = true := by
        intro q
        induction q with
        | zero => exact fun _ => ⟨[], rfl, by simp, by simp, by simp⟩
        | succ q ih =>
          intro hq
          obtain ⟨l, h1, h2, h3, h5⟩ := ih (by omega)
          obtain ⟨cs', g1, g2, g3⟩ := hcell q (by omega)
          have hqs : (q + 1) * sz ≤ m * sz := Nat.mul_le_mul_right _ (by omega)
          rw [Nat.succ_mul] at hqs
          have hseg : (arr.toList.drop (o + q * sz)).take sz = cs' := by
            apply List.ext_getElem?
            intro j
            rw [List.getElem?_take]
            split
            · rename_i hj
              rw [List.getElem?_drop, ← g2 j hj]
              simp
            · rename_i hj
              rw [List.getElem?_eq_none (by omega)]
          obtain ⟨hone, y, hy, hoky⟩ := hr _ _ _ g3
          refine ⟨l ++ [y], by simp [h1], ?_, fun z hz => ?_, fun v hv => ?_⟩
          · rw [List.flatMap_append, h2, Nat.succ_mul, List.take_add, List.drop_drop, hseg, hy]
            simp
          · rcases List.mem_append.1 hz with hz | hz
            · exact h3 z hz
            · rw [List.mem_singleton.1 hz]; exact hoky
          · rw [List.flatMap_append] at hv
            rcases List.mem_append.1 hv with hv | hv
            · exact h5 v hv
            · exact hone v (by rw [hy]; simpa using hv)
      obtain ⟨l, h1, h2, h3, h5⟩ := hlist len (Nat.le_refl _)
      subst h1
      exact ⟨⟨some ⟨b, o, none⟩, o, m, l⟩, rfl, .inr ⟨b, o, arr, T', fz, rfl, hh, hl, hsize, .inl rfl, h2, h5⟩, h3, by simp only; omega⟩
theorem rd_open {T : TypeId} {α : Type} {rep : α → List Value} {ok : α → Prop} (hr : Rd enc P W base held T rep ok) {v : Value} {d : DataW H} {p : List MemPlace} (h : DataW.Trod enc P W base (fun _ => true) held T v d p) :
    ∃ a, v.cells.toList = rep a ∧ ok a ∧ ∀ x ∈ v.cells.toList, x.oneCell' = true := by
  obtain ⟨fuel, hf⟩ := h
  obtain ⟨h1, a, h2, h3⟩ := hr _ _ _ hf
  exact ⟨a, h2, h3, h1⟩
end
theorem at_some2 {α : Type} {xs : List α} {n i : Nat} {o : Option α} (hl : xs.length = n) (hi : i < n) (h : o = xs[i]?) : ∃ y, o = some y :=
  ⟨xs[i]'(by omega), by rw [h]; simp [hl, hi]⟩
end Go.Am
/- Own theory, no program in sight: an object of which less is told. -/
namespace Go.Am
open Go Go.RowKit
set_option linter.unusedVariables false
set_option linter.unusedSimpArgs false
/-- The cells that a slice has room for, known or not. -/
theorem AWp.ext {P : Program} {N : Nat} {nn : NN} {Q : Exit → St → Prop} {c : Code} {T : List (Nat × AV)} {b : Nat → AV} {H : List (Nat × AObj)} {hb : Nat → AObj} {n : Nat} (i j m : Nat) {off len k cp : Nat} {l : List AV} (hj : fT T b j = .sl i off len k (some cp)) (hm : l.length + m ≤ off + cp * k) (hi : fH H hb i = .cells false l)
    (h : AWp P N nn c Q (mk T b ((i, .cells false (l ++ List.replicate m .any)) :: H) hb n)) : AWp P N nn c Q (mk T b H hb n) := by
  intro C B a w hn hs
  have hvj := hs.sim.t j
  simp only [Am.mk] at hvj
  rw [hj] at hvj
  simp only [VR] at hvj
  have hroom : ∃ b1 n1, B i = some (b1, n1) ∧ off + cp * k ≤ n1 := by
    rcases hvj with ⟨_, h9, _⟩ | ⟨b1, n1, c1, o, h1, h2, h3, h4, h5, h6⟩
    · cases h9
    · obtain rfl := h6 cp rfl; exact ⟨b1, n1, h1, h4⟩
  obtain ⟨b1, n1, hB1, hn1⟩ := hroom
  obtain ⟨⟨h1, h2, h3, h4, h5, h6, h7, hza, hzm⟩, h8, h9⟩ := hs
  have hne : ∀ q, q ≠ i → fH ((i, .cells false (l ++ List.replicate m .any)) :: H) hb q = fH H hb q := fun q hq => by
    have e : Nat.beq i q = false := by
      cases e : Nat.beq i q with
      | false => rfl
      | true => exact absurd (Nat.eq_of_beq_eq_true e).symm hq
    simp only [fH, e]
  have heq : fH ((i, .cells false (l ++ List.replicate m .any)) :: H) hb i = .cells false (l ++ List.replicate m .any) := by simp only [fH, Nat.beq_refl]
  have hown : ∀ q, (fH ((i, .cells false (l ++ List.replicate m .any)) :: H) hb q).own = (fH H hb q).own := fun q => by
    by_cases hq : q = i
    · subst hq; rw [heq, hi]; rfl
    · rw [hne q hq]
  have hlive : ∀ q, (fH ((i, .cells false (l ++ List.replicate m .any)) :: H) hb q).live = (fH H hb q).live := fun q => by
    by_cases hq : q = i
    · subst hq; rw [heq, hi]; rfl
    · rw [hne q hq]
  refine h C B a w hn ⟨⟨h1, h2, h3, ⟨fun q => ?_, fun x y b2 n2 m2 hxy ho hl hb1 => ?_, h4.zr.keep rfl (fun _ _ _ => rfl) fun k b1 n1 ho hb1 => h4.zr.free k b1 n1 (by simp only [Am.mk] at ho ⊢; rw [hown] at ho; exact ho) hb1⟩, fun q b2 n2 ho hb1 => ?_, h6, h7, hza, hzm⟩, h8, h9⟩
  · have hq := h4.obj q
    simp only [Am.mk] at hq ⊢
    by_cases hqi : q = i
    · subst hqi
      rw [heq]
      rw [hi, hB1] at hq
      rw [hB1]
      obtain ⟨arr, T', fz, g1, g2, g3, g4, g5, g6⟩ := OR.at_own hq
      refine .inr ⟨b1, n1, arr, T', fz, rfl, g1, g2, ?_, ?_, fun _ => ⟨g5, g6⟩⟩
      · have hle : l.length ≤ arr.size := by have := g3.length; simp at this; omega
        have e : arr.toList.take (l ++ List.replicate m AV.any).length = arr.toList.take l.length ++ (arr.toList.drop l.length).take m := by
          rw [List.length_append, List.length_replicate, List.take_add]
        rw [e]
        refine VRs.append g3 (VRs.of_get (by simp; omega) fun x u r hu hr => ?_)
        rw [List.getElem?_replicate] at hu
        split at hu
        · cases hu; simp [VR]
        · cases hu
      · exact Ones.of fun x hx => g6 x (List.mem_of_mem_take hx)
    · rw [hne q hqi]; exact hq
  · simp only [Am.mk] at ho hl
    rw [hown] at ho
    rw [hlive] at hl
    exact h4.apart x y b2 n2 m2 hxy ho hl hb1
  · simp only [Am.mk] at ho
    rw [hown] at ho
    exact h5 q b2 n2 ho hb1
attribute [local semireducible] AWpA in
theorem AWpA.ext {P : Program} {N : Nat} {nn : NN} {Q : Exit → St → Prop} {ac : ACode} {T : List (Nat × AV)} {b : Nat → AV} {H : List (Nat × AObj)} {hb : Nat → AObj} {n : Nat} (i j m : Nat) {off len k cp : Nat} {l : List AV} (hj : fT T b j = .sl i off len k (some cp)) (hm : l.length + m ≤ off + cp * k) (hi : fH H hb i = .cells false l)
    (h : AWpA P N nn ac Q (mk T b ((i, .cells false (l ++ List.replicate m .any)) :: H) hb n)) : AWpA P N nn ac Q (mk T b H hb n) :=
  fun c hc => AWp.ext i j m hj hm hi (h c hc)
end Go.Am
/- Own theory, no program in sight: slices that nobody writes any more, told by what they hold. -/
namespace Go.Am
open Go Go.RowKit
set_option linter.unusedVariables false
set_option linter.unusedSimpArgs false
section
variable {P : Program} {N : Nat} {nn : NN} {Q : Exit → St → Prop} {W : World}

theorem fH_ne {H : List (Nat × AObj)} {hb : Nat → AObj} {i q : Nat} {o : AObj} (hq : q ≠ i) : fH ((i, o) :: H) hb q = fH H hb q := by
  have e : Nat.beq i q = false := by
    cases e : Nat.beq i q with
    | false => rfl
    | true => exact absurd (Nat.eq_of_beq_eq_true e).symm hq
  simp only [fH, e]
theorem fH_eq {H : List (Nat × AObj)} {hb : Nat → AObj} {i : Nat} {o : AObj} : fH ((i, o) :: H) hb i = o := by simp only [fH, Nat.beq_refl]
theorem fT_put {T : List (Nat × AV)} {b : Nat → AV} {j : Nat} {x : AV} {B : BM} {tm : Nat → Value} (h : ∀ q, VR B (fT T b q) (tm q)) (hx : VR B x (tm j)) : ∀ q, VR B (fT ((j, x) :: T) b q) (tm q) := fun q => by
  simp only [fT]
  cases e : Nat.beq j q with
  | true => have := Nat.eq_of_beq_eq_true e; subst this; exact hx
  | false => exact h q

/-- An owned object is given up: nobody writes its block any more. -/
theorem AWp.freeze {c : Code} {T : List (Nat × AV)} {b : Nat → AV} {H : List (Nat × AObj)} {hb : Nat → AObj} {n : Nat} (i j : Nat) {cs : List AV} {off len k : Nat} {cap : Option Nat} (hi : fH H hb i = .cells false cs) (hj : fT T b j = .sl i off len k cap) (hle : off + len * k ≤ cs.length)
    (h : AWp P N nn c Q (mk ((j, .fz k len ((cs.drop off).take (len * k))) :: T) b ((i, .cells true cs) :: H) hb n)) : AWp P N nn c Q (mk T b H hb n) := by
  intro C B a w hn hs
  obtain ⟨⟨h1, h2, h3, h4, h5, h6, h7, hza, hzm⟩, h8, h9⟩ := hs
  simp only [Am.mk] at h3 h4 h5 h8 h9
  have hob := h4.obj i
  rw [hi] at hob
  have hvj := h3 j
  rw [hj] at hvj
  have key : ∃ B' : BM, B'.f = B.f ∧ BLe B B' ∧ VR B' (.fz k len ((cs.drop off).take (len * k))) (a.tmps.getD j undef) ∧ (∀ x y, B'.z x = some y → B.z x = some y ∨ ∃ m, B i = some (x, m) ∧ ∃ T' fz, w.heap[x]? = some (.cells y T' fz)) := by
    cases hB : B i with
    | none =>
      rw [hB] at hob
      rcases hob with ⟨rfl, -⟩ | ⟨b1, n1, arr, T', fz, g, -⟩
      · refine ⟨B, rfl, BLe.refl B, ?_, fun x y hh => .inl hh⟩
        simp only [VR] at hvj ⊢
        rcases hvj with ⟨rfl, rfl, q0, e⟩ | ⟨b1, n1, c1, o, e, -⟩
        · exact .inl ⟨by first | rfl | trivial, by simp, q0, e⟩
        · rw [hB] at e; cases e
      · cases g
    | some p =>
      obtain ⟨b1, n1⟩ := p
      rw [hB] at hob
      obtain ⟨arr, T', fz, g1, g2, g3, g4, g5, g6⟩ := OR.at_own hob
      have hfree := h4.zr.free i b1 n1 (by rw [hi]; rfl) hB
      have hBle : BLe B ⟨B.f, fun x => if x = b1 then some arr else B.z x⟩ := ⟨fun _ _ e => e, fun x y e => by
        by_cases hx : x = b1
        · subst hx; rw [hfree] at e; cases e
        · simp only [if_neg hx]; exact e⟩
      refine ⟨⟨B.f, fun x => if x = b1 then some arr else B.z x⟩, rfl, hBle, ?_, fun x y hh => ?_⟩
      · simp only [VR] at hvj
        have hcs : cs.length ≤ arr.size := by have := g3.length; simp at this; omega
        rcases hvj with ⟨rfl, rfl, q0, e⟩ | ⟨b2, n2, c1, o, e, e1, e2, e3, e4, e5⟩
        · simp only [VR]
          exact .inl ⟨by first | rfl | trivial, by simp, q0, e⟩
        · rw [hB] at e
          simp only [Option.some.injEq, Prod.mk.injEq] at e
          obtain ⟨rfl, rfl⟩ := e
          simp only [VR]
          rw [e1]
          have hlk : len * k ≤ c1 * k := Nat.mul_le_mul_right _ e2
          rcases e4 with rfl | rfl
          · have es : (arr.toList.drop o).take (len * k) = ((arr.toList.take cs.length).drop o).take (len * k) := by
              rw [List.drop_take, List.take_take, Nat.min_eq_left (by omega)]
            refine .inr ⟨b1, arr, c1, o, by simp, rfl, e2, by omega, ?_, ?_⟩
            · rw [es]; exact (VRs.take _ (VRs.drop _ g3)).mono hBle
            · intro x hx; exact g6 x (List.mem_of_mem_drop (List.mem_of_mem_take hx))
          · obtain rfl : len = 0 := by omega
            refine .inl ⟨rfl, by simp, some ⟨b1, o, none⟩, rfl⟩
      · by_cases hx : x = b1
        · subst hx
          simp only [if_true, Option.some.injEq] at hh
          subst hh
          exact .inr ⟨n1, rfl, T', fz, g1⟩
        · simp only [if_neg hx] at hh; exact .inl hh
  obtain ⟨B', hBf, hBle, hv, hz⟩ := key
  have hown : ∀ q, (fH ((i, .cells true cs) :: H) hb q).own = true → q ≠ i ∧ (fH H hb q).own = true := fun q hq => by
    by_cases e : q = i
    · subst e; rw [fH_eq] at hq; cases hq
    · rw [fH_ne e] at hq; exact ⟨e, hq⟩
  have hlive : ∀ q, (fH ((i, .cells true cs) :: H) hb q).live = true → (fH H hb q).live = true := fun q hq => by
    by_cases e : q = i
    · subst e; rw [hi]; rfl
    · rw [fH_ne e] at hq; exact hq
  have hf : ∀ q, B' q = B q := fun q => by rw [hBf]
  refine h C B' a w hn ⟨⟨h1, h2, ?_, ⟨fun q => ?_, fun x y b1 n1 m1 hxy ho hl hb1 => ?_, fun x y hh => ?_, fun q b1 n1 ho hb1 => ?_⟩, fun q b1 n1 ho hb1 => ?_, h6, fun q hq => ?_, fun x y hh => hBle.z x y (hza x y hh), fun x y hh => ?_⟩, fun q hq => ?_, h9⟩
  · simp only [Am.mk]
    exact fT_put (tm := fun q => a.tmps.getD q undef) (fun q => (h3 q).mono hBle) hv
  · simp only [Am.mk]
    rw [hf]
    by_cases e : q = i
    · subst e
      rw [fH_eq]
      exact (show OR B (setRo (.cells false cs)) (B q) w from OR_setRo hob).mono hBle
    · rw [fH_ne e]; exact (h4.obj q).mono hBle
  · simp only [Am.mk] at ho hl
    rw [hf] at hb1 ⊢
    exact h4.apart x y b1 n1 m1 hxy (hown x ho).2 (hlive y hl) hb1
  · rcases hz x y hh with hh | ⟨m, -, hh⟩
    · exact h4.zr.held x y hh
    · exact hh
  · simp only [Am.mk] at ho
    rw [hf] at hb1
    obtain ⟨hqi, ho⟩ := hown q ho
    cases hh : B'.z b1 with
    | none => rfl
    | some y =>
      rcases hz b1 y hh with hh | ⟨m, hh, -⟩
      · rw [h4.zr.free q b1 n1 ho hb1] at hh; cases hh
      · exact absurd hh (h4.apart q i b1 n1 m hqi ho (by rw [hi]; rfl) hb1)
  · simp only [Am.mk] at ho
    rw [hf] at hb1
    exact h5 q b1 n1 (hown q ho).2 hb1
  · rw [hf]; exact h7 q hq
  · rcases hz x y hh with hh | ⟨m, hh, -⟩
    · exact hzm x y hh
    · exact .inr (h5 i x m (by rw [hi]; rfl) hh)
  · rw [hf]; exact h8 q hq

/-! ### What came in -/
end
section
variable {P : Program} {N : Nat} {nn : NN} {Q : Exit → St → Prop} {W : World}
attribute [local semireducible] AWpA
theorem AWpA.freeze {ac : ACode} {T : List (Nat × AV)} {b : Nat → AV} {H : List (Nat × AObj)} {hb : Nat → AObj} {n : Nat} (i j : Nat) {cs cs' : List AV} {off len k : Nat} {cap : Option Nat} (hi : fH H hb i = .cells false cs) (hj : fT T b j = .sl i off len k cap) (hle : off + len * k ≤ cs.length) (hcs : (cs.drop off).take (len * k) = cs')
    (h : AWpA P N nn ac Q (mk ((j, .fz k len cs') :: T) b ((i, .cells true cs) :: H) hb n)) : AWpA P N nn ac Q (mk T b H hb n) :=
  fun c hc => AWp.freeze i j hi hj hle (by rw [hcs]; exact h c hc)
end

/-! ### A contract at a slice told by what it holds -/
theorem ACall.mono {P : Program} {g : FuncId} {args : List AV} {H : List AObj} {R R' : AV → List AObj → Prop} (h : ACall P g args H R) (hr : ∀ v H', R v H' → R' v H') : ACall P g args H R' := by
  obtain ⟨x, hen, hc⟩ := h
  refine ⟨x, hen, fun B w ra h1 h2 h3 => (hc B w ra h1 h2 h3).mono ?_⟩
  rintro e w' ⟨v, H', rv, B', e1, e2, e3⟩
  exact ⟨v, H', rv, B', e1, hr v H' e2, e3⟩
end Go.Am
