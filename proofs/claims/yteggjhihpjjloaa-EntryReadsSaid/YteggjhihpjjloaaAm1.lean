/- Own theory, no program in sight: abstract values and heaps, and how they stand for real ones. -/
import Derived.WalkKit
namespace Go.Am
set_option linter.unusedSimpArgs false
set_option linter.unusedVariables false
set_option maxHeartbeats 4000000
open Go Go.RowKit
set_option linter.unusedVariables false

inductive AV where
  | any
  | bad
  | val (v : Value)
  | ptr (i off : Nat)
  | sl (i off len k : Nat) (cap : Option Nat)
  | sle
  | mp (i : Nat)
  | agg (l : List AV)
  | tup (l : List AV)
  | fn (f : FuncId) (first cap : List AV)
  deriving Inhabited

abbrev BM := Nat → Option (Nat × Nat)
def BLe (B B' : BM) : Prop := ∀ i p, B i = some p → B' i = some p
theorem BLe.refl (B : BM) : BLe B B := fun _ _ h => h
theorem BLe.trans {B B' B'' : BM} (h : BLe B B') (k : BLe B' B'') : BLe B B'' := fun i p e => k i p (h i p e)

mutual
def VR (B : BM) : AV → Value → Prop
  | .any, _ => True
  | .bad, _ => False
  | .val x, v => v = x
  | .ptr i off, v => ∃ b n, B i = some (b, n) ∧ v = .pointer (some ⟨b, off, none⟩)
  | .sl i off len k cap, v => (len = 0 ∧ cap = none ∧ ∃ q, v = .slice q 0 0) ∨ ∃ b n c o, B i = some (b, n) ∧ v = .slice (some ⟨b, o, none⟩) len c ∧ len ≤ c ∧ off + c * k ≤ n ∧ (o = off ∨ c = 0) ∧ ∀ m, cap = some m → c = m
  | .sle, v => ∃ q, v = .slice q 0 0
  | .mp i, v => ∃ b n, B i = some (b, n) ∧ v = .map (some b)
  | .agg l, v => ∃ a, v = .agg a ∧ VRs B l a.toList ∧ ∀ x ∈ a.toList, x.oneCell' = true
  | .tup l, v => ∃ a, v = .tuple a ∧ VRs B l a.toList
  | .fn f first cap, v => ∃ a c, v = .func (.func f) a c ∧ VRs B first a.toList ∧ VRs B cap c.toList
def VRs (B : BM) : List AV → List Value → Prop
  | [], vs => vs = []
  | x :: l, vs => ∃ v rest, vs = v :: rest ∧ VR B x v ∧ VRs B l rest
end

mutual
theorem VR.mono {B B' : BM} (hB : BLe B B') : ∀ {x : AV} {v : Value}, VR B x v → VR B' x v
  | .any, _, _ => by simp [VR]
  | .bad, _, h => by simp [VR] at h
  | .val x, v, h => by simpa [VR] using h
  | .ptr i off, v, h => by
    simp only [VR] at h ⊢
    obtain ⟨b, n, e, r⟩ := h
    exact ⟨b, n, hB _ _ e, r⟩
  | .sl i off len k cap, v, h => by
    simp only [VR] at h ⊢
    rcases h with h | ⟨b, n, c, o, e, r⟩
    · exact .inl h
    · exact .inr ⟨b, n, c, o, hB _ _ e, r⟩
  | .sle, v, h => by simpa [VR] using h
  | .mp i, v, h => by
    simp only [VR] at h ⊢
    obtain ⟨b, n, e, r⟩ := h
    exact ⟨b, n, hB _ _ e, r⟩
  | .agg l, v, h => by
    simp only [VR] at h ⊢
    obtain ⟨a, e, r, o⟩ := h
    exact ⟨a, e, VRs.mono hB r, o⟩
  | .tup l, v, h => by
    simp only [VR] at h ⊢
    obtain ⟨a, e, r⟩ := h
    exact ⟨a, e, VRs.mono hB r⟩
  | .fn f first cap, v, h => by
    simp only [VR] at h ⊢
    obtain ⟨a, c, e, r, s⟩ := h
    exact ⟨a, c, e, VRs.mono hB r, VRs.mono hB s⟩
theorem VRs.mono {B B' : BM} (hB : BLe B B') : ∀ {x : List AV} {v : List Value}, VRs B x v → VRs B' x v
  | [], _, h => by simpa [VRs] using h
  | x :: l, vs, h => by
    simp only [VRs] at h ⊢
    obtain ⟨v, rest, e, r, s⟩ := h
    exact ⟨v, rest, e, VR.mono hB r, VRs.mono hB s⟩
end

theorem VRs.length {B : BM} : ∀ {x : List AV} {v : List Value}, VRs B x v → v.length = x.length
  | [], _, h => by simp only [VRs] at h; subst h; rfl
  | x :: l, vs, h => by
    simp only [VRs] at h
    obtain ⟨v, rest, rfl, r, s⟩ := h
    simp [VRs.length s]
theorem VRs.get {B : BM} : ∀ {x : List AV} {v : List Value} (h : VRs B x v) (i : Nat) {a : AV}, x[i]? = some a → ∃ r, v[i]? = some r ∧ VR B a r
  | [], _, h, i, a, e => by simp at e
  | x :: l, vs, h, i, a, e => by
    simp only [VRs] at h
    obtain ⟨v, rest, rfl, r, s⟩ := h
    cases i with
    | zero => simp at e; subst e; exact ⟨v, rfl, r⟩
    | succ i =>
      simp at e
      simpa using VRs.get s i e
theorem VRs.get_none {B : BM} {x : List AV} {v : List Value} (h : VRs B x v) (i : Nat) (e : x[i]? = none) : v[i]? = none := by
  have := h.length
  rw [List.getElem?_eq_none_iff] at e ⊢
  omega
theorem VRs.of_get {B : BM} : ∀ {x : List AV} {v : List Value}, v.length = x.length → (∀ (i : Nat) (a : AV) (r : Value), x[i]? = some a → v[i]? = some r → VR B a r) → VRs B x v
  | [], v, hl, _ => by simp only [VRs]; exact List.length_eq_zero_iff.1 hl
  | x :: l, [], hl, _ => by simp at hl
  | x :: l, v :: vs, hl, h => by
    simp only [VRs]
    refine ⟨v, vs, rfl, h 0 x v rfl rfl, VRs.of_get (by simpa using hl) fun i a r ha hr => h (i + 1) a r (by simpa using ha) (by simpa using hr)⟩
theorem VRs.append {B : BM} : ∀ {x y : List AV} {v u : List Value}, VRs B x v → VRs B y u → VRs B (x ++ y) (v ++ u)
  | [], y, v, u, h, k => by simp only [VRs] at h; subst h; exact k
  | x :: l, y, vs, u, h, k => by
    simp only [VRs] at h
    obtain ⟨v, rest, rfl, r, s⟩ := h
    simp only [List.cons_append, VRs]
    exact ⟨v, rest ++ u, rfl, r, VRs.append s k⟩
theorem VRs.take {B : BM} : ∀ {x : List AV} {v : List Value} (n : Nat), VRs B x v → VRs B (x.take n) (v.take n)
  | [], v, n, h => by simp only [VRs] at h; subst h; simp [VRs]
  | x :: l, vs, 0, h => by simp [VRs]
  | x :: l, vs, n + 1, h => by
    simp only [VRs] at h
    obtain ⟨v, rest, rfl, r, s⟩ := h
    simp only [List.take_succ_cons, VRs]
    exact ⟨v, rest.take n, rfl, r, VRs.take n s⟩
theorem VRs.drop {B : BM} : ∀ {x : List AV} {v : List Value} (n : Nat), VRs B x v → VRs B (x.drop n) (v.drop n)
  | [], v, n, h => by simp only [VRs] at h; subst h; simp [VRs]
  | x :: l, vs, 0, h => by simpa using h
  | x :: l, vs, n + 1, h => by
    simp only [VRs] at h
    obtain ⟨v, rest, rfl, r, s⟩ := h
    simpa using VRs.drop n s
theorem VRs.split {B : BM} {x y : List AV} {v : List Value} (h : VRs B (x ++ y) v) : ∃ u w, v = u ++ w ∧ VRs B x u ∧ VRs B y w := by
  refine ⟨v.take x.length, v.drop x.length, (List.take_append_drop _ _).symm, ?_, ?_⟩
  · have := VRs.take x.length h
    simpa using this
  · have := VRs.drop x.length h
    simpa using this
theorem VRs.vals {B : BM} : ∀ (l : List Value), VRs B (l.map .val) l
  | [] => by simp [VRs]
  | v :: l => by simp only [List.map_cons, VRs]; exact ⟨v, l, rfl, by simp [VR], VRs.vals l⟩
theorem VRs.vals_eq {B : BM} : ∀ {l : List Value} {v : List Value}, VRs B (l.map .val) v → v = l
  | [], v, h => by simpa [VRs] using h
  | x :: l, vs, h => by
    simp only [List.map_cons, VRs, VR] at h
    obtain ⟨v, rest, rfl, rfl, s⟩ := h
    rw [VRs.vals_eq s]

/-! ### Renaming -/
mutual
def ren (ρ : List Nat) : AV → AV
  | .ptr i off => match ρ[i]? with | some j => .ptr j off | none => .bad
  | .sl i off len k cap => match ρ[i]? with | some j => .sl j off len k cap | none => (match len, cap with | 0, none => .sle | _, _ => .bad)
  | .mp i => match ρ[i]? with | some j => .mp j | none => .bad
  | .agg l => .agg (renL ρ l)
  | .tup l => .tup (renL ρ l)
  | .fn f a c => .fn f (renL ρ a) (renL ρ c)
  | .sle => .sle
  | .any => .any
  | .bad => .bad
  | .val v => .val v
def renL (ρ : List Nat) : List AV → List AV
  | [] => []
  | x :: l => ren ρ x :: renL ρ l
end
theorem renL_eq (ρ : List Nat) : ∀ l, renL ρ l = l.map (ren ρ)
  | [] => rfl
  | x :: l => by simp [renL, renL_eq ρ l]
theorem renL_vals (ρ : List Nat) {α : Type} (f : α → Value) : ∀ l : List α, renL ρ (l.map fun x => .val (f x)) = l.map fun x => .val (f x)
  | [] => rfl
  | x :: l => by simp [renL, ren, renL_vals ρ f l]
theorem renL_append (ρ : List Nat) (x y : List AV) : renL ρ (x ++ y) = renL ρ x ++ renL ρ y := by simp [renL_eq]
theorem renL_length (ρ : List Nat) (x : List AV) : (renL ρ x).length = x.length := by simp [renL_eq]
theorem renL_nil_iff (ρ : List Nat) (x : List AV) : renL ρ x = [] ↔ x = [] := by cases x <;> simp [renL]
def under (ρ : List Nat) (B : BM) : BM := fun i => (ρ[i]?).bind B
mutual
theorem VR_ren (ρ : List Nat) (B : BM) : ∀ (x : AV) (v : Value), VR B (ren ρ x) v ↔ VR (under ρ B) x v
  | .any, v => by simp [ren, VR]
  | .bad, v => by simp [ren, VR]
  | .sle, v => by simp [ren, VR]
  | .val x, v => by simp [ren, VR]
  | .ptr i off, v => by cases h : ρ[i]? <;> simp [ren, VR, under, h]
  | .sl i off len k cap, v => by
    cases h : ρ[i]? with
    | some j => simp [ren, VR, under, h]
    | none =>
      cases len with
      | zero => cases cap <;> simp [ren, VR, under, h]
      | succ n => simp [ren, VR, under, h]
  | .mp i, v => by cases h : ρ[i]? <;> simp [ren, VR, under, h]
  | .agg l, v => by simp only [ren, VR, VRs_ren ρ B l]
  | .tup l, v => by simp only [ren, VR, VRs_ren ρ B l]
  | .fn f a c, v => by simp only [ren, VR, VRs_ren ρ B a, VRs_ren ρ B c]
theorem VRs_ren (ρ : List Nat) (B : BM) : ∀ (x : List AV) (v : List Value), VRs B (renL ρ x) v ↔ VRs (under ρ B) x v
  | [], v => by simp [renL, VRs]
  | x :: l, v => by simp only [renL, VRs, VR_ren ρ B x, VRs_ren ρ B l]
end

/-! ### Objects -/
inductive AObj where
  | gone
  | cells (ro : Bool) (cs : List AV)
  | map (ro : Bool) (es : List (AV × AV))
  deriving Inhabited
def AObj.live : AObj → Bool
  | .gone => false
  | _ => true
def AObj.own : AObj → Bool
  | .gone => false
  | .cells ro _ => !ro
  | .map ro _ => !ro
theorem AObj.own_live {o : AObj} (h : o.own = true) : o.live = true := by cases o <;> simp_all [AObj.own, AObj.live]

/-- Cells of which something is known. -/
def noAny (l : List AV) : Prop := ∀ x ∈ l, x ≠ .any
theorem noAny_nil : noAny [] = True := by simp [noAny]
theorem noAny_cons (x : AV) (l : List AV) : noAny (x :: l) = (x ≠ .any ∧ noAny l) := by simp [noAny]
theorem noAny_app {l m : List AV} (h : noAny l) (k : noAny m) : noAny (l ++ m) := fun x hx => by
  rcases List.mem_append.1 hx with hx | hx
  · exact h x hx
  · exact k x hx
theorem noAny_vals {α : Type} (f : α → Value) (l : List α) : noAny (l.map fun x => .val (f x)) = True := by simp [noAny]
theorem noAny_vals0 (l : List Value) : noAny (l.map .val) = True := by simp [noAny]
theorem noAny_rows {α : Type} {f : α → List AV} (h : ∀ x, noAny (f x)) (l : List α) : noAny (l.flatMap f) := fun x hx => by
  obtain ⟨a, _, ha⟩ := List.mem_flatMap.1 hx
  exact h a x ha
theorem noAny_take {l : List AV} (n : Nat) (h : noAny l) : noAny (l.take n) := fun x hx => h x (List.mem_of_mem_take hx)
theorem noAny_drop {l : List AV} (n : Nat) (h : noAny l) : noAny (l.drop n) := fun x hx => h x (List.mem_of_mem_drop hx)
/-- Values of one cell, but where nobody knows. -/
def Ones (ro : Bool) (cs : List AV) (vs : List Value) : Prop := ∀ (i : Nat) (a : AV) (x : Value), cs[i]? = some a → vs[i]? = some x → (ro = true ∧ a = .any) ∨ x.oneCell' = true
theorem Ones.of {ro : Bool} {cs : List AV} {vs : List Value} (h : ∀ x ∈ vs, x.oneCell' = true) : Ones ro cs vs := fun i a x _ hx => .inr (h x (List.mem_of_getElem? hx))
theorem Ones.own {cs : List AV} {vs : List Value} (h : Ones false cs vs) (hl : vs.length ≤ cs.length) : ∀ x ∈ vs, x.oneCell' = true := fun x hx => by
  obtain ⟨i, hi⟩ := List.getElem?_of_mem hx
  have hlt := (List.getElem?_eq_some_iff.1 hi).1
  rcases h i _ x (List.getElem?_eq_getElem (by omega)) hi with h | h
  · cases h.1
  · exact h
theorem Ones.seg {ro : Bool} {cs : List AV} {vs : List Value} (h : Ones ro cs vs) (off n : Nat) (hn : ro = true → noAny ((cs.drop off).take n)) (hl : vs.length ≤ cs.length) : ∀ x ∈ (vs.drop off).take n, x.oneCell' = true := fun x hx => by
  obtain ⟨i, hi⟩ := List.getElem?_of_mem hx
  rw [List.getElem?_take] at hi
  split at hi
  · rename_i hin
    rw [List.getElem?_drop] at hi
    have hlt := (List.getElem?_eq_some_iff.1 hi).1
    have hc : cs[off + i]? = some cs[off + i] := List.getElem?_eq_getElem (by omega)
    rcases h (off + i) _ x hc hi with ⟨h1, h2⟩ | h
    · refine absurd h2 (hn h1 _ ?_)
      refine List.mem_of_getElem? (i := i) ?_
      rw [List.getElem?_take, if_pos hin, List.getElem?_drop, hc]
    · exact h
  · cases hi
def ER (B : BM) : List (AV × AV) → List MapEntry → Prop
  | [], es => es = []
  | (k, v) :: l, es => ∃ e rest, es = e :: rest ∧ VR B k e.key ∧ VR B v e.val ∧ ER B l rest
def born (clock : Nat) (es : List MapEntry) : Prop := (∀ e ∈ es, e.born < clock) ∧ (es.map (·.born)).Nodup
def OR (B : BM) : AObj → Option (Nat × Nat) → World → Prop
  | .gone, _, _ => True
  | .cells ro cs, p, w => (cs = [] ∧ p = none) ∨ ∃ b n arr T fz, p = some (b, n) ∧ w.heap[b]? = some (.cells arr T fz) ∧ arr.size = n ∧ VRs B cs (arr.toList.take cs.length) ∧ Ones ro cs (arr.toList.take cs.length) ∧ (ro = false → fz.2 ≤ fz.1 ∨ n ≤ fz.1)
  | .map ro es, p, w => ∃ b n arr clock, p = some (b, n) ∧ w.heap[b]? = some (.map arr clock) ∧ ER B es arr.toList ∧ born clock arr.toList
theorem ER.mono {B B' : BM} (hB : BLe B B') : ∀ {x : List (AV × AV)} {v : List MapEntry}, ER B x v → ER B' x v
  | [], _, h => by simpa [ER] using h
  | (k, v) :: l, es, h => by
    simp only [ER] at h ⊢
    obtain ⟨e, rest, h1, h2, h3, h4⟩ := h
    exact ⟨e, rest, h1, h2.mono hB, h3.mono hB, ER.mono hB h4⟩
theorem OR.mono {B B' : BM} (hB : BLe B B') {o : AObj} {p : Option (Nat × Nat)} {w : World} (h : OR B o p w) : OR B' o p w := by
  cases o with
  | gone => trivial
  | cells ro cs =>
    rcases h with h | ⟨b, n, arr, T, fz, h1, h2, h3, h4, h6, h5⟩
    · exact .inl h
    · exact .inr ⟨b, n, arr, T, fz, h1, h2, h3, VRs.mono hB h4, h6, h5⟩
  | map ro es =>
    obtain ⟨b, n, arr, clock, h1, h2, h3, h4⟩ := h
    exact ⟨b, n, arr, clock, h1, h2, h3.mono hB, h4⟩
theorem OR.congr {B : BM} {o : AObj} {p : Option (Nat × Nat)} {w w' : World} (h : OR B o p w)
    (hk : o.live = true → ∀ b n, p = some (b, n) → w'.heap[b]? = w.heap[b]?) : OR B o p w' := by
  cases o with
  | gone => trivial
  | cells ro cs =>
    rcases h with h | ⟨b, n, arr, T, fz, h1, h2, h3, h4, h6, h5⟩
    · exact .inl h
    · exact .inr ⟨b, n, arr, T, fz, h1, by rw [hk rfl b n h1]; exact h2, h3, h4, h6, h5⟩
  | map ro es =>
    obtain ⟨b, n, arr, clock, h1, h2, h3, h4⟩ := h
    exact ⟨b, n, arr, clock, h1, by rw [hk rfl b n h1]; exact h2, h3, h4⟩
/-- Where there is a block. -/
theorem OR.at_block {B : BM} {ro : Bool} {cs : List AV} {w : World} {b n : Nat} (h : OR B (.cells ro cs) (some (b, n)) w) : ∃ arr T fz, w.heap[b]? = some (.cells arr T fz) ∧ arr.size = n ∧ VRs B cs (arr.toList.take cs.length) ∧ Ones ro cs (arr.toList.take cs.length) ∧ (ro = false → fz.2 ≤ fz.1 ∨ n ≤ fz.1) := by
  rcases h with h | ⟨b, n, arr, T, fz, h1, h2⟩
  · cases h.2
  · cases h1; exact ⟨arr, T, fz, h2⟩
theorem OR.at_own {B : BM} {cs : List AV} {w : World} {b n : Nat} (h : OR B (.cells false cs) (some (b, n)) w) : ∃ arr T fz, w.heap[b]? = some (.cells arr T fz) ∧ arr.size = n ∧ VRs B cs (arr.toList.take cs.length) ∧ (∀ x ∈ arr.toList.take cs.length, x.oneCell' = true) ∧ (false = false → fz.2 ≤ fz.1 ∨ n ≤ fz.1) := by
  obtain ⟨arr, T, fz, h1, h2, h3, h4, h5⟩ := h.at_block
  exact ⟨arr, T, fz, h1, h2, h3, h4.own (by have := h3.length; omega), h5⟩
theorem OR.block {B : BM} {o : AObj} {b n : Nat} {w : World} (h : OR B o (some (b, n)) w) (hl : o.live = true) : b < w.heap.size := by
  have lt : ∀ {b : Nat} {x : Obj}, w.heap[b]? = some x → b < w.heap.size := fun {b x} e => by
    rcases Nat.lt_or_ge b w.heap.size with h | h
    · exact h
    · rw [Array.getElem?_eq_none h] at e; cases e
  cases o with
  | gone => cases hl
  | cells ro cs =>
    obtain ⟨arr, T, fz, h1, h2⟩ := h.at_block
    exact lt h1
  | map ro es =>
    obtain ⟨b, n, arr, clock, h1, h2, h3, h4⟩ := h
    cases h1
    exact lt h2
def renE (ρ : List Nat) : List (AV × AV) → List (AV × AV)
  | [] => []
  | (k, v) :: l => (ren ρ k, ren ρ v) :: renE ρ l
def renO (ρ : List Nat) : AObj → AObj
  | .gone => .gone
  | .cells ro cs => .cells ro (renL ρ cs)
  | .map ro es => .map ro (renE ρ es)
theorem ER_ren (ρ : List Nat) (B : BM) : ∀ (x : List (AV × AV)) (v : List MapEntry), ER B (renE ρ x) v ↔ ER (under ρ B) x v
  | [], v => by simp [renE, ER]
  | (k, x) :: l, v => by simp only [renE, ER, VR_ren ρ B, ER_ren ρ B l]
theorem ren_any (ρ : List Nat) (x : AV) : ren ρ x = .any ↔ x = .any := by
  cases x with
  | ptr i off => cases h : ρ[i]? <;> simp [ren, h]
  | sl i off len k cap =>
    cases h : ρ[i]? with
    | some j => simp [ren, h]
    | none =>
      cases len with
      | zero => cases cap <;> simp [ren, h]
      | succ n => simp [ren, h]
  | mp i => cases h : ρ[i]? <;> simp [ren, h]
  | _ => simp [ren]
theorem Ones_ren (ρ : List Nat) (ro : Bool) (cs : List AV) (vs : List Value) : Ones ro (renL ρ cs) vs ↔ Ones ro cs vs := by
  unfold Ones
  rw [renL_eq]
  constructor
  · intro h i a x ha hx
    have := h i (ren ρ a) x (by simp [ha]) hx
    rwa [ren_any] at this
  · intro h i a x ha hx
    rw [List.getElem?_map] at ha
    cases hc : cs[i]? with
    | none => rw [hc] at ha; cases ha
    | some y =>
      rw [hc] at ha
      simp only [Option.map_some, Option.some.injEq] at ha
      rw [← ha, ren_any]
      exact h i y x hc hx
theorem OR_ren (ρ : List Nat) (B : BM) (o : AObj) (p : Option (Nat × Nat)) (w : World) : OR B (renO ρ o) p w ↔ OR (under ρ B) o p w := by
  cases o with
  | gone => simp [renO, OR]
  | cells ro cs => simp only [renO, OR, VRs_ren, renL_length, renL_nil_iff, Ones_ren]
  | map ro es => simp only [renO, OR, ER_ren]
@[simp] theorem renO_live (ρ : List Nat) (o : AObj) : (renO ρ o).live = o.live := by cases o <;> rfl
@[simp] theorem renO_own (ρ : List Nat) (o : AObj) : (renO ρ o).own = o.own := by cases o <;> rfl

structure HR (B : BM) (h : Nat → AObj) (w : World) : Prop where
  obj : ∀ i, OR B (h i) (B i) w
  apart : ∀ i j b n m, i ≠ j → (h i).own = true → (h j).live = true → B i = some (b, n) → B j ≠ some (b, m)

structure Kept (mine : Nat → Prop) (w0 w : World) : Prop where
  os : w.os = w0.os
  tape : w.tape = w0.tape
  output : w.output = w0.output
  size : w0.heap.size ≤ w.heap.size
  block : ∀ b, b < w0.heap.size → ¬ mine b → w.heap[b]? = w0.heap[b]?
theorem Kept.refl (mine : Nat → Prop) (w : World) : Kept mine w w := ⟨rfl, rfl, rfl, Nat.le_refl _, fun _ _ _ => rfl⟩
theorem Kept.trans {mine mine' : Nat → Prop} {a b c : World} (h : Kept mine a b) (k : Kept mine' b c) (hm : ∀ x, x < a.heap.size → mine' x → mine x) : Kept mine a c :=
  ⟨k.os.trans h.os, k.tape.trans h.tape, k.output.trans h.output, Nat.le_trans h.size k.size,
    fun x hx hn => (k.block x (Nat.lt_of_lt_of_le hx h.size) (fun e => hn (hm x hx e))).trans (h.block x hx hn)⟩

/-- What may be written: blocks that were not there, and the owned ones of the footprint. -/
def Mine (B : BM) (h : Nat → AObj) (w : World) (b : Nat) : Prop := w.heap.size ≤ b ∨ ∃ i n, (h i).own = true ∧ B i = some (b, n)

structure Ctx where
  w0 : World
  mine : Nat → Prop
  new : ∀ b, w0.heap.size ≤ b → mine b
  n : Nat
  B0 : BM

structure S where
  t : Nat → AV
  h : Nat → AObj

structure Sim (C : Ctx) (N : Nat) (B : BM) (s : S) (a : Act) (w : World) : Prop where
  size : a.tmps.size = N
  dfr : a.defers = []
  t : ∀ j, VR B (s.t j) (a.tmps.getD j undef)
  hr : HR B s.h w
  mine : ∀ i b n, (s.h i).own = true → B i = some (b, n) → C.mine b
  kept : Kept C.mine C.w0 w
  anc : ∀ k, k < C.n → B k = C.B0 k

def put (t : Nat → AV) (dst : Option Nat) (v : AV) : Nat → AV :=
  match dst with
  | some d => fun j => if j = d then v else t j
  | none => t
theorem put_rel {B : BM} {t : Nat → AV} {a : Act} {dst : Option Nat} {v : AV} {r : Value} {N : Nat} (hs : a.tmps.size = N) (hd : ∀ d, dst = some d → d < N)
    (ht : ∀ j, VR B (t j) (a.tmps.getD j undef)) (hv : VR B v r) : ∀ j, VR B (put t dst v j) ((a.put dst r).tmps.getD j undef) := by
  intro j
  cases dst with
  | none => exact ht j
  | some d =>
    have hd' := hd d rfl
    simp only [put, Act.put]
    by_cases hj : j = d
    · subst hj
      rw [if_pos rfl]
      simpa [Array.getD_eq_getD_getElem?, hs, hd'] using hv
    · rw [if_neg hj]
      have := ht j
      simpa [Array.getD_eq_getD_getElem?, Array.getElem?_setIfInBounds_ne (Ne.symm hj)] using this

/-- The heap with some objects set. -/
def upd (h : Nat → AObj) (i : Nat) (o : AObj) : Nat → AObj := fun j => if j = i then o else h j
@[simp] theorem upd_same (h : Nat → AObj) (i : Nat) (o : AObj) : upd h i o i = o := by simp [upd]
theorem upd_ne (h : Nat → AObj) {i j : Nat} (o : AObj) (e : j ≠ i) : upd h i o j = h j := by simp [upd, e]

theorem getElem?_lt {α : Type} {a : Array α} {i : Nat} {x : α} (h : a[i]? = some x) : i < a.size := by
  rcases Nat.lt_or_ge i a.size with h' | h'
  · exact h'
  · rw [Array.getElem?_eq_none h'] at h; cases h

/-- An owned block is written: its object turns, all else stays. -/
theorem HR.write {B : BM} {h : Nat → AObj} {w w' : World} {i b n : Nat} {o : AObj} (hr : HR B h w) (ho : (h i).own = true) (hb : B i = some (b, n))
    (hk : ∀ x, x ≠ b → w'.heap[x]? = w.heap[x]?) (hn : OR B o (some (b, n)) w') : HR B (upd h i o) w' := by
  refine ⟨fun j => ?_, fun j k x m m' hjk hj hl hbj hbk => ?_⟩
  · by_cases e : j = i
    · subst e; rw [upd_same, hb]; exact hn
    · rw [upd_ne h o e]
      refine (hr.obj j).congr fun hl x m hx => hk x fun hxb => ?_
      subst hxb
      exact hr.apart i j x n m (Ne.symm e) ho hl hb hx
  · by_cases e : j = i
    · subst e
      rw [hb] at hbj
      cases hbj
      by_cases e' : k = j
      · exact hjk e'.symm
      · rw [upd_ne h o e'] at hl
        exact hr.apart j k b n m' hjk ho hl hb hbk
    · rw [upd_ne h o e] at hj
      by_cases e' : k = i
      · subst e'
        rw [hb] at hbk
        cases hbk
        exact hr.apart j k b m n hjk hj (AObj.own_live ho) hbj hb
      · rw [upd_ne h o e'] at hl
        exact hr.apart j k x m m' hjk hj hl hbj hbk

def setB (B : BM) (i : Nat) (p : Nat × Nat) : BM := fun j => if j = i then some p else B j
theorem BLe.setB {B : BM} {i : Nat} {p : Nat × Nat} (h : B i = none) : BLe B (setB B i p) := fun j q e => by
  by_cases hj : j = i
  · subst hj; rw [h] at e; cases e
  · simp [Am.setB, hj, e]
@[simp] theorem setB_same (B : BM) (i : Nat) (p : Nat × Nat) : setB B i p i = some p := by simp [setB]
theorem setB_ne (B : BM) {i j : Nat} (p : Nat × Nat) (e : j ≠ i) : setB B i p j = B j := by simp [setB, e]

/-- A new block. -/
theorem HR.new {B : BM} {h : Nat → AObj} {w w' : World} {i b n : Nat} {o : AObj} (hr : HR B h w) (hi : B i = none) (hb : w.heap.size ≤ b)
    (hk : ∀ x, x < w.heap.size → w'.heap[x]? = w.heap[x]?) (hn : OR (setB B i (b, n)) o (some (b, n)) w') : HR (setB B i (b, n)) (upd h i o) w' := by
  have live : ∀ j, j ≠ i → (h j).live = true → ∀ x m, B j = some (x, m) → x < w.heap.size := fun j _ hl x m hx => by
    have := hr.obj j
    rw [hx] at this
    exact this.block hl
  refine ⟨fun j => ?_, fun j k x m m' hjk hj hl hbj hbk => ?_⟩
  · by_cases e : j = i
    · subst e; rw [upd_same, setB_same]; exact hn
    · rw [upd_ne h o e, setB_ne B _ e]
      refine ((hr.obj j).mono (BLe.setB hi)).congr fun hl x m hx => hk x ?_
      exact live j e hl x m hx
  · by_cases e : j = i
    · subst e
      rw [setB_same] at hbj
      cases hbj
      have e' : k ≠ j := Ne.symm hjk
      rw [upd_ne h o e'] at hl
      rw [setB_ne B _ e'] at hbk
      have := live k e' hl _ _ hbk
      omega
    · rw [upd_ne h o e] at hj
      rw [setB_ne B _ e] at hbj
      by_cases e' : k = i
      · subst e'
        rw [setB_same] at hbk
        cases hbk
        have := live j e (AObj.own_live hj) _ _ hbj
        omega
      · rw [upd_ne h o e'] at hl
        rw [setB_ne B _ e'] at hbk
        exact hr.apart j k x m m' hjk hj hl hbj hbk

/-! ### A value that says less: nothing at all, or an empty slice for the nil one -/
mutual
def leA (v : AV) : AV → Prop
  | .any => True
  | .sl i off len k cap => match v with
    | .sl i' off' len' k' cap' => i' = i ∧ off' = off ∧ len' = len ∧ k' = k ∧ (cap' = cap ∨ cap = none)
    | .val (.slice none 0 0) => len = 0 ∧ cap = none
    | .sle => len = 0 ∧ cap = none
    | _ => False
  | .sle => v = .sle ∨ v = .val (.slice none 0 0)
  | .agg m => match v with
    | .agg l => leAs l m
    | _ => False
  | .tup m => match v with
    | .tup l => leAs l m
    | _ => False
  | .val x => v = .val x
  | .bad => v = .bad
  | .ptr i off => v = .ptr i off
  | .mp i => v = .mp i
  | .fn f a c => v = .fn f a c
def leAs (l : List AV) : List AV → Prop
  | [] => l = []
  | u :: m => match l with
    | v :: l => leA v u ∧ leAs l m
    | [] => False
end
mutual
theorem leA_ok {B : BM} : ∀ (u : AV) {v : AV} {x : Value}, leA v u → VR B v x → VR B u x
  | .any, v, x, h, hv => by simp [VR]
  | .sl i off len k cap, v, x, h, hv => by
    unfold leA at h
    split at h
    · obtain ⟨rfl, rfl, rfl, rfl, h⟩ := h
      rcases h with rfl | rfl
      · exact hv
      · simp only [VR] at hv ⊢
        rcases hv with ⟨h1, h2, h3⟩ | ⟨b, n, c, o, h1, h2, h3, h4, h5, h6⟩
        · exact .inl ⟨h1, trivial, h3⟩
        · exact .inr ⟨b, n, c, o, h1, h2, h3, h4, h5, fun m e => by cases e⟩
    · obtain ⟨rfl, rfl⟩ := h
      simp only [VR] at hv
      subst hv
      simp [VR]
    · obtain ⟨rfl, rfl⟩ := h
      simp only [VR] at hv ⊢
      exact .inl ⟨trivial, trivial, hv⟩
    · exact h.elim
  | .sle, v, x, h, hv => by
    simp only [leA] at h
    rcases h with rfl | rfl
    · exact hv
    · simp only [VR] at hv
      subst hv
      simp [VR]
  | .agg m, v, x, h, hv => by
    unfold leA at h
    split at h
    · simp only [VR] at hv ⊢
      obtain ⟨a, e, r, o⟩ := hv
      exact ⟨a, e, leAs_ok m h r, o⟩
    · exact h.elim
  | .tup m, v, x, h, hv => by
    unfold leA at h
    split at h
    · simp only [VR] at hv ⊢
      obtain ⟨a, e, r⟩ := hv
      exact ⟨a, e, leAs_ok m h r⟩
    · exact h.elim
  | .val y, v, x, h, hv => by simp only [leA] at h; rw [← h]; exact hv
  | .bad, v, x, h, hv => by simp only [leA] at h; rw [← h]; exact hv
  | .ptr i off, v, x, h, hv => by simp only [leA] at h; rw [← h]; exact hv
  | .mp i, v, x, h, hv => by simp only [leA] at h; rw [← h]; exact hv
  | .fn f a c, v, x, h, hv => by simp only [leA] at h; rw [← h]; exact hv
theorem leAs_ok {B : BM} : ∀ (m : List AV) {l : List AV} {xs : List Value}, leAs l m → VRs B l xs → VRs B m xs
  | [], l, xs, h, hv => by simp only [leAs] at h; rw [← h]; exact hv
  | u :: m, l, xs, h, hv => by
    unfold leAs at h
    split at h
    · simp only [VRs] at hv ⊢
      obtain ⟨v, rest, e, r, s⟩ := hv
      exact ⟨v, rest, e, leA_ok u h.1 r, leAs_ok m h.2 s⟩
    · exact h.elim
end
mutual
theorem leA_rfl : ∀ v : AV, leA v v
  | .agg l => by simp only [leA]; exact leAs_rfl l
  | .tup l => by simp only [leA]; exact leAs_rfl l
  | .val v => by simp only [leA]
  | .any => by simp only [leA]
  | .bad => by simp only [leA]
  | .ptr i o => by simp only [leA]
  | .sl i o l k c => by simp only [leA, true_or, and_self]
  | .sle => by simp only [leA, true_or]
  | .mp i => by simp only [leA]
  | .fn f a c => by simp only [leA]
theorem leAs_rfl : ∀ l : List AV, leAs l l
  | [] => by simp only [leAs]
  | x :: l => by simp only [leAs]; exact ⟨leA_rfl x, leAs_rfl l⟩
end
theorem leAs_of_eq {l m : List AV} (h : l = m) : leAs l m := by subst h; exact leAs_rfl l

def leO : AObj → AObj → Prop
  | _, .gone => True
  | .cells ro cs, .cells ro' ds => ro = ro' ∧ leAs cs ds
  | p, q => p = q
theorem leAs_length : ∀ (m : List AV) {l : List AV}, leAs l m → l.length = m.length
  | [], l, h => by simp only [leAs] at h; rw [h]
  | u :: m, l, h => by
    unfold leAs at h
    split at h
    · simp [leAs_length m h.2]
    · exact h.elim
theorem leA_any {u v : AV} (h : leA v u) (hv : v = .any) : u = .any := by
  subst hv
  cases u <;> simp [leA] at h ⊢
theorem leAs_get : ∀ {m l : List AV}, leAs l m → ∀ (i : Nat) {u : AV}, m[i]? = some u → ∃ v, l[i]? = some v ∧ leA v u
  | [], l, h, i, u, e => by simp at e
  | w :: m, l, h, i, u, e => by
    unfold leAs at h
    split at h
    · cases i with
      | zero => simp at e; subst e; exact ⟨_, rfl, h.1⟩
      | succ i => simpa using leAs_get h.2 i (by simpa using e)
    · exact h.elim
theorem leO_rfl (o : AObj) : leO o o := by cases o <;> simp [leO, leAs_rfl]
theorem leO_of_eq {o p : AObj} (h : o = p) : leO o p := by subst h; exact leO_rfl o
theorem leO_ok {B : BM} {o q : AObj} {p : Option (Nat × Nat)} {w : World} (h : leO o q) (ho : OR B o p w) : OR B q p w := by
  cases q with
  | gone => trivial
  | cells ro ds =>
    cases o with
    | gone => simp [leO] at h
    | map r es => simp [leO] at h
    | cells ro' cs =>
      simp only [leO] at h
      obtain ⟨rfl, h⟩ := h
      have hl := leAs_length ds h
      rcases ho with ⟨rfl, ho⟩ | ⟨b, n, arr, T, fz, h1, h2, h3, h4, h6, h5⟩
      · exact .inl ⟨by cases ds with | nil => rfl | cons => simp at hl, ho⟩
      · refine .inr ⟨b, n, arr, T, fz, h1, h2, h3, ?_, ?_, h5⟩
        · rw [← hl]; exact leAs_ok ds h h4
        · rw [← hl]
          intro i u x hu hx
          obtain ⟨v, hv, hle⟩ := leAs_get h i hu
          rcases h6 i v x hv hx with ⟨e1, e2⟩ | e
          · exact .inl ⟨e1, leA_any hle e2⟩
          · exact .inr e
  | map ro es => cases o <;> simp [leO] at h; rw [← h.1, ← h.2]; exact ho
theorem leO_own {o q : AObj} (h : leO o q) (hq : q.own = true) : o.own = true := by
  cases q <;> cases o <;> simp_all [leO, AObj.own]
theorem leO_live {o q : AObj} (h : leO o q) (hq : q.live = true) : o.live = true := by
  cases q <;> cases o <;> simp_all [leO, AObj.live]

end Go.Am
