/- Own theory, no program in sight: operations that write; contracts; one step of a region. -/
import Derived.Test.YteggjhihpjjloaaAm8
namespace Go.Am
set_option linter.unusedSimpArgs false
set_option linter.unusedVariables false
set_option maxHeartbeats 4000000
open Go Go.RowKit
set_option linter.unusedVariables false
set_option linter.unusedSimpArgs false

/-- Cells of zeros. -/
def zeros (n : Nat) (z : List Value) : List AV := ((List.replicate n z).flatten).map .val
def strCells (s : ByteArray) : List AV := s.data.toList.map fun b => .val (.int .u8 (b.toNat : Int))

def appRoom (m bytes : Nat) : Prop := m * bytes ≤ 140737488355328 ∧ 0 < bytes
/-- Operations that make one block: condition, value (of the new block's id), object. -/
def fresh (op : AOp) (xs : List AV) (f : Nat) : Option (Prop × AV × AObj) :=
  match op with
  | .alloc z => some (True, .ptr f 0, .cells false (z.map .val))
  | .box _ => match xs with
    | [x] => (cellsA x).map fun l => (True, .ptr f 0, .cells false l)
    | _ => none
  | .buildSl k len z parts => (fillA (zeros len z) parts xs).map fun l => (True, .sl f 0 len k (some len), .cells false l)
  | .makeSl k bytes z => match xs with
    | [.val (.int _ l), .val (.int _ c)] => some (0 ≤ l ∧ l ≤ c ∧ c < 9223372036854775808 ∧ (bytes : Int) * c ≤ 281474976710656, .sl f 0 l.toNat k (some c.toNat), .cells false (zeros c.toNat z))
    | _ => none
  | .makeMap => some (True, .mp f, .map false [])
  | .growN k bytes => match xs with
    | [.val (.slice none 0 0), .val (.int .i64 n)] => some (0 ≤ n ∧ appRoom n.toNat bytes, .sl f 0 n.toNat k none, .cells false [])
    | _ => none
  | .toBytes => match xs with
    | [.val (.string s)] => some (s.size < 9223372036854775808, .sl f 0 s.size 1 none, .cells false (strCells s))
    | _ => none
  | _ => none
def isFresh : AOp → Bool
  | .alloc _ => true
  | .box _ => true
  | .buildSl .. => true
  | .makeSl .. => true
  | .makeMap => true
  | .toBytes => true
  | .growN .. => true
  | _ => false
def isEff : AOp → Bool
  | .store _ => true
  | .append .. => true
  | .copy _ => true
  | .call _ => true
  | .callv => true
  | .mapUpd _ => true
  | .delete _ => true
  | _ => false
/-- The blocks that an operation looks into or writes. -/
def idOf : AV → List Nat
  | .ptr i _ => [i]
  | .sl i _ _ _ _ => [i]
  | .mp i => [i]
  | _ => []
def eids (op : AOp) (xs : List AV) : List Nat :=
  match op, xs with
  | .store _, x :: _ => idOf x
  | .append .., [x, y] => idOf x ++ idOf y
  | .copy _, [x, y] => idOf x ++ idOf y
  | .mapUpd _, x :: _ => idOf x
  | .delete _, x :: _ => idOf x
  | op, xs => (rid op xs).toList
def srcCells (k : Nat) (y : AV) (o : AObj) : Option (Prop × Nat × List AV) :=
  match y with
  | .val (.slice none 0 0) => some (True, 0, [])
  | .val (.slice (some _) 0 0) => some (True, 0, [])
  | .val (.string s) => some (k = 1, s.size, strCells s)
  | .sl _ off len k' _ => match o with
    | .cells ro cs => some (k' = k ∧ off + len * k ≤ cs.length ∧ (ro = true → noAny ((cs.drop off).take (len * k))), len, (cs.drop off).take (len * k))
    | _ => none
  | _ => none
def effStore (n : Nat) (f : Nat) (xs : List AV) (objs : List AObj) : Option (Prop × AV × List (Nat × AObj)) :=
  match xs, objs with
  | [.ptr i off, x], .cells false cs :: _ => (cellsA x).map fun l => (l.length = n ∧ off + n ≤ cs.length, .val undef, [(i, .cells false (cs.take off ++ l ++ cs.drop (off + n)))])
  | _, _ => none
def effAppend (k bytes : Nat) (f : Nat) (xs : List AV) (objs : List AObj) : Option (Prop × AV × List (Nat × AObj)) :=
  match xs, objs with
  | [.val (.slice none 0 0), y], objs => (srcCells k y (objs.headD .gone)).map fun r =>
      (r.1 ∧ appRoom r.2.1 bytes, .sl f 0 r.2.1 k none, [(f, .cells false r.2.2)])
  | [.sl i off len k' none, y], .cells false cs :: objs => (srcCells k y (objs.headD .gone)).map fun r =>
      (r.1 ∧ k' = k ∧ off = 0 ∧ len * k ≤ cs.length ∧ appRoom (len + r.2.1) bytes, .sl f 0 (len + r.2.1) k none, [(f, .cells false (cs.take (len * k) ++ r.2.2)), (i, .gone)])
  | [.sl i off len k' (some c), y], .cells ro cs :: objs => match srcCells k y (objs.headD .gone) with
    | none => none
    | some r => if len + r.2.1 ≤ c then
        (match ro with
          | false => some (r.1 ∧ k' = k ∧ off + (len + r.2.1) * k ≤ cs.length, .sl i off (len + r.2.1) k (some c), [(i, .cells false (cs.take (off + len * k) ++ r.2.2 ++ cs.drop (off + (len + r.2.1) * k)))])
          | true => none)
      else some (r.1 ∧ k' = k ∧ off + len * k ≤ cs.length ∧ appRoom (len + r.2.1) bytes ∧ (ro = true → noAny ((cs.drop off).take (len * k))), .sl f 0 (len + r.2.1) k none, [(f, .cells false ((cs.drop off).take (len * k) ++ r.2.2))])
  | _, _ => none
def effCopy (k : Nat) (f : Nat) (xs : List AV) (objs : List AObj) : Option (Prop × AV × List (Nat × AObj)) :=
  match xs, objs with
  | [.sl i off len k' _, y], .cells false cs :: objs => (srcCells k y (objs.headD .gone)).map fun r =>
      (r.1 ∧ k' = k ∧ off + len * k ≤ cs.length, .val (.int .i64 ((Min.min r.2.1 len : Nat) : Int)),
        [(i, .cells false (cs.take off ++ r.2.2.take (Min.min r.2.1 len * k) ++ cs.drop (off + Min.min r.2.1 len * k)))])
  | _, _ => none
def effD (op : AOp) (f : Nat) (xs : List AV) (objs : List AObj) : Option (Prop × AV × List (Nat × AObj)) :=
  match op with
  | .store n => effStore n f xs objs
  | .append k bytes _ => effAppend k bytes f xs objs
  | .copy k => effCopy k f xs objs
  | .call _ => none
  | .callv => none
  | op => (quiet op xs (objs.headD .gone)).map fun r => (r.1, r.2, [])

def updH (h : Nat → AObj) : List (Nat × AObj) → Nat → AObj
  | [] => h
  | p :: l => upd (updH h l) p.1 p.2

def listH (l : List AObj) (i : Nat) : AObj := l.getD i .gone

/-- Does a call come to a Go text? -/
def entersB (P : Program) (g : FuncId) : Bool :=
  match P.funcs[g]? with
  | some fn => !(fn.name == "runtime.NumGoroutine") && !fn.body.isNone
  | none => false
/-- A CONTRACT: called with these arguments over a footprint, the function returns, and the outcome is related. -/
def ACall (P : Program) (g : FuncId) (args : List AV) (H : List AObj) (R : AV → List AObj → Prop) : Prop :=
  entersB P g = true ∧ ∀ (B : BM) (w : World) (ra : Array Value), VRs B args ra.toList → HR B (listH H) w → (∀ i, H.length ≤ i → B i = none) →
    Calls P g ra w fun e w' => ∃ v H' rv B', e = .returned rv ∧ R v H' ∧ H.length ≤ H'.length ∧ (∀ i, i < H.length → B' i = B i) ∧ VR B' v rv ∧ HR B' (listH H') w' ∧ (∀ i, H'.length ≤ i → B' i = none) ∧
      Kept (Mine B (listH H) w) w w' ∧ (∀ i b n, (listH H' i).own = true → B' i = some (b, n) → Mine B (listH H) w b) ∧
      (∀ i, (listH H' i).live = true → (listH H' i).own = false → listH H' i = listH H i)

def setRo : AObj → AObj
  | .gone => .gone
  | .cells _ cs => .cells true cs
  | .map _ es => .map true es
/-- What the caller's object is to the callee. -/
def asFor (p o : AObj) : AObj :=
  match p with
  | .gone => .gone
  | .cells true _ => setRo o
  | .map true _ => setRo o
  | _ => o
def asForL : List AObj → List AObj → List AObj
  | p :: ps, o :: os => asFor p o :: asForL ps os
  | _, _ => []
def renOL (ρ : List Nat) : List AObj → List AObj
  | [] => []
  | o :: l => renO ρ o :: renOL ρ l
/-- The owned ones of the footprint have ids of their own. -/
def aloneB : List Nat → List AObj → Bool
  | i :: is, p :: ps => (is.zip ps).all (fun q => !((p.own || q.2.own) && p.live && q.2.live) || !(Nat.beq i q.1)) && aloneB is ps
  | _, _ => true
def newIds (f : Nat) : Nat → List Nat
  | 0 => []
  | n + 1 => f :: newIds (f + 1) n
def oldUps (ρ : List Nat) : List Nat → List AObj → List AObj → List (Nat × AObj)
  | i :: is, p :: ps, q :: qs => match p.own with
    | true => (i, renO ρ q) :: oldUps ρ is ps qs
    | false => oldUps ρ is ps qs
  | _, _, _ => []
def newUps (ρ : List Nat) (f : Nat) : List AObj → List (Nat × AObj)
  | [] => []
  | q :: qs => (f, renO ρ q) :: newUps ρ (f + 1) qs
def upsOf (ids : List Nat) (f : Nat) (H H' : List AObj) : List (Nat × AObj) :=
  let ρ := ids ++ newIds f (H'.length - H.length)
  newUps ρ f (H'.drop H.length) ++ oldUps ρ ids H H'
def leOL : List AObj → List AObj → Prop
  | _, [] => True
  | o :: l, q :: m => leO o q ∧ leOL l m
  | [], _ :: _ => False
theorem leOL_get : ∀ {l m : List AObj}, leOL l m → ∀ (i : Nat) {q : AObj}, m[i]? = some q → ∃ o, l[i]? = some o ∧ leO o q
  | _, [], _, i, q, h => by simp at h
  | [], _ :: _, h, _, _, _ => h.elim
  | o :: l, p :: m, h, 0, q, e => by simp at e; subst e; exact ⟨o, rfl, h.1⟩
  | o :: l, p :: m, h, i + 1, q, e => by simpa using leOL_get h.2 i (by simpa using e)
theorem leOL_of_eq : ∀ {l m : List AObj}, l = m → leOL l m
  | _, [], _ => by simp [leOL]
  | [], _ :: _, h => by cases h
  | o :: l, q :: m, h => by
    rw [List.cons.injEq] at h
    exact ⟨leO_of_eq h.1, leOL_of_eq h.2⟩
def CallSpec (P : Program) (g : FuncId) (xs : List AV) (f : Nat) (ids : List Nat) (objs : List AObj) (out : AV → List (Nat × AObj) → Prop) : Prop :=
  ∃ args H R, ACall P g args H R ∧ leAs xs (renL ids args) ∧ ids.length = H.length ∧ leOL (asForL H objs) (renOL ids H) ∧ aloneB ids H = true ∧ (∀ k ∈ ids, k < f) ∧ (∀ v H', R v H' → H'.length ≤ H.length + 16) ∧
    ∀ v H', R v H' → H.length ≤ H'.length → out (ren (ids ++ newIds f (H'.length - H.length)) v) (upsOf ids f H H')
def Spec (P : Program) (op : AOp) (f : Nat) (xs : List AV) (ids : List Nat) (objs : List AObj) (out : AV → List (Nat × AObj) → Prop) : Prop :=
  match op with
  | .call g => CallSpec P g xs f ids objs out
  | .callv => match xs with
    | .fn g first cap :: args => CallSpec P g (first ++ args ++ cap) f ids objs out
    | _ => False
  | op => ids = eids op xs ∧ ∃ c v ups, effD op f xs objs = some (c, v, ups) ∧ c ∧ out v ups

structure AOper where
  dst : Option Nat
  op : AOp
  xs : List Opd
  guard : Option (Option Nat × Bool)
  deriving Inhabited
/-- Is an operation carried out? (the slot of its guard's operation) -/
def wants (g : Option (Option Nat × Bool)) (t : Nat → AV) : Option Bool :=
  match g with
  | none => some true
  | some (none, _) => none
  | some (some d, want) => match t d with
    | .val (.bool b) => some (b == want)
    | .val (.tuple _) => some false
    | _ => none

structure Md where
  draw : Bool
  base : Nat
  R : List (Nat × AObj)
  E : List Nat
  F : List (Nat × Nat)
def findH : List (Nat × AObj) → Nat → AObj
  | [], _ => .gone
  | (k, v) :: l, n => match Nat.beq k n with | true => v | false => findH l n
def hasB : List Nat → Nat → Bool
  | [], _ => false
  | i :: l, k => cond (Nat.beq i k) true (hasB l k)
def Md.look (md : Md) (h : Nat → AObj) : Nat → AObj := cond md.draw (findH md.R) h
def Md.id (md : Md) (i : Nat) : Nat := md.base + 16 * i
def usOf (base : Nat) : List (Nat × Nat) → Nat → List Nat
  | [], _ => []
  | (j, i) :: l, k => cond (Nat.beq j k) ((base + 16 * i) :: usOf base l k) (usOf base l k)
def Md.U (md : Md) (j : Nat) : List Nat := usOf md.base md.F j
def lookO (f : Nat → AObj) : Option Nat → AObj
  | some j => f j
  | none => .gone
/-- An operation that is no effect: what it yields. -/
def simple (md : Md) (i : Nat) (op : AOp) (xs : List AV) (h : Nat → AObj) : Option (Prop × AV × List (Nat × AObj)) :=
  match isFresh op with
  | true => (fresh op xs (md.id i)).map fun r => (r.1, r.2.1, [(md.id i, r.2.2)])
  | false => (quiet op xs (lookO (md.look h) (rid op xs))).map fun r => (r.1, r.2, [])
def Eff (P : Program) (md : Md) (i : Nat) (op : AOp) (xs : List AV) (h : Nat → AObj) (K : AV → List (Nat × AObj) → Prop) : Prop :=
  ∃ ids out, Spec P op (md.id i) xs ids (ids.map h) out ∧ (∀ u ∈ md.U i, u ∉ ids) ∧ (md.draw = true → ∃ v ups, out v ups) ∧
    ∀ v ups, out v ups → (∀ u ∈ md.U i, u ∉ ups.map (·.1)) ∧ K v ups
/-- The blocks that are read in a region that draws are as they were. -/
def Md.ok (md : Md) (h : Nat → AObj) : Prop := md.draw = true → ∀ j, (findH md.R j).live = true → h j = findH md.R j
def Step (P : Program) (md : Md) (i : Nat) (o : AOper) (K : S → Prop) (s : S) : Prop :=
  match wants o.guard s.t with
  | none => False
  | some false => K ⟨put s.t o.dst (.val undef), s.h⟩
  | some true => match isEff o.op || hasB md.E i with
    | true => Eff P md i o.op (o.xs.map (evO s.t)) s.h fun v ups => md.ok (updH s.h ups) ∧ K ⟨put s.t o.dst v, updH s.h ups⟩
    | false => ∃ c v ups, simple md i o.op (o.xs.map (evO s.t)) s.h = some (c, v, ups) ∧ c ∧ K ⟨put s.t o.dst v, updH s.h ups⟩
def runP (P : Program) (md : Md) : List (Nat × AOper) → (S → Prop) → S → Prop
  | [], K, s => K s
  | (i, o) :: l, K, s => Step P md i o (runP P md l K) s

end Go.Am
