/- Own theory, no program in sight: the operations that write nothing. -/
import Derived.Test.YteggjhihpjjloaaAm1
namespace Go.Am
set_option linter.unusedSimpArgs false
set_option linter.unusedVariables false
set_option maxHeartbeats 4000000
open Go Go.RowKit
set_option linter.unusedVariables false
set_option linter.unusedSimpArgs false

inductive Opd where
  | t (n : Nat)
  | c (v : AV)
  deriving Inhabited
def absV : Value → AV
  | .agg cs => match cs.toList.all Value.oneCell' with | true => .agg (cs.toList.map .val) | false => .any
  | .bool b => .val (.bool b)
  | .int k n => .val (.int k n)
  | .float k n => .val (.float k n)
  | .complex k n m => .val (.complex k n m)
  | .string s => .val (.string s)
  | .pointer a => .val (.pointer a)
  | .slice a l c => .val (.slice a l c)
  | .map r => .val (.map r)
  | .chan r => .val (.chan r)
  | .func f a c => .val (.func f a c)
  | .nilFunc => .val .nilFunc
  | .iface t v => .val (.iface t v)
  | .nilIface => .val .nilIface
  | .tuple vs => .val (.tuple vs)
def opd : Operand → Opd
  | .tmp n => .t n
  | .const v => .c (absV v)
  | .global g => .c (.val (.pointer (some ⟨g, 0, none⟩)))
  | .func f => .c (.fn f [] [])
def evO (t : Nat → AV) : Opd → AV
  | .t n => t n
  | .c v => v
theorem absV_rel (B : BM) (v : Value) : VR B (absV v) v := by
  cases v <;> simp only [absV]
  case agg cs =>
    split
    · rename_i h
      simp only [VR]
      exact ⟨cs, rfl, VRs.vals _, List.all_eq_true.1 h⟩
    · simp [VR]
  all_goals simp [VR]
theorem ev_rel {B : BM} {t : Nat → AV} {a : Act} (ht : ∀ j, VR B (t j) (a.tmps.getD j undef)) (x : Operand) : VR B (evO t (opd x)) (a.eval x) := by
  cases x with
  | tmp n => exact ht n
  | const v => exact absV_rel B v
  | global g => simp [opd, evO, VR, Act.eval]
  | func f => simp [opd, evO, VR, VRs, Act.eval]
theorem evs_rel {B : BM} {t : Nat → AV} {a : Act} (ht : ∀ j, VR B (t j) (a.tmps.getD j undef)) (xs : List Operand) : VRs B (xs.map fun x => evO t (opd x)) (xs.map a.eval) := by
  induction xs with
  | nil => simp [VRs]
  | cons x l ih => simp only [List.map_cons, VRs]; exact ⟨_, _, rfl, ev_rel ht x, ih⟩

/-- Operations, their types looked up. -/
inductive AOp where
  | move | pick
  | un (op : UnOp) | bin (op : BinOp)
  | eqB (neg : Bool) | eqP (neg : Bool) | eqS (neg : Bool) | eqM (neg : Bool) | eqF (neg : Bool) | eqA (neg : Bool) (offs : List (Nat × Nat))
  | conv (k : IntKind) | strId
  | addr (off : Nat) | fld (agg : Bool) (off n : Nat)
  | ixS (k : Nat) | ixA (len k : Nat) | ixV (agg : Bool) (len k : Nat) | ixStr
  | build (zero : List Value) (parts : List (Nat × Nat))
  | ext (i : Nat) | mkFn (f : FuncId) (n : Nat)
  | slS (k : Nat) (lo hi mx : Bool) | slStr (lo hi : Bool) | slA (n k : Nat) (lo hi mx : Bool)
  | len | lenStr | lenA (n : Nat) | cap | min | max | nilChk
  | load (agg : Bool) (n : Nat) | toStr | lenM | lookup (kinds : List (Nat × Nat)) (zero : Value) (ok : Bool)
  | alloc (zero : List Value) | box (n : Nat) | buildSl (k len : Nat) (zero : List Value) (parts : List (Nat × Nat)) | makeSl (k bytes : Nat) (zero : List Value) | makeMap | toBytes | growN (k bytes : Nat)
  | store (n : Nat) | append (k bytes : Nat) (str : Bool) | copy (k : Nat) | call (f : FuncId) | callv
  | mapUpd (kinds : List (Nat × Nat)) | delete (kinds : List (Nat × Nat)) | other
  deriving Inhabited

/-! ### Quiet operations: what they yield, and under which condition -/
def intBin (op : BinOp) (k : IntKind) (a b : Int) : Option (Prop × Value) :=
  match op with
  | .add => some (True, .int k (k.wrap (a + b)))
  | .sub => some (True, .int k (k.wrap (a - b)))
  | .mul => some (True, .int k (k.wrap (a * b)))
  | .quo => some (b ≠ 0, .int k (k.wrap (a.tdiv b)))
  | .rem => some (b ≠ 0, .int k (a.tmod b))
  | .and => some (True, .int k (bits .and k a b))
  | .or => some (True, .int k (bits .or k a b))
  | .xor => some (True, .int k (bits .xor k a b))
  | .andNot => some (True, .int k (bits .andNot k a b))
  | .shl => some (0 ≤ b, .int k (k.wrap (a * 2 ^ (Min.min b.toNat k.bits))))
  | .shr => some (0 ≤ b, .int k (a.fdiv (2 ^ (Min.min b.toNat k.bits))))
  | .eql => some (True, .bool (a == b))
  | .neq => some (True, .bool (a != b))
  | .lss => some (True, .bool (decide (a < b)))
  | .leq => some (True, .bool (decide (a ≤ b)))
  | .gtr => some (True, .bool (decide (a > b)))
  | .geq => some (True, .bool (decide (a ≥ b)))
def strBin (op : BinOp) (x y : ByteArray) : Option (Prop × Value) :=
  match op with
  | .add => some (((x.size + y.size : Nat) : Int) ≤ IntKind.i64.max, .string (x ++ y))
  | .eql => some (True, .bool (x == y))
  | .neq => some (True, .bool !(x == y))
  | .lss => some (True, .bool (Op.bytesLess x.toList y.toList))
  | .leq => some (True, .bool (Op.bytesLess x.toList y.toList || x == y))
  | .gtr => some (True, .bool !(Op.bytesLess x.toList y.toList || x == y))
  | .geq => some (True, .bool !Op.bytesLess x.toList y.toList)
  | _ => none
def isShift : BinOp → Bool
  | .shl => true
  | .shr => true
  | _ => false
def binV (op : BinOp) (x y : Value) : Option (Prop × Value) :=
  match x, y with
  | .int k a, .int k' b => match isShift op with
    | true => intBin op k a b
    | false => (intBin op k a b).map fun r => (k = k' ∧ r.1, r.2)
  | .string a, .string b => strBin op a b
  | _, _ => none
def sepB (neg b : Bool) : Bool := cond neg (!b) b
def unV (op : UnOp) (x : Value) : Option Value :=
  match op, x with
  | .not, .bool b => some (.bool (!b))
  | .neg, .int k n => some (.int k (k.wrap (0 - n)))
  | .xor, .int k n => some (.int k (bits .xor k (if k.signed then -1 else k.max) n))
  | _, _ => none
def oneCellA : AV → Bool
  | .val v => v.oneCell'
  | .ptr .. => true
  | .sl .. => true
  | .mp .. => true
  | .fn .. => true
  | _ => false
def cellsA : AV → Option (List AV)
  | .agg l => some l
  | .val v => match v.oneCell' with | true => some [.val v] | false => none
  | .ptr i o => some [.ptr i o]
  | .sl i o l k c => some [.sl i o l k c]
  | .mp i => some [.mp i]
  | .fn f a c => some [.fn f a c]
  | _ => none
/-- Parts laid over cells. -/
def fillA (cells : List AV) : List (Nat × Nat) → List AV → Option (List AV)
  | [], [] => some cells
  | (off, n) :: ps, x :: xs =>
    match cellsA x with
    | none => none
    | some l => if l.length = n ∧ off + n ≤ cells.length then fillA (cells.take off ++ l ++ cells.drop (off + n)) ps xs else none
  | _, _ => none
/-- Are the leaves alike? (kinds: 0 an int, 1 a string, 2 a bool) -/
def eqLeaf (k : Nat) (x y : AV) : Option Bool :=
  match k, x, y with
  | 0, .val (.int j a), .val (.int j' b) => if j = j' then some (a == b) else none
  | 1, .val (.string a), .val (.string b) => some (a == b)
  | 2, .val (.bool a), .val (.bool b) => some (a == b)
  | _, _, _ => none
def eqCells (xs ys : List AV) : List (Nat × Nat) → Option Bool
  | [] => some true
  | (o, k) :: l => match eqLeaf k (xs.getD o .bad) (ys.getD o .bad), eqCells xs ys l with
    | some a, some r => some (a && r)
    | _, _ => none
def byteAt (s : ByteArray) (i : Int) : Int := ((s.data.toList.getD i.toNat 0).toNat : Int)
def intOf? : AV → Option Int
  | .val (.int _ n) => some n
  | _ => none
/-- The bounds of a slice expression, as they stand in the list of operands. -/
def takeI (o : Bool) (xs : List AV) : Option (Option Int × List AV) :=
  match o with
  | false => some (none, xs)
  | true => match xs with
    | .val (.int _ x) :: xs => some (some x, xs)
    | _ => none
def bounds (lo hi mx : Bool) (xs : List AV) : Option (Option Int × Option Int × Option Int) :=
  match takeI lo xs with
  | none => none
  | some (l, xs) => match takeI hi xs with
    | none => none
    | some (h, xs) => match takeI mx xs with
      | some (m, []) => some (l, h, m)
      | _ => none
/-- low, high, the end of the capacity (if known), and the condition. -/
def cutAt (len : Nat) (cap : Option Nat) (b : Option Int × Option Int × Option Int) : Prop × Nat × Nat × Option Nat :=
  let room := cap.getD len
  match b with
  | (lo, hi, some m) => (0 ≤ lo.getD 0 ∧ lo.getD 0 ≤ hi.getD len ∧ hi.getD len ≤ m ∧ m ≤ room, (lo.getD 0).toNat, (hi.getD len).toNat, some m.toNat)
  | (lo, hi, none) => (0 ≤ lo.getD 0 ∧ lo.getD 0 ≤ hi.getD len ∧ hi.getD len ≤ room, (lo.getD 0).toNat, (hi.getD len).toNat, cap)
def minA : Int → List AV → Option Int
  | x, [] => some x
  | x, .val (.int _ y) :: l => minA (if y < x then y else x) l
  | _, _ => none
def maxA : Int → List AV → Option Int
  | x, [] => some x
  | x, .val (.int _ y) :: l => maxA (if y > x then y else x) l
  | _, _ => none
def qPick : List AV → Option (Prop × AV)
  | [.val (.bool c), a, b] => some (True, cond c a b)
  | _ => none
def qMove : List AV → Option (Prop × AV)
  | [x] => some (True, x)
  | _ => none
def qUn (op : UnOp) : List AV → Option (Prop × AV)
  | [.val x] => (unV op x).map fun v => (True, .val v)
  | _ => none
def qBin (op : BinOp) : List AV → Option (Prop × AV)
  | [.val x, .val y] => (binV op x y).map fun r => (r.1, .val r.2)
  | _ => none
def qEqB (neg : Bool) : List AV → Option (Prop × AV)
  | [.val (.bool x), .val (.bool y)] => some (True, .val (.bool (sepB neg (x == y))))
  | _ => none
def qEqP (neg : Bool) : List AV → Option (Prop × AV)
  | [.ptr _ _, .val (.pointer none)] => some (True, .val (.bool (sepB neg false)))
  | [.val (.pointer none), .ptr _ _] => some (True, .val (.bool (sepB neg false)))
  | [.val (.pointer none), .val (.pointer none)] => some (True, .val (.bool (sepB neg true)))
  | [.ptr i o, .ptr j p] => some (i = j, .val (.bool (sepB neg (o == p))))
  | _ => none
def qEqS (neg : Bool) : List AV → Option (Prop × AV)
  | [.sl _ _ len _ cap, .val (.slice none _ _)] => some (match cap with | some _ => True | none => 0 < len, .val (.bool (sepB neg false)))
  | [.val (.slice none _ _), .val (.slice none _ _)] => some (True, .val (.bool (sepB neg true)))
  | [.val (.slice (some _) _ _), .val (.slice none _ _)] => some (True, .val (.bool (sepB neg false)))
  | _ => none
def qEqM (neg : Bool) : List AV → Option (Prop × AV)
  | [.mp _, .val (.map none)] => some (True, .val (.bool (sepB neg false)))
  | [.val (.map none), .val (.map none)] => some (True, .val (.bool (sepB neg true)))
  | _ => none
def qEqF (neg : Bool) : List AV → Option (Prop × AV)
  | [.fn _ _ _, .val .nilFunc] => some (True, .val (.bool (sepB neg false)))
  | [.val .nilFunc, .val .nilFunc] => some (True, .val (.bool (sepB neg true)))
  | _ => none
def qEqA (neg : Bool) (offs : List (Nat × Nat)) : List AV → Option (Prop × AV)
  | [.agg x, .agg y] => (eqCells x y offs).map fun b => (True, .val (.bool (sepB neg b)))
  | _ => none
def qConv (k : IntKind) : List AV → Option (Prop × AV)
  | [.val (.int _ n)] => some (True, .val (.int k (k.wrap n)))
  | _ => none
def qStr : List AV → Option (Prop × AV)
  | [.val (.string s)] => some (True, .val (.string s))
  | _ => none
def qAddr (off : Nat) : List AV → Option (Prop × AV)
  | [.ptr i p] => some (True, .ptr i (p + off))
  | _ => none
def qFld (agg : Bool) (off n : Nat) : List AV → Option (Prop × AV)
  | [.agg l] => match agg with
    | true => some (off + n ≤ l.length, .agg ((l.drop off).take n))
    | false => some (off < l.length, l.getD off .bad)
  | _ => none
def qIxS (k : Nat) : List AV → Option (Prop × AV)
  | [.sl i off len k' _, .val (.int _ x)] => some (k' = k ∧ 0 ≤ x ∧ x < len, .ptr i (off + x.toNat * k))
  | _ => none
def qIxA (len k : Nat) : List AV → Option (Prop × AV)
  | [.ptr i off, .val (.int _ x)] => some (0 ≤ x ∧ x < len, .ptr i (off + x.toNat * k))
  | _ => none
def qIxV (agg : Bool) (len k : Nat) : List AV → Option (Prop × AV)
  | [.agg l, .val (.int _ x)] => match agg with
    | true => some (0 ≤ x ∧ x < len ∧ l.length = len * k, .agg ((l.drop (x.toNat * k)).take k))
    | false => some (0 ≤ x ∧ x < len ∧ x.toNat * k < l.length, l.getD (x.toNat * k) .bad)
  | _ => none
def qIxStr : List AV → Option (Prop × AV)
  | [.val (.string s), .val (.int _ x)] => some (0 ≤ x ∧ x < s.size, .val (.int .u8 (byteAt s x)))
  | _ => none
def qBuild (zero : List Value) (parts : List (Nat × Nat)) (xs : List AV) : Option (Prop × AV) :=
  (fillA (zero.map .val) parts xs).map fun l => (True, .agg l)
def qExt (i : Nat) : List AV → Option (Prop × AV)
  | [.tup l] => some (i < l.length, l.getD i .bad)
  | _ => none
def qSlS (k : Nat) (lo hi mx : Bool) : List AV → Option (Prop × AV)
  | .sl i off len k' cap :: xs => (bounds lo hi mx xs).map fun b =>
      (k' = k ∧ (cutAt len cap b).1 ∧ (match mx, cap with | true, none => 0 < len | _, _ => True), .sl i (off + (cutAt len cap b).2.1 * k) ((cutAt len cap b).2.2.1 - (cutAt len cap b).2.1) k ((cutAt len cap b).2.2.2.map (· - (cutAt len cap b).2.1)))
  | .val (.slice none 0 0) :: xs => (bounds lo hi mx xs).map fun b => ((cutAt 0 (some 0) b).1, .val (.slice none 0 0))
  | _ => none
def qSlStr (lo hi : Bool) : List AV → Option (Prop × AV)
  | .val (.string s) :: xs => (bounds lo hi false xs).map fun b => ((cutAt s.size none b).1, .val (.string (s.extract (cutAt s.size none b).2.1 (cutAt s.size none b).2.2.1)))
  | _ => none
def qSlA (n k : Nat) (lo hi mx : Bool) (o : AObj) : List AV → Option (Prop × AV)
  | .ptr i off :: xs => match o with
    | .cells _ cs => (bounds lo hi mx xs).map fun b =>
      ((cutAt n (some n) b).1 ∧ off + n * k ≤ cs.length,
        .sl i (off + (cutAt n (some n) b).2.1 * k) ((cutAt n (some n) b).2.2.1 - (cutAt n (some n) b).2.1) k ((cutAt n (some n) b).2.2.2.map (· - (cutAt n (some n) b).2.1)))
    | _ => none
  | _ => none
def qLen : List AV → Option (Prop × AV)
  | [.sl _ _ n _ _] => some (True, .val (.int .i64 n))
  | [.val (.slice _ l _)] => some (True, .val (.int .i64 l))
  | _ => none
def qLenS : List AV → Option (Prop × AV)
  | [.val (.string s)] => some (True, .val (.int .i64 s.size))
  | _ => none
def qCap : List AV → Option (Prop × AV)
  | [.sl _ _ _ _ (some c)] => some (True, .val (.int .i64 c))
  | [.val (.slice none 0 0)] => some (True, .val (.int .i64 0))
  | _ => none
def qMin : List AV → Option (Prop × AV)
  | .val (.int k x) :: xs => (minA x xs).map fun r => (True, .val (.int k r))
  | _ => none
def qMax : List AV → Option (Prop × AV)
  | .val (.int k x) :: xs => (maxA x xs).map fun r => (True, .val (.int k r))
  | _ => none
def qNil : List AV → Option (Prop × AV)
  | [.ptr i off] => some (True, .ptr i off)
  | _ => none
def qLoad (agg : Bool) (n : Nat) (o : AObj) : List AV → Option (Prop × AV)
  | [.ptr _ off] => match o with
    | .cells ro cs => match agg with
      | true => some (off + n ≤ cs.length ∧ (ro = true → noAny ((cs.drop off).take n)), .agg ((cs.drop off).take n))
      | false => some (off < cs.length, cs.getD off .bad)
    | _ => none
  | _ => none
def int8? : AV → Option Int
  | .val (.int .u8 n) => some n
  | _ => none
def ints8 : List AV → Option (List Int)
  | [] => some []
  | x :: l => match int8? x, ints8 l with
    | some n, some r => some (n :: r)
    | _, _ => none
def toB (ns : List Int) : List UInt8 := ns.map fun n => UInt8.ofNat n.toNat
def qToStr (xs : List AV) (o : AObj) : Option (Prop × AV) :=
  match xs with
  | [.val (.slice none 0 0)] => some (True, .val (.string ⟨#[]⟩))
  | [.sl _ off len k _] => match o with
    | .cells _ cs => match ints8 ((cs.drop off).take len) with
      | some ns => some (k = 1 ∧ off + len ≤ cs.length, .val (.string ⟨(toB ns).toArray⟩))
      | none => none
    | _ => none
  | _ => none
def quiet (op : AOp) (xs : List AV) (o : AObj) : Option (Prop × AV) :=
  match op with
  | .move => qMove xs
  | .pick => qPick xs
  | .un op => qUn op xs
  | .bin op => qBin op xs
  | .eqB neg => qEqB neg xs
  | .eqP neg => qEqP neg xs
  | .eqS neg => qEqS neg xs
  | .eqM neg => qEqM neg xs
  | .eqF neg => qEqF neg xs
  | .eqA neg offs => qEqA neg offs xs
  | .conv k => qConv k xs
  | .strId => qStr xs
  | .addr off => qAddr off xs
  | .fld agg off n => qFld agg off n xs
  | .ixS k => qIxS k xs
  | .ixA len k => qIxA len k xs
  | .ixV agg len k => qIxV agg len k xs
  | .ixStr => qIxStr xs
  | .build zero parts => qBuild zero parts xs
  | .ext i => qExt i xs
  | .mkFn f n => some (True, .fn f (xs.take n) (xs.drop n))
  | .slS k lo hi mx => qSlS k lo hi mx xs
  | .slStr lo hi => qSlStr lo hi xs
  | .slA n k lo hi mx => qSlA n k lo hi mx o xs
  | .len => qLen xs
  | .lenStr => qLenS xs
  | .lenA n => some (True, .val (.int .i64 n))
  | .cap => qCap xs
  | .min => qMin xs
  | .max => qMax xs
  | .nilChk => qNil xs
  | .load agg n => qLoad agg n o xs
  | .toStr => qToStr xs o
  | _ => none
/-- The block that a quiet operation looks into. -/
def rid (op : AOp) (xs : List AV) : Option Nat :=
  match op, xs with
  | .load _ _, [.ptr i _] => some i
  | .toStr, [.sl i _ _ _ _] => some i
  | .slA .., .ptr i _ :: _ => some i
  | _, _ => none

end Go.Am
