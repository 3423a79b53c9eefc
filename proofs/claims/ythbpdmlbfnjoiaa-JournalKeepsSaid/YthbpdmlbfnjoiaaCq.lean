/- Own theory, no program in sight: the words of the machine for sums; the rows. -/
import Derived.Test.YthbpdmlbfnjoiaaCj
import Derived.Test.YthbpdmlbfnjoiaaAb
namespace Go.Crc
set_option linter.unusedSimpArgs false
set_option linter.unusedVariables false
set_option maxHeartbeats 4000000
open Go Go.Am
theorem x32 (a b : R) : bits .xor .u32 (a.toNat : Int) (b.toNat : Int) = ((a ^^^ b).toNat : Int) := by
  rw [u32_xor_nat _ _ a.isLt b.isLt, BitVec.toNat_xor]
theorem x32_poly (a : R) : bits .xor .u32 (a.toNat : Int) 3988292384 = ((a ^^^ poly).toNat : Int) := x32 a poly
theorem x32_not (a : R) : bits .xor .u32 4294967295 (a.toNat : Int) = ((~~~ a).toNat : Int) := by
  have := x32 (BitVec.allOnes 32) a
  rw [not_eq]
  exact this
theorem x32_not2 (a : R) : bits .xor .u32 (if IntKind.u32.signed = true then -1 else IntKind.u32.max) (a.toNat : Int) = ((~~~ a).toNat : Int) := x32_not a
theorem and1 (a : R) : bits .and .u32 (a.toNat : Int) 1 = (if a.getLsbD 0 then 1 else 0 : Int) := by
  have h := u32_and_nat a.toNat 1 a.isLt (by decide)
  rw [show ((1 : Nat) : Int) = 1 from rfl] at h
  rw [h, Nat.and_one_is_mod]
  rcases Nat.mod_two_eq_zero_or_one a.toNat with h2 | h2
  · have : a.getLsbD 0 = false := by simp [BitVec.getLsbD, Nat.testBit_zero, h2]
    rw [this, h2]; rfl
  · have : a.getLsbD 0 = true := by simp [BitVec.getLsbD, Nat.testBit_zero, h2]
    rw [this, h2]; rfl
theorem shr_k (a : R) (k m : Nat) (h : m = 2 ^ k) : (a.toNat : Int).fdiv (m : Int) = ((a >>> k).toNat : Int) := by
  rw [BitVec.toNat_ushiftRight, Nat.shiftRight_eq_div_pow, ← h, Int.fdiv_eq_ediv_of_nonneg _ (by omega), Int.natCast_ediv]
theorem shr1 (a : R) : (a.toNat : Int).fdiv (2 ^ Min.min 1 32) = ((a >>> 1).toNat : Int) := shr_k a 1 2 rfl
theorem shr8 (a : R) : (a.toNat : Int).fdiv (2 ^ Min.min 8 32) = ((a >>> 8).toNat : Int) := shr_k a 8 256 rfl
theorem shr16 (a : R) : (a.toNat : Int).fdiv (2 ^ Min.min 16 32) = ((a >>> 16).toNat : Int) := shr_k a 16 65536 rfl
theorem shr24 (a : R) : (a.toNat : Int).fdiv (2 ^ Min.min 24 32) = ((a >>> 24).toNat : Int) := shr_k a 24 16777216 rfl
theorem low8 (a : R) : IntKind.u8.wrap (a.toNat : Int) = ((a &&& 255#32).toNat : Int) := by
  rw [BitVec.toNat_and, show (255#32).toNat = 2 ^ 8 - 1 from rfl, Nat.and_two_pow_sub_one_eq_mod]
  simp [IntKind.wrap, IntKind.bits, IntKind.signed]
theorem by8_small {c : Int} (h0 : 0 ≤ c) (h1 : c ≤ 255) : (by8 c).toNat = c.toNat := by
  simp only [by8, BitVec.toNat_ofInt]
  omega
theorem and255 (a : R) : (a &&& 255#32).toNat = a.toNat % 256 := by
  rw [BitVec.toNat_and, show (255#32).toNat = 2 ^ 8 - 1 from rfl, Nat.and_two_pow_sub_one_eq_mod]
theorem and255_lt (a : R) : (a &&& 255#32).toNat < 256 := by rw [and255]; omega
theorem x8 (a : R) {c : Int} (h0 : 0 ≤ c) (h1 : c ≤ 255) : bits .xor .u8 ((a &&& 255#32).toNat : Int) c = (((a ^^^ by8 c) &&& 255#32).toNat : Int) := by
  rw [u8_xor _ _ (by omega) (by have := and255_lt a; omega) h0 (by omega)]
  congr 1
  have h2 : by8 c &&& 255#32 = by8 c := by
    apply BitVec.eq_of_toNat_eq
    rw [and255, by8_small h0 h1]; omega
  have h3 : (a ^^^ by8 c) &&& 255#32 = (a &&& 255#32) ^^^ by8 c := by
    conv => rhs; rw [← h2]
    apply BitVec.eq_of_getLsbD_eq; intro i _; simp only [BitVec.getLsbD_xor, BitVec.getLsbD_and]
    cases a.getLsbD i <;> cases (by8 c).getLsbD i <;> cases (255#32).getLsbD i <;> rfl
  rw [h3, BitVec.toNat_xor, by8_small h0 h1]
  simp
theorem by8_high {c : Int} (h0 : 0 ≤ c) (h1 : c ≤ 255) : by8 c >>> 8 = 0#32 := by
  apply BitVec.eq_of_toNat_eq
  rw [BitVec.toNat_ushiftRight, by8_small h0 h1, Nat.shiftRight_eq_div_pow]
  simp; omega
/-- A step of the program's is a step. -/
theorem step_row (v : R) {c : Int} (h0 : 0 ≤ c) (h1 : c ≤ 255) : mv ((v ^^^ by8 c) &&& 255#32) ^^^ v >>> 8 = mv (v ^^^ by8 c) := by
  rw [mv_row (v ^^^ by8 c), BitVec.ushiftRight_xor_distrib, by8_high h0 h1]; simp
theorem dns_last (n : Nat) (v : R) : dns (n + 1) v = dn (dns n v) := dns_add n 1 v
theorem dn_true {v : R} (h : v.getLsbD 0 = true) : (v >>> 1) ^^^ poly = dn v := by unfold dn; rw [h]; rfl
theorem dn_false {v : R} (h : v.getLsbD 0 = false) : v >>> 1 = dn v := (dn_low h).symm
def rw8 (i : Nat) : AV := .val (.int .u32 ((mv (BitVec.ofNat 32 i)).toNat : Int))
def rows : List AV := (List.range 256).map rw8
theorem rows_len : rows.length = 256 := by simp [rows]
theorem rows_get (i : Nat) (h : i < 256) : rows.getD i .bad = rw8 i := by
  simp [rows, List.getD_eq_getElem?_getD, h]
theorem rw8_ren (ρ : List Nat) (i : Nat) : ren ρ (rw8 i) = rw8 i := rfl
theorem toB_back {l : List Int} (h : ∀ x ∈ l, 0 ≤ x ∧ x ≤ 255) : (toB l).map (fun b => (b.toNat : Int)) = l := by
  induction l with
  | nil => rfl
  | cons c l ih =>
    have hc := h c (by simp)
    have h1 := ih fun d hd => h d (by simp [hd])
    simp only [toB, List.map_cons, List.cons.injEq] at h1 ⊢
    refine ⟨?_, h1⟩
    have : c.toNat % 256 = c.toNat := Nat.mod_eq_of_lt (by omega)
    simp [UInt8.toNat_ofNat', this]
    omega
/-- Texts of bytes are the same just if the bytes are. -/
theorem ba_beq {l m : List Int} (hl : ∀ x ∈ l, 0 ≤ x ∧ x ≤ 255) (hm : ∀ x ∈ m, 0 ≤ x ∧ x ≤ 255) : (({ data := (toB l).toArray } : ByteArray) == { data := (toB m).toArray }) = decide (l = m) := by
  have h0 : (({ data := (toB l).toArray } : ByteArray) == { data := (toB m).toArray }) = ((toB l).toArray == (toB m).toArray) := rfl
  rw [h0]
  by_cases h : l = m
  · subst h; simp
  · rw [decide_eq_false h]
    refine beq_eq_false_iff_ne.2 fun e => h ?_
    have e2 : toB l = toB m := by simpa using congrArg Array.toList e
    rw [← toB_back hl, ← toB_back hm, e2]
theorem _root_.Go.Am.Seg.byte {P : List AV} {o : Nat} {l : List Int} (s : Seg P o l) (i : Nat) (h : i < l.length) : P.getD (o + i) .bad = .val (.int .u8 l[i]) := by
  have h1 := congrArg (fun q => q[i]?) s.seg
  simp only [List.getElem?_take, h, if_true, List.getElem?_drop] at h1
  rw [List.getD_eq_getElem?_getD, h1]
  simp [bA, h]
/-- A table of which nothing was asked yet; one whose rows are made; one whose rows are being made. -/
def rows0 : List AV := List.replicate 256 (.val (.int .u32 0))
theorem rows0_len : rows0.length = 256 := List.length_replicate
theorem rows_ren (ρ : List Nat) : renL ρ rows = rows := by
  rw [renL_eq]; unfold rows; rw [List.map_map]; rfl
theorem rows0_ren (ρ : List Nat) : renL ρ rows0 = rows0 := by
  rw [renL_eq]; unfold rows0; rw [List.map_replicate]; rfl
def fl (i : Nat) : List AV := .val (.int .u32 0) :: .val (.int .i32 1) :: .val (.int .u32 0) :: (rows.take i ++ rows0.drop i)
theorem fl_len (i : Nat) (h : i ≤ 256) : (fl i).length = 259 := by simp [fl, rows_len, rows0_len]; omega
theorem fl_zero : fl 0 = .val (.int .u32 0) :: .val (.int .i32 1) :: .val (.int .u32 0) :: rows0 := by simp [fl]
theorem fl_end : fl 256 = .val (.int .u32 0) :: .val (.int .i32 1) :: .val (.int .u32 0) :: rows := by
  unfold fl
  rw [List.take_of_length_le (by rw [rows_len]; omega), List.drop_of_length_le (by rw [rows0_len]; omega)]; simp
theorem fl_ren (ρ : List Nat) (i : Nat) : renL ρ (fl i) = fl i := by
  unfold fl
  simp only [renL, ren, renL_append]
  congr 4
  · rw [renL_eq, List.map_take, ← renL_eq, rows_ren]
  · rw [renL_eq, List.map_drop, ← renL_eq, rows0_ren]
theorem fl_set (i : Nat) (h : i < 256) : (fl i).set (3 + i) (rw8 i) = fl (i + 1) := by
  unfold fl
  rw [show 3 + i = i + 1 + 1 + 1 by omega]
  simp only [List.set_cons_succ]
  congr 3
  rw [List.set_append_right _ _ (by simp [rows_len]; omega)]
  have e1 : i - (rows.take i).length = 0 := by simp [rows_len]; omega
  rw [e1]
  obtain ⟨x, l, hx⟩ : ∃ x l, rows0.drop i = x :: l := by
    cases h2 : rows0.drop i with
    | nil => have := congrArg List.length h2; simp [rows0_len] at this; omega
    | cons x l => exact ⟨x, l, rfl⟩
  have hd : rows0.drop (i + 1) = l := by rw [← List.drop_drop, hx]; rfl
  have ht : rows.take (i + 1) = rows.take i ++ [rw8 i] := by
    rw [List.take_add_one, List.getElem?_eq_getElem (by rw [rows_len]; exact h)]
    simp [rows]
  rw [hx, hd, ht]; simp
theorem fl_put (i : Nat) (h : i < 256) : (fl i).take (3 + i) ++ [.val (.int .u32 ((dns 8 (BitVec.ofNat 32 i)).toNat : Int))] ++ (fl i).drop (3 + i + 1) = fl (i + 1) := by
  have h2 := fl_set i h
  rw [List.set_eq_take_append_cons_drop, if_pos (by rw [fl_len i (by omega)]; omega)] at h2
  rw [List.append_assoc]; exact h2
/-- The cells of a table: were its rows asked for? -/
def tb (d : Bool) : List AV := .val (.int .u32 (cond d 1 0)) :: .val (.int .i32 0) :: .val (.int .u32 0) :: cond d rows rows0
theorem tb_ren (ρ : List Nat) (d : Bool) : renL ρ (tb d) = tb d := by
  unfold tb
  simp only [renL, ren]
  cases d <;> simp [rows_ren, rows0_ren]
theorem tb_len (d : Bool) : (tb d).length = 259 := by unfold tb; cases d <;> simp [rows_len, rows0_len]
theorem tb_get (i : Nat) (h : i < 256) : (tb true).getD (3 + i) .bad = .val (.int .u32 ((mv (BitVec.ofNat 32 i)).toNat : Int)) := by
  unfold tb
  rw [show 3 + i = i + 1 + 1 + 1 by omega]
  simp only [List.getD_cons_succ, cond_true]
  exact rows_get i h
set_option maxRecDepth 100000 in
theorem tb_lit : [AV.val (.int .u32 0), .val (.int .i32 0), .val (.int .u32 0), .val (.int .u32 0), .val (.int .u32 0), .val (.int .u32 0), .val (.int .u32 0), .val (.int .u32 0), .val (.int .u32 0), .val (.int .u32 0), .val (.int .u32 0), .val (.int .u32 0), .val (.int .u32 0), .val (.int .u32 0), .val (.int .u32 0), .val (.int .u32 0), .val (.int .u32 0), .val (.int .u32 0), .val (.int .u32 0), .val (.int .u32 0), .val (.int .u32 0), .val (.int .u32 0), .val (.int .u32 0), .val (.int .u32 0), .val (.int .u32 0), .val (.int .u32 0), .val (.int .u32 0), .val (.int .u32 0), .val (.int .u32 0), .val (.int .u32 0), .val (.int .u32 0), .val (.int .u32 0), .val (.int .u32 0), .val (.int .u32 0), .val (.int .u32 0), .val (.int .u32 0), .val (.int .u32 0), .val (.int .u32 0), .val (.int .u32 0), .val (.int .u32 0), .val (.int .u32 0), .val (.int .u32 0), .val (.int .u32 0), .val (.int .u32 0), .val (.int .u32 0), .val (.int .u32 0), .val (.int .u32 0), .val (.int .u32 0), .val (.int .u32 0), .val (.int .u32 0), .val (.int .u32 0), .val (.int .u32 0), .val (.int .u32 0), .val (.int .u32 0), .val (.int .u32 0), .val (.int .u32 0), .val (.int .u32 0), .val (.int .u32 0), .val (.int .u32 0), .val (.int .u32 0), .val (.int .u32 0), .val (.int .u32 0), .val (.int .u32 0), .val (.int .u32 0), .val (.int .u32 0), .val (.int .u32 0), .val (.int .u32 0), .val (.int .u32 0), .val (.int .u32 0), .val (.int .u32 0), .val (.int .u32 0), .val (.int .u32 0), .val (.int .u32 0), .val (.int .u32 0), .val (.int .u32 0), .val (.int .u32 0), .val (.int .u32 0), .val (.int .u32 0), .val (.int .u32 0), .val (.int .u32 0), .val (.int .u32 0), .val (.int .u32 0), .val (.int .u32 0), .val (.int .u32 0), .val (.int .u32 0), .val (.int .u32 0), .val (.int .u32 0), .val (.int .u32 0), .val (.int .u32 0), .val (.int .u32 0), .val (.int .u32 0), .val (.int .u32 0), .val (.int .u32 0), .val (.int .u32 0), .val (.int .u32 0), .val (.int .u32 0), .val (.int .u32 0), .val (.int .u32 0), .val (.int .u32 0), .val (.int .u32 0), .val (.int .u32 0), .val (.int .u32 0), .val (.int .u32 0), .val (.int .u32 0), .val (.int .u32 0), .val (.int .u32 0), .val (.int .u32 0), .val (.int .u32 0), .val (.int .u32 0), .val (.int .u32 0), .val (.int .u32 0), .val (.int .u32 0), .val (.int .u32 0), .val (.int .u32 0), .val (.int .u32 0), .val (.int .u32 0), .val (.int .u32 0), .val (.int .u32 0), .val (.int .u32 0), .val (.int .u32 0), .val (.int .u32 0), .val (.int .u32 0), .val (.int .u32 0), .val (.int .u32 0), .val (.int .u32 0), .val (.int .u32 0), .val (.int .u32 0), .val (.int .u32 0), .val (.int .u32 0), .val (.int .u32 0), .val (.int .u32 0), .val (.int .u32 0), .val (.int .u32 0), .val (.int .u32 0), .val (.int .u32 0), .val (.int .u32 0), .val (.int .u32 0), .val (.int .u32 0), .val (.int .u32 0), .val (.int .u32 0), .val (.int .u32 0), .val (.int .u32 0), .val (.int .u32 0), .val (.int .u32 0), .val (.int .u32 0), .val (.int .u32 0), .val (.int .u32 0), .val (.int .u32 0), .val (.int .u32 0), .val (.int .u32 0), .val (.int .u32 0), .val (.int .u32 0), .val (.int .u32 0), .val (.int .u32 0), .val (.int .u32 0), .val (.int .u32 0), .val (.int .u32 0), .val (.int .u32 0), .val (.int .u32 0), .val (.int .u32 0), .val (.int .u32 0), .val (.int .u32 0), .val (.int .u32 0), .val (.int .u32 0), .val (.int .u32 0), .val (.int .u32 0), .val (.int .u32 0), .val (.int .u32 0), .val (.int .u32 0), .val (.int .u32 0), .val (.int .u32 0), .val (.int .u32 0), .val (.int .u32 0), .val (.int .u32 0), .val (.int .u32 0), .val (.int .u32 0), .val (.int .u32 0), .val (.int .u32 0), .val (.int .u32 0), .val (.int .u32 0), .val (.int .u32 0), .val (.int .u32 0), .val (.int .u32 0), .val (.int .u32 0), .val (.int .u32 0), .val (.int .u32 0), .val (.int .u32 0), .val (.int .u32 0), .val (.int .u32 0), .val (.int .u32 0), .val (.int .u32 0), .val (.int .u32 0), .val (.int .u32 0), .val (.int .u32 0), .val (.int .u32 0), .val (.int .u32 0), .val (.int .u32 0), .val (.int .u32 0), .val (.int .u32 0), .val (.int .u32 0), .val (.int .u32 0), .val (.int .u32 0), .val (.int .u32 0), .val (.int .u32 0), .val (.int .u32 0), .val (.int .u32 0), .val (.int .u32 0), .val (.int .u32 0), .val (.int .u32 0), .val (.int .u32 0), .val (.int .u32 0), .val (.int .u32 0), .val (.int .u32 0), .val (.int .u32 0), .val (.int .u32 0), .val (.int .u32 0), .val (.int .u32 0), .val (.int .u32 0), .val (.int .u32 0), .val (.int .u32 0), .val (.int .u32 0), .val (.int .u32 0), .val (.int .u32 0), .val (.int .u32 0), .val (.int .u32 0), .val (.int .u32 0), .val (.int .u32 0), .val (.int .u32 0), .val (.int .u32 0), .val (.int .u32 0), .val (.int .u32 0), .val (.int .u32 0), .val (.int .u32 0), .val (.int .u32 0), .val (.int .u32 0), .val (.int .u32 0), .val (.int .u32 0), .val (.int .u32 0), .val (.int .u32 0), .val (.int .u32 0), .val (.int .u32 0), .val (.int .u32 0), .val (.int .u32 0), .val (.int .u32 0), .val (.int .u32 0), .val (.int .u32 0), .val (.int .u32 0), .val (.int .u32 0), .val (.int .u32 0), .val (.int .u32 0), .val (.int .u32 0), .val (.int .u32 0), .val (.int .u32 0), .val (.int .u32 0), .val (.int .u32 0), .val (.int .u32 0), .val (.int .u32 0), .val (.int .u32 0), .val (.int .u32 0)] = tb false := by
  unfold tb rows0
  rfl
attribute [irreducible] fl rows rows0 rw8 tb
end Go.Crc
