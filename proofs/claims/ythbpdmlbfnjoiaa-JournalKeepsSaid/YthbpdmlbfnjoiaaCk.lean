/- Own theory, no program in sight: bits that are turned within 32 in a row. -/
import Derived.Test.YthbpdmlbfnjoiaaCo6
namespace Go.Crc
set_option linter.unusedSimpArgs false
set_option linter.unusedVariables false
set_option maxHeartbeats 4000000
open Go Go.Am
theorem xor_u8 {a b : Int} (h1 : 0 ≤ a ∧ a ≤ 255) (h2 : 0 ≤ b ∧ b ≤ 255) : (0 ≤ bits .xor .u8 a b ∧ bits .xor .u8 a b ≤ 255) ∧ by8 (bits .xor .u8 a b) = by8 a ^^^ by8 b := by
  have e := u8_xor a b h1.1 (by omega) h2.1 (by omega)
  have hlt : a.toNat ^^^ b.toNat < 2 ^ 8 := Nat.xor_lt_two_pow (by omega) (by omega)
  have hr : 0 ≤ bits .xor .u8 a b ∧ bits .xor .u8 a b ≤ 255 := by rw [e]; omega
  refine ⟨hr, ?_⟩
  apply BitVec.eq_of_toNat_eq
  rw [by8_small hr.1 hr.2, BitVec.toNat_xor, by8_small h1.1 h1.2, by8_small h2.1 h2.2, e]
  simp
/-- A bit of a byte, turned. -/
def tb1 (c : Int) (j : Nat) : Int := bits .xor .u8 c ((2 ^ j : Nat) : Int)
theorem two_small {j : Nat} (h : j < 8) : (0 ≤ ((2 ^ j : Nat) : Int) ∧ ((2 ^ j : Nat) : Int) ≤ 255) ∧ by8 ((2 ^ j : Nat) : Int) = 1#32 <<< j := by
  revert h; revert j; decide
theorem tb1_ok {c : Int} (h : 0 ≤ c ∧ c ≤ 255) {j : Nat} (hj : j < 8) : (0 ≤ tb1 c j ∧ tb1 c j ≤ 255) ∧ by8 (tb1 c j) = by8 c ^^^ (1#32 <<< j) := by
  have t := two_small hj
  have := xor_u8 h t.1
  rw [t.2] at this
  exact this
/-- The bits of a register from a place on turned: the first so many. -/
def tn (l : List Int) (f : Nat) (y : R) : Nat → List Int
  | 0 => l
  | i + 1 => if y.getLsbD i then (tn l f y i).set ((f + i) / 8) (tb1 ((tn l f y i).getD ((f + i) / 8) 0) ((f + i) % 8)) else tn l f y i
def ct (y : R) : Nat → Nat
  | 0 => 0
  | i + 1 => if y.getLsbD i then ct y i + 1 else ct y i
def lo (y : R) : Nat → R
  | 0 => 0#32
  | i + 1 => if y.getLsbD i then lo y i ^^^ (1#32 <<< i) else lo y i
theorem tn_len (l : List Int) (f : Nat) (y : R) (i : Nat) : (tn l f y i).length = l.length := by
  induction i with
  | zero => rfl
  | succ i ih => simp only [tn]; split <;> simp [ih]
theorem ct_le (y : R) (i : Nat) : ct y i ≤ i := by
  induction i with
  | zero => simp [ct]
  | succ i ih => simp only [ct]; split <;> omega
theorem gd_ok {l : List Int} (h : ∀ x ∈ l, 0 ≤ x ∧ x ≤ 255) (i : Nat) : 0 ≤ l.getD i 0 ∧ l.getD i 0 ≤ 255 := by
  rw [List.getD_eq_getElem?_getD]
  cases hl : l[i]? with
  | none => simp
  | some x => exact h x (List.mem_of_getElem? hl)
theorem tn_bytes {l : List Int} (h : ∀ x ∈ l, 0 ≤ x ∧ x ≤ 255) (f : Nat) (y : R) (i : Nat) : ∀ x ∈ tn l f y i, 0 ≤ x ∧ x ≤ 255 := by
  induction i with
  | zero => exact h
  | succ i ih =>
    simp only [tn]
    split
    · intro x hx
      rcases List.mem_or_eq_of_mem_set hx with hx | rfl
      · exact ih x hx
      · exact (tb1_ok (gd_ok ih _) (Nat.mod_lt _ (by omega))).1
    · exact ih
theorem lo_bit (y : R) (i : Nat) : ∀ k, k < 32 → i ≤ 32 → (lo y i).getLsbD k = (decide (k < i) && y.getLsbD k) := by
  induction i with
  | zero => intro k _ _; simp [lo]
  | succ i ih =>
    intro k hk hi
    have h1 := ih k hk (by omega)
    simp only [lo]
    by_cases hki : k = i
    · subst hki
      have e : (1#32 <<< k).getLsbD k = true := by rw [BitVec.getLsbD_shiftLeft]; simp [hk]
      have e1 : (lo y k).getLsbD k = false := by rw [h1]; simp
      cases hy : y.getLsbD k
      · simp [e1]
      · simp only [if_true, BitVec.getLsbD_xor, e, e1]; simp
    · have e : (1#32 <<< i).getLsbD k = false := by
        rw [BitVec.getLsbD_shiftLeft]
        by_cases h2 : k < i
        · simp [h2]
        · simp [hk]; omega
      have e2 : decide (k < i + 1) = decide (k < i) := by simp; omega
      rw [e2]
      split
      · rw [BitVec.getLsbD_xor, e, h1]; simp
      · exact h1
theorem ct_lo (y : R) (i : Nat) (hi : i ≤ 32) (h : lo y i = 0#32) : ct y i = 0 := by
  have hb : ∀ k, k < i → y.getLsbD k = false := fun k hk => by
    have := lo_bit y i k (by omega) hi
    rw [h] at this
    simpa [hk] using this.symm
  clear h
  induction i with
  | zero => rfl
  | succ i ih =>
    simp only [ct, hb i (by omega)]
    exact ih (by omega) fun k hk => hb k (by omega)
theorem tn_upd {l : List Int} (h : ∀ x ∈ l, 0 ≤ x ∧ x ≤ 255) (f : Nat) (y v : R) (i : Nat) (hi : i ≤ 32) (hf : f + i ≤ 8 * l.length) :
    upd v (tn l f y i) = upd v l ^^^ dns (8 * l.length - f) (lo y i) := by
  induction i with
  | zero => simp only [tn, lo, dns_zero]; simp
  | succ i ih =>
    have h1 := ih (by omega) (by omega)
    simp only [tn, lo]
    split
    · have hp : (f + i) / 8 < (tn l f y i).length := by rw [tn_len]; omega
      have hj : (f + i) % 8 < 8 := Nat.mod_lt _ (by omega)
      rw [upd_turn v hp hj (tb1_ok (gd_ok (tn_bytes h f y i) _) hj).2, h1, tn_len, dns_xor, BitVec.xor_assoc]
      congr 2
      rw [show 8 * ((f + i) / 8) + (f + i) % 8 = f + i by omega, show 8 * l.length - f = i + (8 * l.length - (f + i)) by omega, dns_add, dns_one (by omega)]
    · exact h1
/-- Turned bits are told. -/
theorem turned_told {l : List Int} (h : ∀ x ∈ l, 0 ≤ x ∧ x ≤ 255) (f : Nat) (y : R) (i : Nat) (hi : i ≤ 32) (hf : f + i ≤ 8 * (mkd l).length) (hc : ct y i ≠ 0) : mkdB (tn (mkd l) f y i) = false := by
  have h1 := tn_upd (mkd_bytes h) f y (~~~ 0#32) i hi hf
  cases hm : mkdB (tn (mkd l) f y i) with
  | false => rfl
  | true =>
    exfalso
    obtain ⟨_, h2⟩ : 4 ≤ (tn (mkd l) f y i).length ∧ mkd ((tn (mkd l) f y i).take ((tn (mkd l) f y i).length - 4)) = tn (mkd l) f y i := by
      simpa [mkdB] using hm
    rw [← h2, upd_mkd, upd_mkd] at h1
    have h3 : dns (8 * (mkd l).length - f) (lo y i) = 0#32 := by
      have h4 := congrArg (dns 32 (~~~ 0#32) ^^^ ·) h1
      simp only [← BitVec.xor_assoc, BitVec.xor_self] at h4
      rw [x0] at h4
      exact h4.symm
    exact hc (ct_lo y i hi (dns_inj _ h3))
theorem mkdB_mkd (l : List Int) : mkdB (mkd l) = true := by
  have e : (mkd l).take ((mkd l).length - 4) = l := by
    rw [mkd_length, Nat.add_sub_cancel, mkd, List.take_left]
  unfold mkdB
  rw [e]
  simp [mkd_length]
theorem bit_at (y : R) (i : Nat) (hi : i < 32) : ((y >>> i).getLsbD 0) = y.getLsbD i := by rw [BitVec.getLsbD_ushiftRight, Nat.add_zero]
theorem shr_min (y : R) (i : Nat) (hi : i < 32) : (y.toNat : Int).fdiv (2 ^ Min.min i 32) = ((y >>> i).toNat : Int) := by
  rw [Nat.min_eq_left (by omega)]
  have := shr_k y i (2 ^ i) rfl
  rw [← this]; simp
theorem low16 (a : Int) : ∃ f : Nat, bits .and .i64 a 65535 = (f : Int) ∧ f < 65536 := by
  refine ⟨(BitVec.ofInt 64 a).toNat &&& 65535, ?_, ?_⟩
  · have h1 : (BitVec.ofInt 64 a).toNat &&& 65535 < 65536 := by
      rw [show 65535 = 2 ^ 16 - 1 from rfl, Nat.and_two_pow_sub_one_eq_mod]; omega
    show IntKind.i64.wrap ((BitVec.ofInt 64 a &&& BitVec.ofInt 64 65535).toNat : Int) = _
    rw [BitVec.toNat_and, show (BitVec.ofInt 64 65535).toNat = 65535 from rfl]
    generalize (BitVec.ofInt 64 a).toNat &&& 65535 = q at *
    simp [IntKind.wrap, IntKind.bits, IntKind.signed]
    omega
  · rw [show 65535 = 2 ^ 16 - 1 from rfl, Nat.and_two_pow_sub_one_eq_mod]; omega
theorem shl1 {j : Nat} (h : j < 8) : IntKind.u8.wrap (1 * 2 ^ min j 8) = ((2 ^ j : Nat) : Int) := by revert h; revert j; decide
theorem bA_getD2 {L : List Int} {a : Nat} (h : a < L.length) : (bA L).getD a .bad = .val (.int .u8 (L.getD a 0)) := by
  unfold bA
  rw [List.getD_eq_getElem?_getD, List.getD_eq_getElem?_getD, List.getElem?_map, List.getElem?_eq_getElem h]
  rfl
theorem bA_put2 (l : List Int) (i : Nat) (x : Int) (h : i < l.length) : bA (l.take i ++ [x] ++ l.drop (i + 1)) = bA (l.set i x) := by
  rw [List.set_eq_take_append_cons_drop, if_pos h]; simp
theorem zeros_bA2 (n : Nat) : List.map AV.val (List.replicate n [Value.int .u8 0]).flatten = bA (List.replicate n 0) := by
  simp [bA]
end Go.Crc
