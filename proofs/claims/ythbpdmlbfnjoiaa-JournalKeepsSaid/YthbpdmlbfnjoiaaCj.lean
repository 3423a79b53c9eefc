/- Own theory, no program in sight: products of registers; how sums are joined. -/
import Derived.Test.YthbpdmlbfnjoiaaCp
namespace Go.Crc
set_option linter.unusedSimpArgs false
set_option linter.unusedVariables false
set_option maxHeartbeats 4000000
set_option linter.unusedVariables false
def tm : Nat → R → R → R → R
  | 0, _, _, o => o
  | k + 1, a, b, o => tm k a (dn b) (if a.getLsbD k then o ^^^ b else o)
def mul (a b : R) : R := tm 32 a b 0#32
theorem x0 (a : R) : 0#32 ^^^ a = a := by simp
theorem tm_out (k : Nat) : ∀ a b o : R, tm k a b o = o ^^^ tm k a b 0#32 := by
  induction k with
  | zero => intro a b o; simp [tm]
  | succ k ih =>
    intro a b o
    simp only [tm]
    rw [ih, ih a (dn b) (if a.getLsbD k then 0#32 ^^^ b else 0#32)]
    cases a.getLsbD k
    · simp
    · simp [BitVec.xor_assoc]
theorem tm_succ (k : Nat) (a b : R) : tm (k + 1) a b 0#32 = (if a.getLsbD k then b else 0#32) ^^^ tm k a (dn b) 0#32 := by
  simp only [tm]; rw [tm_out, x0]
theorem tm_right (k : Nat) (a : R) : ∀ b c : R, tm k a (b ^^^ c) 0#32 = tm k a b 0#32 ^^^ tm k a c 0#32 := by
  induction k with
  | zero => intro b c; simp [tm]
  | succ k ih =>
    intro b c
    rw [tm_succ, tm_succ, tm_succ, dn_xor, ih, xsw]
    cases a.getLsbD k <;> simp
theorem tm_left (k : Nat) (a a' : R) : ∀ b : R, tm k (a ^^^ a') b 0#32 = tm k a b 0#32 ^^^ tm k a' b 0#32 := by
  induction k with
  | zero => intro b; simp [tm]
  | succ k ih =>
    intro b
    rw [tm_succ, tm_succ, tm_succ, ih, xsw, BitVec.getLsbD_xor]
    cases a.getLsbD k <;> cases a'.getLsbD k <;> simp
theorem tm_dn (k : Nat) (a : R) : ∀ b : R, tm k a (dn b) 0#32 = dn (tm k a b 0#32) := by
  induction k with
  | zero => intro b; simp only [tm]; decide
  | succ k ih =>
    intro b
    rw [tm_succ, tm_succ, dn_xor, ih (dn b)]
    cases a.getLsbD k
    · simp only [Bool.false_eq_true, if_false]; rw [show dn 0#32 = 0#32 by decide]
    · simp
theorem tm_zero (k : Nat) (a : R) : tm k a 0#32 0#32 = 0#32 := by
  induction k with
  | zero => rfl
  | succ k ih => rw [tm_succ, show dn 0#32 = 0#32 by decide, ih]; simp
theorem mul_right (a b c : R) : mul a (b ^^^ c) = mul a b ^^^ mul a c := tm_right 32 a b c
theorem mul_left (a b c : R) : mul (a ^^^ b) c = mul a c ^^^ mul b c := tm_left 32 a b c
theorem mul_dn (a b : R) : mul a (dn b) = dn (mul a b) := tm_dn 32 a b
theorem mul_dns (n : Nat) (a : R) : ∀ b : R, mul a (dns n b) = dns n (mul a b) := by
  induction n with
  | zero => intro b; rfl
  | succ n ih => intro b; simp only [dns]; rw [ih, mul_dn]
theorem tm_mul (k : Nat) (a b : R) : ∀ v : R, tm k a (mul b v) 0#32 = mul b (tm k a v 0#32) := by
  induction k with
  | zero => intro v; simp only [tm]; exact (tm_zero 32 b).symm
  | succ k ih =>
    intro v
    rw [tm_succ, tm_succ, mul_right, ← mul_dn, ih]
    cases a.getLsbD k
    · simp only [Bool.false_eq_true, if_false]; rw [show mul b 0#32 = 0#32 from tm_zero 32 b]
    · simp
theorem mul_comm2 (a b v : R) : mul a (mul b v) = mul b (mul a v) := tm_mul 32 a b v
def one : R := 1#32 <<< 31
theorem dn_shift {k : Nat} (hk : k < 31) : dn (1#32 <<< (k + 1)) = 1#32 <<< k := by
  rw [dn_low (by rw [BitVec.getLsbD_shiftLeft]; simp)]
  apply BitVec.eq_of_getLsbD_eq
  intro i hi
  simp only [BitVec.getLsbD_ushiftRight, BitVec.getLsbD_shiftLeft]
  by_cases h : 1 + i < 32
  · simp [h, hi]
    rw [show decide (1 + i < k + 1) = decide (i < k) by simp; omega, show 1 + i - (k + 1) = i - k by omega]
  · simp [h, hi]; omega
theorem tm_one (b : R) (k : Nat) (hk : k < 32) : ∀ i, (tm (k + 1) b (1#32 <<< k) 0#32).getLsbD i = (decide (i < k + 1) && b.getLsbD i) := by
  induction k with
  | zero =>
    intro i
    rw [tm_succ]
    simp only [tm]
    rcases Nat.eq_zero_or_pos i with rfl | hp
    · cases h : b.getLsbD 0 <;> simp_all
    · have e : decide (i < 0 + 1) = false := by simp; omega
      rw [e]
      have : (1#32 <<< 0).getLsbD i = false := by simp; omega
      cases h : b.getLsbD 0
      · simp
      · simp only [if_true, BitVec.getLsbD_xor, this]; simp
  | succ k ih =>
    intro i
    rw [tm_succ, dn_shift (by omega), BitVec.getLsbD_xor, ih (by omega)]
    by_cases h : i = k + 1
    · subst h
      have e : (1#32 <<< (k + 1)).getLsbD (k + 1) = true := by rw [BitVec.getLsbD_shiftLeft]; simp; omega
      cases hb : b.getLsbD (k + 1) <;> simp [e]
    · have e : (1#32 <<< (k + 1)).getLsbD i = false := by
        rw [BitVec.getLsbD_shiftLeft]
        by_cases h2 : i < k + 1
        · simp [h2]
        · simp; omega
      have e2 : (decide (i < k + 1)) = decide (i < k + 1 + 1) := by simp; omega
      rw [e2]
      cases hb : b.getLsbD (k + 1)
      · simp
      · simp only [if_true, e]; simp
theorem mul_one_right (b : R) : mul b one = b := by
  apply BitVec.eq_of_getLsbD_eq
  intro i hi
  have := tm_one b 31 (by omega) i
  unfold mul one
  rw [this]
  simp [hi]
theorem mul_one_left (v : R) : mul one v = v := by
  have h : mul one (mul v one) = mul v (mul one one) := mul_comm2 _ _ _
  rw [mul_one_right, mul_one_right, mul_one_right] at h
  exact h
/-- A product of a register that was moved is the product, moved. -/
theorem mul_comm (a b : R) : mul a b = mul b a := by
  have h : mul a (mul b one) = mul b (mul a one) := mul_comm2 _ _ _
  rwa [mul_one_right, mul_one_right] at h
theorem dn_mul (a v : R) : mul (dn a) v = dn (mul a v) := by rw [mul_comm, mul_dn, mul_comm]
theorem dns_mul (n : Nat) (a v : R) : mul (dns n a) v = dns n (mul a v) := by rw [mul_comm, mul_dns, mul_comm]
theorem mul_assoc (a b v : R) : mul (mul a b) v = mul a (mul b v) := by
  rw [mul_comm (mul a b) v, mul_comm2 v a b, mul_comm v b]
/-- How a register is moved by so many bytes. -/
def jn : Nat → Nat → R → R → R
  | 0, _, p, _ => p
  | k + 1, n, p, b => if n = 0 then p else jn k (n / 2) (if n % 2 = 1 then mul p b else p) (mul b b)
theorem jn_ok (k : Nat) : ∀ (n : Nat) (p b : R) (i m : Nat), n ≤ k → p = dns i one → b = dns m one → jn k n p b = dns (i + m * n) one := by
  induction k with
  | zero =>
    intro n p b i m hn hp hb
    obtain rfl : n = 0 := by omega
    simpa [jn] using hp
  | succ k ih =>
    intro n p b i m hn hp hb
    simp only [jn]
    by_cases h0 : n = 0
    · subst h0; simpa using hp
    · rw [if_neg h0]
      have hbb : mul b b = dns (m + m) one := by rw [hb, dns_mul, mul_one_left, ← dns_add]
      have hpb : mul p b = dns (i + m) one := by rw [hp, hb, dns_mul, mul_one_left, ← dns_add, Nat.add_comm]
      by_cases h1 : n % 2 = 1
      · rw [if_pos h1, ih (n / 2) _ _ (i + m) (m + m) (by omega) hpb hbb]
        congr 1
        have : n = 2 * (n / 2) + 1 := by omega
        generalize n / 2 = q at *
        subst this
        simp [Nat.mul_add, Nat.add_mul]; rw [← Nat.mul_assoc, Nat.mul_comm m 2, Nat.mul_assoc]; omega
      · rw [if_neg h1, ih (n / 2) _ _ i (m + m) (by omega) hp hbb]
        congr 1
        have : n = 2 * (n / 2) := by omega
        generalize n / 2 = q at *
        subst this
        simp [Nat.add_mul]; rw [← Nat.mul_assoc, Nat.mul_comm m 2, Nat.mul_assoc]; omega
def join (a c : R) (n : Nat) : R := mul (jn n n one (1#32 <<< 23)) a ^^^ c
theorem join_ok (a c : R) (n : Nat) : join a c n = dns (8 * n) a ^^^ c := by
  unfold join
  rw [jn_ok n n one (1#32 <<< 23) 0 8 (Nat.le_refl _) rfl (by decide), Nat.zero_add, dns_mul, mul_one_left]
theorem join_sum (l m : List Int) : join (sum l) (sum m) m.length = sum (l ++ m) := by rw [join_ok, sum_join]
/-- What a register becomes by bytes 0. -/
def pass (n : Nat) (v : R) : R := dns (8 * n) v
theorem pass_succ (n : Nat) (v : R) : pass (n + 1) v = mv (pass n v) := by
  unfold pass mv; rw [Nat.mul_succ, dns_add]
end Go.Crc
