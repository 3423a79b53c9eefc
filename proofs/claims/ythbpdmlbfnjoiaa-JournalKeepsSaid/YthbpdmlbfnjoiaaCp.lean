/- Own theory, no program in sight: the sum of bytes as a register that moves down; what linearity gives. -/
import Derived.Laws.BitsAllLaws
namespace Go.Crc
set_option linter.unusedSimpArgs false
set_option linter.unusedVariables false
set_option maxHeartbeats 4000000
set_option linter.unusedVariables false
abbrev R := BitVec 32
def poly : R := 0xEDB88320#32
def dn (v : R) : R := (v >>> 1) ^^^ (if v.getLsbD 0 then poly else 0#32)
def dns : Nat → R → R
  | 0, v => v
  | n + 1, v => dns n (dn v)
def mv (v : R) : R := dns 8 v
theorem dn_xor (a b : R) : dn (a ^^^ b) = dn a ^^^ dn b := by
  have h : (a ^^^ b) >>> 1 = (a >>> 1) ^^^ (b >>> 1) := BitVec.ushiftRight_xor_distrib ..
  unfold dn
  rw [h, BitVec.getLsbD_xor]
  generalize a >>> 1 = x; generalize b >>> 1 = y; cases a.getLsbD 0 <;> cases b.getLsbD 0 <;> (apply BitVec.eq_of_getLsbD_eq; intro i _; simp [Bool.xor_comm, Bool.xor_assoc, Bool.xor_left_comm])
theorem dns_xor (n : Nat) : ∀ a b : R, dns n (a ^^^ b) = dns n a ^^^ dns n b := by
  induction n with
  | zero => intro a b; rfl
  | succ n ih => intro a b; simp only [dns, dn_xor, ih]
theorem dns_add (m n : Nat) : ∀ v : R, dns (m + n) v = dns n (dns m v) := by
  induction m with
  | zero => intro v; simp [dns]
  | succ m ih => intro v; rw [Nat.succ_add]; simp only [dns, ih]
theorem dns_zero (n : Nat) : dns n 0#32 = 0#32 := by
  induction n with
  | zero => rfl
  | succ n ih => simp only [dns]; rw [show dn 0#32 = 0#32 by decide]; exact ih
theorem dn_low {v : R} (h : v.getLsbD 0 = false) : dn v = v >>> 1 := by unfold dn; rw [h]; simp
theorem dns_high (n : Nat) : ∀ v : R, (∀ i, i < n → v.getLsbD i = false) → dns n v = v >>> n := by
  induction n with
  | zero => intro v _; simp [dns]
  | succ n ih =>
    intro v h
    simp only [dns]
    rw [dn_low (h 0 (by omega)), ih]
    · rw [← BitVec.shiftRight_add, Nat.add_comm]
    · intro i hi
      rw [BitVec.getLsbD_ushiftRight]
      exact h _ (by omega)
/-- A step by a row. -/
theorem split8 (v : R) : v = (v &&& 255#32) ^^^ ((v >>> 8) <<< 8) := by
  apply BitVec.eq_of_getLsbD_eq
  intro i hi
  have e : (255#32).getLsbD i = decide (i < 8) := by revert i; decide
  rw [BitVec.getLsbD_xor, BitVec.getLsbD_and, BitVec.getLsbD_shiftLeft, BitVec.getLsbD_ushiftRight, e]
  by_cases h8 : i < 8
  · simp [h8, hi]
  · have e8 : 8 + (i - 8) = i := by omega
    simp only [h8, hi, e8]; simp
theorem mv_high (v : R) : mv ((v >>> 8) <<< 8) = v >>> 8 := by
  unfold mv
  rw [dns_high 8 _ (by intro i hi; rw [BitVec.getLsbD_shiftLeft]; simp [hi])]
  apply BitVec.eq_of_getLsbD_eq
  intro i hi
  simp only [BitVec.getLsbD_ushiftRight, BitVec.getLsbD_shiftLeft]
  by_cases h : 8 + i < 32
  · simp [h]
  · simp [h]
    rw [BitVec.getLsbD_of_ge]; omega
theorem dns_one {j : Nat} (hj : j < 32) : dns j (1#32 <<< j) = 1#32 := by
  rw [dns_high j _ (by intro i hi; rw [BitVec.getLsbD_shiftLeft]; simp [hi])]
  apply BitVec.eq_of_getLsbD_eq
  intro i hi
  simp only [BitVec.getLsbD_ushiftRight, BitVec.getLsbD_shiftLeft]
  by_cases h : j + i < 32
  · simp [h]
  · simp [h]; omega
theorem mv_row (v : R) : mv v = mv (v &&& 255#32) ^^^ v >>> 8 := by
  have h2 := mv_high v
  have h4 := dns_xor 8 (v &&& 255#32) ((v >>> 8) <<< 8)
  rw [← split8] at h4
  unfold mv at h2 ⊢
  rw [h4, h2]
theorem dn_inj {a : R} (h : dn a = 0#32) : a = 0#32 := by
  unfold dn at h
  have h31 := congrArg (BitVec.getLsbD · 31) h
  have e : a.getLsbD 0 = false := by
    cases hb : a.getLsbD 0 with
    | false => rfl
    | true =>
      exfalso
      rw [hb] at h31
      simp [poly] at h31
  rw [e] at h
  ext i hi
  rcases Nat.eq_zero_or_pos i with rfl | hp
  · simpa [BitVec.getLsbD_eq_getElem] using e
  · have := congrArg (BitVec.getLsbD · (i - 1)) h
    simp at this
    rw [show 1 + (i - 1) = i by omega] at this
    simpa [BitVec.getLsbD_eq_getElem hi] using this
theorem dns_inj (n : Nat) : ∀ {a : R}, dns n a = 0#32 → a = 0#32 := by
  induction n with
  | zero => intro a h; exact h
  | succ n ih => intro a h; exact dn_inj (ih h)
/-! ### Bytes -/
def by8 (c : Int) : R := BitVec.ofInt 32 c
def upd (v : R) (l : List Int) : R := l.foldl (fun v c => mv (v ^^^ by8 c)) v
theorem upd_nil (v : R) : upd v [] = v := rfl
theorem upd_cons (v : R) (c : Int) (l : List Int) : upd v (c :: l) = upd (mv (v ^^^ by8 c)) l := rfl
theorem upd_app (v : R) (l m : List Int) : upd v (l ++ m) = upd (upd v l) m := by simp [upd]
theorem mv_xor (a b : R) : mv (a ^^^ b) = mv a ^^^ mv b := dns_xor 8 a b
theorem xsw (a b c d : R) : (a ^^^ b) ^^^ (c ^^^ d) = (a ^^^ c) ^^^ (b ^^^ d) := by
  apply BitVec.eq_of_getLsbD_eq; intro i _; simp only [BitVec.getLsbD_xor]; cases a.getLsbD i <;> cases b.getLsbD i <;> cases c.getLsbD i <;> cases d.getLsbD i <;> rfl
theorem upd_xor (l : List Int) : ∀ a b : R, upd (a ^^^ b) l = dns (8 * l.length) a ^^^ upd b l := by
  induction l with
  | nil => intro a b; rfl
  | cons c l ih =>
    intro a b
    rw [upd_cons, upd_cons, BitVec.xor_assoc, mv_xor, ih, List.length_cons, Nat.mul_succ, Nat.add_comm, dns_add]
    rfl
/-- Two rows of bytes, as long as one another. -/
theorem upd_three {a b c : List Int} : ∀ {d : List Int} (p q r : R), a.length = d.length → b.length = d.length → c.length = d.length →
    (∀ i, i < d.length → by8 (d.getD i 0) = by8 (a.getD i 0) ^^^ by8 (b.getD i 0) ^^^ by8 (c.getD i 0)) → upd (p ^^^ q ^^^ r) d = upd p a ^^^ upd q b ^^^ upd r c := by
  induction a generalizing b c with
  | nil =>
    intro d p q r h1 h2 h3 _
    simp only [List.length_nil] at h1
    rw [← h1] at h2 h3
    obtain rfl := List.length_eq_zero_iff.1 h2
    obtain rfl := List.length_eq_zero_iff.1 h3
    obtain rfl := List.length_eq_zero_iff.1 h1.symm
    rfl
  | cons x a ih =>
    intro d p q r h1 h2 h3 h
    cases d with
    | nil => cases h1
    | cons w d =>
    cases b with
    | nil => cases h2
    | cons y b =>
    cases c with
    | nil => cases h3
    | cons z c =>
    simp only [List.length_cons, Nat.succ.injEq, Nat.add_right_cancel_iff] at h1 h2 h3
    have h0 := h 0 (by simp)
    simp only [List.getD_cons_zero] at h0
    simp only [upd_cons]
    rw [← ih _ _ _ h1 h2 h3 (fun i hi => by simpa using h (i + 1) (by simpa using hi)), ← mv_xor, ← mv_xor, h0]
    congr 2
    apply BitVec.eq_of_getLsbD_eq; intro i _; simp only [BitVec.getLsbD_xor]
    cases p.getLsbD i <;> cases q.getLsbD i <;> cases r.getLsbD i <;> cases (by8 x).getLsbD i <;> cases (by8 y).getLsbD i <;> cases (by8 z).getLsbD i <;> rfl
/-- The sum of bytes whose sum is told, and of others behind. -/
def more (s : R) (l : List Int) : R := ~~~ (upd (~~~ s) l)
def sum (l : List Int) : R := more 0#32 l
theorem more_app (s : R) (l m : List Int) : more s (l ++ m) = more (more s l) m := by simp [more, upd_app]
theorem sum_app (l m : List Int) : sum (l ++ m) = more (sum l) m := more_app _ _ _
theorem not_not (a : R) : ~~~ (~~~ a) = a := by simp
theorem not_eq (a : R) : ~~~ a = BitVec.allOnes 32 ^^^ a := by rw [BitVec.allOnes_xor]
theorem sum_join (l m : List Int) : sum (l ++ m) = dns (8 * m.length) (sum l) ^^^ sum m := by
  rw [sum_app]
  unfold sum more
  generalize upd (~~~ 0#32) l = x
  rw [not_not]
  have h1 : upd x m = upd (~~~ x ^^^ ~~~ 0#32) m := by congr 1; apply BitVec.eq_of_getLsbD_eq; intro i hi; simp only [BitVec.getLsbD_xor, BitVec.getLsbD_not, hi, decide_true, Bool.true_and]; simp
  rw [h1, upd_xor, not_eq, not_eq (upd (~~~ 0#32) m)]
  apply BitVec.eq_of_getLsbD_eq; intro i hi; simp only [BitVec.getLsbD_xor]
  cases (BitVec.allOnes 32).getLsbD i <;> cases (dns (8 * m.length) (~~~ x)).getLsbD i <;> cases (upd (~~~ 0#32) m).getLsbD i <;> rfl
/-! ### Marks -/
def le4 : Nat → R → List Int
  | 0, _ => []
  | k + 1, s => ((s &&& 255#32).toNat : Int) :: le4 k (s >>> 8)
theorem le4_length (k : Nat) : ∀ s, (le4 k s).length = k := by
  induction k with
  | zero => intro s; rfl
  | succ k ih => intro s; simp [le4, ih]
theorem by8_toNat (v : R) : by8 (v.toNat : Int) = v := by simp [by8]
theorem upd_le4 (k : Nat) : ∀ v s : R, s >>> (8 * k) = 0#32 → upd v (le4 k s) = dns (8 * k) (v ^^^ s) := by
  induction k with
  | zero => intro v s h; simp at h; simp [le4, upd, dns, h]
  | succ k ih =>
    intro v s h
    rw [le4, upd_cons, by8_toNat, ih, Nat.mul_succ, Nat.add_comm, dns_add]
    · congr 1
      have : dns 8 (v ^^^ s) = mv (v ^^^ (s &&& 255#32) ^^^ (s >>> 8) <<< 8) := by rw [BitVec.xor_assoc, ← split8]; rfl
      rw [this, mv_xor (v ^^^ (s &&& 255#32)), mv_high]
    · rw [← BitVec.shiftRight_add]; rw [Nat.mul_succ, Nat.add_comm] at h; exact h
def mkd (l : List Int) : List Int := l ++ le4 4 (sum l)
theorem mkd_length (l : List Int) : (mkd l).length = l.length + 4 := by simp [mkd, le4_length]
/-- What a marked row leaves in the register. -/
theorem upd_mkd (l : List Int) : upd (~~~ 0#32) (mkd l) = dns 32 (~~~ 0#32) := by
  rw [mkd, upd_app, upd_le4 4 _ _ (by apply BitVec.eq_of_getLsbD_eq; intro i hi; simp)]
  congr 1
  unfold sum more
  generalize upd (~~~ 0#32) l = x
  simp [not_eq]
  rw [BitVec.xor_comm x, BitVec.xor_assoc]; simp
/-- One bit is turned. -/
theorem upd_turn (v : R) {l : List Int} {p : Nat} (hp : p < l.length) {c : Int} {j : Nat} (hj : j < 8) (hc : by8 c = by8 (l.getD p 0) ^^^ (1#32 <<< j)) :
    upd v (l.set p c) = upd v l ^^^ dns (8 * l.length - (8 * p + j)) 1#32 := by
  induction l generalizing v p with
  | nil => cases hp
  | cons x l ih =>
    cases p with
    | zero =>
      simp only [List.getD_cons_zero] at hc
      simp only [List.set_cons_zero, upd_cons, hc, List.length_cons]
      rw [← BitVec.xor_assoc, mv_xor, BitVec.xor_comm, upd_xor, BitVec.xor_comm]
      congr 1
      rw [show 8 * (l.length + 1) - (8 * 0 + j) = (8 - j) + 8 * l.length by omega, dns_add]
      congr 1
      have e : dns 8 (1#32 <<< j) = dns (j + (8 - j)) (1#32 <<< j) := by rw [show j + (8 - j) = 8 by omega]
      unfold mv
      rw [e, dns_add, dns_one (by omega)]
    | succ p =>
      simp only [List.length_cons, Nat.add_lt_add_iff_right] at hp
      simp only [List.getD_cons_succ] at hc
      rw [List.set_cons_succ, upd_cons, upd_cons, ih _ hp hc, List.length_cons]
      congr 2
      omega
end Go.Crc
