/- Contracts: a reader's numbers, flags, texts; the document's cursor. -/
import Derived.Test.YtopidfkmligljaaGreatAo6
import Derived.Lib.EndianBits
import Derived.Test.YtopidfkmligljaaGreatEg5
/- Numbers as bytes: plain laws. -/
namespace Go.Proofs.YtopidfkmligljaaGreat
noncomputable section
set_option linter.unusedSimpArgs false
set_option linter.unusedVariables false
set_option maxHeartbeats 4000000
open Go Go.Am
theorem pow_8 (k : Nat) : (2 : Int) ^ (8 * k) = 256 ^ k := by rw [Int.pow_mul]; rfl
theorem byteI_eq (v : Int) (k : Nat) (hk : k ≤ 8) : byteI v (8 * k) = v / 256 ^ k % 256 := by
  unfold byteI
  rw [Nat.min_eq_left (by omega), Int.fdiv_eq_ediv_of_nonneg _ (Int.pow_nonneg (by decide)), pow_8]
  simp [IntKind.wrap, IntKind.bits, IntKind.signed]
theorem fitsI_eq (v : Int) (k : Nat) : fitsI v (k : Int) = (v / 256 ^ k == 0) := by
  unfold fitsI
  rw [Int.fdiv_eq_ediv_of_nonneg _ (Int.pow_nonneg (by decide)), show (8 * (k : Int)).toNat = 8 * k by omega, pow_8]
/-- The number of bytes, the lowest first. -/
def valI : List Int → Int
  | [] => 0
  | c :: l => c + 256 * valI l
theorem valI_app (c : Int) : ∀ l : List Int, valI (l ++ [c]) = valI l + c * 256 ^ l.length
  | [] => by simp [valI]
  | d :: l => by
    simp only [List.cons_append, valI, valI_app c l, List.length_cons, Int.pow_succ]
    generalize (256 : Int) ^ l.length = q
    rw [Int.mul_add, Int.add_assoc, Int.mul_left_comm, Int.mul_comm 256 q]
def bytesB (l : List Int) : Prop := ∀ c ∈ l, 0 ≤ c ∧ c ≤ 255
theorem valI_lt : ∀ {l : List Int}, bytesB l → 0 ≤ valI l ∧ valI l < 256 ^ l.length
  | [], _ => by simp [valI]
  | c :: l, h => by
    have h1 := h c (by simp)
    have h2 := valI_lt (l := l) fun d hd => h d (by simp [hd])
    simp only [valI, List.length_cons, Int.pow_succ]
    omega
theorem mod_pow (v : Int) (h : 0 ≤ v) (k : Nat) : v % 256 ^ k + v / 256 ^ k % 256 * 256 ^ k = v % 256 ^ (k + 1) := by
  obtain ⟨n, rfl⟩ := Int.eq_ofNat_of_zero_le h
  have := Nat.mod_mul (a := 256 ^ k) (b := 256) (x := n)
  rw [← Nat.pow_succ] at this
  rw [Int.mul_comm]
  have h2 := congrArg (Nat.cast : Nat → Int) this
  rw [Int.natCast_add, Int.natCast_mul, Int.natCast_emod, Int.natCast_emod, Int.natCast_emod, Int.natCast_ediv, Int.natCast_pow, Int.natCast_pow] at h2
  exact h2.symm
theorem valI_leI (v : Int) (h : 0 ≤ v) : ∀ k, k ≤ 8 → valI (leI v k) = v % 256 ^ k
  | 0, _ => by simp [leI, valI]
  | k + 1, hk => by
    rw [leI, valI_app, valI_leI v h k (by omega), leI_len, byteI_eq v k (by omega), mod_pow v h k]
theorem leI_bytes (v : Int) : ∀ k, bytesB (leI v k)
  | 0 => by simp [leI, bytesB]
  | k + 1 => fun c hc => by
    rw [leI] at hc
    rcases List.mem_append.1 hc with hc | hc
    · exact leI_bytes v k c hc
    · rw [List.mem_singleton.1 hc]; unfold byteI; simp [IntKind.wrap, IntKind.bits, IntKind.signed]; omega
theorem fits_val (v : Int) (h : 0 ≤ v) (k : Nat) (hk : k ≤ 8) (hf : fitsI v (k : Int) = true) : valI (leI v k) = v := by
  rw [valI_leI v h k hk]
  rw [fitsI_eq] at hf
  have h0 : v / 256 ^ k = 0 := by simpa using hf
  have h1 := Int.emod_add_mul_ediv v (256 ^ k)
  rw [h0] at h1
  simpa using h1
theorem or_zero (c : Int) (hc : 0 ≤ c ∧ c ≤ 255) : bits .or .u64 0 c = c := by
  have h : ∀ n : Fin 256, bits .or .u64 0 (n.val : Int) = (n.val : Int) := by decide +kernel
  have := h ⟨c.toNat, by omega⟩
  rwa [show ((⟨c.toNat, by omega⟩ : Fin 256).val : Int) = c by simp; omega] at this
/-- One byte more, laid above. -/
theorem or_step (u c : Int) (i : Nat) (hi : i < 8) (hu : 0 ≤ u ∧ u < 256 ^ i) (hc : 0 ≤ c ∧ c ≤ 255) : bits .or .u64 u (IntKind.u64.wrap (c * 2 ^ (min (8 * i) 64))) = u + c * 256 ^ i := by
  rw [Nat.min_eq_left (by omega), pow_8]
  match i, hi with
  | 0, _ =>
    obtain rfl : u = 0 := by simp at hu; omega
    rw [show IntKind.u64.wrap (c * 256 ^ 0) = c by rw [wrap_u64] <;> simp <;> omega]
    rw [or_zero c hc]
    simp
  | 1, _ =>
    simp only [Int.reducePow, Nat.reduceAdd] at hu ⊢
    rw [wrap_u64 (by omega) (by omega)]
    exact u64_or8 _ _ hu.1 (by omega) (by omega) (by omega) (by omega)
  | 2, _ =>
    simp only [Int.reducePow, Nat.reduceAdd] at hu ⊢
    rw [wrap_u64 (by omega) (by omega)]
    exact u64_or16 _ _ hu.1 (by omega) (by omega) (by omega) (by omega)
  | 3, _ =>
    simp only [Int.reducePow, Nat.reduceAdd] at hu ⊢
    rw [wrap_u64 (by omega) (by omega)]
    exact u64_or24 _ _ hu.1 (by omega) (by omega) (by omega) (by omega)
  | 4, _ =>
    simp only [Int.reducePow, Nat.reduceAdd] at hu ⊢
    rw [wrap_u64 (by omega) (by omega)]
    exact u64_or32 _ _ hu.1 (by omega) (by omega) (by omega) (by omega)
  | 5, _ =>
    simp only [Int.reducePow, Nat.reduceAdd] at hu ⊢
    rw [wrap_u64 (by omega) (by omega)]
    exact u64_or40 _ _ hu.1 (by omega) (by omega) (by omega) (by omega)
  | 6, _ =>
    simp only [Int.reducePow, Nat.reduceAdd] at hu ⊢
    rw [wrap_u64 (by omega) (by omega)]
    exact u64_or48 _ _ hu.1 (by omega) (by omega) (by omega) (by omega)
  | 7, _ =>
    simp only [Int.reducePow, Nat.reduceAdd] at hu ⊢
    rw [wrap_u64 (by omega) (by omega)]
    exact u64_or56 _ _ hu.1 (by omega) (by omega) (by omega) (by omega)
end
end Go.Proofs.YtopidfkmligljaaGreat
namespace Go.Proofs.YtopidfkmligljaaGreat
noncomputable section
set_option linter.unusedSimpArgs false
set_option linter.unusedVariables false
set_option maxHeartbeats 4000000
open Go Go.Am
set_option maxRecDepth 100000
/- quidnunc/quidnuncref01.Width -/
/- quidnunc/quidnuncref01.Value -/
/- quidnunc/quidnuncref01.fail -/
/- quidnunc/quidnuncref01.Raw -/
/- quidnunc/quidnuncref01.Take -/
/- quidnunc/quidnuncref01.Flag -/
/- quidnunc/quidnuncref01.Text -/
/- quidnunc/quidnuncref01.Done -/
/- (*quidnunc/octets.Reader).Number -/
def c70_1 : ACode := .region false [⟨some 4, .move, [.c (.val (.int .u64 0))], none⟩] [] [] [0, 1] false [] []
def c70_4 : ACode := .region false [⟨some 8, .move, [.t 1], none⟩,
  ⟨some 9, .bin .lss, [.t 8, .c (.val (.int .i64 1))], none⟩,
  ⟨some 10, .move, [.t 9], none⟩,
  ⟨some 11, .move, [.t 1], some (some 10, false)⟩,
  ⟨some 12, .bin .gtr, [.t 11, .c (.val (.int .i64 8))], some (some 10, false)⟩,
  ⟨some 13, .pick, [.t 10, .c (.val (.bool true)), .t 12], none⟩] [] [] [0, 1, 13] false [] []
def c70_7 : ACode := .region false [⟨some 14, .move, [.t 0], none⟩,
  ⟨some 15, .nilChk, [.t 14], none⟩,
  ⟨some 16, .addr 0, [.t 15], none⟩,
  ⟨some 17, .call 26, [.t 16, .c (.val (.int .i64 1))], none⟩] [] [] [] true [] []
def c70_9 : ACode := .region false [⟨some 4, .move, [.c (.val (.int .u64 0))], none⟩] [] [] [4] false [] []
def c70_8 : ACode := .seq c70_9 .ret
def c70_6 : ACode := .seq c70_7 c70_8
def c70_5 : ACode := .cond (.t 13) c70_6 .skip
def c70_3 : ACode := .seq c70_4 c70_5
def c70_12 : ACode := .region false [⟨some 18, .move, [.t 0], none⟩,
  ⟨some 19, .move, [.t 1], none⟩,
  ⟨some 20, .call 126, [.t 18, .t 19], none⟩,
  ⟨some 21, .un .not, [.t 20], none⟩] [] [] [0, 1, 21] true [] []
def c70_15 : ACode := .region false [⟨some 4, .move, [.c (.val (.int .u64 0))], none⟩] [] [] [4] false [] []
def c70_14 : ACode := .seq c70_15 .ret
def c70_13 : ACode := .cond (.t 21) c70_14 .skip
def c70_11 : ACode := .seq c70_12 c70_13
def c70_17 : ACode := .region false [⟨some 5, .move, [.c (.val (.int .u64 0))], none⟩] [] [] [0, 1, 5] false [] []
def c70_20 : ACode := .region false [⟨some 22, .move, [.t 0], none⟩,
  ⟨some 23, .move, [.t 1], none⟩,
  ⟨some 24, .call 127, [.t 22, .t 23], none⟩,
  ⟨some 25, .len, [.t 24], none⟩,
  ⟨some 26, .move, [.c (.val (.int .i64 0))], none⟩] [] [] [5, 24, 25, 26] true [] []
def c70_24 : ACode := .region false [⟨some 27, .bin .lss, [.t 26, .t 25], none⟩] [] [] [5, 24, 25, 26, 27] false [] []
def c70_26 : ACode := .cond (.t 27) .skip (.exit 0)
def c70_30 : ACode := .region false [⟨some 28, .move, [.t 26], none⟩,
  ⟨some 29, .ixS 1, [.t 24, .t 26], none⟩,
  ⟨some 30, .load false 1, [.t 29], none⟩,
  ⟨some 6, .move, [.t 28], none⟩,
  ⟨some 7, .move, [.t 30], none⟩] [] [] [5, 6, 7, 24, 25, 26] false [] []
def c70_31 : ACode := .region false [⟨some 31, .move, [.t 5], none⟩,
  ⟨some 32, .move, [.t 7], none⟩,
  ⟨some 33, .conv .u64, [.t 32], none⟩,
  ⟨some 34, .move, [.t 6], none⟩,
  ⟨some 35, .bin .mul, [.c (.val (.int .i64 8)), .t 34], none⟩,
  ⟨some 36, .bin .shl, [.t 33, .t 35], none⟩,
  ⟨some 37, .bin .or, [.t 31, .t 36], none⟩,
  ⟨some 5, .move, [.t 37], none⟩] [] [] [5, 24, 25, 26] false [] []
def c70_29 : ACode := .seq c70_30 c70_31
def c70_28 : ACode := .block 1 c70_29
def c70_32 : ACode := .region false [⟨some 38, .bin .add, [.t 26, .c (.val (.int .i64 1))], none⟩,
  ⟨some 26, .move, [.t 38], none⟩] [] [] [5, 24, 25, 26] false [] []
def c70_27 : ACode := .seq c70_28 c70_32
def c70_25 : ACode := .seq c70_26 c70_27
def c70_23 : ACode := .seq c70_24 c70_25
def c70_22 : ACode := .loop c70_23
def c70_21 : ACode := .block 0 c70_22
def c70_19 : ACode := .seq c70_20 c70_21
def c70_34 : ACode := .region false [⟨some 39, .move, [.t 5], none⟩,
  ⟨some 4, .move, [.t 39], none⟩] [] [] [4] false [] []
def c70_33 : ACode := .seq c70_34 .ret
def c70_18 : ACode := .seq c70_19 c70_33
def c70_16 : ACode := .seq c70_17 c70_18
def c70_10 : ACode := .seq c70_11 c70_16
def c70_2 : ACode := .seq c70_3 c70_10
def c70_0 : ACode := .seq c70_1 c70_2
def code70 : Code := (Tryz.f70.body).getD .skip
theorem c70_ok : compC Tryz.prog 40 code70 = some (strip c70_0) := by kernel_rfl
theorem res70_ok : Tryz.f70.results.toList.mapM (resC Tryz.prog) = some [(4, none)] := by kernel_rfl
/- (*quidnunc/octets.Reader).Flag -/
def c66_1 : ACode := .region false [⟨some 2, .move, [.c (.val (.bool false))], none⟩] [] [] [0] false [] []
def c66_4 : ACode := .region false [⟨some 3, .move, [.t 0], none⟩,
  ⟨some 4, .call 126, [.t 3, .c (.val (.int .i64 1))], none⟩,
  ⟨some 5, .un .not, [.t 4], none⟩] [] [] [0, 5] true [] []
def c66_7 : ACode := .region false [⟨some 2, .move, [.c (.val (.bool false))], none⟩] [] [] [2] false [] []
def c66_6 : ACode := .seq c66_7 .ret
def c66_5 : ACode := .cond (.t 5) c66_6 .skip
def c66_3 : ACode := .seq c66_4 c66_5
def c66_10 : ACode := .region false [⟨some 6, .move, [.t 0], none⟩,
  ⟨some 7, .nilChk, [.t 6], none⟩,
  ⟨some 8, .addr 1, [.t 7], none⟩,
  ⟨some 9, .load false 1, [.t 8], none⟩,
  ⟨some 10, .ixS 1, [.t 9, .c (.val (.int .i64 0))], none⟩,
  ⟨some 11, .load false 1, [.t 10], none⟩,
  ⟨some 12, .bin .gtr, [.t 11, .c (.val (.int .u8 1))], none⟩] [] [] [0, 12] false [] []
def c66_13 : ACode := .region false [⟨some 13, .move, [.t 0], none⟩,
  ⟨some 14, .nilChk, [.t 13], none⟩,
  ⟨some 15, .addr 0, [.t 14], none⟩,
  ⟨some 16, .call 26, [.t 15, .c (.val (.int .i64 4))], none⟩] [] [] [] true [] []
def c66_15 : ACode := .region false [⟨some 2, .move, [.c (.val (.bool false))], none⟩] [] [] [2] false [] []
def c66_14 : ACode := .seq c66_15 .ret
def c66_12 : ACode := .seq c66_13 c66_14
def c66_11 : ACode := .cond (.t 12) c66_12 .skip
def c66_9 : ACode := .seq c66_10 c66_11
def c66_17 : ACode := .region false [⟨some 17, .move, [.t 0], none⟩,
  ⟨some 18, .call 127, [.t 17, .c (.val (.int .i64 1))], none⟩,
  ⟨some 19, .ixS 1, [.t 18, .c (.val (.int .i64 0))], none⟩,
  ⟨some 20, .load false 1, [.t 19], none⟩,
  ⟨some 21, .bin .eql, [.t 20, .c (.val (.int .u8 1))], none⟩,
  ⟨some 2, .move, [.t 21], none⟩] [] [] [2] true [] []
def c66_16 : ACode := .seq c66_17 .ret
def c66_8 : ACode := .seq c66_9 c66_16
def c66_2 : ACode := .seq c66_3 c66_8
def c66_0 : ACode := .seq c66_1 c66_2
def code66 : Code := (Tryz.f66.body).getD .skip
theorem c66_ok : compC Tryz.prog 22 code66 = some (strip c66_0) := by kernel_rfl
theorem res66_ok : Tryz.f66.results.toList.mapM (resC Tryz.prog) = some [(2, none)] := by kernel_rfl
/- (*quidnunc/octets.Reader).Text -/
def c128_1 : ACode := .region false [⟨some 4, .move, [.c (.val (.string ⟨#[]⟩))], none⟩] [] [] [0, 1] false [] []
def c128_4 : ACode := .region false [⟨some 6, .move, [.t 0], none⟩,
  ⟨some 7, .call 126, [.t 6, .c (.val (.int .i64 1))], none⟩,
  ⟨some 8, .un .not, [.t 7], none⟩] [] [] [0, 1, 8] true [] []
def c128_7 : ACode := .region false [⟨some 4, .move, [.c (.val (.string ⟨#[]⟩))], none⟩] [] [] [4] false [] []
def c128_6 : ACode := .seq c128_7 .ret
def c128_5 : ACode := .cond (.t 8) c128_6 .skip
def c128_3 : ACode := .seq c128_4 c128_5
def c128_9 : ACode := .region false [⟨some 9, .move, [.t 0], none⟩,
  ⟨some 10, .nilChk, [.t 9], none⟩,
  ⟨some 11, .addr 1, [.t 10], none⟩,
  ⟨some 12, .load false 1, [.t 11], none⟩,
  ⟨some 13, .ixS 1, [.t 12, .c (.val (.int .i64 0))], none⟩,
  ⟨some 14, .load false 1, [.t 13], none⟩,
  ⟨some 15, .conv .i64, [.t 14], none⟩,
  ⟨some 5, .move, [.t 15], none⟩] [] [] [0, 1, 5] false [] []
def c128_12 : ACode := .region false [⟨some 16, .move, [.t 5], none⟩,
  ⟨some 17, .move, [.t 1], none⟩,
  ⟨some 18, .bin .gtr, [.t 16, .t 17], none⟩] [] [] [0, 5, 18] false [] []
def c128_14 : ACode := .region false [⟨some 19, .move, [.t 0], none⟩,
  ⟨some 20, .nilChk, [.t 19], none⟩,
  ⟨some 21, .addr 0, [.t 20], none⟩,
  ⟨some 22, .call 26, [.t 21, .c (.val (.int .i64 4))], none⟩] [] [] [0, 5] true [] []
def c128_13 : ACode := .cond (.t 18) c128_14 .skip
def c128_11 : ACode := .seq c128_12 c128_13
def c128_17 : ACode := .region false [⟨some 23, .move, [.t 0], none⟩,
  ⟨some 24, .move, [.t 5], none⟩,
  ⟨some 25, .bin .add, [.c (.val (.int .i64 1)), .t 24], none⟩,
  ⟨some 26, .call 126, [.t 23, .t 25], none⟩,
  ⟨some 27, .un .not, [.t 26], none⟩] [] [] [0, 5, 27] true [] []
def c128_20 : ACode := .region false [⟨some 4, .move, [.c (.val (.string ⟨#[]⟩))], none⟩] [] [] [4] false [] []
def c128_19 : ACode := .seq c128_20 .ret
def c128_18 : ACode := .cond (.t 27) c128_19 .skip
def c128_16 : ACode := .seq c128_17 c128_18
def c128_22 : ACode := .region false [⟨some 28, .move, [.t 0], none⟩,
  ⟨some 29, .move, [.t 5], none⟩,
  ⟨some 30, .bin .add, [.c (.val (.int .i64 1)), .t 29], none⟩,
  ⟨some 31, .call 127, [.t 28, .t 30], none⟩,
  ⟨some 32, .slS 1 true false false, [.t 31, .c (.val (.int .i64 1))], none⟩,
  ⟨some 33, .toStr, [.t 32], none⟩,
  ⟨some 4, .move, [.t 33], none⟩] [] [] [4] true [] []
def c128_21 : ACode := .seq c128_22 .ret
def c128_15 : ACode := .seq c128_16 c128_21
def c128_10 : ACode := .seq c128_11 c128_15
def c128_8 : ACode := .seq c128_9 c128_10
def c128_2 : ACode := .seq c128_3 c128_8
def c128_0 : ACode := .seq c128_1 c128_2
def code128 : Code := (Tryz.f128.body).getD .skip
theorem c128_ok : compC Tryz.prog 34 code128 = some (strip c128_0) := by kernel_rfl
theorem res128_ok : Tryz.f128.results.toList.mapM (resC Tryz.prog) = some [(4, none)] := by kernel_rfl
abbrev U64 (n : Int) : AV := .val (.int .u64 n)
theorem _root_.Go.Am.Seg.get {P : List AV} {o : Nat} {l : List Int} (s : Seg P o l) (i : Nat) (h : i < l.length) : P.getD (o + i) .bad = U8 l[i] := by
  have h1 := congrArg (fun q => q[i]?) s.seg
  simp only [List.getElem?_take, h, if_true, List.getElem?_drop] at h1
  rw [List.getD_eq_getElem?_getD, h1]
  simp [bA, h]
theorem bytesB_drop {l : List Int} (h : bytesB l) (n : Nat) : bytesB (l.drop n) := fun c hc => h c (List.mem_of_mem_drop hc)
theorem bytesB_take {l : List Int} (h : bytesB l) (n : Nat) : bytesB (l.take n) := fun c hc => h c (List.mem_of_mem_take hc)
/-- Where a reader stands, and its error. -/
structure Cu where
  a : Nat
  e : Int
abbrev Cu.left (L : List Int) (c : Cu) : Int := ((L.length - c.a : Nat) : Int)
theorem failI_ne (e k : Int) (h : k ≠ 0) : failI e k ≠ 0 := by
  unfold failI
  split
  · exact h
  · rename_i h1; simpa using h1
theorem rawOk_yes {e n left : Int} (h : rawOk e n left = true) : e = 0 ∧ 0 ≤ n ∧ n ≤ left ∧ rawE e n left = 0 ∧ (∀ a, rawA e n left a = a + n.toNat) ∧ ∀ a L, rawL e n left a L = (L.drop a).take n.toNat := by
  have h' := h
  simp only [rawOk, Bool.and_eq_true, decide_eq_true_eq, beq_iff_eq] at h'
  obtain ⟨⟨h1, h2⟩, h3⟩ := h'
  refine ⟨h3, h1, h2, ?_, fun a => by simp [rawA, h], fun a L => by simp [rawL, h]⟩
  unfold rawE hasE
  rw [decide_eq_false (by omega), decide_eq_false (by omega), h3]
  rfl
theorem rawOk_no {e n left : Int} (h : rawOk e n left = false) : rawE e n left ≠ 0 ∧ (∀ a, rawA e n left a = a) ∧ ∀ a L, rawL e n left a L = [] := by
  refine ⟨?_, fun a => by simp [rawA, h], fun a L => by simp [rawL, h]⟩
  unfold rawE hasE
  by_cases h1 : n < 0
  · rw [decide_eq_true h1]; exact failI_ne e 1 (by decide)
  · rw [decide_eq_false h1]
    by_cases h2 : left < n
    · rw [decide_eq_true h2]; exact failI_ne e 6 (by decide)
    · rw [decide_eq_false h2]
      simp only [rawOk, decide_eq_true (show 0 ≤ n ∧ n ≤ left by omega), Bool.true_and] at h
      simpa using h
theorem rawE_has {e n left : Int} (h : 0 ≤ n) : rawE e n left = hasE e n left := by
  unfold rawE
  rw [decide_eq_false (by omega)]; rfl
theorem has_ok {e n left : Int} (h : 0 ≤ n) : (hasE e n left == 0) = rawOk e n left := by
  rw [← rawE_has h]
  cases h1 : rawOk e n left with
  | true => rw [(rawOk_yes h1).2.2.2.1]; rfl
  | false => simpa using (rawOk_no h1).1
def rawC (L : List Int) (n : Int) (c : Cu) : Cu := ⟨rawA c.e n (c.left L) c.a, rawE c.e n (c.left L)⟩
def rawV (L : List Int) (n : Int) (c : Cu) : List Int := rawL c.e n (c.left L) c.a L
def numC (L : List Int) (w : Int) (c : Cu) : Cu := cond (wideB w) (rawC L w c) ⟨c.a, failI c.e 1⟩
def numV (L : List Int) (w : Int) (c : Cu) : Int := cond (wideB w) (valI (rawV L w c)) 0
def flagC (L : List Int) (c : Cu) : Cu := cond (rawOk c.e 1 (c.left L)) (cond (decide (1 < L.getD c.a 0)) ⟨c.a, 4⟩ ⟨c.a + 1, 0⟩) ⟨c.a, rawE c.e 1 (c.left L)⟩
def flagV (L : List Int) (c : Cu) : Bool := rawOk c.e 1 (c.left L) && (L.getD c.a 0 == 1)
/-- Bytes as a text. -/
def baI (l : List Int) : ByteArray := ⟨(toB l).toArray⟩
def textC (L : List Int) (m : Int) (c : Cu) : Cu := cond (rawOk c.e 1 (c.left L)) (cond (decide (m < L.getD c.a 0)) ⟨c.a, 4⟩ (cond (decide (1 + L.getD c.a 0 ≤ c.left L)) ⟨c.a + (1 + (L.getD c.a 0).toNat), 0⟩ ⟨c.a, 6⟩)) ⟨c.a, rawE c.e 1 (c.left L)⟩
def textV (L : List Int) (m : Int) (c : Cu) : ByteArray := cond (rawOk c.e 1 (c.left L) && (!decide (m < L.getD c.a 0) && decide (1 + L.getD c.a 0 ≤ c.left L))) (baI ((L.drop (c.a + 1)).take (L.getD c.a 0).toNat)) ByteArray.empty
def doneC (L : List Int) (c : Cu) : Cu := ⟨c.a, doneE c.e (L.length - c.a)⟩
theorem getD_get {L : List Int} {a : Nat} (h : a < L.length) : L.getD a 0 = L[a] := by simp [List.getD_eq_getElem?_getD, h]
theorem wideB_yes {n : Int} (h : wideB n = true) : 0 < n ∧ n < 9 := by simpa [wideB] using h
theorem rawL_bytes {e n left : Int} {a : Nat} {L : List Int} (h : bytesB L) : bytesB (rawL e n left a L) := by
  unfold rawL
  cases rawOk e n left
  · intro c hc; cases hc
  · exact bytesB_take (bytesB_drop h a) _
theorem _root_.Go.Am.Seg.sub {P : List AV} {o : Nat} {l : List Int} (s : Seg P o l) {e n : Int} {a : Nat} (ha : a ≤ l.length) : Seg P (o + a) (rawL e n (l.length - a : Nat) a l) := by
  have h1 := s.le
  have h2 := s.small
  cases h : rawOk e n (l.length - a : Nat) with
  | true =>
    obtain ⟨-, h3, h4, -, -, h5⟩ := rawOk_yes h
    rw [h5]
    have hl : ((l.drop a).take n.toNat).length = n.toNat := by simp; omega
    refine ⟨?_, by rw [hl]; omega, s.ren, by rw [hl]; omega⟩
    have h6 := congrArg (fun q => (q.drop a).take n.toNat) s.seg
    simp only [List.drop_take, List.drop_drop, List.take_take, bA_drop, bA_take] at h6
    rw [hl, ← h6, Nat.min_eq_left (by omega)]
  | false =>
    rw [(rawOk_no h).2.2]
    exact ⟨by simp [bA_nil], by simp; omega, s.ren, by simp⟩
end
end Go.Proofs.YtopidfkmligljaaGreat
