/- Which messages may be; a message's bytes are read as it, cut off or with more they are none. Plain laws. -/
import Derived.Test.YtopidfkmligljaaGreatWp3
namespace Go.Proofs.YtopidfkmligljaaGreat
set_option linter.unusedSimpArgs false
set_option linter.unusedVariables false
set_option maxHeartbeats 4000000
open Go Go.Am
set_option maxRecDepth 100000
def nodeB (n : Int) : Bool := decide (0 ≤ n) && decide (n < 12)
def goodMk (m : Mk) : Bool := goodB m.act && (decide (1 ≤ (m.key.size : Int)) && decide ((m.key.size : Int) ≤ 16))
/-- Is what a kind doesn't have nothing? -/
def bareW (m : Wm) : Bool :=
  ((hasF m.kind 0 || (m.peer == 0 && m.hops == 0)) && ((hasF m.kind 2 || !m.high) && (hasF m.kind 3 || decide (m.peers.length = 0)))) &&
  ((hasF m.kind 4 || m.num == 0) && ((hasF m.kind 5 || m.sum == 0) && (hasF m.kind 6 || decide (m.mark = noMk))))
def manyLo (k : Int) (i : Nat) : Nat := if hasF k i = true then (if k = 10 ∨ k = 11 ∨ k = 12 ∨ k = 14 then 1 else 0) else 0
def manyHi (k : Int) (i : Nat) : Nat := if hasF k i = true then (if k = 10 ∨ k = 12 then 1 else 8) else 0
def cntW (m : Wm) : Bool := (decide (m.peers.length ≤ 8) && ((decide (manyLo m.kind 7 ≤ m.marks.length) && decide (m.marks.length ≤ manyHi m.kind 7)) && (decide (manyLo m.kind 8 ≤ m.ents.length) && decide (m.ents.length ≤ manyHi m.kind 8))))
def numsW (m : Wm) : Bool := nodeB m.peer && ((decide (0 ≤ m.hops) && decide (m.hops ≤ 8)) && (decide (0 ≤ m.num) && decide (m.num ≤ 4294967295)))
def partsW (m : Wm) : Bool := (decide (m.mark = noMk) || goodMk m.mark) && (m.peers.all nodeB && (m.marks.all goodMk && m.ents.all fun e => checkI e == 0))
def goodW (m : Wm) : Int := if m.kind < 1 ∨ 19 < m.kind then 1 else if (bareW m && (cntW m && (numsW m && partsW m))) = true then 0 else 4
theorem manyHi_le (k : Int) (i : Nat) : manyHi k i ≤ 8 := by unfold manyHi; split <;> (try split) <;> omega
theorem manyHi_no {k : Int} {i : Nat} (h : hasF k i = false) : manyHi k i = 0 := by unfold manyHi; rw [if_neg (by rw [h]; decide)]
theorem goodMk_ok {m : Mk} (h : goodMk m = true) : mkF m := by
  simp only [goodMk, goodB, Bool.and_eq_true, decide_eq_true_eq] at h
  obtain ⟨⟨h1, h2, h3, h4⟩, h5, h6⟩ := h
  exact ⟨⟨fits_small (k := 4) (by omega) (by omega), by omega⟩, ⟨fits_small (k := 1) (by omega) (by omega), by omega⟩, h6⟩
theorem noMk_ok : mkF noMk := ⟨⟨by decide, by decide⟩, ⟨by decide, by decide⟩, by decide⟩
structure GoodW (m : Wm) : Prop where
  kind : 1 ≤ m.kind ∧ m.kind ≤ 19
  bare : bareW m = true
  cnt : m.peers.length ≤ 8 ∧ m.marks.length ≤ manyHi m.kind 7 ∧ m.ents.length ≤ manyHi m.kind 8
  peer : 0 ≤ m.peer ∧ m.peer < 12
  hops : 0 ≤ m.hops ∧ m.hops ≤ 8
  num : 0 ≤ m.num ∧ m.num ≤ 4294967295
  mark : mkF m.mark
  peers : ∀ n ∈ m.peers, 0 ≤ n ∧ n < 12
  marks : ∀ x ∈ m.marks, mkF x
  ents : ∀ x ∈ m.ents, checkI x = 0
theorem good_w {m : Wm} (h : goodW m = 0) : GoodW m := by
  unfold goodW at h
  split at h
  · cases h
  · rename_i hk
    split at h
    · rename_i h1
      simp only [Bool.and_eq_true, cntW, numsW, partsW, nodeB, decide_eq_true_eq, List.all_eq_true, beq_iff_eq] at h1
      obtain ⟨h1, ⟨h2, ⟨-, h3⟩, -, h4⟩, ⟨h5, h6, h7⟩, h8, h9, h10, h11⟩ := h1
      refine ⟨by omega, h1, ⟨h2, h3, h4⟩, h5, h6, h7, ?_, h9, fun x hx => goodMk_ok (h10 x hx), h11⟩
      simp only [Bool.or_eq_true, decide_eq_true_eq] at h8
      rcases h8 with h8 | h8
      · rw [h8]; exact noMk_ok
      · exact goodMk_ok h8
    · cases h
def sumR (m : Wm) : Prop := 0 ≤ m.sum ∧ m.sum < 18446744073709551616
theorem good_f {m : Wm} (h : GoodW m) (hs : sumR m) : ∀ i, i < 9 → hasF m.kind i = true → fOk i m
  | 0, _, _ => ⟨fits_small (k := 1) h.peer.1 (by have := h.peer; omega), h.peer.1⟩
  | 1, _, _ => ⟨fits_small (k := 1) h.hops.1 (by have := h.hops; omega), h.hops.1⟩
  | 2, _, _ => trivial
  | 3, _, _ => ⟨h.cnt.1, fun n hn => ⟨fits_small (k := 1) (h.peers n hn).1 (by have := h.peers n hn; omega), (h.peers n hn).1⟩⟩
  | 4, _, _ => ⟨fits_small (k := 4) h.num.1 (by have := h.num; omega), h.num.1⟩
  | 5, _, _ => ⟨fits_small (k := 8) hs.1 (by have := hs.2; omega), hs.1⟩
  | 6, _, _ => h.mark
  | 7, _, _ => ⟨Nat.le_trans h.cnt.2.1 (manyHi_le _ _), h.marks⟩
  | 8, _, _ => ⟨Nat.le_trans h.cnt.2.2 (manyHi_le _ _), h.ents⟩
theorem good_full {m : Wm} (h : GoodW m) : mFn m.kind m 9 = m := by
  have hb := h.bare
  simp only [bareW, Bool.and_eq_true, Bool.or_eq_true, beq_iff_eq, decide_eq_true_eq, Bool.not_eq_true'] at hb
  obtain ⟨⟨b0, b2, b3⟩, b4, b5, b6⟩ := hb
  have b7 : hasF m.kind 7 = true ∨ m.marks = [] := by
    cases hh : hasF m.kind 7 with
    | true => exact .inl rfl
    | false => have := h.cnt.2.1; rw [manyHi_no hh] at this; exact .inr (List.length_eq_zero_iff.1 (by omega))
  have b8 : hasF m.kind 8 = true ∨ m.ents = [] := by
    cases hh : hasF m.kind 8 with
    | true => exact .inl rfl
    | false => have := h.cnt.2.2; rw [manyHi_no hh] at this; exact .inr (List.length_eq_zero_iff.1 (by omega))
  have b3' : hasF m.kind 3 = true ∨ m.peers = [] := b3.imp id fun e => List.length_eq_zero_iff.1 e
  clear h b3
  have e1 : hasF m.kind 1 = hasF m.kind 0 := rfl
  obtain ⟨k, peer, hops, high, peers, num, sum, mark, marks, ents⟩ := m
  simp only at *
  have s1 : mFn k ⟨k, peer, hops, high, peers, num, sum, mark, marks, ents⟩ 1 = { noW with kind := k, peer := peer } := by
    rw [mFn]
    split
    · rfl
    · rename_i hh
      obtain ⟨rfl, -⟩ := b0.resolve_left hh
      rfl
  have s2 : mFn k ⟨k, peer, hops, high, peers, num, sum, mark, marks, ents⟩ 2 = { noW with kind := k, peer := peer, hops := hops } := by
    rw [mFn, s1]
    split
    · rfl
    · rename_i hh
      rw [e1] at hh
      obtain ⟨-, rfl⟩ := b0.resolve_left hh
      rfl
  have s3 : mFn k ⟨k, peer, hops, high, peers, num, sum, mark, marks, ents⟩ 3 = { noW with kind := k, peer := peer, hops := hops, high := high } := by
    rw [mFn, s2]
    split
    · rfl
    · rename_i hh
      obtain rfl := b2.resolve_left hh
      rfl
  have s4 : mFn k ⟨k, peer, hops, high, peers, num, sum, mark, marks, ents⟩ 4 = { noW with kind := k, peer := peer, hops := hops, high := high, peers := peers } := by
    rw [mFn, s3]
    split
    · rfl
    · rename_i hh
      obtain rfl := b3'.resolve_left hh
      rfl
  have s5 : mFn k ⟨k, peer, hops, high, peers, num, sum, mark, marks, ents⟩ 5 = { noW with kind := k, peer := peer, hops := hops, high := high, peers := peers, num := num } := by
    rw [mFn, s4]
    split
    · rfl
    · rename_i hh
      obtain rfl := b4.resolve_left hh
      rfl
  have s6 : mFn k ⟨k, peer, hops, high, peers, num, sum, mark, marks, ents⟩ 6 = { noW with kind := k, peer := peer, hops := hops, high := high, peers := peers, num := num, sum := sum } := by
    rw [mFn, s5]
    split
    · rfl
    · rename_i hh
      obtain rfl := b5.resolve_left hh
      rfl
  have s7 : mFn k ⟨k, peer, hops, high, peers, num, sum, mark, marks, ents⟩ 7 = { noW with kind := k, peer := peer, hops := hops, high := high, peers := peers, num := num, sum := sum, mark := mark } := by
    rw [mFn, s6]
    split
    · rfl
    · rename_i hh
      obtain rfl := b6.resolve_left hh
      rfl
  have s8 : mFn k ⟨k, peer, hops, high, peers, num, sum, mark, marks, ents⟩ 8 = { noW with kind := k, peer := peer, hops := hops, high := high, peers := peers, num := num, sum := sum, mark := mark, marks := marks } := by
    rw [mFn, s7]
    split
    · rfl
    · rename_i hh
      obtain rfl := b7.resolve_left hh
      rfl
  rw [mFn, s8]
  split
  · rfl
  · rename_i hh
    obtain rfl := b8.resolve_left hh
    rfl
/-! ### The bytes -/
theorem flat_bytes {α : Type} {enc : α → List Int} {l : List α} (h : ∀ x ∈ l, bytesB (enc x)) : bytesB (l.flatMap enc) := fun c hc => by
  obtain ⟨x, hx, hc⟩ := List.mem_flatMap.1 hc
  exact h x hx c hc
theorem lsB_bytes {α : Type} {enc : α → List Int} {l : List α} (h : ∀ x ∈ l, bytesB (enc x)) : bytesB (lsB enc l) := bytesB_app (leI_bytes _ _) (flat_bytes h)
theorem mkB_bytes {m : Mk} (h : mkF m) : bytesB (mkB m) := by
  obtain ⟨-, -, h3⟩ := h
  exact bytesB_app (bytesB_app (leI_bytes _ _) (leI_bytes _ _)) (bytesB_cons (by omega) (txI_bytes _))
theorem fB_bytes {m : Wm} : ∀ i, i < 9 → fOk i m → bytesB (fB i m)
  | 0, _, _ => leI_bytes _ _
  | 1, _, _ => leI_bytes _ _
  | 2, _, _ => by
    show bytesB [cond m.high 1 0]
    intro c hc
    rw [List.mem_singleton.1 hc]
    cases m.high <;> decide
  | 3, _, _ => lsB_bytes fun _ _ => leI_bytes _ _
  | 4, _, _ => leI_bytes _ _
  | 5, _, _ => leI_bytes _ _
  | 6, _, h => mkB_bytes h
  | 7, _, h => lsB_bytes fun x hx => mkB_bytes (h.2 x hx)
  | 8, _, h => lsB_bytes fun x hx => enB_bytes (h.2 x hx)
theorem wBn_bytes {k : Int} {m : Wm} (ho : ∀ i, i < 9 → hasF k i = true → fOk i m) : ∀ i, i ≤ 9 → bytesB (wBn k m i)
  | 0, _ => fun c hc => by cases hc
  | i + 1, h => by
    rw [wBn]
    refine bytesB_app (wBn_bytes ho i (by omega)) ?_
    split
    · rename_i hh
      exact fB_bytes i (by omega) (ho i (by omega) hh)
    · intro c hc; cases hc
theorem flat_len {α : Type} {enc : α → List Int} {n : Nat} : ∀ {l : List α}, (∀ x ∈ l, (enc x).length ≤ n) → (l.flatMap enc).length ≤ l.length * n
  | [], _ => by simp
  | x :: l, h => by
    have ih := flat_len (l := l) fun y hy => h y (List.mem_cons_of_mem _ hy)
    have h1 := h x List.mem_cons_self
    rw [List.flatMap_cons, List.length_append, List.length_cons, Nat.add_mul]
    omega
theorem mkB_len (m : Mk) : (mkB m).length = m.key.size + 6 := by
  simp only [mkB, txB, List.length_append, List.length_cons, leI_len, txI_len]; omega
theorem lsB_len {α : Type} {enc : α → List Int} {n : Nat} {l : List α} (h : ∀ x ∈ l, (enc x).length ≤ n) : (lsB enc l).length ≤ 1 + l.length * n := by
  have := flat_len h
  unfold lsB
  rw [List.length_append, leI_len]
  omega
/-- How long a field is at most. -/
def fMax (i : Nat) : Nat := if i < 3 then 1 else if i = 3 then 9 else if i = 4 then 4 else if i = 5 then 8 else if i = 6 then 22 else if i = 7 then 177 else 537
theorem fB_len {m : Wm} : ∀ i, i < 9 → fOk i m → (fB i m).length ≤ fMax i
  | 0, _, _ => by show (leI m.peer 1).length ≤ 1; rw [leI_len]; exact Nat.le_refl _
  | 1, _, _ => by show (leI m.hops 1).length ≤ 1; rw [leI_len]; exact Nat.le_refl _
  | 2, _, _ => Nat.le_refl _
  | 3, _, h => by
    show (lsB (fun n => leI n 1) m.peers).length ≤ 9
    have := lsB_len (enc := fun n => leI n 1) (n := 1) (l := m.peers) fun x _ => by rw [leI_len]; exact Nat.le_refl _
    have h1 : m.peers.length ≤ 8 := h.1
    omega
  | 4, _, _ => by show (leI m.num 4).length ≤ 4; rw [leI_len]; exact Nat.le_refl _
  | 5, _, _ => by show (leI m.sum 8).length ≤ 8; rw [leI_len]; exact Nat.le_refl _
  | 6, _, h => by
    show (mkB m.mark).length ≤ 22
    have h3 : (m.mark.key.size : Int) ≤ 16 := h.2.2
    rw [mkB_len]; omega
  | 7, _, h => by
    show (lsB mkB m.marks).length ≤ 177
    have := lsB_len (enc := mkB) (n := 22) (l := m.marks) fun x hx => by
      have h3 : (x.key.size : Int) ≤ 16 := (h.2 x hx).2.2
      rw [mkB_len]; omega
    have h1 : m.marks.length ≤ 8 := h.1
    omega
  | 8, _, h => by
    show (lsB enB m.ents).length ≤ 537
    have := lsB_len (enc := enB) (n := 67) (l := m.ents) fun x hx => by
      obtain ⟨-, k2, k3, -⟩ := check_ok (h.2 x hx)
      rw [enB_len]; omega
    have h1 : m.ents.length ≤ 8 := h.1
    omega
theorem wBn_len {k : Int} {m : Wm} (ho : ∀ i, i < 9 → hasF k i = true → fOk i m) : ∀ i, i ≤ 9 → (wBn k m i).length ≤ ((List.range i).map fun j => if hasF k j = true then fMax j else 0).sum
  | 0, _ => Nat.le_refl _
  | i + 1, h => by
    have ih := wBn_len ho i (by omega)
    rw [wBn, List.length_append, List.range_succ, List.map_append, List.sum_append]
    simp only [List.map_cons, List.map_nil, List.sum_cons, List.sum_nil]
    split
    · rename_i hh
      have := fB_len i (by omega) (ho i (by omega) hh)
      omega
    · simp only [List.length_nil]; omega
theorem sum_max (k : Int) : ((List.range 9).map fun j => if hasF k j = true then fMax j else 0).sum ≤ 720 := by
  have h : ∀ n : Fin 20, ((List.range 9).map fun j => if hasF (n.val : Int) j = true then fMax j else 0).sum ≤ 720 := by decide +kernel
  by_cases hk : 0 ≤ k ∧ k < 20
  · have := h ⟨k.toNat, by omega⟩
    rwa [show ((⟨k.toNat, by omega⟩ : Fin 20).val : Int) = k by simp; omega] at this
  · have hno : ∀ j, hasF k j = false := fun j => by
      unfold hasF
      have e : ∀ c : Int, 0 ≤ c → c < 20 → (k == c) = false := fun c h0 h1 => by rw [beq_eq_false_iff_ne]; omega
      simp [e]
    simp only [hno, Bool.false_eq_true, if_false]
    decide
theorem wB_len {m : Wm} (h : GoodW m) (hs : sumR m) : (wB m).length ≤ 720 := Nat.le_trans (wBn_len (good_f h hs) 9 (Nat.le_refl _)) (sum_max _)
theorem wB_bytes {m : Wm} (h : GoodW m) (hs : sumR m) : bytesB (wB m) := wBn_bytes (good_f h hs) 9 (Nat.le_refl _)
/-! ### Read again -/
def endC (L : List Int) (k : Int) : Cu := ⟨(stP L k 9).1.a, if (stP L k 9).1.e = 0 ∧ goodW (stP L k 9).2 ≠ 0 then 4 else (stP L k 9).1.e⟩
def finE (L : List Int) (k : Int) : Int := if k < 1 ∨ 19 < k then 1 else (doneC L (endC L k)).e
def finW (L : List Int) (k : Int) : Wm := if finE L k = 0 then (stP L k 9).2 else noW
theorem kind_in {m : Wm} (h : GoodW m) : ¬(m.kind < 1 ∨ 19 < m.kind) := by have := h.kind; omega
theorem fin_wB {m : Wm} (h : goodW m = 0) (hs : sumR m) : finE (wB m) m.kind = 0 ∧ finW (wB m) m.kind = m := by
  have hw := good_w h
  have hf := stP_fwd (L := wB m) (good_f hw hs) 9 (Nat.le_refl _) [] (by rw [List.append_nil]; rfl)
  rw [good_full hw] at hf
  have he : finE (wB m) m.kind = 0 := by
    unfold finE
    rw [if_neg (kind_in hw)]
    unfold endC
    rw [hf]
    simp only [h, ne_eq, not_true, and_false, if_false]
    unfold doneC doneE
    simp only
    rw [decide_eq_false (by show ¬ 0 < (wB m).length - (wB m).length; omega)]
    rfl
  refine ⟨he, ?_⟩
  unfold finW
  rw [if_pos he, hf]
/-! ### The document's way -/
end Go.Proofs.YtopidfkmligljaaGreat
