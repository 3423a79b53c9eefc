/- Which messages may be; a message's bytes are read as it, cut off or with more they are none. Plain laws. -/
import Derived.Test.YtopidfkmligljaaGreatWp3
namespace Go.Proofs.YtopidfkmligljaaGreat
set_option linter.unusedSimpArgs false
set_option linter.unusedVariables false
set_option maxHeartbeats 4000000
open Go Go.Am
set_option maxRecDepth 100000
def nodeB (n : Int) : Bool := decide (0 ≤ n) && decide (n < 12)
def goodMk (m : Mk) : Bool := goodB m.act && (decide (1 ≤ (m.key.size : Int)) && decide ((m.key.size : Int) ≤ 16))
/-- Is what a kind doesn't have nothing? -/
def bareW (m : Wm) : Bool :=
  ((hasF m.kind 0 || (m.peer == 0 && m.hops == 0)) && ((hasF m.kind 2 || !m.high) && (hasF m.kind 3 || decide (m.peers.length = 0)))) &&
  ((hasF m.kind 4 || m.num == 0) && ((hasF m.kind 5 || m.sum == 0) && (hasF m.kind 6 || decide (m.mark = noMk))))
def manyLo (k : Int) (i : Nat) : Nat := if hasF k i = true then (if k = 10 ∨ k = 11 ∨ k = 12 ∨ k = 14 then 1 else 0) else 0
def manyHi (k : Int) (i : Nat) : Nat := if hasF k i = true then (if k = 10 ∨ k = 12 then 1 else 8) else 0
def cntW (m : Wm) : Bool := (decide (m.peers.length ≤ 8) && ((decide (manyLo m.kind 7 ≤ m.marks.length) && decide (m.marks.length ≤ manyHi m.kind 7)) && (decide (manyLo m.kind 8 ≤ m.ents.length) && decide (m.ents.length ≤ manyHi m.kind 8))))
def numsW (m : Wm) : Bool := nodeB m.peer && ((decide (0 ≤ m.hops) && decide (m.hops ≤ 8)) && (decide (0 ≤ m.num) && decide (m.num ≤ 4294967295)))
def partsW (m : Wm) : Bool := (decide (m.mark = noMk) || goodMk m.mark) && (m.peers.all nodeB && (m.marks.all goodMk && m.ents.all fun e => checkI e == 0))
def goodW (m : Wm) : Int := if m.kind < 1 ∨ 19 < m.kind then 1 else if (bareW m && (cntW m && (numsW m && partsW m))) = true then 0 else 4
theorem manyHi_le (k : Int) (i : Nat) : manyHi k i ≤ 8 := by unfold manyHi; split <;> (try split) <;> omega
theorem goodMk_ok {m : Mk} (h : goodMk m = true) : mkF m := by
  simp only [goodMk, goodB, Bool.and_eq_true, decide_eq_true_eq] at h
  obtain ⟨⟨h1, h2, h3, h4⟩, h5, h6⟩ := h
  exact ⟨⟨fits_small (k := 4) (by omega) (by omega), by omega⟩, ⟨fits_small (k := 1) (by omega) (by omega), by omega⟩, h6⟩
theorem noMk_ok : mkF noMk := ⟨⟨by decide, by decide⟩, ⟨by decide, by decide⟩, by decide⟩
structure GoodW (m : Wm) : Prop where
  kind : 1 ≤ m.kind ∧ m.kind ≤ 19
  bare : bareW m = true
  cnt : m.peers.length ≤ 8 ∧ m.marks.length ≤ manyHi m.kind 7 ∧ m.ents.length ≤ manyHi m.kind 8
  peer : 0 ≤ m.peer ∧ m.peer < 12
  hops : 0 ≤ m.hops ∧ m.hops ≤ 8
  num : 0 ≤ m.num ∧ m.num ≤ 4294967295
  mark : mkF m.mark
  peers : ∀ n ∈ m.peers, 0 ≤ n ∧ n < 12
  marks : ∀ x ∈ m.marks, mkF x
  ents : ∀ x ∈ m.ents, checkI x = 0
theorem good_w {m : Wm} (h : goodW m = 0) : GoodW m := by
  unfold goodW at h
  split at h
  · cases h
  · rename_i hk
    split at h
    · rename_i h1
      simp only [Bool.and_eq_true, cntW, numsW, partsW, nodeB, decide_eq_true_eq, List.all_eq_true, beq_iff_eq] at h1
      obtain ⟨h1, ⟨h2, ⟨-, h3⟩, -, h4⟩, ⟨h5, h6, h7⟩, h8, h9, h10, h11⟩ := h1
      refine ⟨by omega, h1, ⟨h2, h3, h4⟩, h5, h6, h7, ?_, h9, fun x hx => goodMk_ok (h10 x hx), h11⟩
      simp only [Bool.or_eq_true, decide_eq_true_eq] at h8
      rcases h8 with h8 | h8
      · rw [h8]; exact noMk_ok
      · exact goodMk_ok h8
    · cases h
def sumR (m : Wm) : Prop := 0 ≤ m.sum ∧ m.sum < 18446744073709551616
theorem good_f {m : Wm} (h : GoodW m) (hs : sumR m) : ∀ i, i < 9 → hasF m.kind i = true → fOk i m
  | 0, _, _ => ⟨fits_small (k := 1) h.peer.1 (by have := h.peer; omega), h.peer.1⟩
  | 1, _, _ => ⟨fits_small (k := 1) h.hops.1 (by have := h.hops; omega), h.hops.1⟩
  | 2, _, _ => trivial
  | 3, _, _ => ⟨h.cnt.1, fun n hn => ⟨fits_small (k := 1) (h.peers n hn).1 (by have := h.peers n hn; omega), (h.peers n hn).1⟩⟩
  | 4, _, _ => ⟨fits_small (k := 4) h.num.1 (by have := h.num; omega), h.num.1⟩
  | 5, _, _ => ⟨fits_small (k := 8) hs.1 (by have := hs.2; omega), hs.1⟩
  | 6, _, _ => h.mark
  | 7, _, _ => ⟨Nat.le_trans h.cnt.2.1 (manyHi_le _ _), h.marks⟩
  | 8, _, _ => ⟨Nat.le_trans h.cnt.2.2 (manyHi_le _ _), h.ents⟩
/-! ### The bytes -/
theorem flat_len {α : Type} {enc : α → List Int} {n : Nat} : ∀ {l : List α}, (∀ x ∈ l, (enc x).length ≤ n) → (l.flatMap enc).length ≤ l.length * n
  | [], _ => by simp
  | x :: l, h => by
    have ih := flat_len (l := l) fun y hy => h y (List.mem_cons_of_mem _ hy)
    have h1 := h x List.mem_cons_self
    rw [List.flatMap_cons, List.length_append, List.length_cons, Nat.add_mul]
    omega
theorem mkB_len (m : Mk) : (mkB m).length = m.key.size + 6 := by
  simp only [mkB, txB, List.length_append, List.length_cons, leI_len, txI_len]; omega
theorem lsB_len {α : Type} {enc : α → List Int} {n : Nat} {l : List α} (h : ∀ x ∈ l, (enc x).length ≤ n) : (lsB enc l).length ≤ 1 + l.length * n := by
  have := flat_len h
  unfold lsB
  rw [List.length_append, leI_len]
  omega
/-- How long a field is at most. -/
def fMax (i : Nat) : Nat := if i < 3 then 1 else if i = 3 then 9 else if i = 4 then 4 else if i = 5 then 8 else if i = 6 then 22 else if i = 7 then 177 else 537
theorem fB_len {m : Wm} : ∀ i, i < 9 → fOk i m → (fB i m).length ≤ fMax i
  | 0, _, _ => by show (leI m.peer 1).length ≤ 1; rw [leI_len]; exact Nat.le_refl _
  | 1, _, _ => by show (leI m.hops 1).length ≤ 1; rw [leI_len]; exact Nat.le_refl _
  | 2, _, _ => Nat.le_refl _
  | 3, _, h => by
    show (lsB (fun n => leI n 1) m.peers).length ≤ 9
    have := lsB_len (enc := fun n => leI n 1) (n := 1) (l := m.peers) fun x _ => by rw [leI_len]; exact Nat.le_refl _
    have h1 : m.peers.length ≤ 8 := h.1
    omega
  | 4, _, _ => by show (leI m.num 4).length ≤ 4; rw [leI_len]; exact Nat.le_refl _
  | 5, _, _ => by show (leI m.sum 8).length ≤ 8; rw [leI_len]; exact Nat.le_refl _
  | 6, _, h => by
    show (mkB m.mark).length ≤ 22
    have h3 : (m.mark.key.size : Int) ≤ 16 := h.2.2
    rw [mkB_len]; omega
  | 7, _, h => by
    show (lsB mkB m.marks).length ≤ 177
    have := lsB_len (enc := mkB) (n := 22) (l := m.marks) fun x hx => by
      have h3 : (x.key.size : Int) ≤ 16 := (h.2 x hx).2.2
      rw [mkB_len]; omega
    have h1 : m.marks.length ≤ 8 := h.1
    omega
  | 8, _, h => by
    show (lsB enB m.ents).length ≤ 537
    have := lsB_len (enc := enB) (n := 67) (l := m.ents) fun x hx => by
      obtain ⟨-, k2, k3, -⟩ := check_ok (h.2 x hx)
      rw [enB_len]; omega
    have h1 : m.ents.length ≤ 8 := h.1
    omega
theorem wBn_len {k : Int} {m : Wm} (ho : ∀ i, i < 9 → hasF k i = true → fOk i m) : ∀ i, i ≤ 9 → (wBn k m i).length ≤ ((List.range i).map fun j => if hasF k j = true then fMax j else 0).sum
  | 0, _ => Nat.le_refl _
  | i + 1, h => by
    have ih := wBn_len ho i (by omega)
    rw [wBn, List.length_append, List.range_succ, List.map_append, List.sum_append]
    simp only [List.map_cons, List.map_nil, List.sum_cons, List.sum_nil]
    split
    · rename_i hh
      have := fB_len i (by omega) (ho i (by omega) hh)
      omega
    · simp only [List.length_nil]; omega
theorem sum_max (k : Int) : ((List.range 9).map fun j => if hasF k j = true then fMax j else 0).sum ≤ 720 := by
  have h : ∀ n : Fin 20, ((List.range 9).map fun j => if hasF (n.val : Int) j = true then fMax j else 0).sum ≤ 720 := by decide +kernel
  by_cases hk : 0 ≤ k ∧ k < 20
  · have := h ⟨k.toNat, by omega⟩
    rwa [show ((⟨k.toNat, by omega⟩ : Fin 20).val : Int) = k by simp; omega] at this
  · have hno : ∀ j, hasF k j = false := fun j => by
      unfold hasF
      have e : ∀ c : Int, 0 ≤ c → c < 20 → (k == c) = false := fun c h0 h1 => by rw [beq_eq_false_iff_ne]; omega
      simp [e]
    simp only [hno, Bool.false_eq_true, if_false]
    decide
theorem wB_len {m : Wm} (h : GoodW m) (hs : sumR m) : (wB m).length ≤ 720 := Nat.le_trans (wBn_len (good_f h hs) 9 (Nat.le_refl _)) (sum_max _)
/-! ### Read again -/
def endC (L : List Int) (k : Int) : Cu := ⟨(stP L k 9).1.a, if (stP L k 9).1.e = 0 ∧ goodW (stP L k 9).2 ≠ 0 then 4 else (stP L k 9).1.e⟩
def finE (L : List Int) (k : Int) : Int := if k < 1 ∨ 19 < k then 1 else (doneC L (endC L k)).e
def finW (L : List Int) (k : Int) : Wm := if finE L k = 0 then (stP L k 9).2 else noW
theorem fin_back {L : List Int} {k : Int} (hb : bytesB L) (h : finE L k = 0) : goodW (finW L k) = 0 ∧ wB (finW L k) = L ∧ (finW L k).kind = k := by
  have h0 := h
  unfold finE at h
  split at h
  · cases h
  · obtain ⟨h1, h2⟩ := done_back h
    have he : (stP L k 9).1.e = 0 ∧ goodW (stP L k 9).2 = 0 := by
      unfold endC at h1
      simp only at h1
      split at h1
      · cases h1
      · rename_i hh
        refine ⟨h1, ?_⟩
        by_cases hg : goodW (stP L k 9).2 = 0
        · exact hg
        · exact absurd ⟨h1, hg⟩ hh
    have hk := stP_kind (L := L) (k := k) 9
    obtain ⟨h3, h4⟩ := stP_back hb 9 (Nat.le_refl _) he.1
    unfold finW
    rw [if_pos h0]
    refine ⟨he.2, ?_, hk⟩
    have h5 : L.drop (stP L k 9).1.a = [] := h2
    rw [h5, List.append_nil] at h4
    unfold wB
    rw [hk]
    exact h4.symm
/-! ### The document's way -/
def manyN (L : List Int) (c : Cu) : Nat := if (manyC L c).e = 0 then (numV L 1 c).toNat else 0
def lsRD {α : Type} (R : Rd α) : Rd (List α) := ⟨fun L c => (lsD R L (manyC L c) (manyN L c)).1, fun L c => (lsD R L (manyC L c) (manyN L c)).2⟩
theorem lsRD_same {α : Type} {R : Rd α} {enc : α → List Int} {ok : α → Prop} (h : RdOk R enc ok) (L : List Int) (c : Cu) : (lsR R).cur L c = (lsRD R).cur L c ∧ (((lsR R).cur L c).e = 0 → (lsR R).val L c = (lsRD R).val L c) := by
  by_cases he : (manyC L c).e = 0
  · have := ls_same h L (manyC L c) (numV L 1 c).toNat
    unfold lsR lsRD manyN
    simp only [if_pos he]
    exact this
  · unfold lsR lsRD manyN
    simp only [if_neg he, lsP_stick he]
    exact ⟨rfl, fun _ => rfl⟩
def fRD (i : Nat) : Rd Wm :=
  if i = 3 then mapR' (lsRD (numR 1)) (fun v => { noW with peers := v }) else if i = 7 then mapR' (lsRD mkR) (fun v => { noW with marks := v }) else if i = 8 then mapR' (lsRD enR) (fun v => { noW with ents := v }) else fR i
theorem fRD_same (L : List Int) (c : Cu) : ∀ i, i < 9 → (fR i).cur L c = (fRD i).cur L c ∧ (((fR i).cur L c).e = 0 → (fR i).val L c = (fRD i).val L c)
  | 0, _ | 1, _ | 2, _ | 4, _ | 5, _ | 6, _ => ⟨rfl, fun _ => rfl⟩
  | 3, _ => by
    obtain ⟨h1, h2⟩ := lsRD_same (numR_ok (w := 1) (by decide)) L c
    exact ⟨h1, fun h => congrArg (fun v => { noW with peers := v }) (h2 h)⟩
  | 7, _ => by
    obtain ⟨h1, h2⟩ := lsRD_same mkR_ok L c
    exact ⟨h1, fun h => congrArg (fun v => { noW with marks := v }) (h2 h)⟩
  | 8, _ => by
    obtain ⟨h1, h2⟩ := lsRD_same enR_ok L c
    exact ⟨h1, fun h => congrArg (fun v => { noW with ents := v }) (h2 h)⟩
def stD (L : List Int) (k : Int) : Nat → Cu × Wm
  | 0 => (⟨0, 0⟩, { noW with kind := k })
  | i + 1 => if hasF k i = true then ((fRD i).cur L (stD L k i).1, setF i (stD L k i).2 ((fRD i).val L (stD L k i).1)) else stD L k i
theorem st_same (L : List Int) (k : Int) : ∀ i, i ≤ 9 → (stP L k i).1 = (stD L k i).1 ∧ ((stP L k i).1.e = 0 → (stP L k i).2 = (stD L k i).2)
  | 0, _ => ⟨rfl, fun _ => rfl⟩
  | i + 1, h => by
    obtain ⟨h1, h2⟩ := st_same L k i (by omega)
    rw [stP, stD]
    split
    · obtain ⟨g1, g2⟩ := fRD_same L (stP L k i).1 i (by omega)
      refine ⟨by rw [← h1]; exact g1, fun he => ?_⟩
      have he0 : (stP L k i).1.e = 0 := by
        by_cases e0 : (stP L k i).1.e = 0
        · exact e0
        · exfalso
          rw [show ((fR i).cur L (stP L k i).1) = (stP L k i).1 from (fR_ok i (by omega)).stick e0] at he
          exact e0 he
      show setF i _ _ = setF i _ _
      rw [← h1, ← h2 he0, ← g2 he]
    · exact ⟨h1, h2⟩
end Go.Proofs.YtopidfkmligljaaGreat
