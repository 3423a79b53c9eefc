/- Messages, field by field: what is read and written. Plain laws. -/
import Derived.Test.YtopidfkmligljaaGreatWp2
namespace Go.Proofs.YtopidfkmligljaaGreat
set_option linter.unusedSimpArgs false
set_option linter.unusedVariables false
set_option maxHeartbeats 4000000
open Go Go.Am
set_option maxRecDepth 100000
/-- What one node tells another one. -/
structure Wm where
  kind : Int
  peer : Int
  hops : Int
  high : Bool
  peers : List Int
  num : Int
  sum : Int
  mark : Mk
  marks : List Mk
  ents : List En
abbrev noMk : Mk := ⟨⟨0, 0⟩, ⟨#[]⟩⟩
abbrev noW : Wm := ⟨0, 0, 0, false, [], 0, 0, noMk, [], []⟩
/-- Has a kind a field? -/
def hasF (k : Int) (i : Nat) : Bool :=
  if i < 2 then k == 2 || k == 7 else if i = 2 then k == 3 else if i = 3 then k == 7 || k == 8
  else if i = 4 then k == 16 || (k == 17 || (k == 18 || k == 19)) else if i = 5 then k == 16 || (k == 17 || k == 19) else if i = 6 then k == 18 || k == 19
  else if i = 7 then k == 11 || (k == 12 || k == 15) else k == 10 || (k == 14 || (k == 15 || (k == 16 || (k == 17 || (k == 18 || k == 19)))))
/-- A field of another message. -/
def setF (i : Nat) (x y : Wm) : Wm :=
  if i = 0 then { x with peer := y.peer } else if i = 1 then { x with hops := y.hops } else if i = 2 then { x with high := y.high } else if i = 3 then { x with peers := y.peers }
  else if i = 4 then { x with num := y.num } else if i = 5 then { x with sum := y.sum } else if i = 6 then { x with mark := y.mark } else if i = 7 then { x with marks := y.marks } else { x with ents := y.ents }
/-- A field's bytes. -/
def fB (i : Nat) (m : Wm) : List Int :=
  if i = 0 then leI m.peer 1 else if i = 1 then leI m.hops 1 else if i = 2 then [cond m.high 1 0] else if i = 3 then lsB (fun n => leI n 1) m.peers
  else if i = 4 then leI m.num 4 else if i = 5 then leI m.sum 8 else if i = 6 then mkB m.mark else if i = 7 then lsB mkB m.marks else lsB enB m.ents
def fOk (i : Nat) (m : Wm) : Prop :=
  if i = 0 then fitsI m.peer 1 = true ∧ 0 ≤ m.peer else if i = 1 then fitsI m.hops 1 = true ∧ 0 ≤ m.hops else if i = 2 then True
  else if i = 3 then m.peers.length ≤ 8 ∧ ∀ n ∈ m.peers, fitsI n 1 = true ∧ 0 ≤ n else if i = 4 then fitsI m.num 4 = true ∧ 0 ≤ m.num else if i = 5 then fitsI m.sum 8 = true ∧ 0 ≤ m.sum
  else if i = 6 then mkF m.mark else if i = 7 then m.marks.length ≤ 8 ∧ ∀ x ∈ m.marks, mkF x else m.ents.length ≤ 8 ∧ ∀ x ∈ m.ents, checkI x = 0
/-- A field's reader. -/
def fR (i : Nat) : Rd Wm :=
  if i = 0 then mapR' (numR 1) (fun v => { noW with peer := v }) else if i = 1 then mapR' (numR 1) (fun v => { noW with hops := v }) else if i = 2 then mapR' flagR (fun v => { noW with high := v })
  else if i = 3 then mapR' (lsR (numR 1)) (fun v => { noW with peers := v }) else if i = 4 then mapR' (numR 4) (fun v => { noW with num := v }) else if i = 5 then mapR' (numR 8) (fun v => { noW with sum := v })
  else if i = 6 then mapR' mkR (fun v => { noW with mark := v }) else if i = 7 then mapR' (lsR mkR) (fun v => { noW with marks := v }) else mapR' (lsR enR) (fun v => { noW with ents := v })
structure FdOk (i : Nat) (R : Rd Wm) : Prop where
  le : ∀ {L : List Int} {c : Cu}, bytesB L → c.a ≤ L.length → (R.cur L c).a ≤ L.length
  stick : ∀ {L : List Int} {c : Cu}, c.e ≠ 0 → R.cur L c = c
  fwd : ∀ {L : List Int} {a : Nat} {v : Wm} {r : List Int}, fOk i v → L.drop a = fB i v ++ r → R.cur L ⟨a, 0⟩ = ⟨a + (fB i v).length, 0⟩ ∧ ∀ x, setF i x (R.val L ⟨a, 0⟩) = setF i x v
  back : ∀ {L : List Int} {c : Cu}, bytesB L → (R.cur L c).e = 0 → c.e = 0 ∧ (R.cur L c).a = c.a + (fB i (R.val L c)).length ∧ L.drop c.a = fB i (R.val L c) ++ L.drop (R.cur L c).a
  cut : ∀ {L : List Int} {a n : Nat} {v : Wm} {r : List Int}, fOk i v → L.drop a = fB i v ++ r → a ≤ n → n < a + (fB i v).length → (R.cur (L.take n) ⟨a, 0⟩).e = 6
theorem fd_of {α : Type} {R : Rd α} {enc : α → List Int} {ok : α → Prop} (h : RdOk R enc ok) {i : Nat} (f : α → Wm) (g : Wm → α) (hB : ∀ m, fB i m = enc (g m)) (ho : ∀ m, fOk i m → ok (g m)) (hg : ∀ x, g (f x) = x) (hf : ∀ x y, setF i x (f (g y)) = setF i x y) : FdOk i (mapR' R f) where
  le := h.le
  stick := h.stick
  fwd := fun {L a v r} k hd => by
    rw [hB] at hd ⊢
    obtain ⟨g1, g2⟩ := h.fwd (ho v k) hd
    exact ⟨g1, fun x => by show setF i x (f (R.val L ⟨a, 0⟩)) = _; rw [g2, hf]⟩
  back := fun {L c} hb k => by
    obtain ⟨g1, g2, g3⟩ := h.back hb k
    simp only [mapR', hB, hg]
    exact ⟨g1, g2, g3⟩
  cut := fun {L a n v r} k hd ha hn => by
    rw [hB] at hd hn
    exact h.cut (ho v k) hd ha hn
theorem fR_ok : ∀ i, i < 9 → FdOk i (fR i)
  | 0, _ => fd_of (i := 0) (numR_ok (w := 1) (by decide)) (fun v => { noW with peer := v }) Wm.peer (fun _ => rfl) (fun _ h => h) (fun _ => rfl) (fun _ _ => rfl)
  | 1, _ => fd_of (i := 1) (numR_ok (w := 1) (by decide)) (fun v => { noW with hops := v }) Wm.hops (fun _ => rfl) (fun _ h => h) (fun _ => rfl) (fun _ _ => rfl)
  | 2, _ => fd_of (i := 2) flagR_ok (fun v => { noW with high := v }) Wm.high (fun _ => rfl) (fun _ h => h) (fun _ => rfl) (fun _ _ => rfl)
  | 3, _ => fd_of (i := 3) (lsR_ok (numR_ok (w := 1) (by decide))) (fun v => { noW with peers := v }) Wm.peers (fun _ => rfl) (fun _ h => h) (fun _ => rfl) (fun _ _ => rfl)
  | 4, _ => fd_of (i := 4) (numR_ok (w := 4) (by decide)) (fun v => { noW with num := v }) Wm.num (fun _ => rfl) (fun _ h => h) (fun _ => rfl) (fun _ _ => rfl)
  | 5, _ => fd_of (i := 5) (numR_ok (w := 8) (by decide)) (fun v => { noW with sum := v }) Wm.sum (fun _ => rfl) (fun _ h => h) (fun _ => rfl) (fun _ _ => rfl)
  | 6, _ => fd_of (i := 6) mkR_ok (fun v => { noW with mark := v }) Wm.mark (fun _ => rfl) (fun _ h => h) (fun _ => rfl) (fun _ _ => rfl)
  | 7, _ => fd_of (i := 7) (lsR_ok mkR_ok) (fun v => { noW with marks := v }) Wm.marks (fun _ => rfl) (fun _ h => h) (fun _ => rfl) (fun _ _ => rfl)
  | 8, _ => fd_of (i := 8) (lsR_ok enR_ok) (fun v => { noW with ents := v }) Wm.ents (fun _ => rfl) (fun _ h => h) (fun _ => rfl) (fun _ _ => rfl)
/-- A message's bytes, up to a field; the message, up to a field. -/
def wBn (k : Int) (m : Wm) : Nat → List Int
  | 0 => []
  | i + 1 => wBn k m i ++ (if hasF k i = true then fB i m else [])
def wB (m : Wm) : List Int := wBn m.kind m 9
def mFn (k : Int) (m : Wm) : Nat → Wm
  | 0 => { noW with kind := k }
  | i + 1 => if hasF k i = true then setF i (mFn k m i) m else mFn k m i
/-- What was read behind so many fields. -/
def stP (L : List Int) (k : Int) : Nat → Cu × Wm
  | 0 => (⟨0, 0⟩, { noW with kind := k })
  | i + 1 => if hasF k i = true then ((fR i).cur L (stP L k i).1, setF i (stP L k i).2 ((fR i).val L (stP L k i).1)) else stP L k i
theorem stP_yes {L : List Int} {k : Int} {i : Nat} (h : hasF k i = true) : stP L k (i + 1) = ((fR i).cur L (stP L k i).1, setF i (stP L k i).2 ((fR i).val L (stP L k i).1)) := by rw [stP, if_pos h]
theorem stP_no {L : List Int} {k : Int} {i : Nat} (h : hasF k i = false) : stP L k (i + 1) = stP L k i := by rw [stP, if_neg (by rw [h]; decide)]
theorem stP_le {L : List Int} {k : Int} (hb : bytesB L) : ∀ i, i ≤ 9 → (stP L k i).1.a ≤ L.length
  | 0, _ => Nat.zero_le _
  | i + 1, h => by
    have ih := stP_le (k := k) hb i (by omega)
    cases hh : hasF k i with
    | true => rw [stP_yes hh]; exact (fR_ok i (by omega)).le hb ih
    | false => rw [stP_no hh]; exact ih
theorem stP_fwd {L : List Int} {m : Wm} {k : Int} (ho : ∀ i, i < 9 → hasF k i = true → fOk i m) : ∀ i, i ≤ 9 → (∀ r', L = wBn k m i ++ r' → stP L k i = (⟨(wBn k m i).length, 0⟩, mFn k m i))
  | 0, _, _, _ => rfl
  | i + 1, h, r', hL => by
    rw [wBn, List.append_assoc] at hL
    have ih := stP_fwd (L := L) ho i (by omega) _ hL
    cases hh : hasF k i with
    | false =>
      rw [stP_no hh, ih, wBn, mFn, if_neg (by rw [hh]; decide), if_neg (by rw [hh]; decide), List.append_nil]
    | true =>
      rw [hh, if_pos rfl] at hL
      have hd : L.drop (wBn k m i).length = fB i m ++ r' := by
        conv => lhs; rw [hL]
        rw [List.drop_left]
      obtain ⟨g1, g2⟩ := (fR_ok i (by omega)).fwd (ho i (by omega) hh) hd
      rw [stP_yes hh, ih, wBn, mFn, if_pos hh, if_pos hh]
      simp only
      rw [g1, g2, List.length_append]
end Go.Proofs.YtopidfkmligljaaGreat
