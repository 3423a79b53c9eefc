/- Own theory, no program in sight: what comes in, opened; any nesting of slices. -/
import Derived.Test.YteggjhihpjjloaaAm21
import Derived.ProofKit
import Derived.OpenShut
import Derived.ShutString
import Derived.ChangeOld
import Derived.Deep.Slices
import Derived.WideShapes
import Derived.ChangeAt
namespace Go.Am
set_option linter.unusedSimpArgs false
set_option linter.unusedVariables false
set_option maxHeartbeats 4000000
open Go Go.RowKit Go.ChangeShapes Go.WideShapes Go.ChangeAt Go.Deep
set_option linter.unusedVariables false
set_option linter.unusedSimpArgs false

section
variable {H : Type} {enc : TypeId × Value → H} {P : Program} {W : World} {base : Nat} {held : Bool}
/-- Cells of a type, and what they are. -/
def Rd (enc : TypeId × Value → H) (P : Program) (W : World) (base : Nat) (held : Bool) {α : Type} (T : TypeId) (rep : α → List Value) (ok : α → Prop) : Prop :=
  ∀ n cs x, DataW.trod enc P W base (fun _ => true) held n T cs = some x → (∀ v ∈ cs, v.oneCell' = true) ∧ ∃ a, cs = rep a ∧ ok a
structure Sl (α : Type) where
  ad : Option Addr
  off : Nat
  cap : Nat
  l : List α
abbrev Sl.rep {α : Type} (s : Sl α) : List Value := [.slice s.ad s.l.length s.cap]
structure Sl.ok {α : Type} (W : World) (sz : Nat) (rep : α → List Value) (p : α → Prop) (s : Sl α) : Prop where
  fz : Fz W s.ad s.l.length s.cap sz s.off (s.l.flatMap rep)
  all : ∀ a ∈ s.l, p a
  len : s.l.length ≤ maxLen
theorem rd_bool {T : TypeId} (h : P.underlying T = some .bool) : Rd enc P W base held T (fun b : Bool => [.bool b]) (fun _ => True) := fun n cs x e => by
  obtain ⟨b, h1, _⟩ := DataW.trod_bool h e
  exact ⟨by rw [h1]; simp [Value.oneCell'], b, h1, trivial⟩
theorem rd_int {T : TypeId} {k : IntKind} (h : P.underlying T = some (.int k)) : Rd enc P W base held T (fun n : Int => [.int k n]) (fun n => k.min ≤ n ∧ n ≤ k.max) := fun n cs x e => by
  obtain ⟨b, h1, _, h2⟩ := DataW.trod_int h e
  refine ⟨by rw [h1]; simp [Value.oneCell'], b, h1, ?_⟩
  simpa [Lit.wf] using h2
theorem rd_string {T : TypeId} (h : P.underlying T = some .string) : Rd enc P W base held T (fun s : ByteArray => [.string s]) (fun s => s.size ≤ maxLen) := fun n cs x e => by
  obtain ⟨b, h1, _, h2⟩ := DataW.trod_string h e
  exact ⟨by rw [h1]; simp [Value.oneCell'], b, h1, h2⟩
theorem rd_slice {T e sz : Nat} {α : Type} {rep : α → List Value} {ok : α → Prop} (ht : P.underlying T = some (.slice e)) (hc : P.cellsOf e = sz) (hsz : 0 < sz) (hr : Rd enc P W base held e rep ok) :
    Rd enc P W base held T (fun s : Sl α => s.rep) (Sl.ok W sz rep ok) := fun n cs x h => by
  rcases open_slice ht h with ⟨rfl, _⟩ | ⟨a, len, cap, m, n', D, Pl, rfl, hb, hl, hm, hmm, _, hi⟩
  · exact ⟨by simp [Value.oneCell'], ⟨none, 0, 0, []⟩, rfl, .inl ⟨rfl, rfl, rfl, rfl⟩, by simp, by simp [maxLen]⟩
  · have hmc : m = cap := by simpa using hmm
    subst hmc
    refine ⟨by simp [Value.oneCell'], ?_⟩
    rcases Nat.eq_zero_or_pos m with h0 | h0
    · subst h0
      obtain rfl : len = 0 := by omega
      exact ⟨⟨some a, 0, 0, []⟩, rfl, .inl ⟨rfl, rfl, rfl, rfl⟩, by simp, by simp [maxLen]⟩
    · have hcell0 : ∀ i, i < m → ∃ cs', cs'.length = sz ∧ (∀ j, j < sz → W.cell? ((a.add (i * sz)).add j) = cs'[j]?) ∧ DataW.trod enc P W base (fun _ => true) held n' e cs' = some (D i, Pl i) := by
        intro i him
        obtain ⟨cs', h1, h2⟩ := hi i him
        rw [hc] at h1
        obtain ⟨_, h3, h4⟩ := World.cells?_some h1
        exact ⟨cs', h3, h4, h2⟩
      obtain ⟨cs0, q1, q2, _⟩ := hcell0 0 h0
      have q3 : W.cell? a = some cs0[0] := by
        have := q2 0 hsz
        rw [List.getElem?_eq_getElem (by omega)] at this
        simpa [Addr.add] using this
      have hsp := World.cell?_spot q3
      obtain ⟨b, o, sp⟩ := a
      simp only at hsp
      subst hsp
      obtain ⟨arr, T', fz, hh⟩ : ∃ arr T' fz, W.heap[b]? = some (.cells arr T' fz) := by
        unfold World.cell? at q3
        simp only at q3
        split at q3
        · rename_i c e f hh; exact ⟨_, _, _, hh⟩
        · cases q3
      have hcell : ∀ i, i < m → ∃ cs', cs'.length = sz ∧ (∀ j, j < sz → arr[o + i * sz + j]? = cs'[j]?) ∧ DataW.trod enc P W base (fun _ => true) held n' e cs' = some (D i, Pl i) := by
        intro i him
        obtain ⟨cs', h3, h4, h2⟩ := hcell0 i him
        refine ⟨cs', h3, fun j hj => ?_, h2⟩
        rw [← h4 j hj, addr_add, addr_add, cell_at hh]
      have hsize : o + m * sz ≤ arr.size := by
        obtain ⟨cs', h1, h2, _⟩ := hcell (m - 1) (by omega)
        have h3 := h2 (sz - 1) (by omega)
        rw [List.getElem?_eq_getElem (by omega)] at h3
        obtain ⟨h4, _⟩ := Array.getElem?_eq_some_iff.1 h3
        have : m * sz = (m - 1) * sz + sz := by
          obtain ⟨q, rfl⟩ : ∃ q, m = q + 1 := ⟨m - 1, by omega⟩
          rw [Nat.add_sub_cancel, Nat.succ_mul]
        omega
      have hlist : ∀ q, q ≤ len → ∃ l : List α, l.length = q ∧ l.flatMap rep = (arr.toList.drop o).take (q * sz) ∧ (∀ y ∈ l, ok y) ∧ ∀ v ∈ l.flatMap rep, v.oneCell' = true := by
        intro q
        induction q with
        | zero => exact fun _ => ⟨[], rfl, by simp, by simp, by simp⟩
        | succ q ih =>
          intro hq
          obtain ⟨l, h1, h2, h3, h5⟩ := ih (by omega)
          obtain ⟨cs', g1, g2, g3⟩ := hcell q (by omega)
          have hqs : (q + 1) * sz ≤ m * sz := Nat.mul_le_mul_right _ (by omega)
          rw [Nat.succ_mul] at hqs
          have hseg : (arr.toList.drop (o + q * sz)).take sz = cs' := by
            apply List.ext_getElem?
            intro j
            rw [List.getElem?_take]
            split
            · rename_i hj
              rw [List.getElem?_drop, ← g2 j hj]
              simp
            · rename_i hj
              rw [List.getElem?_eq_none (by omega)]
          obtain ⟨hone, y, hy, hoky⟩ := hr _ _ _ g3
          refine ⟨l ++ [y], by simp [h1], ?_, fun z hz => ?_, fun v hv => ?_⟩
          · rw [List.flatMap_append, h2, Nat.succ_mul, List.take_add, List.drop_drop, hseg, hy]
            simp
          · rcases List.mem_append.1 hz with hz | hz
            · exact h3 z hz
            · rw [List.mem_singleton.1 hz]; exact hoky
          · rw [List.flatMap_append] at hv
            rcases List.mem_append.1 hv with hv | hv
            · exact h5 v hv
            · exact hone v (by rw [hy]; simpa using hv)
      obtain ⟨l, h1, h2, h3, h5⟩ := hlist len (Nat.le_refl _)
      subst h1
      exact ⟨⟨some ⟨b, o, none⟩, o, m, l⟩, rfl, .inr ⟨b, o, arr, T', fz, rfl, hh, hl, hsize, .inl rfl, h2, h5⟩, h3, by simp only; omega⟩
theorem rd_open {T : TypeId} {α : Type} {rep : α → List Value} {ok : α → Prop} (hr : Rd enc P W base held T rep ok) {v : Value} {d : DataW H} {p : List MemPlace} (h : DataW.Trod enc P W base (fun _ => true) held T v d p) :
    ∃ a, v.cells.toList = rep a ∧ ok a ∧ ∀ x ∈ v.cells.toList, x.oneCell' = true := by
  obtain ⟨fuel, hf⟩ := h
  obtain ⟨h1, a, h2, h3⟩ := hr _ _ _ hf
  exact ⟨a, h2, h3, h1⟩
end
theorem at_some2 {α : Type} {xs : List α} {n i : Nat} {o : Option α} (hl : xs.length = n) (hi : i < n) (h : o = xs[i]?) : ∃ y, o = some y :=
  ⟨xs[i]'(by omega), by rw [h]; simp [hl, hi]⟩
end Go.Am
