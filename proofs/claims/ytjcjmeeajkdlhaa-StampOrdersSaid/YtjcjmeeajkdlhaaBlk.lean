/- Blocks of memory known whole; no program in sight. -/
import Derived.Test.YtjcjmeeajkdlhaaKit
import Derived.Laws.LoneSync
namespace Go.Proofs.Ytjcjmeeajkdlhaa
open Go.RowKit

/-- Block b of w: these cells, none of them frozen. -/
def Blk (w : World) (b : Nat) (cs : List Value) (t : TypeId) : Prop := w.heap[b]? = some (.cells cs.toArray t (0, 0))
namespace Blk
variable {w : World} {b : Nat} {cs : List Value} {t : TypeId}
theorem lt (h : Blk w b cs t) : b < w.heap.size := lt_of_block h
theorem cell (h : Blk w b cs t) (i : Nat) {v : Value} (hi : cs[i]? = some v) : w.cell? ⟨b, i, none⟩ = some v := by
  unfold Blk at h; simp [World.cell?, h, hi]
theorem free (h : Blk w b cs t) (i : Nat) : w.frozen? ⟨b, i, none⟩ = false := by
  unfold Blk at h; simp [World.frozen?, h]
theorem set (h : Blk w b cs t) (i : Nat) (u : Value) : Blk (w.setCell ⟨b, i, none⟩ u) b (cs.set i u) t := by
  have hlt := lt_of_block h
  have h' : w.heap[b] = .cells cs.toArray t (0, 0) := by
    have h0 := h
    unfold Blk at h0
    simpa [Array.getElem?_eq_getElem hlt] using h0
  show (w.heap.modify b _)[b]? = _
  rw [Array.getElem?_eq_getElem (by simpa using hlt), Array.getElem_modify_self, h']
  simp
theorem set_other (h : Blk w b cs t) {p : Addr} (hp : p.block ≠ b) (u : Value) : Blk (w.setCell p u) b cs t :=
  (Below.heap_setCell w p u b (fun e => hp e.symm)).trans h
theorem new (w : World) (cs : Array Value) (t : TypeId) : Blk (w.alloc (.cells cs t)) w.heap.size cs.toList t := by
  show (w.heap.push _)[w.heap.size]? = _
  simp
theorem alloc (h : Blk w b cs t) (o : Obj) : Blk (w.alloc o) b cs t := (Below.heap_alloc w o b h.lt).trans h
theorem drew (h : Blk w b cs t) : Blk w.drew b cs t := h
theorem below (h : Blk w b cs t) {B : Nat} {w' : World} (hb : Below B w w') (hlt : b < B) : Blk w' b cs t := (hb.block b hlt).trans h
theorem grown (h : Blk w b cs t) {w' : World} {r : Option Nat} (hg : w.grownBy w' r) (hne : some b ≠ r) : Blk w' b cs t := (hg.block b h.lt hne).trans h
end Blk

theorem grown_trans {a b c : World} {r : Option Nat} (h : a.grownBy b r) (k : b.grownBy c r) : a.grownBy c r :=
  ⟨k.os.trans h.os, k.tape.trans h.tape, k.output.trans h.output, Nat.le_trans h.size k.size, fun i hi hne => (k.block i (Nat.lt_of_lt_of_le hi h.size) hne).trans (h.block i hi hne)⟩
theorem grown_refl (w : World) (r : Option Nat) : w.grownBy w r := ⟨rfl, rfl, rfl, Nat.le_refl _, fun _ _ _ => rfl⟩
theorem grown_alloc {a w : World} {r : Option Nat} (h : a.grownBy w r) (o : Obj) : a.grownBy (w.alloc o) r :=
  ⟨h.os, h.tape, h.output, Nat.le_trans h.size (by simp), fun i hi hne => (Below.heap_alloc w o i (Nat.lt_of_lt_of_le hi h.size)).trans (h.block i hi hne)⟩
theorem grown_drew {a w : World} {r : Option Nat} (h : a.grownBy w r) : a.grownBy w.drew r := ⟨h.os, h.tape, h.output, h.size, h.block⟩
theorem grown_set {a w : World} {g : Nat} (h : a.grownBy w (some g)) {p : Addr} (hp : p.block = g ∨ a.heap.size ≤ p.block) (u : Value) : a.grownBy (w.setCell p u) (some g) :=
  ⟨h.os, h.tape, h.output, by simpa [World.setCell] using h.size, fun i hi hne => (Below.heap_setCell w p u i (by
    rintro rfl
    rcases hp with hp | hp
    · exact hne (by rw [hp])
    · omega)).trans (h.block i hi hne)⟩
theorem grown_below {a w w' : World} {r : Option Nat} (h : a.grownBy w r) {B : Nat} (hb : Below B w w') (hB : a.heap.size ≤ B) : a.grownBy w' r :=
  ⟨hb.os.trans h.os, hb.tape.trans h.tape, hb.output.trans h.output, Nat.le_trans h.size hb.size, fun i hi hne => (hb.block i (Nat.lt_of_lt_of_le hi hB)).trans (h.block i hi hne)⟩
theorem grown_of_below {a w : World} (h : Below a.heap.size a w) (r : Option Nat) : a.grownBy w r := ⟨h.os, h.tape, h.output, h.size, fun i hi _ => h.block i hi⟩
/-- Cells of other blocks behind a callee that writes block g alone. -/
theorem gcell {W w1 : World} {g : Nat} (hg : W.grownBy w1 (some g)) : (∀ b o, b < W.heap.size → b ≠ g → w1.cell? ⟨b, o, none⟩ = W.cell? ⟨b, o, none⟩) ∧ (∀ b o, b < W.heap.size → b ≠ g → w1.frozen? ⟨b, o, none⟩ = W.frozen? ⟨b, o, none⟩) :=
  ⟨fun b o h hne => World.cell?_of_block (w := W) (a := ⟨b, o, none⟩) (hg.block b h (fun e => hne (by injection e))), fun b o h hne => World.frozen?_of_block (w := W) (a := ⟨b, o, none⟩) (hg.block b h (fun e => hne (by injection e)))⟩
theorem below_grown {B g : Nat} {w0 w w' : World} (h : Below B w0 w) (hg : w.grownBy w' (some g)) (hB : B ≤ w.heap.size) (hb : B ≤ g) : Below B w0 w' :=
  h.grown hg hB (fun k hk => by injection hk with hk; omega)
end Go.Proofs.Ytjcjmeeajkdlhaa
