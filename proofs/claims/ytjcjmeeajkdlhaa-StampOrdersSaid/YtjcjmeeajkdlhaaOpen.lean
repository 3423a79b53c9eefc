/- What is read of the arguments: stamps, entries, marks, as lists of cells. -/
import Derived.Test.YtjcjmeeajkdlhaaRows
import Derived.Test.YtjcjmeeajkdlhaaKit
import Derived.ProofKit
import Derived.OpenShut
import Derived.ShutString
import Derived.ChangeOld
import Derived.Deep.Slices
namespace Go.Proofs.Ytjcjmeeajkdlhaa
open Go.RowKit Go.ChangeShapes Go.WideShapes Go.ChangeAt
open Go.ChangeMaps (open_string shut_string)
section
variable {H : Type} {enc : TypeId × Value → H} {w : World} {base : Nat} {spare : Nat → Bool} {held : Bool}

theorem at_some {α : Type} {xs : List α} {n i : Nat} {o : Option α} (hl : xs.length = n) (hi : i < n) (h : o = xs[i]?) : ∃ y, o = some y :=
  ⟨xs[i]'(by omega), by rw [h]; simp [hl, hi]⟩

theorem own : ownKnob Try.prog.godebug = none := by kernel_rfl
theorem laidOut : laidOutB Try.prog = true := by kernel_rfl
theorem cells_int : Try.prog.cellsOf 3 = 1 := by kernel_rfl
theorem cells_bool : Try.prog.cellsOf 4 = 1 := by kernel_rfl
theorem cells_string : Try.prog.cellsOf 9 = 1 := by kernel_rfl

def In64 (n : Int) : Prop := -9223372036854775808 ≤ n ∧ n ≤ 9223372036854775807
theorem in64_of_wf {n : Int} (h : (Lit.int .i64 n).wf = true) : In64 n := by
  simp [Lit.wf, IntKind.min, IntKind.max, IntKind.signed, IntKind.bits] at h; unfold In64; omega
structure St.ok (s : St) : Prop where
  c : In64 s.c
  s : In64 s.s

theorem cells_st : Try.prog.cellsOf 23 = 2 := by kernel_rfl
set_option maxRecDepth 100000 in
theorem st_cells {fuel : Nat} {cs : List Value} {x : DataW H × List MemPlace} (h : DataW.trod enc Try.prog w base spare held fuel 23 cs = some x) :
    ∃ s : St, cs = [.int .i64 s.c, .int .i64 s.s] ∧ s.ok := by
  obtain ⟨xs, n, _, _, hlen, hx, hf⟩ := DataW.trod_struct Try.underlying23 h
  rw [cells_st] at hlen
  match cs, hlen with
  | [c0, c1], _ =>
    obtain ⟨y0, h0⟩ := at_some hx (by decide) (hf 0 _ rfl)
    obtain ⟨y1, h1⟩ := at_some hx (by decide) (hf 1 _ rfl)
    simp [cells_int] at h0 h1
    obtain ⟨n0, e0, _, w0⟩ := DataW.trod_int Try.underlying3 h0
    obtain ⟨n1, e1, _, w1⟩ := DataW.trod_int Try.underlying3 h1
    simp at e0 e1
    subst e0 e1
    exact ⟨⟨n0, n1⟩, rfl, in64_of_wf w0, in64_of_wf w1⟩

structure En.ok (e : En) : Prop where
  key : e.key.size ≤ maxLen
  val : e.val.size ≤ maxLen
  st : e.st.ok
  act : e.act.ok
  keep : In64 e.keep
  age : In64 e.age
theorem cells_en : Try.prog.cellsOf 25 = 9 := by kernel_rfl
set_option maxRecDepth 100000 in
theorem en_cells {fuel : Nat} {cs : List Value} {x : DataW H × List MemPlace} (h : DataW.trod enc Try.prog w base spare held fuel 25 cs = some x) :
    ∃ e : En, cs = [.string e.key, .string e.val, .bool e.dead, .int .i64 e.st.c, .int .i64 e.st.s, .int .i64 e.act.c, .int .i64 e.act.s, .int .i64 e.keep, .int .i64 e.age] ∧ e.ok := by
  obtain ⟨xs, n, _, _, hlen, hx, hf⟩ := DataW.trod_struct Try.underlying25 h
  rw [cells_en] at hlen
  match cs, hlen with
  | [c0, c1, c2, c3, c4, c5, c6, c7, c8], _ =>
    obtain ⟨y0, h0⟩ := at_some hx (by decide) (hf 0 _ rfl)
    obtain ⟨y1, h1⟩ := at_some hx (by decide) (hf 1 _ rfl)
    obtain ⟨y2, h2⟩ := at_some hx (by decide) (hf 2 _ rfl)
    obtain ⟨y3, h3⟩ := at_some hx (by decide) (hf 3 _ rfl)
    obtain ⟨y4, h4⟩ := at_some hx (by decide) (hf 4 _ rfl)
    obtain ⟨y5, h5⟩ := at_some hx (by decide) (hf 5 _ rfl)
    obtain ⟨y6, h6⟩ := at_some hx (by decide) (hf 6 _ rfl)
    simp [cells_int, cells_string, cells_bool, cells_st] at h0 h1 h2 h3 h4 h5 h6
    obtain ⟨n0, e0, _, w0⟩ := DataW.trod_string Try.underlying9 h0
    obtain ⟨n1, e1, _, w1⟩ := DataW.trod_string Try.underlying9 h1
    obtain ⟨n2, e2, _⟩ := DataW.trod_bool Try.underlying4 h2
    obtain ⟨n3, e3, w3⟩ := st_cells h3
    obtain ⟨n4, e4, w4⟩ := st_cells h4
    obtain ⟨n5, e5, _, w5⟩ := DataW.trod_int Try.underlying3 h5
    obtain ⟨n6, e6, _, w6⟩ := DataW.trod_int Try.underlying3 h6
    simp at e0 e1 e2 e3 e4 e5 e6
    obtain ⟨e3, e3'⟩ := e3
    obtain ⟨e4, e4'⟩ := e4
    subst e0 e1 e2 e3 e3' e4 e4' e5 e6
    exact ⟨⟨n0, n1, n2, n3, n4, n5, n6⟩, rfl, w0, w1, w3, w4, in64_of_wf w5, in64_of_wf w6⟩

set_option maxRecDepth 100000 in
theorem open_en {r : Reach} {b0 : Nat} {v : Value} {d : DataW H} {p : List MemPlace} (hv : Value.okWide Try.prog w r b0 25 v) (h : DataW.Trod enc Try.prog w base spare held 25 v d p) :
    ∃ e : En, v = .agg #[.string e.key, .string e.val, .bool e.dead, .int .i64 e.st.c, .int .i64 e.st.s, .int .i64 e.act.c, .int .i64 e.act.s, .int .i64 e.keep, .int .i64 e.age] ∧ e.ok := by
  obtain ⟨cs, rfl, hsz⟩ := okWide_struct Try.underlying25 hv
  obtain ⟨fuel, hf⟩ := h
  obtain ⟨e, hc, ho⟩ := en_cells hf
  refine ⟨e, ?_, ho⟩
  simp only [Value.cells] at hc
  rw [← hc]
set_option maxRecDepth 100000 in
theorem open_st {r : Reach} {b0 : Nat} {v : Value} {d : DataW H} {p : List MemPlace} (hv : Value.okWide Try.prog w r b0 23 v) (h : DataW.Trod enc Try.prog w base spare held 23 v d p) :
    ∃ s : St, v = .agg #[.int .i64 s.c, .int .i64 s.s] ∧ s.ok := by
  obtain ⟨cs, rfl, hsz⟩ := okWide_struct Try.underlying23 hv
  obtain ⟨fuel, hf⟩ := h
  obtain ⟨s, hc, ho⟩ := st_cells hf
  refine ⟨s, ?_, ho⟩
  simp only [Value.cells] at hc
  rw [← hc]
end
end Go.Proofs.Ytjcjmeeajkdlhaa
