/- Own theory: slices.overlaps at two rows of one's own. -/
import Derived.Test.YtodnlihbmgigjaaEg4
import Derived.Lib.Overlaps
namespace Go.Am
set_option linter.unusedSimpArgs false
set_option linter.unusedVariables false
set_option maxHeartbeats 4000000
open Go Go.RowKit
theorem overlaps_gen {P : Program} {g : FuncId} {fn : Func} {tS tR e : TypeId} {k : Nat} (hf : P.funcs[g]? = some fn) (h1 : (fn.name == "runtime.NumGoroutine") = false) (h2 : fn.body.isNone = true) (h3 : Extern.findNext fn = none) (he : Extern.find fn = some (Extern.SlicesOverlaps.overlaps #[tS, tS] #[tR]))
    (ht : P.underlying tS = some (.slice e)) (hz : sizeT P e = some k) (hk : 0 < k) {o la o' lb : Nat} {ca cb : Option Nat} {C D : List AV} (hC : ∀ ρ, renL ρ C = C) (hD : ∀ ρ, renL ρ D = D) (hla : 0 < la) (hlb : 0 < lb) :
    ACall P g [.sl 0 o la k ca, .sl 1 o' lb k cb] [.cells false C, .cells false D] (Det (.val (.bool false)) [.cells false C, .cells false D]) := by
  refine ⟨true, fun h => (by cases h), fun B w ra hargs hr hfr => ?_⟩
  rw [args2] at hargs
  obtain ⟨va, vb, hra, ha, hb⟩ := hargs
  simp only [VR] at ha hb
  rcases ha with ⟨h0, _⟩ | ⟨b1, n1, c1, o1, hB1, rfl, p1, p2, p3, p4⟩
  · omega
  rcases hb with ⟨h0, _⟩ | ⟨b2, n2, c2, o2, hB2, rfl, q1, q2, q3, q4⟩
  · omega
  obtain rfl : ra = #[.slice (some ⟨b1, o1, none⟩) la c1, .slice (some ⟨b2, o2, none⟩) lb c2] := by apply Array.ext'; simpa using hra
  have hob1 := hr.obj 0
  have hob2 := hr.obj 1
  rw [hB1] at hob1
  rw [hB2] at hob2
  obtain ⟨arr1, T1, fz1, g1, g2, _, _, g5, _⟩ := OR.at_own (show OR B (.cells false C) (some (b1, n1)) w from hob1)
  obtain ⟨arr2, T2, fz2, k1, k2, _, _, k5, _⟩ := OR.at_own (show OR B (.cells false D) (some (b2, n2)) w from hob2)
  have hne : b1 ≠ b2 := fun e => hr.apart 0 1 b1 n1 n2 (by decide) rfl rfl hB1 (by rw [hB2, e])
  have hn2 : arr2.size ≠ 0 := by
    have : 1 * k ≤ c2 * k := Nat.mul_le_mul_right _ (by omega)
    omega
  have hfr1 : ∀ q : Nat, w.frozen? ⟨b1, q, none⟩ = false := fun q => by
    simp only [World.frozen?, g1]
    simp; omega
  have key := Lib.run_overlaps_apart (P := P) w tS tR e ht k (fun w => run_size hz w) ⟨b1, o1, none⟩ ⟨b2, o2, none⟩ la c1 lb c2 hne T1 T2 arr1.size arr2.size (by simp [World.shape?, g1]) (by simp [World.shape?, k1]) hn2 (hfr1 o1) (hfr1 arr1.size)
  refine ⟨.bool false, w, ?_, ?_⟩
  · rw [run_callFunc_extern hf h1 h2 h3 he, key]
    rfl
  · exact ⟨.val (.bool false), [.cells false C, .cells false D], .bool false, B, rfl, ⟨rfl, rfl⟩, Nat.le_refl _, fun _ _ => rfl, by rw [vr_val], hr, hfr, Kept.refl _ _, fun i b n hi hb => .inr ⟨i, n, hi, hb⟩, ⟨fun _ _ h => h, fun _ _ h => .inl h⟩, fun _ _ _ => rfl⟩
/-- Cells behind are forgotten at a contract's end. -/
theorem ACall.cutR {P : Program} {g : FuncId} {args : List AV} {H : List AObj} {v : AV} {A : List AObj} {l : List AV} (m : Nat) (h : ACall P g args H (Det v (A ++ [.cells false l]))) : ACall P g args H (Det v (A ++ [.cells false (l.take m)])) := by
  obtain ⟨x, hen, hc⟩ := h
  refine ⟨x, hen, fun B w ra h1 h2 h3 => (hc B w ra h1 h2 h3).mono ?_⟩
  rintro e w' ⟨v', H', rv, B', rfl, ⟨rfl, rfl⟩, hlen, hB, hv, hr, hfr, hk, ho, hz, hro⟩
  have rel : ∀ i, listH (A ++ [.cells false (l.take m)]) i = listH (A ++ [.cells false l]) i ∨ (listH (A ++ [.cells false l]) i = .cells false l ∧ listH (A ++ [.cells false (l.take m)]) i = .cells false (l.take m)) := by
    intro i
    rcases Nat.lt_trichotomy i A.length with h | h | h
    · left; simp [listH, List.getElem?_append_left h]
    · right; subst h; simp [listH]
    · left; simp [listH, List.getElem?_eq_none, show A.length + 1 ≤ i by omega]
  have own : ∀ i, (listH (A ++ [.cells false (l.take m)]) i).own = (listH (A ++ [.cells false l]) i).own := fun i => by
    rcases rel i with h | ⟨h, h'⟩
    · rw [h]
    · rw [h, h']; rfl
  have liv : ∀ i, (listH (A ++ [.cells false (l.take m)]) i).live = (listH (A ++ [.cells false l]) i).live := fun i => by
    rcases rel i with h | ⟨h, h'⟩
    · rw [h]
    · rw [h, h']; rfl
  refine ⟨v', _, rv, B', rfl, ⟨rfl, rfl⟩, by simpa using hlen, hB, hv, ⟨fun i => ?_, fun i j b n n' hij hi hj => ?_, hr.zr.keep rfl (fun _ _ _ => rfl) fun i b n hi hb => hr.zr.free i b n (by rw [own] at hi; exact hi) hb⟩, fun i hi => hfr i (by simpa using hi), hk, fun i b n hi => ?_, hz, fun i hi hn => ?_⟩
  · rcases rel i with h | ⟨h, h'⟩
    · rw [h]; exact hr.obj i
    · rw [h']; have := hr.obj i; rw [h] at this; exact this.trunc m
  · rw [own] at hi; rw [liv] at hj; exact hr.apart i j b n n' hij hi hj
  · rw [own] at hi; exact ho i b n hi
  · rcases rel i with h | ⟨h, h'⟩
    · rw [h] at hi hn ⊢; exact hro i hi hn
    · rw [h'] at hn; cases hn
end Go.Am
