/- Contracts: sync.Once: what it is handed is carried out, once. -/
import Derived.Test.YthbpdmlbfnjoiaaCo1
namespace Go.Am
set_option linter.unusedSimpArgs false
set_option linter.unusedVariables false
set_option maxHeartbeats 4000000
open Go Go.RowKit
theorem HR.get0 {B : BM} {w : World} {l : List AV} {b sz : Nat} (hr : HR B (listH [.cells false l]) w) (hb : B 0 = some (b, sz)) {o : Nat} {x : Value} (hl : l[o]? = some (.val x)) :
    w.cell? ⟨b, o, none⟩ = some x ∧ w.frozen? ⟨b, o, none⟩ = false := by
  have hob := hr.obj 0
  rw [hb] at hob
  obtain ⟨arr, T, fz, hh, hsz, hvs, h1c, hf, hall⟩ := OR.at_own hob
  have hlen : l.length ≤ arr.size := by have := hvs.length; simp at this ⊢; omega
  have ho : o < l.length := (List.getElem?_eq_some_iff.1 hl).1
  obtain ⟨r, hr0, hvr⟩ := hvs.get o hl
  rw [vr_val] at hvr
  subst hvr
  refine ⟨?_, ?_⟩
  · rw [cell_at hh]
    rw [List.getElem?_take] at hr0
    simpa [ho] using hr0
  · simp only [World.frozen?, hh]
    simp; omega
theorem HR.set0 {B : BM} {w : World} {l : List AV} {b sz : Nat} (hr : HR B (listH [.cells false l]) w) (hb : B 0 = some (b, sz)) {o : Nat} (y : Value) (ho : o < l.length) (hy : y.oneCell' = true) :
    HR B (listH [.cells false (l.set o (.val y))]) (w.setCell ⟨b, o, none⟩ y) := by
  have hob := hr.obj 0
  rw [hb] at hob
  obtain ⟨arr, T, fz, hh, hsz, hvs, h1c, hf, hall⟩ := OR.at_own hob
  have hlen : l.length ≤ arr.size := by have := hvs.length; simp at this ⊢; omega
  have hset : (w.setCell ⟨b, o, none⟩ y).heap[b]? = some (.cells (arr.setIfInBounds o y) T fz) := by
    simp only [World.setCell, Array.getElem?_modify, if_true, hh, Option.map_some]
    rfl
  have hkeep : ∀ x, x ≠ b → (w.setCell ⟨b, o, none⟩ y).heap[x]? = w.heap[x]? := fun x hx => Below.heap_setCell _ _ _ _ hx
  have htk : (arr.setIfInBounds o y).toList.take (l.set o (.val y)).length = (arr.toList.take l.length).set o y := by
    rw [Array.toList_setIfInBounds, List.length_set, List.take_set]
  have hs2 : (arr.setIfInBounds o y).size = sz := by simpa using hsz
  have hw := HR.write (B := B) (h := listH [.cells false l]) (i := 0) (o := .cells false (l.set o (.val y))) hr rfl hb hkeep (by
    rw [← hs2]
    refine OR_cells hset htk ?_ ?_ hf (fun x hx => by
      rw [Array.toList_setIfInBounds] at hx
      rcases List.mem_or_eq_of_mem_set hx with hx | rfl
      · exact hall x hx
      · exact hy)
    · refine VRs.of_get (by simpa using hvs.length) fun i a r ha hr' => ?_
      rw [List.getElem?_set] at ha hr'
      by_cases hi : o = i
      · subst hi
        rw [if_pos rfl, if_pos ho] at ha
        rw [if_pos rfl] at hr'
        split at hr'
        · cases ha; cases hr'; rw [vr_val]
        · cases hr'
      · rw [if_neg hi] at ha hr'
        obtain ⟨r2, h2, h3⟩ := hvs.get i ha
        rw [h2] at hr'
        cases hr'
        exact h3
    · intro x hx
      rcases List.mem_or_eq_of_mem_set hx with hx | rfl
      · exact h1c x hx
      · exact hy)
  have hup : upd (listH [.cells false l]) 0 (.cells false (l.set o (.val y))) = listH [.cells false (l.set o (.val y))] := by
    funext j
    cases j with
    | zero => rfl
    | succ j => rfl
  rw [hup] at hw
  exact hw
theorem HR.drewO {B : BM} {h : Nat → AObj} {w : World} (hr : HR B h w) : HR B h w.drew :=
  ⟨fun i => (hr.obj i).congr (fun _ _ _ _ => rfl), hr.apart, hr.zr.keep rfl (fun _ _ _ => rfl) hr.zr.free⟩
end Go.Am
namespace Go.Proofs.Ythbpdmlbfnjoiaa
open Go Go.Am Go.RowKit
abbrev U32 (n : Int) : AV := .val (.int .u32 n)
abbrev I32 (n : Int) : AV := .val (.int .i32 n)
/-- Not yet done, and the lock free: what is handed in is carried out. -/
theorem slow_any {g : FuncId} {r r' : List AV} (hen : entersB Try.prog g = true) (hg : ACall Try.prog g [.ptr 0 0] [.cells false (U32 0 :: I32 1 :: r)] (Det (.tup []) [.cells false (U32 0 :: I32 1 :: r')])) :
    ACall Try.prog 89 [.ptr 0 0, .fn g [.ptr 0 0] []] [.cells false (U32 0 :: I32 0 :: r)] (Det (.tup []) [.cells false (U32 1 :: I32 0 :: r')]) := by
  refine ⟨false, fun _ => by kernel_rfl, fun B w ra hargs hr hfr => ?_⟩
  simp only [VRs] at hargs
  obtain ⟨v, vs, hra, hv, v2, vs2, rfl, hv2, rfl⟩ := hargs
  simp only [VR] at hv hv2
  obtain ⟨b, sz, hb, rfl⟩ := hv
  obtain ⟨fa, fc, rfl, hfa, hfc⟩ := hv2
  simp only [VRs] at hfa hfc
  obtain ⟨v3, vs3, hfa', hv3, rfl⟩ := hfa
  simp only [VR] at hv3
  obtain ⟨b3, sz3, hb3, rfl⟩ := hv3
  rw [hb] at hb3
  cases hb3
  obtain rfl : fc = #[] := by apply Array.ext'; simpa using hfc
  obtain rfl : fa = #[.pointer (some ⟨b, 0, none⟩)] := by apply Array.ext'; simpa using hfa'
  obtain rfl : ra = #[.pointer (some ⟨b, 0, none⟩), .func (.func g) #[.pointer (some ⟨b, 0, none⟩)] #[]] := by apply Array.ext'; simpa using hra
  obtain ⟨h0, f0⟩ := hr.get0 hb (o := 0) rfl
  obtain ⟨h1, f1⟩ := hr.get0 hb (o := 1) rfl
  have hr1 := hr.set0 hb (o := 1) (.int .i32 1) (by simp) rfl
  obtain ⟨xg, _, hgc⟩ := hg
  have hf := hgc B _ #[.pointer (some ⟨b, 0, none⟩)] (by simp only [VRs]; exact ⟨_, _, rfl, by simp only [VR]; exact ⟨b, sz, hb, rfl⟩, rfl⟩) hr1 hfr
  obtain rfl : xg = false := by
    cases xg with
    | false => rfl
    | true =>
      exfalso
      obtain ⟨r, w', e, _⟩ := hf
      rw [enter_of hen] at e
      cases e
  have hmine : ∀ x, Mine B (listH [.cells false (U32 0 :: I32 1 :: r)]) (w.setCell ⟨b, 1, none⟩ (.int .i32 1)) x → Mine B (listH [.cells false (U32 0 :: I32 0 :: r)]) w x := fun x hx => by
    rcases hx with hx | ⟨i, n, hi, hbx⟩
    · exact .inl (by simpa [World.setCell] using hx)
    · cases i with
      | zero => exact .inr ⟨0, n, rfl, hbx⟩
      | succ i => cases hi
  have hbm : Mine B (listH [.cells false (U32 0 :: I32 0 :: r)]) w b := .inr ⟨0, sz, rfl, hb⟩
  refine (once_slow b g #[.pointer (some ⟨b, 0, none⟩)] hen w (fun w2 => ∃ B', (∀ i, i < 1 → B' i = B i) ∧ HR B' (listH [.cells false (U32 0 :: I32 1 :: r')]) w2 ∧ (∀ i, 1 ≤ i → B' i = none) ∧
      Kept (Mine B (listH [.cells false (U32 0 :: I32 1 :: r)]) (w.setCell ⟨b, 1, none⟩ (.int .i32 1))) (w.setCell ⟨b, 1, none⟩ (.int .i32 1)) w2 ∧ (∀ b a, B.z b = some a → B'.z b = some a) ∧ ∀ x a, B'.z x = some a → B.z x = some a ∨ Mine B (listH [.cells false (U32 0 :: I32 0 :: r)]) w x) h0 h1 f0 f1 (Calls.mono hf ?_)).mono ?_
  · rintro e w2 ⟨v, H', rv, B', rfl, ⟨rfl, rfl⟩, _, hB, hrv, hr2, hfr2, hk, _, ⟨hz1, hz2⟩, _⟩
    have hb' : B' 0 = some (b, sz) := by rw [hB 0 (by simp)]; exact hb
    simp only [VR, VRs] at hrv
    obtain ⟨a, rfl, ha⟩ := hrv
    obtain rfl : a = #[] := by apply Array.ext'; simpa using ha
    obtain ⟨g0, k0⟩ := hr2.get0 hb' (o := 0) rfl
    obtain ⟨g1, k1⟩ := hr2.get0 hb' (o := 1) rfl
    exact ⟨rfl, g0, g1, k0, k1, B', hB, hr2, hfr2, hk, hz1, fun x a hx => (hz2 x a hx).imp id (hmine x)⟩
  · rintro e w3 ⟨rfl, w2, ⟨B', hB, hr2, hfr2, hk, hz1, hz2⟩, g0, g1, k0, k1, rfl⟩
    have hb' : B' 0 = some (b, sz) := by rw [hB 0 (by simp)]; exact hb
    have hr3 := (hr2.drewO.set0 hb' (o := 0) (.int .u32 1) (by simp) rfl).set0 hb' (o := 1) (.int .i32 0) (by simp) rfl
    have hs : ∀ (w : World) (a : Addr) (x : Value), (w.setCell a x).heap.size = w.heap.size := fun w a x => by simp [World.setCell]
    refine ⟨.tup [], [.cells false (U32 1 :: I32 0 :: r')], _, B', rfl, ⟨rfl, rfl⟩, Nat.le_refl _, hB, by simp [VR, VRs], hr3, hfr2, ⟨?_, ?_, ?_, ?_, ?_⟩, ?_, ⟨hz1, hz2⟩, ?_⟩
    · exact hk.os
    · exact hk.tape
    · exact hk.output
    · rw [hs, hs]; have := hk.size; rw [hs] at this; exact this
    · intro x hx hn
      have hxb : x ≠ b := fun h => hn (h ▸ hbm)
      rw [Below.heap_setCell _ _ _ _ hxb, Below.heap_setCell _ _ _ _ hxb]
      have := hk.block x (by rw [hs]; exact hx) (fun h => hn (hmine x h))
      rw [Below.heap_setCell _ _ _ _ hxb] at this
      exact this
    · intro i b2 n hi hb2
      cases i with
      | zero => rw [hb'] at hb2; cases hb2; exact hbm
      | succ i => cases hi
    · intro i hl ho
      cases i with
      | zero => cases ho
      | succ i => cases hl
/-- The Bool at the head of an object. -/
theorem bload_any (x : Int) (rest : List AV) : ACall Try.prog 88 [.ptr 0 0] [.cells true (U32 x :: rest)] (Det (Bo (x != 0)) [.cells true (U32 x :: rest)]) := by
  refine ⟨false, fun _ => by kernel_rfl, fun B w ra hargs hr hfr => ?_⟩
  simp only [VRs] at hargs
  obtain ⟨v, vs, hra, hv, rfl⟩ := hargs
  simp only [VR] at hv
  obtain ⟨b, sz, hb, rfl⟩ := hv
  obtain rfl : ra = #[.pointer (some ⟨b, 0, none⟩)] := by apply Array.ext'; simpa using hra
  have hob := hr.obj 0
  rw [hb] at hob
  obtain ⟨arr, T, fz, hh, hsz, hvs, h1c, hf⟩ := OR.at_block hob
  obtain ⟨r, hr0, hvr⟩ := hvs.get 0 (a := U32 x) rfl
  rw [vr_val] at hvr
  subst hvr
  have hc : w.cell? ⟨b, 0, none⟩ = some (.int .u32 x) := by
    rw [cell_at hh]
    rw [List.getElem?_take] at hr0
    simpa using hr0
  refine (once_load ⟨b, 0, none⟩ x w hc).mono ?_
  rintro e w' ⟨rfl, rfl⟩
  exact ⟨Bo (x != 0), [.cells true (U32 x :: rest)], _, B, rfl, ⟨rfl, rfl⟩, Nat.le_refl _, fun _ _ => rfl, by rw [vr_val], hr, hfr, Kept.refl _ _, fun i b n hi hb => .inr ⟨i, n, hi, hb⟩, ⟨fun _ _ h => h, fun _ _ h => .inl h⟩, fun _ _ _ => rfl⟩
end Go.Proofs.Ythbpdmlbfnjoiaa
