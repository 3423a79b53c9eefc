/- Contract: all graves. -/
import Derived.Test.YtgjimlgofakbpaaGa3
import Derived.Test.YtgjimlgofakbpaaBe5
namespace Go.Proofs.Ytgjimlgofakbpaa
set_option linter.unusedSimpArgs false
set_option linter.unusedVariables false
set_option maxHeartbeats 4000000
open Go Go.Am Go.RowKit Go.Shelf
abbrev GrR (i : Nat) (site t2 : Int) : AObj := .cells true [.ptr i 0, I site, I t2]
abbrev GrO (i : Nat) (site t2 : Int) : AObj := .cells false [.ptr i 0, I site, I t2]
theorem cells_at {B : BM} {cs : List AV} {arr : Array Value} (hv : VRs B cs (arr.toList.take cs.length)) {i : Nat} {x : AV} (hx : cs[i]? = some x) : ∃ u, arr[i]? = some u ∧ VR B x u := by
  obtain ⟨r, h1, h2⟩ := hv.get i hx
  have hlt := (List.getElem?_eq_some_iff.1 hx).1
  rw [List.getElem?_take, if_pos hlt] at h1
  exact ⟨r, by simpa using h1, h2⟩
theorem pe_cells (p : PE) : (peV p).map AV.val = Ue.PiL p := rfl
set_option maxRecDepth 100000 in
theorem gall_any (site t2 : Int) (t : Ue.Tb) (hl : t.l.length ≤ 1099511627776) : ACall Try.prog 44 [.ptr 0 0] [GrR 1 site t2, Ue.TbR 2 t, .cells true (Ue.Rp 0 t.l)] (Det (.sl 3 0 t.l.length 9 none) [GrR 1 site t2, Ue.TbR 2 t, .cells true (Ue.Rp 0 t.l), .cells false (rowsC 0 EnL (t.l.map (·.v)))]) := by
  refine ⟨false, fun _ => by kernel_rfl, fun B w ra hargs hr hfr => ?_⟩
  have ho0 : OR B (GrR 1 site t2) (B 0) w := hr.obj 0
  have ho1 : OR B (Ue.TbR 2 t) (B 1) w := hr.obj 1
  have ho2 : OR B (.cells true (Ue.Rp 0 t.l)) (B 2) w := hr.obj 2
  simp only [VRs, VR] at hargs
  obtain ⟨v0, r0, hra, ⟨b0, n0, hB0, rfl⟩, rfl⟩ := hargs
  obtain rfl : ra = #[.pointer (some ⟨b0, 0, none⟩)] := by apply Array.ext'; simpa using hra
  rw [hB0] at ho0
  obtain ⟨arr0, T0, fz0, g1, g2, g3, -, -⟩ := ho0.at_block
  obtain ⟨u0, k1, k2⟩ := cells_at g3 (i := 0) rfl
  simp only [VR] at k2
  obtain ⟨b1, n1, hB1, rfl⟩ := k2
  rw [hB1] at ho1
  obtain ⟨arr1, T1, fz1, q1, q2, q3, -, -⟩ := ho1.at_block
  obtain ⟨sv, p1, p2⟩ := cells_at q3 (i := 1) rfl
  have hb0 := ho0.block rfl
  have hb1 := ho1.block rfl
  have hG : w.cell? ⟨b0, 0, none⟩ = some (.pointer (some ⟨b1, 0, none⟩)) := by simp [World.cell?, g1, k1]
  have hT : w.cell? ⟨b1, 1, none⟩ = some sv := by simp [World.cell?, q1, p1]
  have hI : EntsI w.heap.size w sv t.l := by
    simp only [VR] at p2
    rcases p2 with ⟨e, _, q, rfl⟩ | ⟨b2, n2, c, o, hB2, rfl, m1, m2, m3, m4⟩
    · exact .inl ⟨List.length_eq_zero_iff.1 e, q, rfl⟩
    · by_cases hz : t.l.length = 0 ∧ c = 0
      · exact .inl ⟨List.length_eq_zero_iff.1 hz.1, _, by rw [hz.1, hz.2]⟩
      · have ho : o = 0 := by rcases m3 with h | h
                              · exact h
                              · exact absurd ⟨by omega, h⟩ hz
        subst ho
        rw [hB2] at ho2
        have hb2 := ho2.block rfl
        obtain ⟨arr2, T2, fz2, s1, s2, s3, -, -⟩ := ho2.at_block
        refine .inr ⟨b2, 0, c, rfl, hb2, fun k hk j u hj => ?_⟩
        have hj10 : j < 10 := by have := (List.getElem?_eq_some_iff.1 hj).1; simpa [peV] using this
        have hat := Ue.rp_at 0 t.l k hk
        have hx : (Ue.Rp 0 t.l)[0 + k * 10 + j]? = some (.val u) := by
          have h1 := congrArg (fun x => x[j]?) hat
          rw [List.getElem?_take, if_pos hj10, List.getElem?_drop, ← pe_cells, List.getElem?_map, hj] at h1
          exact h1
        obtain ⟨u', e1, e2⟩ := cells_at s3 hx
        rw [vr_val] at e2
        subst e2
        simp only [World.cell?, s1]
        simpa using e1
  show Calls Try.prog 44 _ w _
  refine (callsIn_wide (n := 3)).1 ?_
  refine (gall_in Fence.wide 3 trivial trivial trivial rfl (Nat.le_refl _) b0 b1 sv t.l hl w hb0 hb1 hG hT hI).mono ?_
  rintro e W' ⟨v, rfl, ⟨Bn, f1, f2, f3, f4, f5⟩, hbel⟩
  obtain ⟨B', hB'⟩ : ∃ B' : BM, B' = fun i => if i = 3 then Bn 0 else B i := ⟨_, rfl⟩
  have h3 : B' 3 = Bn 0 := by simp [hB']
  have hne : ∀ i, i ≠ 3 → B' i = B i := fun i hi => by simp [hB', hi]
  have hle : BLe B B' := fun i p hp => by
    by_cases hi : i = 3
    · subst hi; rw [hfr 3 (by simp)] at hp; cases hp
    · rw [hne i hi]; exact hp
  have hun : under [3] B' = Bn := by
    funext i
    rcases i with _ | i
    · simp [under, h3]
    · simp only [under]
      rw [f3 (i + 1) (by omega)]
      simp
  have hrow : renO [3] (.cells false (rowsC 0 EnL (t.l.map (·.v)))) = .cells false (rowsC 0 EnL (t.l.map (·.v))) := by
    simp only [renO]
    rw [rowsC_ren (fun ρ x => by simp [renL, ren])]
  have hblk : ∀ i b n, (listH [GrR 1 site t2, Ue.TbR 2 t, .cells true (Ue.Rp 0 t.l)] i).live = true → B i = some (b, n) → b < w.heap.size := fun i b n hl hb => by
    have := hr.obj i
    rw [hb] at this
    exact this.block hl
  have hlist : ∀ i, i < 3 → listH [GrR 1 site t2, Ue.TbR 2 t, .cells true (Ue.Rp 0 t.l), .cells false (rowsC 0 EnL (t.l.map (·.v)))] i = listH [GrR 1 site t2, Ue.TbR 2 t, .cells true (Ue.Rp 0 t.l)] i := fun i hi => by
    rcases i with _ | _ | _ | i
    · rfl
    · rfl
    · rfl
    · omega
  have hnot : ∀ i, i < 3 → (listH [GrR 1 site t2, Ue.TbR 2 t, .cells true (Ue.Rp 0 t.l), .cells false (rowsC 0 EnL (t.l.map (·.v)))] i).own = false := fun i hi => by
    rcases i with _ | _ | _ | i
    · rfl
    · rfl
    · rfl
    · omega
  have hbig : ∀ i, 4 ≤ i → listH [GrR 1 site t2, Ue.TbR 2 t, .cells true (Ue.Rp 0 t.l), .cells false (rowsC 0 EnL (t.l.map (·.v)))] i = .gone := fun i hi => by
    obtain ⟨q, rfl⟩ : ∃ q, i = q + 4 := ⟨i - 4, by omega⟩
    simp [listH]
  have hnew : ∀ b n, B' 3 = some (b, n) → w.heap.size ≤ b := fun b n hb => by rw [h3] at hb; exact (f4 b n hb).1
  refine ⟨.sl 3 0 t.l.length 9 none, [GrR 1 site t2, Ue.TbR 2 t, .cells true (Ue.Rp 0 t.l), .cells false (rowsC 0 EnL (t.l.map (·.v)))], v, B', rfl, ⟨rfl, rfl⟩, by simp, fun i hi => hne i (by simp at hi; omega), ?_, ⟨fun i => ?_, fun i j b n m hij ho hl hb hb' => ?_⟩, fun i hi => ?_, ⟨hbel.os, hbel.tape, hbel.output, hbel.size, fun b hb _ => hbel.block b hb⟩, fun i b n hi hb => ?_, fun i hl hn => ?_⟩
  · have e : ren [3] (.sl 0 0 t.l.length 9 none) = .sl 3 0 t.l.length 9 none := by simp [ren]
    rw [← e, VR_ren, hun]
    simpa using f1
  · by_cases hi3 : i = 3
    · subst hi3
      rw [h3, show listH [GrR 1 site t2, Ue.TbR 2 t, AObj.cells true (Ue.Rp 0 t.l), AObj.cells false (rowsC 0 EnL (t.l.map (·.v)))] 3 = .cells false (rowsC 0 EnL (t.l.map (·.v))) from rfl, ← hrow, OR_ren, hun]
      exact f2.obj 0
    · by_cases hi : i < 3
      · rw [hlist i hi, hne i hi3]
        exact ((hr.obj i).mono hle).congr fun hlv b n hb => hbel.block b (hblk i b n hlv hb)
      · rw [hbig i (by omega)]; trivial
  · have hi : i = 3 := by
      rcases Nat.lt_trichotomy i 3 with h | h | h
      · rw [hnot i h] at ho; cases ho
      · exact h
      · rw [hbig i (by omega)] at ho; cases ho
    subst hi
    have hj : j < 3 := by
      rcases Nat.lt_trichotomy j 3 with h | h | h
      · exact h
      · exact absurd h.symm hij
      · rw [hbig j (by omega)] at hl; cases hl
    rw [hne j (by omega)] at hb'
    rw [hlist j hj] at hl
    have := hblk j b m hl hb'
    have := hnew b n hb
    omega
  · rw [hne i (by simp at hi; omega)]
    exact hfr i (by simp at hi ⊢; omega)
  · have hi3 : i = 3 := by
      rcases Nat.lt_trichotomy i 3 with h | h | h
      · rw [hnot i h] at hi; cases hi
      · exact h
      · rw [hbig i (by omega)] at hi; cases hi
    subst hi3
    exact .inl (hnew b n hb)
  · by_cases hi : i < 3
    · exact hlist i hi
    · by_cases hi3 : i = 3
      · subst hi3; simp [listH, AObj.own] at hn
      · rw [hbig i (by omega)] at hl; cases hl
end Go.Proofs.Ytgjimlgofakbpaa
