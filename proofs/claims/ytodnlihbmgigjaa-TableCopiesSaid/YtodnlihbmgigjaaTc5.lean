/- Contract: a table copied. -/
import Derived.Test.YtodnlihbmgigjaaTc3
namespace Go.Proofs.Ytodnlihbmgigjaa
set_option linter.unusedSimpArgs false
set_option linter.unusedVariables false
set_option maxHeartbeats 4000000
open Go Go.Am Go.RowKit Go.Shelf
theorem cells_at {B : BM} {cs : List AV} {arr : Array Value} (hv : VRs B cs (arr.toList.take cs.length)) {i : Nat} {x : AV} (hx : cs[i]? = some x) : ∃ u, arr[i]? = some u ∧ VR B x u := by
  obtain ⟨r, h1, h2⟩ := hv.get i hx
  have hlt := (List.getElem?_eq_some_iff.1 hx).1
  rw [List.getElem?_take, if_pos hlt] at h1
  exact ⟨r, by simpa using h1, h2⟩
theorem pi_cells (p : Pi) : (piV p).map AV.val = PiL p := rfl
set_option maxRecDepth 100000 in
theorem tcopy_any (t : Tb) (hl : t.l.length ≤ 1099511627776) : ACall Try.prog 27 [.ptr 0 0] [TbR 1 t, .cells true (Rp 0 t.l)] (Det (.ptr 2 0) [TbR 1 t, .cells true (Rp 0 t.l), TbO 3 t, .cells false (Rp 0 t.l)]) := by
  refine ⟨false, fun _ => by kernel_rfl, fun B w ra hargs hr hfr => ?_⟩
  have ho1 : OR B (TbR 1 t) (B 0) w := hr.obj 0
  have ho2 : OR B (.cells true (Rp 0 t.l)) (B 1) w := hr.obj 1
  simp only [VRs, VR] at hargs
  obtain ⟨v0, r0, hra, ⟨b1, n1, hB1, rfl⟩, rfl⟩ := hargs
  obtain rfl : ra = #[.pointer (some ⟨b1, 0, none⟩)] := by apply Array.ext'; simpa using hra
  rw [hB1] at ho1
  obtain ⟨arr1, T1, fz1, q1, q2, q3, -, -⟩ := ho1.at_block
  obtain ⟨rv, p3, p4⟩ := cells_at q3 (i := 0) rfl
  rw [vr_val] at p4
  subst p4
  obtain ⟨sv, p1, p2⟩ := cells_at q3 (i := 1) rfl
  have hb1 := ho1.block rfl
  have hR : w.cell? ⟨b1, 0, none⟩ = some (.int .i64 t.room) := by simp [World.cell?, q1, p3]
  have hT : w.cell? ⟨b1, 1, none⟩ = some sv := by simp [World.cell?, q1, p1]
  have hI : EntsI w.heap.size w sv t.l := by
    simp only [VR] at p2
    rcases p2 with ⟨e, _, q, rfl⟩ | ⟨b2, n2, c, o, hB2, rfl, m1, m2, m3, m4⟩
    · exact .inl ⟨List.length_eq_zero_iff.1 e, q, rfl⟩
    · by_cases hz : t.l.length = 0 ∧ c = 0
      · exact .inl ⟨List.length_eq_zero_iff.1 hz.1, _, by rw [hz.1, hz.2]⟩
      · have ho : o = 0 := by
          rcases m3 with h | h
          · exact h
          · exact absurd ⟨by omega, h⟩ hz
        subst ho
        rw [hB2] at ho2
        have hb2 := ho2.block rfl
        obtain ⟨arr2, T2, fz2, s1, s2, s3, -, -⟩ := ho2.at_block
        refine .inr ⟨b2, 0, c, rfl, hb2, fun k hk j u hj => ?_⟩
        have hj10 : j < 2 := by have := (List.getElem?_eq_some_iff.1 hj).1; simpa [piV] using this
        have hat := rp_at 0 t.l k hk
        have hx : (Rp 0 t.l)[0 + k * 2 + j]? = some (.val u) := by
          have h1 := congrArg (fun x => x[j]?) hat
          rw [List.getElem?_take, if_pos hj10, List.getElem?_drop, ← pi_cells, List.getElem?_map, hj] at h1
          exact h1
        obtain ⟨u', e1, e2⟩ := cells_at s3 hx
        rw [vr_val] at e2
        subst e2
        simp only [World.cell?, s1]
        simpa using e1
  show Calls Try.prog 27 _ w _
  refine (callsIn_wide (n := 3)).1 ?_
  refine (tcopy_in Fence.wide 3 trivial trivial trivial rfl (Nat.le_refl _) b1 t.room sv t.l hl w hb1 hR hT hI).mono ?_
  rintro e W' ⟨v, Bt, rfl, hBt, htab, hrow, hbel⟩
  obtain ⟨ga, gc, hvs⟩ := hrow.slice
  obtain ⟨Bn, f1, f2, f3, f4, f5⟩ := hrow
  have hBl : Bt < W'.heap.size := (Array.getElem?_eq_some_iff.1 htab).1
  obtain ⟨B', hB'⟩ : ∃ B' : BM, B' = ⟨fun i => if i = 2 then some (Bt, 2) else if i = 3 then Bn 0 else B i, B.z⟩ := ⟨_, rfl⟩
  have h2 : B' 2 = some (Bt, 2) := by simp [hB']
  have h3 : B' 3 = Bn 0 := by simp [hB']
  have hz' : B'.z = B.z := by rw [hB']
  have hne : ∀ i, i ≠ 2 → i ≠ 3 → B' i = B i := fun i hi hj => by simp [hB', hi, hj]
  have hle : BLe B B' := by
    refine ⟨fun i p hp => ?_, fun b a h => by rw [hz']; exact h⟩
    by_cases hi : i = 2
    · subst hi; rw [hfr 2 (by simp)] at hp; cases hp
    · by_cases hj : i = 3
      · subst hj; rw [hfr 3 (by simp)] at hp; cases hp
      · rw [hne i hi hj]; exact hp
  have hblk : ∀ i b n, (listH [TbR 1 t, .cells true (Rp 0 t.l)] i).live = true → B i = some (b, n) → b < w.heap.size := fun i b n hl hb => by
    have := hr.obj i
    rw [hb] at this
    exact this.block hl
  have hlist : ∀ i, i < 2 → listH [TbR 1 t, .cells true (Rp 0 t.l), TbO 3 t, .cells false (Rp 0 t.l)] i = listH [TbR 1 t, .cells true (Rp 0 t.l)] i := fun i hi => by
    rcases i with _ | _ | i
    · rfl
    · rfl
    · omega
  have hnot : ∀ i, i < 2 → (listH [TbR 1 t, .cells true (Rp 0 t.l), TbO 3 t, .cells false (Rp 0 t.l)] i).own = false := fun i hi => by
    rcases i with _ | _ | i
    · rfl
    · rfl
    · omega
  have hbig : ∀ i, 4 ≤ i → listH [TbR 1 t, .cells true (Rp 0 t.l), TbO 3 t, .cells false (Rp 0 t.l)] i = .gone := fun i hi => by
    obtain ⟨q, rfl⟩ : ∃ q, i = q + 4 := ⟨i - 4, by omega⟩
    simp [listH]
  have hnew : ∀ i b n, 2 ≤ i → i < 4 → B' i = some (b, n) → w.heap.size ≤ b := fun i b n hi hi4 hb => by
    rcases (show i = 2 ∨ i = 3 by omega) with rfl | rfl
    · rw [h2] at hb; cases hb; exact hBt
    · rw [h3] at hb; exact (f4 b n hb).1
  have hfour : ∀ i, (listH [TbR 1 t, .cells true (Rp 0 t.l), TbO 3 t, .cells false (Rp 0 t.l)] i).own = true → 2 ≤ i ∧ i < 4 := fun i ho => by
    refine ⟨?_, ?_⟩
    · rcases Nat.lt_or_ge i 2 with h | h
      · rw [hnot i h] at ho; cases ho
      · exact h
    · rcases Nat.lt_or_ge i 4 with h | h
      · exact h
      · rw [hbig i h] at ho; cases ho
  have hvr : VR B' (.sl 3 0 t.l.length 2 none) v := by
    simp only [VR] at f1 ⊢
    rw [h3]
    exact f1
  refine ⟨.ptr 2 0, [TbR 1 t, .cells true (Rp 0 t.l), TbO 3 t, .cells false (Rp 0 t.l)], _, B', rfl, ⟨rfl, rfl⟩, by simp, fun i hi => hne i (by simp at hi; omega) (by simp at hi; omega), ?_, ⟨fun i => ?_, fun i j b n m hij ho hl hb hb' => ?_, hr.zr.keep hz' (fun b a hb => hbel.block b (hr.zr.lt hb)) fun i b n ho hb => ?_⟩, fun i hi => ?_, ⟨hbel.os, hbel.tape, hbel.output, hbel.size, fun b hb _ => hbel.block b hb⟩, fun i b n hi hb => ?_, ⟨fun b a h => by rw [hz']; exact h, fun b a h => .inl (by rw [hz'] at h; exact h)⟩, fun i hl hn => ?_⟩
  · simp only [VR]
    exact ⟨Bt, 2, h2, rfl⟩
  · rcases (show i < 2 ∨ i = 2 ∨ i = 3 ∨ 4 ≤ i by omega) with hi | rfl | rfl | hi
    · rw [hlist i hi, hne i (by omega) (by omega)]
      exact ((hr.obj i).mono hle).congr fun hlv b n hb => hbel.block b (hblk i b n hlv hb)
    · rw [h2]
      refine .inr ⟨Bt, 2, _, _, _, rfl, htab, rfl, ?_, ?_, fun _ => ⟨Nat.le_refl _, ?_⟩⟩
      · exact ⟨_, _, rfl, by rw [vr_val], ⟨_, _, rfl, hvr, rfl⟩⟩
      · exact Ones.of (by rw [hvs]; simp [Value.oneCell'])
      · rw [hvs]; simp [Value.oneCell']
    · rw [h3]
      exact or_vals (B := Bn) (rows_vals _) (f2.obj 0)
    · rw [hbig i hi]; trivial
  · obtain ⟨hi, hi4⟩ := hfour i ho
    rcases Nat.lt_or_ge j 2 with hj | hj
    · rw [hne j (by omega) (by omega)] at hb'
      rw [hlist j hj] at hl
      have := hblk j b m hl hb'
      have := hnew i b n hi hi4 hb
      omega
    · rcases Nat.lt_or_ge j 4 with hj4 | hj4
      · rcases (show (i = 2 ∧ j = 3) ∨ (i = 3 ∧ j = 2) by omega) with ⟨rfl, rfl⟩ | ⟨rfl, rfl⟩
        · rw [h2] at hb; cases hb
          rw [h3] at hb'
          exact (f4 _ _ hb').2.1 rfl
        · rw [h2] at hb'; cases hb'
          rw [h3] at hb
          exact (f4 _ _ hb).2.1 rfl
      · rw [hbig j hj4] at hl; cases hl
  · obtain ⟨hi, hi4⟩ := hfour i ho
    have h5 := hnew i b n hi hi4 hb
    cases hzb : B.z b with
    | none => rfl
    | some a => have := hr.zr.lt hzb; omega
  · rw [hne i (by simp at hi; omega) (by simp at hi; omega)]
    exact hfr i (by simp at hi ⊢; omega)
  · obtain ⟨hi2, hi4⟩ := hfour i hi
    exact .inl (hnew i b n hi2 hi4 hb)
  · rcases Nat.lt_or_ge i 2 with hi | hi
    · exact hlist i hi
    · rcases (show i = 2 ∨ i = 3 ∨ 4 ≤ i by omega) with rfl | rfl | hi
      · simp [listH, AObj.own] at hn
      · simp [listH, AObj.own] at hn
      · rw [hbig i hi] at hl; cases hl
end Go.Proofs.Ytodnlihbmgigjaa
