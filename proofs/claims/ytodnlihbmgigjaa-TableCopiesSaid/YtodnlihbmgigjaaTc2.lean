/- A slice of pairs grown in a round of a range over a function. -/
import Derived.Test.YtodnlihbmgigjaaTc1
import Derived.Test.YtodnlihbmgigjaaEg4
namespace Go.Proofs.Ytodnlihbmgigjaa
set_option linter.unusedSimpArgs false
set_option linter.unusedVariables false
set_option maxHeartbeats 4000000
open Go Go.Am Go.RowKit Go.Shelf
def pvV (p : Pi) : Array Value := #[.string p.key, .int .i64 p.v]
/-- A value is a slice of these pairs, all its own, in a block beyond n₀ that is not Bx. -/
def RowI (W : World) (n₀ Bx : Nat) (v : Value) (l : List Pi) : Prop :=
  ∃ B : BM, VR B (.sl 0 0 l.length 2 none) v ∧ HR B (listH [.cells false (rowsC 0 PiL l)]) W ∧ (∀ i, 1 ≤ i → B i = none) ∧ (∀ b n, B 0 = some (b, n) → n₀ ≤ b ∧ b ≠ Bx ∧ b < W.heap.size ∧ v.ownBlock = some b) ∧ (B 0 = none → v = .slice none 0 0) ∧ ∀ b, B.z b = none
theorem ZR.nil {B : BM} (hz : ∀ b, B.z b = none) (h : Nat → AObj) (w : World) : ZR B h w := ⟨fun b a hb => (by rw [hz] at hb; cases hb), fun _ b _ _ _ => hz b⟩
theorem vrs_vals (B B' : BM) : ∀ (l : List AV) (vs : List Value), (∀ x ∈ l, ∃ v, x = .val v) → VRs B l vs → VRs B' l vs
  | [], _, _, h => h
  | x :: l, vs, hl, h => by
    simp only [VRs] at h ⊢
    obtain ⟨v, rest, h1, h2, h3⟩ := h
    obtain ⟨u, rfl⟩ := hl _ List.mem_cons_self
    exact ⟨v, rest, h1, by simpa only [VR] using h2, vrs_vals B B' l rest (fun x hx => hl x (List.mem_cons_of_mem _ hx)) h3⟩
theorem or_vals {B B' : BM} {ro : Bool} {cs : List AV} {p : Option (Nat × Nat)} {w : World} (hl : ∀ x ∈ cs, ∃ v, x = .val v) (h : OR B (.cells ro cs) p w) : OR B' (.cells ro cs) p w := by
  simp only [OR] at h ⊢
  rcases h with h | ⟨b, n, arr, T, fz, h1, h2, h3, h4, h5⟩
  · exact .inl h
  · exact .inr ⟨b, n, arr, T, fz, h1, h2, h3, vrs_vals B B' _ _ hl h4, h5⟩
theorem rows_vals (l : List Pi) : ∀ x ∈ rowsC 0 PiL l, ∃ v, x = .val v := fun x hx => by
  simp only [rowsC, List.replicate_zero, List.nil_append, List.mem_flatMap] at hx
  obtain ⟨p, _, hx⟩ := hx
  simp only [PiL, List.mem_cons, List.not_mem_nil, or_false] at hx
  rcases hx with rfl | rfl <;> exact ⟨_, rfl⟩
theorem RowI.nil (W : World) (n₀ Bx : Nat) : RowI W n₀ Bx (.slice none 0 0) [] := by
  refine ⟨B00, by simp [VR], ⟨fun i => ?_, (fun i j b n m _ _ _ h => by cases h), ZR.nil (fun _ => rfl) _ _⟩, fun _ _ => rfl, (fun _ _ h => by cases h), fun _ => rfl, fun _ => rfl⟩
  rcases i with _ | i
  · exact .inl ⟨rfl, rfl⟩
  · simp [listH, OR]
theorem RowI.kept {W W' : World} {n₀ Bx : Nat} {v : Value} {l : List Pi} {row : Option Nat} (h : RowI W n₀ Bx v l) (hg : W.grownBy W' row) (hr : ∀ b, some b = row → ∀ n (B : BM), B 0 = some (b, n) → HR B (listH [.cells false (rowsC 0 PiL l)]) W → False) : RowI W' n₀ Bx v l := by
  obtain ⟨B, h1, h2, h3, h4, h5⟩ := h
  have hk : ∀ i b n, B i = some (b, n) → W'.heap[b]? = W.heap[b]? := fun i b n hb => by
    rcases Nat.eq_zero_or_pos i with rfl | hi
    · exact hg.block b (h4 b n hb).2.2.1 fun e => hr b e n B hb h2
    · rw [h3 i hi] at hb; cases hb
  refine ⟨B, h1, ⟨fun i => (h2.obj i).congr fun _ b n hb => hk i b n hb, h2.apart, ZR.nil h5.2 _ _⟩, h3, (fun b n hb => ⟨(h4 b n hb).1, (h4 b n hb).2.1, Nat.lt_of_lt_of_le (h4 b n hb).2.2.1 hg.size, (h4 b n hb).2.2.2⟩), h5⟩
theorem RowI.isCells {B : BM} {W : World} {l : List Pi} {b n : Nat} (hb : B 0 = some (b, n)) (h : HR B (listH [.cells false (rowsC 0 PiL l)]) W) : ∃ arr T fz, W.heap[b]? = some (.cells arr T fz) := by
  have := h.obj 0
  rw [hb] at this
  obtain ⟨arr, T, fz, h1, _⟩ := OR.at_own (show OR B (.cells false (rowsC 0 PiL l)) (some (b, n)) W from this)
  exact ⟨arr, T, fz, h1⟩
theorem RowI.alloc {W : World} {n₀ Bx : Nat} {v : Value} {l : List Pi} (h : RowI W n₀ Bx v l) (o : Obj) : RowI (W.alloc o) n₀ Bx v l :=
  h.kept (World.grownBy_alloc W o none) fun b e => by cases e
theorem RowI.own {W W' : World} {n₀ Bx : Nat} {v : Value} {l : List Pi} {row : Option Nat} (h : RowI W n₀ Bx v l) (hg : W.grownBy W' row) (hr : ∀ r, row = some r → ∃ o : Obj, W.heap[r]? = some o ∧ o.isCells = false) : RowI W' n₀ Bx v l :=
  h.kept hg fun b e n B hb hB => by
    obtain ⟨arr, T, fz, h1⟩ := RowI.isCells hb hB
    obtain ⟨o, h2, h3⟩ := hr b e.symm
    rw [h1] at h2; cases h2; cases h3
theorem grownBy_setAt (W : World) (b i : Nat) (v : Value) : W.grownBy (W.setCell ⟨b, i, none⟩ v) (some b) :=
  ⟨rfl, rfl, rfl, (KeepsWalks.setCell W _ v).size, fun k _ hk => Below.heap_setCell _ _ _ k (fun e => hk (by rw [e]))⟩
theorem RowI.box {W : World} {n₀ Bx : Nat} {v v' : Value} {l : List Pi} (h : RowI W n₀ Bx v l) : RowI (W.setCell ⟨Bx, 1, none⟩ v') n₀ Bx v l := by
  obtain ⟨B, h1, h2, h3, h4, h5⟩ := h
  have hg := grownBy_setAt W Bx 1 v'
  have hk : ∀ i b n, B i = some (b, n) → (W.setCell ⟨Bx, 1, none⟩ v').heap[b]? = W.heap[b]? := fun i b n hb => by
    rcases Nat.eq_zero_or_pos i with rfl | hi
    · exact hg.block b (h4 b n hb).2.2.1 fun e => (h4 b n hb).2.1 (by injection e)
    · rw [h3 i hi] at hb; cases hb
  exact ⟨B, h1, ⟨fun i => (h2.obj i).congr fun _ b n hb => hk i b n hb, h2.apart, ZR.nil h5.2 _ _⟩, h3, (fun b n hb => ⟨(h4 b n hb).1, (h4 b n hb).2.1, Nat.lt_of_lt_of_le (h4 b n hb).2.2.1 hg.size, (h4 b n hb).2.2.2⟩), h5⟩
theorem RowI.slice {W : World} {n₀ Bx : Nat} {v : Value} {l : List Pi} (h : RowI W n₀ Bx v l) : ∃ a c, v = .slice a l.length c := by
  obtain ⟨B, h1, h2, h3, h4, h5⟩ := h
  simp only [VR] at h1
  rcases h1 with ⟨e, _, q, rfl⟩ | ⟨b, n, c, o, _, rfl, _⟩
  · exact ⟨q, 0, by rw [e]⟩
  · exact ⟨_, _, rfl⟩
theorem RowI.block {W : World} {n₀ Bx : Nat} {v : Value} {l : List Pi} (h : RowI W n₀ Bx v l) {j : Nat} (hj : v.ownBlock = some j) : n₀ ≤ j ∧ j ≠ Bx ∧ j < W.heap.size ∧ ∀ o : Obj, W.heap[j]? = some o → o.isCells = true := by
  obtain ⟨B, h1, h2, h3, h4, h5⟩ := h
  cases hb : B 0 with
  | none => rw [h5.1 hb] at hj; simp [Value.ownBlock] at hj
  | some p =>
    obtain ⟨b, n⟩ := p
    obtain ⟨g1, g2, g3, g4⟩ := h4 b n hb
    rw [g4] at hj
    cases hj
    refine ⟨g1, g2, g3, fun o ho => ?_⟩
    obtain ⟨arr, T, fz, e⟩ := RowI.isCells hb h2
    rw [e] at ho; cases ho; rfl
/-- One more entry. -/
theorem RowI.append {P : Program} {us : Array TypeId} {R sT e : TypeId} {i : TypeInfo} {z : List Value} (h0 : us[0]? = some sT) (hu : P.underlying sT = some (.slice e)) (hz : ∃ u, us[1]? = some u ∧ (P.underlying u = some .string ∨ ∃ e', P.underlying u = some (.slice e')))
    (hi : P.info? e = some i) (hzt : zeroT P e = some z) (hzl : z.length = i.size) (hsz : i.size = 2) {W : World} {n₀ Bx : Nat} {v : Value} {l : List Pi} (h : RowI W n₀ Bx v l) (hn : n₀ ≤ W.heap.size) (hBx : Bx < W.heap.size) (x : Pi) (T : TypeId) (hroom : appRoom (l.length + 1) i.bytes) :
    ∃ v' w', (Builtin.append_ us R #[v, .slice (some ⟨W.heap.size, 0, none⟩) 1 1]).run P (W.alloc (.cells (pvV x) T)) = .ok v' w' ∧ RowI w' n₀ Bx v' (l ++ [x]) ∧ (W.alloc (.cells (pvV x) T)).grownBy w' v.ownBlock := by
  obtain ⟨B, h1, h2, h3, h4, h5⟩ := h
  obtain ⟨B1, hB1⟩ : ∃ B1 : BM, B1 = ⟨fun i => if i = 0 then B 0 else if i = 1 then some (W.heap.size, 2) else none, fun _ => none⟩ := ⟨_, rfl⟩
  have b0 : B1 0 = B 0 := by simp [hB1]
  have b1 : B1 1 = some (W.heap.size, 2) := by simp [hB1]
  have b2 : ∀ k, 2 ≤ k → B1 k = none := fun k hk => by
    rw [hB1]
    simp only
    rw [if_neg (by omega), if_neg (by omega)]
  have hle : BLe B B1 := by
    refine ⟨fun i p hp => ?_, fun b a h => by rw [h5.2] at h; cases h⟩
    rcases i with _ | i
    · rw [b0]; exact hp
    · rw [h3 (i + 1) (by omega)] at hp; cases hp
  have hold : ∀ b n, B 0 = some (b, n) → (W.alloc (.cells (pvV x) T)).heap[b]? = W.heap[b]? := fun b n hb => Below.heap_alloc W _ b (h4 b n hb).2.2.1
  have hnew : (W.alloc (.cells (pvV x) T)).heap[W.heap.size]? = some (.cells (pvV x) T (0, 0)) := World.alloc_heap_new W _
  have hr1 : HR B1 (listH [.cells false (rowsC 0 PiL l), .cells true (PiL x)]) (W.alloc (.cells (pvV x) T)) := by
    refine ⟨fun i => ?_, fun i j b n m hij ho hl hb hb' => ?_, ZR.nil (fun _ => by rw [hB1]) _ _⟩
    · rcases i with _ | _ | i
      · rw [b0]
        exact ((h2.obj 0).mono hle).congr fun _ b n hb => hold b n hb
      · rw [b1]
        refine .inr ⟨_, _, _, _, _, rfl, hnew, rfl, ?_, ?_, fun h => by cases h⟩
        · simp [VRs, VR, pvV]
        · exact Ones.of (by simp [pvV, Value.oneCell'])
      · simp [listH, OR]
    · rcases i with _ | _ | i
      · rcases j with _ | _ | j
        · exact absurd rfl hij
        · rw [b1] at hb'
          cases hb'
          rw [b0] at hb
          have := (h4 _ _ hb).2.2.1
          omega
        · rw [b2 (j + 2) (by omega)] at hb'; cases hb'
      · simp [listH, AObj.own] at ho
      · rw [b2 (i + 2) (by omega)] at hb; cases hb
  have hx : VR B1 (.sl 0 0 l.length 2 none) v := h1.mono hle
  have hy : VR B1 (.sl 1 0 1 2 (some 1)) (.slice (some ⟨W.heap.size, 0, none⟩) 1 1) := by
    simp only [VR]
    exact .inr ⟨W.heap.size, 2, 1, 0, b1, rfl, Nat.le_refl _, by omega, .inl rfl, fun m hm => by cases hm; rfl⟩
  have hlen : (rowsC 0 PiL l).length = l.length * 2 := by have := rowsC_len (off := 0) (f := PiL) (k := 2) (fun _ => rfl) l; omega
  obtain ⟨v', w', hrun, B', g1, g2, g3, g4, g5, -, g6⟩ := ok_append (R := R) hr1 h0 hu hz hi hzt hzl hx hy (b2 2 (by omega)) (c := _) (v := _) (ups := _) (by rw [hsz]; rfl) (by
    refine ⟨⟨rfl, by simp, fun _ => ?_⟩, rfl, rfl, by rw [hlen]; exact Nat.le_refl _, hroom⟩
    simp [noAny])
  have hrow : ∀ l : List Pi, renO [2] (.cells false (rowsC 0 PiL l)) = .cells false (rowsC 0 PiL l) := fun l => by
    simp only [renO]
    rw [rowsC_ren (fun ρ x => by simp [renL, ren])]
  have htake : (rowsC 0 PiL l).take (l.length * 2) ++ ((PiL x).drop 0).take (1 * 2) = rowsC 0 PiL (l ++ [x]) := by
    rw [List.take_of_length_le (by omega)]
    simp [rowsC]
  have hown : ∀ b n, B' 2 = some (b, n) → Mine B1 (listH [.cells false (rowsC 0 PiL l), .cells true (PiL x)]) (W.alloc (.cells (pvV x) T)) b := fun b n hb => g5 2 b n rfl hb
  have hmine : ∀ b, Mine B1 (listH [.cells false (rowsC 0 PiL l), .cells true (PiL x)]) (W.alloc (.cells (pvV x) T)) b → W.heap.size + 1 ≤ b ∨ ∃ n, B 0 = some (b, n) := fun b hb => by
    rcases hb with hb | ⟨i, n, ho, hb⟩
    · left; simpa using hb
    · rcases i with _ | _ | i
      · rw [b0] at hb; exact .inr ⟨n, hb⟩
      · simp [listH, AObj.own] at ho
      · rw [b2 (i + 2) (by omega)] at hb; cases hb
  have hobj := g3.obj 2
  refine ⟨v', w', hrun, ⟨⟨(under [2] B').f, fun _ => none⟩, ?_, ⟨fun i => ?_, fun i j b n m hij ho hl hb hb' => ?_, ZR.nil (fun _ => rfl) _ _⟩, fun i hi => ?_, fun b n hb => ?_, fun hb => ?_, fun _ => rfl⟩, ?_⟩
  · suffices hs : VR (under [2] B') (.sl 0 0 (l ++ [x]).length 2 none) v' by simpa only [VR] using hs
    rw [← VR_ren, List.length_append, List.length_singleton]
    have e : ren [2] (.sl 0 0 (l.length + 1) 2 none) = .sl 2 0 (l.length + 1) 2 none := by simp [ren]
    rw [e]
    exact g2
  · rcases i with _ | i
    · rw [show listH [AObj.cells false (rowsC 0 PiL (l ++ [x]))] 0 = .cells false (rowsC 0 PiL (l ++ [x])) from rfl]
      refine or_vals (B := under [2] B') (rows_vals _) ?_
      rw [← OR_ren, hrow, ← htake]
      exact hobj
    · simp [listH, OR]
  · rcases i with _ | i
    · rcases j with _ | j
      · exact absurd rfl hij
      · simp [under] at hb'
    · simp [listH, AObj.own] at ho
  · obtain ⟨q, rfl⟩ : ∃ q, i = q + 1 := ⟨i - 1, by omega⟩
    simp [under]
  · have hb2 : B' 2 = some (b, n) := by simpa [under] using hb
    have hlt := (show OR B' _ (some (b, n)) w' by rw [← hb2]; exact hobj).block rfl
    have hv : v'.ownBlock = some b := by
      simp only [VR] at g2
      rcases g2 with ⟨h, _⟩ | ⟨b', n', c, o, e1, rfl, _⟩
      · omega
      · rw [hb2] at e1; cases e1; rfl
    rcases hmine b (hown b n hb2) with h | ⟨n', h⟩
    · exact ⟨by omega, by omega, hlt, hv⟩
    · have := h4 b n' h
      exact ⟨this.1, this.2.1, hlt, hv⟩
  · have hb2 : B' 2 = none := by simpa [under] using hb
    simp only [VR] at g2
    rcases g2 with ⟨h, _⟩ | ⟨b', n', c, o, e1, _⟩
    · omega
    · rw [hb2] at e1; cases e1
  · refine ⟨g4.os, g4.tape, g4.output, g4.size, fun k hk hne => g4.block k hk fun hm => ?_⟩
    rcases hmine k hm with h | ⟨n', h⟩
    · simp at hk; omega
    · exact hne (h4 k n' h).2.2.2.symm
end Go.Proofs.Ytodnlihbmgigjaa
