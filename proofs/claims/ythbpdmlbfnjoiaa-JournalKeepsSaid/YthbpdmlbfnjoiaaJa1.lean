/- Records of a journal: what they are, and how they are read. -/
import Derived.Test.YthbpdmlbfnjoiaaTx1
import Derived.Test.YthbpdmlbfnjoiaaFb
import Derived.Test.YthbpdmlbfnjoiaaAfp
import Derived.Test.YthbpdmlbfnjoiaaCk
namespace Go.Crc
set_option linter.unusedSimpArgs false
set_option linter.unusedVariables false
set_option maxHeartbeats 4000000
open Go Go.Am Go.RowKit
/-- A record's bytes. -/
def recH (n : Nat) : List Int := mkd [((n % 256 : Nat) : Int), ((n / 256 : Nat) : Int)]
def recB (l : List Int) : List Int := recH l.length ++ mkd l
theorem ba_self (l : List Int) : (({ data := (toB l).toArray } : ByteArray) == { data := (toB l).toArray }) = true := by
  have h0 : (({ data := (toB l).toArray } : ByteArray) == { data := (toB l).toArray }) = ((toB l).toArray == (toB l).toArray) := rfl
  rw [h0]
  simp
theorem recH_bytes {n : Nat} (h : n < 65536) : ∀ x ∈ recH n, 0 ≤ x ∧ x ≤ 255 := mkd_bytes fun x hx => by
  simp only [List.mem_cons, List.not_mem_nil, or_false] at hx
  rcases hx with rfl | rfl <;> omega
theorem recB_bytes {l : List Int} (h : l.length < 65536) (hb : ∀ x ∈ l, 0 ≤ x ∧ x ≤ 255) : ∀ x ∈ recB l, 0 ≤ x ∧ x ≤ 255 := fun x hx => by
  rcases List.mem_append.1 hx with hx | hx
  · exact recH_bytes h x hx
  · exact mkd_bytes hb x hx
def recE (l : List Int) : Int := if l.length = 0 then 1 else if 512 < l.length then 7 else 0
def recR (l : List Int) : List Int := if recE l = 0 then recB l else []
theorem recH_len (n : Nat) : (recH n).length = 6 := by simp [recH, mkd_length]
theorem recB_len (l : List Int) : (recB l).length = l.length + 10 := by simp [recB, recH_len, mkd_length]; omega
theorem recE_0 {l : List Int} (h : recE l = 0) : 1 ≤ l.length ∧ l.length ≤ 512 := by
  unfold recE at h
  split at h
  · cases h
  · split at h
    · cases h
    · omega
theorem recE_of {l : List Int} (h1 : 1 ≤ l.length) (h2 : l.length ≤ 512) : recE l = 0 := by
  unfold recE
  rw [if_neg (by omega), if_neg (by omega)]
/-- How long the next record is; what comes next. -/
inductive JS where
  | ends | rots | goes (n : Nat)
  deriving DecidableEq
def jN (b : List Int) : Int := b.getD 0 0 + 256 * b.getD 1 0
def jsz (b : List Int) : JS := if b.length < 6 then .ends else if mkdB (b.take 6) = false then .rots else if jN b < 1 ∨ 512 < jN b then .rots else .goes (jN b).toNat
def jst (b : List Int) : JS := match jsz b with
  | .goes n => if b.length < 10 + n then .ends else if mkdB ((b.drop 6).take (n + 4)) = false then .rots else .goes n
  | s => s
def jbody (b : List Int) (n : Nat) : List Int := (b.drop 6).take n
def jrun : Nat → List Int → List (List Int) → Nat → List (List Int) × Nat × Bool
  | 0, _, l, k => (l, k, false)
  | f + 1, b, l, k => match jst (b.drop k) with
    | .ends => (l, k, false)
    | .rots => ([], 0, true)
    | .goes n => jrun f b (l ++ [jbody (b.drop k) n]) (k + (10 + n))
/-- The records of bytes, how many bytes they have, and is there rot? -/
def jread (b : List Int) : List (List Int) × Nat × Bool := jrun (b.length + 1) b [] 0
theorem jsz_goes {b : List Int} {n : Nat} (h : jsz b = .goes n) : 6 ≤ b.length ∧ mkdB (b.take 6) = true ∧ jN b = (n : Int) ∧ 1 ≤ n ∧ n ≤ 512 := by
  unfold jsz at h
  split at h
  · cases h
  · split at h
    · cases h
    · split at h
      · cases h
      · rename_i h1 h2 h3
        simp only [JS.goes.injEq] at h
        refine ⟨by omega, by simpa using h2, by omega, by omega, by omega⟩
theorem jst_goes {b : List Int} {n : Nat} (h : jst b = .goes n) : jsz b = .goes n ∧ 10 + n ≤ b.length ∧ mkdB ((b.drop 6).take (n + 4)) = true := by
  unfold jst at h
  split at h
  · split at h
    · cases h
    · split at h
      · cases h
      · rename_i hs h1 h2
        simp only [JS.goes.injEq] at h
        subst h
        exact ⟨hs, by omega, by simpa using h2⟩
  · rename_i h1
    exact (h1 n h).elim
theorem jbody_len {b : List Int} {n : Nat} (h : 10 + n ≤ b.length) : (jbody b n).length = n := by simp [jbody]; omega
theorem jrun_inv (b : List Int) : ∀ (f : Nat) (l : List (List Int)) (k : Nat), k ≤ b.length → l.length ≤ k → (∀ x ∈ l, x.length ≤ 512) → (jrun f b l k).2.1 ≤ b.length ∧ (jrun f b l k).1.length ≤ b.length ∧ ∀ x ∈ (jrun f b l k).1, x.length ≤ 512
  | 0, l, k, h, h2, h3 => ⟨h, by simp only [jrun]; omega, h3⟩
  | f + 1, l, k, h, h2, h3 => by
    unfold jrun
    split
    · exact ⟨h, by simp only; omega, h3⟩
    · exact ⟨by simp, by simp, by simp⟩
    · rename_i n hn
      obtain ⟨h4, h5, h6⟩ := jst_goes hn
      obtain ⟨_, _, _, _, h7⟩ := jsz_goes h4
      simp only [List.length_drop] at h5
      refine jrun_inv b f _ _ (by omega) (by simp; omega) fun x hx => ?_
      rcases List.mem_append.1 hx with hx | hx
      · exact h3 x hx
      · simp only [List.mem_singleton] at hx
        subst hx
        rw [jbody_len (by simp only [List.length_drop]; omega)]
        exact h7
theorem jrun_sub (b : List Int) {p : Int → Prop} (hp : ∀ x ∈ b, p x) : ∀ (f : Nat) (l : List (List Int)) (k : Nat), (∀ r ∈ l, ∀ x ∈ r, p x) → ∀ r ∈ (jrun f b l k).1, ∀ x ∈ r, p x
  | 0, l, k, h => h
  | f + 1, l, k, h => by
    unfold jrun
    split
    · exact h
    · simp
    · rename_i n hn
      refine jrun_sub b hp f _ _ fun r hr => ?_
      rcases List.mem_append.1 hr with hr | hr
      · exact h r hr
      · simp only [List.mem_singleton] at hr
        subst hr
        intro x hx
        exact hp x (List.mem_of_mem_drop (List.mem_of_mem_drop (List.mem_of_mem_take hx)))
theorem jread_sub {b : List Int} {p : Int → Prop} (hp : ∀ x ∈ b, p x) : ∀ r ∈ (jread b).1, ∀ x ∈ r, p x := jrun_sub b hp _ _ _ (by simp)
theorem jread_inv (b : List Int) : (jread b).2.1 ≤ b.length ∧ (jread b).1.length ≤ b.length ∧ ∀ x ∈ (jread b).1, x.length ≤ 512 := jrun_inv b _ [] 0 (Nat.zero_le _) (Nat.le_refl _) (by simp)
end Go.Crc
