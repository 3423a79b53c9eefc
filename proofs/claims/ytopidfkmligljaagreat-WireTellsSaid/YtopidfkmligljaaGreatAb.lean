/- What laws over bytes share. -/
import Derived.Test.YtopidfkmligljaaGreatAo1
import Derived.Test.YtopidfkmligljaaGreatEg4
namespace Go.Am
set_option linter.unusedSimpArgs false
set_option linter.unusedVariables false
set_option maxHeartbeats 4000000
open Go Go.RowKit
theorem rows_bA (off : Nat) (l : List Int) : rowsC off (fun n : Int => [.val (.int .u8 n)]) l = List.replicate off .any ++ bA l := by
  unfold rowsC bA
  congr 1
  induction l with
  | nil => rfl
  | cons x l ih => simp [ih]
theorem Seg.rows {off : Nat} {l : List Int} (h : l.length ≤ 1099511627776) : Seg (rowsC off (fun n : Int => [.val (.int .u8 n)]) l) off l := by
  rw [rows_bA]
  refine ⟨by simp [bA_take], by simp [bA_len], fun ρ => ?_, h⟩
  rw [renL_append, renL_any, bA_ren]
theorem AWpA.to {P : Program} {N : Nat} {nn : NN} {Q : Exit → Am.St → Prop} {ac : ACode} {T0 : List (Nat × AV)} {H0 : List AObj} {T : List (Nat × AV)} {b : Nat → AV} {H : List (Nat × AObj)} {hb : Nat → AObj} {n : Nat} (ρ : List Nat) (k : AWpA P N nn ac Q (Am.mk T0 none0 (zipI 0 H0) gone0 H0.length))
    (h : sameT ρ T b T0 ∧ sameR ρ H hb ρ H0 ∧ aloneB ρ H0 = true ∧ H0.length = ρ.length ∧ ancB ρ nn.n = true) : AWpA P N nn ac Q (Am.mk T b H hb n) :=
  AWpA.weakenE (Emb.list h.1 h.2.1 h.2.2.1 h.2.2.2.1 h.2.2.2.2) k
theorem Seg.nil : Seg [] 0 [] := ⟨rfl, Nat.le_refl _, fun _ => rfl, Nat.zero_le _⟩
end Go.Am
