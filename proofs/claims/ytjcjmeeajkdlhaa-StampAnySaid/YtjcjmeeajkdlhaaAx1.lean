/- The latest of stamps: plain laws and contracts. -/
import Derived.Test.YtjcjmeeajkdlhaaAc1
namespace Go.Proofs.Ytjcjmeeajkdlhaa
set_option linter.unusedSimpArgs false
set_option linter.unusedVariables false
set_option maxHeartbeats 4000000
open Go Go.Am Go.RowKit
set_option maxRecDepth 100000
theorem cmp_later (a b : St) : decide (0 < cmpS a b) = laterB a b := by
  unfold cmpS laterB cmpI orI
  grind
theorem later_irr (a : St) : laterB a a = false := by simp [laterB]
theorem later_asym {a b : St} (h : laterB a b = true) : laterB b a = false := by
  unfold laterB at *
  split at h <;> split <;> simp_all <;> omega
theorem later_neg {a b c : St} (h : laterB a b = false) (h' : laterB b c = false) : laterB a c = false := by
  unfold laterB at *
  split at h <;> split at h' <;> split <;> simp_all <;> omega
def mxS (m : St) (l : List St) : St := l.foldl (fun m s => if laterB s m = true then s else m) m
theorem mxS_cons (m s : St) (l : List St) : mxS m (s :: l) = mxS (if laterB s m = true then s else m) l := rfl
theorem mxS_mem : ∀ (l : List St) (m : St), mxS m l ∈ m :: l
  | [], m => by simp [mxS]
  | s :: l, m => by
    rw [mxS_cons]
    have := mxS_mem l (if laterB s m = true then s else m)
    rcases List.mem_cons.1 this with h | h
    · rw [h]; split <;> simp
    · simp [h]
theorem mxS_ge : ∀ (l : List St) (m x : St), laterB x m = false → laterB x (mxS m l) = false
  | [], m, x, h => h
  | s :: l, m, x, h => by
    rw [mxS_cons]
    refine mxS_ge l _ x ?_
    split
    · rename_i hs
      exact later_neg h (later_asym hs)
    · exact h
theorem mxS_max : ∀ (l : List St) (m x : St), x ∈ m :: l → laterB x (mxS m l) = false
  | [], m, x, h => by
    rw [List.mem_singleton.1 h]; exact later_irr m
  | s :: l, m, x, h => by
    rw [mxS_cons]
    rcases List.mem_cons.1 h with rfl | h
    · refine mxS_ge l _ _ ?_
      split
      · rename_i hs; exact later_asym hs
      · exact later_irr _
    · rcases List.mem_cons.1 h with rfl | h
      · refine mxS_ge l _ _ ?_
        split
        · exact later_irr _
        · rename_i hs; simpa using hs
      · exact mxS_max l _ x (List.mem_cons_of_mem _ h)
/-- What is later than nothing else among others is the same in whatever order. -/
theorem later_eq {a b : St} (h : laterB a b = false) (h' : laterB b a = false) : a = b := by
  obtain ⟨a1, a2⟩ := a
  obtain ⟨b1, b2⟩ := b
  unfold laterB at *
  simp only at *
  split at h <;> split at h' <;> simp_all <;> omega
end Go.Proofs.Ytjcjmeeajkdlhaa
