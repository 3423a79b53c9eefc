/- How the closure that sorts entries by key runs, in the kit's own words. -/
import Derived.Test.YtbblpmkdhdnkhaaBs
import Derived.Test.YtbblpmkdhdnkhaaAc6
import Derived.Lib.Walk
import Derived.Laws.Cover1
import Derived.Lib.Strings
import Derived.Sort.Grow
import Derived.Deep.Draws
namespace Go.Proofs.Ytbblpmkdhdnkhaa
set_option linter.unusedSimpArgs false
set_option linter.unusedVariables false
set_option maxHeartbeats 4000000
open Go Go.Proofs Go.Am Go.RowKit Go.Sort
set_option maxRecDepth 100000
set_option maxHeartbeats 1000000
theorem nan_w (x : ByteArray) (w : World) : Calls Try.prog 60 #[.string x] w fun e w' => e = .returned (.bool false) ∧ w' = w := by
  go_enter Try.func60, Try.ntmps60
  go_wp2
  go_ret
  exact ⟨by simp, rfl⟩
theorem cmp_w (x y : ByteArray) (w : World) : Calls Try.prog 49 #[.string x, .string y] w fun e w' => e = .returned (.int .i64 (cmpK x y)) ∧ w' = w := by
  go_enter Try.func49, Try.ntmps49
  go_wp2_with (go_at_call 60; refine (nan_w _ _).mono ?_; rintro e w' ⟨rfl, rfl⟩)
  · rename_i h1
    go_ret
    exact ⟨by simp [cmpK, h1], rfl⟩
  · rename_i h1 _ _ h2
    have h3 : ltK y x = true := by
      cases h : ltK y x with
      | true => rfl
      | false => rw [ltK_tri h1 h] at h2; simp at h2
    go_ret
    exact ⟨by simp [cmpK, h1, h3], rfl⟩
  · rename_i h1 h2
    have h3 : ltK y x = false := by
      have e : x = y := ba_toList (by simpa using h2)
      rw [e]; exact ltK_irr y
    go_ret
    exact ⟨by simp [cmpK, h1, h3], rfl⟩
/-- An entry's cells. -/
def encE (e : En) : List Value := [.string e.key, .string e.val, .bool e.dead, .int .i64 e.st.c, .int .i64 e.st.s, .int .i64 e.act.c, .int .i64 e.act.s, .int .i64 e.keep, .int .i64 e.age]
theorem clo_w (x y : En) (W : World) : Calls Try.prog 48 #[.agg (encE x).toArray, .agg (encE y).toArray] W fun e w' => e = .returned (.int .i64 (cmpK x.key y.key)) ∧ ∃ q os', w' = grow (W.drewN q) os' := by
  have hcon := fun W' => cmp_w x.key y.key W'
  generalize cmpK x.key y.key = r at hcon ⊢
  simp only [encE]
  go_enter Try.func48, Try.ntmps48
  go_wp2_with (go_at_call 49; refine (hcon _).mono ?_; rintro e w' ⟨rfl, rfl⟩)
  go_ret
  exact ⟨rfl, 0, _, by rw [alloc_eq_grow, alloc_eq_grow, grow_grow]; rfl⟩
end Go.Proofs.Ytbblpmkdhdnkhaa
