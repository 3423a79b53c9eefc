/- Contracts of the functions on stamps. -/
import Derived.Test.YtjcjmeeajkdlhaaRows
import Derived.Test.YtjcjmeeajkdlhaaKit
namespace Go.Proofs.Ytjcjmeeajkdlhaa
open Go.RowKit

theorem isnan_any (s : Int) (w : World) :
    Calls Try.prog 77 #[.int .i64 s] w fun e w' => e = .returned (.bool false) ∧ w = w' := by
  go_enter Try.func77, Try.ntmps77
  go_wp2
  go_ret
  exact ⟨rfl, rfl⟩

theorem cmp_any (x y : Int) (w : World) :
    Calls Try.prog 66 #[.int .i64 x, .int .i64 y] w fun e w' => e = .returned (.int .i64 (cmpI x y)) ∧ w = w' := by
  unfold cmpI
  by_cases h1 : x < y
  · rw [if_pos h1]
    go_enter Try.func66, Try.ntmps66
    go_wp2_with (first | (go_at_call 77; refine (isnan_any _ _).mono ?_; rintro e w' ⟨rfl, rfl⟩))
    go_ret
    exact ⟨rfl, rfl⟩
  · rw [if_neg h1]
    by_cases h2 : y < x
    · rw [if_pos h2]
      go_enter Try.func66, Try.ntmps66
      go_wp2_with (first | (go_at_call 77; refine (isnan_any _ _).mono ?_; rintro e w' ⟨rfl, rfl⟩))
      go_ret
      exact ⟨rfl, rfl⟩
    · rw [if_neg h2]
      go_enter Try.func66, Try.ntmps66
      go_wp2_with (first | (go_at_call 77; refine (isnan_any _ _).mono ?_; rintro e w' ⟨rfl, rfl⟩))
      go_ret
      exact ⟨rfl, rfl⟩

theorem or2_any (x y : Int) (b : Nat) (w : World) (h0 : w.cell? ⟨b, 0, none⟩ = some (.int .i64 x)) (h1 : w.cell? ⟨b, 1, none⟩ = some (.int .i64 y)) :
    Calls Try.prog 65 #[.slice (some ⟨b, 0, none⟩) 2 2] w fun e w' => e = .returned (.int .i64 (orI x y)) ∧ w = w' := by
  unfold orI
  by_cases hx : x = 0
  · subst hx
    by_cases hy : y = 0
    · subst hy
      go_enter Try.func65, Try.ntmps65
      go_wp2
      go_rounds 3
      go_ret
      exact ⟨rfl, rfl⟩
    · have hy' : (y != 0) = true := by simpa using hy
      go_enter Try.func65, Try.ntmps65
      go_wp2
      go_rounds 3
      go_ret
      exact ⟨rfl, rfl⟩
  · have hx' : (x != 0) = true := by simpa using hx
    rw [if_neg hx]
    go_enter Try.func65, Try.ntmps65
    go_wp2
    go_rounds 3
    go_ret
    exact ⟨rfl, rfl⟩

set_option maxHeartbeats 800000 in
theorem compare_any (a b : St) (w : World) :
    Calls Try.prog 50 #[.agg #[.int .i64 a.c, .int .i64 a.s], .agg #[.int .i64 b.c, .int .i64 b.s]] w fun e w' => e = .returned (.int .i64 (cmpS a b)) ∧ Below w.heap.size w w' := by
  go_enter Try.func50, Try.ntmps50
  go_wp2
  go_region_held3 (fun w' => w'.cell? ⟨w.heap.size, 0, none⟩ = some (.int .i64 a.c) ∧ w'.cell? ⟨w.heap.size, 1, none⟩ = some (.int .i64 a.s) ∧ w'.cell? ⟨w.heap.size + 1, 0, none⟩ = some (.int .i64 b.c) ∧ w'.cell? ⟨w.heap.size + 1, 1, none⟩ = some (.int .i64 b.s))
    (first | go_keep | (simp [go_sem, World.cell?_alloc_past]))
    (first
      | (go_at_call 66; refine (cmp_any _ _ _).mono ?_; rintro e w' ⟨rfl, rfl⟩)
      | (go_at_call 65; refine (or2_any (cmpI a.c b.c) (cmpI a.s b.s) _ _ ?_ ?_).mono ?_; (simp [go_sem]); (simp [go_sem]); rintro e w' ⟨rfl, rfl⟩))
  go_wp2
  go_ret
  refine ⟨rfl, ?_⟩
  go_grown

theorem good_any (s : St) (w : World) :
    Calls Try.prog 51 #[.agg #[.int .i64 s.c, .int .i64 s.s]] w fun e w' => e = .returned (.bool (goodB s)) ∧ Below w.heap.size w w' := by
  by_cases hc1 : 1 ≤ s.c
  · by_cases hc2 : s.c ≤ 4294967295
    · by_cases hc3 : 0 ≤ s.s
      · by_cases hc4 : s.s < 12
        · go_enter Try.func51, Try.ntmps51
          go_wp2
          go_ret
          refine ⟨ret_bool (by unfold goodB; first | (simp [*]; done) | (simp; omega)), ?_⟩
          go_grown
        · go_enter Try.func51, Try.ntmps51
          go_wp2
          go_ret
          refine ⟨ret_bool (by unfold goodB; first | (simp [*]; done) | (simp; omega)), ?_⟩
          go_grown
      · go_enter Try.func51, Try.ntmps51
        go_wp2
        go_ret
        refine ⟨ret_bool (by unfold goodB; first | (simp [*]; done) | (simp; omega)), ?_⟩
        go_grown
    · go_enter Try.func51, Try.ntmps51
      go_wp2
      go_ret
      refine ⟨ret_bool (by unfold goodB; first | (simp [*]; done) | (simp; omega)), ?_⟩
      go_grown
  · go_enter Try.func51, Try.ntmps51
    go_wp2
    go_ret
    refine ⟨ret_bool (by unfold goodB; first | (simp [*]; done) | (simp; omega)), ?_⟩
    go_grown

theorem site_any (n : Int) (w : World) :
    Calls Try.prog 59 #[.int .i64 n] w fun e w' => e = .returned (.bool (siteB n)) ∧ w = w' := by
  by_cases hc1 : 0 ≤ n
  · by_cases hc2 : n < 12
    · go_enter Try.func59, Try.ntmps59
      go_wp2
      go_ret
      exact ⟨ret_bool (by unfold siteB; first | (simp [*]; done) | (simp; omega)), rfl⟩
    · go_enter Try.func59, Try.ntmps59
      go_wp2
      go_ret
      exact ⟨ret_bool (by unfold siteB; first | (simp [*]; done) | (simp; omega)), rfl⟩
  · go_enter Try.func59, Try.ntmps59
    go_wp2
    go_ret
    exact ⟨ret_bool (by unfold siteB; first | (simp [*]; done) | (simp; omega)), rfl⟩

theorem rgood_any (s : St) (w : World) :
    Calls Try.prog 39 #[.agg #[.int .i64 s.c, .int .i64 s.s]] w fun e w' => e = .returned (.bool (goodB s)) ∧ Below w.heap.size w w' := by
  by_cases hc1 : 1 ≤ s.c
  · by_cases hc2 : s.c ≤ 4294967295
    · go_enter Try.func39, Try.ntmps39
      go_wp2_with (go_at_call 59; refine (site_any _ _).mono ?_; rintro e w' ⟨rfl, rfl⟩)
      go_ret
      refine ⟨ret_bool (by unfold goodB; first | (simp [siteB, *]; done) | (simp; omega)), ?_⟩
      go_grown
    · go_enter Try.func39, Try.ntmps39
      go_wp2_with (go_at_call 59; refine (site_any _ _).mono ?_; rintro e w' ⟨rfl, rfl⟩)
      go_ret
      refine ⟨ret_bool (by unfold goodB; first | (simp [siteB, *]; done) | (simp; omega)), ?_⟩
      go_grown
  · go_enter Try.func39, Try.ntmps39
    go_wp2_with (go_at_call 59; refine (site_any _ _).mono ?_; rintro e w' ⟨rfl, rfl⟩)
    go_ret
    refine ⟨ret_bool (by unfold goodB; first | (simp [siteB, *]; done) | (simp; omega)), ?_⟩
    go_grown

theorem later_any (a b : St) (w : World) :
    Calls Try.prog 40 #[.agg #[.int .i64 a.c, .int .i64 a.s], .agg #[.int .i64 b.c, .int .i64 b.s]] w fun e w' => e = .returned (.bool (laterB a b)) ∧ Below w.heap.size w w' := by
  unfold laterB
  by_cases h : a.c = b.c
  · have h' : (a.c != b.c) = false := by simpa using h
    rw [if_neg (by simpa using h)]
    have H := Lib.hid h
    clear h
    go_enter Try.func40, Try.ntmps40
    go_wp2
    go_ret
    refine ⟨rfl, ?_⟩
    go_grown
  · have h' : (a.c != b.c) = true := by simpa using h
    rw [if_pos h]
    clear h
    go_enter Try.func40, Try.ntmps40
    go_wp2
    go_ret
    refine ⟨rfl, ?_⟩
    go_grown


end Go.Proofs.Ytjcjmeeajkdlhaa
