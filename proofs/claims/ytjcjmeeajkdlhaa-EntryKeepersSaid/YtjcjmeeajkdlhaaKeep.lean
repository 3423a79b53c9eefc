/- Who keeps certificates: the contracts of the two Keepers. -/
import Derived.Test.YtjcjmeeajkdlhaaRows
import Derived.Test.YtjcjmeeajkdlhaaKit
namespace Go.Proofs.Ytjcjmeeajkdlhaa
open Go.RowKit
def keepF (n s : Nat) : Nat → Nat
  | 0 => 0
  | k + 1 => keepF n s k ||| 2 ^ ((s + k) % n)
theorem pow_lt_12 {m : Nat} (h : m < 12) : 2 ^ m < 4096 := Nat.pow_lt_pow_right (n := 12) (by omega) h
theorem keepF_lt (n s k : Nat) (hn : 1 ≤ n) (h12 : n ≤ 12) : keepF n s k < 4096 := by
  induction k with
  | zero => simp [keepF]
  | succ k ih =>
    have h1 : (s + k) % n < n := Nat.mod_lt _ (by omega)
    exact Nat.or_lt_two_pow (n := 12) ih (pow_lt_12 (by omega))
theorem keepF_step (n s k : Nat) (hn : 1 ≤ n) (h12 : n ≤ 12) :
    bits .or .i64 (keepF n s k : Nat) (wrap64 (2 ^ ((s + k) % n))) = ((keepF n s (k + 1) : Nat) : Int) := by
  have h1 : (s + k) % n < n := Nat.mod_lt _ (by omega)
  have h2 := pow_lt_12 (m := (s + k) % n) (by omega)
  have h3 := keepF_lt n s k hn h12
  have e : (2 : Int) ^ ((s + k) % n) = ((2 ^ ((s + k) % n) : Nat) : Int) := by simp
  rw [e, wrap64_nat _ (by omega), i64_or_nat _ _ (by omega) (by omega)]
  rfl

theorem keepers_any (s r n : Nat) (w : World) (h1 : 1 ≤ n) (h2 : n ≤ 12) (h3 : s < n) (h4 : 1 ≤ r) (h5 : r ≤ n) :
    Calls Try.prog 16 #[.int .i64 s, .int .i64 r, .int .i64 n] w fun e w' => e = .returned (.int .i64 (keepF n s r : Nat)) ∧ w = w' := by
  go_enter Try.func16, Try.ntmps16
  go_wp2
  go_loop [7, 34] (fun b i => ∃ k : Nat, k ≤ r ∧ i = .int .i64 k ∧ b = .int .i64 (keepF n s k : Nat)) (fun _ i => r - (intOf i).toNat)
  case atStart => exact ⟨0, Nat.zero_le _, rfl, rfl⟩
  case round =>
    obtain ⟨k, hk, rfl, rfl⟩ := hrel
    by_cases hlt : k < r
    · have hm2 : (0 : Int) ≤ ((s : Int) + k) % n := Int.emod_nonneg _ (by omega)
      have hm3 : ((s : Int) + k) % n < n := Int.emod_lt_of_pos _ (by omega)
      go_wp2
      go_round
      case rel => exact ⟨k + 1, by omega, by go_num, by rw [keepF_step n s k h1 h2]⟩
      case measure => simp [intOf]; omega
    · obtain rfl : k = r := by omega
      go_wp2
      go_ret
      exact ⟨rfl, rfl⟩

/-- Not so: 0. -/
theorem keepers_no (s r n : Int) (w : World) (h : ¬ (1 ≤ n ∧ n ≤ 12 ∧ 0 ≤ s ∧ s < n ∧ 1 ≤ r ∧ r ≤ n)) :
    Calls Try.prog 16 #[.int .i64 s, .int .i64 r, .int .i64 n] w fun e w' => e = .returned (.int .i64 0) ∧ w = w' := by
  by_cases hc1 : 1 ≤ n
  · by_cases hc2 : n ≤ 12
    · by_cases hc3 : 0 ≤ s
      · by_cases hc4 : s < n
        · by_cases hc5 : 1 ≤ r
          · by_cases hc6 : r ≤ n
            · first
                | (exfalso; omega)
                | (clear h
                   go_enter Try.func16, Try.ntmps16
                   go_wp2
                   go_ret
                   exact ⟨rfl, rfl⟩)
            · first
                | (exfalso; omega)
                | (clear h
                   go_enter Try.func16, Try.ntmps16
                   go_wp2
                   go_ret
                   exact ⟨rfl, rfl⟩)
          · first
              | (exfalso; omega)
              | (clear h
                 go_enter Try.func16, Try.ntmps16
                 go_wp2
                 go_ret
                 exact ⟨rfl, rfl⟩)
        · first
            | (exfalso; omega)
            | (clear h
               go_enter Try.func16, Try.ntmps16
               go_wp2
               go_ret
               exact ⟨rfl, rfl⟩)
      · first
          | (exfalso; omega)
          | (clear h
             go_enter Try.func16, Try.ntmps16
             go_wp2
             go_ret
             exact ⟨rfl, rfl⟩)
    · first
        | (exfalso; omega)
        | (clear h
           go_enter Try.func16, Try.ntmps16
           go_wp2
           go_ret
           exact ⟨rfl, rfl⟩)
  · first
      | (exfalso; omega)
      | (clear h
         go_enter Try.func16, Try.ntmps16
         go_wp2
         go_ret
         exact ⟨rfl, rfl⟩)
theorem rkeepers_no (s r n : Int) (w : World) (h : ¬ (1 ≤ n ∧ n ≤ 12 ∧ 0 ≤ s ∧ s < n ∧ 1 ≤ r ∧ r ≤ n)) :
    Calls Try.prog 17 #[.int .i64 s, .int .i64 r, .int .i64 n] w fun e w' => e = .returned (.int .i64 0) ∧ w = w' := by
  by_cases hc1 : 1 ≤ n
  · by_cases hc2 : n ≤ 12
    · by_cases hc3 : 0 ≤ s
      · by_cases hc4 : s < n
        · by_cases hc5 : 1 ≤ r
          · by_cases hc6 : r ≤ n
            · first
                | (exfalso; omega)
                | (clear h
                   go_enter Try.func17, Try.ntmps17
                   go_wp2
                   go_ret
                   exact ⟨rfl, rfl⟩)
            · first
                | (exfalso; omega)
                | (clear h
                   go_enter Try.func17, Try.ntmps17
                   go_wp2
                   go_ret
                   exact ⟨rfl, rfl⟩)
          · first
              | (exfalso; omega)
              | (clear h
                 go_enter Try.func17, Try.ntmps17
                 go_wp2
                 go_ret
                 exact ⟨rfl, rfl⟩)
        · first
            | (exfalso; omega)
            | (clear h
               go_enter Try.func17, Try.ntmps17
               go_wp2
               go_ret
               exact ⟨rfl, rfl⟩)
      · first
          | (exfalso; omega)
          | (clear h
             go_enter Try.func17, Try.ntmps17
             go_wp2
             go_ret
             exact ⟨rfl, rfl⟩)
    · first
        | (exfalso; omega)
        | (clear h
           go_enter Try.func17, Try.ntmps17
           go_wp2
           go_ret
           exact ⟨rfl, rfl⟩)
  · first
      | (exfalso; omega)
      | (clear h
         go_enter Try.func17, Try.ntmps17
         go_wp2
         go_ret
         exact ⟨rfl, rfl⟩)
/-- The document's: after k rounds. -/
def rkeepF (n s r : Nat) : Nat → Nat
  | 0 => 0
  | k + 1 => if (k + n - s) % n < r then rkeepF n s r k + 2 ^ k else rkeepF n s r k
theorem rkeepF_lt (n s r k : Nat) : rkeepF n s r k < 2 ^ k := by
  induction k with
  | zero => simp [rkeepF]
  | succ k ih =>
    unfold rkeepF
    rw [Nat.pow_succ]
    split <;> omega
theorem rkeepers_any (s r n : Nat) (w : World) (h1 : 1 ≤ n) (h2 : n ≤ 12) (h3 : s < n) (h4 : 1 ≤ r) (h5 : r ≤ n) :
    Calls Try.prog 17 #[.int .i64 s, .int .i64 r, .int .i64 n] w fun e w' => e = .returned (.int .i64 (rkeepF n s r n : Nat)) ∧ w = w' := by
  go_enter Try.func17, Try.ntmps17
  go_wp2
  go_loop [7, 8, 9] (fun b v i => ∃ k : Nat, k ≤ n ∧ i = .int .i64 k ∧ v = .int .i64 ((2 ^ k : Nat) : Int) ∧ b = .int .i64 (rkeepF n s r k : Nat)) (fun _ _ i => n - (intOf i).toNat)
  case atStart => exact ⟨0, Nat.zero_le _, rfl, rfl, rfl⟩
  case round =>
    obtain ⟨k, hk, rfl, rfl, rfl⟩ := hrel
    by_cases hlt : k < n
    · have hp := pow_lt_12 (m := k) (by omega)
      have hq := rkeepF_lt n s r k
      generalize hP : 2 ^ k = p at hp hq ⊢
      have HP := Lib.hid hP
      clear hP
      generalize hR : rkeepF n s r k = q at hq ⊢
      have HR := Lib.hid hR
      clear hR
      by_cases hr : (k + n - s) % n < r
      · have hr' : ((k : Int) + n - s) % n < r := by
          have e : ((k : Int) + n - s) % n = (((k + n - s) % n : Nat) : Int) := by
            rw [Int.natCast_emod]; congr 1; omega
          rw [e]; omega
        go_wp2
        go_round
        case rel =>
          refine ⟨k + 1, by omega, by go_num, ?_, ?_⟩
          · rw [Nat.pow_succ, HP.out]; go_num
          · rw [rkeepF, if_pos hr, HP.out, HR.out]; go_num
        case measure => simp [intOf]; omega
      · have hr' : ¬ ((k : Int) + n - s) % n < r := by
          have e : ((k : Int) + n - s) % n = (((k + n - s) % n : Nat) : Int) := by
            rw [Int.natCast_emod]; congr 1; omega
          rw [e]; omega
        go_wp2
        go_round
        case rel =>
          refine ⟨k + 1, by omega, by go_num, ?_, ?_⟩
          · rw [Nat.pow_succ, HP.out]; go_num
          · rw [rkeepF, if_neg hr, HR.out]
        case measure => simp [intOf]; omega
    · obtain rfl : k = n := by omega
      go_wp2
      go_ret
      exact ⟨rfl, rfl⟩
theorem keep_eq : ∀ n, n ≤ 12 → ∀ s, s < n → ∀ r, r ≤ n → keepF n s r = rkeepF n s r n := by
  decide +kernel
end Go.Proofs.Ytjcjmeeajkdlhaa
