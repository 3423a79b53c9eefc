/- Contracts of functions on entries: Of, Check of the document, Duty of both. -/
import Derived.Test.YtjcjmeeajkdlhaaRows
import Derived.Test.YtjcjmeeajkdlhaaStamp
import Derived.Test.YtjcjmeeajkdlhaaSeq
namespace Go.Proofs.Ytjcjmeeajkdlhaa
open Go.RowKit

theorem of04_any (s : St) (w : World) :
    Calls Try.prog 38 #[.agg #[.int .i64 s.c, .int .i64 s.s]] w fun e w' => e = .returned (.agg #[.int .i64 s.c, .int .i64 s.s]) ∧ Below w.heap.size w w' := by
  go_enter Try.func38, Try.ntmps38
  go_wp2
  go_returns
  refine ⟨rfl, ?_⟩
  go_grown

/-- The bits of n from place k on. -/
def bitB (n k : Nat) : Bool := (n / 2 ^ k) % 2 == 1
theorem bitB_half (n k : Nat) : bitB (n / 2) k = bitB n (k + 1) := by
  unfold bitB; rw [Nat.div_div_eq_div_mul, Nat.pow_succ, Nat.mul_comm]

theorem bit_any (n k : Nat) (w : World) (hn : n < 9223372036854775808) (hk : k ≤ 64) :
    Calls Try.prog 60 #[.int .i64 n, .int .i64 k] w fun e w' => e = .returned (.bool (bitB n k)) ∧ w = w' := by
  go_enter Try.func60, Try.ntmps60
  go_wp2
  go_loop [0, 5] (fun b i => ∃ j : Nat, j ≤ k ∧ i = .int .i64 j ∧ b = .int .i64 ((n / 2 ^ j : Nat) : Int)) (fun _ i => k - (intOf i).toNat)
  case atStart => exact ⟨0, Nat.zero_le _, rfl, by simp⟩
  case round =>
    obtain ⟨j, hj, rfl, rfl⟩ := hrel
    have hle : n / 2 ^ j ≤ n := Nat.div_le_self _ _
    have hs : n / 2 ^ (j + 1) = n / 2 ^ j / 2 := by rw [Nat.pow_succ, Nat.div_div_eq_div_mul]
    have hb : bitB n j = ((n / 2 ^ j) % 2 == 1) := rfl
    generalize hm : n / 2 ^ j = m at hle hs hb ⊢
    have HM := Lib.hid hm
    have HS := Lib.hid hs
    have HB := Lib.hid hb
    clear hm hs hb
    by_cases hlt : j < k
    · go_wp2
      go_round
      case rel => exact ⟨j + 1, by omega, by go_num, by rw [HS.out]; go_num⟩
      case measure => simp [intOf]; omega
    · obtain rfl : j = k := by omega
      go_wp2
      go_ret
      refine ⟨ret_bool ?_, rfl⟩
      rw [HB.out]
      rw [Bool.eq_iff_iff]; simp; omega

/-- The document's Check. -/
def chkI (e : En) : Int :=
  if e.key.size < 1 ∨ 16 < e.key.size then 9
  else if 32 < e.val.size ∨ (e.dead = true ∧ 0 < e.val.size) then 10
  else if (goodB e.st && goodB e.act && !laterB e.st e.act) = false then 1
  else if e.dead = false ∧ ¬ (sameB e.act e.st = true ∧ e.keep = 0 ∧ e.age = 0) then 1
  else if e.dead = true ∧ ¬ (1 ≤ e.keep ∧ e.keep ≤ 4095 ∧ 0 ≤ e.age ∧ e.age ≤ 2147483647) then 1
  else 0
set_option maxHeartbeats 4000000 in
theorem rchk_any (e : En) (w : World) :
    Calls Try.prog 18 #[.agg #[.string e.key, .string e.val, .bool e.dead, .int .i64 e.st.c, .int .i64 e.st.s, .int .i64 e.act.c, .int .i64 e.act.s, .int .i64 e.keep, .int .i64 e.age]] w fun r w' => r = .returned (.int .i64 (chkI e)) ∧ Below w.heap.size w w' := by
  go_enter Try.func18, Try.ntmps18
  go_wp2_with (first
    | (go_at_call 39; refine (rgood_any _ _).mono ?_; rintro e w1 ⟨rfl, hb⟩; (first | (have hB := Below.trans hB (Below.mono hb hB.size)) | (have hB := hb)); obtain ⟨hcl, hfl⟩ := bcell hB)
    | (go_at_call 40; refine (later_any _ _ _).mono ?_; rintro e w1 ⟨rfl, hb⟩; (first | (have hB := Below.trans hB (Below.mono hb hB.size)) | (have hB := hb)); obtain ⟨hcl, hfl⟩ := bcell hB))
  all_goals
    go_ret
    refine ⟨ret_int ?_, ?_⟩
    · (try clear hB hcl hfl); go_light; grind [chkI, sameB]
    · first
        | (go_grown; done)
        | exact ((Below.refl _ _).alloc (Nat.le_refl _) _).trans (hB.mono (by simp))

set_option maxRecDepth 100000 in
theorem of05_any (e : En) (w : World) :
    Calls Try.prog 20 #[.agg #[.string e.key, .string e.val, .bool e.dead, .int .i64 e.st.c, .int .i64 e.st.s, .int .i64 e.act.c, .int .i64 e.act.s, .int .i64 e.keep, .int .i64 e.age]] w fun r w' => r = .returned (.agg #[.string e.key, .string e.val, .bool e.dead, .int .i64 e.st.c, .int .i64 e.st.s, .int .i64 e.act.c, .int .i64 e.act.s, .int .i64 e.keep, .int .i64 e.age]) ∧ Below w.heap.size w w' := by
  go_enter Try.func20, Try.ntmps20
  go_wp2
  refine Seq.wp_region_seq (by kernel_rfl) (Seq.Keeps (w.heap.size + 2) [w.heap.size + 1] _) [8, 11, 17] (by kernel_rfl) (Seq.Keeps.refl (by first | (simp; done) | (have h9 := hB.size; simp at h9 ⊢; omega))).drew (fun hKp => ?_)
  repeat' ((with_reducible refine Seq.wpSeq_id ?_); first
    | (refine Seq.wpSeq_skip rfl ?_; simp only [Act.put, Nat.reduceAdd, List.setIfInBounds_toArray, List.set_cons_zero, List.set_cons_succ])
    | (refine Seq.wpSeq_move (v := .bool true) rfl rfl rfl rfl ?_; simp only [Act.put, Nat.reduceAdd, List.setIfInBounds_toArray, List.set_cons_zero, List.set_cons_succ])
    | (refine Seq.wpSeq_move (v := .bool false) rfl rfl rfl rfl ?_; simp only [Act.put, Nat.reduceAdd, List.setIfInBounds_toArray, List.set_cons_zero, List.set_cons_succ])
    | (refine Seq.wpSeq_move' ?_ rfl rfl rfl ?_ ?_; rotate_left; (focus (go_simp; all_goals with_reducible rfl)); simp only [Act.put, Nat.reduceAdd, List.setIfInBounds_toArray, List.set_cons_zero, List.set_cons_succ])
    | (refine Seq.wpSeq_assign' ?_ rfl rfl rfl ?_ ?_; rotate_left; (focus (go_simp; all_goals with_reducible rfl)); simp only [Act.put, Nat.reduceAdd, List.setIfInBounds_toArray, List.set_cons_zero, List.set_cons_succ])
    | (refine Seq.wpSeq_eff rfl rfl (fun K hK => ?_); go_wp2_with (first | (go_at_call 38; refine (of04_any _ _).mono ?_; rintro e w1 ⟨rfl, hb⟩; (first | (have hB := Below.trans hB (Below.mono hb hB.size)) | (have hB := hb)); obtain ⟨hcl, hfl⟩ := bcell hB) | fail); refine hK _ _ ?_ (fun hKp => ?_); (focus (repeat (first | (with_reducible exact hKp) | (with_reducible exact Seq.Keeps.undrew hKp) | (with_reducible refine Seq.Keeps.setCell ?_ (.inl ?_) _; rotate_left; (focus (simp; done))) | (with_reducible refine Seq.Keeps.alloc ?_ _) | (with_reducible refine Seq.Keeps.drew ?_) | (with_reducible exact Seq.Keeps.below hKp (by simp) hb) | (with_reducible exact Seq.Keeps.below (Seq.Keeps.undrew hKp) (by simp) hb)))); clear hK K; simp only [Act.put, Nat.reduceAdd, List.setIfInBounds_toArray, List.set_cons_zero, List.set_cons_succ])
    | (refine Seq.wpSeq_read' ?_ rfl rfl (fun w' hw' => ?_) ?_; rotate_left; (focus (have hk := hw'.cell; go_simp; all_goals with_reducible rfl)); simp only [Act.put, Nat.reduceAdd, List.setIfInBounds_toArray, List.set_cons_zero, List.set_cons_succ])
    | (refine Seq.wpSeq_nil (fun hKp => ?_)))
  go_wp2
  refine bodyPost_ret (v := .agg #[.string e.key, .string e.val, .bool e.dead, .int .i64 e.st.c, .int .i64 e.st.s, .int .i64 e.act.c, .int .i64 e.act.s, .int .i64 e.keep, .int .i64 e.age]) (by simp [results, Try.results20, go_sem, hcl]) rfl ?_
  refine ⟨rfl, ?_⟩
  first
    | (go_grown; done)
    | ((repeat (with_reducible refine Below.setCell ?_ (by simp) _)); refine Below.trans ?_ (Below.mono hB (by first | (simp; done) | (simp; omega))); go_grown)

attribute [irreducible] chkI bitB

end Go.Proofs.Ytjcjmeeajkdlhaa
