/- StampOrders holds: which of any stamps may be, and which is the later one, is as the document says. No condition. -/
import Derived.Test.YtjcjmeeajkdlhaaRows
import Derived.Test.YtjcjmeeajkdlhaaClock
import Derived.Test.YtjcjmeeajkdlhaaEnt
import Derived.Test.YtjcjmeeajkdlhaaOpen
namespace Go.Proofs.Ytjcjmeeajkdlhaa
open Go.RowKit Go.ChangeShapes Go.WideShapes Go.ChangeAt
open Go.ChangeMaps (open_string shut_string)

theorem cmp_want (a b : St) : cmpS a b = if laterB b a = true then -1 else if laterB a b = true then 1 else 0 := by
  unfold cmpS orI cmpI laterB; grind
theorem later_not (a b : St) (h : laterB a b = true) : laterB b a = false := by
  unfold laterB at *; grind

def Want (a b : St) : Int := if laterB b a = true then -1 else if laterB a b = true then 1 else 0

set_option maxHeartbeats 4000000 in
set_option maxRecDepth 100000 in
theorem walk_sorders (a b : St) (w : World) :
    Calls Try.prog 10 #[.agg #[.int .i64 a.c, .int .i64 a.s], .agg #[.int .i64 b.c, .int .i64 b.s]] w fun r w' => r = .returned (.bool true) ∧ Below w.heap.size w w' := by
  have hw := cmp_want a b
  cases h1 : laterB a b <;> cases h2 : laterB b a
  · rw [h1, h2] at hw
    have hw' : (cmpS a b == 0) = true := by simp [hw]
    clear hw
    go_enter Try.func10, Try.ntmps10
    go_wp2_with (first
      | (go_at_call 40; refine (later_any _ _ _).mono ?_; rintro e w1 ⟨rfl, hb⟩; (first | (have hB := Below.trans hB (Below.mono hb hB.size)) | (have hB := Below.trans (Below.drew hB) (Below.mono hb hB.size)) | (have hB := hb)); obtain ⟨hcl, hfl⟩ := bcell hB))
    refine Seq.wp_region_seq (by kernel_rfl) (Seq.Keeps (w.heap.size + 2) [] _) [0, 3, 5, 6, 12, 13, 15] (by kernel_rfl) (Seq.Keeps.refl (by first | (simp; done) | (have h9 := hB.size; simp at h9 ⊢; omega))).drew (fun hKp => ?_)
    repeat' ((with_reducible refine Seq.wpSeq_id ?_); first
      | (refine Seq.wpSeq_skip rfl ?_; simp only [Act.put, Nat.reduceAdd, List.setIfInBounds_toArray, List.set_cons_zero, List.set_cons_succ])
      | (refine Seq.wpSeq_move (v := .bool true) rfl rfl rfl rfl ?_; simp only [Act.put, Nat.reduceAdd, List.setIfInBounds_toArray, List.set_cons_zero, List.set_cons_succ])
      | (refine Seq.wpSeq_move (v := .bool false) rfl rfl rfl rfl ?_; simp only [Act.put, Nat.reduceAdd, List.setIfInBounds_toArray, List.set_cons_zero, List.set_cons_succ])
      | (refine Seq.wpSeq_part [1, 10] rfl rfl rfl rfl rfl (fun hb => ?_) (fun hb => ?_) <;> simp only [Act.put, Nat.reduceAdd, List.setIfInBounds_toArray, List.set_cons_zero, List.set_cons_succ])
      | (refine Seq.wpSeq_move' ?_ rfl rfl rfl ?_ ?_; rotate_left; (focus (go_simp; all_goals with_reducible rfl)); simp only [Act.put, Nat.reduceAdd, List.setIfInBounds_toArray, List.set_cons_zero, List.set_cons_succ])
      | (refine Seq.wpSeq_assign' ?_ rfl rfl rfl ?_ ?_; rotate_left; (focus (go_simp; all_goals with_reducible rfl)); simp only [Act.put, Nat.reduceAdd, List.setIfInBounds_toArray, List.set_cons_zero, List.set_cons_succ])
      | (refine Seq.wpSeq_eff rfl rfl (fun K hK => ?_); go_wp2_with (first | (go_at_call 35; refine (speaks04_any _).mono ?_; rintro e w1 ⟨rfl, hb⟩; (first | (have hB := Below.trans hB (Below.mono hb hB.size)) | (have hB := Below.trans (Below.drew hB) (Below.mono hb hB.size)) | (have hB := hb)); obtain ⟨hcl, hfl⟩ := bcell hB) | (go_at_call 38; refine (of04_any _ _).mono ?_; rintro e w1 ⟨rfl, hb⟩; (first | (have hB := Below.trans hB (Below.mono hb hB.size)) | (have hB := Below.trans (Below.drew hB) (Below.mono hb hB.size)) | (have hB := hb)); obtain ⟨hcl, hfl⟩ := bcell hB) | (go_at_call 50; refine (compare_any _ _ _).mono ?_; rintro e w1 ⟨rfl, hb⟩; (first | (have hB := Below.trans hB (Below.mono hb hB.size)) | (have hB := Below.trans (Below.drew hB) (Below.mono hb hB.size)) | (have hB := hb)); obtain ⟨hcl, hfl⟩ := bcell hB) | (go_at_call 51; refine (good_any _ _).mono ?_; rintro e w1 ⟨rfl, hb⟩; (first | (have hB := Below.trans hB (Below.mono hb hB.size)) | (have hB := Below.trans (Below.drew hB) (Below.mono hb hB.size)) | (have hB := hb)); obtain ⟨hcl, hfl⟩ := bcell hB) | (go_at_call 39; refine (rgood_any _ _).mono ?_; rintro e w1 ⟨rfl, hb⟩; (first | (have hB := Below.trans hB (Below.mono hb hB.size)) | (have hB := Below.trans (Below.drew hB) (Below.mono hb hB.size)) | (have hB := hb)); obtain ⟨hcl, hfl⟩ := bcell hB) | fail); refine hK _ _ ?_ (fun hKp => ?_); (focus (repeat (first | (with_reducible exact hKp) | (with_reducible exact Seq.Keeps.undrew hKp) | (with_reducible refine Seq.Keeps.setCell ?_ (.inl ?_) _; rotate_left; (focus (simp; done))) | (with_reducible refine Seq.Keeps.alloc ?_ _) | (with_reducible refine Seq.Keeps.drew ?_) | (with_reducible exact Seq.Keeps.below hKp (by simp) hb) | (with_reducible exact Seq.Keeps.below (Seq.Keeps.undrew hKp) (by simp) hb)))); clear hK K; simp only [Act.put, Nat.reduceAdd, List.setIfInBounds_toArray, List.set_cons_zero, List.set_cons_succ])
      | (refine Seq.wpSeq_read' ?_ rfl rfl (fun w' hw' => ?_) ?_; rotate_left; (focus (have hk := hw'.cell; go_simp; all_goals with_reducible rfl)); simp only [Act.put, Nat.reduceAdd, List.setIfInBounds_toArray, List.set_cons_zero, List.set_cons_succ])
      | (refine Seq.wpSeq_nil (fun hKp => ?_)))
    go_wp2
    go_ret
    refine ⟨rfl, ?_⟩
    first
      | (go_grown; done)
      | ((repeat (with_reducible refine Below.setCell ?_ (by simp) _)); refine Below.trans ?_ (Below.mono hB (by first | (simp; done) | (simp; omega))); go_grown)
  · rw [h1, h2] at hw
    have hw' : (cmpS a b == -1) = true := by simp [hw]
    clear hw
    go_enter Try.func10, Try.ntmps10
    go_wp2_with (first
      | (go_at_call 40; refine (later_any _ _ _).mono ?_; rintro e w1 ⟨rfl, hb⟩; (first | (have hB := Below.trans hB (Below.mono hb hB.size)) | (have hB := Below.trans (Below.drew hB) (Below.mono hb hB.size)) | (have hB := hb)); obtain ⟨hcl, hfl⟩ := bcell hB))
    refine Seq.wp_region_seq (by kernel_rfl) (Seq.Keeps (w.heap.size + 2) [] _) [0, 3, 5, 6, 12, 13, 15] (by kernel_rfl) (Seq.Keeps.refl (by first | (simp; done) | (have h9 := hB.size; simp at h9 ⊢; omega))).drew (fun hKp => ?_)
    repeat' ((with_reducible refine Seq.wpSeq_id ?_); first
      | (refine Seq.wpSeq_skip rfl ?_; simp only [Act.put, Nat.reduceAdd, List.setIfInBounds_toArray, List.set_cons_zero, List.set_cons_succ])
      | (refine Seq.wpSeq_move (v := .bool true) rfl rfl rfl rfl ?_; simp only [Act.put, Nat.reduceAdd, List.setIfInBounds_toArray, List.set_cons_zero, List.set_cons_succ])
      | (refine Seq.wpSeq_move (v := .bool false) rfl rfl rfl rfl ?_; simp only [Act.put, Nat.reduceAdd, List.setIfInBounds_toArray, List.set_cons_zero, List.set_cons_succ])
      | (refine Seq.wpSeq_part [1, 10] rfl rfl rfl rfl rfl (fun hb => ?_) (fun hb => ?_) <;> simp only [Act.put, Nat.reduceAdd, List.setIfInBounds_toArray, List.set_cons_zero, List.set_cons_succ])
      | (refine Seq.wpSeq_move' ?_ rfl rfl rfl ?_ ?_; rotate_left; (focus (go_simp; all_goals with_reducible rfl)); simp only [Act.put, Nat.reduceAdd, List.setIfInBounds_toArray, List.set_cons_zero, List.set_cons_succ])
      | (refine Seq.wpSeq_assign' ?_ rfl rfl rfl ?_ ?_; rotate_left; (focus (go_simp; all_goals with_reducible rfl)); simp only [Act.put, Nat.reduceAdd, List.setIfInBounds_toArray, List.set_cons_zero, List.set_cons_succ])
      | (refine Seq.wpSeq_eff rfl rfl (fun K hK => ?_); go_wp2_with (first | (go_at_call 35; refine (speaks04_any _).mono ?_; rintro e w1 ⟨rfl, hb⟩; (first | (have hB := Below.trans hB (Below.mono hb hB.size)) | (have hB := Below.trans (Below.drew hB) (Below.mono hb hB.size)) | (have hB := hb)); obtain ⟨hcl, hfl⟩ := bcell hB) | (go_at_call 38; refine (of04_any _ _).mono ?_; rintro e w1 ⟨rfl, hb⟩; (first | (have hB := Below.trans hB (Below.mono hb hB.size)) | (have hB := Below.trans (Below.drew hB) (Below.mono hb hB.size)) | (have hB := hb)); obtain ⟨hcl, hfl⟩ := bcell hB) | (go_at_call 50; refine (compare_any _ _ _).mono ?_; rintro e w1 ⟨rfl, hb⟩; (first | (have hB := Below.trans hB (Below.mono hb hB.size)) | (have hB := Below.trans (Below.drew hB) (Below.mono hb hB.size)) | (have hB := hb)); obtain ⟨hcl, hfl⟩ := bcell hB) | (go_at_call 51; refine (good_any _ _).mono ?_; rintro e w1 ⟨rfl, hb⟩; (first | (have hB := Below.trans hB (Below.mono hb hB.size)) | (have hB := Below.trans (Below.drew hB) (Below.mono hb hB.size)) | (have hB := hb)); obtain ⟨hcl, hfl⟩ := bcell hB) | (go_at_call 39; refine (rgood_any _ _).mono ?_; rintro e w1 ⟨rfl, hb⟩; (first | (have hB := Below.trans hB (Below.mono hb hB.size)) | (have hB := Below.trans (Below.drew hB) (Below.mono hb hB.size)) | (have hB := hb)); obtain ⟨hcl, hfl⟩ := bcell hB) | fail); refine hK _ _ ?_ (fun hKp => ?_); (focus (repeat (first | (with_reducible exact hKp) | (with_reducible exact Seq.Keeps.undrew hKp) | (with_reducible refine Seq.Keeps.setCell ?_ (.inl ?_) _; rotate_left; (focus (simp; done))) | (with_reducible refine Seq.Keeps.alloc ?_ _) | (with_reducible refine Seq.Keeps.drew ?_) | (with_reducible exact Seq.Keeps.below hKp (by simp) hb) | (with_reducible exact Seq.Keeps.below (Seq.Keeps.undrew hKp) (by simp) hb)))); clear hK K; simp only [Act.put, Nat.reduceAdd, List.setIfInBounds_toArray, List.set_cons_zero, List.set_cons_succ])
      | (refine Seq.wpSeq_read' ?_ rfl rfl (fun w' hw' => ?_) ?_; rotate_left; (focus (have hk := hw'.cell; go_simp; all_goals with_reducible rfl)); simp only [Act.put, Nat.reduceAdd, List.setIfInBounds_toArray, List.set_cons_zero, List.set_cons_succ])
      | (refine Seq.wpSeq_nil (fun hKp => ?_)))
    go_wp2
    go_ret
    refine ⟨rfl, ?_⟩
    first
      | (go_grown; done)
      | ((repeat (with_reducible refine Below.setCell ?_ (by simp) _)); refine Below.trans ?_ (Below.mono hB (by first | (simp; done) | (simp; omega))); go_grown)
  · rw [h1, h2] at hw
    have hw' : (cmpS a b == 1) = true := by simp [hw]
    clear hw
    go_enter Try.func10, Try.ntmps10
    go_wp2_with (first
      | (go_at_call 40; refine (later_any _ _ _).mono ?_; rintro e w1 ⟨rfl, hb⟩; (first | (have hB := Below.trans hB (Below.mono hb hB.size)) | (have hB := Below.trans (Below.drew hB) (Below.mono hb hB.size)) | (have hB := hb)); obtain ⟨hcl, hfl⟩ := bcell hB))
    refine Seq.wp_region_seq (by kernel_rfl) (Seq.Keeps (w.heap.size + 2) [] _) [0, 3, 5, 6, 12, 13, 15] (by kernel_rfl) (Seq.Keeps.refl (by first | (simp; done) | (have h9 := hB.size; simp at h9 ⊢; omega))).drew (fun hKp => ?_)
    repeat' ((with_reducible refine Seq.wpSeq_id ?_); first
      | (refine Seq.wpSeq_skip rfl ?_; simp only [Act.put, Nat.reduceAdd, List.setIfInBounds_toArray, List.set_cons_zero, List.set_cons_succ])
      | (refine Seq.wpSeq_move (v := .bool true) rfl rfl rfl rfl ?_; simp only [Act.put, Nat.reduceAdd, List.setIfInBounds_toArray, List.set_cons_zero, List.set_cons_succ])
      | (refine Seq.wpSeq_move (v := .bool false) rfl rfl rfl rfl ?_; simp only [Act.put, Nat.reduceAdd, List.setIfInBounds_toArray, List.set_cons_zero, List.set_cons_succ])
      | (refine Seq.wpSeq_part [1, 10] rfl rfl rfl rfl rfl (fun hb => ?_) (fun hb => ?_) <;> simp only [Act.put, Nat.reduceAdd, List.setIfInBounds_toArray, List.set_cons_zero, List.set_cons_succ])
      | (refine Seq.wpSeq_move' ?_ rfl rfl rfl ?_ ?_; rotate_left; (focus (go_simp; all_goals with_reducible rfl)); simp only [Act.put, Nat.reduceAdd, List.setIfInBounds_toArray, List.set_cons_zero, List.set_cons_succ])
      | (refine Seq.wpSeq_assign' ?_ rfl rfl rfl ?_ ?_; rotate_left; (focus (go_simp; all_goals with_reducible rfl)); simp only [Act.put, Nat.reduceAdd, List.setIfInBounds_toArray, List.set_cons_zero, List.set_cons_succ])
      | (refine Seq.wpSeq_eff rfl rfl (fun K hK => ?_); go_wp2_with (first | (go_at_call 35; refine (speaks04_any _).mono ?_; rintro e w1 ⟨rfl, hb⟩; (first | (have hB := Below.trans hB (Below.mono hb hB.size)) | (have hB := Below.trans (Below.drew hB) (Below.mono hb hB.size)) | (have hB := hb)); obtain ⟨hcl, hfl⟩ := bcell hB) | (go_at_call 38; refine (of04_any _ _).mono ?_; rintro e w1 ⟨rfl, hb⟩; (first | (have hB := Below.trans hB (Below.mono hb hB.size)) | (have hB := Below.trans (Below.drew hB) (Below.mono hb hB.size)) | (have hB := hb)); obtain ⟨hcl, hfl⟩ := bcell hB) | (go_at_call 50; refine (compare_any _ _ _).mono ?_; rintro e w1 ⟨rfl, hb⟩; (first | (have hB := Below.trans hB (Below.mono hb hB.size)) | (have hB := Below.trans (Below.drew hB) (Below.mono hb hB.size)) | (have hB := hb)); obtain ⟨hcl, hfl⟩ := bcell hB) | (go_at_call 51; refine (good_any _ _).mono ?_; rintro e w1 ⟨rfl, hb⟩; (first | (have hB := Below.trans hB (Below.mono hb hB.size)) | (have hB := Below.trans (Below.drew hB) (Below.mono hb hB.size)) | (have hB := hb)); obtain ⟨hcl, hfl⟩ := bcell hB) | (go_at_call 39; refine (rgood_any _ _).mono ?_; rintro e w1 ⟨rfl, hb⟩; (first | (have hB := Below.trans hB (Below.mono hb hB.size)) | (have hB := Below.trans (Below.drew hB) (Below.mono hb hB.size)) | (have hB := hb)); obtain ⟨hcl, hfl⟩ := bcell hB) | fail); refine hK _ _ ?_ (fun hKp => ?_); (focus (repeat (first | (with_reducible exact hKp) | (with_reducible exact Seq.Keeps.undrew hKp) | (with_reducible refine Seq.Keeps.setCell ?_ (.inl ?_) _; rotate_left; (focus (simp; done))) | (with_reducible refine Seq.Keeps.alloc ?_ _) | (with_reducible refine Seq.Keeps.drew ?_) | (with_reducible exact Seq.Keeps.below hKp (by simp) hb) | (with_reducible exact Seq.Keeps.below (Seq.Keeps.undrew hKp) (by simp) hb)))); clear hK K; simp only [Act.put, Nat.reduceAdd, List.setIfInBounds_toArray, List.set_cons_zero, List.set_cons_succ])
      | (refine Seq.wpSeq_read' ?_ rfl rfl (fun w' hw' => ?_) ?_; rotate_left; (focus (have hk := hw'.cell; go_simp; all_goals with_reducible rfl)); simp only [Act.put, Nat.reduceAdd, List.setIfInBounds_toArray, List.set_cons_zero, List.set_cons_succ])
      | (refine Seq.wpSeq_nil (fun hKp => ?_)))
    go_wp2
    go_ret
    refine ⟨rfl, ?_⟩
    first
      | (go_grown; done)
      | ((repeat (with_reducible refine Below.setCell ?_ (by simp) _)); refine Below.trans ?_ (Below.mono hB (by first | (simp; done) | (simp; omega))); go_grown)
  · exact absurd h2 (by rw [later_not a b h1]; simp)

set_option maxRecDepth 100000 in
theorem lifted_stampOrders (os : Os) (started : os.Started) (H : Type) (enc : TypeId × Value → H) :
    ReturnsInHanded {} Try.checked os 10 .any (Rows.stampOrdersSpec.pre6 enc Try.prog Try.f10 Rows.stampOrdersRow.domain false) (Rows.stampOrdersSpec.post enc Try.prog Try.f10 false true false false) := by
  refine returnsInHanded_of_change (C := Try.checked) own started (by kernel_rfl) Try.func10
    (ChangeSpec.witness6 (enc := enc) (C := Try.checked) false ⟨#[], #[.agg #[.int .i64 0, .int .i64 0], .agg #[.int .i64 0, .int .i64 0]], []⟩ 8 (by kernel_rfl) (by kernel_rfl) (by kernel_rfl) (by kernel_rfl)) ?_
  intro W base args ds gs before hval0 hW hcnd _
  have hval : ∀ (j : Nat) t v, Try.f10.params[j]? = some t → args[j]? = some v → Value.okWide Try.prog W .any base t v := hval0
  have hW' := hW
  obtain ⟨p, q, hA0, hV, rfl, hfz, hnd⟩ := hW
  have hA : DataW.TrodAll enc Try.prog W 0 (fun _ => true) true Try.f10.params.toList args.toList ds p := hA0
  rw [Try.params10] at hA hval
  obtain ⟨v0, vs0, d0, ds0, p0, q0, hargs, rfl, rfl, h0, r0⟩ := trodAll_cons hA
  obtain ⟨v1, vs1, d1, ds1, p1, q1, rfl, rfl, rfl, h1, r1⟩ := trodAll_cons r0
  obtain ⟨rfl, rfl, rfl⟩ := trodAll_nil r1
  obtain rfl : args = #[v0, v1] := by cases args; simp_all
  obtain ⟨rfl, rfl⟩ := trodVars_none hV
  have lt0 : ∀ x ∈ p0, x.block < W.heap.size := by obtain ⟨m, hm⟩ := h0; exact DataW.trod_lt m _ _ _ hm
  have k0 := h0
  have lt1 : ∀ x ∈ p1, x.block < W.heap.size := by obtain ⟨m, hm⟩ := h1; exact DataW.trod_lt m _ _ _ hm
  have k1 := h1
  obtain ⟨a0, rfl, w0⟩ := open_st (hval 0 23 v0 rfl rfl) h0
  obtain ⟨a1, rfl, w1⟩ := open_st (hval 1 23 v1 rfl rfl) h1
  clear hA0 hval0
  refine (walk_sorders a0 a1 W).mono fun r W' ⟨he, bel⟩ => ?_
  subst he
  exact ⟨_, rfl, _, _, _, [], _, [], hW', trodAll_mk1 (shut_bool Try.underlying4 _), (trodAll_cons_mk (Below.trod laidOut (by kernel_rfl) (of_decide_eq_true (by kernel_rfl)) k0 bel lt0) (trodAll_cons_mk (Below.trod laidOut (by kernel_rfl) (of_decide_eq_true (by kernel_rfl)) k1 bel lt1) trodAll_mk0)), rfl, bel.frame _, fun h => by cases h⟩

theorem stampOrders_holds : Rows.StampOrdersSaid :=
  OpenClaim.holds_of_wide 10 Try.f10 rfl rfl rfl rfl rfl rfl rfl ⟨rfl, rfl, rfl, rfl, rfl⟩ rfl rfl rfl rfl rfl (by kernel_rfl) Try.func10 (by kernel_rfl)
    (of_decide_eq_true (by kernel_rfl)) (by unfold Func.isWrapper; first | (rw [if_pos (by decide +kernel)]; kernel_rfl) | (rw [if_neg (by decide +kernel)]; exact ⟨rfl, rfl⟩))
    (fun os started H enc _ => lifted_stampOrders os started H enc)
#print axioms stampOrders_holds
end Go.Proofs.Ytjcjmeeajkdlhaa
