/- EntryKeepers holds: who keeps whose certificates is as the document says, for every site, retain, nodes and entry. No condition. -/
import Derived.Test.YtjcjmeeajkdlhaaRows
import Derived.Test.YtjcjmeeajkdlhaaEnt
import Derived.Test.YtjcjmeeajkdlhaaKeep
import Derived.Test.YtjcjmeeajkdlhaaOpen
namespace Go.Proofs.Ytjcjmeeajkdlhaa
open Go.RowKit Go.ChangeShapes Go.WideShapes Go.ChangeAt
open Go.ChangeMaps (open_string shut_string)

def dutyB (e : En) (s : Int) : Bool := if e.dead = true ∧ 0 ≤ s ∧ s < 12 then bitB e.keep.toNat s.toNat else false

theorem and_one (m : Nat) (h : m < 4096) : bits .and .i64 (m : Int) 1 = ((m % 2 : Nat) : Int) := by
  have := i64_and_nat m 1 (by omega) (by omega)
  rw [show (((1 : Nat) : Int)) = 1 from rfl] at this
  rw [this, Nat.and_one_is_mod]

theorem duty_1 (e : En) (n k : Nat) (w : World) (hd : e.dead = true) (hn : n < 4096) (hk : k < 12) :
    Calls Try.prog 19 #[.agg #[.string e.key, .string e.val, .bool e.dead, .int .i64 e.st.c, .int .i64 e.st.s, .int .i64 e.act.c, .int .i64 e.act.s, .int .i64 n, .int .i64 e.age], .int .i64 k] w fun r w' => r = .returned (.bool (bitB n k)) ∧ Below w.heap.size w w' := by
  go_enter Try.func19, Try.ntmps19
  go_wp2
  go_ret
  refine ⟨ret_bool ?_, ?_⟩
  · have h1 : n / 2 ^ k ≤ n := Nat.div_le_self _ _
    have h2 : ((n : Int) / 2 ^ k) = ((n / 2 ^ k : Nat) : Int) := by simp
    show (bits BinOp.and IntKind.i64 ((n : Int) / 2 ^ k) 1 == 1) = bitB n k
    rw [h2, and_one _ (by omega)]
    unfold bitB
    rw [Bool.eq_iff_iff]; simp; omega
  · go_grown
theorem duty_0 (e : En) (s : Int) (w : World) (h : ¬ (e.dead = true ∧ 0 ≤ s ∧ s < 12)) :
    Calls Try.prog 19 #[.agg #[.string e.key, .string e.val, .bool e.dead, .int .i64 e.st.c, .int .i64 e.st.s, .int .i64 e.act.c, .int .i64 e.act.s, .int .i64 e.keep, .int .i64 e.age], .int .i64 s] w fun r w' => r = .returned (.bool false) ∧ Below w.heap.size w w' := by
  cases hd : e.dead with
  | false =>
    clear h
    go_enter Try.func19, Try.ntmps19
    go_wp2
    go_ret
    refine ⟨rfl, ?_⟩
    go_grown
  | true =>
    by_cases h1 : 0 ≤ s
    · have h2 : ¬ s < 12 := fun h2 => h ⟨hd, h1, h2⟩
      clear h
      go_enter Try.func19, Try.ntmps19
      go_wp2
      go_ret
      refine ⟨rfl, ?_⟩
      go_grown
    · clear h
      go_enter Try.func19, Try.ntmps19
      go_wp2
      go_ret
      refine ⟨rfl, ?_⟩
      go_grown
theorem duty_any (e : En) (s : Int) (w : World) (h : e.dead = true → 1 ≤ e.keep ∧ e.keep ≤ 4095) :
    Calls Try.prog 19 #[.agg #[.string e.key, .string e.val, .bool e.dead, .int .i64 e.st.c, .int .i64 e.st.s, .int .i64 e.act.c, .int .i64 e.act.s, .int .i64 e.keep, .int .i64 e.age], .int .i64 s] w fun r w' => r = .returned (.bool (dutyB e s)) ∧ Below w.heap.size w w' := by
  unfold dutyB
  by_cases hc : e.dead = true ∧ 0 ≤ s ∧ s < 12
  · rw [if_pos hc]
    obtain ⟨hd, h1, h2⟩ := hc
    obtain ⟨h3, h4⟩ := h hd
    obtain ⟨n, hn⟩ := Int.eq_ofNat_of_zero_le (show 0 ≤ e.keep by omega)
    obtain ⟨k, hk⟩ := Int.eq_ofNat_of_zero_le h1
    rw [hn, hk]
    exact duty_1 e n k w hd (by omega) (by omega)
  · rw [if_neg hc]
    exact duty_0 e s w hc

theorem rduty_1 (e : En) (n k : Nat) (w : World) (hd : e.dead = true) (hn : n < 4096) (hn1 : 1 ≤ n) (hk : k < 12) :
    Calls Try.prog 21 #[.agg #[.string e.key, .string e.val, .bool e.dead, .int .i64 e.st.c, .int .i64 e.st.s, .int .i64 e.act.c, .int .i64 e.act.s, .int .i64 n, .int .i64 e.age], .int .i64 k] w fun r w' => r = .returned (.bool (bitB n k)) ∧ Below w.heap.size w w' := by
  have hs : siteB (k : Int) = true := by simp [siteB]; omega
  go_enter Try.func21, Try.ntmps21
  go_wp2_with (first
    | (go_at_call 59; refine (site_any _ _).mono ?_; rintro e w' ⟨rfl, rfl⟩)
    | (go_at_call 60; refine (bit_any n k _ (by omega) (by omega)).mono ?_; rintro e w' ⟨rfl, rfl⟩))
  go_ret
  refine ⟨rfl, ?_⟩
  go_grown
theorem rduty_0 (e : En) (s : Int) (w : World) (h : ¬ (e.dead = true ∧ 0 ≤ s ∧ s < 12)) :
    Calls Try.prog 21 #[.agg #[.string e.key, .string e.val, .bool e.dead, .int .i64 e.st.c, .int .i64 e.st.s, .int .i64 e.act.c, .int .i64 e.act.s, .int .i64 e.keep, .int .i64 e.age], .int .i64 s] w fun r w' => r = .returned (.bool false) ∧ Below w.heap.size w w' := by
  cases hd : e.dead with
  | false =>
    clear h
    go_enter Try.func21, Try.ntmps21
    go_wp2
    go_ret
    refine ⟨rfl, ?_⟩
    go_grown
  | true =>
    have hs : siteB s = false := by
      cases hb : siteB s with
      | false => rfl
      | true => exact absurd ⟨hd, by simpa [siteB] using hb⟩ h
    clear h
    go_enter Try.func21, Try.ntmps21
    go_wp2_with (go_at_call 59; refine (site_any _ _).mono ?_; rintro e w' ⟨rfl, rfl⟩)
    go_ret
    refine ⟨rfl, ?_⟩
    go_grown
theorem rduty_any (e : En) (s : Int) (w : World) (h : e.dead = true → 1 ≤ e.keep ∧ e.keep ≤ 4095) :
    Calls Try.prog 21 #[.agg #[.string e.key, .string e.val, .bool e.dead, .int .i64 e.st.c, .int .i64 e.st.s, .int .i64 e.act.c, .int .i64 e.act.s, .int .i64 e.keep, .int .i64 e.age], .int .i64 s] w fun r w' => r = .returned (.bool (dutyB e s)) ∧ Below w.heap.size w w' := by
  unfold dutyB
  by_cases hc : e.dead = true ∧ 0 ≤ s ∧ s < 12
  · rw [if_pos hc]
    obtain ⟨hd, h1, h2⟩ := hc
    obtain ⟨h3, h4⟩ := h hd
    obtain ⟨n, hn⟩ := Int.eq_ofNat_of_zero_le (show 0 ≤ e.keep by omega)
    obtain ⟨k, hk⟩ := Int.eq_ofNat_of_zero_le h1
    rw [hn, hk]
    exact rduty_1 e n k w hd (by omega) (by omega) (by omega)
  · rw [if_neg hc]
    exact rduty_0 e s w hc

def keepI (s r n : Int) : Int := if 1 ≤ n ∧ n ≤ 12 ∧ 0 ≤ s ∧ s < n ∧ 1 ≤ r ∧ r ≤ n then (keepF n.toNat s.toNat r.toNat : Nat) else 0
theorem keepers_all (s r n : Int) (w : World) :
    Calls Try.prog 16 #[.int .i64 s, .int .i64 r, .int .i64 n] w fun e w' => e = .returned (.int .i64 (keepI s r n)) ∧ w = w' := by
  unfold keepI
  by_cases h : 1 ≤ n ∧ n ≤ 12 ∧ 0 ≤ s ∧ s < n ∧ 1 ≤ r ∧ r ≤ n
  · rw [if_pos h]
    obtain ⟨h1, h2, h3, h4, h5, h6⟩ := h
    obtain ⟨a, rfl⟩ := Int.eq_ofNat_of_zero_le (show 0 ≤ n by omega)
    obtain ⟨b, rfl⟩ := Int.eq_ofNat_of_zero_le h3
    obtain ⟨c, rfl⟩ := Int.eq_ofNat_of_zero_le (show 0 ≤ r by omega)
    exact keepers_any b c a w (by omega) (by omega) (by omega) (by omega) (by omega)
  · rw [if_neg h]
    exact keepers_no s r n w h
theorem rkeepers_all (s r n : Int) (w : World) :
    Calls Try.prog 17 #[.int .i64 s, .int .i64 r, .int .i64 n] w fun e w' => e = .returned (.int .i64 (keepI s r n)) ∧ w = w' := by
  unfold keepI
  by_cases h : 1 ≤ n ∧ n ≤ 12 ∧ 0 ≤ s ∧ s < n ∧ 1 ≤ r ∧ r ≤ n
  · rw [if_pos h]
    obtain ⟨h1, h2, h3, h4, h5, h6⟩ := h
    obtain ⟨a, rfl⟩ := Int.eq_ofNat_of_zero_le (show 0 ≤ n by omega)
    obtain ⟨b, rfl⟩ := Int.eq_ofNat_of_zero_le h3
    obtain ⟨c, rfl⟩ := Int.eq_ofNat_of_zero_le (show 0 ≤ r by omega)
    rw [show ((keepF (a : Int).toNat (b : Int).toNat (c : Int).toNat : Nat) : Int) = ((rkeepF a b c a : Nat) : Int) by rw [← keep_eq a (by omega) b (by omega) c (by omega)]; rfl]
    exact rkeepers_any b c a w (by omega) (by omega) (by omega) (by omega) (by omega)
  · rw [if_neg h]
    exact rkeepers_no s r n w h

theorem speaks05_any (w : World) :
    Calls Try.prog 15 #[] w fun e w' => e = .returned (.bool true) ∧ w = w' := by
  have hk : keepI 10 3 12 = 3073 := by decide
  go_enter Try.func15, Try.ntmps15
  go_wp2_with (go_at_call 16; refine (keepers_all _ _ _ _).mono ?_; rintro e w' ⟨rfl, rfl⟩)
  go_ret
  exact ⟨rfl, rfl⟩

attribute [irreducible] keepI dutyB

theorem chk_keep {e : En} (h : chkI e = 0) : e.dead = true → 1 ≤ e.keep ∧ e.keep ≤ 4095 := by
  grind [chkI]

set_option maxHeartbeats 1000000 in
set_option maxRecDepth 100000 in
theorem walk_keepers (s r n : Int) (e : En) (w : World) :
    Calls Try.prog 3 #[.int .i64 s, .int .i64 r, .int .i64 n, .agg #[.string e.key, .string e.val, .bool e.dead, .int .i64 e.st.c, .int .i64 e.st.s, .int .i64 e.act.c, .int .i64 e.act.s, .int .i64 e.keep, .int .i64 e.age]] w fun r w' => r = .returned (.bool true) ∧ Below w.heap.size w w' := by
  by_cases hc : chkI e = 0
  · have hk := chk_keep hc
    have hc' : (chkI e != 0) = false := by simpa using hc
    have HK := Lib.hid hk
    clear hk
    have HC := Lib.hid hc
    clear hc
    go_enter Try.func3, Try.ntmps3
    go_wp2
    refine Seq.wp_region_seq (by kernel_rfl) (Seq.Keeps (w.heap.size + 1) [] _) [0, 5, 9, 14, 18, 20, 23] (by kernel_rfl) (Seq.Keeps.refl (by simp)).drew (fun hKp => ?_)
    repeat' ((with_reducible refine Seq.wpSeq_id ?_); first
      | (refine Seq.wpSeq_skip rfl ?_; simp only [Act.put, Nat.reduceAdd, List.setIfInBounds_toArray, List.set_cons_zero, List.set_cons_succ])
      | (refine Seq.wpSeq_move (v := .bool true) rfl rfl rfl rfl ?_; simp only [Act.put, Nat.reduceAdd, List.setIfInBounds_toArray, List.set_cons_zero, List.set_cons_succ])
      | (refine Seq.wpSeq_move (v := .bool false) rfl rfl rfl rfl ?_; simp only [Act.put, Nat.reduceAdd, List.setIfInBounds_toArray, List.set_cons_zero, List.set_cons_succ])
      | (refine Seq.wpSeq_move rfl rfl rfl rfl ?_; simp only [Act.put, Nat.reduceAdd, List.setIfInBounds_toArray, List.set_cons_zero, List.set_cons_succ])
      | (refine Seq.wpSeq_assign rfl rfl rfl rfl ?_; simp only [Act.put, Nat.reduceAdd, List.setIfInBounds_toArray, List.set_cons_zero, List.set_cons_succ])
      | (refine Seq.wpSeq_eff rfl rfl (fun K hK => ?_); go_wp2_with (first | (go_at_call 15; refine (speaks05_any _).mono ?_; rintro e w' ⟨rfl, rfl⟩) | (go_at_call 16; refine (keepers_all _ _ _ _).mono ?_; rintro e w' ⟨rfl, rfl⟩) | (go_at_call 17; refine (rkeepers_all _ _ _ _).mono ?_; rintro e w' ⟨rfl, rfl⟩) | (go_at_call 18; refine (rchk_any e _).mono ?_; rintro e w1 ⟨rfl, hb⟩; (first | (have hB := Below.trans hB (Below.mono hb hB.size)) | (have hB := hb)); obtain ⟨hcl, hfl⟩ := bcell hB) | (go_at_call 20; refine (of05_any e _).mono ?_; rintro e w1 ⟨rfl, hb⟩; (first | (have hB := Below.trans hB (Below.mono hb hB.size)) | (have hB := hb)); obtain ⟨hcl, hfl⟩ := bcell hB) | (go_at_call 19; refine (duty_any e _ _ HK.out).mono ?_; rintro e w1 ⟨rfl, hb⟩; (first | (have hB := Below.trans hB (Below.mono hb hB.size)) | (have hB := hb)); obtain ⟨hcl, hfl⟩ := bcell hB) | (go_at_call 21; refine (rduty_any e _ _ HK.out).mono ?_; rintro e w1 ⟨rfl, hb⟩; (first | (have hB := Below.trans hB (Below.mono hb hB.size)) | (have hB := hb)); obtain ⟨hcl, hfl⟩ := bcell hB)); refine hK _ _ ?_ (fun hKp => ?_); (focus (repeat (first | (with_reducible exact hKp) | (with_reducible refine Seq.Keeps.setCell ?_ (.inl (by simp)) _) | (with_reducible refine Seq.Keeps.alloc ?_ _) | (with_reducible refine Seq.Keeps.drew ?_) | (with_reducible exact Seq.Keeps.below hKp (by simp) hb)))); clear hK K; simp only [Act.put, Nat.reduceAdd, List.setIfInBounds_toArray, List.set_cons_zero, List.set_cons_succ])
      | (refine Seq.wpSeq_read' ?_ rfl rfl (fun w' hw' => ?_) ?_; rotate_left; (focus (have hk := hw'.cell; go_simp; all_goals with_reducible rfl)); simp only [Act.put, Nat.reduceAdd, List.setIfInBounds_toArray, List.set_cons_zero, List.set_cons_succ])
      | (refine Seq.wpSeq_nil (fun hKp => ?_)))
    go_wp2
    go_ret
    refine ⟨rfl, ?_⟩
    first
      | (go_grown; done)
      | ((repeat (with_reducible refine Below.setCell ?_ (by simp) _)); refine Below.trans ?_ (Below.mono hB (by first | (simp; done) | (simp; omega))); go_grown)
  · have hc' : (chkI e != 0) = true := by simpa using hc
    have HC := Lib.hid hc
    clear hc
    go_enter Try.func3, Try.ntmps3
    go_wp2
    refine Seq.wp_region_seq (by kernel_rfl) (Seq.Keeps (w.heap.size + 1) [] _) [0, 5, 9, 14, 18, 20, 23] (by kernel_rfl) (Seq.Keeps.refl (by simp)).drew (fun hKp => ?_)
    repeat' ((with_reducible refine Seq.wpSeq_id ?_); first
      | (refine Seq.wpSeq_skip rfl ?_; simp only [Act.put, Nat.reduceAdd, List.setIfInBounds_toArray, List.set_cons_zero, List.set_cons_succ])
      | (refine Seq.wpSeq_move (v := .bool true) rfl rfl rfl rfl ?_; simp only [Act.put, Nat.reduceAdd, List.setIfInBounds_toArray, List.set_cons_zero, List.set_cons_succ])
      | (refine Seq.wpSeq_move (v := .bool false) rfl rfl rfl rfl ?_; simp only [Act.put, Nat.reduceAdd, List.setIfInBounds_toArray, List.set_cons_zero, List.set_cons_succ])
      | (refine Seq.wpSeq_move rfl rfl rfl rfl ?_; simp only [Act.put, Nat.reduceAdd, List.setIfInBounds_toArray, List.set_cons_zero, List.set_cons_succ])
      | (refine Seq.wpSeq_assign rfl rfl rfl rfl ?_; simp only [Act.put, Nat.reduceAdd, List.setIfInBounds_toArray, List.set_cons_zero, List.set_cons_succ])
      | (refine Seq.wpSeq_eff rfl rfl (fun K hK => ?_); go_wp2_with (first | (go_at_call 15; refine (speaks05_any _).mono ?_; rintro e w' ⟨rfl, rfl⟩) | (go_at_call 16; refine (keepers_all _ _ _ _).mono ?_; rintro e w' ⟨rfl, rfl⟩) | (go_at_call 17; refine (rkeepers_all _ _ _ _).mono ?_; rintro e w' ⟨rfl, rfl⟩) | (go_at_call 18; refine (rchk_any e _).mono ?_; rintro e w1 ⟨rfl, hb⟩; (first | (have hB := Below.trans hB (Below.mono hb hB.size)) | (have hB := hb)); obtain ⟨hcl, hfl⟩ := bcell hB)); refine hK _ _ ?_ (fun hKp => ?_); (focus (repeat (first | (with_reducible exact hKp) | (with_reducible refine Seq.Keeps.setCell ?_ (.inl (by simp)) _) | (with_reducible refine Seq.Keeps.alloc ?_ _) | (with_reducible refine Seq.Keeps.drew ?_) | (with_reducible exact Seq.Keeps.below hKp (by simp) hb)))); clear hK K; simp only [Act.put, Nat.reduceAdd, List.setIfInBounds_toArray, List.set_cons_zero, List.set_cons_succ])
      | (refine Seq.wpSeq_read' ?_ rfl rfl (fun w' hw' => ?_) ?_; rotate_left; (focus (have hk := hw'.cell; go_simp; all_goals with_reducible rfl)); simp only [Act.put, Nat.reduceAdd, List.setIfInBounds_toArray, List.set_cons_zero, List.set_cons_succ])
      | (refine Seq.wpSeq_nil (fun hKp => ?_)))
    go_wp2
    go_ret
    refine ⟨rfl, ?_⟩
    first
      | (go_grown; done)
      | ((repeat (with_reducible refine Below.setCell ?_ (by simp) _)); refine Below.trans ?_ (Below.mono hB (by first | (simp; done) | (simp; omega))); go_grown)

set_option maxRecDepth 100000 in
theorem lifted_keepers (os : Os) (started : os.Started) (H : Type) (enc : TypeId × Value → H) :
    ReturnsInHanded {} Try.checked os 3 .any (Rows.entryKeepersSpec.pre6 enc Try.prog Try.f3 Rows.entryKeepersRow.domain false) (Rows.entryKeepersSpec.post enc Try.prog Try.f3 false true false false) := by
  refine returnsInHanded_of_change (C := Try.checked) own started (by kernel_rfl) Try.func3
    (ChangeSpec.witness6 (enc := enc) (C := Try.checked) false ⟨#[], #[.int .i64 0, .int .i64 0, .int .i64 0, .agg #[.string ByteArray.empty, .string ByteArray.empty, .bool false, .int .i64 0, .int .i64 0, .int .i64 0, .int .i64 0, .int .i64 0, .int .i64 0]], []⟩ 8 (by kernel_rfl) (by kernel_rfl) (by kernel_rfl) (by kernel_rfl)) ?_
  intro W base args ds gs before hval0 hW hcnd _
  have hval : ∀ (j : Nat) t v, Try.f3.params[j]? = some t → args[j]? = some v → Value.okWide Try.prog W .any base t v := hval0
  have hW' := hW
  obtain ⟨p, q, hA0, hV, rfl, hfz, hnd⟩ := hW
  have hA : DataW.TrodAll enc Try.prog W 0 (fun _ => true) true Try.f3.params.toList args.toList ds p := hA0
  rw [Try.params3] at hA hval
  obtain ⟨v0, vs0, d0, ds0, p0, q0, hargs, rfl, rfl, h0, r0⟩ := trodAll_cons hA
  obtain ⟨v1, vs1, d1, ds1, p1, q1, rfl, rfl, rfl, h1, r1⟩ := trodAll_cons r0
  obtain ⟨v2, vs2, d2, ds2, p2, q2, rfl, rfl, rfl, h2, r2⟩ := trodAll_cons r1
  obtain ⟨v3, vs3, d3, ds3, p3, q3, rfl, rfl, rfl, h3, r3⟩ := trodAll_cons r2
  obtain ⟨rfl, rfl, rfl⟩ := trodAll_nil r3
  obtain rfl : args = #[v0, v1, v2, v3] := by cases args; simp_all
  obtain ⟨rfl, rfl⟩ := trodVars_none hV
  have lt0 : ∀ x ∈ p0, x.block < W.heap.size := by obtain ⟨m, hm⟩ := h0; exact DataW.trod_lt m _ _ _ hm
  have lt1 : ∀ x ∈ p1, x.block < W.heap.size := by obtain ⟨m, hm⟩ := h1; exact DataW.trod_lt m _ _ _ hm
  have lt2 : ∀ x ∈ p2, x.block < W.heap.size := by obtain ⟨m, hm⟩ := h2; exact DataW.trod_lt m _ _ _ hm
  have lt3 : ∀ x ∈ p3, x.block < W.heap.size := by obtain ⟨m, hm⟩ := h3; exact DataW.trod_lt m _ _ _ hm
  have k0 := h0
  have k1 := h1
  have k2 := h2
  have k3 := h3
  obtain ⟨a0, rfl, -, -, w0⟩ := open_int Try.underlying3 (hval 0 3 v0 rfl rfl) h0
  obtain ⟨a1, rfl, -, -, w1⟩ := open_int Try.underlying3 (hval 1 3 v1 rfl rfl) h1
  obtain ⟨a2, rfl, -, -, w2⟩ := open_int Try.underlying3 (hval 2 3 v2 rfl rfl) h2
  obtain ⟨e, rfl, ok3⟩ := open_en (hval 3 25 v3 rfl rfl) h3
  clear hA0 hval0
  refine (walk_keepers a0 a1 a2 e W).mono fun r W' ⟨he, bel⟩ => ?_
  subst he
  exact ⟨_, rfl, _, _, _, [], _, [], hW', trodAll_mk1 (shut_bool Try.underlying4 _),
    (trodAll_cons_mk (Below.trod laidOut (by kernel_rfl) (of_decide_eq_true (by kernel_rfl)) k0 bel lt0) (trodAll_cons_mk (Below.trod laidOut (by kernel_rfl) (of_decide_eq_true (by kernel_rfl)) k1 bel lt1) (trodAll_cons_mk (Below.trod laidOut (by kernel_rfl) (of_decide_eq_true (by kernel_rfl)) k2 bel lt2) (trodAll_cons_mk (Below.trod laidOut (by kernel_rfl) (of_decide_eq_true (by kernel_rfl)) k3 bel lt3) trodAll_mk0)))),
    rfl, bel.frame _, fun h => by cases h⟩

theorem keepers_holds : Rows.EntryKeepersSaid :=
  OpenClaim.holds_of_wide 3 Try.f3 rfl rfl rfl rfl rfl rfl rfl ⟨rfl, rfl, rfl, rfl, rfl⟩ rfl rfl rfl rfl rfl (by kernel_rfl) Try.func3 (by kernel_rfl)
    (of_decide_eq_true (by kernel_rfl)) (by unfold Func.isWrapper; first | (rw [if_pos (by decide +kernel)]; kernel_rfl) | (rw [if_neg (by decide +kernel)]; exact ⟨rfl, rfl⟩))
    (fun os started H enc _ => lifted_keepers os started H enc)
#print axioms keepers_holds
end Go.Proofs.Ytjcjmeeajkdlhaa
