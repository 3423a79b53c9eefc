/- Contracts of a clock's functions. -/
import Derived.Test.YtjcjmeeajkdlhaaRows
import Derived.Test.YtjcjmeeajkdlhaaStamp
import Derived.Test.YtjcjmeeajkdlhaaBlk
import Derived.Test.YtjcjmeeajkdlhaaSeq
namespace Go.Proofs.Ytjcjmeeajkdlhaa
open Go.RowKit

/-- A clock at block b: its counter, its site. -/
def Clk (w : World) (b : Nat) (n s : Int) : Prop := Blk w b [.int .i64 n, .int .i64 s] 120

theorem load_any (b : Nat) (n s : Int) (w : World) (h : Clk w b n s) :
    Calls Try.prog 63 #[.pointer (some ⟨b, 0, none⟩)] w fun e w' => e = .returned (.int .i64 n) ∧ w = w' := by
  have c0 := Blk.cell h 0 rfl
  clear h
  have hl := run_call_load (P := Try.prog) Try.func75 (by kernel_rfl) (by kernel_rfl) (by kernel_rfl) .i64 (by kernel_rfl) c0
  go_enter Try.func63, Try.ntmps63
  go_wp2
  go_ret
  exact ⟨rfl, rfl⟩
theorem cas_any (b : Nat) (n s m : Int) (w : World) (h : Clk w b n s) :
    Calls Try.prog 64 #[.pointer (some ⟨b, 0, none⟩), .int .i64 n, .int .i64 m] w fun e w' => e = .returned (.bool true) ∧ w.setCell ⟨b, 0, none⟩ (.int .i64 m) = w' := by
  have c0 := Blk.cell h 0 rfl
  have f0 := Blk.free h 0
  clear h
  have hl := run_call_cas_hit (P := Try.prog) Try.func76 (by kernel_rfl) (by kernel_rfl) (by kernel_rfl) .i64 (by kernel_rfl) (y := m) c0 f0
  go_enter Try.func64, Try.ntmps64
  go_wp2
  go_ret
  exact ⟨rfl, rfl⟩
theorem store_any (b : Nat) (n s m : Int) (w : World) (h : Clk w b n s) :
    Calls Try.prog 62 #[.pointer (some ⟨b, 0, none⟩), .int .i64 m] w fun e w' => e = .returned (.tuple #[]) ∧ w.setCell ⟨b, 0, none⟩ (.int .i64 m) = w' := by
  have c0 := Blk.cell h 0 rfl
  have f0 := Blk.free h 0
  clear h
  have hl := run_call_store (P := Try.prog) Try.func74 (by kernel_rfl) (by kernel_rfl) (by kernel_rfl) (by kernel_rfl) (k := .i64) (y := m) c0 f0
  go_enter Try.func62, Try.ntmps62
  go_wp2
  go_end0
  exact ⟨rfl, rfl⟩

def NewPost (s f : Int) (w : World) (e : Ending) (w' : World) : Prop :=
  ∃ b, e = .returned (.tuple #[.pointer (some ⟨b, 0, none⟩), .int .i64 0]) ∧ w.heap.size ≤ b ∧ Clk w' b f s ∧ Below w.heap.size w w'
theorem new_ok (s f : Int) (w : World) (h1 : 0 ≤ s) (h2 : s < 12) (h3 : 0 ≤ f) (h4 : f ≤ 4294967295) :
    Calls Try.prog 36 #[.int .i64 s, .int .i64 f] w (NewPost s f w) := by
  have hc : Clk (w.alloc (.cells #[.int .i64 0, .int .i64 s] 120)) w.heap.size 0 s := Blk.new w _ _
  have HC := Lib.hid hc
  clear hc
  go_enter Try.func36, Try.ntmps36
  go_wp2_with (go_at_call 62; refine (store_any w.heap.size 0 s f _ HC.out).mono ?_; rintro e w' ⟨rfl, rfl⟩)
  go_ret2
  exact ⟨w.heap.size, rfl, Nat.le_refl _, Blk.new w _ _, (Below.refl _ _).alloc (Nat.le_refl _) _⟩
theorem new_site (s f : Int) (w : World) (h : ¬ (0 ≤ s ∧ s < 12)) :
    Calls Try.prog 36 #[.int .i64 s, .int .i64 f] w fun e w' => e = .returned (.tuple #[.pointer none, .int .i64 1]) ∧ w = w' := by
  by_cases hc1 : 0 ≤ s
  · by_cases hc2 : s < 12
    · first
        | (exfalso; omega)
        | (clear h
           go_enter Try.func36, Try.ntmps36
           go_wp2
           go_ret2
           exact ⟨rfl, rfl⟩)
    · first
        | (exfalso; omega)
        | (clear h
           go_enter Try.func36, Try.ntmps36
           go_wp2
           go_ret2
           exact ⟨rfl, rfl⟩)
  · first
      | (exfalso; omega)
      | (clear h
         go_enter Try.func36, Try.ntmps36
         go_wp2
         go_ret2
         exact ⟨rfl, rfl⟩)
theorem new_from (s f : Int) (w : World) (h1 : 0 ≤ s) (h2 : s < 12) (h : ¬ (0 ≤ f ∧ f ≤ 4294967295)) :
    Calls Try.prog 36 #[.int .i64 s, .int .i64 f] w fun e w' => e = .returned (.tuple #[.pointer none, .int .i64 2]) ∧ w = w' := by
  by_cases hc1 : 0 ≤ f
  · by_cases hc2 : f ≤ 4294967295
    · first
        | (exfalso; omega)
        | (clear h
           go_enter Try.func36, Try.ntmps36
           go_wp2
           go_ret2
           exact ⟨rfl, rfl⟩)
    · first
        | (exfalso; omega)
        | (clear h
           go_enter Try.func36, Try.ntmps36
           go_wp2
           go_ret2
           exact ⟨rfl, rfl⟩)
  · first
      | (exfalso; omega)
      | (clear h
         go_enter Try.func36, Try.ntmps36
         go_wp2
         go_ret2
         exact ⟨rfl, rfl⟩)

theorem now_any (b : Nat) (n s : Int) (w : World) (h : Clk w b n s) (h1 : 0 ≤ n) (h2 : n ≤ 4294967295) :
    Calls Try.prog 42 #[.pointer (some ⟨b, 0, none⟩)] w fun e w' => e = .returned (.int .i64 n) ∧ w = w' := by
  have H := Lib.hid h
  clear h
  go_enter Try.func42, Try.ntmps42
  go_wp2_with (go_at_call 63; refine (load_any b n s _ H.out).mono ?_; rintro e w' ⟨rfl, rfl⟩)
  go_ret
  exact ⟨rfl, rfl⟩
theorem csite_any (b : Nat) (n s : Int) (w : World) (h : Clk w b n s) :
    Calls Try.prog 47 #[.pointer (some ⟨b, 0, none⟩)] w fun e w' => e = .returned (.int .i64 s) ∧ w = w' := by
  have c1 := Blk.cell h 1 rfl
  clear h
  go_enter Try.func47, Try.ntmps47
  go_wp2
  go_ret
  exact ⟨rfl, rfl⟩

def MovePost (b : Nat) (v : Value) (n s : Int) (w : World) (e : Ending) (w' : World) : Prop :=
  e = .returned v ∧ Clk w' b n s ∧ w.grownBy w' (some b)

theorem next_spent (b : Nat) (n s : Int) (w : World) (h : Clk w b n s) (h1 : 4294967295 ≤ n) :
    Calls Try.prog 41 #[.pointer (some ⟨b, 0, none⟩)] w (MovePost b (.tuple #[.agg #[.int .i64 0, .int .i64 0], .int .i64 8]) n s w) := by
  have hlt := Blk.lt h
  have h2 : Clk (w.alloc (.cells #[.int .i64 0, .int .i64 0] 30)) b n s := Blk.alloc h _
  have H := Lib.hid h
  have H2 := Lib.hid h2
  clear h h2
  go_enter Try.func41, Try.ntmps41
  go_wp2
  refine wp_loop_once ?_
  go_wp2_with (go_at_call 63; refine (load_any b n s _ H2.out).mono ?_; rintro e w' ⟨rfl, rfl⟩)
  refine bodyPost_ret (v := .tuple #[.agg #[.int .i64 0, .int .i64 0], .int .i64 8]) (by simp [results, Try.results41, go_sem]) rfl ?_
  exact ⟨rfl, H2.out, grown_alloc (grown_refl _ _) _⟩

theorem next_ok (b : Nat) (n s : Int) (w : World) (h : Clk w b n s) (h0 : 0 ≤ n) (h1 : n < 4294967295) :
    Calls Try.prog 41 #[.pointer (some ⟨b, 0, none⟩)] w (MovePost b (.tuple #[.agg #[.int .i64 (n + 1), .int .i64 s], .int .i64 0]) (n + 1) s w) := by
  have hlt := Blk.lt h
  have h2 : Clk (w.alloc (.cells #[.int .i64 0, .int .i64 0] 30)) b n s := Blk.alloc h _
  have c1 := Blk.cell h 1 rfl
  have hne : w.heap.size ≠ b := by omega
  have H := Lib.hid h
  have H2 := Lib.hid h2
  clear h h2
  go_enter Try.func41, Try.ntmps41
  go_wp2
  refine wp_loop_once ?_
  go_wp2_with (first
    | (go_at_call 63; refine (load_any b n s _ H2.out).mono ?_; rintro e w' ⟨rfl, rfl⟩)
    | (go_at_call 64; refine (cas_any b n s _ _ H2.out).mono ?_; rintro e w' ⟨rfl, rfl⟩))
  refine bodyPost_ret (v := .tuple #[.agg #[.int .i64 (n + 1), .int .i64 s], .int .i64 0]) (by simp [results, Try.results41, go_sem]) rfl ?_
  exact ⟨rfl, Blk.alloc (Blk.set H.out 0 _) _, grown_alloc (grown_set (grown_refl _ _) (.inl rfl) _) _⟩

def riseB (n : Int) (x : St) : Bool := goodB x && decide (n < x.c)
def seeN (n : Int) (x : St) : Int := if riseB n x = true then x.c else n

theorem see_any (b : Nat) (n s : Int) (x : St) (w : World) (h : Clk w b n s) :
    Calls Try.prog 37 #[.pointer (some ⟨b, 0, none⟩), .agg #[.int .i64 x.c, .int .i64 x.s]] w (MovePost b (.bool (riseB n x)) (seeN n x) s w) := by
  have hlt := Blk.lt h
  have h2 : Clk (w.alloc (.cells #[.int .i64 x.c, .int .i64 x.s] 30)) b n s := Blk.alloc h _
  have hne : w.heap.size ≠ b := by omega
  have H2 := Lib.hid h2
  clear h h2
  cases hg : goodB x with
  | false =>
    have e1 : riseB n x = false := by simp [riseB, hg]
    have e2 : seeN n x = n := by simp [seeN, e1]
    rw [e1, e2]
    clear e1 e2
    go_enter Try.func37, Try.ntmps37
    go_wp2_with (go_at_call 51; refine (good_any _ _).mono ?_; rintro e w1 ⟨rfl, hb⟩; (first | (have hB := Below.trans hB (Below.mono hb hB.size)) | (have hB := hb)); obtain ⟨hcl, hfl⟩ := bcell hB)
    go_ret
    exact ⟨rfl, Blk.below H2.out hB (by simp; omega), grown_below (grown_alloc (grown_refl _ _) _) hB (by simp)⟩
  | true =>
    by_cases hn : n < x.c
    · have e1 : riseB n x = true := by simp [riseB, hg, hn]
      have e2 : seeN n x = x.c := by simp [seeN, e1]
      rw [e1, e2]
      clear e1 e2
      go_enter Try.func37, Try.ntmps37
      go_wp2_with (go_at_call 51; refine (good_any _ _).mono ?_; rintro e w1 ⟨rfl, hb⟩; (first | (have hB := Below.trans hB (Below.mono hb hB.size)) | (have hB := hb)); obtain ⟨hcl, hfl⟩ := bcell hB)
      have h3 : Clk w1 b n s := Blk.below H2.out hB (by simp; omega)
      have H3 := Lib.hid h3
      clear h3
      refine wp_loop_once ?_
      go_wp2_with (first
        | (go_at_call 63; refine (load_any b n s _ H3.out).mono ?_; rintro e w' ⟨rfl, rfl⟩))
      have hz : w.heap.size < w1.heap.size := by have := hB.size; simp at this; omega
      refine Seq.wp_region_seq (by kernel_rfl) (Seq.Keeps (w.heap.size + 1) [b] _) [6] (by kernel_rfl) (Seq.Keeps.refl (by first | (simp; done) | (have h9 := hB.size; simp at h9 ⊢; omega))).drew (fun hKp => ?_)
      repeat' ((with_reducible refine Seq.wpSeq_id ?_); first
        | (refine Seq.wpSeq_skip rfl ?_; simp only [Act.put, Nat.reduceAdd, List.setIfInBounds_toArray, List.set_cons_zero, List.set_cons_succ])
        | (refine Seq.wpSeq_move (v := .bool true) rfl rfl rfl rfl ?_; simp only [Act.put, Nat.reduceAdd, List.setIfInBounds_toArray, List.set_cons_zero, List.set_cons_succ])
        | (refine Seq.wpSeq_move (v := .bool false) rfl rfl rfl rfl ?_; simp only [Act.put, Nat.reduceAdd, List.setIfInBounds_toArray, List.set_cons_zero, List.set_cons_succ])
        | (refine Seq.wpSeq_move' ?_ rfl rfl rfl ?_ ?_; rotate_left; (focus (go_simp; all_goals with_reducible rfl)); simp only [Act.put, Nat.reduceAdd, List.setIfInBounds_toArray, List.set_cons_zero, List.set_cons_succ])
        | (refine Seq.wpSeq_assign' ?_ rfl rfl rfl ?_ ?_; rotate_left; (focus (go_simp; all_goals with_reducible rfl)); simp only [Act.put, Nat.reduceAdd, List.setIfInBounds_toArray, List.set_cons_zero, List.set_cons_succ])
        | (refine Seq.wpSeq_eff rfl rfl (fun K hK => ?_); go_wp2_with (first | (go_at_call 64; refine (cas_any b n s _ _ (Blk.drew H3.out)).mono ?_; rintro e w' ⟨rfl, rfl⟩) | fail); refine hK _ _ ?_ (fun hKp => ?_); (focus (repeat (first | (with_reducible exact hKp) | (with_reducible exact Seq.Keeps.undrew hKp) | (with_reducible refine Seq.Keeps.setCell ?_ (.inl ?_) _; rotate_left; (focus (simp; done))) | (with_reducible refine Seq.Keeps.alloc ?_ _) | (with_reducible refine Seq.Keeps.drew ?_) | (with_reducible exact Seq.Keeps.below hKp (by simp) hb) | (with_reducible exact Seq.Keeps.below (Seq.Keeps.undrew hKp) (by simp) hb)))); clear hK K; simp only [Act.put, Nat.reduceAdd, List.setIfInBounds_toArray, List.set_cons_zero, List.set_cons_succ])
        | (refine Seq.wpSeq_read' ?_ rfl rfl (fun w' hw' => ?_) ?_; rotate_left; (focus (have hk := hw'.cell; go_simp; all_goals with_reducible rfl)); simp only [Act.put, Nat.reduceAdd, List.setIfInBounds_toArray, List.set_cons_zero, List.set_cons_succ])
        | (refine Seq.wpSeq_nil (fun hKp => ?_)))
      go_wp2
      go_ret
      exact ⟨rfl, Blk.drew (Blk.set H3.out 0 _), grown_drew (grown_set (grown_below (grown_alloc (grown_refl _ _) _) hB (by simp)) (.inl rfl) _)⟩
    · have e1 : riseB n x = false := by simp [riseB, hg]; omega
      have e2 : seeN n x = n := by simp [seeN, e1]
      rw [e1, e2]
      clear e1 e2
      go_enter Try.func37, Try.ntmps37
      go_wp2_with (go_at_call 51; refine (good_any _ _).mono ?_; rintro e w1 ⟨rfl, hb⟩; (first | (have hB := Below.trans hB (Below.mono hb hB.size)) | (have hB := hb)); obtain ⟨hcl, hfl⟩ := bcell hB)
      have h3 : Clk w1 b n s := Blk.below H2.out hB (by simp; omega)
      have H3 := Lib.hid h3
      clear h3
      refine wp_loop_once ?_
      go_wp2_with (first
        | (go_at_call 63; refine (load_any b n s _ H3.out).mono ?_; rintro e w' ⟨rfl, rfl⟩))
      go_ret
      exact ⟨rfl, H3.out, grown_below (grown_alloc (grown_refl _ _) _) hB (by simp)⟩
theorem Clk.lt {w : World} {b : Nat} {n s : Int} (h : Clk w b n s) : b < w.heap.size := Blk.lt h
theorem Clk.alloc {w : World} {b : Nat} {n s : Int} (h : Clk w b n s) (o : Obj) : Clk (w.alloc o) b n s := Blk.alloc h o
theorem Clk.drew {w : World} {b : Nat} {n s : Int} (h : Clk w b n s) : Clk w.drew b n s := h
theorem Clk.below {w : World} {b : Nat} {n s : Int} (h : Clk w b n s) {B : Nat} {w' : World} (hb : Below B w w') (hlt : b < B) : Clk w' b n s := Blk.below h hb hlt
theorem Clk.grown {w : World} {b : Nat} {n s : Int} (h : Clk w b n s) {w' : World} {r : Option Nat} (hg : w.grownBy w' r) (hne : some b ≠ r) : Clk w' b n s := Blk.grown h hg hne
theorem Clk.set_other {w : World} {b : Nat} {n s : Int} (h : Clk w b n s) {p : Addr} (hp : p.block ≠ b) (u : Value) : Clk (w.setCell p u) b n s := Blk.set_other h hp u
attribute [irreducible] riseB seeN Clk
set_option maxHeartbeats 1000000 in
theorem speaks04_any (w : World) :
    Calls Try.prog 35 #[] w fun e w' => e = .returned (.bool true) ∧ Below w.heap.size w w' := by
  have s1 : seeN 6 ⟨9, 0⟩ = 9 := by simp [seeN, riseB, goodB]
  go_enter Try.func35, Try.ntmps35
  go_wp2_with fail
  refine (new_ok 2 5 _ (by decide) (by decide) (by decide) (by decide)).mono ?_
  rintro e w1 ⟨b, rfl, hbB, hc1, hb1⟩
  have hz1 := hc1.lt
  have HC1 := Lib.hid hc1
  clear hc1
  go_wp2_with fail
  refine (next_ok b 5 2 _ HC1.out (by decide) (by decide)).mono ?_
  rintro e w2 ⟨rfl, hc2, hg2⟩
  have hz2 := hc2.lt
  have hne2 : w2.heap.size ≠ b := by omega
  have HC2 := Lib.hid hc2
  clear hc2
  go_wp2_with fail
  refine (see_any b 6 2 ⟨9, 0⟩ _ (HC2.out.alloc _)).mono ?_
  rintro e w3 ⟨rfl, hc3, hg3⟩
  rw [s1] at hc3
  obtain ⟨gc3, gf3⟩ := gcell hg3
  have hz3 := hc3.lt
  have hz3' := hg3.size
  have HC3 := Lib.hid hc3
  clear hc3
  go_wp2_with fail
  refine (next_ok b 9 2 _ HC3.out (by decide) (by decide)).mono ?_
  rintro e w4 ⟨rfl, hc4, hg4⟩
  obtain ⟨gc4, gf4⟩ := gcell hg4
  have hz4 : w2.heap.size < w3.heap.size := by simp at hz3'; omega
  have hz5 : w2.heap.size < w4.heap.size := by have := hg4.size; omega
  have hz6 : w2.heap.size ≠ w4.heap.size := by omega
  go_wp2_with fail
  go_ret
  refine ⟨rfl, Below.alloc ?_ (by have := hb1.size; have := hg2.size; have := hg4.size; omega) _⟩
  refine below_grown (below_grown (Below.alloc (below_grown hb1 hg2 hb1.size hbB) (by have := hb1.size; have := hg2.size; omega) _) hg3 (by have := hb1.size; have := hg2.size; simp; omega) hbB) hg4 (by have := hb1.size; have := hg2.size; omega) hbB
end Go.Proofs.Ytjcjmeeajkdlhaa
