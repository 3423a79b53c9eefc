/- The walk of CrcEvens. -/
import Derived.Test.YtnadhhmlehifnaaCo7
import Derived.Test.YtnadhhmlehifnaaCk
namespace Go.Crc
set_option linter.unusedSimpArgs false
set_option linter.unusedVariables false
set_option maxHeartbeats 4000000
open Go Go.Am
/-- Three rows of bytes, as long as one another, xored: what has been made so far, zeros behind. -/
def x3 (a b c : List Int) (i : Nat) : Int := bits .xor .u8 (bits .xor .u8 (a.getD i 0) (b.getD i 0)) (c.getD i 0)
def xs3 (a b c : List Int) (n i : Nat) : List Int := (List.range i).map (x3 a b c) ++ List.replicate (n - i) 0
theorem xs3_len (a b c : List Int) {n i : Nat} (h : i ≤ n) : (xs3 a b c n i).length = n := by simp [xs3]; omega
theorem xs3_zero (a b c : List Int) (n : Nat) : xs3 a b c n 0 = List.replicate n 0 := by simp [xs3]
theorem xs3_set (a b c : List Int) {n i : Nat} (h : i < n) : (xs3 a b c n i).set i (x3 a b c i) = xs3 a b c n (i + 1) := by
  unfold xs3
  obtain ⟨k, hk⟩ : ∃ k, n - i = k + 1 := ⟨n - i - 1, by omega⟩
  have hk2 : n - (i + 1) = k := by omega
  rw [List.set_append_right _ _ (by simp), hk, hk2, List.range_succ, List.map_append]
  simp [List.replicate_succ]
theorem x3_ok {a b c : List Int} (ha : ∀ x ∈ a, 0 ≤ x ∧ x ≤ 255) (hb : ∀ x ∈ b, 0 ≤ x ∧ x ≤ 255) (hc : ∀ x ∈ c, 0 ≤ x ∧ x ≤ 255) (i : Nat) :
    (0 ≤ x3 a b c i ∧ x3 a b c i ≤ 255) ∧ by8 (x3 a b c i) = by8 (a.getD i 0) ^^^ by8 (b.getD i 0) ^^^ by8 (c.getD i 0) := by
  have g : ∀ {l : List Int}, (∀ x ∈ l, 0 ≤ x ∧ x ≤ 255) → 0 ≤ l.getD i 0 ∧ l.getD i 0 ≤ 255 := fun {l} h => by
    rw [List.getD_eq_getElem?_getD]
    cases hl : l[i]? with
    | none => simp
    | some x => exact h x (List.mem_of_getElem? hl)
  have h1 := xor_u8 (g ha) (g hb)
  have h2 := xor_u8 h1.1 (g hc)
  exact ⟨h2.1, by unfold x3; rw [h2.2, h1.2]⟩
theorem xs3_bytes {a b c : List Int} (ha : ∀ x ∈ a, 0 ≤ x ∧ x ≤ 255) (hb : ∀ x ∈ b, 0 ≤ x ∧ x ≤ 255) (hc : ∀ x ∈ c, 0 ≤ x ∧ x ≤ 255) (n i : Nat) : ∀ x ∈ xs3 a b c n i, 0 ≤ x ∧ x ≤ 255 := fun x hx => by
  rcases List.mem_append.1 hx with hx | hx
  · obtain ⟨j, _, rfl⟩ := List.mem_map.1 hx
    exact (x3_ok ha hb hc j).1
  · rw [List.mem_replicate] at hx; rw [hx.2]; simp
theorem xs3_sum {a b c : List Int} (ha : ∀ x ∈ a, 0 ≤ x ∧ x ≤ 255) (hb : ∀ x ∈ b, 0 ≤ x ∧ x ≤ 255) (hc : ∀ x ∈ c, 0 ≤ x ∧ x ≤ 255) {n : Nat} (h1 : a.length = n) (h2 : b.length = n) (h3 : c.length = n) :
    sum (xs3 a b c n n) = sum a ^^^ sum b ^^^ sum c := by
  have hl := xs3_len a b c (Nat.le_refl n)
  have hu := upd_three (d := xs3 a b c n n) (~~~ 0#32) (~~~ 0#32) (~~~ 0#32) (h1.trans hl.symm) (h2.trans hl.symm) (h3.trans hl.symm) (fun i hi => by
    rw [hl] at hi
    have e : (xs3 a b c n n).getD i 0 = x3 a b c i := by
      unfold xs3
      rw [List.getD_eq_getElem?_getD, List.getElem?_append_left (by simpa using hi)]
      simp [hi]
    rw [e]
    exact (x3_ok ha hb hc i).2)
  rw [show (~~~ 0#32 : R) ^^^ ~~~ 0#32 ^^^ ~~~ 0#32 = ~~~ 0#32 by decide] at hu
  unfold sum more
  rw [hu]
  generalize upd (~~~ 0#32) a = p
  generalize upd (~~~ 0#32) b = q
  generalize upd (~~~ 0#32) c = r
  apply BitVec.eq_of_getLsbD_eq; intro i hi; simp only [BitVec.getLsbD_xor, BitVec.getLsbD_not, hi]
  cases p.getLsbD i <;> cases q.getLsbD i <;> cases r.getLsbD i <;> rfl
theorem bA_set (l : List Int) (i : Nat) (x : Int) : (bA l).set i (.val (.int .u8 x)) = bA (l.set i x) := by unfold bA; rw [List.map_set]
theorem bA_put (l : List Int) (i : Nat) (x : Int) (h : i < l.length) : bA (l.take i) ++ [.val (.int .u8 x)] ++ bA (l.drop (i + 1)) = bA (l.set i x) := by
  rw [List.set_eq_take_append_cons_drop, if_pos h]
  simp [bA]
end Go.Crc
namespace Go.Proofs.Ytnadhhmlehifnaa
open Go Go.Am Go.RowKit Go.ChangeShapes Go.WideShapes Go.ChangeAt Go.Crc
set_option linter.unusedSimpArgs false
set_option maxHeartbeats 4000000
set_option maxRecDepth 100000
/- quidnunc/quidnunclaw02.CrcEvens -/
noncomputable def c8_1 : ACode := .region false [⟨some 6, .move, [.c (.val (.bool false))], none⟩] [] [] [0, 1, 2] false [] []
noncomputable def c8_4 : ACode := .region false [⟨some 10, .call 27, [], none⟩,
  ⟨some 11, .un .not, [.t 10], none⟩,
  ⟨some 12, .move, [.t 11], none⟩,
  ⟨some 13, .move, [.t 0], some (some 12, false)⟩,
  ⟨some 14, .len, [.t 13], some (some 12, false)⟩,
  ⟨some 15, .bin .gtr, [.t 14, .c (.val (.int .i64 200))], some (some 12, false)⟩,
  ⟨some 16, .pick, [.t 12, .c (.val (.bool true)), .t 15], none⟩,
  ⟨some 17, .move, [.t 16], none⟩,
  ⟨some 18, .move, [.t 1], some (some 17, false)⟩,
  ⟨some 19, .len, [.t 18], some (some 17, false)⟩,
  ⟨some 20, .move, [.t 0], some (some 17, false)⟩,
  ⟨some 21, .len, [.t 20], some (some 17, false)⟩,
  ⟨some 22, .bin .neq, [.t 19, .t 21], some (some 17, false)⟩,
  ⟨some 23, .pick, [.t 17, .c (.val (.bool true)), .t 22], none⟩,
  ⟨some 24, .move, [.t 23], none⟩,
  ⟨some 25, .move, [.t 2], some (some 24, false)⟩,
  ⟨some 26, .len, [.t 25], some (some 24, false)⟩,
  ⟨some 27, .move, [.t 0], some (some 24, false)⟩,
  ⟨some 28, .len, [.t 27], some (some 24, false)⟩,
  ⟨some 29, .bin .neq, [.t 26, .t 28], some (some 24, false)⟩,
  ⟨some 30, .pick, [.t 24, .c (.val (.bool true)), .t 29], none⟩] [] [] [0, 1, 2, 30] true [] []
noncomputable def c8_7 : ACode := .region false [⟨some 31, .call 27, [], none⟩,
  ⟨some 6, .move, [.t 31], none⟩] [] [] [6] true [] []
noncomputable def c8_6 : ACode := .seq c8_7 .ret
noncomputable def c8_5 : ACode := .cond (.t 30) c8_6 .skip
noncomputable def c8_3 : ACode := .seq c8_4 c8_5
noncomputable def c8_9 : ACode := .region false [⟨some 7, .alloc [(.int .u32 0), (.int .i32 0), (.int .u32 0), (.int .u32 0), (.int .u32 0), (.int .u32 0), (.int .u32 0), (.int .u32 0), (.int .u32 0), (.int .u32 0), (.int .u32 0), (.int .u32 0), (.int .u32 0), (.int .u32 0), (.int .u32 0), (.int .u32 0), (.int .u32 0), (.int .u32 0), (.int .u32 0), (.int .u32 0), (.int .u32 0), (.int .u32 0), (.int .u32 0), (.int .u32 0), (.int .u32 0), (.int .u32 0), (.int .u32 0), (.int .u32 0), (.int .u32 0), (.int .u32 0), (.int .u32 0), (.int .u32 0), (.int .u32 0), (.int .u32 0), (.int .u32 0), (.int .u32 0), (.int .u32 0), (.int .u32 0), (.int .u32 0), (.int .u32 0), (.int .u32 0), (.int .u32 0), (.int .u32 0), (.int .u32 0), (.int .u32 0), (.int .u32 0), (.int .u32 0), (.int .u32 0), (.int .u32 0), (.int .u32 0), (.int .u32 0), (.int .u32 0), (.int .u32 0), (.int .u32 0), (.int .u32 0), (.int .u32 0), (.int .u32 0), (.int .u32 0), (.int .u32 0), (.int .u32 0), (.int .u32 0), (.int .u32 0), (.int .u32 0), (.int .u32 0), (.int .u32 0), (.int .u32 0), (.int .u32 0), (.int .u32 0), (.int .u32 0), (.int .u32 0), (.int .u32 0), (.int .u32 0), (.int .u32 0), (.int .u32 0), (.int .u32 0), (.int .u32 0), (.int .u32 0), (.int .u32 0), (.int .u32 0), (.int .u32 0), (.int .u32 0), (.int .u32 0), (.int .u32 0), (.int .u32 0), (.int .u32 0), (.int .u32 0), (.int .u32 0), (.int .u32 0), (.int .u32 0), (.int .u32 0), (.int .u32 0), (.int .u32 0), (.int .u32 0), (.int .u32 0), (.int .u32 0), (.int .u32 0), (.int .u32 0), (.int .u32 0), (.int .u32 0), (.int .u32 0), (.int .u32 0), (.int .u32 0), (.int .u32 0), (.int .u32 0), (.int .u32 0), (.int .u32 0), (.int .u32 0), (.int .u32 0), (.int .u32 0), (.int .u32 0), (.int .u32 0), (.int .u32 0), (.int .u32 0), (.int .u32 0), (.int .u32 0), (.int .u32 0), (.int .u32 0), (.int .u32 0), (.int .u32 0), (.int .u32 0), (.int .u32 0), (.int .u32 0), (.int .u32 0), (.int .u32 0), (.int .u32 0), (.int .u32 0), (.int .u32 0), (.int .u32 0), (.int .u32 0), (.int .u32 0), (.int .u32 0), (.int .u32 0), (.int .u32 0), (.int .u32 0), (.int .u32 0), (.int .u32 0), (.int .u32 0), (.int .u32 0), (.int .u32 0), (.int .u32 0), (.int .u32 0), (.int .u32 0), (.int .u32 0), (.int .u32 0), (.int .u32 0), (.int .u32 0), (.int .u32 0), (.int .u32 0), (.int .u32 0), (.int .u32 0), (.int .u32 0), (.int .u32 0), (.int .u32 0), (.int .u32 0), (.int .u32 0), (.int .u32 0), (.int .u32 0), (.int .u32 0), (.int .u32 0), (.int .u32 0), (.int .u32 0), (.int .u32 0), (.int .u32 0), (.int .u32 0), (.int .u32 0), (.int .u32 0), (.int .u32 0), (.int .u32 0), (.int .u32 0), (.int .u32 0), (.int .u32 0), (.int .u32 0), (.int .u32 0), (.int .u32 0), (.int .u32 0), (.int .u32 0), (.int .u32 0), (.int .u32 0), (.int .u32 0), (.int .u32 0), (.int .u32 0), (.int .u32 0), (.int .u32 0), (.int .u32 0), (.int .u32 0), (.int .u32 0), (.int .u32 0), (.int .u32 0), (.int .u32 0), (.int .u32 0), (.int .u32 0), (.int .u32 0), (.int .u32 0), (.int .u32 0), (.int .u32 0), (.int .u32 0), (.int .u32 0), (.int .u32 0), (.int .u32 0), (.int .u32 0), (.int .u32 0), (.int .u32 0), (.int .u32 0), (.int .u32 0), (.int .u32 0), (.int .u32 0), (.int .u32 0), (.int .u32 0), (.int .u32 0), (.int .u32 0), (.int .u32 0), (.int .u32 0), (.int .u32 0), (.int .u32 0), (.int .u32 0), (.int .u32 0), (.int .u32 0), (.int .u32 0), (.int .u32 0), (.int .u32 0), (.int .u32 0), (.int .u32 0), (.int .u32 0), (.int .u32 0), (.int .u32 0), (.int .u32 0), (.int .u32 0), (.int .u32 0), (.int .u32 0), (.int .u32 0), (.int .u32 0), (.int .u32 0), (.int .u32 0), (.int .u32 0), (.int .u32 0), (.int .u32 0), (.int .u32 0), (.int .u32 0), (.int .u32 0), (.int .u32 0), (.int .u32 0), (.int .u32 0), (.int .u32 0), (.int .u32 0), (.int .u32 0), (.int .u32 0), (.int .u32 0), (.int .u32 0), (.int .u32 0), (.int .u32 0), (.int .u32 0), (.int .u32 0), (.int .u32 0), (.int .u32 0), (.int .u32 0), (.int .u32 0), (.int .u32 0), (.int .u32 0), (.int .u32 0)], [], none⟩] [] [] [0, 1, 2, 7] true [] []
noncomputable def c8_11 : ACode := .region false [⟨some 32, .move, [.t 0], none⟩,
  ⟨some 33, .len, [.t 32], none⟩,
  ⟨some 34, .makeSl 1 1 [(.int .u8 0)], [.t 33, .t 33], none⟩,
  ⟨some 8, .move, [.t 34], none⟩] [] [] [0, 1, 2, 7, 8] true [] []
noncomputable def c8_14 : ACode := .region false [⟨some 35, .move, [.t 0], none⟩,
  ⟨some 36, .len, [.t 35], none⟩,
  ⟨some 37, .move, [.c (.val (.int .i64 0))], none⟩] [] [] [0, 1, 2, 7, 8, 36, 37] false [] []
noncomputable def c8_18 : ACode := .region false [⟨some 38, .bin .lss, [.t 37, .t 36], none⟩] [] [] [0, 1, 2, 7, 8, 36, 37, 38] false [] []
noncomputable def c8_20 : ACode := .cond (.t 38) .skip (.exit 0)
noncomputable def c8_24 : ACode := .region false [⟨some 39, .move, [.t 37], none⟩,
  ⟨some 9, .move, [.t 39], none⟩] [] [] [0, 1, 2, 7, 8, 9, 36, 37] false [] []
noncomputable def c8_25 : ACode := .region true [⟨some 40, .move, [.t 8], none⟩,
  ⟨some 41, .move, [.t 9], none⟩,
  ⟨some 42, .move, [.t 0], none⟩,
  ⟨some 43, .move, [.t 9], none⟩,
  ⟨some 44, .ixS 1, [.t 42, .t 43], none⟩,
  ⟨some 45, .load false 1, [.t 44], none⟩,
  ⟨some 46, .move, [.t 1], none⟩,
  ⟨some 47, .move, [.t 9], none⟩,
  ⟨some 48, .ixS 1, [.t 46, .t 47], none⟩,
  ⟨some 49, .load false 1, [.t 48], none⟩,
  ⟨some 50, .bin .xor, [.t 45, .t 49], none⟩,
  ⟨some 51, .move, [.t 2], none⟩,
  ⟨some 52, .move, [.t 9], none⟩,
  ⟨some 53, .ixS 1, [.t 51, .t 52], none⟩,
  ⟨some 54, .load false 1, [.t 53], none⟩,
  ⟨some 55, .bin .xor, [.t 50, .t 54], none⟩,
  ⟨some 56, .ixS 1, [.t 40, .t 41], none⟩,
  ⟨none, .store 1, [.t 56, .t 55], none⟩] [] [] [0, 1, 2, 7, 8, 36, 37] true [8] []
noncomputable def c8_23 : ACode := .seq c8_24 c8_25
noncomputable def c8_22 : ACode := .block 1 c8_23
noncomputable def c8_26 : ACode := .region false [⟨some 57, .bin .add, [.t 37, .c (.val (.int .i64 1))], none⟩,
  ⟨some 37, .move, [.t 57], none⟩] [] [] [0, 1, 2, 7, 8, 36, 37] false [] []
noncomputable def c8_21 : ACode := .seq c8_22 c8_26
noncomputable def c8_19 : ACode := .seq c8_20 c8_21
noncomputable def c8_17 : ACode := .seq c8_18 c8_19
noncomputable def c8_16 : ACode := .loop c8_17
noncomputable def c8_15 : ACode := .block 0 c8_16
noncomputable def c8_13 : ACode := .seq c8_14 c8_15
noncomputable def c8_28 : ACode := .region false [⟨some 58, .move, [.t 8], none⟩,
  ⟨some 59, .buildSl 1 1 [(.slice none 0 0)] [(0, 1)], [.t 58], none⟩,
  ⟨some 60, .call 29, [.t 7, .t 59], none⟩,
  ⟨some 61, .move, [.t 0], none⟩,
  ⟨some 62, .buildSl 1 1 [(.slice none 0 0)] [(0, 1)], [.t 61], none⟩,
  ⟨some 63, .call 29, [.t 7, .t 62], none⟩,
  ⟨some 64, .move, [.t 1], none⟩,
  ⟨some 65, .buildSl 1 1 [(.slice none 0 0)] [(0, 1)], [.t 64], none⟩,
  ⟨some 66, .call 29, [.t 7, .t 65], none⟩,
  ⟨some 67, .bin .xor, [.t 63, .t 66], none⟩,
  ⟨some 68, .move, [.t 2], none⟩,
  ⟨some 69, .buildSl 1 1 [(.slice none 0 0)] [(0, 1)], [.t 68], none⟩,
  ⟨some 70, .call 29, [.t 7, .t 69], none⟩,
  ⟨some 71, .bin .xor, [.t 67, .t 70], none⟩,
  ⟨some 72, .bin .eql, [.t 60, .t 71], none⟩,
  ⟨some 6, .move, [.t 72], none⟩] [] [] [6] true [] []
noncomputable def c8_27 : ACode := .seq c8_28 .ret
noncomputable def c8_12 : ACode := .seq c8_13 c8_27
noncomputable def c8_10 : ACode := .seq c8_11 c8_12
noncomputable def c8_8 : ACode := .seq c8_9 c8_10
noncomputable def c8_2 : ACode := .seq c8_3 c8_8
noncomputable def c8_0 : ACode := .seq c8_1 c8_2
noncomputable def code8 : Code := (Try.f8.body).getD .skip
theorem c8_ok : compC Try.prog 73 code8 = some (strip c8_0) := by kernel_rfl
theorem res8_ok : Try.f8.results.toList.mapM (resC Try.prog) = some [(6, none)] := by kernel_rfl
theorem crcEvens_walk (W : World) (al bl cl : Sl Int) (hta : al.ok W 1 (fun n : Int => [.int .u8 n]) (fun n : Int => IntKind.u8.min ≤ n ∧ n ≤ IntKind.u8.max)) (htb : bl.ok W 1 (fun n : Int => [.int .u8 n]) (fun n : Int => IntKind.u8.min ≤ n ∧ n ≤ IntKind.u8.max)) (htc : cl.ok W 1 (fun n : Int => [.int .u8 n]) (fun n : Int => IntKind.u8.min ≤ n ∧ n ≤ IntKind.u8.max)) :
    Calls Try.prog 8 #[.slice al.ad al.l.length al.cap, .slice bl.ad bl.l.length bl.cap, .slice cl.ad cl.l.length cl.cap] W fun e W' => e = .returned (.bool true) ∧ Below W.heap.size W W' := by
  obtain ⟨ad1, off1, cap1, a⟩ := al
  obtain ⟨ad2, off2, cap2, b⟩ := bl
  obtain ⟨ad3, off3, cap3, c⟩ := cl
  have hz1 := hta.fz
  have hz2 := htb.fz
  have hz3 := htc.fz
  have ha : ∀ x ∈ a, 0 ≤ x ∧ x ≤ 255 := hta.all
  have hb : ∀ x ∈ b, 0 ≤ x ∧ x ≤ 255 := htb.all
  have hc : ∀ x ∈ c, 0 ≤ x ∧ x ≤ 255 := htc.all
  simp only at hz1 hz2 hz3
  by_cases h200 : 200 < a.length
  · have h1 : ((200 : Int) < (a.length : Int)) = True := eq_true (by omega)
    refine top_call c8_ok Try.func8 rfl Try.ntmps8 res8_ok [ .val (.slice ad1 a.length cap1), .val (.slice ad2 b.length cap2), .val (.slice ad3 c.length cap3)] (by simp) (by (repeat' (first | exact VRs_nil' _ | exact VR_val' _ _ | (refine VRs_cons' ?_ ?_) | (refine VR_agg' rfl ?_; simp [Value.oneCell'])))) ?_; try simp (maxSteps := 9999999) (disch := omega) only [go_sem]
    (repeat' (first | refine AWpA.seq ?_ | refine AWpA.block ?_ | (with_reducible refine CondP.tt ?_) | (with_reducible refine CondP.ff ?_) | refine AWpA.condv (by simp (maxSteps := 9999999) (disch := omega) only [go_sem, h1]; rfl) ?_ | ((first | (apply AWpA.region; (focus (simp (maxSteps := 9999999) (disch := omega) only [go_sem, h1]; rfl))) | (apply AWpA.draw [] follows; (focus (simp (maxSteps := 9999999) (disch := omega) only [go_sem, h1]; rfl)); (focus (simp (maxSteps := 9999999) (disch := omega) only [go_sem, h1]; first | done | trivial)); (focus (simp (maxSteps := 9999999) (disch := omega) only [go_sem, h1]; rfl))) | (apply TailK.go; (focus (simp (maxSteps := 9999999) (disch := omega) only [go_sem, h1]; rfl))) | refine AWpA.skip ?_ | refine AWpA.exit ?_ | refine AWpA.ret ?_ | (with_reducible refine ARoundsA.succ ?_) | ((first | refine Runs.kt (by assumption) (fun h9 => ?_) | refine Runs.kf (by assumption) (fun h9 => ?_) | refine Runs.nt (by assumption) (fun h9 => ?_) | refine Runs.nf (by assumption) (fun h9 => ?_) | refine CondP.ht (by assumption) (fun h9 => ?_) | refine CondP.hf (by assumption) (fun h9 => ?_) | refine CondP.nt (by assumption) (fun h9 => ?_) | refine CondP.nf (by assumption) (fun h9 => ?_)); (try simp only [h9]); clear h9) | ((first | (with_reducible apply CallG.plain1 [] (speaks02_any)) | (with_reducible apply CallG.draw1 [] (speaks02_any))); (focus ((try refine And.intro (leAs_of_eq rfl) ?_); (try refine And.intro (leOL_of_eq rfl) ?_); simp (maxSteps := 9999999) (disch := omega) only [go_sem, h1]; first | done | (repeat' (first | rfl | (refine And.intro ?_ ?_))))); (focus (simp (maxSteps := 9999999) (disch := omega) only [go_sem, h1]; rfl)))); (try simp (maxSteps := 9999999) (disch := omega) only [go_sem, h1]); (try (refine And.intro ?_ ?_; (focus (first | omega | (simp only [go_sem]; done) | (simp; done) | (simp; omega) | assumption))))) | ((first | refine CondP.split (fun hif => ?_) (fun hif => ?_) | refine Runs.part (fun hif => ?_) (fun hif => ?_)) <;> ((try simp only [hif]); (try simp only [decide_eq_true_eq, decide_eq_false_iff_not, Bool.not_eq_true, Bool.not_eq_false, Bool.not_eq_true', Bool.not_eq_false', beq_iff_eq, bne_iff_ne, bne_eq_false_iff_eq, beq_eq_false_iff_ne, ne_eq, Bool.and_eq_true, Bool.or_eq_true, Bool.or_eq_false_iff] at hif); (try (have h9 : _ = true := hif; simp only [h9])); (try (have h9 : _ = false := hif; simp only [h9])); (try simp (maxSteps := 9999999) (disch := omega) only [go_sem, h1]); (try (refine And.intro ?_ ?_; (focus (first | omega | (simp only [go_sem]; done) | (simp; done) | (simp; omega) | assumption)))); (try (exfalso; omega; done))))))
    (refine TopPost.of (by first | exact .inl rfl | exact .inr rfl) (by (try simp (maxSteps := 9999999) (disch := omega) only [go_sem]); rfl) ?_; (try simp (maxSteps := 9999999) (disch := omega) only [go_sem]); (try (first | trivial | decide | (simp; done))))
  have h1 : ((200 : Int) < (a.length : Int)) = False := eq_false (by omega)
  by_cases hab : b.length = a.length
  case neg =>
    have h2 : ((b.length : Int) != (a.length : Int)) = true := by simp; omega
    refine top_call c8_ok Try.func8 rfl Try.ntmps8 res8_ok [ .val (.slice ad1 a.length cap1), .val (.slice ad2 b.length cap2), .val (.slice ad3 c.length cap3)] (by simp) (by (repeat' (first | exact VRs_nil' _ | exact VR_val' _ _ | (refine VRs_cons' ?_ ?_) | (refine VR_agg' rfl ?_; simp [Value.oneCell'])))) ?_; try simp (maxSteps := 9999999) (disch := omega) only [go_sem]
    (repeat' (first | refine AWpA.seq ?_ | refine AWpA.block ?_ | (with_reducible refine CondP.tt ?_) | (with_reducible refine CondP.ff ?_) | refine AWpA.condv (by simp (maxSteps := 9999999) (disch := omega) only [go_sem, h1, h2]; rfl) ?_ | ((first | (apply AWpA.region; (focus (simp (maxSteps := 9999999) (disch := omega) only [go_sem, h1, h2]; rfl))) | (apply AWpA.draw [] follows; (focus (simp (maxSteps := 9999999) (disch := omega) only [go_sem, h1, h2]; rfl)); (focus (simp (maxSteps := 9999999) (disch := omega) only [go_sem, h1, h2]; first | done | trivial)); (focus (simp (maxSteps := 9999999) (disch := omega) only [go_sem, h1, h2]; rfl))) | (apply TailK.go; (focus (simp (maxSteps := 9999999) (disch := omega) only [go_sem, h1, h2]; rfl))) | refine AWpA.skip ?_ | refine AWpA.exit ?_ | refine AWpA.ret ?_ | (with_reducible refine ARoundsA.succ ?_) | ((first | refine Runs.kt (by assumption) (fun h9 => ?_) | refine Runs.kf (by assumption) (fun h9 => ?_) | refine Runs.nt (by assumption) (fun h9 => ?_) | refine Runs.nf (by assumption) (fun h9 => ?_) | refine CondP.ht (by assumption) (fun h9 => ?_) | refine CondP.hf (by assumption) (fun h9 => ?_) | refine CondP.nt (by assumption) (fun h9 => ?_) | refine CondP.nf (by assumption) (fun h9 => ?_)); (try simp only [h9]); clear h9) | ((first | (with_reducible apply CallG.plain1 [] (speaks02_any)) | (with_reducible apply CallG.draw1 [] (speaks02_any))); (focus ((try refine And.intro (leAs_of_eq rfl) ?_); (try refine And.intro (leOL_of_eq rfl) ?_); simp (maxSteps := 9999999) (disch := omega) only [go_sem, h1, h2]; first | done | (repeat' (first | rfl | (refine And.intro ?_ ?_))))); (focus (simp (maxSteps := 9999999) (disch := omega) only [go_sem, h1, h2]; rfl)))); (try simp (maxSteps := 9999999) (disch := omega) only [go_sem, h1, h2]); (try (refine And.intro ?_ ?_; (focus (first | omega | (simp only [go_sem]; done) | (simp; done) | (simp; omega) | assumption))))) | ((first | refine CondP.split (fun hif => ?_) (fun hif => ?_) | refine Runs.part (fun hif => ?_) (fun hif => ?_)) <;> ((try simp only [hif]); (try simp only [decide_eq_true_eq, decide_eq_false_iff_not, Bool.not_eq_true, Bool.not_eq_false, Bool.not_eq_true', Bool.not_eq_false', beq_iff_eq, bne_iff_ne, bne_eq_false_iff_eq, beq_eq_false_iff_ne, ne_eq, Bool.and_eq_true, Bool.or_eq_true, Bool.or_eq_false_iff] at hif); (try (have h9 : _ = true := hif; simp only [h9])); (try (have h9 : _ = false := hif; simp only [h9])); (try simp (maxSteps := 9999999) (disch := omega) only [go_sem, h1, h2]); (try (refine And.intro ?_ ?_; (focus (first | omega | (simp only [go_sem]; done) | (simp; done) | (simp; omega) | assumption)))); (try (exfalso; omega; done))))))
    (refine TopPost.of (by first | exact .inl rfl | exact .inr rfl) (by (try simp (maxSteps := 9999999) (disch := omega) only [go_sem]); rfl) ?_; (try simp (maxSteps := 9999999) (disch := omega) only [go_sem]); (try (first | trivial | decide | (simp; done))))
  have h2 : ((b.length : Int) != (a.length : Int)) = false := by simp [hab]
  by_cases hac : c.length = a.length
  case neg =>
    have h3 : ((c.length : Int) != (a.length : Int)) = true := by simp; omega
    refine top_call c8_ok Try.func8 rfl Try.ntmps8 res8_ok [ .val (.slice ad1 a.length cap1), .val (.slice ad2 b.length cap2), .val (.slice ad3 c.length cap3)] (by simp) (by (repeat' (first | exact VRs_nil' _ | exact VR_val' _ _ | (refine VRs_cons' ?_ ?_) | (refine VR_agg' rfl ?_; simp [Value.oneCell'])))) ?_; try simp (maxSteps := 9999999) (disch := omega) only [go_sem]
    (repeat' (first | refine AWpA.seq ?_ | refine AWpA.block ?_ | (with_reducible refine CondP.tt ?_) | (with_reducible refine CondP.ff ?_) | refine AWpA.condv (by simp (maxSteps := 9999999) (disch := omega) only [go_sem, h1, h2, h3]; rfl) ?_ | ((first | (apply AWpA.region; (focus (simp (maxSteps := 9999999) (disch := omega) only [go_sem, h1, h2, h3]; rfl))) | (apply AWpA.draw [] follows; (focus (simp (maxSteps := 9999999) (disch := omega) only [go_sem, h1, h2, h3]; rfl)); (focus (simp (maxSteps := 9999999) (disch := omega) only [go_sem, h1, h2, h3]; first | done | trivial)); (focus (simp (maxSteps := 9999999) (disch := omega) only [go_sem, h1, h2, h3]; rfl))) | (apply TailK.go; (focus (simp (maxSteps := 9999999) (disch := omega) only [go_sem, h1, h2, h3]; rfl))) | refine AWpA.skip ?_ | refine AWpA.exit ?_ | refine AWpA.ret ?_ | (with_reducible refine ARoundsA.succ ?_) | ((first | refine Runs.kt (by assumption) (fun h9 => ?_) | refine Runs.kf (by assumption) (fun h9 => ?_) | refine Runs.nt (by assumption) (fun h9 => ?_) | refine Runs.nf (by assumption) (fun h9 => ?_) | refine CondP.ht (by assumption) (fun h9 => ?_) | refine CondP.hf (by assumption) (fun h9 => ?_) | refine CondP.nt (by assumption) (fun h9 => ?_) | refine CondP.nf (by assumption) (fun h9 => ?_)); (try simp only [h9]); clear h9) | ((first | (with_reducible apply CallG.plain1 [] (speaks02_any)) | (with_reducible apply CallG.draw1 [] (speaks02_any))); (focus ((try refine And.intro (leAs_of_eq rfl) ?_); (try refine And.intro (leOL_of_eq rfl) ?_); simp (maxSteps := 9999999) (disch := omega) only [go_sem, h1, h2, h3]; first | done | (repeat' (first | rfl | (refine And.intro ?_ ?_))))); (focus (simp (maxSteps := 9999999) (disch := omega) only [go_sem, h1, h2, h3]; rfl)))); (try simp (maxSteps := 9999999) (disch := omega) only [go_sem, h1, h2, h3]); (try (refine And.intro ?_ ?_; (focus (first | omega | (simp only [go_sem]; done) | (simp; done) | (simp; omega) | assumption))))) | ((first | refine CondP.split (fun hif => ?_) (fun hif => ?_) | refine Runs.part (fun hif => ?_) (fun hif => ?_)) <;> ((try simp only [hif]); (try simp only [decide_eq_true_eq, decide_eq_false_iff_not, Bool.not_eq_true, Bool.not_eq_false, Bool.not_eq_true', Bool.not_eq_false', beq_iff_eq, bne_iff_ne, bne_eq_false_iff_eq, beq_eq_false_iff_ne, ne_eq, Bool.and_eq_true, Bool.or_eq_true, Bool.or_eq_false_iff] at hif); (try (have h9 : _ = true := hif; simp only [h9])); (try (have h9 : _ = false := hif; simp only [h9])); (try simp (maxSteps := 9999999) (disch := omega) only [go_sem, h1, h2, h3]); (try (refine And.intro ?_ ?_; (focus (first | omega | (simp only [go_sem]; done) | (simp; done) | (simp; omega) | assumption)))); (try (exfalso; omega; done))))))
    (refine TopPost.of (by first | exact .inl rfl | exact .inr rfl) (by (try simp (maxSteps := 9999999) (disch := omega) only [go_sem]); rfl) ?_; (try simp (maxSteps := 9999999) (disch := omega) only [go_sem]); (try (first | trivial | decide | (simp; done))))
  have h3 : ((c.length : Int) != (a.length : Int)) = false := by simp [hac]
  have sa := Seg.rows (off := off1) (l := a) (by omega)
  have sb := Seg.rows (off := off2) (l := b) (by omega)
  have sc := Seg.rows (off := off3) (l := c) (by omega)
  refine top_call c8_ok Try.func8 rfl Try.ntmps8 res8_ok [ .val (.slice ad1 a.length cap1), .val (.slice ad2 b.length cap2), .val (.slice ad3 c.length cap3)] (by simp) (by (repeat' (first | exact VRs_nil' _ | exact VR_val' _ _ | (refine VRs_cons' ?_ ?_) | (refine VR_agg' rfl ?_; simp [Value.oneCell'])))) ?_; try simp (maxSteps := 9999999) (disch := omega) only [go_sem]
  refine AWpA.thawT 0 (fun n : Int => [.val (.int .u8 n)]) hz1 (fun _ => rfl) rfl ?_
  refine AWpA.thawT 1 (fun n : Int => [.val (.int .u8 n)]) hz2 (fun _ => rfl) rfl ?_
  refine AWpA.thawT 2 (fun n : Int => [.val (.int .u8 n)]) hz3 (fun _ => rfl) rfl ?_
  generalize rowsC off1 (fun n : Int => [.val (.int .u8 n)]) a = P1 at sa
  generalize rowsC off2 (fun n : Int => [.val (.int .u8 n)]) b = P2 at sb
  generalize rowsC off3 (fun n : Int => [.val (.int .u8 n)]) c = P3 at sc
  have hzz := zeros_bA2 a.length
  rw [← xs3_zero a b c a.length] at hzz
  (repeat' (first | refine AWpA.seq ?_ | refine AWpA.block ?_ | (with_reducible refine CondP.tt ?_) | (with_reducible refine CondP.ff ?_) | refine AWpA.condv (by simp (maxSteps := 9999999) (disch := omega) only [go_sem, h1, h2, h3, sa.ren, sb.ren, sc.ren, tb_ren, tb_lit, hzz]; rfl) ?_ | ((first | (apply AWpA.region; (focus (simp (maxSteps := 9999999) (disch := omega) only [go_sem, h1, h2, h3, sa.ren, sb.ren, sc.ren, tb_ren, tb_lit, hzz]; rfl))) | (apply AWpA.draw [] follows; (focus (simp (maxSteps := 9999999) (disch := omega) only [go_sem, h1, h2, h3, sa.ren, sb.ren, sc.ren, tb_ren, tb_lit, hzz]; rfl)); (focus (simp (maxSteps := 9999999) (disch := omega) only [go_sem, h1, h2, h3, sa.ren, sb.ren, sc.ren, tb_ren, tb_lit, hzz]; first | done | trivial)); (focus (simp (maxSteps := 9999999) (disch := omega) only [go_sem, h1, h2, h3, sa.ren, sb.ren, sc.ren, tb_ren, tb_lit, hzz]; rfl))) | (apply TailK.go; (focus (simp (maxSteps := 9999999) (disch := omega) only [go_sem, h1, h2, h3, sa.ren, sb.ren, sc.ren, tb_ren, tb_lit, hzz]; rfl))) | refine AWpA.skip ?_ | refine AWpA.exit ?_ | refine AWpA.ret ?_ | (with_reducible refine ARoundsA.succ ?_) | ((first | refine Runs.kt (by assumption) (fun h9 => ?_) | refine Runs.kf (by assumption) (fun h9 => ?_) | refine Runs.nt (by assumption) (fun h9 => ?_) | refine Runs.nf (by assumption) (fun h9 => ?_) | refine CondP.ht (by assumption) (fun h9 => ?_) | refine CondP.hf (by assumption) (fun h9 => ?_) | refine CondP.nt (by assumption) (fun h9 => ?_) | refine CondP.nf (by assumption) (fun h9 => ?_)); (try simp only [h9]); clear h9) | ((first | (with_reducible apply CallG.plain1 [] (speaks02_any)) | (with_reducible apply CallG.draw1 [] (speaks02_any))); (focus ((try refine And.intro (leAs_of_eq rfl) ?_); (try refine And.intro (leOL_of_eq rfl) ?_); simp (maxSteps := 9999999) (disch := omega) only [go_sem, h1, h2, h3, sa.ren, sb.ren, sc.ren, tb_ren, tb_lit, hzz]; first | done | (repeat' (first | rfl | (refine And.intro ?_ ?_))))); (focus (simp (maxSteps := 9999999) (disch := omega) only [go_sem, h1, h2, h3, sa.ren, sb.ren, sc.ren, tb_ren, tb_lit, hzz]; rfl)))); (try simp (maxSteps := 9999999) (disch := omega) only [go_sem, h1, h2, h3, sa.ren, sb.ren, sc.ren, tb_ren, tb_lit, hzz]); (try (refine And.intro ?_ ?_; (focus (first | omega | (simp only [go_sem]; done) | (simp; done) | (simp; omega) | assumption))))) | ((first | refine CondP.split (fun hif => ?_) (fun hif => ?_) | refine Runs.part (fun hif => ?_) (fun hif => ?_)) <;> ((try simp only [hif]); (try simp only [decide_eq_true_eq, decide_eq_false_iff_not, Bool.not_eq_true, Bool.not_eq_false, Bool.not_eq_true', Bool.not_eq_false', beq_iff_eq, bne_iff_ne, bne_eq_false_iff_eq, beq_eq_false_iff_ne, ne_eq, Bool.and_eq_true, Bool.or_eq_true, Bool.or_eq_false_iff] at hif); (try (have h9 : _ = true := hif; simp only [h9])); (try (have h9 : _ = false := hif; simp only [h9])); (try simp (maxSteps := 9999999) (disch := omega) only [go_sem, h1, h2, h3, sa.ren, sb.ren, sc.ren, tb_ren, tb_lit, hzz]); (try (refine And.intro ?_ ?_; (focus (first | omega | (simp only [go_sem]; done) | (simp; done) | (simp; omega) | assumption)))); (try (exfalso; omega; done))))))
  (apply AWpA.loopL (fun i : Nat => [(0, .sl 0 off1 a.length 1 none), (1, .sl 1 off2 b.length 1 none), (2, .sl 2 off3 c.length 1 none), (7, .ptr 3 0), (8, .sl 4 0 a.length 1 (some a.length)), (36, I a.length), (37, I i)]) (fun i => [.cells true P1, .cells true P2, .cells true P3, .cells false (tb false), .cells false (bA (xs3 a b c a.length i))]) (fun i => a.length - i) (fun i => i ≤ a.length) (0) [0, 1, 2, 355, 403]; rotate_left; (focus (simp (maxSteps := 9999999) (disch := omega) only [go_sem, sa.ren, sb.ren, sc.ren, tb_ren, hzz]; (try (repeat' (first | done | trivial | rfl | exact leAs_rfl _ | decide | (refine And.intro ?_ ?_) | (simp; done) | omega | (simp; decide)))))); rotate_right)
  · exact Nat.zero_le _
  rintro i hi
  (try simp only at hi)
  have hxl := xs3_len a b c hi
  by_cases hin : i < a.length
  · have g1 : ((i : Int) < (a.length : Int)) = True := eq_true (by omega)
    have ga : P1.getD (off1 + i) .bad = .val (.int .u8 (a.getD i 0)) := by rw [sa.byte i hin]; simp [hin]
    have gb : P2.getD (off2 + i) .bad = .val (.int .u8 (b.getD i 0)) := by rw [sb.byte i (by omega)]; simp [hab, hin]
    have gc : P3.getD (off3 + i) .bad = .val (.int .u8 (c.getD i 0)) := by rw [sc.byte i (by omega)]; simp [hac, hin]
    have gx : bits .xor .u8 (bits .xor .u8 (a.getD i 0) (b.getD i 0)) (c.getD i 0) = x3 a b c i := rfl
    have gs : (bA (xs3 a b c a.length i)).set i (.val (.int .u8 (x3 a b c i))) = bA (xs3 a b c a.length (i + 1)) := by rw [bA_set, xs3_set a b c hin]
    have hl1 := sa.le
    have hl2 := sb.le
    have hl3 := sc.le
    have gq : bA ((xs3 a b c a.length i).take i ++ [x3 a b c i] ++ (xs3 a b c a.length i).drop (i + 1)) = bA (xs3 a b c a.length (i + 1)) := by
      rw [← xs3_set a b c hin, List.set_eq_take_append_cons_drop, if_pos (by omega)]; simp
    have gp : bA ((xs3 a b c a.length i).take i) ++ [.val (.int .u8 (x3 a b c i))] ++ bA ((xs3 a b c a.length i).drop (i + 1)) = bA (xs3 a b c a.length (i + 1)) := by rw [bA_put _ _ _ (by omega), xs3_set a b c hin]
    generalize x3 a b c i = x at gx gs gp gq
    generalize a.getD i 0 = xa at ga gx
    generalize b.getD i 0 = xb at gb gx
    generalize c.getD i 0 = xc at gc gx
    (try simp (maxSteps := 9999999) (disch := omega) only [go_sem])
    (repeat' (first | refine AWpA.seq ?_ | refine AWpA.block ?_ | (with_reducible refine CondP.tt ?_) | (with_reducible refine CondP.ff ?_) | refine AWpA.condv (by simp (maxSteps := 9999999) (disch := omega) only [go_sem, g1, sa.ren, sb.ren, sc.ren, tb_ren, ga, gb, gc, gx, gs, gp, hxl, hab, hac]; rfl) ?_ | ((first | (apply AWpA.region; (focus (simp (maxSteps := 9999999) (disch := omega) only [go_sem, g1, sa.ren, sb.ren, sc.ren, tb_ren, ga, gb, gc, gx, gs, gp, hxl, hab, hac]; rfl))) | (apply AWpA.draw [] follows; (focus (simp (maxSteps := 9999999) (disch := omega) only [go_sem, g1, sa.ren, sb.ren, sc.ren, tb_ren, ga, gb, gc, gx, gs, gp, hxl, hab, hac]; rfl)); (focus (simp (maxSteps := 9999999) (disch := omega) only [go_sem, g1, sa.ren, sb.ren, sc.ren, tb_ren, ga, gb, gc, gx, gs, gp, hxl, hab, hac]; first | done | trivial)); (focus (simp (maxSteps := 9999999) (disch := omega) only [go_sem, g1, sa.ren, sb.ren, sc.ren, tb_ren, ga, gb, gc, gx, gs, gp, hxl, hab, hac]; rfl))) | (apply TailK.go; (focus (simp (maxSteps := 9999999) (disch := omega) only [go_sem, g1, sa.ren, sb.ren, sc.ren, tb_ren, ga, gb, gc, gx, gs, gp, hxl, hab, hac]; rfl))) | refine AWpA.skip ?_ | refine AWpA.exit ?_ | refine AWpA.ret ?_ | (with_reducible refine ARoundsA.succ ?_) | ((first | refine Runs.kt (by assumption) (fun h9 => ?_) | refine Runs.kf (by assumption) (fun h9 => ?_) | refine Runs.nt (by assumption) (fun h9 => ?_) | refine Runs.nf (by assumption) (fun h9 => ?_) | refine CondP.ht (by assumption) (fun h9 => ?_) | refine CondP.hf (by assumption) (fun h9 => ?_) | refine CondP.nt (by assumption) (fun h9 => ?_) | refine CondP.nf (by assumption) (fun h9 => ?_)); (try simp only [h9]); clear h9)); (try simp (maxSteps := 9999999) (disch := omega) only [go_sem, g1, sa.ren, sb.ren, sc.ren, tb_ren, ga, gb, gc, gx, gs, gp, hxl, hab, hac]); (try (refine And.intro ?_ ?_; (focus (first | omega | (simp only [go_sem]; done) | (simp; done) | (simp; omega) | assumption))))) | ((first | refine CondP.split (fun hif => ?_) (fun hif => ?_) | refine Runs.part (fun hif => ?_) (fun hif => ?_)) <;> ((try simp only [hif]); (try simp only [decide_eq_true_eq, decide_eq_false_iff_not, Bool.not_eq_true, Bool.not_eq_false, Bool.not_eq_true', Bool.not_eq_false', beq_iff_eq, bne_iff_ne, bne_eq_false_iff_eq, beq_eq_false_iff_ne, ne_eq, Bool.and_eq_true, Bool.or_eq_true, Bool.or_eq_false_iff] at hif); (try (have h9 : _ = true := hif; simp only [h9])); (try (have h9 : _ = false := hif; simp only [h9])); (try simp (maxSteps := 9999999) (disch := omega) only [go_sem, g1, sa.ren, sb.ren, sc.ren, tb_ren, ga, gb, gc, gx, gs, gp, hxl, hab, hac]); (try (refine And.intro ?_ ?_; (focus (first | omega | (simp only [go_sem]; done) | (simp; done) | (simp; omega) | assumption)))); (try (exfalso; omega; done))))))
    (apply Back.to (i + 1) [0, 1, 2, 3, 4]; (focus ((try simp (maxSteps := 9999999) (disch := omega) only [go_sem, gq, sa.ren, sb.ren, sc.ren, tb_ren, hab, hac]); first | done | omega)); rotate_left; (focus (simp (maxSteps := 9999999) (disch := omega) only [go_sem, gq, sa.ren, sb.ren, sc.ren, tb_ren, hab, hac]; (try (repeat' (first | done | trivial | rfl | exact leAs_rfl _ | decide | (refine And.intro ?_ ?_) | (simp; done) | omega | (simp; decide)))))))
    omega
  · obtain rfl : i = a.length := by omega
    have hxb := xs3_bytes ha hb hc a.length a.length
    have sx := Seg.all (xs3 a b c a.length a.length) (by rw [hxl]; omega)
    have hs := xs3_sum ha hb hc rfl hab hac
    have o1 := of1_any false sx hxb
    rw [hxl, hs] at o1
    (try simp (maxSteps := 9999999) (disch := omega) only [go_sem])
    have oa := of1_any true sa ha
    have ob := of1_any true sb hb
    have oc := of1_any true sc hc
    rw [hab] at ob
    rw [hac] at oc
    (repeat' (first | refine AWpA.seq ?_ | refine AWpA.block ?_ | (with_reducible refine CondP.tt ?_) | (with_reducible refine CondP.ff ?_) | refine AWpA.condv (by simp (maxSteps := 9999999) (disch := omega) only [go_sem, h1, sa.ren, sb.ren, sc.ren, tb_ren, x32, hab, hac]; rfl) ?_ | ((first | (apply AWpA.region; (focus (simp (maxSteps := 9999999) (disch := omega) only [go_sem, h1, sa.ren, sb.ren, sc.ren, tb_ren, x32, hab, hac]; rfl))) | (apply AWpA.draw [] follows; (focus (simp (maxSteps := 9999999) (disch := omega) only [go_sem, h1, sa.ren, sb.ren, sc.ren, tb_ren, x32, hab, hac]; rfl)); (focus (simp (maxSteps := 9999999) (disch := omega) only [go_sem, h1, sa.ren, sb.ren, sc.ren, tb_ren, x32, hab, hac]; first | done | trivial)); (focus (simp (maxSteps := 9999999) (disch := omega) only [go_sem, h1, sa.ren, sb.ren, sc.ren, tb_ren, x32, hab, hac]; rfl))) | (apply TailK.go; (focus (simp (maxSteps := 9999999) (disch := omega) only [go_sem, h1, sa.ren, sb.ren, sc.ren, tb_ren, x32, hab, hac]; rfl))) | refine AWpA.skip ?_ | refine AWpA.exit ?_ | refine AWpA.ret ?_ | (with_reducible refine ARoundsA.succ ?_) | ((first | refine Runs.kt (by assumption) (fun h9 => ?_) | refine Runs.kf (by assumption) (fun h9 => ?_) | refine Runs.nt (by assumption) (fun h9 => ?_) | refine Runs.nf (by assumption) (fun h9 => ?_) | refine CondP.ht (by assumption) (fun h9 => ?_) | refine CondP.hf (by assumption) (fun h9 => ?_) | refine CondP.nt (by assumption) (fun h9 => ?_) | refine CondP.nf (by assumption) (fun h9 => ?_)); (try simp only [h9]); clear h9) | ((first | (with_reducible apply CallG.plain1 [3, 37, 4] (o1)) | (with_reducible apply CallG.draw1 [3, 37, 4] (o1))); (focus ((try refine And.intro (leAs_of_eq rfl) ?_); (try refine And.intro (leOL_of_eq rfl) ?_); simp (maxSteps := 9999999) (disch := omega) only [go_sem, h1, sa.ren, sb.ren, sc.ren, tb_ren, x32, hab, hac]; first | done | (repeat' (first | rfl | (refine And.intro ?_ ?_))))); (focus (simp (maxSteps := 9999999) (disch := omega) only [go_sem, h1, sa.ren, sb.ren, sc.ren, tb_ren, x32, hab, hac]; rfl))) | ((first | (with_reducible apply CallG.plain1 [3, 85, 0] (oa)) | (with_reducible apply CallG.draw1 [3, 85, 0] (oa))); (focus ((try refine And.intro (leAs_of_eq rfl) ?_); (try refine And.intro (leOL_of_eq rfl) ?_); simp (maxSteps := 9999999) (disch := omega) only [go_sem, h1, sa.ren, sb.ren, sc.ren, tb_ren, x32, hab, hac]; first | done | (repeat' (first | rfl | (refine And.intro ?_ ?_))))); (focus (simp (maxSteps := 9999999) (disch := omega) only [go_sem, h1, sa.ren, sb.ren, sc.ren, tb_ren, x32, hab, hac]; rfl))) | ((first | (with_reducible apply CallG.plain1 [3, 133, 1] (ob)) | (with_reducible apply CallG.draw1 [3, 133, 1] (ob))); (focus ((try refine And.intro (leAs_of_eq rfl) ?_); (try refine And.intro (leOL_of_eq rfl) ?_); simp (maxSteps := 9999999) (disch := omega) only [go_sem, h1, sa.ren, sb.ren, sc.ren, tb_ren, x32, hab, hac]; first | done | (repeat' (first | rfl | (refine And.intro ?_ ?_))))); (focus (simp (maxSteps := 9999999) (disch := omega) only [go_sem, h1, sa.ren, sb.ren, sc.ren, tb_ren, x32, hab, hac]; rfl))) | ((first | (with_reducible apply CallG.plain1 [3, 197, 2] (oc)) | (with_reducible apply CallG.draw1 [3, 197, 2] (oc))); (focus ((try refine And.intro (leAs_of_eq rfl) ?_); (try refine And.intro (leOL_of_eq rfl) ?_); simp (maxSteps := 9999999) (disch := omega) only [go_sem, h1, sa.ren, sb.ren, sc.ren, tb_ren, x32, hab, hac]; first | done | (repeat' (first | rfl | (refine And.intro ?_ ?_))))); (focus (simp (maxSteps := 9999999) (disch := omega) only [go_sem, h1, sa.ren, sb.ren, sc.ren, tb_ren, x32, hab, hac]; rfl)))); (try simp (maxSteps := 9999999) (disch := omega) only [go_sem, h1, sa.ren, sb.ren, sc.ren, tb_ren, x32, hab, hac]); (try (refine And.intro ?_ ?_; (focus (first | omega | (simp only [go_sem]; done) | (simp; done) | (simp; omega) | assumption))))) | ((first | refine CondP.split (fun hif => ?_) (fun hif => ?_) | refine Runs.part (fun hif => ?_) (fun hif => ?_)) <;> ((try simp only [hif]); (try simp only [decide_eq_true_eq, decide_eq_false_iff_not, Bool.not_eq_true, Bool.not_eq_false, Bool.not_eq_true', Bool.not_eq_false', beq_iff_eq, bne_iff_ne, bne_eq_false_iff_eq, beq_eq_false_iff_ne, ne_eq, Bool.and_eq_true, Bool.or_eq_true, Bool.or_eq_false_iff] at hif); (try (have h9 : _ = true := hif; simp only [h9])); (try (have h9 : _ = false := hif; simp only [h9])); (try simp (maxSteps := 9999999) (disch := omega) only [go_sem, h1, sa.ren, sb.ren, sc.ren, tb_ren, x32, hab, hac]); (try (refine And.intro ?_ ?_; (focus (first | omega | (simp only [go_sem]; done) | (simp; done) | (simp; omega) | assumption)))); (try (exfalso; omega; done))))))
    (refine TopPost.of (by first | exact .inl rfl | exact .inr rfl) (by (try simp (maxSteps := 9999999) (disch := omega) only [go_sem]); rfl) ?_; (try simp (maxSteps := 9999999) (disch := omega) only [go_sem]); (try (first | trivial | decide | (simp; done))))
end Go.Proofs.Ytnadhhmlehifnaa
