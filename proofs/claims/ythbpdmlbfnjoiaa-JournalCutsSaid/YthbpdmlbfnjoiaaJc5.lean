/- The walk of JournalCuts. -/
import Derived.Test.YthbpdmlbfnjoiaaJc2
namespace Go.Proofs.Ythbpdmlbfnjoiaa
set_option linter.unusedSimpArgs false
set_option linter.unusedVariables false
set_option maxHeartbeats 4000000
open Go Go.Am Go.RowKit Go.ChangeShapes Go.WideShapes Go.ChangeAt Go.Crc
set_option linter.unusedSimpArgs false
set_option maxHeartbeats 4000000
set_option maxRecDepth 100000
/- quidnunc/quidnunclaw07.JournalCuts -/
noncomputable def c8_1 : ACode := .region false [⟨some 4, .move, [.c (.val (.bool false))], none⟩] [] [] [0, 1] false [] []
noncomputable def c8_4 : ACode := .region false [⟨some 17, .call 24, [], none⟩,
  ⟨some 18, .un .not, [.t 17], none⟩,
  ⟨some 19, .move, [.t 18], none⟩,
  ⟨some 20, .move, [.t 0], some (some 19, false)⟩,
  ⟨some 21, .call 31, [.t 20], some (some 19, false)⟩,
  ⟨some 22, .un .not, [.t 21], some (some 19, false)⟩,
  ⟨some 23, .pick, [.t 19, .c (.val (.bool true)), .t 22], none⟩] [] [] [0, 1, 23] true [] []
noncomputable def c8_7 : ACode := .region false [⟨some 24, .call 24, [], none⟩,
  ⟨some 4, .move, [.t 24], none⟩] [] [] [4] true [] []
noncomputable def c8_6 : ACode := .seq c8_7 .ret
noncomputable def c8_5 : ACode := .cond (.t 23) c8_6 .skip
noncomputable def c8_3 : ACode := .seq c8_4 c8_5
noncomputable def c8_9 : ACode := .region false [⟨some 5, .move, [.c (.val (.slice none 0 0))], none⟩] [] [] [0, 1, 5] false [] []
noncomputable def c8_11 : ACode := .region false [⟨some 6, .move, [.c (.val (.slice none 0 0))], none⟩] [] [] [0, 1, 5, 6] false [] []
noncomputable def c8_13 : ACode := .region false [⟨some 7, .move, [.c (.val (.slice none 0 0))], none⟩] [] [] [0, 1, 5, 6, 7] false [] []
noncomputable def c8_16 : ACode := .region false [⟨some 25, .move, [.t 0], none⟩,
  ⟨some 26, .len, [.t 25], none⟩,
  ⟨some 27, .move, [.c (.val (.int .i64 0))], none⟩] [] [] [1, 5, 6, 7, 25, 26, 27] false [] []
noncomputable def c8_20 : ACode := .region false [⟨some 28, .bin .lss, [.t 27, .t 26], none⟩] [] [] [1, 5, 6, 7, 25, 26, 27, 28] false [] []
noncomputable def c8_22 : ACode := .cond (.t 28) .skip (.exit 0)
noncomputable def c8_26 : ACode := .region false [⟨some 29, .ixS 1, [.t 25, .t 27], none⟩,
  ⟨some 30, .load false 1, [.t 29], none⟩,
  ⟨some 9, .move, [.t 30], none⟩] [] [] [1, 5, 6, 7, 9, 25, 26, 27] false [] []
noncomputable def c8_28 : ACode := .region false [⟨some 32, .move, [.t 9], none⟩,
  ⟨some 33, .call 25, [.t 32], none⟩,
  ⟨some 31, .move, [.t 33], none⟩,
  ⟨some 34, .ext 0, [.t 31], none⟩,
  ⟨some 35, .ext 1, [.t 31], none⟩,
  ⟨some 10, .move, [.t 34], none⟩,
  ⟨some 11, .move, [.t 35], none⟩] [] [] [1, 5, 6, 7, 9, 10, 11, 25, 26, 27] true [] []
noncomputable def c8_30 : ACode := .region false [⟨some 36, .move, [.t 11], none⟩,
  ⟨some 37, .bin .eql, [.t 36, .c (.val (.int .i64 0))], none⟩] [] [] [1, 5, 6, 7, 9, 10, 25, 26, 27, 37] false [] []
noncomputable def c8_33 : ACode := .region false [⟨some 38, .move, [.t 5], none⟩,
  ⟨some 39, .move, [.t 10], none⟩,
  ⟨some 40, .append 1 1 false, [.t 38, .t 39], none⟩,
  ⟨some 5, .move, [.t 40], none⟩] [] [] [1, 5, 6, 7, 9, 25, 26, 27] true [] []
noncomputable def c8_35 : ACode := .region false [⟨some 41, .move, [.t 6], none⟩,
  ⟨some 42, .move, [.t 9], none⟩,
  ⟨some 43, .buildSl 1 1 [(.slice none 0 0)] [(0, 1)], [.t 42], none⟩,
  ⟨some 44, .append 1 24 false, [.t 41, .t 43], none⟩,
  ⟨some 6, .move, [.t 44], none⟩] [] [] [1, 5, 6, 7, 25, 26, 27] true [] []
noncomputable def c8_36 : ACode := .region false [⟨some 45, .move, [.t 7], none⟩,
  ⟨some 46, .move, [.t 5], none⟩,
  ⟨some 47, .len, [.t 46], none⟩,
  ⟨some 48, .buildSl 1 1 [(.int .i64 0)] [(0, 1)], [.t 47], none⟩,
  ⟨some 49, .append 1 8 false, [.t 45, .t 48], none⟩,
  ⟨some 7, .move, [.t 49], none⟩] [] [] [1, 5, 6, 7, 25, 26, 27] true [] []
noncomputable def c8_34 : ACode := .seq c8_35 c8_36
noncomputable def c8_32 : ACode := .seq c8_33 c8_34
noncomputable def c8_31 : ACode := .cond (.t 37) c8_32 .skip
noncomputable def c8_29 : ACode := .seq c8_30 c8_31
noncomputable def c8_27 : ACode := .seq c8_28 c8_29
noncomputable def c8_25 : ACode := .seq c8_26 c8_27
noncomputable def c8_24 : ACode := .block 1 c8_25
noncomputable def c8_37 : ACode := .region false [⟨some 50, .bin .add, [.t 27, .c (.val (.int .i64 1))], none⟩,
  ⟨some 27, .move, [.t 50], none⟩] [] [] [1, 5, 6, 7, 25, 26, 27] false [] []
noncomputable def c8_23 : ACode := .seq c8_24 c8_37
noncomputable def c8_21 : ACode := .seq c8_22 c8_23
noncomputable def c8_19 : ACode := .seq c8_20 c8_21
noncomputable def c8_18 : ACode := .loop c8_19
noncomputable def c8_17 : ACode := .block 0 c8_18
noncomputable def c8_15 : ACode := .seq c8_16 c8_17
noncomputable def c8_39 : ACode := .region false [⟨some 51, .move, [.t 1], none⟩,
  ⟨some 52, .bin .and, [.t 51, .c (.val (.int .i64 1048575))], none⟩,
  ⟨some 53, .move, [.t 5], none⟩,
  ⟨some 54, .len, [.t 53], none⟩,
  ⟨some 55, .bin .add, [.t 54, .c (.val (.int .i64 1))], none⟩,
  ⟨some 56, .bin .rem, [.t 52, .t 55], none⟩,
  ⟨some 12, .move, [.t 56], none⟩] [] [] [5, 6, 7, 12] false [] []
noncomputable def c8_41 : ACode := .region false [⟨some 13, .move, [.c (.val (.int .i64 0))], none⟩] [] [] [5, 6, 7, 12, 13] false [] []
noncomputable def c8_47 : ACode := .region false [⟨some 57, .move, [.t 13], none⟩,
  ⟨some 58, .move, [.t 7], none⟩,
  ⟨some 59, .len, [.t 58], none⟩,
  ⟨some 60, .bin .lss, [.t 57, .t 59], none⟩,
  ⟨some 61, .move, [.t 60], none⟩,
  ⟨some 62, .move, [.t 7], some (some 61, true)⟩,
  ⟨some 63, .move, [.t 13], some (some 61, true)⟩,
  ⟨some 64, .ixS 1, [.t 62, .t 63], some (some 61, true)⟩,
  ⟨some 65, .load false 1, [.t 64], some (some 61, true)⟩,
  ⟨some 66, .move, [.t 12], some (some 61, true)⟩,
  ⟨some 67, .bin .leq, [.t 65, .t 66], some (some 61, true)⟩,
  ⟨some 68, .pick, [.t 61, .t 67, .c (.val (.bool false))], none⟩] [] [] [5, 6, 7, 12, 13, 68] false [] []
noncomputable def c8_48 : ACode := .cond (.t 68) .skip (.exit 2)
noncomputable def c8_46 : ACode := .seq c8_47 c8_48
noncomputable def c8_50 : ACode := .region false [⟨some 69, .move, [.t 13], none⟩,
  ⟨some 70, .bin .add, [.t 69, .c (.val (.int .i64 1))], none⟩,
  ⟨some 13, .move, [.t 70], none⟩] [] [] [5, 6, 7, 12, 13] false [] []
noncomputable def c8_49 : ACode := .block 3 c8_50
noncomputable def c8_45 : ACode := .seq c8_46 c8_49
noncomputable def c8_44 : ACode := .loop c8_45
noncomputable def c8_43 : ACode := .block 2 c8_44
noncomputable def c8_52 : ACode := .region false [⟨some 72, .move, [.t 5], none⟩,
  ⟨some 73, .move, [.t 12], none⟩,
  ⟨some 74, .slS 1 false true false, [.t 72, .t 73], none⟩,
  ⟨some 75, .call 28, [.t 74], none⟩,
  ⟨some 71, .move, [.t 75], none⟩,
  ⟨some 76, .ext 0, [.t 71], none⟩,
  ⟨some 77, .ext 1, [.t 71], none⟩,
  ⟨some 78, .ext 2, [.t 71], none⟩,
  ⟨some 14, .move, [.t 76], none⟩,
  ⟨some 15, .move, [.t 77], none⟩,
  ⟨some 16, .move, [.t 78], none⟩] [] [] [6, 7, 13, 14, 15, 16] true [] []
noncomputable def c8_55 : ACode := .region false [⟨some 79, .move, [.t 16], none⟩,
  ⟨some 80, .bin .neq, [.t 79, .c (.val (.int .i64 0))], none⟩,
  ⟨some 81, .move, [.t 80], none⟩,
  ⟨some 82, .move, [.t 14], some (some 81, false)⟩,
  ⟨some 83, .move, [.t 6], some (some 81, false)⟩,
  ⟨some 84, .move, [.t 13], some (some 81, false)⟩,
  ⟨some 85, .slS 1 false true false, [.t 83, .t 84], some (some 81, false)⟩,
  ⟨some 86, .call 30, [.t 82, .t 85], some (some 81, false)⟩,
  ⟨some 87, .un .not, [.t 86], some (some 81, false)⟩,
  ⟨some 88, .pick, [.t 81, .c (.val (.bool true)), .t 87], none⟩] [] [] [7, 13, 15, 88] true [] []
noncomputable def c8_58 : ACode := .region false [⟨some 4, .move, [.c (.val (.bool false))], none⟩] [] [] [4] false [] []
noncomputable def c8_57 : ACode := .seq c8_58 .ret
noncomputable def c8_56 : ACode := .cond (.t 88) c8_57 .skip
noncomputable def c8_54 : ACode := .seq c8_55 c8_56
noncomputable def c8_60 : ACode := .region false [⟨some 89, .move, [.t 13], none⟩,
  ⟨some 90, .bin .eql, [.t 89, .c (.val (.int .i64 0))], none⟩,
  ⟨some 91, .move, [.t 90], none⟩,
  ⟨some 92, .move, [.t 15], some (some 91, true)⟩,
  ⟨some 93, .bin .eql, [.t 92, .c (.val (.int .i64 0))], some (some 91, true)⟩,
  ⟨some 94, .pick, [.t 91, .t 93, .c (.val (.bool false))], none⟩,
  ⟨some 95, .move, [.t 94], none⟩,
  ⟨some 96, .move, [.t 13], some (some 95, false)⟩,
  ⟨some 97, .bin .gtr, [.t 96, .c (.val (.int .i64 0))], some (some 95, false)⟩,
  ⟨some 98, .move, [.t 97], some (some 95, false)⟩,
  ⟨some 99, .move, [.t 15], some (some 98, true)⟩,
  ⟨some 100, .move, [.t 7], some (some 98, true)⟩,
  ⟨some 101, .move, [.t 13], some (some 98, true)⟩,
  ⟨some 102, .bin .sub, [.t 101, .c (.val (.int .i64 1))], some (some 98, true)⟩,
  ⟨some 103, .ixS 1, [.t 100, .t 102], some (some 98, true)⟩,
  ⟨some 104, .load false 1, [.t 103], some (some 98, true)⟩,
  ⟨some 105, .bin .eql, [.t 99, .t 104], some (some 98, true)⟩,
  ⟨some 106, .pick, [.t 98, .t 105, .c (.val (.bool false))], some (some 95, false)⟩,
  ⟨some 107, .pick, [.t 95, .c (.val (.bool true)), .t 106], none⟩,
  ⟨some 4, .move, [.t 107], none⟩] [] [] [4] false [] []
noncomputable def c8_59 : ACode := .seq c8_60 .ret
noncomputable def c8_53 : ACode := .seq c8_54 c8_59
noncomputable def c8_51 : ACode := .seq c8_52 c8_53
noncomputable def c8_42 : ACode := .seq c8_43 c8_51
noncomputable def c8_40 : ACode := .seq c8_41 c8_42
noncomputable def c8_38 : ACode := .seq c8_39 c8_40
noncomputable def c8_14 : ACode := .seq c8_15 c8_38
noncomputable def c8_12 : ACode := .seq c8_13 c8_14
noncomputable def c8_10 : ACode := .seq c8_11 c8_12
noncomputable def c8_8 : ACode := .seq c8_9 c8_10
noncomputable def c8_2 : ACode := .seq c8_3 c8_8
noncomputable def c8_0 : ACode := .seq c8_1 c8_2
noncomputable def code8 : Code := (Try.f8.body).getD .skip
theorem c8_ok : compC Try.prog 108 code8 = some (strip c8_0) := by kernel_rfl
theorem res8_ok : Try.f8.results.toList.mapM (resC Try.prog) = some [(4, none)] := by kernel_rfl
def iA (l : List Nat) : List AV := l.map fun n : Nat => I (n : Int)
theorem iA_ren (ρ : List Nat) (l : List Nat) : renL ρ (iA l) = iA l := renL_map ρ (fun n : Nat => I (n : Int)) (fun _ => rfl) l
theorem iA_len (l : List Nat) : (iA l).length = l.length := by simp [iA]
theorem iA_noAny (l : List Nat) : noAny (iA l) = True := noAny_vals (fun n : Nat => .int .i64 (n : Int)) l
theorem iA_snoc (l : List Nat) (n : Nat) : iA l ++ [I (n : Int)] = iA (l ++ [n]) := by simp [iA]
theorem iA_take (l : List Nat) : (iA l).take l.length = iA l := List.take_of_length_le (by rw [iA_len]; exact Nat.le_refl _)
theorem iA_getD {l : List Nat} {i : Nat} (h : i < l.length) : (iA l).getD i .bad = I (l[i] : Int) := by
  rw [List.getD_eq_getElem?_getD, iA, List.getElem?_map, List.getElem?_eq_getElem h]; rfl
/-- Where records end. -/
def enL (g : List (List Int)) : List Nat := (List.range g.length).map fun i => (catR (g.take (i + 1))).length
theorem enL_nil : enL [] = [] := rfl
theorem iA_nil : iA [] = [] := rfl
theorem enL_len (g : List (List Int)) : (enL g).length = g.length := by simp [enL]
theorem enL_at {g : List (List Int)} {i : Nat} (h : i < (enL g).length) : (enL g)[i] = (catR (g.take (i + 1))).length := by simp [enL]
theorem enL_snoc (g : List (List Int)) (b : List Int) : enL (g ++ [b]) = enL g ++ [(catR (g ++ [b])).length] := by
  apply List.ext_getElem
  · simp [enL_len]
  · intro i h1 h2
    rw [enL_at]
    rcases Nat.lt_or_ge i (enL g).length with h | h
    · rw [List.getElem_append_left h, enL_at]
      rw [enL_len] at h
      rw [List.take_append_of_le_length (by omega)]
    · rw [List.getElem_append_right h]
      rw [enL_len] at h1 h
      simp only [List.length_append, List.length_cons, List.length_nil] at h1
      obtain rfl : i = g.length := by omega
      simp [enL_len, List.take_of_length_le]
theorem jcuts_walk (W : World) (x : Sl (Sl Int)) (at1 : Int) (ht : x.ok W 1 (fun s : Sl Int => s.rep) (Sl.ok W 1 (fun n : Int => [.int .u8 n]) (fun n : Int => IntKind.u8.min ≤ n ∧ n ≤ IntKind.u8.max))) :
    Calls Try.prog 8 #[.slice x.ad x.l.length x.cap, .int .i64 at1] W fun e W' => e = .returned (.bool true) ∧ Below W.heap.size W W' := by
  obtain ⟨ad, off, cap, l0⟩ := x
  have hz := ht.fz
  have hall := ht.all
  have hln := ht.len
  simp only at hz hall hln
  have sg : SegR (rowsC off (fun s : Sl Int => [fzB s.l]) l0) off (l0.map (·.l)) := SegR.rows (fun _ => rfl) (Nat.le_trans hln (by decide))
  have hby0 : ∀ l ∈ l0.map (·.l), ∀ x ∈ l, 0 ≤ x ∧ x ≤ 255 := by
    intro l hl
    obtain ⟨s, hs, rfl⟩ := List.mem_map.1 hl
    exact (hall s hs).all
  refine top_call c8_ok Try.func8 rfl Try.ntmps8 res8_ok [ .val (.slice ad l0.length cap), I at1] (by simp) (by (repeat' (first | exact VRs_nil' _ | exact VR_val' _ _ | (refine VRs_cons' ?_ ?_) | (refine VR_agg' (by first | rfl | assumption) ?_; first | assumption | simp [Value.oneCell'])))) ?_; try simp (maxSteps := 9999999) (disch := omega) only [go_sem]
  refine AWpA.thawT 0 (fun s : Sl Int => [.val (.slice s.ad s.l.length s.cap)]) hz (fun _ => rfl) rfl ?_
  refine AWpA.frzO 0 rfl (frz_rows fun s hs => (hall s hs).fz) ?_
  have hl0 : l0.length = (l0.map (·.l)).length := by simp
  rw [hl0]
  clear hz hall hln hl0
  generalize rowsC off (fun s : Sl Int => [fzB s.l]) l0 = P at sg
  generalize l0.map (·.l) = ls at *
  have hle := sg.le
  have hfw := few_any sg
  cases hf : fewB ls
  · rw [hf] at hfw
    (have k9 := And.intro @sg.ren (k0); (repeat' (first | refine AWpA.seq ?_ | refine AWpA.block ?_ | (with_reducible refine CondP.tt ?_) | (with_reducible refine CondP.ff ?_) | refine AWpA.cg ?_ | ((first | refine AWpA.rg ?_ | refine AWpA.dg [] [] follows ?_ | refine TailK.tg ?_ | refine AWpA.skip ?_ | refine AWpA.exit ?_ | refine AWpA.ret ?_ | (with_reducible refine ARoundsA.succ ?_) | ((first | refine Runs.gkt (fun h9 => ?_) | refine Runs.gkf (fun h9 => ?_) | refine Runs.gnt (fun h9 => ?_) | refine Runs.gnf (fun h9 => ?_) | refine CondP.gt (fun h9 => ?_) | refine CondP.gf (fun h9 => ?_) | refine CondP.gnt (fun h9 => ?_) | refine CondP.gnf (fun h9 => ?_)); (try simp only [h9]); clear h9) | refine CallG.pg [] (speaks07_any) ?_ | refine CallG.pg [0] (hfw) ?_ | refine CallG.dg [] (speaks07_any) ?_ | refine CallG.dg [0] (hfw) ?_); (try simp (maxSteps := 9999999) (disch := omega) only [go_sem, k9]); (try refine cnd ?_)) | ((first | refine CondP.split (fun hif => ?_) (fun hif => ?_) | refine Runs.part (fun hif => ?_) (fun hif => ?_)) <;> ((try simp only [hif]); (try simp only [BL] at hif); (try (have h9 : _ = true := hif; simp only [h9])); (try (have h9 : _ = false := hif; simp only [h9])); (try simp (maxSteps := 9999999) (disch := omega) only [go_sem, k9]); (try refine cnd ?_); (try (exfalso; omega; done)))))); (all_goals (try clear k9)))
    (refine TopPost.of (by first | exact .inl rfl | exact .inr rfl) (by (try simp (maxSteps := 9999999) (disch := omega) only [go_sem]); rfl) ?_; (try simp (maxSteps := 9999999) (disch := omega) only [go_sem]); (try (first | trivial | decide | (simp; done))))
  rw [hf] at hfw
  obtain ⟨hf1, hf2⟩ := fewB_yes hf
  (have k9 := And.intro @sg.ren (k0); (repeat' (first | refine AWpA.seq ?_ | refine AWpA.block ?_ | (with_reducible refine CondP.tt ?_) | (with_reducible refine CondP.ff ?_) | refine AWpA.cg ?_ | ((first | refine AWpA.rg ?_ | refine AWpA.dg [] [] follows ?_ | refine TailK.tg ?_ | refine AWpA.skip ?_ | refine AWpA.exit ?_ | refine AWpA.ret ?_ | (with_reducible refine ARoundsA.succ ?_) | ((first | refine Runs.gkt (fun h9 => ?_) | refine Runs.gkf (fun h9 => ?_) | refine Runs.gnt (fun h9 => ?_) | refine Runs.gnf (fun h9 => ?_) | refine CondP.gt (fun h9 => ?_) | refine CondP.gf (fun h9 => ?_) | refine CondP.gnt (fun h9 => ?_) | refine CondP.gnf (fun h9 => ?_)); (try simp only [h9]); clear h9) | refine CallG.pg [] (speaks07_any) ?_ | refine CallG.pg [0] (hfw) ?_ | refine CallG.dg [] (speaks07_any) ?_ | refine CallG.dg [0] (hfw) ?_); (try simp (maxSteps := 9999999) (disch := omega) only [go_sem, k9]); (try refine cnd ?_)) | ((first | refine CondP.split (fun hif => ?_) (fun hif => ?_) | refine Runs.part (fun hif => ?_) (fun hif => ?_)) <;> ((try simp only [hif]); (try simp only [BL] at hif); (try (have h9 : _ = true := hif; simp only [h9])); (try (have h9 : _ = false := hif; simp only [h9])); (try simp (maxSteps := 9999999) (disch := omega) only [go_sem, k9]); (try refine cnd ?_); (try (exfalso; omega; done)))))); (all_goals (try clear k9)))
  refine AWpA.dummy ?_
  refine AWpA.dummy ?_
  refine AWpA.dummy ?_
  (apply AWpA.loopL (fun i : Nat => [(1, I at1), (5, .sl 1 0 (catR (gd (ls.take i))).length 1 none), (6, .sl 2 0 (gd (ls.take i)).length 1 none), (7, .sl 3 0 (gd (ls.take i)).length 1 none), (25, .sl 0 off ls.length 1 none), (26, I ls.length), (27, I i)]) (fun i => [.cells true P, .cells false (bA (catR (gd (ls.take i)))), .cells false (rowsB (gd (ls.take i))), .cells false (iA (enL (gd (ls.take i))))]) (fun i => ls.length - i) (fun i => i ≤ ls.length) (0) [0, 225, 226, 227]; rotate_left; (focus (simp (maxSteps := 9999999) (disch := omega) only [go_sem, sg.ren, List.take_zero, gd_nil, catR_nil, bA_nil, rowsB_nil, iA_nil, enL_nil, List.length_nil]; (try (repeat' (first | done | trivial | rfl | exact leAs_rfl _ | decide | (refine And.intro ?_ ?_) | (simp; done) | omega | (simp; decide)))))); rotate_right)
  · exact Nat.zero_le _
  rintro i hi
  (try simp only at hi)
  have hgl := gd_len (ls.take i)
  have htl : (ls.take i).length = i := by rw [List.length_take]; omega
  have hgg : ∀ l ∈ gd (ls.take i), goodR l := gd_good fun l hl => hby0 l (List.mem_of_mem_take hl)
  have hcb := catR_bound hgg
  by_cases hin : i < ls.length
  · have g2 : ((i : Int) < (ls.length : Int)) = True := eq_true (by omega)
    have g3 := sg.at i hin
    have g4 := gd_take hin
    have hb := hby0 ls[i] (List.getElem_mem hin)
    have hl6 := hf1 ls[i] (List.getElem_mem hin)
    generalize ls[i] = c at g3 g4 hb hl6
    generalize gd (ls.take i) = g at *
    have c1 := rec_any c (by omega) hb
    by_cases hr : recE c = 0
    · rw [if_pos hr] at g4
      have e2 : recR c = recB c := by unfold recR; rw [if_pos hr]
      rw [hr, e2] at c1
      have hrl := recB_len c
      have h5 := (recE_0 hr).2
      have g5 : catR g ++ recB c = catR (g ++ [c]) := by rw [catR_app, catR_one]
      have g6 : (catR (g ++ [c])).length = (catR g).length + (c.length + 10) := by rw [← g5, List.length_append, hrl]
      have g7 := enL_snoc g c
      rw [g6] at g7
      have hen := enL_len g
      have hta : (iA (enL g)).take g.length = iA (enL g) := by rw [← hen]; exact iA_take _
      have hsn : iA (enL g) ++ [I (((catR g).length : Int) + ((c.length : Int) + 10))] = iA (enL (g ++ [c])) := by rw [g7, ← iA_snoc]; congr 3
      generalize recB c = B at *
      (try simp (maxSteps := 9999999) (disch := omega) only [go_sem])
      (have k9 := And.intro @g2 (And.intro @g3 (And.intro @hrl (And.intro @hen (And.intro @hta (And.intro @sg.ren (And.intro @iA_len (And.intro @iA_noAny (k0)))))))); (repeat' (first | refine AWpA.seq ?_ | refine AWpA.block ?_ | (with_reducible refine CondP.tt ?_) | (with_reducible refine CondP.ff ?_) | refine AWpA.cg ?_ | ((first | refine AWpA.rg ?_ | refine AWpA.dg [] [] follows ?_ | refine TailK.tg ?_ | refine AWpA.skip ?_ | refine AWpA.exit ?_ | refine AWpA.ret ?_ | (with_reducible refine ARoundsA.succ ?_) | ((first | refine Runs.gkt (fun h9 => ?_) | refine Runs.gkf (fun h9 => ?_) | refine Runs.gnt (fun h9 => ?_) | refine Runs.gnf (fun h9 => ?_) | refine CondP.gt (fun h9 => ?_) | refine CondP.gf (fun h9 => ?_) | refine CondP.gnt (fun h9 => ?_) | refine CondP.gnf (fun h9 => ?_)); (try simp only [h9]); clear h9) | refine CallG.pg [] (c1) ?_ | refine CallG.dg [] (c1) ?_); (try simp (maxSteps := 9999999) (disch := omega) only [go_sem, k9]); (try refine cnd ?_)) | ((first | refine CondP.split (fun hif => ?_) (fun hif => ?_) | refine Runs.part (fun hif => ?_) (fun hif => ?_)) <;> ((try simp only [hif]); (try simp only [BL] at hif); (try (have h9 : _ = true := hif; simp only [h9])); (try (have h9 : _ = false := hif; simp only [h9])); (try simp (maxSteps := 9999999) (disch := omega) only [go_sem, k9]); (try refine cnd ?_); (try (exfalso; omega; done)))))); (all_goals (try clear k9)))
      (apply Back.to (i + 1) [0, 244, 324, 420]; (focus ((try simp (maxSteps := 9999999) (disch := omega) only [go_sem, g4, g5, g6, hta, hsn, sg.ren, iA_ren]); first | done | omega)); rotate_left; (focus (simp (maxSteps := 9999999) (disch := omega) only [go_sem, g4, g5, g6, hta, hsn, sg.ren, iA_ren]; (try (repeat' (first | done | trivial | rfl | exact leAs_rfl _ | decide | (refine And.intro ?_ ?_) | (simp; done) | omega | (simp; decide)))))))
      all_goals omega
    · rw [if_neg hr] at g4
      have g5 : (recE c == 0) = false := by rw [beq_eq_false_iff_ne]; exact hr
      generalize recE c = E at *
      generalize recR c = B at *
      (try simp (maxSteps := 9999999) (disch := omega) only [go_sem])
      (have k9 := And.intro @g2 (And.intro @g3 (And.intro @g5 (And.intro @sg.ren (k0)))); (repeat' (first | refine AWpA.seq ?_ | refine AWpA.block ?_ | (with_reducible refine CondP.tt ?_) | (with_reducible refine CondP.ff ?_) | refine AWpA.cg ?_ | ((first | refine AWpA.rg ?_ | refine AWpA.dg [] [] follows ?_ | refine TailK.tg ?_ | refine AWpA.skip ?_ | refine AWpA.exit ?_ | refine AWpA.ret ?_ | (with_reducible refine ARoundsA.succ ?_) | ((first | refine Runs.gkt (fun h9 => ?_) | refine Runs.gkf (fun h9 => ?_) | refine Runs.gnt (fun h9 => ?_) | refine Runs.gnf (fun h9 => ?_) | refine CondP.gt (fun h9 => ?_) | refine CondP.gf (fun h9 => ?_) | refine CondP.gnt (fun h9 => ?_) | refine CondP.gnf (fun h9 => ?_)); (try simp only [h9]); clear h9) | refine CallG.pg [] (c1) ?_ | refine CallG.dg [] (c1) ?_); (try simp (maxSteps := 9999999) (disch := omega) only [go_sem, k9]); (try refine cnd ?_)) | ((first | refine CondP.split (fun hif => ?_) (fun hif => ?_) | refine Runs.part (fun hif => ?_) (fun hif => ?_)) <;> ((try simp only [hif]); (try simp only [BL] at hif); (try (have h9 : _ = true := hif; simp only [h9])); (try (have h9 : _ = false := hif; simp only [h9])); (try simp (maxSteps := 9999999) (disch := omega) only [go_sem, k9]); (try refine cnd ?_); (try (exfalso; omega; done)))))); (all_goals (try clear k9)))
      (apply Back.to (i + 1) [0, 1, 2, 3]; (focus ((try simp (maxSteps := 9999999) (disch := omega) only [go_sem, g4, sg.ren, iA_ren]); first | done | omega)); rotate_left; (focus (simp (maxSteps := 9999999) (disch := omega) only [go_sem, g4, sg.ren, iA_ren]; (try (repeat' (first | done | trivial | rfl | exact leAs_rfl _ | decide | (refine And.intro ?_ ?_) | (simp; done) | omega | (simp; decide)))))))
      all_goals omega
  · obtain rfl : i = ls.length := by omega
    rw [List.take_length] at *
    generalize gd ls = g at *
    obtain ⟨fq, hfq, hfq2⟩ := low20 at1
    have g4 : ((fq : Int)).tmod (((catR g).length : Int) + 1) = ((fq % ((catR g).length + 1) : Nat) : Int) := by
      rw [Int.tmod_eq_emod_of_nonneg (by omega)]
      exact (Int.natCast_emod _ _).symm
    have hlt : fq % ((catR g).length + 1) < (catR g).length + 1 := Nat.mod_lt _ (by omega)
    generalize fq % ((catR g).length + 1) = k at *
    (try simp (maxSteps := 9999999) (disch := omega) only [go_sem])
    (have k9 := And.intro @g4 (And.intro @hfq (And.intro @sg.ren (k0))); (repeat' (first | refine AWpA.seq ?_ | refine AWpA.block ?_ | (with_reducible refine CondP.tt ?_) | (with_reducible refine CondP.ff ?_) | refine AWpA.cg ?_ | ((first | refine AWpA.rg ?_ | refine AWpA.dg [] [] follows ?_ | refine TailK.tg ?_ | refine AWpA.skip ?_ | refine AWpA.exit ?_ | refine AWpA.ret ?_ | (with_reducible refine ARoundsA.succ ?_) | ((first | refine Runs.gkt (fun h9 => ?_) | refine Runs.gkf (fun h9 => ?_) | refine Runs.gnt (fun h9 => ?_) | refine Runs.gnf (fun h9 => ?_) | refine CondP.gt (fun h9 => ?_) | refine CondP.gf (fun h9 => ?_) | refine CondP.gnt (fun h9 => ?_) | refine CondP.gnf (fun h9 => ?_)); (try simp only [h9]); clear h9)); (try simp (maxSteps := 9999999) (disch := omega) only [go_sem, k9]); (try refine cnd ?_)) | ((first | refine CondP.split (fun hif => ?_) (fun hif => ?_) | refine Runs.part (fun hif => ?_) (fun hif => ?_)) <;> ((try simp only [hif]); (try simp only [BL] at hif); (try (have h9 : _ = true := hif; simp only [h9])); (try (have h9 : _ = false := hif; simp only [h9])); (try simp (maxSteps := 9999999) (disch := omega) only [go_sem, k9]); (try refine cnd ?_); (try (exfalso; omega; done)))))); (all_goals (try clear k9)))
    clear sg hfw hby0 hf1 hf hle
    have hen := enL_len g
    (apply AWpA.loopL (fun n : Nat => [(5, .sl 0 0 (catR g).length 1 none), (6, .sl 1 0 g.length 1 none), (7, .sl 2 0 g.length 1 none), (12, I k), (13, I n)]) (fun n => [.cells false (bA (catR g)), .cells false (rowsB g), .cells false (iA (enL g))]) (fun n => g.length - n) (fun n => n ≤ g.length ∧ (catR (g.take n)).length ≤ k) (0) [1, 2, 3]; rotate_left; (focus (simp (maxSteps := 9999999) (disch := omega) only [go_sem, iA_ren]; (try (repeat' (first | done | trivial | rfl | exact leAs_rfl _ | decide | (refine And.intro ?_ ?_) | (simp; done) | omega | (simp; decide)))))); rotate_right)
    · exact ⟨Nat.zero_le _, by simp [catR_nil]⟩
    rintro n ⟨hn, hk⟩
    (try simp only at hn hk)
    have hge : ∀ l ∈ g, recE l = 0 := fun l hl => (hgg l hl).1
    by_cases hng : n < g.length ∧ (catR (g.take (n + 1))).length ≤ k
    · obtain ⟨h1, h2⟩ := hng
      have g5 : ((n : Int) < (g.length : Int)) = True := eq_true (by omega)
      have g6 : (iA (enL g)).getD n .bad = I ((catR (g.take (n + 1))).length : Int) := by rw [iA_getD (by omega), enL_at]
      have g7 : (((catR (g.take (n + 1))).length : Int) ≤ (k : Int)) = True := eq_true (by omega)
      (try simp (maxSteps := 9999999) (disch := omega) only [go_sem])
      (have k9 := And.intro @g5 (And.intro @g6 (And.intro @g7 (And.intro @hen (And.intro @iA_len (k0))))); (repeat' (first | refine AWpA.seq ?_ | refine AWpA.block ?_ | (with_reducible refine CondP.tt ?_) | (with_reducible refine CondP.ff ?_) | refine AWpA.cg ?_ | ((first | refine AWpA.rg ?_ | refine AWpA.dg [] [] follows ?_ | refine TailK.tg ?_ | refine AWpA.skip ?_ | refine AWpA.exit ?_ | refine AWpA.ret ?_ | (with_reducible refine ARoundsA.succ ?_) | ((first | refine Runs.gkt (fun h9 => ?_) | refine Runs.gkf (fun h9 => ?_) | refine Runs.gnt (fun h9 => ?_) | refine Runs.gnf (fun h9 => ?_) | refine CondP.gt (fun h9 => ?_) | refine CondP.gf (fun h9 => ?_) | refine CondP.gnt (fun h9 => ?_) | refine CondP.gnf (fun h9 => ?_)); (try simp only [h9]); clear h9)); (try simp (maxSteps := 9999999) (disch := omega) only [go_sem, k9]); (try refine cnd ?_)) | ((first | refine CondP.split (fun hif => ?_) (fun hif => ?_) | refine Runs.part (fun hif => ?_) (fun hif => ?_)) <;> ((try simp only [hif]); (try simp only [BL] at hif); (try (have h9 : _ = true := hif; simp only [h9])); (try (have h9 : _ = false := hif; simp only [h9])); (try simp (maxSteps := 9999999) (disch := omega) only [go_sem, k9]); (try refine cnd ?_); (try (exfalso; omega; done)))))); (all_goals (try clear k9)))
      (apply Back.to (n + 1) [0, 1, 2]; (focus ((try simp (maxSteps := 9999999) (disch := omega) only [go_sem, iA_ren]); first | done | omega)); rotate_left; (focus (simp (maxSteps := 9999999) (disch := omega) only [go_sem, iA_ren]; (try (repeat' (first | done | trivial | rfl | exact leAs_rfl _ | decide | (refine And.intro ?_ ?_) | (simp; done) | omega | (simp; decide)))))))
      exact ⟨by omega, h2⟩
    · have hcut := jread_cut hge hn hk (fun h => by omega)
      have hlk : ((catR g).take k).length = k := by rw [List.length_take]; omega
      have htn : (g.take n).length = n := by rw [List.length_take]; omega
      have hbk : ∀ x ∈ (catR g).take k, 0 ≤ x ∧ x ≤ 255 := fun x hx => catR_bytes hgg x (List.mem_of_mem_take hx)
      have c1 := jread_any ((catR g).take k) (by omega) hbk
      rw [hcut] at c1
      have hbt : ∀ r ∈ g.take n, ∀ x ∈ r, 0 ≤ x ∧ x ≤ 255 := fun r hr => (hgg r (List.mem_of_mem_take hr)).2
      have c2 := same_ff (l := g.take n) (m := g.take n) (by omega) (by omega) hbt hbt
      rw [decide_eq_true rfl] at c2
      simp only [FL, fzB, hlk, htn] at c1 c2
      have g8 : (k ≤ (catR g).length) = True := eq_true (by omega)
      have g9 : ((n : Int) ≤ (g.length : Int)) = True := eq_true (by omega)
      by_cases h0 : n = 0
      · subst h0
        have hca : catR (g.take 0) = [] := rfl
        rw [hca] at c1
        simp only [List.take_zero, List.length_nil, rowsB_nil] at c1 c2
        by_cases h1 : 0 < g.length
        · have g5 : ((0 : Int) < (g.length : Int)) = True := eq_true (by omega)
          have g6 : (iA (enL g)).getD 0 .bad = I ((catR (g.take (0 + 1))).length : Int) := by rw [iA_getD (by omega), enL_at]
          have g7 : (((catR (g.take (0 + 1))).length : Int) ≤ (k : Int)) = False := eq_false (by omega)
          (try simp (maxSteps := 9999999) (disch := omega) only [go_sem])
          (have k9 := And.intro @g5 (And.intro @g6 (And.intro @g7 (And.intro @g8 (And.intro @g9 (And.intro @hen (And.intro @iA_len (And.intro @rowsB_nil (k0)))))))); (repeat' (first | (refine AWpA.freeze0 0 5 rfl rfl ?_ ?_; (focus ((try simp (maxSteps := 9999999) (disch := omega) only [go_sem, k9]); first | done | omega))) | (refine AWpA.freeze0 1 6 rfl rfl ?_ ?_; (focus ((try simp (maxSteps := 9999999) (disch := omega) only [go_sem, k9]); first | done | omega))) | refine AWpA.seq ?_ | refine AWpA.block ?_ | (with_reducible refine CondP.tt ?_) | (with_reducible refine CondP.ff ?_) | refine AWpA.cg ?_ | ((first | refine AWpA.rg ?_ | refine AWpA.dg [] [] follows ?_ | refine TailK.tg ?_ | refine AWpA.skip ?_ | refine AWpA.exit ?_ | refine AWpA.ret ?_ | (with_reducible refine ARoundsA.succ ?_) | ((first | refine Runs.gkt (fun h9 => ?_) | refine Runs.gkf (fun h9 => ?_) | refine Runs.gnt (fun h9 => ?_) | refine Runs.gnf (fun h9 => ?_) | refine CondP.gt (fun h9 => ?_) | refine CondP.gf (fun h9 => ?_) | refine CondP.gnt (fun h9 => ?_) | refine CondP.gnf (fun h9 => ?_)); (try simp only [h9]); clear h9) | refine CallG.pg [] (c1) ?_ | refine CallG.pg [] (c2) ?_ | refine CallG.dg [] (c1) ?_ | refine CallG.dg [] (c2) ?_); (try simp (maxSteps := 9999999) (disch := omega) only [go_sem, k9]); (try refine cnd ?_)) | ((first | refine CondP.split (fun hif => ?_) (fun hif => ?_) | refine Runs.part (fun hif => ?_) (fun hif => ?_)) <;> ((try simp only [hif]); (try simp only [BL] at hif); (try (have h9 : _ = true := hif; simp only [h9])); (try (have h9 : _ = false := hif; simp only [h9])); (try simp (maxSteps := 9999999) (disch := omega) only [go_sem, k9]); (try refine cnd ?_); (try (exfalso; omega; done)))))); (all_goals (try clear k9)))
          all_goals (refine TopPost.of (by first | exact .inl rfl | exact .inr rfl) (by (try simp (maxSteps := 9999999) (disch := omega) only [go_sem]); rfl) ?_; (try simp (maxSteps := 9999999) (disch := omega) only [go_sem]); (try (first | trivial | decide | (simp; done))))
        · have g5 : ((0 : Int) < (g.length : Int)) = False := eq_false (by omega)
          (try simp (maxSteps := 9999999) (disch := omega) only [go_sem])
          (have k9 := And.intro @g5 (And.intro @g8 (And.intro @g9 (And.intro @hen (And.intro @iA_len (And.intro @rowsB_nil (k0)))))); (repeat' (first | (refine AWpA.freeze0 0 5 rfl rfl ?_ ?_; (focus ((try simp (maxSteps := 9999999) (disch := omega) only [go_sem, k9]); first | done | omega))) | (refine AWpA.freeze0 1 6 rfl rfl ?_ ?_; (focus ((try simp (maxSteps := 9999999) (disch := omega) only [go_sem, k9]); first | done | omega))) | refine AWpA.seq ?_ | refine AWpA.block ?_ | (with_reducible refine CondP.tt ?_) | (with_reducible refine CondP.ff ?_) | refine AWpA.cg ?_ | ((first | refine AWpA.rg ?_ | refine AWpA.dg [] [] follows ?_ | refine TailK.tg ?_ | refine AWpA.skip ?_ | refine AWpA.exit ?_ | refine AWpA.ret ?_ | (with_reducible refine ARoundsA.succ ?_) | ((first | refine Runs.gkt (fun h9 => ?_) | refine Runs.gkf (fun h9 => ?_) | refine Runs.gnt (fun h9 => ?_) | refine Runs.gnf (fun h9 => ?_) | refine CondP.gt (fun h9 => ?_) | refine CondP.gf (fun h9 => ?_) | refine CondP.gnt (fun h9 => ?_) | refine CondP.gnf (fun h9 => ?_)); (try simp only [h9]); clear h9) | refine CallG.pg [] (c1) ?_ | refine CallG.pg [] (c2) ?_ | refine CallG.dg [] (c1) ?_ | refine CallG.dg [] (c2) ?_); (try simp (maxSteps := 9999999) (disch := omega) only [go_sem, k9]); (try refine cnd ?_)) | ((first | refine CondP.split (fun hif => ?_) (fun hif => ?_) | refine Runs.part (fun hif => ?_) (fun hif => ?_)) <;> ((try simp only [hif]); (try simp only [BL] at hif); (try (have h9 : _ = true := hif; simp only [h9])); (try (have h9 : _ = false := hif; simp only [h9])); (try simp (maxSteps := 9999999) (disch := omega) only [go_sem, k9]); (try refine cnd ?_); (try (exfalso; omega; done)))))); (all_goals (try clear k9)))
          all_goals (refine TopPost.of (by first | exact .inl rfl | exact .inr rfl) (by (try simp (maxSteps := 9999999) (disch := omega) only [go_sem]); rfl) ?_; (try simp (maxSteps := 9999999) (disch := omega) only [go_sem]); (try (first | trivial | decide | (simp; done))))
      · have h2 : ((n : Int) == 0) = false := by rw [beq_eq_false_iff_ne]; omega
        have h3 : ((0 : Int) < (n : Int)) = True := eq_true (by omega)
        have h4 : ((n : Int) - 1).toNat = n - 1 := by omega
        have h5 : (iA (enL g)).getD (n - 1) .bad = I ((catR (g.take n)).length : Int) := by
          rw [iA_getD (by omega), enL_at]
          rw [show n - 1 + 1 = n by omega]
        have h6 : ((n : Int) - 1 < (g.length : Int)) = True := eq_true (by omega)
        by_cases h1 : n < g.length
        · have g5 : ((n : Int) < (g.length : Int)) = True := eq_true (by omega)
          have g6 : (iA (enL g)).getD n .bad = I ((catR (g.take (n + 1))).length : Int) := by rw [iA_getD (by omega), enL_at]
          have g7 : (((catR (g.take (n + 1))).length : Int) ≤ (k : Int)) = False := eq_false (by omega)
          (try simp (maxSteps := 9999999) (disch := omega) only [go_sem])
          (have k9 := And.intro @g5 (And.intro @g6 (And.intro @g7 (And.intro @g8 (And.intro @g9 (And.intro @hen (And.intro @h2 (And.intro @h3 (And.intro @h4 (And.intro @h5 (And.intro @h6 (And.intro @iA_len (k0)))))))))))); (repeat' (first | (refine AWpA.freeze0 0 5 rfl rfl ?_ ?_; (focus ((try simp (maxSteps := 9999999) (disch := omega) only [go_sem, k9]); first | done | omega))) | (refine AWpA.freeze0 1 6 rfl rfl ?_ ?_; (focus ((try simp (maxSteps := 9999999) (disch := omega) only [go_sem, k9]); first | done | omega))) | refine AWpA.seq ?_ | refine AWpA.block ?_ | (with_reducible refine CondP.tt ?_) | (with_reducible refine CondP.ff ?_) | refine AWpA.cg ?_ | ((first | refine AWpA.rg ?_ | refine AWpA.dg [] [] follows ?_ | refine TailK.tg ?_ | refine AWpA.skip ?_ | refine AWpA.exit ?_ | refine AWpA.ret ?_ | (with_reducible refine ARoundsA.succ ?_) | ((first | refine Runs.gkt (fun h9 => ?_) | refine Runs.gkf (fun h9 => ?_) | refine Runs.gnt (fun h9 => ?_) | refine Runs.gnf (fun h9 => ?_) | refine CondP.gt (fun h9 => ?_) | refine CondP.gf (fun h9 => ?_) | refine CondP.gnt (fun h9 => ?_) | refine CondP.gnf (fun h9 => ?_)); (try simp only [h9]); clear h9) | refine CallG.pg [] (c1) ?_ | refine CallG.pg [] (c2) ?_ | refine CallG.dg [] (c1) ?_ | refine CallG.dg [] (c2) ?_); (try simp (maxSteps := 9999999) (disch := omega) only [go_sem, k9]); (try refine cnd ?_)) | ((first | refine CondP.split (fun hif => ?_) (fun hif => ?_) | refine Runs.part (fun hif => ?_) (fun hif => ?_)) <;> ((try simp only [hif]); (try simp only [BL] at hif); (try (have h9 : _ = true := hif; simp only [h9])); (try (have h9 : _ = false := hif; simp only [h9])); (try simp (maxSteps := 9999999) (disch := omega) only [go_sem, k9]); (try refine cnd ?_); (try (exfalso; omega; done)))))); (all_goals (try clear k9)))
          all_goals (refine TopPost.of (by first | exact .inl rfl | exact .inr rfl) (by (try simp (maxSteps := 9999999) (disch := omega) only [go_sem]); rfl) ?_; (try simp (maxSteps := 9999999) (disch := omega) only [go_sem]); (try (first | trivial | decide | (simp; done))))
        · have g5 : ((n : Int) < (g.length : Int)) = False := eq_false (by omega)
          (try simp (maxSteps := 9999999) (disch := omega) only [go_sem])
          (have k9 := And.intro @g5 (And.intro @g8 (And.intro @g9 (And.intro @hen (And.intro @h2 (And.intro @h3 (And.intro @h4 (And.intro @h5 (And.intro @h6 (And.intro @iA_len (k0)))))))))); (repeat' (first | (refine AWpA.freeze0 0 5 rfl rfl ?_ ?_; (focus ((try simp (maxSteps := 9999999) (disch := omega) only [go_sem, k9]); first | done | omega))) | (refine AWpA.freeze0 1 6 rfl rfl ?_ ?_; (focus ((try simp (maxSteps := 9999999) (disch := omega) only [go_sem, k9]); first | done | omega))) | refine AWpA.seq ?_ | refine AWpA.block ?_ | (with_reducible refine CondP.tt ?_) | (with_reducible refine CondP.ff ?_) | refine AWpA.cg ?_ | ((first | refine AWpA.rg ?_ | refine AWpA.dg [] [] follows ?_ | refine TailK.tg ?_ | refine AWpA.skip ?_ | refine AWpA.exit ?_ | refine AWpA.ret ?_ | (with_reducible refine ARoundsA.succ ?_) | ((first | refine Runs.gkt (fun h9 => ?_) | refine Runs.gkf (fun h9 => ?_) | refine Runs.gnt (fun h9 => ?_) | refine Runs.gnf (fun h9 => ?_) | refine CondP.gt (fun h9 => ?_) | refine CondP.gf (fun h9 => ?_) | refine CondP.gnt (fun h9 => ?_) | refine CondP.gnf (fun h9 => ?_)); (try simp only [h9]); clear h9) | refine CallG.pg [] (c1) ?_ | refine CallG.pg [] (c2) ?_ | refine CallG.dg [] (c1) ?_ | refine CallG.dg [] (c2) ?_); (try simp (maxSteps := 9999999) (disch := omega) only [go_sem, k9]); (try refine cnd ?_)) | ((first | refine CondP.split (fun hif => ?_) (fun hif => ?_) | refine Runs.part (fun hif => ?_) (fun hif => ?_)) <;> ((try simp only [hif]); (try simp only [BL] at hif); (try (have h9 : _ = true := hif; simp only [h9])); (try (have h9 : _ = false := hif; simp only [h9])); (try simp (maxSteps := 9999999) (disch := omega) only [go_sem, k9]); (try refine cnd ?_); (try (exfalso; omega; done)))))); (all_goals (try clear k9)))
          all_goals (refine TopPost.of (by first | exact .inl rfl | exact .inr rfl) (by (try simp (maxSteps := 9999999) (disch := omega) only [go_sem]); rfl) ?_; (try simp (maxSteps := 9999999) (disch := omega) only [go_sem]); (try (first | trivial | decide | (simp; done))))
end Go.Proofs.Ythbpdmlbfnjoiaa
