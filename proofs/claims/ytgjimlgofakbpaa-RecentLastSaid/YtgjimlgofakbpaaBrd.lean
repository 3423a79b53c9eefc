/- The walk of RecentLast. -/
import Derived.Test.YtgjimlgofakbpaaBr9
namespace Go.Proofs.Ytgjimlgofakbpaa
set_option linter.unusedSimpArgs false
set_option linter.unusedVariables false
set_option maxHeartbeats 4000000
open Go Go.Am Go.RowKit Go.ChangeShapes Go.WideShapes Go.ChangeAt
set_option maxRecDepth 100000
theorem sorted_ext : ∀ {a b : List Mk}, RiseM a → RiseM b → (∀ x, x ∈ a ↔ x ∈ b) → a = b
  | [], [], _, _, _ => rfl
  | [], y :: b, _, _, h => by have := (h y).2 (by simp); cases this
  | x :: a, [], _, _, h => by have := (h x).1 (by simp); cases this
  | x :: a, y :: b, ha, hb, h => by
    rw [RiseM, List.pairwise_cons] at ha hb
    have e : x = y := by
      rcases List.mem_cons.1 ((h x).1 (by simp)) with e | h1
      · exact e
      · rcases List.mem_cons.1 ((h y).2 (by simp)) with e | h2
        · exact e.symm
        · have := latM_asym (ha.1 y h2); rw [hb.1 x h1] at this; cases this
    subst e
    have hn : ∀ {l : List Mk}, (∀ z ∈ l, latM x z = true) → x ∉ l := fun hl hx => by have := hl x hx; rw [latM_irr] at this; cases this
    rw [sorted_ext ha.2 hb.2 fun z => ?_]
    constructor
    · intro hz
      rcases List.mem_cons.1 ((h z).1 (List.mem_cons_of_mem _ hz)) with rfl | h1
      · exact absurd hz (hn ha.1)
      · exact h1
    · intro hz
      rcases List.mem_cons.1 ((h z).2 (List.mem_cons_of_mem _ hz)) with rfl | h1
      · exact absurd hz (hn hb.1)
      · exact h1
theorem get_in {l : List Mk} (nod : (l.map (·.key)).Nodup) {i : Nat} (h : i < l.length) : getX l l[i].key = some l[i] := by
  cases e : getX l l[i].key with
  | none => exact absurd rfl (getX_none e _ (List.getElem_mem h))
  | some m =>
    obtain ⟨h1, h2⟩ := getX_some e
    obtain ⟨j, hj, rfl⟩ := List.getElem_of_mem h1
    have : j = i := by
      rcases Nat.lt_trichotomy j i with hji | hji | hji
      · have := List.pairwise_iff_getElem.1 nod j i (by simpa using hj) (by simpa using h) hji
        rw [List.getElem_map, List.getElem_map] at this
        exact absurd h2 this
      · exact hji
      · have := List.pairwise_iff_getElem.1 nod i j (by simpa using h) (by simpa using hj) hji
        rw [List.getElem_map, List.getElem_map] at this
        exact absurd h2.symm this
    subst this
    rfl
theorem drop_first {l : List Mk} (nod : (l.map (·.key)).Nodup) {i : Nat} (h : i < l.length) : dropF (l.drop i) l[i].key = l.drop (i + 1) := by
  rw [List.drop_eq_getElem_cons h]
  have nod2 : ((l.drop i).map (·.key)).Nodup := List.Pairwise.sublist ((List.drop_sublist i l).map _) nod
  rw [List.drop_eq_getElem_cons h, List.map_cons, List.nodup_cons] at nod2
  have hs := dropF_self (e := l.drop (i + 1)) (k := l[i].key) fun b hb e => nod2.1 (by rw [e]; exact List.mem_map_of_mem hb)
  unfold dropF at hs ⊢
  rw [List.filter_cons_of_neg (by simp), hs]
/-- Marks put the last one first. -/
theorem rev_put {l : List Mk} (nod : (l.map (·.key)).Nodup) {y : Ix} {i : Nat} (h : i < l.length) (hy : y.e = (l.drop (l.length - i)).reverse) : (putX y l[l.length - 1 - i]).e = (l.drop (l.length - (i + 1))).reverse := by
  have e : l.length - (i + 1) = l.length - 1 - i := by omega
  have nod2 : ((l.drop (l.length - 1 - i)).map (·.key)).Nodup := List.Pairwise.sublist ((List.drop_sublist _ l).map _) nod
  rw [e, List.drop_eq_getElem_cons (by omega), List.reverse_cons]
  rw [List.drop_eq_getElem_cons (by omega), List.map_cons, List.nodup_cons] at nod2
  rw [show l.length - 1 - i + 1 = l.length - i by omega] at nod2 ⊢
  simp only [putX]
  rw [hy]
  congr 1
  exact dropF_self fun b hb e => nod2.1 (by rw [e]; exact List.mem_map_of_mem (List.mem_reverse.1 hb))
/- quidnunc/quidnunclaw10.RecentLast -/
noncomputable def c6_1 : ACode := .region false [⟨some 2, .move, [.c (.val (.bool false))], none⟩] [] [] [0] false [] []
noncomputable def c6_4 : ACode := .region false [⟨some 13, .call 11, [], none⟩,
  ⟨some 14, .un .not, [.t 13], none⟩,
  ⟨some 15, .move, [.t 14], none⟩,
  ⟨some 16, .move, [.t 0], some (some 15, false)⟩,
  ⟨some 17, .len, [.t 16], some (some 15, false)⟩,
  ⟨some 18, .bin .gtr, [.t 17, .c (.val (.int .i64 40))], some (some 15, false)⟩,
  ⟨some 19, .pick, [.t 15, .c (.val (.bool true)), .t 18], none⟩] [] [] [0, 19] true [] []
noncomputable def c6_7 : ACode := .region false [⟨some 20, .call 11, [], none⟩,
  ⟨some 2, .move, [.t 20], none⟩] [] [] [2] true [] []
noncomputable def c6_6 : ACode := .seq c6_7 .ret
noncomputable def c6_5 : ACode := .cond (.t 19) c6_6 .skip
noncomputable def c6_3 : ACode := .seq c6_4 c6_5
noncomputable def c6_9 : ACode := .region false [⟨some 21, .call 16, [], none⟩,
  ⟨some 22, .call 16, [], none⟩,
  ⟨some 3, .move, [.t 21], none⟩,
  ⟨some 4, .move, [.t 22], none⟩] [] [] [0, 3, 4] true [] []
noncomputable def c6_12 : ACode := .region false [⟨some 23, .move, [.t 3], none⟩,
  ⟨some 24, .eqP false, [.t 23, .c (.val (.pointer none))], none⟩,
  ⟨some 25, .move, [.t 24], none⟩,
  ⟨some 26, .move, [.t 4], some (some 25, false)⟩,
  ⟨some 27, .eqP false, [.t 26, .c (.val (.pointer none))], some (some 25, false)⟩,
  ⟨some 28, .pick, [.t 25, .c (.val (.bool true)), .t 27], none⟩] [] [] [0, 3, 4, 28] false [] []
noncomputable def c6_15 : ACode := .region false [⟨some 2, .move, [.c (.val (.bool false))], none⟩] [] [] [2] false [] []
noncomputable def c6_14 : ACode := .seq c6_15 .ret
noncomputable def c6_13 : ACode := .cond (.t 28) c6_14 .skip
noncomputable def c6_11 : ACode := .seq c6_12 c6_13
noncomputable def c6_17 : ACode := .region false [⟨some 29, .buildSl 3 0 [(.int .i64 0), (.int .i64 0), (.string ⟨#[]⟩)] [], [], none⟩,
  ⟨some 5, .move, [.t 29], none⟩] [] [] [0, 3, 4, 5] true [] []
noncomputable def c6_20 : ACode := .region false [⟨some 30, .move, [.t 0], none⟩,
  ⟨some 31, .len, [.t 30], none⟩,
  ⟨some 32, .move, [.c (.val (.int .i64 0))], none⟩] [] [] [3, 4, 5, 30, 31, 32] false [] []
noncomputable def c6_24 : ACode := .region false [⟨some 33, .bin .lss, [.t 32, .t 31], none⟩] [] [] [3, 4, 5, 30, 31, 32, 33] false [] []
noncomputable def c6_26 : ACode := .cond (.t 33) .skip (.exit 0)
noncomputable def c6_30 : ACode := .region false [⟨some 34, .ixS 3, [.t 30, .t 32], none⟩,
  ⟨some 35, .load true 3, [.t 34], none⟩,
  ⟨some 7, .alloc [(.int .i64 0), (.int .i64 0), (.string ⟨#[]⟩)], [], none⟩,
  ⟨none, .store 3, [.t 7, .t 35], none⟩] [] [] [3, 4, 5, 7, 30, 31, 32] true [] []
noncomputable def c6_33 : ACode := .region false [⟨some 36, .addr 2, [.t 7], none⟩,
  ⟨some 37, .load false 1, [.t 36], none⟩,
  ⟨some 38, .lenStr, [.t 37], none⟩,
  ⟨some 39, .bin .gtr, [.t 38, .c (.val (.int .i64 40))], none⟩] [] [] [3, 4, 5, 7, 30, 31, 32, 39] false [] []
noncomputable def c6_36 : ACode := .region false [⟨some 2, .move, [.c (.val (.bool true))], none⟩] [] [] [2] false [] []
noncomputable def c6_35 : ACode := .seq c6_36 .ret
noncomputable def c6_34 : ACode := .cond (.t 39) c6_35 .skip
noncomputable def c6_32 : ACode := .seq c6_33 c6_34
noncomputable def c6_38 : ACode := .region false [⟨some 40, .move, [.t 3], none⟩,
  ⟨some 41, .load true 3, [.t 7], none⟩,
  ⟨some 42, .call 13, [.t 41], none⟩,
  ⟨some 43, .call 19, [.t 40, .t 42], none⟩] [] [] [3, 4, 5, 7, 30, 31, 32] true [] []
noncomputable def c6_39 : ACode := .region true [⟨some 44, .move, [.t 5], none⟩,
  ⟨some 45, .addr 2, [.t 7], none⟩,
  ⟨some 46, .load false 1, [.t 45], none⟩,
  ⟨some 47, .call 20, [.t 44, .t 46], none⟩,
  ⟨some 48, .load true 3, [.t 7], none⟩,
  ⟨some 49, .buildSl 3 1 [(.int .i64 0), (.int .i64 0), (.string ⟨#[]⟩)] [(0, 3)], [.t 48], none⟩,
  ⟨some 50, .append 3 32 false, [.t 47, .t 49], none⟩,
  ⟨some 5, .move, [.t 50], none⟩] [] [(3, 5)] [3, 4, 5, 30, 31, 32] true [] []
noncomputable def c6_37 : ACode := .seq c6_38 c6_39
noncomputable def c6_31 : ACode := .seq c6_32 c6_37
noncomputable def c6_29 : ACode := .seq c6_30 c6_31
noncomputable def c6_28 : ACode := .block 1 c6_29
noncomputable def c6_40 : ACode := .region false [⟨some 51, .bin .add, [.t 32, .c (.val (.int .i64 1))], none⟩,
  ⟨some 32, .move, [.t 51], none⟩] [] [] [3, 4, 5, 30, 31, 32] false [] []
noncomputable def c6_27 : ACode := .seq c6_28 c6_40
noncomputable def c6_25 : ACode := .seq c6_26 c6_27
noncomputable def c6_23 : ACode := .seq c6_24 c6_25
noncomputable def c6_22 : ACode := .loop c6_23
noncomputable def c6_21 : ACode := .block 0 c6_22
noncomputable def c6_19 : ACode := .seq c6_20 c6_21
noncomputable def c6_43 : ACode := .region false [⟨some 52, .move, [.t 5], none⟩,
  ⟨some 53, .len, [.t 52], none⟩,
  ⟨some 54, .move, [.c (.val (.int .i64 0))], none⟩] [] [] [3, 4, 5, 53, 54] false [] []
noncomputable def c6_47 : ACode := .region false [⟨some 55, .bin .lss, [.t 54, .t 53], none⟩] [] [] [3, 4, 5, 53, 54, 55] false [] []
noncomputable def c6_49 : ACode := .cond (.t 55) .skip (.exit 2)
noncomputable def c6_53 : ACode := .region false [⟨some 56, .move, [.t 54], none⟩,
  ⟨some 8, .move, [.t 56], none⟩] [] [] [3, 4, 5, 8, 53, 54] false [] []
noncomputable def c6_55 : ACode := .region false [⟨some 57, .move, [.t 4], none⟩,
  ⟨some 58, .move, [.t 5], none⟩,
  ⟨some 59, .move, [.t 5], none⟩,
  ⟨some 60, .len, [.t 59], none⟩,
  ⟨some 61, .bin .sub, [.t 60, .c (.val (.int .i64 1))], none⟩,
  ⟨some 62, .move, [.t 8], none⟩,
  ⟨some 63, .bin .sub, [.t 61, .t 62], none⟩,
  ⟨some 64, .ixS 3, [.t 58, .t 63], none⟩,
  ⟨some 65, .load true 3, [.t 64], none⟩,
  ⟨some 66, .call 13, [.t 65], none⟩,
  ⟨some 67, .call 19, [.t 57, .t 66], none⟩] [] [] [3, 4, 5, 8, 53, 54] true [] []
noncomputable def c6_57 : ACode := .region false [⟨some 69, .move, [.t 3], none⟩,
  ⟨some 70, .move, [.t 5], none⟩,
  ⟨some 71, .move, [.t 8], none⟩,
  ⟨some 72, .ixS 3, [.t 70, .t 71], none⟩,
  ⟨some 73, .addr 2, [.t 72], none⟩,
  ⟨some 74, .load false 1, [.t 73], none⟩,
  ⟨some 75, .call 22, [.t 69, .t 74], none⟩,
  ⟨some 68, .move, [.t 75], none⟩,
  ⟨some 76, .ext 0, [.t 68], none⟩,
  ⟨some 77, .ext 1, [.t 68], none⟩,
  ⟨some 9, .alloc [(.int .i64 0), (.int .i64 0), (.string ⟨#[]⟩)], [], none⟩,
  ⟨none, .store 3, [.t 9, .t 76], none⟩,
  ⟨some 10, .move, [.t 77], none⟩] [] [] [3, 4, 5, 8, 9, 10, 53, 54] true [] []
noncomputable def c6_59 : ACode := .region true [⟨some 78, .move, [.t 10], none⟩,
  ⟨some 79, .un .not, [.t 78], none⟩,
  ⟨some 80, .move, [.t 79], none⟩,
  ⟨some 81, .load true 3, [.t 9], some (some 80, false)⟩,
  ⟨some 82, .call 23, [.t 81], some (some 80, false)⟩,
  ⟨some 83, .move, [.t 5], some (some 80, false)⟩,
  ⟨some 84, .move, [.t 8], some (some 80, false)⟩,
  ⟨some 85, .ixS 3, [.t 83, .t 84], some (some 80, false)⟩,
  ⟨some 86, .load true 3, [.t 85], some (some 80, false)⟩,
  ⟨some 87, .eqA true [(0, 0), (1, 0), (2, 1)], [.t 82, .t 86], some (some 80, false)⟩,
  ⟨some 88, .pick, [.t 80, .c (.val (.bool true)), .t 87], none⟩] [] [] [3, 4, 5, 53, 54, 88] true [] []
noncomputable def c6_62 : ACode := .region false [⟨some 2, .move, [.c (.val (.bool false))], none⟩] [] [] [2] false [] []
noncomputable def c6_61 : ACode := .seq c6_62 .ret
noncomputable def c6_60 : ACode := .cond (.t 88) c6_61 .skip
noncomputable def c6_58 : ACode := .seq c6_59 c6_60
noncomputable def c6_56 : ACode := .seq c6_57 c6_58
noncomputable def c6_54 : ACode := .seq c6_55 c6_56
noncomputable def c6_52 : ACode := .seq c6_53 c6_54
noncomputable def c6_51 : ACode := .block 3 c6_52
noncomputable def c6_63 : ACode := .region false [⟨some 89, .bin .add, [.t 54, .c (.val (.int .i64 1))], none⟩,
  ⟨some 54, .move, [.t 89], none⟩] [] [] [3, 4, 5, 53, 54] false [] []
noncomputable def c6_50 : ACode := .seq c6_51 c6_63
noncomputable def c6_48 : ACode := .seq c6_49 c6_50
noncomputable def c6_46 : ACode := .seq c6_47 c6_48
noncomputable def c6_45 : ACode := .loop c6_46
noncomputable def c6_44 : ACode := .block 2 c6_45
noncomputable def c6_42 : ACode := .seq c6_43 c6_44
noncomputable def c6_66 : ACode := .region false [⟨some 90, .move, [.t 3], none⟩,
  ⟨some 91, .call 27, [.t 90, .c (.val (.int .i64 50))], none⟩,
  ⟨some 92, .call 26, [.t 91], none⟩,
  ⟨some 93, .move, [.t 4], none⟩,
  ⟨some 94, .call 27, [.t 93, .c (.val (.int .i64 50))], none⟩,
  ⟨some 95, .call 26, [.t 94], none⟩,
  ⟨some 96, .call 25, [.t 92, .t 95], none⟩,
  ⟨some 97, .un .not, [.t 96], none⟩,
  ⟨some 98, .move, [.t 97], none⟩,
  ⟨some 99, .move, [.t 3], some (some 98, false)⟩,
  ⟨some 100, .call 24, [.t 99], some (some 98, false)⟩,
  ⟨some 101, .move, [.t 5], some (some 98, false)⟩,
  ⟨some 102, .len, [.t 101], some (some 98, false)⟩,
  ⟨some 103, .bin .neq, [.t 100, .t 102], some (some 98, false)⟩,
  ⟨some 104, .pick, [.t 98, .c (.val (.bool true)), .t 103], none⟩] [] [] [3, 5, 104] true [] []
noncomputable def c6_69 : ACode := .region false [⟨some 2, .move, [.c (.val (.bool false))], none⟩] [] [] [2] false [] []
noncomputable def c6_68 : ACode := .seq c6_69 .ret
noncomputable def c6_67 : ACode := .cond (.t 104) c6_68 .skip
noncomputable def c6_65 : ACode := .seq c6_66 c6_67
noncomputable def c6_72 : ACode := .region false [⟨some 105, .move, [.t 5], none⟩,
  ⟨some 106, .len, [.t 105], none⟩,
  ⟨some 107, .move, [.c (.val (.int .i64 0))], none⟩] [] [] [3, 105, 106, 107] false [] []
noncomputable def c6_76 : ACode := .region false [⟨some 108, .bin .lss, [.t 107, .t 106], none⟩] [] [] [3, 105, 106, 107, 108] false [] []
noncomputable def c6_78 : ACode := .cond (.t 108) .skip (.exit 4)
noncomputable def c6_82 : ACode := .region false [⟨some 109, .ixS 3, [.t 105, .t 107], none⟩,
  ⟨some 110, .load true 3, [.t 109], none⟩,
  ⟨some 12, .alloc [(.int .i64 0), (.int .i64 0), (.string ⟨#[]⟩)], [], none⟩,
  ⟨none, .store 3, [.t 12, .t 110], none⟩] [] [] [3, 12, 105, 106, 107] true [] []
noncomputable def c6_84 : ACode := .region false [⟨some 111, .move, [.t 3], none⟩,
  ⟨some 112, .addr 2, [.t 12], none⟩,
  ⟨some 113, .load false 1, [.t 112], none⟩,
  ⟨some 114, .call 21, [.t 111, .t 113], none⟩,
  ⟨some 115, .un .not, [.t 114], none⟩] [] [] [3, 105, 106, 107, 115] true [] []
noncomputable def c6_87 : ACode := .region false [⟨some 2, .move, [.c (.val (.bool false))], none⟩] [] [] [2] false [] []
noncomputable def c6_86 : ACode := .seq c6_87 .ret
noncomputable def c6_85 : ACode := .cond (.t 115) c6_86 .skip
noncomputable def c6_83 : ACode := .seq c6_84 c6_85
noncomputable def c6_81 : ACode := .seq c6_82 c6_83
noncomputable def c6_80 : ACode := .block 5 c6_81
noncomputable def c6_88 : ACode := .region false [⟨some 116, .bin .add, [.t 107, .c (.val (.int .i64 1))], none⟩,
  ⟨some 107, .move, [.t 116], none⟩] [] [] [3, 105, 106, 107] false [] []
noncomputable def c6_79 : ACode := .seq c6_80 c6_88
noncomputable def c6_77 : ACode := .seq c6_78 c6_79
noncomputable def c6_75 : ACode := .seq c6_76 c6_77
noncomputable def c6_74 : ACode := .loop c6_75
noncomputable def c6_73 : ACode := .block 4 c6_74
noncomputable def c6_71 : ACode := .seq c6_72 c6_73
noncomputable def c6_90 : ACode := .region false [⟨some 117, .move, [.t 3], none⟩,
  ⟨some 118, .call 24, [.t 117], none⟩,
  ⟨some 119, .bin .eql, [.t 118, .c (.val (.int .i64 0))], none⟩,
  ⟨some 120, .move, [.t 119], none⟩,
  ⟨some 121, .move, [.t 3], some (some 120, true)⟩,
  ⟨some 122, .call 27, [.t 121, .c (.val (.int .i64 9))], some (some 120, true)⟩,
  ⟨some 123, .len, [.t 122], some (some 120, true)⟩,
  ⟨some 124, .bin .eql, [.t 123, .c (.val (.int .i64 0))], some (some 120, true)⟩,
  ⟨some 125, .pick, [.t 120, .t 124, .c (.val (.bool false))], none⟩,
  ⟨some 2, .move, [.t 125], none⟩] [] [] [2] true [] []
noncomputable def c6_89 : ACode := .seq c6_90 .ret
noncomputable def c6_70 : ACode := .seq c6_71 c6_89
noncomputable def c6_64 : ACode := .seq c6_65 c6_70
noncomputable def c6_41 : ACode := .seq c6_42 c6_64
noncomputable def c6_18 : ACode := .seq c6_19 c6_41
noncomputable def c6_16 : ACode := .seq c6_17 c6_18
noncomputable def c6_10 : ACode := .seq c6_11 c6_16
noncomputable def c6_8 : ACode := .seq c6_9 c6_10
noncomputable def c6_2 : ACode := .seq c6_3 c6_8
noncomputable def c6_0 : ACode := .seq c6_1 c6_2
noncomputable def code6 : Code := (Try.f6.body).getD .skip
theorem c6_ok : compC Try.prog 126 code6 = some (strip c6_0) := by kernel_rfl
theorem res6_ok : Try.f6.results.toList.mapM (resC Try.prog) = some [(2, none)] := by kernel_rfl
theorem recentLast_walk (W : World) (sl : Sl Mk) (hz : Sl.ok W 3 Mk.rep (Mk.ok W) sl) :
    Calls Try.prog 6 #[.slice sl.ad sl.l.length sl.cap] W fun e W' => e = .returned (.bool true) ∧ Below W.heap.size W W' := by
  obtain ⟨ad, off, cap, l⟩ := sl
  obtain ⟨hz, -, hl⟩ := hz
  have hl : l.length ≤ 9223372036854775807 := by simpa [maxLen] using hl
  simp only at hz
  have hr := rm_ren off l
  have hL := rm_len off l
  have sp := speaks10_any
  by_cases h1 : (40 : Int) < (l.length : Int)
  · have g1 : ((40 : Int) < (l.length : Int)) = True := eq_true h1
    refine top_call c6_ok Try.func6 rfl Try.ntmps6 res6_ok [ .val (.slice ad l.length cap)] (by simp) (by (repeat' (first | exact VRs_nil' _ | exact VR_val' _ _ | (refine VRs_cons' ?_ ?_) | (refine VR_agg' (by first | rfl | assumption) ?_; first | assumption | simp [Value.oneCell', St.rep, Mk.rep])))) ?_; try simp (maxSteps := 9999999) (disch := omega) only [go_sem]
    refine AWpA.thawT 0 MkL hz (fun x => by simp [Mk.rep, St.rep]) rfl ?_
    (repeat' (first | refine AWpA.seq ?_ | refine AWpA.block ?_ | (with_reducible refine CondP.tt ?_) | (with_reducible refine CondP.ff ?_) | refine AWpA.condv (by simp (maxSteps := 9999999) (disch := omega) only [go_sem, hr, g1]; rfl) ?_ | ((first | (apply AWpA.region; (focus (simp (maxSteps := 9999999) (disch := omega) only [go_sem, hr, g1]; rfl))) | (apply AWpA.draw [] [] follows; (focus (first | rfl | decide)); (focus (simp (maxSteps := 9999999) (disch := omega) only [go_sem, hr, g1]; rfl)); (focus (simp (maxSteps := 9999999) (disch := omega) only [go_sem, hr, g1]; first | done | trivial)); (focus (simp (maxSteps := 9999999) (disch := omega) only [go_sem, hr, g1]; rfl))) | (apply TailK.go; (focus (simp (maxSteps := 9999999) (disch := omega) only [go_sem, hr, g1]; rfl))) | refine AWpA.skip ?_ | refine AWpA.exit ?_ | refine AWpA.ret ?_ | (with_reducible refine ARoundsA.succ ?_) | ((first | refine Runs.kt (by assumption) (fun h9 => ?_) | refine Runs.kf (by assumption) (fun h9 => ?_) | refine Runs.nt (by assumption) (fun h9 => ?_) | refine Runs.nf (by assumption) (fun h9 => ?_) | refine CondP.ht (by assumption) (fun h9 => ?_) | refine CondP.hf (by assumption) (fun h9 => ?_) | refine CondP.nt (by assumption) (fun h9 => ?_) | refine CondP.nf (by assumption) (fun h9 => ?_)); (try simp only [h9]); clear h9) | ((first | (with_reducible apply CallG.plain1 [] (sp)) | (with_reducible apply CallG.draw1 [] (sp))); (focus ((try refine And.intro (leAs_of_eq rfl) ?_); (try refine And.intro (leOL_of_eq rfl) ?_); simp (maxSteps := 9999999) (disch := omega) only [go_sem, hr, g1]; first | done | (repeat' (first | rfl | (refine And.intro ?_ ?_))))); (focus (simp (maxSteps := 9999999) (disch := omega) only [go_sem, hr, g1]; rfl)))); (try simp (maxSteps := 9999999) (disch := omega) only [go_sem, hr, g1]); (try (refine And.intro ?_ ?_; (focus (first | omega | (simp only [go_sem]; done) | (simp; done) | (simp; omega) | assumption))))) | ((first | refine CondP.split (fun hif => ?_) (fun hif => ?_) | refine Runs.part (fun hif => ?_) (fun hif => ?_)) <;> ((try simp only [hif]); (try simp only [decide_eq_true_eq, decide_eq_false_iff_not, Bool.not_eq_true, Bool.not_eq_false, Bool.not_eq_true', Bool.not_eq_false', beq_iff_eq, bne_iff_ne, bne_eq_false_iff_eq, beq_eq_false_iff_ne, ne_eq, Bool.and_eq_true, Bool.or_eq_true, Bool.or_eq_false_iff] at hif); (try (have h9 : _ = true := hif; simp only [h9])); (try (have h9 : _ = false := hif; simp only [h9])); (try simp (maxSteps := 9999999) (disch := omega) only [go_sem, hr, g1]); (try (refine And.intro ?_ ?_; (focus (first | omega | (simp only [go_sem]; done) | (simp; done) | (simp; omega) | assumption)))); (try (exfalso; omega; done))))))
    (refine TopPost.of (by first | exact .inl rfl | exact .inr rfl) (by (try simp (maxSteps := 9999999) (disch := omega) only [go_sem]); rfl) ?_; (try simp (maxSteps := 9999999) (disch := omega) only [go_sem]); (try (first | trivial | decide | (simp; done))))
  have g1 : ((40 : Int) < (l.length : Int)) = False := eq_false h1
  have n1 := mnew_any
  have hbe : ∀ x : ByteArray, (x == x) = true := fun x => (_root_.Go.MapKept.bytes_beq _ _).2 rfl
  have he := esI_ren
  have hrm := rm_ren 0
  refine top_call c6_ok Try.func6 rfl Try.ntmps6 res6_ok [ .val (.slice ad l.length cap)] (by simp) (by (repeat' (first | exact VRs_nil' _ | exact VR_val' _ _ | (refine VRs_cons' ?_ ?_) | (refine VR_agg' (by first | rfl | assumption) ?_; first | assumption | simp [Value.oneCell', St.rep, Mk.rep])))) ?_; try simp (maxSteps := 9999999) (disch := omega) only [go_sem]
  refine AWpA.thawT 0 MkL hz (fun x => by simp [Mk.rep, St.rep]) rfl ?_
  refine AWpA.dummy ?_
  refine AWpA.dummy ?_
  (repeat' (first | refine AWpA.seq ?_ | refine AWpA.block ?_ | (with_reducible refine CondP.tt ?_) | (with_reducible refine CondP.ff ?_) | refine AWpA.condv (by simp (maxSteps := 9999999) (disch := omega) only [go_sem, hr, g1]; rfl) ?_ | ((first | (apply AWpA.region; (focus (simp (maxSteps := 9999999) (disch := omega) only [go_sem, hr, g1]; rfl))) | (apply AWpA.draw [] [] follows; (focus (first | rfl | decide)); (focus (simp (maxSteps := 9999999) (disch := omega) only [go_sem, hr, g1]; rfl)); (focus (simp (maxSteps := 9999999) (disch := omega) only [go_sem, hr, g1]; first | done | trivial)); (focus (simp (maxSteps := 9999999) (disch := omega) only [go_sem, hr, g1]; rfl))) | (apply TailK.go; (focus (simp (maxSteps := 9999999) (disch := omega) only [go_sem, hr, g1]; rfl))) | refine AWpA.skip ?_ | refine AWpA.exit ?_ | refine AWpA.ret ?_ | (with_reducible refine ARoundsA.succ ?_) | ((first | refine Runs.kt (by assumption) (fun h9 => ?_) | refine Runs.kf (by assumption) (fun h9 => ?_) | refine Runs.nt (by assumption) (fun h9 => ?_) | refine Runs.nf (by assumption) (fun h9 => ?_) | refine CondP.ht (by assumption) (fun h9 => ?_) | refine CondP.hf (by assumption) (fun h9 => ?_) | refine CondP.nt (by assumption) (fun h9 => ?_) | refine CondP.nf (by assumption) (fun h9 => ?_)); (try simp only [h9]); clear h9) | ((first | (with_reducible apply CallG.plain1 [] (sp)) | (with_reducible apply CallG.draw1 [] (sp))); (focus ((try refine And.intro (leAs_of_eq rfl) ?_); (try refine And.intro (leOL_of_eq rfl) ?_); simp (maxSteps := 9999999) (disch := omega) only [go_sem, hr, g1]; first | done | (repeat' (first | rfl | (refine And.intro ?_ ?_))))); (focus (simp (maxSteps := 9999999) (disch := omega) only [go_sem, hr, g1]; rfl))) | ((first | (with_reducible apply CallG.plain1 [] (n1)) | (with_reducible apply CallG.draw1 [] (n1))); (focus ((try refine And.intro (leAs_of_eq rfl) ?_); (try refine And.intro (leOL_of_eq rfl) ?_); simp (maxSteps := 9999999) (disch := omega) only [go_sem, hr, g1]; first | done | (repeat' (first | rfl | (refine And.intro ?_ ?_))))); (focus (simp (maxSteps := 9999999) (disch := omega) only [go_sem, hr, g1]; rfl)))); (try simp (maxSteps := 9999999) (disch := omega) only [go_sem, hr, g1]); (try (refine And.intro ?_ ?_; (focus (first | omega | (simp only [go_sem]; done) | (simp; done) | (simp; omega) | assumption))))) | ((first | refine CondP.split (fun hif => ?_) (fun hif => ?_) | refine Runs.part (fun hif => ?_) (fun hif => ?_)) <;> ((try simp only [hif]); (try simp only [decide_eq_true_eq, decide_eq_false_iff_not, Bool.not_eq_true, Bool.not_eq_false, Bool.not_eq_true', Bool.not_eq_false', beq_iff_eq, bne_iff_ne, bne_eq_false_iff_eq, beq_eq_false_iff_ne, ne_eq, Bool.and_eq_true, Bool.or_eq_true, Bool.or_eq_false_iff] at hif); (try (have h9 : _ = true := hif; simp only [h9])); (try (have h9 : _ = false := hif; simp only [h9])); (try simp (maxSteps := 9999999) (disch := omega) only [go_sem, hr, g1]); (try (refine And.intro ?_ ?_; (focus (first | omega | (simp only [go_sem]; done) | (simp; done) | (simp; omega) | assumption)))); (try (exfalso; omega; done))))))
  (apply AWpA.loopL (fun p : Nat × Ix => [(3, .ptr 1 0), (4, .ptr 4 0), (5, .sl 7 0 p.2.e.length 3 none), (30, .sl 0 off l.length 3 none), (31, I l.length), (32, I p.1)]) (fun p => [.cells true (Rm off l), IxO 3 2 p.2.l, .map false (EsI p.2.e), .cells false (Rm 0 p.2.l), IxO 6 5 [], .map false (EsI []), .cells false (Rm 0 []), .cells false (Rm 0 p.2.e)]) (fun p => l.length - p.1) (fun p => p.1 ≤ l.length ∧ p.2.ok ∧ p.2.l.length ≤ p.1) ((0, ⟨[], []⟩)) [0, _, _, 1, _, _, 2, _]; rotate_left; (focus (simp (maxSteps := 9999999) (disch := omega) only [go_sem, hr, he, rm_nil]; (try (repeat' (first | done | trivial | rfl | exact leAs_rfl _ | decide | (refine And.intro ?_ ?_) | (simp; done) | omega | (simp; decide)))))); rotate_right)
  · exact ⟨Nat.zero_le _, ix0_ok, Nat.le_refl _⟩
  rintro ⟨i, x⟩ ⟨hi, hok, hlen⟩
  (try simp only at hi hok hlen)
  have hel : x.e.length = x.l.length := hok.perm.length_eq
  by_cases hin : i < l.length
  · have k1 : ((i : Int) < (l.length : Int)) = True := eq_true (by omega)
    have hat := rm_at off l i hin
    generalize l[i] = a at *
    have o1 := of10_any a
    have c1 := mput_any x a hok (by omega)
    have c2 := rdropM_any x.e a.key (by omega)
    have e2 : (putX x a).e = dropF x.e a.key ++ [a] := rfl
    have hsn : Rm 0 (putX x a).e = Rm 0 (dropF x.e a.key) ++ MkL a := by rw [e2, rm_app, rm_one]
    have hel2 : (putX x a).e.length = (dropF x.e a.key).length + 1 := by rw [e2]; simp
    have hok2 := hok.put a
    have hlen2 := putX_len x a
    have hLd := rm_len 0 (dropF x.e a.key)
    have hfu := rm_all (dropF x.e a.key) (n := (dropF x.e a.key).length * 3) rfl
    have hdl := dropF_le x.e a.key
    clear e2
    generalize dropF x.e a.key = d at *
    generalize putX x a = y at *
    by_cases h3 : (40 : Int) < (a.key.size : Int)
    · have g3 : ((40 : Int) < (a.key.size : Int)) = True := eq_true h3
      (try simp (maxSteps := 9999999) (disch := omega) only [go_sem])
      (repeat' (first | refine AWpA.seq ?_ | refine AWpA.block ?_ | (with_reducible refine CondP.tt ?_) | (with_reducible refine CondP.ff ?_) | refine AWpA.condv (by simp (maxSteps := 9999999) (disch := omega) only [go_sem, hr, hL, k1, hat, g3]; rfl) ?_ | ((first | (apply AWpA.region; (focus (simp (maxSteps := 9999999) (disch := omega) only [go_sem, hr, hL, k1, hat, g3]; rfl))) | (apply AWpA.draw [] [] follows; (focus (first | rfl | decide)); (focus (simp (maxSteps := 9999999) (disch := omega) only [go_sem, hr, hL, k1, hat, g3]; rfl)); (focus (simp (maxSteps := 9999999) (disch := omega) only [go_sem, hr, hL, k1, hat, g3]; first | done | trivial)); (focus (simp (maxSteps := 9999999) (disch := omega) only [go_sem, hr, hL, k1, hat, g3]; rfl))) | (apply TailK.go; (focus (simp (maxSteps := 9999999) (disch := omega) only [go_sem, hr, hL, k1, hat, g3]; rfl))) | refine AWpA.skip ?_ | refine AWpA.exit ?_ | refine AWpA.ret ?_ | (with_reducible refine ARoundsA.succ ?_) | ((first | refine Runs.kt (by assumption) (fun h9 => ?_) | refine Runs.kf (by assumption) (fun h9 => ?_) | refine Runs.nt (by assumption) (fun h9 => ?_) | refine Runs.nf (by assumption) (fun h9 => ?_) | refine CondP.ht (by assumption) (fun h9 => ?_) | refine CondP.hf (by assumption) (fun h9 => ?_) | refine CondP.nt (by assumption) (fun h9 => ?_) | refine CondP.nf (by assumption) (fun h9 => ?_)); (try simp only [h9]); clear h9)); (try simp (maxSteps := 9999999) (disch := omega) only [go_sem, hr, hL, k1, hat, g3]); (try (refine And.intro ?_ ?_; (focus (first | omega | (simp only [go_sem]; done) | (simp; done) | (simp; omega) | assumption))))) | ((first | refine CondP.split (fun hif => ?_) (fun hif => ?_) | refine Runs.part (fun hif => ?_) (fun hif => ?_)) <;> ((try simp only [hif]); (try simp only [decide_eq_true_eq, decide_eq_false_iff_not, Bool.not_eq_true, Bool.not_eq_false, Bool.not_eq_true', Bool.not_eq_false', beq_iff_eq, bne_iff_ne, bne_eq_false_iff_eq, beq_eq_false_iff_ne, ne_eq, Bool.and_eq_true, Bool.or_eq_true, Bool.or_eq_false_iff] at hif); (try (have h9 : _ = true := hif; simp only [h9])); (try (have h9 : _ = false := hif; simp only [h9])); (try simp (maxSteps := 9999999) (disch := omega) only [go_sem, hr, hL, k1, hat, g3]); (try (refine And.intro ?_ ?_; (focus (first | omega | (simp only [go_sem]; done) | (simp; done) | (simp; omega) | assumption)))); (try (exfalso; omega; done))))))
      (refine TopPost.of (by first | exact .inl rfl | exact .inr rfl) (by (try simp (maxSteps := 9999999) (disch := omega) only [go_sem]); rfl) ?_; (try simp (maxSteps := 9999999) (disch := omega) only [go_sem]); (try (first | trivial | decide | (simp; done))))
    · have g3 : ((40 : Int) < (a.key.size : Int)) = False := eq_false h3
      (try simp (maxSteps := 9999999) (disch := omega) only [go_sem])
      (repeat' (first | refine AWpA.seq ?_ | refine AWpA.block ?_ | (with_reducible refine CondP.tt ?_) | (with_reducible refine CondP.ff ?_) | refine AWpA.condv (by simp (maxSteps := 9999999) (disch := omega) only [go_sem, hr, hrm, he, hL, hLd, k1, hat, g3]; rfl) ?_ | ((first | (apply AWpA.region; (focus (simp (maxSteps := 9999999) (disch := omega) only [go_sem, hr, hrm, he, hL, hLd, k1, hat, g3]; rfl))) | (apply AWpA.draw [] [] follows; (focus (first | rfl | decide)); (focus (simp (maxSteps := 9999999) (disch := omega) only [go_sem, hr, hrm, he, hL, hLd, k1, hat, g3]; rfl)); (focus (simp (maxSteps := 9999999) (disch := omega) only [go_sem, hr, hrm, he, hL, hLd, k1, hat, g3]; first | done | trivial)); (focus (simp (maxSteps := 9999999) (disch := omega) only [go_sem, hr, hrm, he, hL, hLd, k1, hat, g3]; rfl))) | (apply TailK.go; (focus (simp (maxSteps := 9999999) (disch := omega) only [go_sem, hr, hrm, he, hL, hLd, k1, hat, g3]; rfl))) | refine AWpA.skip ?_ | refine AWpA.exit ?_ | refine AWpA.ret ?_ | (with_reducible refine ARoundsA.succ ?_) | ((first | refine Runs.kt (by assumption) (fun h9 => ?_) | refine Runs.kf (by assumption) (fun h9 => ?_) | refine Runs.nt (by assumption) (fun h9 => ?_) | refine Runs.nf (by assumption) (fun h9 => ?_) | refine CondP.ht (by assumption) (fun h9 => ?_) | refine CondP.hf (by assumption) (fun h9 => ?_) | refine CondP.nt (by assumption) (fun h9 => ?_) | refine CondP.nf (by assumption) (fun h9 => ?_)); (try simp only [h9]); clear h9) | ((first | (with_reducible apply CallG.plain1 [] (o1)) | (with_reducible apply CallG.draw1 [] (o1))); (focus ((try refine And.intro (leAs_of_eq rfl) ?_); (try refine And.intro (leOL_of_eq rfl) ?_); simp (maxSteps := 9999999) (disch := omega) only [go_sem, hr, hrm, he, hL, hLd, k1, hat, g3]; first | done | (repeat' (first | rfl | (refine And.intro ?_ ?_))))); (focus (simp (maxSteps := 9999999) (disch := omega) only [go_sem, hr, hrm, he, hL, hLd, k1, hat, g3]; rfl))) | ((first | (with_reducible apply CallG.plain1 [1, 2, 3] (c1)) | (with_reducible apply CallG.draw1 [1, 2, 3] (c1))); (focus ((try refine And.intro (leAs_of_eq rfl) ?_); (try refine And.intro (leOL_of_eq rfl) ?_); simp (maxSteps := 9999999) (disch := omega) only [go_sem, hr, hrm, he, hL, hLd, k1, hat, g3]; first | done | (repeat' (first | rfl | (refine And.intro ?_ ?_))))); (focus (simp (maxSteps := 9999999) (disch := omega) only [go_sem, hr, hrm, he, hL, hLd, k1, hat, g3]; rfl))) | ((first | (with_reducible apply CallG.plain1 [7] (c2)) | (with_reducible apply CallG.draw1 [7] (c2))); (focus ((try refine And.intro (leAs_of_eq rfl) ?_); (try refine And.intro (leOL_of_eq rfl) ?_); simp (maxSteps := 9999999) (disch := omega) only [go_sem, hr, hrm, he, hL, hLd, k1, hat, g3]; first | done | (repeat' (first | rfl | (refine And.intro ?_ ?_))))); (focus (simp (maxSteps := 9999999) (disch := omega) only [go_sem, hr, hrm, he, hL, hLd, k1, hat, g3]; rfl)))); (try simp (maxSteps := 9999999) (disch := omega) only [go_sem, hr, hrm, he, hL, hLd, k1, hat, g3]); (try (refine And.intro ?_ ?_; (focus (first | omega | (simp only [go_sem]; done) | (simp; done) | (simp; omega) | assumption))))) | ((first | refine CondP.split (fun hif => ?_) (fun hif => ?_) | refine Runs.part (fun hif => ?_) (fun hif => ?_)) <;> ((try simp only [hif]); (try simp only [decide_eq_true_eq, decide_eq_false_iff_not, Bool.not_eq_true, Bool.not_eq_false, Bool.not_eq_true', Bool.not_eq_false', beq_iff_eq, bne_iff_ne, bne_eq_false_iff_eq, beq_eq_false_iff_ne, ne_eq, Bool.and_eq_true, Bool.or_eq_true, Bool.or_eq_false_iff] at hif); (try (have h9 : _ = true := hif; simp only [h9])); (try (have h9 : _ = false := hif; simp only [h9])); (try simp (maxSteps := 9999999) (disch := omega) only [go_sem, hr, hrm, he, hL, hLd, k1, hat, g3]); (try (refine And.intro ?_ ?_; (focus (first | omega | (simp only [go_sem]; done) | (simp; done) | (simp; omega) | assumption)))); (try (exfalso; omega; done))))))
      (apply Back.to (i + 1, y) [0, 1, 2, 200, 4, 5, 6, 312]; (focus ((try simp (maxSteps := 9999999) (disch := omega) only [go_sem, hr, hrm, he, hfu, hsn, hel2, renL_append]); first | done | omega)); rotate_left; (focus (simp (maxSteps := 9999999) (disch := omega) only [go_sem, hr, hrm, he, hfu, hsn, hel2, renL_append]; (try (repeat' (first | done | trivial | rfl | exact leAs_rfl _ | decide | (refine And.intro ?_ ?_) | (simp; done) | omega | (simp; decide)))))))
      exact ⟨by simp only; omega, hok2, by simp only; omega⟩
  · obtain rfl : i = l.length := by omega
    have k1 : ((l.length : Int) < (l.length : Int)) = False := eq_false (by omega)
    have hL40 : x.e.length ≤ 40 := by omega
    have hnod := hok.nodE
    have hkL := rm_len 0 x.e
    obtain ⟨L, hLe⟩ : ∃ L, L = x.e := ⟨_, rfl⟩
    clear hr hL hz
    (try simp (maxSteps := 9999999) (disch := omega) only [go_sem])
    (repeat' (first | refine AWpA.seq ?_ | refine AWpA.block ?_ | (with_reducible refine CondP.tt ?_) | (with_reducible refine CondP.ff ?_) | refine AWpA.condv (by simp (maxSteps := 9999999) (disch := omega) only [go_sem, hrm, he, k1]; rfl) ?_ | ((first | (apply AWpA.region; (focus (simp (maxSteps := 9999999) (disch := omega) only [go_sem, hrm, he, k1]; rfl))) | (apply AWpA.draw [] [] follows; (focus (first | rfl | decide)); (focus (simp (maxSteps := 9999999) (disch := omega) only [go_sem, hrm, he, k1]; rfl)); (focus (simp (maxSteps := 9999999) (disch := omega) only [go_sem, hrm, he, k1]; first | done | trivial)); (focus (simp (maxSteps := 9999999) (disch := omega) only [go_sem, hrm, he, k1]; rfl))) | (apply TailK.go; (focus (simp (maxSteps := 9999999) (disch := omega) only [go_sem, hrm, he, k1]; rfl))) | refine AWpA.skip ?_ | refine AWpA.exit ?_ | refine AWpA.ret ?_ | (with_reducible refine ARoundsA.succ ?_) | ((first | refine Runs.kt (by assumption) (fun h9 => ?_) | refine Runs.kf (by assumption) (fun h9 => ?_) | refine Runs.nt (by assumption) (fun h9 => ?_) | refine Runs.nf (by assumption) (fun h9 => ?_) | refine CondP.ht (by assumption) (fun h9 => ?_) | refine CondP.hf (by assumption) (fun h9 => ?_) | refine CondP.nt (by assumption) (fun h9 => ?_) | refine CondP.nf (by assumption) (fun h9 => ?_)); (try simp only [h9]); clear h9)); (try simp (maxSteps := 9999999) (disch := omega) only [go_sem, hrm, he, k1]); (try (refine And.intro ?_ ?_; (focus (first | omega | (simp only [go_sem]; done) | (simp; done) | (simp; omega) | assumption))))) | ((first | refine CondP.split (fun hif => ?_) (fun hif => ?_) | refine Runs.part (fun hif => ?_) (fun hif => ?_)) <;> ((try simp only [hif]); (try simp only [decide_eq_true_eq, decide_eq_false_iff_not, Bool.not_eq_true, Bool.not_eq_false, Bool.not_eq_true', Bool.not_eq_false', beq_iff_eq, bne_iff_ne, bne_eq_false_iff_eq, beq_eq_false_iff_ne, ne_eq, Bool.and_eq_true, Bool.or_eq_true, Bool.or_eq_false_iff] at hif); (try (have h9 : _ = true := hif; simp only [h9])); (try (have h9 : _ = false := hif; simp only [h9])); (try simp (maxSteps := 9999999) (disch := omega) only [go_sem, hrm, he, k1]); (try (refine And.intro ?_ ?_; (focus (first | omega | (simp only [go_sem]; done) | (simp; done) | (simp; omega) | assumption)))); (try (exfalso; omega; done))))))
    (apply AWpA.loopL (fun p : Nat × Ix => [(3, .ptr 0 0), (4, .ptr 3 0), (5, .sl 6 0 x.e.length 3 none), (53, I x.e.length), (54, I p.1)]) (fun p => [IxO 2 1 x.l, .map false (EsI x.e), .cells false (Rm 0 x.l), IxO 5 4 p.2.l, .map false (EsI p.2.e), .cells false (Rm 0 p.2.l), .cells false (Rm 0 x.e)]) (fun p => x.e.length - p.1) (fun p => p.1 ≤ x.e.length ∧ p.2.ok ∧ p.2.e = (x.e.drop (x.e.length - p.1)).reverse) ((0, ⟨[], []⟩)) [1, 2, 3, 4, 5, 6, 7]; rotate_left; (focus (simp (maxSteps := 9999999) (disch := omega) only [go_sem, hrm, he, rm_nil]; (try (repeat' (first | done | trivial | rfl | exact leAs_rfl _ | decide | (refine And.intro ?_ ?_) | (simp; done) | omega | (simp; decide)))))); rotate_right)
    · exact ⟨Nat.zero_le _, ix0_ok, by simp⟩
    rintro ⟨i, y⟩ ⟨hi2, hoky, hye⟩
    (try simp only at hi2 hoky hye)
    have hyl : y.l.length = i := by rw [← hoky.perm.length_eq, hye]; simp; omega
    by_cases hil : i < x.e.length
    · have m1 : ((i : Int) < (x.e.length : Int)) = True := eq_true (by omega)
      have hat1 := rm_at 0 x.e i hil
      have hat2 := rm_at 0 x.e (x.e.length - 1 - i) (by omega)
      have hkey := rm_key x.e i hil
      rw [Nat.zero_add] at hat1 hat2
      have hix : ((x.e.length : Int) - 1 - (i : Int)).toNat = x.e.length - 1 - i := by omega
      have hput := rev_put hnod hil hye
      have c1 := mput_any y x.e[x.e.length - 1 - i] hoky (by omega)
      have hoky2 := hoky.put x.e[x.e.length - 1 - i]
      have o1 := of10_any x.e[x.e.length - 1 - i]
      have c2 := mget_any x x.e[i].key
      rw [get_in hnod hil] at c2
      simp only [Option.getD_some, Option.isSome_some] at c2
      have tm := to10_any x.e[i]
      have hmm : mkE x.e[i] x.e[i] = true := by rw [mkE_dec]; simp
      clear hye
      generalize putX y x.e[x.e.length - 1 - i] = y' at *
      generalize (getX y.e x.e[x.e.length - 1 - i].key).isSome = b1 at *
      generalize x.e[x.e.length - 1 - i] = z at *
      generalize x.e[i] = a at *
      (try simp (maxSteps := 9999999) (disch := omega) only [go_sem])
      (repeat' (first | refine AWpA.seq ?_ | refine AWpA.block ?_ | (with_reducible refine CondP.tt ?_) | (with_reducible refine CondP.ff ?_) | refine AWpA.condv (by simp (maxSteps := 9999999) (disch := omega) only [go_sem, hrm, he, hkL, m1, hat1, hat2, hkey, hix, hmm]; rfl) ?_ | ((first | (apply AWpA.region; (focus (simp (maxSteps := 9999999) (disch := omega) only [go_sem, hrm, he, hkL, m1, hat1, hat2, hkey, hix, hmm]; rfl))) | (apply AWpA.draw [] [] follows; (focus (first | rfl | decide)); (focus (simp (maxSteps := 9999999) (disch := omega) only [go_sem, hrm, he, hkL, m1, hat1, hat2, hkey, hix, hmm]; rfl)); (focus (simp (maxSteps := 9999999) (disch := omega) only [go_sem, hrm, he, hkL, m1, hat1, hat2, hkey, hix, hmm]; first | done | trivial)); (focus (simp (maxSteps := 9999999) (disch := omega) only [go_sem, hrm, he, hkL, m1, hat1, hat2, hkey, hix, hmm]; rfl))) | (apply TailK.go; (focus (simp (maxSteps := 9999999) (disch := omega) only [go_sem, hrm, he, hkL, m1, hat1, hat2, hkey, hix, hmm]; rfl))) | refine AWpA.skip ?_ | refine AWpA.exit ?_ | refine AWpA.ret ?_ | (with_reducible refine ARoundsA.succ ?_) | ((first | refine Runs.kt (by assumption) (fun h9 => ?_) | refine Runs.kf (by assumption) (fun h9 => ?_) | refine Runs.nt (by assumption) (fun h9 => ?_) | refine Runs.nf (by assumption) (fun h9 => ?_) | refine CondP.ht (by assumption) (fun h9 => ?_) | refine CondP.hf (by assumption) (fun h9 => ?_) | refine CondP.nt (by assumption) (fun h9 => ?_) | refine CondP.nf (by assumption) (fun h9 => ?_)); (try simp only [h9]); clear h9) | ((first | (with_reducible apply CallG.plain1 [] (o1)) | (with_reducible apply CallG.draw1 [] (o1))); (focus ((try refine And.intro (leAs_of_eq rfl) ?_); (try refine And.intro (leOL_of_eq rfl) ?_); simp (maxSteps := 9999999) (disch := omega) only [go_sem, hrm, he, hkL, m1, hat1, hat2, hkey, hix, hmm]; first | done | (repeat' (first | rfl | (refine And.intro ?_ ?_))))); (focus (simp (maxSteps := 9999999) (disch := omega) only [go_sem, hrm, he, hkL, m1, hat1, hat2, hkey, hix, hmm]; rfl))) | ((first | (with_reducible apply CallG.plain1 [] (tm)) | (with_reducible apply CallG.draw1 [] (tm))); (focus ((try refine And.intro (leAs_of_eq rfl) ?_); (try refine And.intro (leOL_of_eq rfl) ?_); simp (maxSteps := 9999999) (disch := omega) only [go_sem, hrm, he, hkL, m1, hat1, hat2, hkey, hix, hmm]; first | done | (repeat' (first | rfl | (refine And.intro ?_ ?_))))); (focus (simp (maxSteps := 9999999) (disch := omega) only [go_sem, hrm, he, hkL, m1, hat1, hat2, hkey, hix, hmm]; rfl))) | ((first | (with_reducible apply CallG.plain1 [3, 4, 5] (c1)) | (with_reducible apply CallG.draw1 [3, 4, 5] (c1))); (focus ((try refine And.intro (leAs_of_eq rfl) ?_); (try refine And.intro (leOL_of_eq rfl) ?_); simp (maxSteps := 9999999) (disch := omega) only [go_sem, hrm, he, hkL, m1, hat1, hat2, hkey, hix, hmm]; first | done | (repeat' (first | rfl | (refine And.intro ?_ ?_))))); (focus (simp (maxSteps := 9999999) (disch := omega) only [go_sem, hrm, he, hkL, m1, hat1, hat2, hkey, hix, hmm]; rfl))) | ((first | (with_reducible apply CallG.plain1 [0, 1, 2] (c2)) | (with_reducible apply CallG.draw1 [0, 1, 2] (c2))); (focus ((try refine And.intro (leAs_of_eq rfl) ?_); (try refine And.intro (leOL_of_eq rfl) ?_); simp (maxSteps := 9999999) (disch := omega) only [go_sem, hrm, he, hkL, m1, hat1, hat2, hkey, hix, hmm]; first | done | (repeat' (first | rfl | (refine And.intro ?_ ?_))))); (focus (simp (maxSteps := 9999999) (disch := omega) only [go_sem, hrm, he, hkL, m1, hat1, hat2, hkey, hix, hmm]; rfl)))); (try simp (maxSteps := 9999999) (disch := omega) only [go_sem, hrm, he, hkL, m1, hat1, hat2, hkey, hix, hmm]); (try (refine And.intro ?_ ?_; (focus (first | omega | (simp only [go_sem]; done) | (simp; done) | (simp; omega) | assumption))))) | ((first | refine CondP.split (fun hif => ?_) (fun hif => ?_) | refine Runs.part (fun hif => ?_) (fun hif => ?_)) <;> ((try simp only [hif]); (try simp only [decide_eq_true_eq, decide_eq_false_iff_not, Bool.not_eq_true, Bool.not_eq_false, Bool.not_eq_true', Bool.not_eq_false', beq_iff_eq, bne_iff_ne, bne_eq_false_iff_eq, beq_eq_false_iff_ne, ne_eq, Bool.and_eq_true, Bool.or_eq_true, Bool.or_eq_false_iff] at hif); (try (have h9 : _ = true := hif; simp only [h9])); (try (have h9 : _ = false := hif; simp only [h9])); (try simp (maxSteps := 9999999) (disch := omega) only [go_sem, hrm, he, hkL, m1, hat1, hat2, hkey, hix, hmm]); (try (refine And.intro ?_ ?_; (focus (first | omega | (simp only [go_sem]; done) | (simp; done) | (simp; omega) | assumption)))); (try (exfalso; omega; done))))))
      (apply Back.to (i + 1, y') [0, 1, 2, 3, 4, 215, 6]; (focus ((try simp (maxSteps := 9999999) (disch := omega) only [go_sem, hrm, he]); first | done | omega)); rotate_left; (focus (simp (maxSteps := 9999999) (disch := omega) only [go_sem, hrm, he]; (try (repeat' (first | done | trivial | rfl | exact leAs_rfl _ | decide | (refine And.intro ?_ ?_) | (simp; done) | omega | (simp; decide)))))))
      exact ⟨by simp only; omega, hoky2, hput⟩
    · obtain rfl : i = x.e.length := by omega
      have m1 : ((x.e.length : Int) < (x.e.length : Int)) = False := eq_false (by omega)
      have hye2 : y.e.Perm x.e := by rw [hye, Nat.sub_self, List.drop_zero]; exact List.reverse_perm _
      have hxy : y.l = x.l := sorted_ext hoky.rise hok.rise fun a => by
        rw [← hoky.perm.mem_iff, hye2.mem_iff, hok.perm.mem_iff]
      have c1 := mnewest_any x 50 hok.rise (by omega)
      have c2 := mnewest_any y 50 hoky.rise (by omega)
      rw [hxy] at c2
      have hla : (belowM x.l zeroM 50).length ≤ 1099511627776 := by
        have : (belowM x.l zeroM 50).length ≤ x.l.length := by unfold belowM; simp; omega
        omega
      have c3 := mlen_any x
      generalize belowM x.l zeroM 50 = A at *
      have t1 := tos_any 0 A hla
      have s1 := same10_any 0 0 A A hla hla
      rw [decide_eq_true rfl] at s1
      have hel3 : ((x.l.length : Int) = (x.e.length : Int)) = True := eq_true (by omega)
      clear hye hye2
      rw [hxy]
      (try simp (maxSteps := 9999999) (disch := omega) only [go_sem])
      (repeat' (first | refine AWpA.seq ?_ | refine AWpA.block ?_ | (with_reducible refine CondP.tt ?_) | (with_reducible refine CondP.ff ?_) | refine AWpA.condv (by simp (maxSteps := 9999999) (disch := omega) only [go_sem, hrm, he, m1, hel]; rfl) ?_ | ((first | (apply AWpA.region; (focus (simp (maxSteps := 9999999) (disch := omega) only [go_sem, hrm, he, m1, hel]; rfl))) | (apply AWpA.draw [] [] follows; (focus (first | rfl | decide)); (focus (simp (maxSteps := 9999999) (disch := omega) only [go_sem, hrm, he, m1, hel]; rfl)); (focus (simp (maxSteps := 9999999) (disch := omega) only [go_sem, hrm, he, m1, hel]; first | done | trivial)); (focus (simp (maxSteps := 9999999) (disch := omega) only [go_sem, hrm, he, m1, hel]; rfl))) | (apply TailK.go; (focus (simp (maxSteps := 9999999) (disch := omega) only [go_sem, hrm, he, m1, hel]; rfl))) | refine AWpA.skip ?_ | refine AWpA.exit ?_ | refine AWpA.ret ?_ | (with_reducible refine ARoundsA.succ ?_) | ((first | refine Runs.kt (by assumption) (fun h9 => ?_) | refine Runs.kf (by assumption) (fun h9 => ?_) | refine Runs.nt (by assumption) (fun h9 => ?_) | refine Runs.nf (by assumption) (fun h9 => ?_) | refine CondP.ht (by assumption) (fun h9 => ?_) | refine CondP.hf (by assumption) (fun h9 => ?_) | refine CondP.nt (by assumption) (fun h9 => ?_) | refine CondP.nf (by assumption) (fun h9 => ?_)); (try simp only [h9]); clear h9) | ((first | (with_reducible apply CallG.plain1 [0, 1, 2] (c1)) | (with_reducible apply CallG.draw1 [0, 1, 2] (c1))); (focus ((try refine And.intro (leAs_of_eq rfl) ?_); (try refine And.intro (leOL_of_eq rfl) ?_); simp (maxSteps := 9999999) (disch := omega) only [go_sem, hrm, he, m1, hel]; first | done | (repeat' (first | rfl | (refine And.intro ?_ ?_))))); (focus (simp (maxSteps := 9999999) (disch := omega) only [go_sem, hrm, he, m1, hel]; rfl))) | ((first | (with_reducible apply CallG.plain1 [3, 4, 5] (c2)) | (with_reducible apply CallG.draw1 [3, 4, 5] (c2))); (focus ((try refine And.intro (leAs_of_eq rfl) ?_); (try refine And.intro (leOL_of_eq rfl) ?_); simp (maxSteps := 9999999) (disch := omega) only [go_sem, hrm, he, m1, hel]; first | done | (repeat' (first | rfl | (refine And.intro ?_ ?_))))); (focus (simp (maxSteps := 9999999) (disch := omega) only [go_sem, hrm, he, m1, hel]; rfl))) | ((first | (with_reducible apply CallG.plain1 [0, 1, 2] (c3)) | (with_reducible apply CallG.draw1 [0, 1, 2] (c3))); (focus ((try refine And.intro (leAs_of_eq rfl) ?_); (try refine And.intro (leOL_of_eq rfl) ?_); simp (maxSteps := 9999999) (disch := omega) only [go_sem, hrm, he, m1, hel]; first | done | (repeat' (first | rfl | (refine And.intro ?_ ?_))))); (focus (simp (maxSteps := 9999999) (disch := omega) only [go_sem, hrm, he, m1, hel]; rfl))) | ((first | (with_reducible apply CallG.plain1 [39] (t1)) | (with_reducible apply CallG.draw1 [39] (t1))); (focus ((try refine And.intro (leAs_of_eq rfl) ?_); (try refine And.intro (leOL_of_eq rfl) ?_); simp (maxSteps := 9999999) (disch := omega) only [go_sem, hrm, he, m1, hel]; first | done | (repeat' (first | rfl | (refine And.intro ?_ ?_))))); (focus (simp (maxSteps := 9999999) (disch := omega) only [go_sem, hrm, he, m1, hel]; rfl))) | ((first | (with_reducible apply CallG.plain1 [87] (t1)) | (with_reducible apply CallG.draw1 [87] (t1))); (focus ((try refine And.intro (leAs_of_eq rfl) ?_); (try refine And.intro (leOL_of_eq rfl) ?_); simp (maxSteps := 9999999) (disch := omega) only [go_sem, hrm, he, m1, hel]; first | done | (repeat' (first | rfl | (refine And.intro ?_ ?_))))); (focus (simp (maxSteps := 9999999) (disch := omega) only [go_sem, hrm, he, m1, hel]; rfl))) | ((first | (with_reducible apply CallG.plain1 [55, 103] (s1)) | (with_reducible apply CallG.draw1 [55, 103] (s1))); (focus ((try refine And.intro (leAs_of_eq rfl) ?_); (try refine And.intro (leOL_of_eq rfl) ?_); simp (maxSteps := 9999999) (disch := omega) only [go_sem, hrm, he, m1, hel]; first | done | (repeat' (first | rfl | (refine And.intro ?_ ?_))))); (focus (simp (maxSteps := 9999999) (disch := omega) only [go_sem, hrm, he, m1, hel]; rfl)))); (try simp (maxSteps := 9999999) (disch := omega) only [go_sem, hrm, he, m1, hel]); (try (refine And.intro ?_ ?_; (focus (first | omega | (simp only [go_sem]; done) | (simp; done) | (simp; omega) | assumption))))) | ((first | refine CondP.split (fun hif => ?_) (fun hif => ?_) | refine Runs.part (fun hif => ?_) (fun hif => ?_)) <;> ((try simp only [hif]); (try simp only [decide_eq_true_eq, decide_eq_false_iff_not, Bool.not_eq_true, Bool.not_eq_false, Bool.not_eq_true', Bool.not_eq_false', beq_iff_eq, bne_iff_ne, bne_eq_false_iff_eq, beq_eq_false_iff_ne, ne_eq, Bool.and_eq_true, Bool.or_eq_true, Bool.or_eq_false_iff] at hif); (try (have h9 : _ = true := hif; simp only [h9])); (try (have h9 : _ = false := hif; simp only [h9])); (try simp (maxSteps := 9999999) (disch := omega) only [go_sem, hrm, he, m1, hel]); (try (refine And.intro ?_ ?_; (focus (first | omega | (simp only [go_sem]; done) | (simp; done) | (simp; omega) | assumption)))); (try (exfalso; omega; done))))))
      (apply AWpA.loopL (fun p : Nat × Ix => [(3, .ptr 0 0), (105, .sl 3 0 x.l.length 3 none), (106, I x.l.length), (107, I p.1)]) (fun p => [IxO 2 1 p.2.l, .map false (EsI p.2.e), .cells false (Rm 0 p.2.l), .cells false (Rm 0 x.e)]) (fun p => x.l.length - p.1) (fun p => p.1 ≤ x.l.length ∧ p.2.ok ∧ p.2.e = x.e.drop p.1) ((0, x)) [0, 1, 2, 6]; rotate_left; (focus (simp (maxSteps := 9999999) (disch := omega) only [go_sem, hrm, he]; (try (repeat' (first | done | trivial | rfl | exact leAs_rfl _ | decide | (refine And.intro ?_ ?_) | (simp; done) | omega | (simp; decide)))))); rotate_right)
      · exact ⟨Nat.zero_le _, hok, by simp⟩
      clear c1 c2 c3 t1 s1 hla
      rintro ⟨j, z⟩ ⟨hj, hokz, hze⟩
      (try simp only at hj hokz hze)
      have hzl : z.l.length = x.l.length - j := by rw [← hokz.perm.length_eq, hze, ← hel]; simp
      by_cases hjl : j < x.l.length
      · have m2 : ((j : Int) < (x.l.length : Int)) = True := eq_true (by omega)
        have hje : j < x.e.length := by omega
        have hat1 := rm_at 0 x.e j hje
        rw [Nat.zero_add] at hat1
        have hg : getX z.e x.e[j].key = some x.e[j] := by
          have := get_in (l := x.e.drop j) (List.Pairwise.sublist ((List.drop_sublist j x.e).map _) hnod) (i := 0) (by simp; omega)
          rw [hze]
          simpa using this
        have c1 := mdrop_any z x.e[j].key hokz (by omega)
        have hokz2 := hokz.drop x.e[j].key
        have hz2 : (dropX z x.e[j].key).e = x.e.drop (j + 1) := by simp only [dropX]; rw [hze]; exact drop_first hnod hje
        rw [hg, Option.isSome_some] at c1
        clear hg hze
        generalize dropX z x.e[j].key = z' at *
        generalize x.e[j] = a at *
        (try simp (maxSteps := 9999999) (disch := omega) only [go_sem])
        (repeat' (first | refine AWpA.seq ?_ | refine AWpA.block ?_ | (with_reducible refine CondP.tt ?_) | (with_reducible refine CondP.ff ?_) | refine AWpA.condv (by simp (maxSteps := 9999999) (disch := omega) only [go_sem, hrm, he, hkL, hel, m2, hat1]; rfl) ?_ | ((first | (apply AWpA.region; (focus (simp (maxSteps := 9999999) (disch := omega) only [go_sem, hrm, he, hkL, hel, m2, hat1]; rfl))) | (apply AWpA.draw [] [] follows; (focus (first | rfl | decide)); (focus (simp (maxSteps := 9999999) (disch := omega) only [go_sem, hrm, he, hkL, hel, m2, hat1]; rfl)); (focus (simp (maxSteps := 9999999) (disch := omega) only [go_sem, hrm, he, hkL, hel, m2, hat1]; first | done | trivial)); (focus (simp (maxSteps := 9999999) (disch := omega) only [go_sem, hrm, he, hkL, hel, m2, hat1]; rfl))) | (apply TailK.go; (focus (simp (maxSteps := 9999999) (disch := omega) only [go_sem, hrm, he, hkL, hel, m2, hat1]; rfl))) | refine AWpA.skip ?_ | refine AWpA.exit ?_ | refine AWpA.ret ?_ | (with_reducible refine ARoundsA.succ ?_) | ((first | refine Runs.kt (by assumption) (fun h9 => ?_) | refine Runs.kf (by assumption) (fun h9 => ?_) | refine Runs.nt (by assumption) (fun h9 => ?_) | refine Runs.nf (by assumption) (fun h9 => ?_) | refine CondP.ht (by assumption) (fun h9 => ?_) | refine CondP.hf (by assumption) (fun h9 => ?_) | refine CondP.nt (by assumption) (fun h9 => ?_) | refine CondP.nf (by assumption) (fun h9 => ?_)); (try simp only [h9]); clear h9) | ((first | (with_reducible apply CallG.plain1 [0, 1, 2] (c1)) | (with_reducible apply CallG.draw1 [0, 1, 2] (c1))); (focus ((try refine And.intro (leAs_of_eq rfl) ?_); (try refine And.intro (leOL_of_eq rfl) ?_); simp (maxSteps := 9999999) (disch := omega) only [go_sem, hrm, he, hkL, hel, m2, hat1]; first | done | (repeat' (first | rfl | (refine And.intro ?_ ?_))))); (focus (simp (maxSteps := 9999999) (disch := omega) only [go_sem, hrm, he, hkL, hel, m2, hat1]; rfl)))); (try simp (maxSteps := 9999999) (disch := omega) only [go_sem, hrm, he, hkL, hel, m2, hat1]); (try (refine And.intro ?_ ?_; (focus (first | omega | (simp only [go_sem]; done) | (simp; done) | (simp; omega) | assumption))))) | ((first | refine CondP.split (fun hif => ?_) (fun hif => ?_) | refine Runs.part (fun hif => ?_) (fun hif => ?_)) <;> ((try simp only [hif]); (try simp only [decide_eq_true_eq, decide_eq_false_iff_not, Bool.not_eq_true, Bool.not_eq_false, Bool.not_eq_true', Bool.not_eq_false', beq_iff_eq, bne_iff_ne, bne_eq_false_iff_eq, beq_eq_false_iff_ne, ne_eq, Bool.and_eq_true, Bool.or_eq_true, Bool.or_eq_false_iff] at hif); (try (have h9 : _ = true := hif; simp only [h9])); (try (have h9 : _ = false := hif; simp only [h9])); (try simp (maxSteps := 9999999) (disch := omega) only [go_sem, hrm, he, hkL, hel, m2, hat1]); (try (refine And.intro ?_ ?_; (focus (first | omega | (simp only [go_sem]; done) | (simp; done) | (simp; omega) | assumption)))); (try (exfalso; omega; done))))))
        (apply Back.to (j + 1, z') [0, 1, 132, 3]; (focus ((try simp (maxSteps := 9999999) (disch := omega) only [go_sem, hrm, he]); first | done | omega)); rotate_left; (focus (simp (maxSteps := 9999999) (disch := omega) only [go_sem, hrm, he]; (try (repeat' (first | done | trivial | rfl | exact leAs_rfl _ | decide | (refine And.intro ?_ ?_) | (simp; done) | omega | (simp; decide)))))))
        exact ⟨by simp only; omega, hokz2, hz2⟩
      · obtain rfl : j = x.l.length := by omega
        have m2 : ((x.l.length : Int) < (x.l.length : Int)) = False := eq_false (by omega)
        have hz0 : z.l = [] := List.length_eq_zero_iff.1 (by omega)
        have c1 := mlen_any z
        have c2 := mnewest_any z 9 hokz.rise (by omega)
        have hb : belowM z.l zeroM 9 = [] := by rw [hz0]; rfl
        rw [hb] at c2
        rw [hz0] at c1 c2 ⊢
        (try simp (maxSteps := 9999999) (disch := omega) only [go_sem])
        (repeat' (first | refine AWpA.seq ?_ | refine AWpA.block ?_ | (with_reducible refine CondP.tt ?_) | (with_reducible refine CondP.ff ?_) | refine AWpA.condv (by simp (maxSteps := 9999999) (disch := omega) only [go_sem, hrm, he, m2]; rfl) ?_ | ((first | (apply AWpA.region; (focus (simp (maxSteps := 9999999) (disch := omega) only [go_sem, hrm, he, m2]; rfl))) | (apply AWpA.draw [] [] follows; (focus (first | rfl | decide)); (focus (simp (maxSteps := 9999999) (disch := omega) only [go_sem, hrm, he, m2]; rfl)); (focus (simp (maxSteps := 9999999) (disch := omega) only [go_sem, hrm, he, m2]; first | done | trivial)); (focus (simp (maxSteps := 9999999) (disch := omega) only [go_sem, hrm, he, m2]; rfl))) | (apply TailK.go; (focus (simp (maxSteps := 9999999) (disch := omega) only [go_sem, hrm, he, m2]; rfl))) | refine AWpA.skip ?_ | refine AWpA.exit ?_ | refine AWpA.ret ?_ | (with_reducible refine ARoundsA.succ ?_) | ((first | refine Runs.kt (by assumption) (fun h9 => ?_) | refine Runs.kf (by assumption) (fun h9 => ?_) | refine Runs.nt (by assumption) (fun h9 => ?_) | refine Runs.nf (by assumption) (fun h9 => ?_) | refine CondP.ht (by assumption) (fun h9 => ?_) | refine CondP.hf (by assumption) (fun h9 => ?_) | refine CondP.nt (by assumption) (fun h9 => ?_) | refine CondP.nf (by assumption) (fun h9 => ?_)); (try simp only [h9]); clear h9) | ((first | (with_reducible apply CallG.plain1 [0, 1, 2] (c1)) | (with_reducible apply CallG.draw1 [0, 1, 2] (c1))); (focus ((try refine And.intro (leAs_of_eq rfl) ?_); (try refine And.intro (leOL_of_eq rfl) ?_); simp (maxSteps := 9999999) (disch := omega) only [go_sem, hrm, he, m2]; first | done | (repeat' (first | rfl | (refine And.intro ?_ ?_))))); (focus (simp (maxSteps := 9999999) (disch := omega) only [go_sem, hrm, he, m2]; rfl))) | ((first | (with_reducible apply CallG.plain1 [0, 1, 2] (c2)) | (with_reducible apply CallG.draw1 [0, 1, 2] (c2))); (focus ((try refine And.intro (leAs_of_eq rfl) ?_); (try refine And.intro (leOL_of_eq rfl) ?_); simp (maxSteps := 9999999) (disch := omega) only [go_sem, hrm, he, m2]; first | done | (repeat' (first | rfl | (refine And.intro ?_ ?_))))); (focus (simp (maxSteps := 9999999) (disch := omega) only [go_sem, hrm, he, m2]; rfl)))); (try simp (maxSteps := 9999999) (disch := omega) only [go_sem, hrm, he, m2]); (try (refine And.intro ?_ ?_; (focus (first | omega | (simp only [go_sem]; done) | (simp; done) | (simp; omega) | assumption))))) | ((first | refine CondP.split (fun hif => ?_) (fun hif => ?_) | refine Runs.part (fun hif => ?_) (fun hif => ?_)) <;> ((try simp only [hif]); (try simp only [decide_eq_true_eq, decide_eq_false_iff_not, Bool.not_eq_true, Bool.not_eq_false, Bool.not_eq_true', Bool.not_eq_false', beq_iff_eq, bne_iff_ne, bne_eq_false_iff_eq, beq_eq_false_iff_ne, ne_eq, Bool.and_eq_true, Bool.or_eq_true, Bool.or_eq_false_iff] at hif); (try (have h9 : _ = true := hif; simp only [h9])); (try (have h9 : _ = false := hif; simp only [h9])); (try simp (maxSteps := 9999999) (disch := omega) only [go_sem, hrm, he, m2]); (try (refine And.intro ?_ ?_; (focus (first | omega | (simp only [go_sem]; done) | (simp; done) | (simp; omega) | assumption)))); (try (exfalso; omega; done))))))
        (refine TopPost.of (by first | exact .inl rfl | exact .inr rfl) (by (try simp (maxSteps := 9999999) (disch := omega) only [go_sem]); rfl) ?_; (try simp (maxSteps := 9999999) (disch := omega) only [go_sem]); (try (first | trivial | decide | (simp; done))))
end Go.Proofs.Ytgjimlgofakbpaa
