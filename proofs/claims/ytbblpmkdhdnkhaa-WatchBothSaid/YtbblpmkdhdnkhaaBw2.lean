/- Contracts: what a watch looks up. -/
import Derived.Test.YtbblpmkdhdnkhaaBw1
namespace Go.Proofs.Ytbblpmkdhdnkhaa
set_option linter.unusedSimpArgs false
set_option linter.unusedVariables false
set_option maxHeartbeats 4000000
open Go Go.Am Go.RowKit
set_option maxRecDepth 100000
theorem str_ren (ρ : List Nat) (a : ByteArray) : ren ρ (Str a) = Str a := by simp [ren]
theorem en_ren (ρ : List Nat) (a : En) : ren ρ (EnA a) = EnA a := by simp [ren, renL]
abbrev EsK (l : List En) : List (AV × AV) := EsG Str (bkM l l.length)
theorem re_key (off : Nat) (l : List En) (i : Nat) (h : i < l.length) : (Re off l).getD (off + i * 9) AV.bad = Str l[i].key := cell_at (q := 0) (re_at off l i h) (by decide)
/- quidnunc/watch.byKey -/
noncomputable def c36_1 : ACode := .region false [⟨some 2, .move, [.c (.val (.map none))], none⟩] [] [] [0] false [] []
noncomputable def c36_3 : ACode := .region false [⟨some 5, .move, [.t 0], none⟩,
  ⟨some 6, .len, [.t 5], none⟩,
  ⟨some 7, .makeMap, [.t 6], none⟩,
  ⟨some 3, .move, [.t 7], none⟩] [] [] [0, 3] true [] []
noncomputable def c36_6 : ACode := .region false [⟨some 8, .move, [.t 0], none⟩,
  ⟨some 9, .len, [.t 8], none⟩,
  ⟨some 10, .bin .sub, [.t 9, .c (.val (.int .i64 1))], none⟩,
  ⟨some 4, .move, [.t 10], none⟩] [] [] [0, 3, 4] false [] []
noncomputable def c36_11 : ACode := .region false [⟨some 11, .move, [.t 4], none⟩,
  ⟨some 12, .bin .geq, [.t 11, .c (.val (.int .i64 0))], none⟩] [] [] [0, 3, 4, 12] false [] []
noncomputable def c36_12 : ACode := .cond (.t 12) .skip (.exit 0)
noncomputable def c36_10 : ACode := .seq c36_11 c36_12
noncomputable def c36_15 : ACode := .region false [⟨some 15, .move, [.t 3], none⟩,
  ⟨some 16, .move, [.t 0], none⟩,
  ⟨some 17, .move, [.t 4], none⟩,
  ⟨some 18, .ixS 9, [.t 16, .t 17], none⟩,
  ⟨some 19, .addr 0, [.t 18], none⟩,
  ⟨some 20, .load false 1, [.t 19], none⟩,
  ⟨some 21, .move, [.t 4], none⟩,
  ⟨none, .mapUpd [(0, 1)], [.t 15, .t 20, .t 21], none⟩] [] [] [0, 3, 4] true [] []
noncomputable def c36_14 : ACode := .block 1 c36_15
noncomputable def c36_16 : ACode := .region false [⟨some 13, .move, [.t 4], none⟩,
  ⟨some 14, .bin .sub, [.t 13, .c (.val (.int .i64 1))], none⟩,
  ⟨some 4, .move, [.t 14], none⟩] [] [] [0, 3, 4] false [] []
noncomputable def c36_13 : ACode := .seq c36_14 c36_16
noncomputable def c36_9 : ACode := .seq c36_10 c36_13
noncomputable def c36_8 : ACode := .loop c36_9
noncomputable def c36_7 : ACode := .block 0 c36_8
noncomputable def c36_5 : ACode := .seq c36_6 c36_7
noncomputable def c36_18 : ACode := .region false [⟨some 22, .move, [.t 3], none⟩,
  ⟨some 2, .move, [.t 22], none⟩] [] [] [2] false [] []
noncomputable def c36_17 : ACode := .seq c36_18 .ret
noncomputable def c36_4 : ACode := .seq c36_5 c36_17
noncomputable def c36_2 : ACode := .seq c36_3 c36_4
noncomputable def c36_0 : ACode := .seq c36_1 c36_2
noncomputable def code36 : Code := (Try.f36.body).getD .skip
theorem c36_ok : compC Try.prog 23 code36 = some (strip c36_0) := by kernel_rfl
theorem res36_ok : Try.f36.results.toList.mapM (resC Try.prog) = some [(2, none)] := by kernel_rfl
/- quidnunc/watch.Fell -/
noncomputable def c25_1 : ACode := .region false [⟨some 4, .move, [.c (.val (.string ⟨#[]⟩))], none⟩,
  ⟨some 5, .move, [.c (.val (.bool false))], none⟩] [] [] [0, 1] false [] []
noncomputable def c25_3 : ACode := .region false [⟨some 11, .move, [.t 1], none⟩,
  ⟨some 12, .call 36, [.t 11], none⟩,
  ⟨some 6, .move, [.t 12], none⟩] [] [] [0, 1, 6] true [] []
noncomputable def c25_6 : ACode := .region false [⟨some 13, .move, [.t 0], none⟩,
  ⟨some 14, .len, [.t 13], none⟩,
  ⟨some 15, .move, [.c (.val (.int .i64 0))], none⟩] [] [] [1, 6, 13, 14, 15] false [] []
noncomputable def c25_10 : ACode := .region false [⟨some 16, .bin .lss, [.t 15, .t 14], none⟩] [] [] [1, 6, 13, 14, 15, 16] false [] []
noncomputable def c25_12 : ACode := .cond (.t 16) .skip (.exit 0)
noncomputable def c25_16 : ACode := .region false [⟨some 17, .ixS 9, [.t 13, .t 15], none⟩,
  ⟨some 18, .load true 9, [.t 17], none⟩,
  ⟨some 8, .alloc [(.string ⟨#[]⟩), (.string ⟨#[]⟩), (.bool false), (.int .i64 0), (.int .i64 0), (.int .i64 0), (.int .i64 0), (.int .i64 0), (.int .i64 0)], [], none⟩,
  ⟨none, .store 9, [.t 8, .t 18], none⟩] [] [] [1, 6, 8, 13, 14, 15] true [] []
noncomputable def c25_18 : ACode := .region false [⟨some 20, .move, [.t 6], none⟩,
  ⟨some 21, .addr 0, [.t 8], none⟩,
  ⟨some 22, .load false 1, [.t 21], none⟩,
  ⟨some 23, .lookup [(0, 1)] (.int .i64 0) true, [.t 20, .t 22], none⟩,
  ⟨some 19, .move, [.t 23], none⟩,
  ⟨some 24, .ext 0, [.t 19], none⟩,
  ⟨some 25, .ext 1, [.t 19], none⟩,
  ⟨some 9, .move, [.t 24], none⟩,
  ⟨some 10, .move, [.t 25], none⟩] [] [] [1, 6, 8, 9, 10, 13, 14, 15] false [] []
noncomputable def c25_20 : ACode := .region true [⟨some 26, .move, [.t 10], none⟩,
  ⟨some 27, .un .not, [.t 26], none⟩,
  ⟨some 28, .move, [.t 27], none⟩,
  ⟨some 29, .load true 9, [.t 8], some (some 28, false)⟩,
  ⟨some 30, .move, [.t 1], some (some 28, false)⟩,
  ⟨some 31, .move, [.t 9], some (some 28, false)⟩,
  ⟨some 32, .ixS 9, [.t 30, .t 31], some (some 28, false)⟩,
  ⟨some 33, .load true 9, [.t 32], some (some 28, false)⟩,
  ⟨some 34, .call 46, [.t 29, .t 33], some (some 28, false)⟩,
  ⟨some 35, .pick, [.t 28, .c (.val (.bool true)), .t 34], none⟩] [] [] [1, 6, 8, 13, 14, 15, 35] true [] []
noncomputable def c25_23 : ACode := .region false [⟨some 36, .addr 0, [.t 8], none⟩,
  ⟨some 37, .load false 1, [.t 36], none⟩,
  ⟨some 4, .move, [.t 37], none⟩,
  ⟨some 5, .move, [.c (.val (.bool true))], none⟩] [] [] [4, 5] false [] []
noncomputable def c25_22 : ACode := .seq c25_23 .ret
noncomputable def c25_21 : ACode := .cond (.t 35) c25_22 .skip
noncomputable def c25_19 : ACode := .seq c25_20 c25_21
noncomputable def c25_17 : ACode := .seq c25_18 c25_19
noncomputable def c25_15 : ACode := .seq c25_16 c25_17
noncomputable def c25_14 : ACode := .block 1 c25_15
noncomputable def c25_24 : ACode := .region false [⟨some 38, .bin .add, [.t 15, .c (.val (.int .i64 1))], none⟩,
  ⟨some 15, .move, [.t 38], none⟩] [] [] [1, 6, 13, 14, 15] false [] []
noncomputable def c25_13 : ACode := .seq c25_14 c25_24
noncomputable def c25_11 : ACode := .seq c25_12 c25_13
noncomputable def c25_9 : ACode := .seq c25_10 c25_11
noncomputable def c25_8 : ACode := .loop c25_9
noncomputable def c25_7 : ACode := .block 0 c25_8
noncomputable def c25_5 : ACode := .seq c25_6 c25_7
noncomputable def c25_26 : ACode := .region false [⟨some 4, .move, [.c (.val (.string ⟨#[]⟩))], none⟩,
  ⟨some 5, .move, [.c (.val (.bool false))], none⟩] [] [] [4, 5] false [] []
noncomputable def c25_25 : ACode := .seq c25_26 .ret
noncomputable def c25_4 : ACode := .seq c25_5 c25_25
noncomputable def c25_2 : ACode := .seq c25_3 c25_4
noncomputable def c25_0 : ACode := .seq c25_1 c25_2
noncomputable def code25 : Code := (Try.f25.body).getD .skip
theorem c25_ok : compC Try.prog 39 code25 = some (strip c25_0) := by kernel_rfl
theorem res25_ok : Try.f25.results.toList.mapM (resC Try.prog) = some [(4, none), (5, none)] := by kernel_rfl
/- quidnunc/watch.bare -/
noncomputable def c52_1 : ACode := .region false [⟨some 1, .box 0, [.t 0], none⟩,
  ⟨some 2, .alloc [(.string ⟨#[]⟩), (.string ⟨#[]⟩), (.bool false), (.int .i64 0), (.int .i64 0), (.int .i64 0), (.int .i64 0), (.int .i64 0), (.int .i64 0)], [], none⟩] [] [] [1, 2] true [] []
noncomputable def c52_3 : ACode := .region false [⟨some 3, .addr 8, [.t 1], none⟩,
  ⟨none, .store 1, [.t 3, .c (.val (.int .i64 0))], none⟩,
  ⟨some 4, .addr 7, [.t 1], none⟩,
  ⟨none, .store 1, [.t 4, .c (.val (.int .i64 0))], none⟩] [] [] [1, 2] true [] []
noncomputable def c52_5 : ACode := .region false [⟨some 5, .load true 9, [.t 1], none⟩,
  ⟨none, .store 9, [.t 2, .t 5], none⟩] [] [] [2] true [] []
noncomputable def c52_4 : ACode := .seq c52_5 .ret
noncomputable def c52_2 : ACode := .seq c52_3 c52_4
noncomputable def c52_0 : ACode := .seq c52_1 c52_2
noncomputable def code52 : Code := (Try.f52.body).getD .skip
theorem c52_ok : compC Try.prog 6 code52 = some (strip c52_0) := by kernel_rfl
theorem res52_ok : Try.f52.results.toList.mapM (resC Try.prog) = some [(2, some (true, 9))] := by kernel_rfl
/- quidnunc/watch.core -/
noncomputable def c32_1 : ACode := .region false [⟨some 1, .box 0, [.t 0], none⟩,
  ⟨some 2, .alloc [(.string ⟨#[]⟩), (.string ⟨#[]⟩), (.bool false), (.int .i64 0), (.int .i64 0), (.int .i64 0), (.int .i64 0), (.int .i64 0), (.int .i64 0)], [], none⟩] [] [] [1, 2] true [] []
noncomputable def c32_3 : ACode := .region false [⟨some 3, .load true 9, [.t 1], none⟩,
  ⟨some 4, .call 52, [.t 3], none⟩,
  ⟨none, .store 9, [.t 1, .t 4], none⟩] [] [] [1, 2] true [] []
noncomputable def c32_5 : ACode := .region false [⟨some 5, .build [(.int .i64 0), (.int .i64 0)] [], [], none⟩,
  ⟨some 6, .addr 5, [.t 1], none⟩,
  ⟨none, .store 2, [.t 6, .t 5], none⟩] [] [] [1, 2] true [] []
noncomputable def c32_7 : ACode := .region false [⟨some 7, .load true 9, [.t 1], none⟩,
  ⟨none, .store 9, [.t 2, .t 7], none⟩] [] [] [2] true [] []
noncomputable def c32_6 : ACode := .seq c32_7 .ret
noncomputable def c32_4 : ACode := .seq c32_5 c32_6
noncomputable def c32_2 : ACode := .seq c32_3 c32_4
noncomputable def c32_0 : ACode := .seq c32_1 c32_2
noncomputable def code32 : Code := (Try.f32.body).getD .skip
theorem c32_ok : compC Try.prog 8 code32 = some (strip c32_0) := by kernel_rfl
theorem res32_ok : Try.f32.results.toList.mapM (resC Try.prog) = some [(2, some (true, 9))] := by kernel_rfl
/- quidnunc/watch.Strange$1 -/
noncomputable def c34_1 : ACode := .region false [⟨some 2, .box 0, [.t 0], none⟩,
  ⟨some 3, .move, [.c (.val (.bool false))], none⟩] [] [] [1, 2] true [] []
noncomputable def c34_3 : ACode := .region true [⟨some 7, .load false 1, [.t 1], none⟩,
  ⟨some 8, .load true 9, [.t 2], none⟩,
  ⟨some 9, .call 32, [.t 8], none⟩,
  ⟨some 10, .lookup [(0, 1), (1, 1), (2, 2), (3, 0), (4, 0), (5, 0), (6, 0), (7, 0), (8, 0)] (.int .i64 0) true, [.t 7, .t 9], none⟩,
  ⟨some 6, .move, [.t 10], none⟩,
  ⟨some 11, .ext 0, [.t 6], none⟩,
  ⟨some 12, .ext 1, [.t 6], none⟩,
  ⟨some 4, .move, [.t 11], none⟩,
  ⟨some 5, .move, [.t 12], none⟩] [] [] [5] true [] []
noncomputable def c34_5 : ACode := .region false [⟨some 13, .move, [.t 5], none⟩,
  ⟨some 14, .un .not, [.t 13], none⟩,
  ⟨some 3, .move, [.t 14], none⟩] [] [] [3] false [] []
noncomputable def c34_4 : ACode := .seq c34_5 .ret
noncomputable def c34_2 : ACode := .seq c34_3 c34_4
noncomputable def c34_0 : ACode := .seq c34_1 c34_2
noncomputable def code34 : Code := (Try.f34.body).getD .skip
theorem c34_ok : compC Try.prog 15 code34 = some (strip c34_0) := by kernel_rfl
theorem res34_ok : Try.f34.results.toList.mapM (resC Try.prog) = some [(3, none)] := by kernel_rfl
/- slices.IndexFunc[[]quidnunc/api.Entry,quidnunc/api.Entry] -/
noncomputable def c33_1 : ACode := .region false [⟨some 4, .move, [.c (.val (.int .i64 0))], none⟩] [] [] [0, 1] false [] []
noncomputable def c33_4 : ACode := .region false [⟨some 6, .move, [.t 0], none⟩,
  ⟨some 7, .len, [.t 6], none⟩,
  ⟨some 8, .move, [.c (.val (.int .i64 0))], none⟩] [] [] [0, 1, 7, 8] false [] []
noncomputable def c33_8 : ACode := .region false [⟨some 9, .bin .lss, [.t 8, .t 7], none⟩] [] [] [0, 1, 7, 8, 9] false [] []
noncomputable def c33_10 : ACode := .cond (.t 9) .skip (.exit 0)
noncomputable def c33_14 : ACode := .region false [⟨some 10, .move, [.t 8], none⟩,
  ⟨some 5, .move, [.t 10], none⟩] [] [] [0, 1, 5, 7, 8] false [] []
noncomputable def c33_16 : ACode := .region false [⟨some 11, .move, [.t 1], none⟩,
  ⟨some 12, .move, [.t 0], none⟩,
  ⟨some 13, .move, [.t 5], none⟩,
  ⟨some 14, .ixS 9, [.t 12, .t 13], none⟩,
  ⟨some 15, .load true 9, [.t 14], none⟩,
  ⟨some 16, .callv, [.t 11, .t 15], none⟩] [] [] [0, 1, 5, 7, 8, 16] true [] []
noncomputable def c33_19 : ACode := .region false [⟨some 17, .move, [.t 5], none⟩,
  ⟨some 4, .move, [.t 17], none⟩] [] [] [4] false [] []
noncomputable def c33_18 : ACode := .seq c33_19 .ret
noncomputable def c33_17 : ACode := .cond (.t 16) c33_18 .skip
noncomputable def c33_15 : ACode := .seq c33_16 c33_17
noncomputable def c33_13 : ACode := .seq c33_14 c33_15
noncomputable def c33_12 : ACode := .block 1 c33_13
noncomputable def c33_20 : ACode := .region false [⟨some 18, .bin .add, [.t 8, .c (.val (.int .i64 1))], none⟩,
  ⟨some 8, .move, [.t 18], none⟩] [] [] [0, 1, 7, 8] false [] []
noncomputable def c33_11 : ACode := .seq c33_12 c33_20
noncomputable def c33_9 : ACode := .seq c33_10 c33_11
noncomputable def c33_7 : ACode := .seq c33_8 c33_9
noncomputable def c33_6 : ACode := .loop c33_7
noncomputable def c33_5 : ACode := .block 0 c33_6
noncomputable def c33_3 : ACode := .seq c33_4 c33_5
noncomputable def c33_22 : ACode := .region false [⟨some 4, .move, [.c (.val (.int .i64 (-1)))], none⟩] [] [] [4] false [] []
noncomputable def c33_21 : ACode := .seq c33_22 .ret
noncomputable def c33_2 : ACode := .seq c33_3 c33_21
noncomputable def c33_0 : ACode := .seq c33_1 c33_2
noncomputable def code33 : Code := (Try.f33.body).getD .skip
theorem c33_ok : compC Try.prog 19 code33 = some (strip c33_0) := by kernel_rfl
theorem res33_ok : Try.f33.results.toList.mapM (resC Try.prog) = some [(4, none)] := by kernel_rfl
/- quidnunc/watch.Strange -/
noncomputable def c11_1 : ACode := .region false [⟨some 4, .move, [.c (.val (.int .i64 0))], none⟩] [] [] [0, 1] false [] []
noncomputable def c11_3 : ACode := .region false [⟨some 8, .move, [.t 1], none⟩,
  ⟨some 9, .len, [.t 8], none⟩,
  ⟨some 10, .makeMap, [.t 9], none⟩,
  ⟨some 5, .alloc [(.map none)], [], none⟩,
  ⟨none, .store 1, [.t 5, .t 10], none⟩] [] [] [0, 1, 5] true [] []
noncomputable def c11_6 : ACode := .region false [⟨some 11, .move, [.t 1], none⟩,
  ⟨some 12, .len, [.t 11], none⟩,
  ⟨some 13, .move, [.c (.val (.int .i64 0))], none⟩] [] [] [0, 5, 11, 12, 13] false [] []
noncomputable def c11_10 : ACode := .region false [⟨some 14, .bin .lss, [.t 13, .t 12], none⟩] [] [] [0, 5, 11, 12, 13, 14] false [] []
noncomputable def c11_12 : ACode := .cond (.t 14) .skip (.exit 0)
noncomputable def c11_16 : ACode := .region false [⟨some 15, .move, [.t 13], none⟩,
  ⟨some 16, .ixS 10, [.t 11, .t 13], none⟩,
  ⟨some 17, .load true 10, [.t 16], none⟩,
  ⟨some 7, .alloc [(.string ⟨#[]⟩), (.string ⟨#[]⟩), (.bool false), (.int .i64 0), (.int .i64 0), (.int .i64 0), (.int .i64 0), (.int .i64 0), (.int .i64 0), (.bool false)], [], none⟩,
  ⟨some 6, .move, [.t 15], none⟩,
  ⟨none, .store 10, [.t 7, .t 17], none⟩] [] [] [0, 5, 6, 7, 11, 12, 13] true [] []
noncomputable def c11_17 : ACode := .region true [⟨some 18, .load false 1, [.t 5], none⟩,
  ⟨some 19, .addr 0, [.t 7], none⟩,
  ⟨some 20, .load true 9, [.t 19], none⟩,
  ⟨some 21, .call 32, [.t 20], none⟩,
  ⟨some 22, .move, [.t 6], none⟩,
  ⟨none, .mapUpd [(0, 1), (1, 1), (2, 2), (3, 0), (4, 0), (5, 0), (6, 0), (7, 0), (8, 0)], [.t 18, .t 21, .t 22], none⟩] [] [] [0, 5, 11, 12, 13] true [] []
noncomputable def c11_15 : ACode := .seq c11_16 c11_17
noncomputable def c11_14 : ACode := .block 1 c11_15
noncomputable def c11_18 : ACode := .region false [⟨some 23, .bin .add, [.t 13, .c (.val (.int .i64 1))], none⟩,
  ⟨some 13, .move, [.t 23], none⟩] [] [] [0, 5, 11, 12, 13] false [] []
noncomputable def c11_13 : ACode := .seq c11_14 c11_18
noncomputable def c11_11 : ACode := .seq c11_12 c11_13
noncomputable def c11_9 : ACode := .seq c11_10 c11_11
noncomputable def c11_8 : ACode := .loop c11_9
noncomputable def c11_7 : ACode := .block 0 c11_8
noncomputable def c11_5 : ACode := .seq c11_6 c11_7
noncomputable def c11_20 : ACode := .region false [⟨some 24, .move, [.t 0], none⟩,
  ⟨some 25, .mkFn 34 0, [.t 5], none⟩,
  ⟨some 26, .call 33, [.t 24, .t 25], none⟩,
  ⟨some 4, .move, [.t 26], none⟩] [] [] [4] true [] []
noncomputable def c11_19 : ACode := .seq c11_20 .ret
noncomputable def c11_4 : ACode := .seq c11_5 c11_19
noncomputable def c11_2 : ACode := .seq c11_3 c11_4
noncomputable def c11_0 : ACode := .seq c11_1 c11_2
noncomputable def code11 : Code := (Try.f11.body).getD .skip
theorem c11_ok : compC Try.prog 27 code11 = some (strip c11_0) := by kernel_rfl
theorem res11_ok : Try.f11.results.toList.mapM (resC Try.prog) = some [(4, none)] := by kernel_rfl
theorem bykey_any (l : List En) (hl : l.length ≤ 1099511627776) : ACall Try.prog 36 [.sl 0 0 l.length 9 none] [.cells true (Re 0 l)] (Det (.mp 1) [.cells true (Re 0 l), .map false (EsK l)]) := by
  have hr := re_ren 0 l
  have hL := re_len 0 l
  have hg := fun ρ M => ren_G (enc := Str) str_ren ρ M
  refine ACall.startA c36_ok Try.func36 rfl Try.ntmps36 (by kernel_rfl) res36_ok rfl rfl rfl ?_; simp (maxSteps := 9999999) (disch := omega) only [go_sem]
  (have k9 := And.intro @hr (k0); (repeat' (first | refine AWpA.seq ?_ | refine AWpA.block ?_ | (with_reducible refine CondP.tt ?_) | (with_reducible refine CondP.ff ?_) | refine AWpA.cg ?_ | ((first | refine AWpA.rg ?_ | refine AWpA.dg [] [] follows ?_ | refine TailK.tg ?_ | refine AWpA.skip ?_ | refine AWpA.exit ?_ | refine AWpA.ret ?_ | (with_reducible refine ARoundsA.succ ?_) | ((first | refine Runs.gkt (fun h9 => ?_) | refine Runs.gkf (fun h9 => ?_) | refine Runs.gnt (fun h9 => ?_) | refine Runs.gnf (fun h9 => ?_) | refine CondP.gt (fun h9 => ?_) | refine CondP.gf (fun h9 => ?_) | refine CondP.gnt (fun h9 => ?_) | refine CondP.gnf (fun h9 => ?_)); (try simp only [h9]); clear h9)); (try simp (maxSteps := 9999999) (disch := omega) only [go_sem, k9]); (try refine cnd ?_)) | ((first | refine CondP.split (fun hif => ?_) (fun hif => ?_) | refine Runs.part (fun hif => ?_) (fun hif => ?_)) <;> ((try simp only [hif]); (try simp only [BL] at hif); (try (have h9 : _ = true := hif; simp only [h9])); (try (have h9 : _ = false := hif; simp only [h9])); (try simp (maxSteps := 9999999) (disch := omega) only [go_sem, k9]); (try refine cnd ?_); (try (exfalso; omega; done)))))); (all_goals (try clear k9)))
  (apply AWpA.loopL (fun n : Nat => [(0, .sl 0 0 l.length 9 none), (3, .mp 1), (4, I ((l.length : Int) - 1 - n))]) (fun n => [.cells true (Re 0 l), .map false (EsG Str (bkM l n))]) (fun n => l.length - n) (fun n => n ≤ l.length) (0) [0, _]; rotate_left; (focus (simp (maxSteps := 9999999) (disch := omega) only [go_sem, hr, bkM, List.map_nil]; (try (repeat' (first | done | trivial | rfl | exact leAs_rfl _ | decide | (refine And.intro ?_ ?_) | (simp; done) | omega | (simp; decide)))))); rotate_right)
  · exact Nat.zero_le _
  rintro n hn
  (try simp only at hn)
  by_cases hnl : n < l.length
  · have g1 : ((0 : Int) ≤ (l.length : Int) - 1 - (n : Int)) = True := eq_true (by omega)
    have hix : ((l.length : Int) - 1 - (n : Int)).toNat = l.length - 1 - n := by omega
    have hkey := re_key 0 l (l.length - 1 - n) (by omega)
    rw [Nat.zero_add] at hkey
    have hv : ((l.length - 1 - n : Nat) : Int) = (l.length : Int) - 1 - (n : Int) := by omega
    have hu := upd_G key_str (l[l.length - 1 - n]'(by omega)).key ((l.length - 1 - n : Nat) : Int) (bkM l n)
    rw [← bk_succ hnl, hv] at hu
    have hk := key_str (l[l.length - 1 - n]'(by omega)).key (l[l.length - 1 - n]'(by omega)).key
    rw [decide_eq_true rfl] at hk
    have hdec : (l.length : Int) - 1 - ((n : Int) + 1) = (l.length : Int) - 1 - (n : Int) - 1 := by omega
    generalize (l[l.length - 1 - n]'(by omega)).key = x at *
    (try simp (maxSteps := 9999999) (disch := omega) only [go_sem])
    (have k9 := And.intro @hr (And.intro @hg (And.intro @hL (And.intro @g1 (And.intro @hix (And.intro @hkey (And.intro @hk (And.intro @hu (k0)))))))); (repeat' (first | refine AWpA.seq ?_ | refine AWpA.block ?_ | (with_reducible refine CondP.tt ?_) | (with_reducible refine CondP.ff ?_) | refine AWpA.cg ?_ | ((first | refine AWpA.rg ?_ | refine AWpA.dg [] [] follows ?_ | refine TailK.tg ?_ | refine AWpA.skip ?_ | refine AWpA.exit ?_ | refine AWpA.ret ?_ | (with_reducible refine ARoundsA.succ ?_) | ((first | refine Runs.gkt (fun h9 => ?_) | refine Runs.gkf (fun h9 => ?_) | refine Runs.gnt (fun h9 => ?_) | refine Runs.gnf (fun h9 => ?_) | refine CondP.gt (fun h9 => ?_) | refine CondP.gf (fun h9 => ?_) | refine CondP.gnt (fun h9 => ?_) | refine CondP.gnf (fun h9 => ?_)); (try simp only [h9]); clear h9)); (try simp (maxSteps := 9999999) (disch := omega) only [go_sem, k9]); (try refine cnd ?_)) | ((first | refine CondP.split (fun hif => ?_) (fun hif => ?_) | refine Runs.part (fun hif => ?_) (fun hif => ?_)) <;> ((try simp only [hif]); (try simp only [BL] at hif); (try (have h9 : _ = true := hif; simp only [h9])); (try (have h9 : _ = false := hif; simp only [h9])); (try simp (maxSteps := 9999999) (disch := omega) only [go_sem, k9]); (try refine cnd ?_); (try (exfalso; omega; done)))))); (all_goals (try clear k9)))
    (apply Back.to (n + 1) [0, 1]; (focus ((try simp (maxSteps := 9999999) (disch := omega) only [go_sem, hr, hg, hdec]); first | done | omega)); rotate_left; (focus (simp (maxSteps := 9999999) (disch := omega) only [go_sem, hr, hg, hdec]; (try (repeat' (first | done | trivial | rfl | exact leAs_rfl _ | decide | (refine And.intro ?_ ?_) | (simp; done) | omega | (simp; decide)))))))
    omega
  · obtain rfl : n = l.length := by omega
    have g1 : ((0 : Int) ≤ (l.length : Int) - 1 - (l.length : Int)) = False := eq_false (by omega)
    (try simp (maxSteps := 9999999) (disch := omega) only [go_sem])
    (have k9 := And.intro @hr (And.intro @hg (And.intro @g1 (k0))); (repeat' (first | refine AWpA.seq ?_ | refine AWpA.block ?_ | (with_reducible refine CondP.tt ?_) | (with_reducible refine CondP.ff ?_) | refine AWpA.cg ?_ | ((first | refine AWpA.rg ?_ | refine AWpA.dg [] [] follows ?_ | refine TailK.tg ?_ | refine AWpA.skip ?_ | refine AWpA.exit ?_ | refine AWpA.ret ?_ | (with_reducible refine ARoundsA.succ ?_) | ((first | refine Runs.gkt (fun h9 => ?_) | refine Runs.gkf (fun h9 => ?_) | refine Runs.gnt (fun h9 => ?_) | refine Runs.gnf (fun h9 => ?_) | refine CondP.gt (fun h9 => ?_) | refine CondP.gf (fun h9 => ?_) | refine CondP.gnt (fun h9 => ?_) | refine CondP.gnf (fun h9 => ?_)); (try simp only [h9]); clear h9)); (try simp (maxSteps := 9999999) (disch := omega) only [go_sem, k9]); (try refine cnd ?_)) | ((first | refine CondP.split (fun hif => ?_) (fun hif => ?_) | refine Runs.part (fun hif => ?_) (fun hif => ?_)) <;> ((try simp only [hif]); (try simp only [BL] at hif); (try (have h9 : _ = true := hif; simp only [h9])); (try (have h9 : _ = false := hif; simp only [h9])); (try simp (maxSteps := 9999999) (disch := omega) only [go_sem, k9]); (try refine cnd ?_); (try (exfalso; omega; done)))))); (all_goals (try clear k9)))
    (apply Ret.det [0, 1]; (focus (first | exact .inl rfl | exact .inr rfl)); (focus (simp (maxSteps := 9999999) (disch := omega) only [go_sem, hr, hg]; rfl)); (simp (maxSteps := 9999999) (disch := omega) only [go_sem, hr, hg]; (try (repeat' (first | done | trivial | rfl | exact leAs_rfl _ | decide | (refine And.intro ?_ ?_) | (simp; done) | omega | (simp; decide))))))
/-- An entry without age and keepers; what it has in common with its update. -/
def bareE (e : En) : En := { e with keep := 0, age := 0 }
def coreE (e : En) : En := { e with act := ⟨0, 0⟩, keep := 0, age := 0 }
theorem bare_any (e : En) : ACall Try.prog 52 [EnA e] [] (Det (EnA (bareE e)) []) := by
  refine ACall.startA c52_ok Try.func52 rfl Try.ntmps52 (by kernel_rfl) res52_ok rfl rfl rfl ?_; simp (maxSteps := 9999999) (disch := omega) only [go_sem]
  (have k9 := k0; (repeat' (first | refine AWpA.seq ?_ | refine AWpA.block ?_ | (with_reducible refine CondP.tt ?_) | (with_reducible refine CondP.ff ?_) | refine AWpA.cg ?_ | ((first | refine AWpA.rg ?_ | refine AWpA.dg [] [] follows ?_ | refine TailK.tg ?_ | refine AWpA.skip ?_ | refine AWpA.exit ?_ | refine AWpA.ret ?_ | (with_reducible refine ARoundsA.succ ?_) | ((first | refine Runs.gkt (fun h9 => ?_) | refine Runs.gkf (fun h9 => ?_) | refine Runs.gnt (fun h9 => ?_) | refine Runs.gnf (fun h9 => ?_) | refine CondP.gt (fun h9 => ?_) | refine CondP.gf (fun h9 => ?_) | refine CondP.gnt (fun h9 => ?_) | refine CondP.gnf (fun h9 => ?_)); (try simp only [h9]); clear h9)); (try simp (maxSteps := 9999999) (disch := omega) only [go_sem, k9]); (try refine cnd ?_)) | ((first | refine CondP.split (fun hif => ?_) (fun hif => ?_) | refine Runs.part (fun hif => ?_) (fun hif => ?_)) <;> ((try simp only [hif]); (try simp only [BL] at hif); (try (have h9 : _ = true := hif; simp only [h9])); (try (have h9 : _ = false := hif; simp only [h9])); (try simp (maxSteps := 9999999) (disch := omega) only [go_sem, k9]); (try refine cnd ?_); (try (exfalso; omega; done)))))); (all_goals (try clear k9)))
  (apply Ret.det []; (focus (first | exact .inl rfl | exact .inr rfl)); (focus (simp (maxSteps := 9999999) (disch := omega) only [go_sem, bareE]; rfl)); (simp (maxSteps := 9999999) (disch := omega) only [go_sem, bareE]; (try (repeat' (first | done | trivial | rfl | exact leAs_rfl _ | decide | (refine And.intro ?_ ?_) | (simp; done) | omega | (simp; decide))))))
theorem core_any (e : En) : ACall Try.prog 32 [EnA e] [] (Det (EnA (coreE e)) []) := by
  have c := bare_any e
  simp only [bareE] at c
  refine ACall.startA c32_ok Try.func32 rfl Try.ntmps32 (by kernel_rfl) res32_ok rfl rfl rfl ?_; simp (maxSteps := 9999999) (disch := omega) only [go_sem]
  (have k9 := k0; (repeat' (first | refine AWpA.seq ?_ | refine AWpA.block ?_ | (with_reducible refine CondP.tt ?_) | (with_reducible refine CondP.ff ?_) | refine AWpA.cg ?_ | ((first | refine AWpA.rg ?_ | refine AWpA.dg [] [] follows ?_ | refine TailK.tg ?_ | refine AWpA.skip ?_ | refine AWpA.exit ?_ | refine AWpA.ret ?_ | (with_reducible refine ARoundsA.succ ?_) | ((first | refine Runs.gkt (fun h9 => ?_) | refine Runs.gkf (fun h9 => ?_) | refine Runs.gnt (fun h9 => ?_) | refine Runs.gnf (fun h9 => ?_) | refine CondP.gt (fun h9 => ?_) | refine CondP.gf (fun h9 => ?_) | refine CondP.gnt (fun h9 => ?_) | refine CondP.gnf (fun h9 => ?_)); (try simp only [h9]); clear h9) | refine CallG.pg [] (c) ?_ | refine CallG.dg [] (c) ?_); (try simp (maxSteps := 9999999) (disch := omega) only [go_sem, k9]); (try refine cnd ?_)) | ((first | refine CondP.split (fun hif => ?_) (fun hif => ?_) | refine Runs.part (fun hif => ?_) (fun hif => ?_)) <;> ((try simp only [hif]); (try simp only [BL] at hif); (try (have h9 : _ = true := hif; simp only [h9])); (try (have h9 : _ = false := hif; simp only [h9])); (try simp (maxSteps := 9999999) (disch := omega) only [go_sem, k9]); (try refine cnd ?_); (try (exfalso; omega; done)))))); (all_goals (try clear k9)))
  (apply Ret.det []; (focus (first | exact .inl rfl | exact .inr rfl)); (focus (simp (maxSteps := 9999999) (disch := omega) only [go_sem, coreE]; rfl)); (simp (maxSteps := 9999999) (disch := omega) only [go_sem, coreE]; (try (repeat' (first | done | trivial | rfl | exact leAs_rfl _ | decide | (refine And.intro ?_ ?_) | (simp; done) | omega | (simp; decide))))))
/-- Is an entry older than it was, or gone? -/
def fellP (is : List En) (e : En) : Bool := if firstK is e.key = -1 then true else match is[(firstK is e.key).toNat]? with | some x => newerB e x | none => true
def fellI (was is : List En) : Int := idxI was (fellP is)
def fellR (was is : List En) : AV := match was[(fellI was is).toNat]? with | some e => if fellI was is = -1 then .tup [Str ⟨#[]⟩, Bo false] else .tup [Str e.key, Bo true] | none => .tup [Str ⟨#[]⟩, Bo false]
theorem fellR_no {was is : List En} (h : fellI was is = -1) : fellR was is = .tup [Str ⟨#[]⟩, Bo false] := by
  unfold fellR
  split
  · rw [if_pos h]
  · rfl
theorem fellR_at {was is : List En} {i : Nat} (hi : i < was.length) (h : fellI was is = i) : fellR was is = .tup [Str was[i].key, Bo true] := by
  unfold fellR
  rw [h, show ((i : Int)).toNat = i by omega, List.getElem?_eq_getElem hi]
  simp only
  rw [if_neg (by omega)]
theorem fell_any (o : Nat) (was is : List En) (hw : was.length ≤ 1099511627776) (hi : is.length ≤ 1099511627776) : ACall Try.prog 25 [.sl 0 o was.length 9 none, .sl 1 0 is.length 9 none] [.cells true (Re o was), .cells true (Re 0 is)] (Det (fellR was is) [.cells true (Re o was), .cells true (Re 0 is)]) := by
  have hr := re_ren
  have hL := re_len o was
  have hL2 := re_len 0 is
  have hg := fun ρ M => ren_G (enc := Str) str_ren ρ M
  have c1 := bykey_any is hi
  refine ACall.startA c25_ok Try.func25 rfl Try.ntmps25 (by kernel_rfl) res25_ok rfl rfl rfl ?_; simp (maxSteps := 9999999) (disch := omega) only [go_sem]
  (have k9 := And.intro @hr (k0); (repeat' (first | refine AWpA.seq ?_ | refine AWpA.block ?_ | (with_reducible refine CondP.tt ?_) | (with_reducible refine CondP.ff ?_) | refine AWpA.cg ?_ | ((first | refine AWpA.rg ?_ | refine AWpA.dg [] [] follows ?_ | refine TailK.tg ?_ | refine AWpA.skip ?_ | refine AWpA.exit ?_ | refine AWpA.ret ?_ | (with_reducible refine ARoundsA.succ ?_) | ((first | refine Runs.gkt (fun h9 => ?_) | refine Runs.gkf (fun h9 => ?_) | refine Runs.gnt (fun h9 => ?_) | refine Runs.gnf (fun h9 => ?_) | refine CondP.gt (fun h9 => ?_) | refine CondP.gf (fun h9 => ?_) | refine CondP.gnt (fun h9 => ?_) | refine CondP.gnf (fun h9 => ?_)); (try simp only [h9]); clear h9) | refine CallG.pg [1] (c1) ?_ | refine CallG.dg [1] (c1) ?_); (try simp (maxSteps := 9999999) (disch := omega) only [go_sem, k9]); (try refine cnd ?_)) | ((first | refine CondP.split (fun hif => ?_) (fun hif => ?_) | refine Runs.part (fun hif => ?_) (fun hif => ?_)) <;> ((try simp only [hif]); (try simp only [BL] at hif); (try (have h9 : _ = true := hif; simp only [h9])); (try (have h9 : _ = false := hif; simp only [h9])); (try simp (maxSteps := 9999999) (disch := omega) only [go_sem, k9]); (try refine cnd ?_); (try (exfalso; omega; done)))))); (all_goals (try clear k9)))
  (apply AWpA.loopL (fun i : Nat => [(1, .sl 1 0 is.length 9 none), (6, .mp 2), (13, .sl 0 o was.length 9 none), (14, I was.length), (15, I i)]) (fun i => [.cells true (Re o was), .cells true (Re 0 is), .map false (EsK is)]) (fun i => was.length - i) (fun i => i ≤ was.length ∧ ∀ q (h : q < was.length), q < i → fellP is was[q] = false) (0) [0, 1, _]; rotate_left; (focus (simp (maxSteps := 9999999) (disch := omega) only [go_sem, hr, hg]; (try (repeat' (first | done | trivial | rfl | exact leAs_rfl _ | decide | (refine And.intro ?_ ?_) | (simp; done) | omega | (simp; decide)))))); rotate_right)
  · exact ⟨Nat.zero_le _, fun q h hq => by omega⟩
  rintro i ⟨hil, hq⟩
  (try simp only at hil hq)
  by_cases hin : i < was.length
  · have g1 : ((i : Int) < (was.length : Int)) = True := eq_true (by omega)
    have hat := re_at o was i hin
    have hk := key_str was[i].key was[i].key
    rw [decide_eq_true rfl] at hk
    have hf := find_G key_str was[i].key (bkM is is.length)
    rw [bk_all] at hf
    have hfe : fellP is was[i] = true → fellR was is = .tup [Str was[i].key, Bo true] := fun h => fellR_at hin (idxI_at hin hq h)
    have hn : fellP is was[i] = false → ∀ q (h : q < was.length), q < i + 1 → fellP is was[q] = false := fun h q hl hq' => by
      rcases Nat.lt_or_eq_of_le (Nat.le_of_lt_succ hq') with h' | rfl
      · exact hq q hl h'
      · exact h
    clear hq
    generalize was[i] = x at *
    rcases idxI_cases is (fun e => decide (e.key = x.key)) with ⟨e1, -⟩ | ⟨j, hj, e1, -⟩
    · have e2 : firstK is x.key = -1 := e1
      rw [e2] at hf
      have e3 : fellP is x = true := by unfold fellP; rw [if_pos e2]
      rw [hfe e3]
      simp only [if_true, Option.map_none] at hf
      clear hfe hn
      (try simp (maxSteps := 9999999) (disch := omega) only [go_sem])
      (have k9 := And.intro @hr (And.intro @hg (And.intro @hL (And.intro @g1 (And.intro @hat (And.intro @hk (And.intro @hf (k0))))))); (repeat' (first | refine AWpA.seq ?_ | refine AWpA.block ?_ | (with_reducible refine CondP.tt ?_) | (with_reducible refine CondP.ff ?_) | refine AWpA.cg ?_ | ((first | refine AWpA.rg ?_ | refine AWpA.dg [] [] follows ?_ | refine TailK.tg ?_ | refine AWpA.skip ?_ | refine AWpA.exit ?_ | refine AWpA.ret ?_ | (with_reducible refine ARoundsA.succ ?_) | ((first | refine Runs.gkt (fun h9 => ?_) | refine Runs.gkf (fun h9 => ?_) | refine Runs.gnt (fun h9 => ?_) | refine Runs.gnf (fun h9 => ?_) | refine CondP.gt (fun h9 => ?_) | refine CondP.gf (fun h9 => ?_) | refine CondP.gnt (fun h9 => ?_) | refine CondP.gnf (fun h9 => ?_)); (try simp only [h9]); clear h9)); (try simp (maxSteps := 9999999) (disch := omega) only [go_sem, k9]); (try refine cnd ?_)) | ((first | refine CondP.split (fun hif => ?_) (fun hif => ?_) | refine Runs.part (fun hif => ?_) (fun hif => ?_)) <;> ((try simp only [hif]); (try simp only [BL] at hif); (try (have h9 : _ = true := hif; simp only [h9])); (try (have h9 : _ = false := hif; simp only [h9])); (try simp (maxSteps := 9999999) (disch := omega) only [go_sem, k9]); (try refine cnd ?_); (try (exfalso; omega; done)))))); (all_goals (try clear k9)))
      (apply Ret.det [0, 1]; (focus (first | exact .inl rfl | exact .inr rfl)); (focus (simp (maxSteps := 9999999) (disch := omega) only [go_sem, hr]; rfl)); (simp (maxSteps := 9999999) (disch := omega) only [go_sem, hr]; (try (repeat' (first | done | trivial | rfl | exact leAs_rfl _ | decide | (refine And.intro ?_ ?_) | (simp; done) | omega | (simp; decide))))))
    · have e2 : firstK is x.key = (j : Int) := e1
      rw [e2, if_neg (by omega)] at hf
      simp only [Option.map_some] at hf
      have e3 : fellP is x = newerB x is[j] := by
        unfold fellP
        rw [if_neg (by omega), e2, show ((j : Int)).toNat = j by omega, List.getElem?_eq_getElem hj]
      rw [e3] at hfe hn
      have hat2 := re_at 0 is j hj
      rw [Nat.zero_add] at hat2
      have c2 := newer_any x is[j]
      generalize is[j] = y at *
      cases hnw : newerB x y with
      | true =>
        rw [hnw] at c2
        rw [hfe hnw]
        clear hfe hn
        (try simp (maxSteps := 9999999) (disch := omega) only [go_sem])
        (have k9 := And.intro @hr (And.intro @hg (And.intro @hL (And.intro @hL2 (And.intro @g1 (And.intro @hat (And.intro @hat2 (And.intro @hk (And.intro @hf (k0))))))))); (repeat' (first | refine AWpA.seq ?_ | refine AWpA.block ?_ | (with_reducible refine CondP.tt ?_) | (with_reducible refine CondP.ff ?_) | refine AWpA.cg ?_ | ((first | refine AWpA.rg ?_ | refine AWpA.dg [] [] follows ?_ | refine TailK.tg ?_ | refine AWpA.skip ?_ | refine AWpA.exit ?_ | refine AWpA.ret ?_ | (with_reducible refine ARoundsA.succ ?_) | ((first | refine Runs.gkt (fun h9 => ?_) | refine Runs.gkf (fun h9 => ?_) | refine Runs.gnt (fun h9 => ?_) | refine Runs.gnf (fun h9 => ?_) | refine CondP.gt (fun h9 => ?_) | refine CondP.gf (fun h9 => ?_) | refine CondP.gnt (fun h9 => ?_) | refine CondP.gnf (fun h9 => ?_)); (try simp only [h9]); clear h9) | refine CallG.pg [] (c2) ?_ | refine CallG.dg [] (c2) ?_); (try simp (maxSteps := 9999999) (disch := omega) only [go_sem, k9]); (try refine cnd ?_)) | ((first | refine CondP.split (fun hif => ?_) (fun hif => ?_) | refine Runs.part (fun hif => ?_) (fun hif => ?_)) <;> ((try simp only [hif]); (try simp only [BL] at hif); (try (have h9 : _ = true := hif; simp only [h9])); (try (have h9 : _ = false := hif; simp only [h9])); (try simp (maxSteps := 9999999) (disch := omega) only [go_sem, k9]); (try refine cnd ?_); (try (exfalso; omega; done)))))); (all_goals (try clear k9)))
        (apply Ret.det [0, 1]; (focus (first | exact .inl rfl | exact .inr rfl)); (focus (simp (maxSteps := 9999999) (disch := omega) only [go_sem, hr]; rfl)); (simp (maxSteps := 9999999) (disch := omega) only [go_sem, hr]; (try (repeat' (first | done | trivial | rfl | exact leAs_rfl _ | decide | (refine And.intro ?_ ?_) | (simp; done) | omega | (simp; decide))))))
      | false =>
        rw [hnw] at c2
        have hn := hn hnw
        clear hfe
        (try simp (maxSteps := 9999999) (disch := omega) only [go_sem])
        (have k9 := And.intro @hr (And.intro @hg (And.intro @hL (And.intro @hL2 (And.intro @g1 (And.intro @hat (And.intro @hat2 (And.intro @hk (And.intro @hf (k0))))))))); (repeat' (first | refine AWpA.seq ?_ | refine AWpA.block ?_ | (with_reducible refine CondP.tt ?_) | (with_reducible refine CondP.ff ?_) | refine AWpA.cg ?_ | ((first | refine AWpA.rg ?_ | refine AWpA.dg [] [] follows ?_ | refine TailK.tg ?_ | refine AWpA.skip ?_ | refine AWpA.exit ?_ | refine AWpA.ret ?_ | (with_reducible refine ARoundsA.succ ?_) | ((first | refine Runs.gkt (fun h9 => ?_) | refine Runs.gkf (fun h9 => ?_) | refine Runs.gnt (fun h9 => ?_) | refine Runs.gnf (fun h9 => ?_) | refine CondP.gt (fun h9 => ?_) | refine CondP.gf (fun h9 => ?_) | refine CondP.gnt (fun h9 => ?_) | refine CondP.gnf (fun h9 => ?_)); (try simp only [h9]); clear h9) | refine CallG.pg [] (c2) ?_ | refine CallG.dg [] (c2) ?_); (try simp (maxSteps := 9999999) (disch := omega) only [go_sem, k9]); (try refine cnd ?_)) | ((first | refine CondP.split (fun hif => ?_) (fun hif => ?_) | refine Runs.part (fun hif => ?_) (fun hif => ?_)) <;> ((try simp only [hif]); (try simp only [BL] at hif); (try (have h9 : _ = true := hif; simp only [h9])); (try (have h9 : _ = false := hif; simp only [h9])); (try simp (maxSteps := 9999999) (disch := omega) only [go_sem, k9]); (try refine cnd ?_); (try (exfalso; omega; done)))))); (all_goals (try clear k9)))
        (apply Back.to (i + 1) [0, 1, 2]; (focus ((try simp (maxSteps := 9999999) (disch := omega) only [go_sem, hr, hg]); first | done | omega)); rotate_left; (focus (simp (maxSteps := 9999999) (disch := omega) only [go_sem, hr, hg]; (try (repeat' (first | done | trivial | rfl | exact leAs_rfl _ | decide | (refine And.intro ?_ ?_) | (simp; done) | omega | (simp; decide)))))))
        exact ⟨by omega, hn⟩
  · obtain rfl : i = was.length := by omega
    have g1 : ((was.length : Int) < (was.length : Int)) = False := eq_false (by omega)
    rw [fellR_no (idxI_no fun q h => hq q h h)]
    clear hq
    (try simp (maxSteps := 9999999) (disch := omega) only [go_sem])
    (have k9 := And.intro @hr (And.intro @hg (And.intro @g1 (k0))); (repeat' (first | refine AWpA.seq ?_ | refine AWpA.block ?_ | (with_reducible refine CondP.tt ?_) | (with_reducible refine CondP.ff ?_) | refine AWpA.cg ?_ | ((first | refine AWpA.rg ?_ | refine AWpA.dg [] [] follows ?_ | refine TailK.tg ?_ | refine AWpA.skip ?_ | refine AWpA.exit ?_ | refine AWpA.ret ?_ | (with_reducible refine ARoundsA.succ ?_) | ((first | refine Runs.gkt (fun h9 => ?_) | refine Runs.gkf (fun h9 => ?_) | refine Runs.gnt (fun h9 => ?_) | refine Runs.gnf (fun h9 => ?_) | refine CondP.gt (fun h9 => ?_) | refine CondP.gf (fun h9 => ?_) | refine CondP.gnt (fun h9 => ?_) | refine CondP.gnf (fun h9 => ?_)); (try simp only [h9]); clear h9)); (try simp (maxSteps := 9999999) (disch := omega) only [go_sem, k9]); (try refine cnd ?_)) | ((first | refine CondP.split (fun hif => ?_) (fun hif => ?_) | refine Runs.part (fun hif => ?_) (fun hif => ?_)) <;> ((try simp only [hif]); (try simp only [BL] at hif); (try (have h9 : _ = true := hif; simp only [h9])); (try (have h9 : _ = false := hif; simp only [h9])); (try simp (maxSteps := 9999999) (disch := omega) only [go_sem, k9]); (try refine cnd ?_); (try (exfalso; omega; done)))))); (all_goals (try clear k9)))
    (apply Ret.det [0, 1]; (focus (first | exact .inl rfl | exact .inr rfl)); (focus (simp (maxSteps := 9999999) (disch := omega) only [go_sem, hr]; rfl)); (simp (maxSteps := 9999999) (disch := omega) only [go_sem, hr]; (try (repeat' (first | done | trivial | rfl | exact leAs_rfl _ | decide | (refine And.intro ?_ ?_) | (simp; done) | omega | (simp; decide))))))
end Go.Proofs.Ytbblpmkdhdnkhaa
