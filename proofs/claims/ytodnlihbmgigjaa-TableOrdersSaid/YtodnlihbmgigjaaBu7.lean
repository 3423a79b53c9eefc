/- The walk of TableOrders. -/
import Derived.Test.YtodnlihbmgigjaaBu6
namespace Go.Proofs.Ytodnlihbmgigjaa.Us
set_option linter.unusedSimpArgs false
set_option linter.unusedVariables false
set_option maxHeartbeats 4000000
open Go Go.Am Go.RowKit Go.ChangeShapes Go.WideShapes Go.ChangeAt
set_option maxRecDepth 100000
abbrev KyL (s : ByteArray) : List AV := [.val (.string s)]
theorem ky_get (off : Nat) (l : List ByteArray) (i : Nat) (h : i < l.length) : (rowsC off KyL l).getD (off + i) AV.bad = .val (.string l[i]) := by
  have hat : ((rowsC off KyL l).drop (off + i * 1)).take 1 = KyL l[i] := rowsC_at (f := KyL) (k := 1) (fun _ => rfl) l i h
  rw [List.getD_eq_getElem?_getD]
  have := congrArg (fun x => x[0]?) hat
  rw [List.getElem?_take, if_pos (by omega), List.getElem?_drop, Nat.add_zero, Nat.mul_one] at this
  rw [this]; rfl
/- quidnunc/quidnunclaw08.TableOrders -/
noncomputable def c3_1 : ACode := .region false [⟨some 3, .box 0, [.t 1], none⟩,
  ⟨some 4, .move, [.c (.val (.bool false))], none⟩] [] [] [0, 3] true [] []
noncomputable def c3_4 : ACode := .region false [⟨some 15, .call 7, [], none⟩,
  ⟨some 16, .un .not, [.t 15], none⟩,
  ⟨some 17, .move, [.t 16], none⟩,
  ⟨some 18, .move, [.t 0], some (some 17, false)⟩,
  ⟨some 19, .len, [.t 18], some (some 17, false)⟩,
  ⟨some 20, .bin .gtr, [.t 19, .c (.val (.int .i64 40))], some (some 17, false)⟩,
  ⟨some 21, .pick, [.t 17, .c (.val (.bool true)), .t 20], none⟩] [] [] [0, 3, 21] true [] []
noncomputable def c3_7 : ACode := .region false [⟨some 22, .call 7, [], none⟩,
  ⟨some 4, .move, [.t 22], none⟩] [] [] [4] true [] []
noncomputable def c3_6 : ACode := .seq c3_7 .ret
noncomputable def c3_5 : ACode := .cond (.t 21) c3_6 .skip
noncomputable def c3_3 : ACode := .seq c3_4 c3_5
noncomputable def c3_9 : ACode := .region false [⟨some 24, .call 8, [.c (.val (.int .i64 64))], none⟩,
  ⟨some 23, .move, [.t 24], none⟩,
  ⟨some 25, .ext 0, [.t 23], none⟩,
  ⟨some 26, .ext 1, [.t 23], none⟩,
  ⟨some 5, .move, [.t 25], none⟩,
  ⟨some 6, .move, [.t 26], none⟩] [] [] [0, 3, 5, 6] true [] []
noncomputable def c3_11 : ACode := .region false [⟨some 28, .call 8, [.c (.val (.int .i64 64))], none⟩,
  ⟨some 27, .move, [.t 28], none⟩,
  ⟨some 29, .ext 0, [.t 27], none⟩,
  ⟨some 30, .ext 1, [.t 27], none⟩,
  ⟨some 7, .move, [.t 29], none⟩,
  ⟨some 8, .move, [.t 30], none⟩] [] [] [0, 3, 5, 6, 7, 8] true [] []
noncomputable def c3_14 : ACode := .region false [⟨some 31, .move, [.t 6], none⟩,
  ⟨some 32, .bin .neq, [.t 31, .c (.val (.int .i64 0))], none⟩,
  ⟨some 33, .move, [.t 32], none⟩,
  ⟨some 34, .move, [.t 8], some (some 33, false)⟩,
  ⟨some 35, .bin .neq, [.t 34, .c (.val (.int .i64 0))], some (some 33, false)⟩,
  ⟨some 36, .pick, [.t 33, .c (.val (.bool true)), .t 35], none⟩,
  ⟨some 37, .move, [.t 36], none⟩,
  ⟨some 38, .move, [.t 5], some (some 37, false)⟩,
  ⟨some 39, .eqP false, [.t 38, .c (.val (.pointer none))], some (some 37, false)⟩,
  ⟨some 40, .pick, [.t 37, .c (.val (.bool true)), .t 39], none⟩,
  ⟨some 41, .move, [.t 40], none⟩,
  ⟨some 42, .move, [.t 7], some (some 41, false)⟩,
  ⟨some 43, .eqP false, [.t 42, .c (.val (.pointer none))], some (some 41, false)⟩,
  ⟨some 44, .pick, [.t 41, .c (.val (.bool true)), .t 43], none⟩] [] [] [0, 3, 5, 7, 44] false [] []
noncomputable def c3_17 : ACode := .region false [⟨some 4, .move, [.c (.val (.bool false))], none⟩] [] [] [4] false [] []
noncomputable def c3_16 : ACode := .seq c3_17 .ret
noncomputable def c3_15 : ACode := .cond (.t 44) c3_16 .skip
noncomputable def c3_13 : ACode := .seq c3_14 c3_15
noncomputable def c3_20 : ACode := .region false [⟨some 45, .move, [.t 0], none⟩,
  ⟨some 46, .len, [.t 45], none⟩,
  ⟨some 47, .move, [.c (.val (.int .i64 0))], none⟩] [] [] [0, 3, 5, 7, 46, 47] false [] []
noncomputable def c3_24 : ACode := .region false [⟨some 48, .bin .lss, [.t 47, .t 46], none⟩] [] [] [0, 3, 5, 7, 46, 47, 48] false [] []
noncomputable def c3_26 : ACode := .cond (.t 48) .skip (.exit 0)
noncomputable def c3_30 : ACode := .region false [⟨some 49, .move, [.t 47], none⟩,
  ⟨some 9, .move, [.t 49], none⟩] [] [] [0, 3, 5, 7, 9, 46, 47] false [] []
noncomputable def c3_33 : ACode := .region false [⟨some 50, .move, [.t 0], none⟩,
  ⟨some 51, .move, [.t 9], none⟩,
  ⟨some 52, .ixS 1, [.t 50, .t 51], none⟩,
  ⟨some 53, .load false 1, [.t 52], none⟩,
  ⟨some 54, .lenStr, [.t 53], none⟩,
  ⟨some 55, .bin .gtr, [.t 54, .c (.val (.int .i64 40))], none⟩] [] [] [0, 3, 5, 7, 9, 46, 47, 55] false [] []
noncomputable def c3_36 : ACode := .region false [⟨some 4, .move, [.c (.val (.bool true))], none⟩] [] [] [4] false [] []
noncomputable def c3_35 : ACode := .seq c3_36 .ret
noncomputable def c3_34 : ACode := .cond (.t 55) c3_35 .skip
noncomputable def c3_32 : ACode := .seq c3_33 c3_34
noncomputable def c3_38 : ACode := .region true [⟨some 56, .move, [.t 5], none⟩,
  ⟨some 57, .move, [.t 0], none⟩,
  ⟨some 58, .move, [.t 9], none⟩,
  ⟨some 59, .ixS 1, [.t 57, .t 58], none⟩,
  ⟨some 60, .load false 1, [.t 59], none⟩,
  ⟨some 61, .move, [.t 0], none⟩,
  ⟨some 62, .move, [.t 9], none⟩,
  ⟨some 63, .ixS 1, [.t 61, .t 62], none⟩,
  ⟨some 64, .load false 1, [.t 63], none⟩,
  ⟨some 65, .call 9, [.t 56, .t 60, .t 64], none⟩] [] [] [0, 3, 5, 7, 9, 46, 47] true [] []
noncomputable def c3_39 : ACode := .region true [⟨some 66, .move, [.t 7], none⟩,
  ⟨some 67, .move, [.t 0], none⟩,
  ⟨some 68, .move, [.t 0], none⟩,
  ⟨some 69, .len, [.t 68], none⟩,
  ⟨some 70, .bin .sub, [.t 69, .c (.val (.int .i64 1))], none⟩,
  ⟨some 71, .move, [.t 9], none⟩,
  ⟨some 72, .bin .sub, [.t 70, .t 71], none⟩,
  ⟨some 73, .ixS 1, [.t 67, .t 72], none⟩,
  ⟨some 74, .load false 1, [.t 73], none⟩,
  ⟨some 75, .move, [.t 0], none⟩,
  ⟨some 76, .move, [.t 0], none⟩,
  ⟨some 77, .len, [.t 76], none⟩,
  ⟨some 78, .bin .sub, [.t 77, .c (.val (.int .i64 1))], none⟩,
  ⟨some 79, .move, [.t 9], none⟩,
  ⟨some 80, .bin .sub, [.t 78, .t 79], none⟩,
  ⟨some 81, .ixS 1, [.t 75, .t 80], none⟩,
  ⟨some 82, .load false 1, [.t 81], none⟩,
  ⟨some 83, .call 9, [.t 66, .t 74, .t 82], none⟩] [] [] [0, 3, 5, 7, 46, 47] true [] []
noncomputable def c3_37 : ACode := .seq c3_38 c3_39
noncomputable def c3_31 : ACode := .seq c3_32 c3_37
noncomputable def c3_29 : ACode := .seq c3_30 c3_31
noncomputable def c3_28 : ACode := .block 1 c3_29
noncomputable def c3_40 : ACode := .region false [⟨some 84, .bin .add, [.t 47, .c (.val (.int .i64 1))], none⟩,
  ⟨some 47, .move, [.t 84], none⟩] [] [] [0, 3, 5, 7, 46, 47] false [] []
noncomputable def c3_27 : ACode := .seq c3_28 c3_40
noncomputable def c3_25 : ACode := .seq c3_26 c3_27
noncomputable def c3_23 : ACode := .seq c3_24 c3_25
noncomputable def c3_22 : ACode := .loop c3_23
noncomputable def c3_21 : ACode := .block 0 c3_22
noncomputable def c3_19 : ACode := .seq c3_20 c3_21
noncomputable def c3_42 : ACode := .region false [⟨some 85, .move, [.t 5], none⟩,
  ⟨some 86, .call 10, [.t 85, .c (.val (.string ⟨#[]⟩)), .c (.val (.int .i64 64))], none⟩,
  ⟨some 87, .move, [.t 7], none⟩,
  ⟨some 88, .call 10, [.t 87, .c (.val (.string ⟨#[]⟩)), .c (.val (.int .i64 64))], none⟩,
  ⟨some 10, .alloc [(.slice none 0 0)], [], none⟩,
  ⟨none, .store 1, [.t 10, .t 86], none⟩,
  ⟨some 11, .move, [.t 88], none⟩] [] [] [3, 5, 10, 11] true [] []
noncomputable def c3_45 : ACode := .region true [⟨some 89, .load false 1, [.t 10], none⟩,
  ⟨some 90, .len, [.t 89], none⟩,
  ⟨some 91, .move, [.t 11], none⟩,
  ⟨some 92, .len, [.t 91], none⟩,
  ⟨some 93, .bin .neq, [.t 90, .t 92], none⟩,
  ⟨some 94, .move, [.t 93], none⟩,
  ⟨some 95, .load false 1, [.t 10], some (some 94, false)⟩,
  ⟨some 96, .len, [.t 95], some (some 94, false)⟩,
  ⟨some 97, .move, [.t 5], some (some 94, false)⟩,
  ⟨some 98, .call 11, [.t 97], some (some 94, false)⟩,
  ⟨some 99, .bin .neq, [.t 96, .t 98], some (some 94, false)⟩,
  ⟨some 100, .pick, [.t 94, .c (.val (.bool true)), .t 99], none⟩] [] [] [3, 5, 10, 11, 100] true [] []
noncomputable def c3_48 : ACode := .region false [⟨some 4, .move, [.c (.val (.bool false))], none⟩] [] [] [4] false [] []
noncomputable def c3_47 : ACode := .seq c3_48 .ret
noncomputable def c3_46 : ACode := .cond (.t 100) c3_47 .skip
noncomputable def c3_44 : ACode := .seq c3_45 c3_46
noncomputable def c3_51 : ACode := .region false [⟨some 101, .load false 1, [.t 10], none⟩,
  ⟨some 102, .len, [.t 101], none⟩,
  ⟨some 103, .move, [.c (.val (.int .i64 0))], none⟩] [] [] [3, 5, 10, 11, 102, 103] false [] []
noncomputable def c3_55 : ACode := .region false [⟨some 104, .bin .lss, [.t 103, .t 102], none⟩] [] [] [3, 5, 10, 11, 102, 103, 104] false [] []
noncomputable def c3_57 : ACode := .cond (.t 104) .skip (.exit 2)
noncomputable def c3_61 : ACode := .region false [⟨some 105, .move, [.t 103], none⟩,
  ⟨some 12, .move, [.t 105], none⟩] [] [] [3, 5, 10, 11, 12, 102, 103] false [] []
noncomputable def c3_63 : ACode := .region true [⟨some 106, .load false 1, [.t 10], none⟩,
  ⟨some 107, .move, [.t 12], none⟩,
  ⟨some 108, .ixS 2, [.t 106, .t 107], none⟩,
  ⟨some 109, .load true 2, [.t 108], none⟩,
  ⟨some 110, .move, [.t 11], none⟩,
  ⟨some 111, .move, [.t 12], none⟩,
  ⟨some 112, .ixS 2, [.t 110, .t 111], none⟩,
  ⟨some 113, .load true 2, [.t 112], none⟩,
  ⟨some 114, .eqA true [(0, 1), (1, 1)], [.t 109, .t 113], none⟩,
  ⟨some 115, .move, [.t 114], none⟩,
  ⟨some 116, .move, [.t 12], some (some 115, false)⟩,
  ⟨some 117, .bin .gtr, [.t 116, .c (.val (.int .i64 0))], some (some 115, false)⟩,
  ⟨some 118, .move, [.t 117], some (some 115, false)⟩,
  ⟨some 119, .load false 1, [.t 10], some (some 118, true)⟩,
  ⟨some 120, .move, [.t 12], some (some 118, true)⟩,
  ⟨some 121, .bin .sub, [.t 120, .c (.val (.int .i64 1))], some (some 118, true)⟩,
  ⟨some 122, .ixS 2, [.t 119, .t 121], some (some 118, true)⟩,
  ⟨some 123, .addr 0, [.t 122], some (some 118, true)⟩,
  ⟨some 124, .load false 1, [.t 123], some (some 118, true)⟩,
  ⟨some 125, .load false 1, [.t 10], some (some 118, true)⟩,
  ⟨some 126, .move, [.t 12], some (some 118, true)⟩,
  ⟨some 127, .ixS 2, [.t 125, .t 126], some (some 118, true)⟩,
  ⟨some 128, .addr 0, [.t 127], some (some 118, true)⟩,
  ⟨some 129, .load false 1, [.t 128], some (some 118, true)⟩,
  ⟨some 130, .bin .geq, [.t 124, .t 129], some (some 118, true)⟩,
  ⟨some 131, .pick, [.t 118, .t 130, .c (.val (.bool false))], some (some 115, false)⟩,
  ⟨some 132, .pick, [.t 115, .c (.val (.bool true)), .t 131], none⟩,
  ⟨some 133, .move, [.t 132], none⟩,
  ⟨some 134, .load false 1, [.t 10], some (some 133, false)⟩,
  ⟨some 135, .move, [.t 12], some (some 133, false)⟩,
  ⟨some 136, .ixS 2, [.t 134, .t 135], some (some 133, false)⟩,
  ⟨some 137, .addr 0, [.t 136], some (some 133, false)⟩,
  ⟨some 138, .load false 1, [.t 137], some (some 133, false)⟩,
  ⟨some 139, .load false 1, [.t 10], some (some 133, false)⟩,
  ⟨some 140, .move, [.t 12], some (some 133, false)⟩,
  ⟨some 141, .ixS 2, [.t 139, .t 140], some (some 133, false)⟩,
  ⟨some 142, .addr 1, [.t 141], some (some 133, false)⟩,
  ⟨some 143, .load false 1, [.t 142], some (some 133, false)⟩,
  ⟨some 144, .bin .neq, [.t 138, .t 143], some (some 133, false)⟩,
  ⟨some 145, .pick, [.t 133, .c (.val (.bool true)), .t 144], none⟩] [] [] [3, 5, 10, 11, 102, 103, 145] false [] []
noncomputable def c3_66 : ACode := .region false [⟨some 4, .move, [.c (.val (.bool false))], none⟩] [] [] [4] false [] []
noncomputable def c3_65 : ACode := .seq c3_66 .ret
noncomputable def c3_64 : ACode := .cond (.t 145) c3_65 .skip
noncomputable def c3_62 : ACode := .seq c3_63 c3_64
noncomputable def c3_60 : ACode := .seq c3_61 c3_62
noncomputable def c3_59 : ACode := .block 3 c3_60
noncomputable def c3_67 : ACode := .region false [⟨some 146, .bin .add, [.t 103, .c (.val (.int .i64 1))], none⟩,
  ⟨some 103, .move, [.t 146], none⟩] [] [] [3, 5, 10, 11, 102, 103] false [] []
noncomputable def c3_58 : ACode := .seq c3_59 c3_67
noncomputable def c3_56 : ACode := .seq c3_57 c3_58
noncomputable def c3_54 : ACode := .seq c3_55 c3_56
noncomputable def c3_53 : ACode := .loop c3_54
noncomputable def c3_52 : ACode := .block 2 c3_53
noncomputable def c3_50 : ACode := .seq c3_51 c3_52
noncomputable def c3_69 : ACode := .region false [⟨some 13, .alloc [(.int .i64 0)], [], none⟩,
  ⟨none, .store 1, [.t 13, .c (.val (.int .i64 0))], none⟩] [] [] [3, 5, 10, 13] true [] []
noncomputable def c3_71 : ACode := .region false [⟨some 147, .move, [.t 5], none⟩,
  ⟨some 148, .call 12, [.t 147], none⟩,
  ⟨some 14, .move, [.t 148], none⟩] [] [] [3, 10, 13, 14] true [] []
noncomputable def c3_74 : ACode := .region false [⟨some 149, .move, [.t 14], none⟩,
  ⟨some 150, .eqF false, [.t 149, .c (.val .nilFunc)], none⟩] [] [] [3, 10, 13, 14, 150] false [] []
noncomputable def c3_77 : ACode := .region false [⟨some 4, .move, [.c (.val (.bool false))], none⟩] [] [] [4] false [] []
noncomputable def c3_76 : ACode := .seq c3_77 .ret
noncomputable def c3_75 : ACode := .cond (.t 150) c3_76 .skip
noncomputable def c3_73 : ACode := .seq c3_74 c3_75
noncomputable def c3_79 : ACode := .region false [⟨some 151, .move, [.t 14], none⟩,
  ⟨some 152, .mkFn 13 0, [.t 13, .t 10, .t 3], none⟩,
  ⟨some 153, .callv, [.t 151, .t 152], none⟩] [] [] [3, 10, 13] true [] []
noncomputable def c3_81 : ACode := .region false [⟨some 154, .load false 1, [.t 13], none⟩,
  ⟨some 155, .load false 1, [.t 10], none⟩,
  ⟨some 156, .len, [.t 155], none⟩,
  ⟨some 157, .load false 1, [.t 3], none⟩,
  ⟨some 158, .conv .i64, [.t 157], none⟩,
  ⟨some 159, .max, [.t 158, .c (.val (.int .i64 1))], none⟩,
  ⟨some 160, .min, [.t 156, .t 159], none⟩,
  ⟨some 161, .bin .eql, [.t 154, .t 160], none⟩,
  ⟨some 4, .move, [.t 161], none⟩] [] [] [4] false [] []
noncomputable def c3_80 : ACode := .seq c3_81 .ret
noncomputable def c3_78 : ACode := .seq c3_79 c3_80
noncomputable def c3_72 : ACode := .seq c3_73 c3_78
noncomputable def c3_70 : ACode := .seq c3_71 c3_72
noncomputable def c3_68 : ACode := .seq c3_69 c3_70
noncomputable def c3_49 : ACode := .seq c3_50 c3_68
noncomputable def c3_43 : ACode := .seq c3_44 c3_49
noncomputable def c3_41 : ACode := .seq c3_42 c3_43
noncomputable def c3_18 : ACode := .seq c3_19 c3_41
noncomputable def c3_12 : ACode := .seq c3_13 c3_18
noncomputable def c3_10 : ACode := .seq c3_11 c3_12
noncomputable def c3_8 : ACode := .seq c3_9 c3_10
noncomputable def c3_2 : ACode := .seq c3_3 c3_8
noncomputable def c3_0 : ACode := .seq c3_1 c3_2
noncomputable def code3 : Code := (Try.f3.body).getD .skip
theorem c3_ok : compC Try.prog 162 code3 = some (strip c3_0) := by kernel_rfl
theorem res3_ok : Try.f3.results.toList.mapM (resC Try.prog) = some [(4, none)] := by kernel_rfl
theorem tableOrders_walk (W : World) (sl : Sl ByteArray) (s : Int) (hz : Sl.ok W 1 (fun s : ByteArray => [.string s]) (fun s : ByteArray => s.size ≤ maxLen) sl) (hs : IntKind.u8.min ≤ s ∧ s ≤ IntKind.u8.max) :
    Calls Try.prog 3 #[.slice sl.ad sl.l.length sl.cap, .int .u8 s] W fun e W' => e = .returned (.bool true) ∧ Below W.heap.size W W' := by
  have hs : 0 ≤ s ∧ s ≤ 255 := hs
  obtain ⟨ad, off, cap, l⟩ := sl
  obtain ⟨hz, -, hl⟩ := hz
  have hl : l.length ≤ 9223372036854775807 := by simpa [maxLen] using hl
  simp only at hz
  have hr : ∀ ρ, renL ρ (rowsC off KyL l) = rowsC off KyL l := fun ρ => rowsC_ren (fun ρ x => by simp [renL, ren]) ρ l
  have hL : (rowsC off KyL l).length = off + l.length * 1 := rowsC_len (f := KyL) (k := 1) (fun _ => rfl) l
  by_cases h1 : (40 : Int) < (l.length : Int)
  · have g1 : ((40 : Int) < (l.length : Int)) = True := eq_true h1
    refine top_call c3_ok Try.func3 rfl Try.ntmps3 res3_ok [ .val (.slice ad l.length cap), .val (.int .u8 s)] (by simp) (by (repeat' (first | exact VRs_nil' _ | exact VR_val' _ _ | (refine VRs_cons' ?_ ?_) | (refine VR_agg' (by first | rfl | assumption) ?_; first | assumption | simp [Value.oneCell'])))) ?_; try simp (maxSteps := 9999999) (disch := omega) only [go_sem]
    refine AWpA.thawT 0 KyL hz (fun x => by simp) rfl ?_
    (repeat' (first | refine AWpA.seq ?_ | refine AWpA.block ?_ | (with_reducible refine CondP.tt ?_) | (with_reducible refine CondP.ff ?_) | refine AWpA.condv (by simp (maxSteps := 9999999) (disch := omega) only [go_sem, hr, g1]; rfl) ?_ | ((first | (apply AWpA.region; (focus (simp (maxSteps := 9999999) (disch := omega) only [go_sem, hr, g1]; rfl))) | (apply AWpA.draw [] [] follows; (focus (first | rfl | decide)); (focus (simp (maxSteps := 9999999) (disch := omega) only [go_sem, hr, g1]; rfl)); (focus (simp (maxSteps := 9999999) (disch := omega) only [go_sem, hr, g1]; first | done | trivial)); (focus (simp (maxSteps := 9999999) (disch := omega) only [go_sem, hr, g1]; rfl))) | (apply TailK.go; (focus (simp (maxSteps := 9999999) (disch := omega) only [go_sem, hr, g1]; rfl))) | refine AWpA.skip ?_ | refine AWpA.exit ?_ | refine AWpA.ret ?_ | (with_reducible refine ARoundsA.succ ?_) | ((first | refine Runs.kt (by assumption) (fun h9 => ?_) | refine Runs.kf (by assumption) (fun h9 => ?_) | refine Runs.nt (by assumption) (fun h9 => ?_) | refine Runs.nf (by assumption) (fun h9 => ?_) | refine CondP.ht (by assumption) (fun h9 => ?_) | refine CondP.hf (by assumption) (fun h9 => ?_) | refine CondP.nt (by assumption) (fun h9 => ?_) | refine CondP.nf (by assumption) (fun h9 => ?_)); (try simp only [h9]); clear h9) | ((first | (with_reducible apply CallG.plain1 [] (speaks_any)) | (with_reducible apply CallG.draw1 [] (speaks_any))); (focus ((try refine And.intro (leAs_of_eq rfl) ?_); (try refine And.intro (leOL_of_eq rfl) ?_); simp (maxSteps := 9999999) (disch := omega) only [go_sem, hr, g1]; first | done | (repeat' (first | rfl | (refine And.intro ?_ ?_))))); (focus (simp (maxSteps := 9999999) (disch := omega) only [go_sem, hr, g1]; rfl)))); (try simp (maxSteps := 9999999) (disch := omega) only [go_sem, hr, g1]); (try (refine And.intro ?_ ?_; (focus (first | omega | (simp only [go_sem]; done) | (simp; done) | (simp; omega) | assumption))))) | ((first | refine CondP.split (fun hif => ?_) (fun hif => ?_) | refine Runs.part (fun hif => ?_) (fun hif => ?_)) <;> ((try simp only [hif]); (try simp only [decide_eq_true_eq, decide_eq_false_iff_not, Bool.not_eq_true, Bool.not_eq_false, Bool.not_eq_true', Bool.not_eq_false', beq_iff_eq, bne_iff_ne, bne_eq_false_iff_eq, beq_eq_false_iff_ne, ne_eq, Bool.and_eq_true, Bool.or_eq_true, Bool.or_eq_false_iff] at hif); (try (have h9 : _ = true := hif; simp only [h9])); (try (have h9 : _ = false := hif; simp only [h9])); (try simp (maxSteps := 9999999) (disch := omega) only [go_sem, hr, g1]); (try (refine And.intro ?_ ?_; (focus (first | omega | (simp only [go_sem]; done) | (simp; done) | (simp; omega) | assumption)))); (try (exfalso; omega; done))))))
    (refine TopPost.of (by first | exact .inl rfl | exact .inr rfl) (by (try simp (maxSteps := 9999999) (disch := omega) only [go_sem]); rfl) ?_; (try simp (maxSteps := 9999999) (disch := omega) only [go_sem]); (try (first | trivial | decide | (simp; done))))
  have g1 : ((40 : Int) < (l.length : Int)) = False := eq_false h1
  have n1 := tnew_ok 64 (by decide)
  refine top_call c3_ok Try.func3 rfl Try.ntmps3 res3_ok [ .val (.slice ad l.length cap), .val (.int .u8 s)] (by simp) (by (repeat' (first | exact VRs_nil' _ | exact VR_val' _ _ | (refine VRs_cons' ?_ ?_) | (refine VR_agg' (by first | rfl | assumption) ?_; first | assumption | simp [Value.oneCell'])))) ?_; try simp (maxSteps := 9999999) (disch := omega) only [go_sem]
  refine AWpA.thawT 0 KyL hz (fun x => by simp) rfl ?_
  refine AWpA.dummy ?_
  refine AWpA.dummy ?_
  (repeat' (first | refine AWpA.seq ?_ | refine AWpA.block ?_ | (with_reducible refine CondP.tt ?_) | (with_reducible refine CondP.ff ?_) | refine AWpA.condv (by simp (maxSteps := 9999999) (disch := omega) only [go_sem, hr, g1]; rfl) ?_ | ((first | (apply AWpA.region; (focus (simp (maxSteps := 9999999) (disch := omega) only [go_sem, hr, g1]; rfl))) | (apply AWpA.draw [] [] follows; (focus (first | rfl | decide)); (focus (simp (maxSteps := 9999999) (disch := omega) only [go_sem, hr, g1]; rfl)); (focus (simp (maxSteps := 9999999) (disch := omega) only [go_sem, hr, g1]; first | done | trivial)); (focus (simp (maxSteps := 9999999) (disch := omega) only [go_sem, hr, g1]; rfl))) | (apply TailK.go; (focus (simp (maxSteps := 9999999) (disch := omega) only [go_sem, hr, g1]; rfl))) | refine AWpA.skip ?_ | refine AWpA.exit ?_ | refine AWpA.ret ?_ | (with_reducible refine ARoundsA.succ ?_) | ((first | refine Runs.kt (by assumption) (fun h9 => ?_) | refine Runs.kf (by assumption) (fun h9 => ?_) | refine Runs.nt (by assumption) (fun h9 => ?_) | refine Runs.nf (by assumption) (fun h9 => ?_) | refine CondP.ht (by assumption) (fun h9 => ?_) | refine CondP.hf (by assumption) (fun h9 => ?_) | refine CondP.nt (by assumption) (fun h9 => ?_) | refine CondP.nf (by assumption) (fun h9 => ?_)); (try simp only [h9]); clear h9) | ((first | (with_reducible apply CallG.plain1 [] (speaks_any)) | (with_reducible apply CallG.draw1 [] (speaks_any))); (focus ((try refine And.intro (leAs_of_eq rfl) ?_); (try refine And.intro (leOL_of_eq rfl) ?_); simp (maxSteps := 9999999) (disch := omega) only [go_sem, hr, g1]; first | done | (repeat' (first | rfl | (refine And.intro ?_ ?_))))); (focus (simp (maxSteps := 9999999) (disch := omega) only [go_sem, hr, g1]; rfl))) | ((first | (with_reducible apply CallG.plain1 [] (n1)) | (with_reducible apply CallG.draw1 [] (n1))); (focus ((try refine And.intro (leAs_of_eq rfl) ?_); (try refine And.intro (leOL_of_eq rfl) ?_); simp (maxSteps := 9999999) (disch := omega) only [go_sem, hr, g1]; first | done | (repeat' (first | rfl | (refine And.intro ?_ ?_))))); (focus (simp (maxSteps := 9999999) (disch := omega) only [go_sem, hr, g1]; rfl)))); (try simp (maxSteps := 9999999) (disch := omega) only [go_sem, hr, g1]); (try (refine And.intro ?_ ?_; (focus (first | omega | (simp only [go_sem]; done) | (simp; done) | (simp; omega) | assumption))))) | ((first | refine CondP.split (fun hif => ?_) (fun hif => ?_) | refine Runs.part (fun hif => ?_) (fun hif => ?_)) <;> ((try simp only [hif]); (try simp only [decide_eq_true_eq, decide_eq_false_iff_not, Bool.not_eq_true, Bool.not_eq_false, Bool.not_eq_true', Bool.not_eq_false', beq_iff_eq, bne_iff_ne, bne_eq_false_iff_eq, beq_eq_false_iff_ne, ne_eq, Bool.and_eq_true, Bool.or_eq_true, Bool.or_eq_false_iff] at hif); (try (have h9 : _ = true := hif; simp only [h9])); (try (have h9 : _ = false := hif; simp only [h9])); (try simp (maxSteps := 9999999) (disch := omega) only [go_sem, hr, g1]); (try (refine And.intro ?_ ?_; (focus (first | omega | (simp only [go_sem]; done) | (simp; done) | (simp; omega) | assumption)))); (try (exfalso; omega; done))))))
  (apply AWpA.loopL (fun p : Nat × Tb × Tb => [(0, .sl 0 off l.length 1 none), (3, .ptr 1 0), (5, .ptr 2 0), (7, .ptr 4 0), (46, I l.length), (47, I p.1)]) (fun p => [.cells true (rowsC off KyL l), .cells false [.val (.int .u8 s)], TbO 3 p.2.1, .cells false (Rp 0 p.2.1.l), TbO 5 p.2.2, .cells false (Rp 0 p.2.2.l)]) (fun p => l.length - p.1) (fun p => p.1 ≤ l.length ∧ OkS p.2.1 (l.take p.1) ∧ OkS p.2.2 (l.drop (l.length - p.1))) ((0, ⟨64, []⟩, ⟨64, []⟩)) [0, _, _, 1, _, 2]; rotate_left; (focus (simp (maxSteps := 9999999) (disch := omega) only [go_sem, hr, rp_nil]; (try (repeat' (first | done | trivial | rfl | exact leAs_rfl _ | decide | (refine And.intro ?_ ?_) | (simp; done) | omega | (simp; decide)))))); rotate_right)
  · refine ⟨Nat.zero_le _, ⟨List.Pairwise.nil, by simp, rfl, by simp, by simp⟩, ⟨List.Pairwise.nil, by simp, rfl, by simp, by simp⟩⟩
  rintro ⟨i, t, u⟩ ⟨hi, hot, hou⟩
  (try simp only at hi hot hou)
  by_cases hin : i < l.length
  · have k1 : ((i : Int) < (l.length : Int)) = True := eq_true (by omega)
    have hat1 := ky_get off l i hin
    have hat2 := ky_get off l (l.length - 1 - i) (by omega)
    have hix : ((l.length : Int) - 1 - (i : Int)).toNat = l.length - 1 - i := by omega
    have p1 : OkS (putT t l[i] l[i]) (l.take (i + 1)) := hot.put (by simp; omega) (by simp; omega) fun x => by
      rw [List.take_succ_eq_append_getElem hin]
      simp only [List.mem_append, List.mem_singleton]
      exact Or.comm
    have p2 : OkS (putT u l[l.length - 1 - i] l[l.length - 1 - i]) (l.drop (l.length - (i + 1))) := hou.put (by simp; omega) (by simp; omega) fun x => by
      have e : l.length - (i + 1) = l.length - 1 - i := by omega
      rw [e, List.drop_eq_getElem_cons (by omega)]
      rw [show l.length - 1 - i + 1 = l.length - i by omega]
      simp only [List.mem_cons]
    have o1 := hot.ok (by simp; omega)
    have o2 := hou.ok (by simp; omega)
    have c1 := tput_any t l[i] l[i] o1
    have c2 := tput_any u l[l.length - 1 - i] l[l.length - 1 - i] o2
    generalize putT t l[i] l[i] = t' at *
    generalize putT u l[l.length - 1 - i] l[l.length - 1 - i] = u' at *
    generalize putE t l[i] = e1 at *
    generalize putE u l[l.length - 1 - i] = e2 at *
    generalize l[i] = x at *
    generalize l[l.length - 1 - i] = y at *
    have hrp := rp_ren 0
    by_cases h3 : (40 : Int) < (x.size : Int)
    · have g3 : ((40 : Int) < (x.size : Int)) = True := eq_true h3
      (try simp (maxSteps := 9999999) (disch := omega) only [go_sem])
      (repeat' (first | refine AWpA.seq ?_ | refine AWpA.block ?_ | (with_reducible refine CondP.tt ?_) | (with_reducible refine CondP.ff ?_) | refine AWpA.condv (by simp (maxSteps := 9999999) (disch := omega) only [go_sem, hr, hL, k1, hat1, g3]; rfl) ?_ | ((first | (apply AWpA.region; (focus (simp (maxSteps := 9999999) (disch := omega) only [go_sem, hr, hL, k1, hat1, g3]; rfl))) | (apply AWpA.draw [] [] follows; (focus (first | rfl | decide)); (focus (simp (maxSteps := 9999999) (disch := omega) only [go_sem, hr, hL, k1, hat1, g3]; rfl)); (focus (simp (maxSteps := 9999999) (disch := omega) only [go_sem, hr, hL, k1, hat1, g3]; first | done | trivial)); (focus (simp (maxSteps := 9999999) (disch := omega) only [go_sem, hr, hL, k1, hat1, g3]; rfl))) | (apply TailK.go; (focus (simp (maxSteps := 9999999) (disch := omega) only [go_sem, hr, hL, k1, hat1, g3]; rfl))) | refine AWpA.skip ?_ | refine AWpA.exit ?_ | refine AWpA.ret ?_ | (with_reducible refine ARoundsA.succ ?_) | ((first | refine Runs.kt (by assumption) (fun h9 => ?_) | refine Runs.kf (by assumption) (fun h9 => ?_) | refine Runs.nt (by assumption) (fun h9 => ?_) | refine Runs.nf (by assumption) (fun h9 => ?_) | refine CondP.ht (by assumption) (fun h9 => ?_) | refine CondP.hf (by assumption) (fun h9 => ?_) | refine CondP.nt (by assumption) (fun h9 => ?_) | refine CondP.nf (by assumption) (fun h9 => ?_)); (try simp only [h9]); clear h9)); (try simp (maxSteps := 9999999) (disch := omega) only [go_sem, hr, hL, k1, hat1, g3]); (try (refine And.intro ?_ ?_; (focus (first | omega | (simp only [go_sem]; done) | (simp; done) | (simp; omega) | assumption))))) | ((first | refine CondP.split (fun hif => ?_) (fun hif => ?_) | refine Runs.part (fun hif => ?_) (fun hif => ?_)) <;> ((try simp only [hif]); (try simp only [decide_eq_true_eq, decide_eq_false_iff_not, Bool.not_eq_true, Bool.not_eq_false, Bool.not_eq_true', Bool.not_eq_false', beq_iff_eq, bne_iff_ne, bne_eq_false_iff_eq, beq_eq_false_iff_ne, ne_eq, Bool.and_eq_true, Bool.or_eq_true, Bool.or_eq_false_iff] at hif); (try (have h9 : _ = true := hif; simp only [h9])); (try (have h9 : _ = false := hif; simp only [h9])); (try simp (maxSteps := 9999999) (disch := omega) only [go_sem, hr, hL, k1, hat1, g3]); (try (refine And.intro ?_ ?_; (focus (first | omega | (simp only [go_sem]; done) | (simp; done) | (simp; omega) | assumption)))); (try (exfalso; omega; done))))))
      (refine TopPost.of (by first | exact .inl rfl | exact .inr rfl) (by (try simp (maxSteps := 9999999) (disch := omega) only [go_sem]); rfl) ?_; (try simp (maxSteps := 9999999) (disch := omega) only [go_sem]); (try (first | trivial | decide | (simp; done))))
    · have g3 : ((40 : Int) < (x.size : Int)) = False := eq_false h3
      (try simp (maxSteps := 9999999) (disch := omega) only [go_sem])
      (repeat' (first | refine AWpA.seq ?_ | refine AWpA.block ?_ | (with_reducible refine CondP.tt ?_) | (with_reducible refine CondP.ff ?_) | refine AWpA.condv (by simp (maxSteps := 9999999) (disch := omega) only [go_sem, hr, hrp, hL, k1, hat1, hat2, hix, g3]; rfl) ?_ | ((first | (apply AWpA.region; (focus (simp (maxSteps := 9999999) (disch := omega) only [go_sem, hr, hrp, hL, k1, hat1, hat2, hix, g3]; rfl))) | (apply AWpA.draw [2, 3, 4, 5] [] follows; (focus (first | rfl | decide)); (focus (simp (maxSteps := 9999999) (disch := omega) only [go_sem, hr, hrp, hL, k1, hat1, hat2, hix, g3]; rfl)); (focus (simp (maxSteps := 9999999) (disch := omega) only [go_sem, hr, hrp, hL, k1, hat1, hat2, hix, g3]; first | done | trivial)); (focus (simp (maxSteps := 9999999) (disch := omega) only [go_sem, hr, hrp, hL, k1, hat1, hat2, hix, g3]; rfl))) | (apply TailK.go; (focus (simp (maxSteps := 9999999) (disch := omega) only [go_sem, hr, hrp, hL, k1, hat1, hat2, hix, g3]; rfl))) | refine AWpA.skip ?_ | refine AWpA.exit ?_ | refine AWpA.ret ?_ | (with_reducible refine ARoundsA.succ ?_) | ((first | refine Runs.kt (by assumption) (fun h9 => ?_) | refine Runs.kf (by assumption) (fun h9 => ?_) | refine Runs.nt (by assumption) (fun h9 => ?_) | refine Runs.nf (by assumption) (fun h9 => ?_) | refine CondP.ht (by assumption) (fun h9 => ?_) | refine CondP.hf (by assumption) (fun h9 => ?_) | refine CondP.nt (by assumption) (fun h9 => ?_) | refine CondP.nf (by assumption) (fun h9 => ?_)); (try simp only [h9]); clear h9) | ((first | (with_reducible apply CallG.plain1 [2, 3] (c1)) | (with_reducible apply CallG.draw1 [2, 3] (c1))); (focus ((try refine And.intro (leAs_of_eq rfl) ?_); (try refine And.intro (leOL_of_eq rfl) ?_); simp (maxSteps := 9999999) (disch := omega) only [go_sem, hr, hrp, hL, k1, hat1, hat2, hix, g3]; first | done | (repeat' (first | rfl | (refine And.intro ?_ ?_))))); (focus (simp (maxSteps := 9999999) (disch := omega) only [go_sem, hr, hrp, hL, k1, hat1, hat2, hix, g3]; rfl))) | ((first | (with_reducible apply CallG.plain1 [4, 5] (c2)) | (with_reducible apply CallG.draw1 [4, 5] (c2))); (focus ((try refine And.intro (leAs_of_eq rfl) ?_); (try refine And.intro (leOL_of_eq rfl) ?_); simp (maxSteps := 9999999) (disch := omega) only [go_sem, hr, hrp, hL, k1, hat1, hat2, hix, g3]; first | done | (repeat' (first | rfl | (refine And.intro ?_ ?_))))); (focus (simp (maxSteps := 9999999) (disch := omega) only [go_sem, hr, hrp, hL, k1, hat1, hat2, hix, g3]; rfl)))); (try simp (maxSteps := 9999999) (disch := omega) only [go_sem, hr, hrp, hL, k1, hat1, hat2, hix, g3]); (try (refine And.intro ?_ ?_; (focus (first | omega | (simp only [go_sem]; done) | (simp; done) | (simp; omega) | assumption))))) | ((first | refine CondP.split (fun hif => ?_) (fun hif => ?_) | refine Runs.part (fun hif => ?_) (fun hif => ?_)) <;> ((try simp only [hif]); (try simp only [decide_eq_true_eq, decide_eq_false_iff_not, Bool.not_eq_true, Bool.not_eq_false, Bool.not_eq_true', Bool.not_eq_false', beq_iff_eq, bne_iff_ne, bne_eq_false_iff_eq, beq_eq_false_iff_ne, ne_eq, Bool.and_eq_true, Bool.or_eq_true, Bool.or_eq_false_iff] at hif); (try (have h9 : _ = true := hif; simp only [h9])); (try (have h9 : _ = false := hif; simp only [h9])); (try simp (maxSteps := 9999999) (disch := omega) only [go_sem, hr, hrp, hL, k1, hat1, hat2, hix, g3]); (try (refine And.intro ?_ ?_; (focus (first | omega | (simp only [go_sem]; done) | (simp; done) | (simp; omega) | assumption)))); (try (exfalso; omega; done))))))
      (apply Back.to ((i + 1), t', u') [0, 1, 2, 294, 4, 582]; (focus ((try simp (maxSteps := 9999999) (disch := omega) only [go_sem, hr, hrp]); first | done | omega)); rotate_left; (focus (simp (maxSteps := 9999999) (disch := omega) only [go_sem, hr, hrp]; (try (repeat' (first | done | trivial | rfl | exact leAs_rfl _ | decide | (refine And.intro ?_ ?_) | (simp; done) | omega | (simp; decide)))))))
      exact ⟨by simp only; omega, p1, p2⟩
  · obtain rfl : i = l.length := by omega
    have k1 : ((l.length : Int) < (l.length : Int)) = False := eq_false (by omega)
    rw [List.take_length] at hot
    rw [Nat.sub_self, List.drop_zero] at hou
    obtain rfl := hot.eq hou
    have hok := hot.ok (by omega)
    have hle := hot.len
    have c1 := tscan_any t ⟨#[]⟩ 64 hok
    rw [scan_all2 t.l 64 (by omega)] at c1
    have c2 := tlen_any t
    have hrp := rp_ren 0
    have hLp := rp_len 0 t.l
    (try simp (maxSteps := 9999999) (disch := omega) only [go_sem])
    (repeat' (first | refine AWpA.seq ?_ | refine AWpA.block ?_ | (with_reducible refine CondP.tt ?_) | (with_reducible refine CondP.ff ?_) | refine AWpA.condv (by simp (maxSteps := 9999999) (disch := omega) only [go_sem, hr, hrp, k1]; rfl) ?_ | ((first | (apply AWpA.region; (focus (simp (maxSteps := 9999999) (disch := omega) only [go_sem, hr, hrp, k1]; rfl))) | (apply AWpA.draw [] [] follows; (focus (first | rfl | decide)); (focus (simp (maxSteps := 9999999) (disch := omega) only [go_sem, hr, hrp, k1]; rfl)); (focus (simp (maxSteps := 9999999) (disch := omega) only [go_sem, hr, hrp, k1]; first | done | trivial)); (focus (simp (maxSteps := 9999999) (disch := omega) only [go_sem, hr, hrp, k1]; rfl))) | (apply TailK.go; (focus (simp (maxSteps := 9999999) (disch := omega) only [go_sem, hr, hrp, k1]; rfl))) | refine AWpA.skip ?_ | refine AWpA.exit ?_ | refine AWpA.ret ?_ | (with_reducible refine ARoundsA.succ ?_) | ((first | refine Runs.kt (by assumption) (fun h9 => ?_) | refine Runs.kf (by assumption) (fun h9 => ?_) | refine Runs.nt (by assumption) (fun h9 => ?_) | refine Runs.nf (by assumption) (fun h9 => ?_) | refine CondP.ht (by assumption) (fun h9 => ?_) | refine CondP.hf (by assumption) (fun h9 => ?_) | refine CondP.nt (by assumption) (fun h9 => ?_) | refine CondP.nf (by assumption) (fun h9 => ?_)); (try simp only [h9]); clear h9) | ((first | (with_reducible apply CallG.plain1 [2, 3] (c1)) | (with_reducible apply CallG.draw1 [2, 3] (c1))); (focus ((try refine And.intro (leAs_of_eq rfl) ?_); (try refine And.intro (leOL_of_eq rfl) ?_); simp (maxSteps := 9999999) (disch := omega) only [go_sem, hr, hrp, k1]; first | done | (repeat' (first | rfl | (refine And.intro ?_ ?_))))); (focus (simp (maxSteps := 9999999) (disch := omega) only [go_sem, hr, hrp, k1]; rfl))) | ((first | (with_reducible apply CallG.plain1 [4, 5] (c1)) | (with_reducible apply CallG.draw1 [4, 5] (c1))); (focus ((try refine And.intro (leAs_of_eq rfl) ?_); (try refine And.intro (leOL_of_eq rfl) ?_); simp (maxSteps := 9999999) (disch := omega) only [go_sem, hr, hrp, k1]; first | done | (repeat' (first | rfl | (refine And.intro ?_ ?_))))); (focus (simp (maxSteps := 9999999) (disch := omega) only [go_sem, hr, hrp, k1]; rfl))) | ((first | (with_reducible apply CallG.plain1 [2, 3] (c2)) | (with_reducible apply CallG.draw1 [2, 3] (c2))); (focus ((try refine And.intro (leAs_of_eq rfl) ?_); (try refine And.intro (leOL_of_eq rfl) ?_); simp (maxSteps := 9999999) (disch := omega) only [go_sem, hr, hrp, k1]; first | done | (repeat' (first | rfl | (refine And.intro ?_ ?_))))); (focus (simp (maxSteps := 9999999) (disch := omega) only [go_sem, hr, hrp, k1]; rfl)))); (try simp (maxSteps := 9999999) (disch := omega) only [go_sem, hr, hrp, k1]); (try (refine And.intro ?_ ?_; (focus (first | omega | (simp only [go_sem]; done) | (simp; done) | (simp; omega) | assumption))))) | ((first | refine CondP.split (fun hif => ?_) (fun hif => ?_) | refine Runs.part (fun hif => ?_) (fun hif => ?_)) <;> ((try simp only [hif]); (try simp only [decide_eq_true_eq, decide_eq_false_iff_not, Bool.not_eq_true, Bool.not_eq_false, Bool.not_eq_true', Bool.not_eq_false', beq_iff_eq, bne_iff_ne, bne_eq_false_iff_eq, beq_eq_false_iff_ne, ne_eq, Bool.and_eq_true, Bool.or_eq_true, Bool.or_eq_false_iff] at hif); (try (have h9 : _ = true := hif; simp only [h9])); (try (have h9 : _ = false := hif; simp only [h9])); (try simp (maxSteps := 9999999) (disch := omega) only [go_sem, hr, hrp, k1]); (try (refine And.intro ?_ ?_; (focus (first | omega | (simp only [go_sem]; done) | (simp; done) | (simp; omega) | assumption)))); (try (exfalso; omega; done))))))
    (apply AWpA.loopL (fun j : Nat => [(3, .ptr 0 0), (5, .ptr 1 0), (10, .ptr 3 0), (11, .sl 5 0 t.l.length 2 none), (102, I t.l.length), (103, I j)]) (fun j => [.cells false [.val (.int .u8 s)], TbO 2 t, .cells false (Rp 0 t.l), .cells false [.sl 4 0 t.l.length 2 none], .cells false (Rp 0 t.l), .cells false (Rp 0 t.l)]) (fun j => t.l.length - j) (fun j => j ≤ t.l.length) (0) [1, 2, 3, 86, 38, 70]; rotate_left; (focus (simp (maxSteps := 9999999) (disch := omega) only [go_sem, hr, hrp]; (try (repeat' (first | done | trivial | rfl | exact leAs_rfl _ | decide | (refine And.intro ?_ ?_) | (simp; done) | omega | (simp; decide)))))); rotate_right)
    · simp
    rintro j hj
    (try simp only at hj)
    by_cases hjt : j < t.l.length
    · have m1 : ((j : Int) < (t.l.length : Int)) = True := eq_true (by omega)
      have mat := rp_at 0 t.l j hjt
      rw [Nat.zero_add] at mat
      have mk0 := rp_k t.l j hjt
      have mv0 := rp_v t.l j hjt
      rw [hot.same t.l[j] (List.getElem_mem hjt)] at mv0
      have hbe : ∀ x : ByteArray, (x == x) = true := fun x => (_root_.Go.MapKept.bytes_beq _ _).2 rfl
      by_cases hj0 : 0 < j
      · have z1 : ((0 : Int) < (j : Int)) = True := eq_true (by omega)
        have z2 : ((j : Int) - 1).toNat = j - 1 := by omega
        have y1 := rp_k t.l (j - 1) (by omega)
        have y2 : ltK t.l[j - 1].key t.l[j].key = true := hok.1.lt (by omega) hjt (by omega)
        generalize t.l[j] = x at *
        generalize t.l[j - 1] = y at *
        (try simp (maxSteps := 9999999) (disch := omega) only [go_sem])
        (repeat' (first | refine AWpA.seq ?_ | refine AWpA.block ?_ | (with_reducible refine CondP.tt ?_) | (with_reducible refine CondP.ff ?_) | refine AWpA.condv (by simp (maxSteps := 9999999) (disch := omega) only [go_sem, hrp, hLp, m1, mat, mk0, mv0, hbe, z1, z2, y1, y2]; rfl) ?_ | ((first | (apply AWpA.region; (focus (simp (maxSteps := 9999999) (disch := omega) only [go_sem, hrp, hLp, m1, mat, mk0, mv0, hbe, z1, z2, y1, y2]; rfl))) | (apply AWpA.draw [] [] follows; (focus (first | rfl | decide)); (focus (simp (maxSteps := 9999999) (disch := omega) only [go_sem, hrp, hLp, m1, mat, mk0, mv0, hbe, z1, z2, y1, y2]; rfl)); (focus (simp (maxSteps := 9999999) (disch := omega) only [go_sem, hrp, hLp, m1, mat, mk0, mv0, hbe, z1, z2, y1, y2]; first | done | trivial)); (focus (simp (maxSteps := 9999999) (disch := omega) only [go_sem, hrp, hLp, m1, mat, mk0, mv0, hbe, z1, z2, y1, y2]; rfl))) | (apply TailK.go; (focus (simp (maxSteps := 9999999) (disch := omega) only [go_sem, hrp, hLp, m1, mat, mk0, mv0, hbe, z1, z2, y1, y2]; rfl))) | refine AWpA.skip ?_ | refine AWpA.exit ?_ | refine AWpA.ret ?_ | (with_reducible refine ARoundsA.succ ?_) | ((first | refine Runs.kt (by assumption) (fun h9 => ?_) | refine Runs.kf (by assumption) (fun h9 => ?_) | refine Runs.nt (by assumption) (fun h9 => ?_) | refine Runs.nf (by assumption) (fun h9 => ?_) | refine CondP.ht (by assumption) (fun h9 => ?_) | refine CondP.hf (by assumption) (fun h9 => ?_) | refine CondP.nt (by assumption) (fun h9 => ?_) | refine CondP.nf (by assumption) (fun h9 => ?_)); (try simp only [h9]); clear h9)); (try simp (maxSteps := 9999999) (disch := omega) only [go_sem, hrp, hLp, m1, mat, mk0, mv0, hbe, z1, z2, y1, y2]); (try (refine And.intro ?_ ?_; (focus (first | omega | (simp only [go_sem]; done) | (simp; done) | (simp; omega) | assumption))))) | ((first | refine CondP.split (fun hif => ?_) (fun hif => ?_) | refine Runs.part (fun hif => ?_) (fun hif => ?_)) <;> ((try simp only [hif]); (try simp only [decide_eq_true_eq, decide_eq_false_iff_not, Bool.not_eq_true, Bool.not_eq_false, Bool.not_eq_true', Bool.not_eq_false', beq_iff_eq, bne_iff_ne, bne_eq_false_iff_eq, beq_eq_false_iff_ne, ne_eq, Bool.and_eq_true, Bool.or_eq_true, Bool.or_eq_false_iff] at hif); (try (have h9 : _ = true := hif; simp only [h9])); (try (have h9 : _ = false := hif; simp only [h9])); (try simp (maxSteps := 9999999) (disch := omega) only [go_sem, hrp, hLp, m1, mat, mk0, mv0, hbe, z1, z2, y1, y2]); (try (refine And.intro ?_ ?_; (focus (first | omega | (simp only [go_sem]; done) | (simp; done) | (simp; omega) | assumption)))); (try (exfalso; omega; done))))))
        (apply Back.to (j + 1) [0, 1, 2, 3, 4, 5]; (focus ((try simp (maxSteps := 9999999) (disch := omega) only [go_sem, hrp]); first | done | omega)); rotate_left; (focus (simp (maxSteps := 9999999) (disch := omega) only [go_sem, hrp]; (try (repeat' (first | done | trivial | rfl | exact leAs_rfl _ | decide | (refine And.intro ?_ ?_) | (simp; done) | omega | (simp; decide)))))))
        all_goals omega
      · have z1 : ((0 : Int) < (j : Int)) = False := eq_false (by omega)
        generalize t.l[j] = x at *
        (try simp (maxSteps := 9999999) (disch := omega) only [go_sem])
        (repeat' (first | refine AWpA.seq ?_ | refine AWpA.block ?_ | (with_reducible refine CondP.tt ?_) | (with_reducible refine CondP.ff ?_) | refine AWpA.condv (by simp (maxSteps := 9999999) (disch := omega) only [go_sem, hrp, hLp, m1, mat, mk0, mv0, hbe, z1]; rfl) ?_ | ((first | (apply AWpA.region; (focus (simp (maxSteps := 9999999) (disch := omega) only [go_sem, hrp, hLp, m1, mat, mk0, mv0, hbe, z1]; rfl))) | (apply AWpA.draw [] [] follows; (focus (first | rfl | decide)); (focus (simp (maxSteps := 9999999) (disch := omega) only [go_sem, hrp, hLp, m1, mat, mk0, mv0, hbe, z1]; rfl)); (focus (simp (maxSteps := 9999999) (disch := omega) only [go_sem, hrp, hLp, m1, mat, mk0, mv0, hbe, z1]; first | done | trivial)); (focus (simp (maxSteps := 9999999) (disch := omega) only [go_sem, hrp, hLp, m1, mat, mk0, mv0, hbe, z1]; rfl))) | (apply TailK.go; (focus (simp (maxSteps := 9999999) (disch := omega) only [go_sem, hrp, hLp, m1, mat, mk0, mv0, hbe, z1]; rfl))) | refine AWpA.skip ?_ | refine AWpA.exit ?_ | refine AWpA.ret ?_ | (with_reducible refine ARoundsA.succ ?_) | ((first | refine Runs.kt (by assumption) (fun h9 => ?_) | refine Runs.kf (by assumption) (fun h9 => ?_) | refine Runs.nt (by assumption) (fun h9 => ?_) | refine Runs.nf (by assumption) (fun h9 => ?_) | refine CondP.ht (by assumption) (fun h9 => ?_) | refine CondP.hf (by assumption) (fun h9 => ?_) | refine CondP.nt (by assumption) (fun h9 => ?_) | refine CondP.nf (by assumption) (fun h9 => ?_)); (try simp only [h9]); clear h9)); (try simp (maxSteps := 9999999) (disch := omega) only [go_sem, hrp, hLp, m1, mat, mk0, mv0, hbe, z1]); (try (refine And.intro ?_ ?_; (focus (first | omega | (simp only [go_sem]; done) | (simp; done) | (simp; omega) | assumption))))) | ((first | refine CondP.split (fun hif => ?_) (fun hif => ?_) | refine Runs.part (fun hif => ?_) (fun hif => ?_)) <;> ((try simp only [hif]); (try simp only [decide_eq_true_eq, decide_eq_false_iff_not, Bool.not_eq_true, Bool.not_eq_false, Bool.not_eq_true', Bool.not_eq_false', beq_iff_eq, bne_iff_ne, bne_eq_false_iff_eq, beq_eq_false_iff_ne, ne_eq, Bool.and_eq_true, Bool.or_eq_true, Bool.or_eq_false_iff] at hif); (try (have h9 : _ = true := hif; simp only [h9])); (try (have h9 : _ = false := hif; simp only [h9])); (try simp (maxSteps := 9999999) (disch := omega) only [go_sem, hrp, hLp, m1, mat, mk0, mv0, hbe, z1]); (try (refine And.intro ?_ ?_; (focus (first | omega | (simp only [go_sem]; done) | (simp; done) | (simp; omega) | assumption)))); (try (exfalso; omega; done))))))
        (apply Back.to (j + 1) [0, 1, 2, 3, 4, 5]; (focus ((try simp (maxSteps := 9999999) (disch := omega) only [go_sem, hrp]); first | done | omega)); rotate_left; (focus (simp (maxSteps := 9999999) (disch := omega) only [go_sem, hrp]; (try (repeat' (first | done | trivial | rfl | exact leAs_rfl _ | decide | (refine And.intro ?_ ?_) | (simp; done) | omega | (simp; decide)))))))
        all_goals omega
    · obtain rfl : j = t.l.length := by omega
      have m1 : ((t.l.length : Int) < (t.l.length : Int)) = False := eq_false (by omega)
      have c3 := all_any t
      have c4 := all1_any t hok.2 s hs
      have hcn : (if (if s < 1 then 1 else s) < (t.l.length : Int) then (if s < 1 then 1 else s) else (t.l.length : Int)) = cntI t.l.length s := rfl
      generalize cntI t.l.length s = cc at *
      (try simp (maxSteps := 9999999) (disch := omega) only [go_sem])
      (repeat' (first | refine AWpA.seq ?_ | refine AWpA.block ?_ | (with_reducible refine CondP.tt ?_) | (with_reducible refine CondP.ff ?_) | refine AWpA.condv (by simp (maxSteps := 9999999) (disch := omega) only [go_sem, hrp, m1, hcn]; rfl) ?_ | ((first | (apply AWpA.region; (focus (simp (maxSteps := 9999999) (disch := omega) only [go_sem, hrp, m1, hcn]; rfl))) | (apply AWpA.draw [] [] follows; (focus (first | rfl | decide)); (focus (simp (maxSteps := 9999999) (disch := omega) only [go_sem, hrp, m1, hcn]; rfl)); (focus (simp (maxSteps := 9999999) (disch := omega) only [go_sem, hrp, m1, hcn]; first | done | trivial)); (focus (simp (maxSteps := 9999999) (disch := omega) only [go_sem, hrp, m1, hcn]; rfl))) | (apply TailK.go; (focus (simp (maxSteps := 9999999) (disch := omega) only [go_sem, hrp, m1, hcn]; rfl))) | refine AWpA.skip ?_ | refine AWpA.exit ?_ | refine AWpA.ret ?_ | (with_reducible refine ARoundsA.succ ?_) | ((first | refine Runs.kt (by assumption) (fun h9 => ?_) | refine Runs.kf (by assumption) (fun h9 => ?_) | refine Runs.nt (by assumption) (fun h9 => ?_) | refine Runs.nf (by assumption) (fun h9 => ?_) | refine CondP.ht (by assumption) (fun h9 => ?_) | refine CondP.hf (by assumption) (fun h9 => ?_) | refine CondP.nt (by assumption) (fun h9 => ?_) | refine CondP.nf (by assumption) (fun h9 => ?_)); (try simp only [h9]); clear h9) | ((first | (with_reducible apply CallG.plain1 [1, 2] (c3)) | (with_reducible apply CallG.draw1 [1, 2] (c3))); (focus ((try refine And.intro (leAs_of_eq rfl) ?_); (try refine And.intro (leOL_of_eq rfl) ?_); simp (maxSteps := 9999999) (disch := omega) only [go_sem, hrp, m1, hcn]; first | done | (repeat' (first | rfl | (refine And.intro ?_ ?_))))); (focus (simp (maxSteps := 9999999) (disch := omega) only [go_sem, hrp, m1, hcn]; rfl))) | ((first | (with_reducible apply CallG.plain1 [22, 3, 4, 0, 70, 1, 2] (c4)) | (with_reducible apply CallG.draw1 [22, 3, 4, 0, 70, 1, 2] (c4))); (focus ((try refine And.intro (leAs_of_eq rfl) ?_); (try refine And.intro (leOL_of_eq rfl) ?_); simp (maxSteps := 9999999) (disch := omega) only [go_sem, hrp, m1, hcn]; first | done | (repeat' (first | rfl | (refine And.intro ?_ ?_))))); (focus (simp (maxSteps := 9999999) (disch := omega) only [go_sem, hrp, m1, hcn]; rfl)))); (try simp (maxSteps := 9999999) (disch := omega) only [go_sem, hrp, m1, hcn]); (try (refine And.intro ?_ ?_; (focus (first | omega | (simp only [go_sem]; done) | (simp; done) | (simp; omega) | assumption))))) | ((first | refine CondP.split (fun hif => ?_) (fun hif => ?_) | refine Runs.part (fun hif => ?_) (fun hif => ?_)) <;> ((try simp only [hif]); (try simp only [decide_eq_true_eq, decide_eq_false_iff_not, Bool.not_eq_true, Bool.not_eq_false, Bool.not_eq_true', Bool.not_eq_false', beq_iff_eq, bne_iff_ne, bne_eq_false_iff_eq, beq_eq_false_iff_ne, ne_eq, Bool.and_eq_true, Bool.or_eq_true, Bool.or_eq_false_iff] at hif); (try (have h9 : _ = true := hif; simp only [h9])); (try (have h9 : _ = false := hif; simp only [h9])); (try simp (maxSteps := 9999999) (disch := omega) only [go_sem, hrp, m1, hcn]); (try (refine And.intro ?_ ?_; (focus (first | omega | (simp only [go_sem]; done) | (simp; done) | (simp; omega) | assumption)))); (try (exfalso; omega; done))))))
      (refine TopPost.of (by first | exact .inl rfl | exact .inr rfl) (by (try simp (maxSteps := 9999999) (disch := omega) only [go_sem]); rfl) ?_; (try simp (maxSteps := 9999999) (disch := omega) only [go_sem]); (try (first | trivial | decide | (simp; done))))
end Go.Proofs.Ytodnlihbmgigjaa.Us
