/- The walk of TablePlays. -/
import Derived.Test.YtodnlihbmgigjaaBt9
namespace Go.Proofs.Ytodnlihbmgigjaa
set_option linter.unusedSimpArgs false
set_option linter.unusedVariables false
set_option maxHeartbeats 4000000
open Go Go.Am Go.RowKit Go.ChangeShapes Go.WideShapes Go.ChangeAt
set_option maxRecDepth 100000
def Ca8.rep (a : Ca8) : List Value := (fun n : Int => [.int .i64 n]) a.kind ++ (fun n : Int => [.int .i64 n]) a.v ++ (fun s : ByteArray => [.string s]) a.key ++ (fun s : ByteArray => [.string s]) a.frm ++ (fun n : Int => [.int .i64 n]) a.n
structure Ca8.ok (W : World) (a : Ca8) : Prop where
  kind : (fun n : Int => IntKind.i64.min ≤ n ∧ n ≤ IntKind.i64.max) a.kind
  v : (fun n : Int => IntKind.i64.min ≤ n ∧ n ≤ IntKind.i64.max) a.v
  key : (fun s : ByteArray => s.size ≤ maxLen) a.key
  frm : (fun s : ByteArray => s.size ≤ maxLen) a.frm
  n : (fun n : Int => IntKind.i64.min ≤ n ∧ n ≤ IntKind.i64.max) a.n
set_option maxRecDepth 100000 in
theorem rd_Ca8 {H : Type} {enc : TypeId × Value → H} {W : World} {base : Nat} {held : Bool} : Rd enc Try.prog W base held 58 Ca8.rep (Ca8.ok W) := fun n cs x h => by
  obtain ⟨xs, n1, _, _, hlen, hx, hf⟩ := DataW.trod_struct Try.underlying58 h
  rw [show Try.prog.cellsOf 58 = 5 by kernel_rfl] at hlen
  have f0 : DataW.trod enc Try.prog W base (fun _ => true) held n1 3 ((cs.drop 0).take (Try.prog.cellsOf 3)) = xs[0]? := hf 0 _ rfl
  rw [show Try.prog.cellsOf 3 = 1 by kernel_rfl] at f0
  obtain ⟨y0, h0⟩ := at_some2 hx (by decide) f0
  obtain ⟨g0, a0, e0, w0⟩ := (rd_int Try.underlying3 : Rd _ _ _ _ _ _ (fun n : Int => [.int .i64 n]) (fun n : Int => IntKind.i64.min ≤ n ∧ n ≤ IntKind.i64.max)) _ _ _ h0
  have f1 : DataW.trod enc Try.prog W base (fun _ => true) held n1 3 ((cs.drop 1).take (Try.prog.cellsOf 3)) = xs[1]? := hf 1 _ rfl
  rw [show Try.prog.cellsOf 3 = 1 by kernel_rfl] at f1
  obtain ⟨y1, h1⟩ := at_some2 hx (by decide) f1
  obtain ⟨g1, a1, e1, w1⟩ := (rd_int Try.underlying3 : Rd _ _ _ _ _ _ (fun n : Int => [.int .i64 n]) (fun n : Int => IntKind.i64.min ≤ n ∧ n ≤ IntKind.i64.max)) _ _ _ h1
  have f2 : DataW.trod enc Try.prog W base (fun _ => true) held n1 9 ((cs.drop 2).take (Try.prog.cellsOf 9)) = xs[2]? := hf 2 _ rfl
  rw [show Try.prog.cellsOf 9 = 1 by kernel_rfl] at f2
  obtain ⟨y2, h2⟩ := at_some2 hx (by decide) f2
  obtain ⟨g2, a2, e2, w2⟩ := (rd_string Try.underlying9 : Rd _ _ _ _ _ _ (fun s : ByteArray => [.string s]) (fun s : ByteArray => s.size ≤ maxLen)) _ _ _ h2
  have f3 : DataW.trod enc Try.prog W base (fun _ => true) held n1 9 ((cs.drop 3).take (Try.prog.cellsOf 9)) = xs[3]? := hf 3 _ rfl
  rw [show Try.prog.cellsOf 9 = 1 by kernel_rfl] at f3
  obtain ⟨y3, h3⟩ := at_some2 hx (by decide) f3
  obtain ⟨g3, a3, e3, w3⟩ := (rd_string Try.underlying9 : Rd _ _ _ _ _ _ (fun s : ByteArray => [.string s]) (fun s : ByteArray => s.size ≤ maxLen)) _ _ _ h3
  have f4 : DataW.trod enc Try.prog W base (fun _ => true) held n1 3 ((cs.drop 4).take (Try.prog.cellsOf 3)) = xs[4]? := hf 4 _ rfl
  rw [show Try.prog.cellsOf 3 = 1 by kernel_rfl] at f4
  obtain ⟨y4, h4⟩ := at_some2 hx (by decide) f4
  obtain ⟨g4, a4, e4, w4⟩ := (rd_int Try.underlying3 : Rd _ _ _ _ _ _ (fun n : Int => [.int .i64 n]) (fun n : Int => IntKind.i64.min ≤ n ∧ n ≤ IntKind.i64.max)) _ _ _ h4
  match cs, hlen with
  | [c0, c1, c2, c3, c4], _ =>
    simp [Sl.rep, Ca8.rep] at e0 g0
    simp [Sl.rep, Ca8.rep] at e1 g1
    simp [Sl.rep, Ca8.rep] at e2 g2
    simp [Sl.rep, Ca8.rep] at e3 g3
    simp [Sl.rep, Ca8.rep] at e4 g4
    exact ⟨by simp [*, Value.oneCell'], ⟨a0, a1, a2, a3, a4⟩, by simp [Sl.rep, Ca8.rep, *], ⟨w0, w1, w2, w3, w4⟩⟩
/- quidnunc/quidnunclaw08.TablePlays -/
noncomputable def c5_1 : ACode := .region false [⟨some 4, .move, [.c (.val (.bool false))], none⟩] [] [] [0, 1] false [] []
noncomputable def c5_4 : ACode := .region false [⟨some 20, .call 7, [], none⟩,
  ⟨some 21, .un .not, [.t 20], none⟩,
  ⟨some 22, .move, [.t 21], none⟩,
  ⟨some 23, .move, [.t 1], some (some 22, false)⟩,
  ⟨some 24, .call 19, [.t 23], some (some 22, false)⟩,
  ⟨some 25, .un .not, [.t 24], some (some 22, false)⟩,
  ⟨some 26, .pick, [.t 22, .c (.val (.bool true)), .t 25], none⟩] [] [] [0, 1, 26] true [] []
noncomputable def c5_7 : ACode := .region false [⟨some 27, .call 7, [], none⟩,
  ⟨some 4, .move, [.t 27], none⟩] [] [] [4] true [] []
noncomputable def c5_6 : ACode := .seq c5_7 .ret
noncomputable def c5_5 : ACode := .cond (.t 26) c5_6 .skip
noncomputable def c5_3 : ACode := .seq c5_4 c5_5
noncomputable def c5_9 : ACode := .region false [⟨some 29, .move, [.t 0], none⟩,
  ⟨some 30, .call 14, [.t 29], none⟩,
  ⟨some 28, .move, [.t 30], none⟩,
  ⟨some 31, .ext 0, [.t 28], none⟩,
  ⟨some 32, .ext 1, [.t 28], none⟩,
  ⟨some 5, .move, [.t 31], none⟩,
  ⟨some 6, .move, [.t 32], none⟩] [] [] [0, 1, 5, 6] true [] []
noncomputable def c5_11 : ACode := .region false [⟨some 34, .move, [.t 0], none⟩,
  ⟨some 35, .call 20, [.t 34], none⟩,
  ⟨some 33, .move, [.t 35], none⟩,
  ⟨some 36, .ext 0, [.t 33], none⟩,
  ⟨some 37, .ext 1, [.t 33], none⟩,
  ⟨some 7, .alloc [(.int .i64 0), (.slice none 0 0)], [], none⟩,
  ⟨none, .store 2, [.t 7, .t 36], none⟩,
  ⟨some 8, .move, [.t 37], none⟩] [] [] [1, 5, 6, 7, 8] true [] []
noncomputable def c5_14 : ACode := .region false [⟨some 38, .move, [.t 6], none⟩,
  ⟨some 39, .move, [.t 8], none⟩,
  ⟨some 40, .bin .neq, [.t 38, .t 39], none⟩,
  ⟨some 41, .move, [.t 40], none⟩,
  ⟨some 42, .move, [.t 5], some (some 41, false)⟩,
  ⟨some 43, .eqP true, [.t 42, .c (.val (.pointer none))], some (some 41, false)⟩,
  ⟨some 44, .move, [.t 8], some (some 41, false)⟩,
  ⟨some 45, .bin .eql, [.t 44, .c (.val (.int .i64 0))], some (some 41, false)⟩,
  ⟨some 46, .eqB true, [.t 43, .t 45], some (some 41, false)⟩,
  ⟨some 47, .pick, [.t 41, .c (.val (.bool true)), .t 46], none⟩] [] [] [1, 5, 7, 47] false [] []
noncomputable def c5_17 : ACode := .region false [⟨some 4, .move, [.c (.val (.bool false))], none⟩] [] [] [4] false [] []
noncomputable def c5_16 : ACode := .seq c5_17 .ret
noncomputable def c5_15 : ACode := .cond (.t 47) c5_16 .skip
noncomputable def c5_13 : ACode := .seq c5_14 c5_15
noncomputable def c5_20 : ACode := .region false [⟨some 48, .move, [.t 5], none⟩,
  ⟨some 49, .eqP false, [.t 48, .c (.val (.pointer none))], none⟩] [] [] [1, 5, 7, 49] false [] []
noncomputable def c5_23 : ACode := .region false [⟨some 4, .move, [.c (.val (.bool true))], none⟩] [] [] [4] false [] []
noncomputable def c5_22 : ACode := .seq c5_23 .ret
noncomputable def c5_21 : ACode := .cond (.t 49) c5_22 .skip
noncomputable def c5_19 : ACode := .seq c5_20 c5_21
noncomputable def c5_26 : ACode := .region false [⟨some 50, .move, [.t 1], none⟩,
  ⟨some 51, .len, [.t 50], none⟩,
  ⟨some 52, .move, [.c (.val (.int .i64 0))], none⟩] [] [] [5, 7, 50, 51, 52] false [] []
noncomputable def c5_30 : ACode := .region false [⟨some 53, .bin .lss, [.t 52, .t 51], none⟩] [] [] [5, 7, 50, 51, 52, 53] false [] []
noncomputable def c5_32 : ACode := .cond (.t 53) .skip (.exit 0)
noncomputable def c5_36 : ACode := .region false [⟨some 54, .ixS 5, [.t 50, .t 52], none⟩,
  ⟨some 55, .load true 5, [.t 54], none⟩,
  ⟨some 10, .alloc [(.int .i64 0), (.int .i64 0), (.string ⟨#[]⟩), (.string ⟨#[]⟩), (.int .i64 0)], [], none⟩,
  ⟨none, .store 5, [.t 10, .t 55], none⟩] [] [] [5, 7, 10, 50, 51, 52] true [] []
noncomputable def c5_38 : ACode := .region false [⟨some 57, .move, [.t 5], none⟩,
  ⟨some 58, .load true 2, [.t 7], none⟩,
  ⟨some 59, .load true 5, [.t 10], none⟩,
  ⟨some 60, .call 21, [.t 57, .t 58, .t 59], none⟩,
  ⟨some 56, .move, [.t 60], none⟩,
  ⟨some 61, .ext 0, [.t 56], none⟩,
  ⟨some 62, .ext 1, [.t 56], none⟩,
  ⟨some 11, .alloc [(.int .i64 0), (.slice none 0 0)], [], none⟩,
  ⟨none, .store 2, [.t 11, .t 61], none⟩,
  ⟨some 12, .move, [.t 62], none⟩] [] [] [5, 7, 10, 11, 12, 50, 51, 52] true [] []
noncomputable def c5_40 : ACode := .region false [⟨some 63, .load true 2, [.t 11], none⟩,
  ⟨none, .store 2, [.t 7, .t 63], none⟩] [] [] [5, 7, 10, 12, 50, 51, 52] true [] []
noncomputable def c5_43 : ACode := .region true [⟨some 64, .move, [.t 12], none⟩,
  ⟨some 65, .un .not, [.t 64], none⟩,
  ⟨some 66, .move, [.t 65], none⟩,
  ⟨some 67, .move, [.t 5], some (some 66, false)⟩,
  ⟨some 68, .load true 2, [.t 7], some (some 66, false)⟩,
  ⟨some 69, .call 22, [.t 67, .t 68], some (some 66, false)⟩,
  ⟨some 70, .un .not, [.t 69], some (some 66, false)⟩,
  ⟨some 71, .pick, [.t 66, .c (.val (.bool true)), .t 70], none⟩,
  ⟨some 72, .move, [.t 71], none⟩,
  ⟨some 73, .move, [.t 5], some (some 72, false)⟩,
  ⟨some 74, .addr 3, [.t 10], some (some 72, false)⟩,
  ⟨some 75, .load false 1, [.t 74], some (some 72, false)⟩,
  ⟨some 76, .call 17, [.t 73, .t 75], some (some 72, false)⟩,
  ⟨some 77, .load true 2, [.t 7], some (some 72, false)⟩,
  ⟨some 78, .addr 3, [.t 10], some (some 72, false)⟩,
  ⟨some 79, .load false 1, [.t 78], some (some 72, false)⟩,
  ⟨some 80, .call 23, [.t 77, .t 79], some (some 72, false)⟩,
  ⟨some 81, .bin .neq, [.t 76, .t 80], some (some 72, false)⟩,
  ⟨some 82, .pick, [.t 72, .c (.val (.bool true)), .t 81], none⟩] [] [] [5, 7, 10, 50, 51, 52, 82] true [] []
noncomputable def c5_46 : ACode := .region false [⟨some 4, .move, [.c (.val (.bool false))], none⟩] [] [] [4] false [] []
noncomputable def c5_45 : ACode := .seq c5_46 .ret
noncomputable def c5_44 : ACode := .cond (.t 82) c5_45 .skip
noncomputable def c5_42 : ACode := .seq c5_43 c5_44
noncomputable def c5_48 : ACode := .region false [⟨some 84, .move, [.t 5], none⟩,
  ⟨some 85, .addr 3, [.t 10], none⟩,
  ⟨some 86, .load false 1, [.t 85], none⟩,
  ⟨some 87, .call 24, [.t 84, .t 86], none⟩,
  ⟨some 83, .move, [.t 87], none⟩,
  ⟨some 88, .ext 0, [.t 83], none⟩,
  ⟨some 89, .ext 1, [.t 83], none⟩,
  ⟨some 13, .move, [.t 88], none⟩,
  ⟨some 14, .move, [.t 89], none⟩] [] [] [5, 7, 10, 13, 14, 50, 51, 52] true [] []
noncomputable def c5_50 : ACode := .region false [⟨some 90, .load true 2, [.t 7], none⟩,
  ⟨some 91, .addr 3, [.t 10], none⟩,
  ⟨some 92, .load false 1, [.t 91], none⟩,
  ⟨some 93, .call 25, [.t 90, .t 92], none⟩,
  ⟨some 15, .move, [.t 93], none⟩] [] [] [5, 7, 10, 13, 14, 15, 50, 51, 52] true [] []
noncomputable def c5_53 : ACode := .region false [⟨some 94, .move, [.t 14], none⟩,
  ⟨some 95, .move, [.t 15], none⟩,
  ⟨some 96, .bin .geq, [.t 95, .c (.val (.int .i64 0))], none⟩,
  ⟨some 97, .eqB true, [.t 94, .t 96], none⟩,
  ⟨some 98, .move, [.t 97], none⟩,
  ⟨some 99, .move, [.t 14], some (some 98, false)⟩,
  ⟨some 100, .move, [.t 99], some (some 98, false)⟩,
  ⟨some 101, .move, [.t 13], some (some 100, true)⟩,
  ⟨some 102, .addr 1, [.t 7], some (some 100, true)⟩,
  ⟨some 103, .load false 1, [.t 102], some (some 100, true)⟩,
  ⟨some 104, .move, [.t 15], some (some 100, true)⟩,
  ⟨some 105, .ixS 2, [.t 103, .t 104], some (some 100, true)⟩,
  ⟨some 106, .addr 1, [.t 105], some (some 100, true)⟩,
  ⟨some 107, .load false 1, [.t 106], some (some 100, true)⟩,
  ⟨some 108, .bin .neq, [.t 101, .t 107], some (some 100, true)⟩,
  ⟨some 109, .pick, [.t 100, .t 108, .c (.val (.bool false))], some (some 98, false)⟩,
  ⟨some 110, .pick, [.t 98, .c (.val (.bool true)), .t 109], none⟩,
  ⟨some 111, .move, [.t 110], none⟩,
  ⟨some 112, .move, [.t 14], some (some 111, false)⟩,
  ⟨some 113, .un .not, [.t 112], some (some 111, false)⟩,
  ⟨some 114, .move, [.t 113], some (some 111, false)⟩,
  ⟨some 115, .move, [.t 13], some (some 114, true)⟩,
  ⟨some 116, .bin .neq, [.t 115, .c (.val (.int .i64 0))], some (some 114, true)⟩,
  ⟨some 117, .pick, [.t 114, .t 116, .c (.val (.bool false))], some (some 111, false)⟩,
  ⟨some 118, .pick, [.t 111, .c (.val (.bool true)), .t 117], none⟩] [] [] [5, 7, 10, 50, 51, 52, 118] false [] []
noncomputable def c5_56 : ACode := .region false [⟨some 4, .move, [.c (.val (.bool false))], none⟩] [] [] [4] false [] []
noncomputable def c5_55 : ACode := .seq c5_56 .ret
noncomputable def c5_54 : ACode := .cond (.t 118) c5_55 .skip
noncomputable def c5_52 : ACode := .seq c5_53 c5_54
noncomputable def c5_58 : ACode := .region true [⟨some 119, .move, [.t 5], none⟩,
  ⟨some 120, .addr 3, [.t 10], none⟩,
  ⟨some 121, .load false 1, [.t 120], none⟩,
  ⟨some 122, .addr 4, [.t 10], none⟩,
  ⟨some 123, .load false 1, [.t 122], none⟩,
  ⟨some 124, .call 16, [.t 119, .t 121, .t 123], none⟩,
  ⟨some 125, .load true 2, [.t 7], none⟩,
  ⟨some 126, .addr 3, [.t 10], none⟩,
  ⟨some 127, .load false 1, [.t 126], none⟩,
  ⟨some 128, .addr 4, [.t 10], none⟩,
  ⟨some 129, .load false 1, [.t 128], none⟩,
  ⟨some 130, .call 26, [.t 125, .t 127, .t 129], none⟩,
  ⟨some 16, .move, [.t 124], none⟩,
  ⟨some 17, .move, [.t 130], none⟩] [] [] [5, 7, 16, 17, 50, 51, 52] true [] []
noncomputable def c5_61 : ACode := .region false [⟨some 131, .move, [.t 16], none⟩,
  ⟨some 132, .len, [.t 131], none⟩,
  ⟨some 133, .move, [.t 17], none⟩,
  ⟨some 134, .len, [.t 133], none⟩,
  ⟨some 135, .bin .neq, [.t 132, .t 134], none⟩] [] [] [5, 7, 16, 17, 50, 51, 52, 135] false [] []
noncomputable def c5_64 : ACode := .region false [⟨some 4, .move, [.c (.val (.bool false))], none⟩] [] [] [4] false [] []
noncomputable def c5_63 : ACode := .seq c5_64 .ret
noncomputable def c5_62 : ACode := .cond (.t 135) c5_63 .skip
noncomputable def c5_60 : ACode := .seq c5_61 c5_62
noncomputable def c5_66 : ACode := .region false [⟨some 136, .move, [.t 17], none⟩,
  ⟨some 137, .len, [.t 136], none⟩,
  ⟨some 138, .move, [.c (.val (.int .i64 0))], none⟩] [] [] [5, 7, 16, 50, 51, 52, 136, 137, 138] false [] []
noncomputable def c5_70 : ACode := .region false [⟨some 139, .bin .lss, [.t 138, .t 137], none⟩] [] [] [5, 7, 16, 50, 51, 52, 136, 137, 138, 139] false [] []
noncomputable def c5_72 : ACode := .cond (.t 139) .skip (.exit 2)
noncomputable def c5_76 : ACode := .region false [⟨some 140, .move, [.t 138], none⟩,
  ⟨some 141, .ixS 2, [.t 136, .t 138], none⟩,
  ⟨some 142, .load true 2, [.t 141], none⟩,
  ⟨some 19, .alloc [(.string ⟨#[]⟩), (.int .i64 0)], [], none⟩,
  ⟨some 18, .move, [.t 140], none⟩,
  ⟨none, .store 2, [.t 19, .t 142], none⟩] [] [] [5, 7, 16, 18, 19, 50, 51, 52, 136, 137, 138] true [] []
noncomputable def c5_78 : ACode := .region true [⟨some 143, .move, [.t 16], none⟩,
  ⟨some 144, .move, [.t 18], none⟩,
  ⟨some 145, .ixS 2, [.t 143, .t 144], none⟩,
  ⟨some 146, .addr 0, [.t 145], none⟩,
  ⟨some 147, .load false 1, [.t 146], none⟩,
  ⟨some 148, .addr 0, [.t 19], none⟩,
  ⟨some 149, .load false 1, [.t 148], none⟩,
  ⟨some 150, .bin .neq, [.t 147, .t 149], none⟩,
  ⟨some 151, .move, [.t 150], none⟩,
  ⟨some 152, .move, [.t 16], some (some 151, false)⟩,
  ⟨some 153, .move, [.t 18], some (some 151, false)⟩,
  ⟨some 154, .ixS 2, [.t 152, .t 153], some (some 151, false)⟩,
  ⟨some 155, .addr 1, [.t 154], some (some 151, false)⟩,
  ⟨some 156, .load false 1, [.t 155], some (some 151, false)⟩,
  ⟨some 157, .addr 1, [.t 19], some (some 151, false)⟩,
  ⟨some 158, .load false 1, [.t 157], some (some 151, false)⟩,
  ⟨some 159, .bin .neq, [.t 156, .t 158], some (some 151, false)⟩,
  ⟨some 160, .pick, [.t 151, .c (.val (.bool true)), .t 159], none⟩] [] [] [5, 7, 16, 50, 51, 52, 136, 137, 138, 160] false [] []
noncomputable def c5_81 : ACode := .region false [⟨some 4, .move, [.c (.val (.bool false))], none⟩] [] [] [4] false [] []
noncomputable def c5_80 : ACode := .seq c5_81 .ret
noncomputable def c5_79 : ACode := .cond (.t 160) c5_80 .skip
noncomputable def c5_77 : ACode := .seq c5_78 c5_79
noncomputable def c5_75 : ACode := .seq c5_76 c5_77
noncomputable def c5_74 : ACode := .block 3 c5_75
noncomputable def c5_82 : ACode := .region false [⟨some 161, .bin .add, [.t 138, .c (.val (.int .i64 1))], none⟩,
  ⟨some 138, .move, [.t 161], none⟩] [] [] [5, 7, 16, 50, 51, 52, 136, 137, 138] false [] []
noncomputable def c5_73 : ACode := .seq c5_74 c5_82
noncomputable def c5_71 : ACode := .seq c5_72 c5_73
noncomputable def c5_69 : ACode := .seq c5_70 c5_71
noncomputable def c5_68 : ACode := .loop c5_69
noncomputable def c5_67 : ACode := .block 2 c5_68
noncomputable def c5_65 : ACode := .seq c5_66 c5_67
noncomputable def c5_59 : ACode := .seq c5_60 c5_65
noncomputable def c5_57 : ACode := .seq c5_58 c5_59
noncomputable def c5_51 : ACode := .seq c5_52 c5_57
noncomputable def c5_49 : ACode := .seq c5_50 c5_51
noncomputable def c5_47 : ACode := .seq c5_48 c5_49
noncomputable def c5_41 : ACode := .seq c5_42 c5_47
noncomputable def c5_39 : ACode := .seq c5_40 c5_41
noncomputable def c5_37 : ACode := .seq c5_38 c5_39
noncomputable def c5_35 : ACode := .seq c5_36 c5_37
noncomputable def c5_34 : ACode := .block 1 c5_35
noncomputable def c5_83 : ACode := .region false [⟨some 162, .bin .add, [.t 52, .c (.val (.int .i64 1))], none⟩,
  ⟨some 52, .move, [.t 162], none⟩] [] [] [5, 7, 50, 51, 52] false [] []
noncomputable def c5_33 : ACode := .seq c5_34 c5_83
noncomputable def c5_31 : ACode := .seq c5_32 c5_33
noncomputable def c5_29 : ACode := .seq c5_30 c5_31
noncomputable def c5_28 : ACode := .loop c5_29
noncomputable def c5_27 : ACode := .block 0 c5_28
noncomputable def c5_25 : ACode := .seq c5_26 c5_27
noncomputable def c5_85 : ACode := .region false [⟨some 4, .move, [.c (.val (.bool true))], none⟩] [] [] [4] false [] []
noncomputable def c5_84 : ACode := .seq c5_85 .ret
noncomputable def c5_24 : ACode := .seq c5_25 c5_84
noncomputable def c5_18 : ACode := .seq c5_19 c5_24
noncomputable def c5_12 : ACode := .seq c5_13 c5_18
noncomputable def c5_10 : ACode := .seq c5_11 c5_12
noncomputable def c5_8 : ACode := .seq c5_9 c5_10
noncomputable def c5_2 : ACode := .seq c5_3 c5_8
noncomputable def c5_0 : ACode := .seq c5_1 c5_2
noncomputable def code5 : Code := (Try.f5.body).getD .skip
theorem c5_ok : compC Try.prog 163 code5 = some (strip c5_0) := by kernel_rfl
theorem res5_ok : Try.f5.results.toList.mapM (resC Try.prog) = some [(4, none)] := by kernel_rfl
theorem tablePlays_walk (W : World) (room : Int) (sl : Sl Ca8) (hz : Sl.ok W 5 Ca8.rep (Ca8.ok W) sl) :
    Calls Try.prog 5 #[.int .i64 room, .slice sl.ad sl.l.length sl.cap] W fun e W' => e = .returned (.bool true) ∧ Below W.heap.size W W' := by
  obtain ⟨ad, off, cap, l⟩ := sl
  obtain ⟨hz, -, hl⟩ := hz
  have hl : l.length ≤ 9223372036854775807 := by simpa [maxLen] using hl
  simp only at hz
  have hr : ∀ ρ, renL ρ (rowsC off CaL l) = rowsC off CaL l := fun ρ => rowsC_ren (fun ρ x => by simp [renL, ren]) ρ l
  have hL : (rowsC off CaL l).length = off + l.length * 5 := rowsC_len (f := CaL) (k := 5) (fun _ => rfl) l
  have hf := few_any off l hl
  cases hs : fewB l with
  | false =>
    rw [hs] at hf
    refine top_call c5_ok Try.func5 rfl Try.ntmps5 res5_ok [ .val (.int .i64 room), .val (.slice ad l.length cap)] (by simp) (by (repeat' (first | exact VRs_nil' _ | exact VR_val' _ _ | (refine VRs_cons' ?_ ?_) | (refine VR_agg' (by first | rfl | assumption) ?_; first | assumption | simp [Value.oneCell', Ca8.rep])))) ?_; try simp (maxSteps := 9999999) (disch := omega) only [go_sem]
    refine AWpA.thawT 1 CaL hz (fun x => by simp [Ca8.rep]) rfl ?_
    (repeat' (first | refine AWpA.seq ?_ | refine AWpA.block ?_ | (with_reducible refine CondP.tt ?_) | (with_reducible refine CondP.ff ?_) | refine AWpA.condv (by simp (maxSteps := 9999999) (disch := omega) only [go_sem, hr]; rfl) ?_ | ((first | (apply AWpA.region; (focus (simp (maxSteps := 9999999) (disch := omega) only [go_sem, hr]; rfl))) | (apply AWpA.draw [] [] follows; (focus (first | rfl | decide)); (focus (simp (maxSteps := 9999999) (disch := omega) only [go_sem, hr]; rfl)); (focus (simp (maxSteps := 9999999) (disch := omega) only [go_sem, hr]; first | done | trivial)); (focus (simp (maxSteps := 9999999) (disch := omega) only [go_sem, hr]; rfl))) | (apply TailK.go; (focus (simp (maxSteps := 9999999) (disch := omega) only [go_sem, hr]; rfl))) | refine AWpA.skip ?_ | refine AWpA.exit ?_ | refine AWpA.ret ?_ | (with_reducible refine ARoundsA.succ ?_) | ((first | refine Runs.kt (by assumption) (fun h9 => ?_) | refine Runs.kf (by assumption) (fun h9 => ?_) | refine Runs.nt (by assumption) (fun h9 => ?_) | refine Runs.nf (by assumption) (fun h9 => ?_) | refine CondP.ht (by assumption) (fun h9 => ?_) | refine CondP.hf (by assumption) (fun h9 => ?_) | refine CondP.nt (by assumption) (fun h9 => ?_) | refine CondP.nf (by assumption) (fun h9 => ?_)); (try simp only [h9]); clear h9) | ((first | (with_reducible apply CallG.plain1 [] (speaks_any)) | (with_reducible apply CallG.draw1 [] (speaks_any))); (focus ((try refine And.intro (leAs_of_eq rfl) ?_); (try refine And.intro (leOL_of_eq rfl) ?_); simp (maxSteps := 9999999) (disch := omega) only [go_sem, hr]; first | done | (repeat' (first | rfl | (refine And.intro ?_ ?_))))); (focus (simp (maxSteps := 9999999) (disch := omega) only [go_sem, hr]; rfl))) | ((first | (with_reducible apply CallG.plain1 [0] (hf)) | (with_reducible apply CallG.draw1 [0] (hf))); (focus ((try refine And.intro (leAs_of_eq rfl) ?_); (try refine And.intro (leOL_of_eq rfl) ?_); simp (maxSteps := 9999999) (disch := omega) only [go_sem, hr]; first | done | (repeat' (first | rfl | (refine And.intro ?_ ?_))))); (focus (simp (maxSteps := 9999999) (disch := omega) only [go_sem, hr]; rfl)))); (try simp (maxSteps := 9999999) (disch := omega) only [go_sem, hr]); (try (refine And.intro ?_ ?_; (focus (first | omega | (simp only [go_sem]; done) | (simp; done) | (simp; omega) | assumption))))) | ((first | refine CondP.split (fun hif => ?_) (fun hif => ?_) | refine Runs.part (fun hif => ?_) (fun hif => ?_)) <;> ((try simp only [hif]); (try simp only [decide_eq_true_eq, decide_eq_false_iff_not, Bool.not_eq_true, Bool.not_eq_false, Bool.not_eq_true', Bool.not_eq_false', beq_iff_eq, bne_iff_ne, bne_eq_false_iff_eq, beq_eq_false_iff_ne, ne_eq, Bool.and_eq_true, Bool.or_eq_true, Bool.or_eq_false_iff] at hif); (try (have h9 : _ = true := hif; simp only [h9])); (try (have h9 : _ = false := hif; simp only [h9])); (try simp (maxSteps := 9999999) (disch := omega) only [go_sem, hr]); (try (refine And.intro ?_ ?_; (focus (first | omega | (simp only [go_sem]; done) | (simp; done) | (simp; omega) | assumption)))); (try (exfalso; omega; done))))))
    (refine TopPost.of (by first | exact .inl rfl | exact .inr rfl) (by (try simp (maxSteps := 9999999) (disch := omega) only [go_sem]); rfl) ?_; (try simp (maxSteps := 9999999) (disch := omega) only [go_sem]); (try (first | trivial | decide | (simp; done))))
  | true =>
  rw [hs] at hf
  by_cases hroom : room < 1 ∨ 4096 < room
  · have n1 := tnew_bad room hroom
    have n2 := rnew_any room
    rw [decide_eq_true hroom] at n2
    refine top_call c5_ok Try.func5 rfl Try.ntmps5 res5_ok [ .val (.int .i64 room), .val (.slice ad l.length cap)] (by simp) (by (repeat' (first | exact VRs_nil' _ | exact VR_val' _ _ | (refine VRs_cons' ?_ ?_) | (refine VR_agg' (by first | rfl | assumption) ?_; first | assumption | simp [Value.oneCell', Ca8.rep])))) ?_; try simp (maxSteps := 9999999) (disch := omega) only [go_sem]
    refine AWpA.thawT 1 CaL hz (fun x => by simp [Ca8.rep]) rfl ?_
    (repeat' (first | refine AWpA.seq ?_ | refine AWpA.block ?_ | (with_reducible refine CondP.tt ?_) | (with_reducible refine CondP.ff ?_) | refine AWpA.condv (by simp (maxSteps := 9999999) (disch := omega) only [go_sem, hr]; rfl) ?_ | ((first | (apply AWpA.region; (focus (simp (maxSteps := 9999999) (disch := omega) only [go_sem, hr]; rfl))) | (apply AWpA.draw [] [] follows; (focus (first | rfl | decide)); (focus (simp (maxSteps := 9999999) (disch := omega) only [go_sem, hr]; rfl)); (focus (simp (maxSteps := 9999999) (disch := omega) only [go_sem, hr]; first | done | trivial)); (focus (simp (maxSteps := 9999999) (disch := omega) only [go_sem, hr]; rfl))) | (apply TailK.go; (focus (simp (maxSteps := 9999999) (disch := omega) only [go_sem, hr]; rfl))) | refine AWpA.skip ?_ | refine AWpA.exit ?_ | refine AWpA.ret ?_ | (with_reducible refine ARoundsA.succ ?_) | ((first | refine Runs.kt (by assumption) (fun h9 => ?_) | refine Runs.kf (by assumption) (fun h9 => ?_) | refine Runs.nt (by assumption) (fun h9 => ?_) | refine Runs.nf (by assumption) (fun h9 => ?_) | refine CondP.ht (by assumption) (fun h9 => ?_) | refine CondP.hf (by assumption) (fun h9 => ?_) | refine CondP.nt (by assumption) (fun h9 => ?_) | refine CondP.nf (by assumption) (fun h9 => ?_)); (try simp only [h9]); clear h9) | ((first | (with_reducible apply CallG.plain1 [] (speaks_any)) | (with_reducible apply CallG.draw1 [] (speaks_any))); (focus ((try refine And.intro (leAs_of_eq rfl) ?_); (try refine And.intro (leOL_of_eq rfl) ?_); simp (maxSteps := 9999999) (disch := omega) only [go_sem, hr]; first | done | (repeat' (first | rfl | (refine And.intro ?_ ?_))))); (focus (simp (maxSteps := 9999999) (disch := omega) only [go_sem, hr]; rfl))) | ((first | (with_reducible apply CallG.plain1 [0] (hf)) | (with_reducible apply CallG.draw1 [0] (hf))); (focus ((try refine And.intro (leAs_of_eq rfl) ?_); (try refine And.intro (leOL_of_eq rfl) ?_); simp (maxSteps := 9999999) (disch := omega) only [go_sem, hr]; first | done | (repeat' (first | rfl | (refine And.intro ?_ ?_))))); (focus (simp (maxSteps := 9999999) (disch := omega) only [go_sem, hr]; rfl))) | ((first | (with_reducible apply CallG.plain1 [] (n1)) | (with_reducible apply CallG.draw1 [] (n1))); (focus ((try refine And.intro (leAs_of_eq rfl) ?_); (try refine And.intro (leOL_of_eq rfl) ?_); simp (maxSteps := 9999999) (disch := omega) only [go_sem, hr]; first | done | (repeat' (first | rfl | (refine And.intro ?_ ?_))))); (focus (simp (maxSteps := 9999999) (disch := omega) only [go_sem, hr]; rfl))) | ((first | (with_reducible apply CallG.plain1 [] (n2)) | (with_reducible apply CallG.draw1 [] (n2))); (focus ((try refine And.intro (leAs_of_eq rfl) ?_); (try refine And.intro (leOL_of_eq rfl) ?_); simp (maxSteps := 9999999) (disch := omega) only [go_sem, hr]; first | done | (repeat' (first | rfl | (refine And.intro ?_ ?_))))); (focus (simp (maxSteps := 9999999) (disch := omega) only [go_sem, hr]; rfl)))); (try simp (maxSteps := 9999999) (disch := omega) only [go_sem, hr]); (try (refine And.intro ?_ ?_; (focus (first | omega | (simp only [go_sem]; done) | (simp; done) | (simp; omega) | assumption))))) | ((first | refine CondP.split (fun hif => ?_) (fun hif => ?_) | refine Runs.part (fun hif => ?_) (fun hif => ?_)) <;> ((try simp only [hif]); (try simp only [decide_eq_true_eq, decide_eq_false_iff_not, Bool.not_eq_true, Bool.not_eq_false, Bool.not_eq_true', Bool.not_eq_false', beq_iff_eq, bne_iff_ne, bne_eq_false_iff_eq, beq_eq_false_iff_ne, ne_eq, Bool.and_eq_true, Bool.or_eq_true, Bool.or_eq_false_iff] at hif); (try (have h9 : _ = true := hif; simp only [h9])); (try (have h9 : _ = false := hif; simp only [h9])); (try simp (maxSteps := 9999999) (disch := omega) only [go_sem, hr]); (try (refine And.intro ?_ ?_; (focus (first | omega | (simp only [go_sem]; done) | (simp; done) | (simp; omega) | assumption)))); (try (exfalso; omega; done))))))
    (refine TopPost.of (by first | exact .inl rfl | exact .inr rfl) (by (try simp (maxSteps := 9999999) (disch := omega) only [go_sem]); rfl) ?_; (try simp (maxSteps := 9999999) (disch := omega) only [go_sem]); (try (first | trivial | decide | (simp; done))))
  have n1 := tnew_ok room hroom
  have n2 := rnew_any room
  rw [decide_eq_false hroom] at n2
  have h60 : l.length ≤ 60 := by unfold fewB at hs; simp at hs; exact hs.2
  clear hs
  refine top_call c5_ok Try.func5 rfl Try.ntmps5 res5_ok [ .val (.int .i64 room), .val (.slice ad l.length cap)] (by simp) (by (repeat' (first | exact VRs_nil' _ | exact VR_val' _ _ | (refine VRs_cons' ?_ ?_) | (refine VR_agg' (by first | rfl | assumption) ?_; first | assumption | simp [Value.oneCell', Ca8.rep])))) ?_; try simp (maxSteps := 9999999) (disch := omega) only [go_sem]
  refine AWpA.thawT 1 CaL hz (fun x => by simp [Ca8.rep]) rfl ?_
  refine AWpA.dummy ?_
  refine AWpA.dummy ?_
  (repeat' (first | refine AWpA.seq ?_ | refine AWpA.block ?_ | (with_reducible refine CondP.tt ?_) | (with_reducible refine CondP.ff ?_) | refine AWpA.condv (by simp (maxSteps := 9999999) (disch := omega) only [go_sem, hr]; rfl) ?_ | ((first | (apply AWpA.region; (focus (simp (maxSteps := 9999999) (disch := omega) only [go_sem, hr]; rfl))) | (apply AWpA.draw [] [] follows; (focus (first | rfl | decide)); (focus (simp (maxSteps := 9999999) (disch := omega) only [go_sem, hr]; rfl)); (focus (simp (maxSteps := 9999999) (disch := omega) only [go_sem, hr]; first | done | trivial)); (focus (simp (maxSteps := 9999999) (disch := omega) only [go_sem, hr]; rfl))) | (apply TailK.go; (focus (simp (maxSteps := 9999999) (disch := omega) only [go_sem, hr]; rfl))) | refine AWpA.skip ?_ | refine AWpA.exit ?_ | refine AWpA.ret ?_ | (with_reducible refine ARoundsA.succ ?_) | ((first | refine Runs.kt (by assumption) (fun h9 => ?_) | refine Runs.kf (by assumption) (fun h9 => ?_) | refine Runs.nt (by assumption) (fun h9 => ?_) | refine Runs.nf (by assumption) (fun h9 => ?_) | refine CondP.ht (by assumption) (fun h9 => ?_) | refine CondP.hf (by assumption) (fun h9 => ?_) | refine CondP.nt (by assumption) (fun h9 => ?_) | refine CondP.nf (by assumption) (fun h9 => ?_)); (try simp only [h9]); clear h9) | ((first | (with_reducible apply CallG.plain1 [] (speaks_any)) | (with_reducible apply CallG.draw1 [] (speaks_any))); (focus ((try refine And.intro (leAs_of_eq rfl) ?_); (try refine And.intro (leOL_of_eq rfl) ?_); simp (maxSteps := 9999999) (disch := omega) only [go_sem, hr]; first | done | (repeat' (first | rfl | (refine And.intro ?_ ?_))))); (focus (simp (maxSteps := 9999999) (disch := omega) only [go_sem, hr]; rfl))) | ((first | (with_reducible apply CallG.plain1 [0] (hf)) | (with_reducible apply CallG.draw1 [0] (hf))); (focus ((try refine And.intro (leAs_of_eq rfl) ?_); (try refine And.intro (leOL_of_eq rfl) ?_); simp (maxSteps := 9999999) (disch := omega) only [go_sem, hr]; first | done | (repeat' (first | rfl | (refine And.intro ?_ ?_))))); (focus (simp (maxSteps := 9999999) (disch := omega) only [go_sem, hr]; rfl))) | ((first | (with_reducible apply CallG.plain1 [] (n1)) | (with_reducible apply CallG.draw1 [] (n1))); (focus ((try refine And.intro (leAs_of_eq rfl) ?_); (try refine And.intro (leOL_of_eq rfl) ?_); simp (maxSteps := 9999999) (disch := omega) only [go_sem, hr]; first | done | (repeat' (first | rfl | (refine And.intro ?_ ?_))))); (focus (simp (maxSteps := 9999999) (disch := omega) only [go_sem, hr]; rfl))) | ((first | (with_reducible apply CallG.plain1 [] (n2)) | (with_reducible apply CallG.draw1 [] (n2))); (focus ((try refine And.intro (leAs_of_eq rfl) ?_); (try refine And.intro (leOL_of_eq rfl) ?_); simp (maxSteps := 9999999) (disch := omega) only [go_sem, hr]; first | done | (repeat' (first | rfl | (refine And.intro ?_ ?_))))); (focus (simp (maxSteps := 9999999) (disch := omega) only [go_sem, hr]; rfl)))); (try simp (maxSteps := 9999999) (disch := omega) only [go_sem, hr]); (try (refine And.intro ?_ ?_; (focus (first | omega | (simp only [go_sem]; done) | (simp; done) | (simp; omega) | assumption))))) | ((first | refine CondP.split (fun hif => ?_) (fun hif => ?_) | refine Runs.part (fun hif => ?_) (fun hif => ?_)) <;> ((try simp only [hif]); (try simp only [decide_eq_true_eq, decide_eq_false_iff_not, Bool.not_eq_true, Bool.not_eq_false, Bool.not_eq_true', Bool.not_eq_false', beq_iff_eq, bne_iff_ne, bne_eq_false_iff_eq, beq_eq_false_iff_ne, ne_eq, Bool.and_eq_true, Bool.or_eq_true, Bool.or_eq_false_iff] at hif); (try (have h9 : _ = true := hif; simp only [h9])); (try (have h9 : _ = false := hif; simp only [h9])); (try simp (maxSteps := 9999999) (disch := omega) only [go_sem, hr]); (try (refine And.intro ?_ ?_; (focus (first | omega | (simp only [go_sem]; done) | (simp; done) | (simp; omega) | assumption)))); (try (exfalso; omega; done))))))
  (apply AWpA.loopL (fun p : Nat × Tb => [(5, .ptr 1 0), (7, .ptr 3 0), (50, .sl 0 off l.length 5 none), (51, I l.length), (52, I p.1)]) (fun p => [.cells true (rowsC off CaL l), TbO 2 p.2, .cells false (Rp 0 p.2.l), .cells false [I p.2.room, .sl 4 0 p.2.l.length 2 none], .cells false (Rp 0 p.2.l)]) (fun p => l.length - p.1) (fun p => p.1 ≤ l.length ∧ p.2.ok ∧ (p.2.l.length : Int) ≤ p.2.room ∧ p.2.room ≤ 4096) ((0, ⟨room, []⟩)) [0, _, 1, _, 2]; rotate_left; (focus (simp (maxSteps := 9999999) (disch := omega) only [go_sem, hr, rp_nil]; (try (repeat' (first | done | trivial | rfl | exact leAs_rfl _ | decide | (refine And.intro ?_ ?_) | (simp; done) | omega | (simp; decide)))))); rotate_right)
  · exact ⟨Nat.zero_le _, ⟨List.Pairwise.nil, by simp⟩, by simp; omega, by simp only; omega⟩
  rintro ⟨i, t⟩ ⟨hi, hok, hrm, h4⟩
  (try simp only at hi hok hrm h4)
  by_cases hin : i < l.length
  · have k1 : ((i : Int) < (l.length : Int)) = True := eq_true (by omega)
    have hat : ((rowsC off CaL l).drop (off + i * 5)).take 5 = CaL l[i] := rowsC_at (f := CaL) (k := 5) (fun _ => rfl) l i hin
    generalize l[i] = x at *
    have c1 := do_any t x.kind x.v x.n x.key x.frm hok hrm
    obtain ⟨hok2, hrm2, he2⟩ := act_ok hok hrm h4 x.kind x.v x.key
    have h42 : (actT t x.kind x.v x.key).room ≤ 4096 := by omega
    generalize actT t x.kind x.v x.key = u at *
    have c2 := tis_any u hok2
    have c3 := rank_any u x.frm hok2
    have c4 := rrank_any u.room u.l x.frm hok2.1 hok2.2
    have c5 := tget_any u x.frm hok2
    have c6 := rfind_any u.room u.l x.frm hok2.1 hok2.2
    have c7 := tscan_any u x.frm x.n hok2
    have c8 := rscan_any u.room u.l x.frm x.n hok2.1 hok2.2
    have hrp := rp_ren 0
    have hLu := rp_len 0
    clear he2
    have hAl : (scanP u.l x.frm x.n).length ≤ 1099511627776 := by
      have h1 := hok2.2
      have h2 : (scanP u.l x.frm x.n).length ≤ u.l.length := by unfold scanP; simp; omega
      omega
    generalize scanP u.l x.frm x.n = A at *
    cases hh : hasP' u.l x.frm with
    | true =>
      have hlt := hasP_lt hh
      have hg : getP u.l x.frm = (u.l[rankP u.l x.frm]).v := by unfold getP; rw [hh]; simp [hlt]
      have hfi : findP u.l x.frm = (rankP u.l x.frm : Int) := by unfold findP; rw [hh]
      have hv := rp_v u.l (rankP u.l x.frm) hlt
      rw [hh, hg] at c5
      rw [hfi] at c6
      clear hh hg hfi
      generalize u.l[rankP u.l x.frm] = y at *
      generalize rankP u.l x.frm = r at *
      have k2 : (0 ≤ (r : Int)) = True := eq_true (by omega)
      (try simp (maxSteps := 9999999) (disch := omega) only [go_sem])
      (repeat' (first | refine AWpA.seq ?_ | refine AWpA.block ?_ | (with_reducible refine CondP.tt ?_) | (with_reducible refine CondP.ff ?_) | refine AWpA.condv (by simp (maxSteps := 9999999) (disch := omega) only [go_sem, hr, hrp, hLu, hL, k1, k2, hat, hv]; rfl) ?_ | ((first | (apply AWpA.region; (focus (simp (maxSteps := 9999999) (disch := omega) only [go_sem, hr, hrp, hLu, hL, k1, k2, hat, hv]; rfl))) | (apply AWpA.draw [] [] follows; (focus (first | rfl | decide)); (focus (simp (maxSteps := 9999999) (disch := omega) only [go_sem, hr, hrp, hLu, hL, k1, k2, hat, hv]; rfl)); (focus (simp (maxSteps := 9999999) (disch := omega) only [go_sem, hr, hrp, hLu, hL, k1, k2, hat, hv]; first | done | trivial)); (focus (simp (maxSteps := 9999999) (disch := omega) only [go_sem, hr, hrp, hLu, hL, k1, k2, hat, hv]; rfl))) | (apply TailK.go; (focus (simp (maxSteps := 9999999) (disch := omega) only [go_sem, hr, hrp, hLu, hL, k1, k2, hat, hv]; rfl))) | refine AWpA.skip ?_ | refine AWpA.exit ?_ | refine AWpA.ret ?_ | (with_reducible refine ARoundsA.succ ?_) | ((first | refine Runs.kt (by assumption) (fun h9 => ?_) | refine Runs.kf (by assumption) (fun h9 => ?_) | refine Runs.nt (by assumption) (fun h9 => ?_) | refine Runs.nf (by assumption) (fun h9 => ?_) | refine CondP.ht (by assumption) (fun h9 => ?_) | refine CondP.hf (by assumption) (fun h9 => ?_) | refine CondP.nt (by assumption) (fun h9 => ?_) | refine CondP.nf (by assumption) (fun h9 => ?_)); (try simp only [h9]); clear h9) | ((first | (with_reducible apply CallG.plain1 [1, 2, 4] (c1)) | (with_reducible apply CallG.draw1 [1, 2, 4] (c1))); (focus ((try refine And.intro (leAs_of_eq rfl) ?_); (try refine And.intro (leOL_of_eq rfl) ?_); simp (maxSteps := 9999999) (disch := omega) only [go_sem, hr, hrp, hLu, hL, k1, k2, hat, hv]; first | done | (repeat' (first | rfl | (refine And.intro ?_ ?_))))); (focus (simp (maxSteps := 9999999) (disch := omega) only [go_sem, hr, hrp, hLu, hL, k1, k2, hat, hv]; rfl))) | ((first | (with_reducible apply CallG.plain1 [1, 133, 134] (c2)) | (with_reducible apply CallG.draw1 [1, 133, 134] (c2))); (focus ((try refine And.intro (leAs_of_eq rfl) ?_); (try refine And.intro (leOL_of_eq rfl) ?_); simp (maxSteps := 9999999) (disch := omega) only [go_sem, hr, hrp, hLu, hL, k1, k2, hat, hv]; first | done | (repeat' (first | rfl | (refine And.intro ?_ ?_))))); (focus (simp (maxSteps := 9999999) (disch := omega) only [go_sem, hr, hrp, hLu, hL, k1, k2, hat, hv]; rfl))) | ((first | (with_reducible apply CallG.plain1 [1, 133] (c3)) | (with_reducible apply CallG.draw1 [1, 133] (c3))); (focus ((try refine And.intro (leAs_of_eq rfl) ?_); (try refine And.intro (leOL_of_eq rfl) ?_); simp (maxSteps := 9999999) (disch := omega) only [go_sem, hr, hrp, hLu, hL, k1, k2, hat, hv]; first | done | (repeat' (first | rfl | (refine And.intro ?_ ?_))))); (focus (simp (maxSteps := 9999999) (disch := omega) only [go_sem, hr, hrp, hLu, hL, k1, k2, hat, hv]; rfl))) | ((first | (with_reducible apply CallG.plain1 [134] (c4)) | (with_reducible apply CallG.draw1 [134] (c4))); (focus ((try refine And.intro (leAs_of_eq rfl) ?_); (try refine And.intro (leOL_of_eq rfl) ?_); simp (maxSteps := 9999999) (disch := omega) only [go_sem, hr, hrp, hLu, hL, k1, k2, hat, hv]; first | done | (repeat' (first | rfl | (refine And.intro ?_ ?_))))); (focus (simp (maxSteps := 9999999) (disch := omega) only [go_sem, hr, hrp, hLu, hL, k1, k2, hat, hv]; rfl))) | ((first | (with_reducible apply CallG.plain1 [1, 133] (c5)) | (with_reducible apply CallG.draw1 [1, 133] (c5))); (focus ((try refine And.intro (leAs_of_eq rfl) ?_); (try refine And.intro (leOL_of_eq rfl) ?_); simp (maxSteps := 9999999) (disch := omega) only [go_sem, hr, hrp, hLu, hL, k1, k2, hat, hv]; first | done | (repeat' (first | rfl | (refine And.intro ?_ ?_))))); (focus (simp (maxSteps := 9999999) (disch := omega) only [go_sem, hr, hrp, hLu, hL, k1, k2, hat, hv]; rfl))) | ((first | (with_reducible apply CallG.plain1 [134] (c6)) | (with_reducible apply CallG.draw1 [134] (c6))); (focus ((try refine And.intro (leAs_of_eq rfl) ?_); (try refine And.intro (leOL_of_eq rfl) ?_); simp (maxSteps := 9999999) (disch := omega) only [go_sem, hr, hrp, hLu, hL, k1, k2, hat, hv]; first | done | (repeat' (first | rfl | (refine And.intro ?_ ?_))))); (focus (simp (maxSteps := 9999999) (disch := omega) only [go_sem, hr, hrp, hLu, hL, k1, k2, hat, hv]; rfl))) | ((first | (with_reducible apply CallG.plain1 [1, 133] (c7)) | (with_reducible apply CallG.draw1 [1, 133] (c7))); (focus ((try refine And.intro (leAs_of_eq rfl) ?_); (try refine And.intro (leOL_of_eq rfl) ?_); simp (maxSteps := 9999999) (disch := omega) only [go_sem, hr, hrp, hLu, hL, k1, k2, hat, hv]; first | done | (repeat' (first | rfl | (refine And.intro ?_ ?_))))); (focus (simp (maxSteps := 9999999) (disch := omega) only [go_sem, hr, hrp, hLu, hL, k1, k2, hat, hv]; rfl))) | ((first | (with_reducible apply CallG.plain1 [134] (c8)) | (with_reducible apply CallG.draw1 [134] (c8))); (focus ((try refine And.intro (leAs_of_eq rfl) ?_); (try refine And.intro (leOL_of_eq rfl) ?_); simp (maxSteps := 9999999) (disch := omega) only [go_sem, hr, hrp, hLu, hL, k1, k2, hat, hv]; first | done | (repeat' (first | rfl | (refine And.intro ?_ ?_))))); (focus (simp (maxSteps := 9999999) (disch := omega) only [go_sem, hr, hrp, hLu, hL, k1, k2, hat, hv]; rfl)))); (try simp (maxSteps := 9999999) (disch := omega) only [go_sem, hr, hrp, hLu, hL, k1, k2, hat, hv]); (try (refine And.intro ?_ ?_; (focus (first | omega | (simp only [go_sem]; done) | (simp; done) | (simp; omega) | assumption))))) | ((first | refine CondP.split (fun hif => ?_) (fun hif => ?_) | refine Runs.part (fun hif => ?_) (fun hif => ?_)) <;> ((try simp only [hif]); (try simp only [decide_eq_true_eq, decide_eq_false_iff_not, Bool.not_eq_true, Bool.not_eq_false, Bool.not_eq_true', Bool.not_eq_false', beq_iff_eq, bne_iff_ne, bne_eq_false_iff_eq, beq_eq_false_iff_ne, ne_eq, Bool.and_eq_true, Bool.or_eq_true, Bool.or_eq_false_iff] at hif); (try (have h9 : _ = true := hif; simp only [h9])); (try (have h9 : _ = false := hif; simp only [h9])); (try simp (maxSteps := 9999999) (disch := omega) only [go_sem, hr, hrp, hLu, hL, k1, k2, hat, hv]); (try (refine And.intro ?_ ?_; (focus (first | omega | (simp only [go_sem]; done) | (simp; done) | (simp; omega) | assumption)))); (try (exfalso; omega; done))))))
      (apply AWpA.loopL (fun j : Nat => [(5, .ptr 1 0), (7, .ptr 3 0), (16, .sl 5 0 A.length 2 none), (50, .sl 0 off l.length 5 none), (51, I l.length), (52, I i), (136, .sl 6 0 A.length 2 none), (137, I A.length), (138, I j)]) (fun j => [.cells true (rowsC off CaL l), TbO 2 u, .cells false (Rp 0 u.l), .cells false [I u.room, .sl 4 0 u.l.length 2 none], .cells false (Rp 0 u.l), .cells false (Rp 0 A), .cells false (Rp 0 A)]) (fun j => A.length - j) (fun j => j ≤ A.length) (0) [0, 1, 133, 3, 134, 1285, 1381]; rotate_left; (focus (simp (maxSteps := 9999999) (disch := omega) only [go_sem, hr, hrp]; (try (repeat' (first | done | trivial | rfl | exact leAs_rfl _ | decide | (refine And.intro ?_ ?_) | (simp; done) | omega | (simp; decide)))))); rotate_right)
      · simp
      rintro j hj
      (try simp only at hj)
      by_cases hjA : j < A.length
      · have m1 : ((j : Int) < (A.length : Int)) = True := eq_true (by omega)
        have mat := rp_at 0 A j hjA
        rw [Nat.zero_add] at mat
        have mk0 := rp_k A j hjA
        have mv0 := rp_v A j hjA
        generalize A[j] = z at *
        have hbe : (z.key == z.key) = true := (_root_.Go.MapKept.bytes_beq _ _).2 rfl
        have hLA := hLu A
        (try simp (maxSteps := 9999999) (disch := omega) only [go_sem])
        (repeat' (first | refine AWpA.seq ?_ | refine AWpA.block ?_ | (with_reducible refine CondP.tt ?_) | (with_reducible refine CondP.ff ?_) | refine AWpA.condv (by simp (maxSteps := 9999999) (disch := omega) only [go_sem, hr, hrp, hLA, hL, hAl, m1, mat, mk0, mv0, hbe]; rfl) ?_ | ((first | (apply AWpA.region; (focus (simp (maxSteps := 9999999) (disch := omega) only [go_sem, hr, hrp, hLA, hL, hAl, m1, mat, mk0, mv0, hbe]; rfl))) | (apply AWpA.draw [] [] follows; (focus (first | rfl | decide)); (focus (simp (maxSteps := 9999999) (disch := omega) only [go_sem, hr, hrp, hLA, hL, hAl, m1, mat, mk0, mv0, hbe]; rfl)); (focus (simp (maxSteps := 9999999) (disch := omega) only [go_sem, hr, hrp, hLA, hL, hAl, m1, mat, mk0, mv0, hbe]; first | done | trivial)); (focus (simp (maxSteps := 9999999) (disch := omega) only [go_sem, hr, hrp, hLA, hL, hAl, m1, mat, mk0, mv0, hbe]; rfl))) | (apply TailK.go; (focus (simp (maxSteps := 9999999) (disch := omega) only [go_sem, hr, hrp, hLA, hL, hAl, m1, mat, mk0, mv0, hbe]; rfl))) | refine AWpA.skip ?_ | refine AWpA.exit ?_ | refine AWpA.ret ?_ | (with_reducible refine ARoundsA.succ ?_) | ((first | refine Runs.kt (by assumption) (fun h9 => ?_) | refine Runs.kf (by assumption) (fun h9 => ?_) | refine Runs.nt (by assumption) (fun h9 => ?_) | refine Runs.nf (by assumption) (fun h9 => ?_) | refine CondP.ht (by assumption) (fun h9 => ?_) | refine CondP.hf (by assumption) (fun h9 => ?_) | refine CondP.nt (by assumption) (fun h9 => ?_) | refine CondP.nf (by assumption) (fun h9 => ?_)); (try simp only [h9]); clear h9)); (try simp (maxSteps := 9999999) (disch := omega) only [go_sem, hr, hrp, hLA, hL, hAl, m1, mat, mk0, mv0, hbe]); (try (refine And.intro ?_ ?_; (focus (first | omega | (simp only [go_sem]; done) | (simp; done) | (simp; omega) | assumption))))) | ((first | refine CondP.split (fun hif => ?_) (fun hif => ?_) | refine Runs.part (fun hif => ?_) (fun hif => ?_)) <;> ((try simp only [hif]); (try simp only [decide_eq_true_eq, decide_eq_false_iff_not, Bool.not_eq_true, Bool.not_eq_false, Bool.not_eq_true', Bool.not_eq_false', beq_iff_eq, bne_iff_ne, bne_eq_false_iff_eq, beq_eq_false_iff_ne, ne_eq, Bool.and_eq_true, Bool.or_eq_true, Bool.or_eq_false_iff] at hif); (try (have h9 : _ = true := hif; simp only [h9])); (try (have h9 : _ = false := hif; simp only [h9])); (try simp (maxSteps := 9999999) (disch := omega) only [go_sem, hr, hrp, hLA, hL, hAl, m1, mat, mk0, mv0, hbe]); (try (refine And.intro ?_ ?_; (focus (first | omega | (simp only [go_sem]; done) | (simp; done) | (simp; omega) | assumption)))); (try (exfalso; omega; done))))))
        (apply Back.to (j + 1) [0, 1, 2, 3, 4, 5, 6]; (focus ((try simp (maxSteps := 9999999) (disch := omega) only [go_sem, hr, hrp]); first | done | omega)); rotate_left; (focus (simp (maxSteps := 9999999) (disch := omega) only [go_sem, hr, hrp]; (try (repeat' (first | done | trivial | rfl | exact leAs_rfl _ | decide | (refine And.intro ?_ ?_) | (simp; done) | omega | (simp; decide)))))))
        all_goals omega
      · obtain rfl : j = A.length := by omega
        have m1 : ((A.length : Int) < (A.length : Int)) = False := eq_false (by omega)
        (try simp (maxSteps := 9999999) (disch := omega) only [go_sem])
        (repeat' (first | refine AWpA.seq ?_ | refine AWpA.block ?_ | (with_reducible refine CondP.tt ?_) | (with_reducible refine CondP.ff ?_) | refine AWpA.condv (by simp (maxSteps := 9999999) (disch := omega) only [go_sem, hr, hrp, m1]; rfl) ?_ | ((first | (apply AWpA.region; (focus (simp (maxSteps := 9999999) (disch := omega) only [go_sem, hr, hrp, m1]; rfl))) | (apply AWpA.draw [] [] follows; (focus (first | rfl | decide)); (focus (simp (maxSteps := 9999999) (disch := omega) only [go_sem, hr, hrp, m1]; rfl)); (focus (simp (maxSteps := 9999999) (disch := omega) only [go_sem, hr, hrp, m1]; first | done | trivial)); (focus (simp (maxSteps := 9999999) (disch := omega) only [go_sem, hr, hrp, m1]; rfl))) | (apply TailK.go; (focus (simp (maxSteps := 9999999) (disch := omega) only [go_sem, hr, hrp, m1]; rfl))) | refine AWpA.skip ?_ | refine AWpA.exit ?_ | refine AWpA.ret ?_ | (with_reducible refine ARoundsA.succ ?_) | ((first | refine Runs.kt (by assumption) (fun h9 => ?_) | refine Runs.kf (by assumption) (fun h9 => ?_) | refine Runs.nt (by assumption) (fun h9 => ?_) | refine Runs.nf (by assumption) (fun h9 => ?_) | refine CondP.ht (by assumption) (fun h9 => ?_) | refine CondP.hf (by assumption) (fun h9 => ?_) | refine CondP.nt (by assumption) (fun h9 => ?_) | refine CondP.nf (by assumption) (fun h9 => ?_)); (try simp only [h9]); clear h9)); (try simp (maxSteps := 9999999) (disch := omega) only [go_sem, hr, hrp, m1]); (try (refine And.intro ?_ ?_; (focus (first | omega | (simp only [go_sem]; done) | (simp; done) | (simp; omega) | assumption))))) | ((first | refine CondP.split (fun hif => ?_) (fun hif => ?_) | refine Runs.part (fun hif => ?_) (fun hif => ?_)) <;> ((try simp only [hif]); (try simp only [decide_eq_true_eq, decide_eq_false_iff_not, Bool.not_eq_true, Bool.not_eq_false, Bool.not_eq_true', Bool.not_eq_false', beq_iff_eq, bne_iff_ne, bne_eq_false_iff_eq, beq_eq_false_iff_ne, ne_eq, Bool.and_eq_true, Bool.or_eq_true, Bool.or_eq_false_iff] at hif); (try (have h9 : _ = true := hif; simp only [h9])); (try (have h9 : _ = false := hif; simp only [h9])); (try simp (maxSteps := 9999999) (disch := omega) only [go_sem, hr, hrp, m1]); (try (refine And.intro ?_ ?_; (focus (first | omega | (simp only [go_sem]; done) | (simp; done) | (simp; omega) | assumption)))); (try (exfalso; omega; done))))))
        (apply Back.to (i + 1, u) [0, 1, 2, 3, 4]; (focus ((try simp (maxSteps := 9999999) (disch := omega) only [go_sem, hr, hrp]); first | done | omega)); rotate_left; (focus (simp (maxSteps := 9999999) (disch := omega) only [go_sem, hr, hrp]; (try (repeat' (first | done | trivial | rfl | exact leAs_rfl _ | decide | (refine And.intro ?_ ?_) | (simp; done) | omega | (simp; decide)))))))
        exact ⟨by simp only; omega, hok2, hrm2, h42⟩
    | false =>
      have hg : getP u.l x.frm = 0 := by unfold getP; rw [hh]
      have hfi : findP u.l x.frm = -1 := by unfold findP; rw [hh]
      rw [hh, hg] at c5
      rw [hfi] at c6
      clear hh hg hfi
      generalize rankP u.l x.frm = r at *
      (try simp (maxSteps := 9999999) (disch := omega) only [go_sem])
      (repeat' (first | refine AWpA.seq ?_ | refine AWpA.block ?_ | (with_reducible refine CondP.tt ?_) | (with_reducible refine CondP.ff ?_) | refine AWpA.condv (by simp (maxSteps := 9999999) (disch := omega) only [go_sem, hr, hrp, hLu, hL, k1, hat]; rfl) ?_ | ((first | (apply AWpA.region; (focus (simp (maxSteps := 9999999) (disch := omega) only [go_sem, hr, hrp, hLu, hL, k1, hat]; rfl))) | (apply AWpA.draw [] [] follows; (focus (first | rfl | decide)); (focus (simp (maxSteps := 9999999) (disch := omega) only [go_sem, hr, hrp, hLu, hL, k1, hat]; rfl)); (focus (simp (maxSteps := 9999999) (disch := omega) only [go_sem, hr, hrp, hLu, hL, k1, hat]; first | done | trivial)); (focus (simp (maxSteps := 9999999) (disch := omega) only [go_sem, hr, hrp, hLu, hL, k1, hat]; rfl))) | (apply TailK.go; (focus (simp (maxSteps := 9999999) (disch := omega) only [go_sem, hr, hrp, hLu, hL, k1, hat]; rfl))) | refine AWpA.skip ?_ | refine AWpA.exit ?_ | refine AWpA.ret ?_ | (with_reducible refine ARoundsA.succ ?_) | ((first | refine Runs.kt (by assumption) (fun h9 => ?_) | refine Runs.kf (by assumption) (fun h9 => ?_) | refine Runs.nt (by assumption) (fun h9 => ?_) | refine Runs.nf (by assumption) (fun h9 => ?_) | refine CondP.ht (by assumption) (fun h9 => ?_) | refine CondP.hf (by assumption) (fun h9 => ?_) | refine CondP.nt (by assumption) (fun h9 => ?_) | refine CondP.nf (by assumption) (fun h9 => ?_)); (try simp only [h9]); clear h9) | ((first | (with_reducible apply CallG.plain1 [1, 2, 4] (c1)) | (with_reducible apply CallG.draw1 [1, 2, 4] (c1))); (focus ((try refine And.intro (leAs_of_eq rfl) ?_); (try refine And.intro (leOL_of_eq rfl) ?_); simp (maxSteps := 9999999) (disch := omega) only [go_sem, hr, hrp, hLu, hL, k1, hat]; first | done | (repeat' (first | rfl | (refine And.intro ?_ ?_))))); (focus (simp (maxSteps := 9999999) (disch := omega) only [go_sem, hr, hrp, hLu, hL, k1, hat]; rfl))) | ((first | (with_reducible apply CallG.plain1 [1, 133, 134] (c2)) | (with_reducible apply CallG.draw1 [1, 133, 134] (c2))); (focus ((try refine And.intro (leAs_of_eq rfl) ?_); (try refine And.intro (leOL_of_eq rfl) ?_); simp (maxSteps := 9999999) (disch := omega) only [go_sem, hr, hrp, hLu, hL, k1, hat]; first | done | (repeat' (first | rfl | (refine And.intro ?_ ?_))))); (focus (simp (maxSteps := 9999999) (disch := omega) only [go_sem, hr, hrp, hLu, hL, k1, hat]; rfl))) | ((first | (with_reducible apply CallG.plain1 [1, 133] (c3)) | (with_reducible apply CallG.draw1 [1, 133] (c3))); (focus ((try refine And.intro (leAs_of_eq rfl) ?_); (try refine And.intro (leOL_of_eq rfl) ?_); simp (maxSteps := 9999999) (disch := omega) only [go_sem, hr, hrp, hLu, hL, k1, hat]; first | done | (repeat' (first | rfl | (refine And.intro ?_ ?_))))); (focus (simp (maxSteps := 9999999) (disch := omega) only [go_sem, hr, hrp, hLu, hL, k1, hat]; rfl))) | ((first | (with_reducible apply CallG.plain1 [134] (c4)) | (with_reducible apply CallG.draw1 [134] (c4))); (focus ((try refine And.intro (leAs_of_eq rfl) ?_); (try refine And.intro (leOL_of_eq rfl) ?_); simp (maxSteps := 9999999) (disch := omega) only [go_sem, hr, hrp, hLu, hL, k1, hat]; first | done | (repeat' (first | rfl | (refine And.intro ?_ ?_))))); (focus (simp (maxSteps := 9999999) (disch := omega) only [go_sem, hr, hrp, hLu, hL, k1, hat]; rfl))) | ((first | (with_reducible apply CallG.plain1 [1, 133] (c5)) | (with_reducible apply CallG.draw1 [1, 133] (c5))); (focus ((try refine And.intro (leAs_of_eq rfl) ?_); (try refine And.intro (leOL_of_eq rfl) ?_); simp (maxSteps := 9999999) (disch := omega) only [go_sem, hr, hrp, hLu, hL, k1, hat]; first | done | (repeat' (first | rfl | (refine And.intro ?_ ?_))))); (focus (simp (maxSteps := 9999999) (disch := omega) only [go_sem, hr, hrp, hLu, hL, k1, hat]; rfl))) | ((first | (with_reducible apply CallG.plain1 [134] (c6)) | (with_reducible apply CallG.draw1 [134] (c6))); (focus ((try refine And.intro (leAs_of_eq rfl) ?_); (try refine And.intro (leOL_of_eq rfl) ?_); simp (maxSteps := 9999999) (disch := omega) only [go_sem, hr, hrp, hLu, hL, k1, hat]; first | done | (repeat' (first | rfl | (refine And.intro ?_ ?_))))); (focus (simp (maxSteps := 9999999) (disch := omega) only [go_sem, hr, hrp, hLu, hL, k1, hat]; rfl))) | ((first | (with_reducible apply CallG.plain1 [1, 133] (c7)) | (with_reducible apply CallG.draw1 [1, 133] (c7))); (focus ((try refine And.intro (leAs_of_eq rfl) ?_); (try refine And.intro (leOL_of_eq rfl) ?_); simp (maxSteps := 9999999) (disch := omega) only [go_sem, hr, hrp, hLu, hL, k1, hat]; first | done | (repeat' (first | rfl | (refine And.intro ?_ ?_))))); (focus (simp (maxSteps := 9999999) (disch := omega) only [go_sem, hr, hrp, hLu, hL, k1, hat]; rfl))) | ((first | (with_reducible apply CallG.plain1 [134] (c8)) | (with_reducible apply CallG.draw1 [134] (c8))); (focus ((try refine And.intro (leAs_of_eq rfl) ?_); (try refine And.intro (leOL_of_eq rfl) ?_); simp (maxSteps := 9999999) (disch := omega) only [go_sem, hr, hrp, hLu, hL, k1, hat]; first | done | (repeat' (first | rfl | (refine And.intro ?_ ?_))))); (focus (simp (maxSteps := 9999999) (disch := omega) only [go_sem, hr, hrp, hLu, hL, k1, hat]; rfl)))); (try simp (maxSteps := 9999999) (disch := omega) only [go_sem, hr, hrp, hLu, hL, k1, hat]); (try (refine And.intro ?_ ?_; (focus (first | omega | (simp only [go_sem]; done) | (simp; done) | (simp; omega) | assumption))))) | ((first | refine CondP.split (fun hif => ?_) (fun hif => ?_) | refine Runs.part (fun hif => ?_) (fun hif => ?_)) <;> ((try simp only [hif]); (try simp only [decide_eq_true_eq, decide_eq_false_iff_not, Bool.not_eq_true, Bool.not_eq_false, Bool.not_eq_true', Bool.not_eq_false', beq_iff_eq, bne_iff_ne, bne_eq_false_iff_eq, beq_eq_false_iff_ne, ne_eq, Bool.and_eq_true, Bool.or_eq_true, Bool.or_eq_false_iff] at hif); (try (have h9 : _ = true := hif; simp only [h9])); (try (have h9 : _ = false := hif; simp only [h9])); (try simp (maxSteps := 9999999) (disch := omega) only [go_sem, hr, hrp, hLu, hL, k1, hat]); (try (refine And.intro ?_ ?_; (focus (first | omega | (simp only [go_sem]; done) | (simp; done) | (simp; omega) | assumption)))); (try (exfalso; omega; done))))))
      (apply AWpA.loopL (fun j : Nat => [(5, .ptr 1 0), (7, .ptr 3 0), (16, .sl 5 0 A.length 2 none), (50, .sl 0 off l.length 5 none), (51, I l.length), (52, I i), (136, .sl 6 0 A.length 2 none), (137, I A.length), (138, I j)]) (fun j => [.cells true (rowsC off CaL l), TbO 2 u, .cells false (Rp 0 u.l), .cells false [I u.room, .sl 4 0 u.l.length 2 none], .cells false (Rp 0 u.l), .cells false (Rp 0 A), .cells false (Rp 0 A)]) (fun j => A.length - j) (fun j => j ≤ A.length) (0) [0, 1, 133, 3, 134, 1285, 1381]; rotate_left; (focus (simp (maxSteps := 9999999) (disch := omega) only [go_sem, hr, hrp]; (try (repeat' (first | done | trivial | rfl | exact leAs_rfl _ | decide | (refine And.intro ?_ ?_) | (simp; done) | omega | (simp; decide)))))); rotate_right)
      · simp
      rintro j hj
      (try simp only at hj)
      by_cases hjA : j < A.length
      · have m1 : ((j : Int) < (A.length : Int)) = True := eq_true (by omega)
        have mat := rp_at 0 A j hjA
        rw [Nat.zero_add] at mat
        have mk0 := rp_k A j hjA
        have mv0 := rp_v A j hjA
        generalize A[j] = z at *
        have hbe : (z.key == z.key) = true := (_root_.Go.MapKept.bytes_beq _ _).2 rfl
        have hLA := hLu A
        (try simp (maxSteps := 9999999) (disch := omega) only [go_sem])
        (repeat' (first | refine AWpA.seq ?_ | refine AWpA.block ?_ | (with_reducible refine CondP.tt ?_) | (with_reducible refine CondP.ff ?_) | refine AWpA.condv (by simp (maxSteps := 9999999) (disch := omega) only [go_sem, hr, hrp, hLA, hL, hAl, m1, mat, mk0, mv0, hbe]; rfl) ?_ | ((first | (apply AWpA.region; (focus (simp (maxSteps := 9999999) (disch := omega) only [go_sem, hr, hrp, hLA, hL, hAl, m1, mat, mk0, mv0, hbe]; rfl))) | (apply AWpA.draw [] [] follows; (focus (first | rfl | decide)); (focus (simp (maxSteps := 9999999) (disch := omega) only [go_sem, hr, hrp, hLA, hL, hAl, m1, mat, mk0, mv0, hbe]; rfl)); (focus (simp (maxSteps := 9999999) (disch := omega) only [go_sem, hr, hrp, hLA, hL, hAl, m1, mat, mk0, mv0, hbe]; first | done | trivial)); (focus (simp (maxSteps := 9999999) (disch := omega) only [go_sem, hr, hrp, hLA, hL, hAl, m1, mat, mk0, mv0, hbe]; rfl))) | (apply TailK.go; (focus (simp (maxSteps := 9999999) (disch := omega) only [go_sem, hr, hrp, hLA, hL, hAl, m1, mat, mk0, mv0, hbe]; rfl))) | refine AWpA.skip ?_ | refine AWpA.exit ?_ | refine AWpA.ret ?_ | (with_reducible refine ARoundsA.succ ?_) | ((first | refine Runs.kt (by assumption) (fun h9 => ?_) | refine Runs.kf (by assumption) (fun h9 => ?_) | refine Runs.nt (by assumption) (fun h9 => ?_) | refine Runs.nf (by assumption) (fun h9 => ?_) | refine CondP.ht (by assumption) (fun h9 => ?_) | refine CondP.hf (by assumption) (fun h9 => ?_) | refine CondP.nt (by assumption) (fun h9 => ?_) | refine CondP.nf (by assumption) (fun h9 => ?_)); (try simp only [h9]); clear h9)); (try simp (maxSteps := 9999999) (disch := omega) only [go_sem, hr, hrp, hLA, hL, hAl, m1, mat, mk0, mv0, hbe]); (try (refine And.intro ?_ ?_; (focus (first | omega | (simp only [go_sem]; done) | (simp; done) | (simp; omega) | assumption))))) | ((first | refine CondP.split (fun hif => ?_) (fun hif => ?_) | refine Runs.part (fun hif => ?_) (fun hif => ?_)) <;> ((try simp only [hif]); (try simp only [decide_eq_true_eq, decide_eq_false_iff_not, Bool.not_eq_true, Bool.not_eq_false, Bool.not_eq_true', Bool.not_eq_false', beq_iff_eq, bne_iff_ne, bne_eq_false_iff_eq, beq_eq_false_iff_ne, ne_eq, Bool.and_eq_true, Bool.or_eq_true, Bool.or_eq_false_iff] at hif); (try (have h9 : _ = true := hif; simp only [h9])); (try (have h9 : _ = false := hif; simp only [h9])); (try simp (maxSteps := 9999999) (disch := omega) only [go_sem, hr, hrp, hLA, hL, hAl, m1, mat, mk0, mv0, hbe]); (try (refine And.intro ?_ ?_; (focus (first | omega | (simp only [go_sem]; done) | (simp; done) | (simp; omega) | assumption)))); (try (exfalso; omega; done))))))
        (apply Back.to (j + 1) [0, 1, 2, 3, 4, 5, 6]; (focus ((try simp (maxSteps := 9999999) (disch := omega) only [go_sem, hr, hrp]); first | done | omega)); rotate_left; (focus (simp (maxSteps := 9999999) (disch := omega) only [go_sem, hr, hrp]; (try (repeat' (first | done | trivial | rfl | exact leAs_rfl _ | decide | (refine And.intro ?_ ?_) | (simp; done) | omega | (simp; decide)))))))
        all_goals omega
      · obtain rfl : j = A.length := by omega
        have m1 : ((A.length : Int) < (A.length : Int)) = False := eq_false (by omega)
        (try simp (maxSteps := 9999999) (disch := omega) only [go_sem])
        (repeat' (first | refine AWpA.seq ?_ | refine AWpA.block ?_ | (with_reducible refine CondP.tt ?_) | (with_reducible refine CondP.ff ?_) | refine AWpA.condv (by simp (maxSteps := 9999999) (disch := omega) only [go_sem, hr, hrp, m1]; rfl) ?_ | ((first | (apply AWpA.region; (focus (simp (maxSteps := 9999999) (disch := omega) only [go_sem, hr, hrp, m1]; rfl))) | (apply AWpA.draw [] [] follows; (focus (first | rfl | decide)); (focus (simp (maxSteps := 9999999) (disch := omega) only [go_sem, hr, hrp, m1]; rfl)); (focus (simp (maxSteps := 9999999) (disch := omega) only [go_sem, hr, hrp, m1]; first | done | trivial)); (focus (simp (maxSteps := 9999999) (disch := omega) only [go_sem, hr, hrp, m1]; rfl))) | (apply TailK.go; (focus (simp (maxSteps := 9999999) (disch := omega) only [go_sem, hr, hrp, m1]; rfl))) | refine AWpA.skip ?_ | refine AWpA.exit ?_ | refine AWpA.ret ?_ | (with_reducible refine ARoundsA.succ ?_) | ((first | refine Runs.kt (by assumption) (fun h9 => ?_) | refine Runs.kf (by assumption) (fun h9 => ?_) | refine Runs.nt (by assumption) (fun h9 => ?_) | refine Runs.nf (by assumption) (fun h9 => ?_) | refine CondP.ht (by assumption) (fun h9 => ?_) | refine CondP.hf (by assumption) (fun h9 => ?_) | refine CondP.nt (by assumption) (fun h9 => ?_) | refine CondP.nf (by assumption) (fun h9 => ?_)); (try simp only [h9]); clear h9)); (try simp (maxSteps := 9999999) (disch := omega) only [go_sem, hr, hrp, m1]); (try (refine And.intro ?_ ?_; (focus (first | omega | (simp only [go_sem]; done) | (simp; done) | (simp; omega) | assumption))))) | ((first | refine CondP.split (fun hif => ?_) (fun hif => ?_) | refine Runs.part (fun hif => ?_) (fun hif => ?_)) <;> ((try simp only [hif]); (try simp only [decide_eq_true_eq, decide_eq_false_iff_not, Bool.not_eq_true, Bool.not_eq_false, Bool.not_eq_true', Bool.not_eq_false', beq_iff_eq, bne_iff_ne, bne_eq_false_iff_eq, beq_eq_false_iff_ne, ne_eq, Bool.and_eq_true, Bool.or_eq_true, Bool.or_eq_false_iff] at hif); (try (have h9 : _ = true := hif; simp only [h9])); (try (have h9 : _ = false := hif; simp only [h9])); (try simp (maxSteps := 9999999) (disch := omega) only [go_sem, hr, hrp, m1]); (try (refine And.intro ?_ ?_; (focus (first | omega | (simp only [go_sem]; done) | (simp; done) | (simp; omega) | assumption)))); (try (exfalso; omega; done))))))
        (apply Back.to (i + 1, u) [0, 1, 2, 3, 4]; (focus ((try simp (maxSteps := 9999999) (disch := omega) only [go_sem, hr, hrp]); first | done | omega)); rotate_left; (focus (simp (maxSteps := 9999999) (disch := omega) only [go_sem, hr, hrp]; (try (repeat' (first | done | trivial | rfl | exact leAs_rfl _ | decide | (refine And.intro ?_ ?_) | (simp; done) | omega | (simp; decide)))))))
        exact ⟨by simp only; omega, hok2, hrm2, h42⟩
  · obtain rfl : i = l.length := by omega
    have k1 : ((l.length : Int) < (l.length : Int)) = False := eq_false (by omega)
    (try simp (maxSteps := 9999999) (disch := omega) only [go_sem])
    (repeat' (first | refine AWpA.seq ?_ | refine AWpA.block ?_ | (with_reducible refine CondP.tt ?_) | (with_reducible refine CondP.ff ?_) | refine AWpA.condv (by simp (maxSteps := 9999999) (disch := omega) only [go_sem, hr, k1]; rfl) ?_ | ((first | (apply AWpA.region; (focus (simp (maxSteps := 9999999) (disch := omega) only [go_sem, hr, k1]; rfl))) | (apply AWpA.draw [] [] follows; (focus (first | rfl | decide)); (focus (simp (maxSteps := 9999999) (disch := omega) only [go_sem, hr, k1]; rfl)); (focus (simp (maxSteps := 9999999) (disch := omega) only [go_sem, hr, k1]; first | done | trivial)); (focus (simp (maxSteps := 9999999) (disch := omega) only [go_sem, hr, k1]; rfl))) | (apply TailK.go; (focus (simp (maxSteps := 9999999) (disch := omega) only [go_sem, hr, k1]; rfl))) | refine AWpA.skip ?_ | refine AWpA.exit ?_ | refine AWpA.ret ?_ | (with_reducible refine ARoundsA.succ ?_) | ((first | refine Runs.kt (by assumption) (fun h9 => ?_) | refine Runs.kf (by assumption) (fun h9 => ?_) | refine Runs.nt (by assumption) (fun h9 => ?_) | refine Runs.nf (by assumption) (fun h9 => ?_) | refine CondP.ht (by assumption) (fun h9 => ?_) | refine CondP.hf (by assumption) (fun h9 => ?_) | refine CondP.nt (by assumption) (fun h9 => ?_) | refine CondP.nf (by assumption) (fun h9 => ?_)); (try simp only [h9]); clear h9)); (try simp (maxSteps := 9999999) (disch := omega) only [go_sem, hr, k1]); (try (refine And.intro ?_ ?_; (focus (first | omega | (simp only [go_sem]; done) | (simp; done) | (simp; omega) | assumption))))) | ((first | refine CondP.split (fun hif => ?_) (fun hif => ?_) | refine Runs.part (fun hif => ?_) (fun hif => ?_)) <;> ((try simp only [hif]); (try simp only [decide_eq_true_eq, decide_eq_false_iff_not, Bool.not_eq_true, Bool.not_eq_false, Bool.not_eq_true', Bool.not_eq_false', beq_iff_eq, bne_iff_ne, bne_eq_false_iff_eq, beq_eq_false_iff_ne, ne_eq, Bool.and_eq_true, Bool.or_eq_true, Bool.or_eq_false_iff] at hif); (try (have h9 : _ = true := hif; simp only [h9])); (try (have h9 : _ = false := hif; simp only [h9])); (try simp (maxSteps := 9999999) (disch := omega) only [go_sem, hr, k1]); (try (refine And.intro ?_ ?_; (focus (first | omega | (simp only [go_sem]; done) | (simp; done) | (simp; omega) | assumption)))); (try (exfalso; omega; done))))))
    (refine TopPost.of (by first | exact .inl rfl | exact .inr rfl) (by (try simp (maxSteps := 9999999) (disch := omega) only [go_sem]); rfl) ?_; (try simp (maxSteps := 9999999) (disch := omega) only [go_sem]); (try (first | trivial | decide | (simp; done))))
end Go.Proofs.Ytodnlihbmgigjaa
