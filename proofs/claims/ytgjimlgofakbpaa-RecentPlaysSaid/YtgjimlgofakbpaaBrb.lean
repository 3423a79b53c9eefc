/- The walk of RecentPlays. Written by wip/gen_rplays.py. -/
import Derived.Test.YtgjimlgofakbpaaBr9
namespace Go.Proofs.Ytgjimlgofakbpaa
set_option linter.unusedSimpArgs false
set_option linter.unusedVariables false
set_option maxHeartbeats 4000000
open Go Go.Am Go.RowKit Go.ChangeShapes Go.WideShapes Go.ChangeAt
set_option maxRecDepth 100000
theorem find_none {x : Ix} (hx : x.ok) {k : ByteArray} (h : getX x.e k = none) : findR x.l k = -1 :=
  findR_no fun a ha e => getX_none h a (hx.perm.mem_iff.2 ha) e.symm
theorem find_some {x : Ix} (hx : x.ok) {k : ByteArray} {m : Mk} (h : getX x.e k = some m) : ∃ j, ∃ hj : j < x.l.length, x.l[j] = m ∧ findR x.l k = j := by
  obtain ⟨h1, h2⟩ := getX_some h
  obtain ⟨j, hj, e⟩ := List.getElem_of_mem (hx.perm.mem_iff.1 h1)
  refine ⟨j, hj, e, findR_at hj (fun q hq hqj hk => ?_) (by rw [e]; exact h2)⟩
  have hn := List.pairwise_iff_getElem.1 hx.nod q j (by simpa using hq) (by simpa using hj) hqj
  rw [List.getElem_map, List.getElem_map, e, hk] at hn
  exact hn h2.symm
theorem find_get {x : Ix} (hx : x.ok) (k : ByteArray) : decide (0 ≤ findR x.l k) = (getX x.e k).isSome := by
  cases h : getX x.e k with
  | none => rw [find_none hx h]; rfl
  | some m => obtain ⟨j, _, _, e⟩ := find_some hx h; rw [e]; simp
def CaM.rep (a : CaM) : List Value := (fun n : Int => [.int .i64 n]) a.kind ++ (Mk.rep) a.mark ++ (Mk.rep) a.below ++ (fun n : Int => [.int .i64 n]) a.n
structure CaM.ok (W : World) (a : CaM) : Prop where
  kind : (fun n : Int => IntKind.i64.min ≤ n ∧ n ≤ IntKind.i64.max) a.kind
  mark : (Mk.ok W) a.mark
  below : (Mk.ok W) a.below
  n : (fun n : Int => IntKind.i64.min ≤ n ∧ n ≤ IntKind.i64.max) a.n
set_option maxRecDepth 100000 in
theorem rd_CaM {H : Type} {enc : TypeId × Value → H} {W : World} {base : Nat} {held : Bool} : Rd enc Try.prog W base held 40 CaM.rep (CaM.ok W) := fun n cs x h => by
  obtain ⟨xs, n1, _, _, hlen, hx, hf⟩ := DataW.trod_struct Try.underlying40 h
  rw [show Try.prog.cellsOf 40 = 8 by kernel_rfl] at hlen
  have f0 : DataW.trod enc Try.prog W base (fun _ => true) held n1 3 ((cs.drop 0).take (Try.prog.cellsOf 3)) = xs[0]? := hf 0 _ rfl
  rw [show Try.prog.cellsOf 3 = 1 by kernel_rfl] at f0
  obtain ⟨y0, h0⟩ := at_some2 hx (by decide) f0
  obtain ⟨g0, a0, e0, w0⟩ := (rd_int Try.underlying3 : Rd _ _ _ _ _ _ (fun n : Int => [.int .i64 n]) (fun n : Int => IntKind.i64.min ≤ n ∧ n ≤ IntKind.i64.max)) _ _ _ h0
  have f1 : DataW.trod enc Try.prog W base (fun _ => true) held n1 25 ((cs.drop 1).take (Try.prog.cellsOf 25)) = xs[1]? := hf 1 _ rfl
  rw [show Try.prog.cellsOf 25 = 3 by kernel_rfl] at f1
  obtain ⟨y1, h1⟩ := at_some2 hx (by decide) f1
  obtain ⟨g1, a1, e1, w1⟩ := (rd_Mk : Rd _ _ _ _ _ _ (Mk.rep) (Mk.ok W)) _ _ _ h1
  have f2 : DataW.trod enc Try.prog W base (fun _ => true) held n1 25 ((cs.drop 4).take (Try.prog.cellsOf 25)) = xs[2]? := hf 2 _ rfl
  rw [show Try.prog.cellsOf 25 = 3 by kernel_rfl] at f2
  obtain ⟨y2, h2⟩ := at_some2 hx (by decide) f2
  obtain ⟨g2, a2, e2, w2⟩ := (rd_Mk : Rd _ _ _ _ _ _ (Mk.rep) (Mk.ok W)) _ _ _ h2
  have f3 : DataW.trod enc Try.prog W base (fun _ => true) held n1 3 ((cs.drop 7).take (Try.prog.cellsOf 3)) = xs[3]? := hf 3 _ rfl
  rw [show Try.prog.cellsOf 3 = 1 by kernel_rfl] at f3
  obtain ⟨y3, h3⟩ := at_some2 hx (by decide) f3
  obtain ⟨g3, a3, e3, w3⟩ := (rd_int Try.underlying3 : Rd _ _ _ _ _ _ (fun n : Int => [.int .i64 n]) (fun n : Int => IntKind.i64.min ≤ n ∧ n ≤ IntKind.i64.max)) _ _ _ h3
  match cs, hlen with
  | [c0, c1, c2, c3, c4, c5, c6, c7], _ =>
    simp [Sl.rep, St.rep, Mk.rep, CaM.rep] at e0 g0
    simp [Sl.rep, St.rep, Mk.rep, CaM.rep] at e1 g1
    simp [Sl.rep, St.rep, Mk.rep, CaM.rep] at e2 g2
    simp [Sl.rep, St.rep, Mk.rep, CaM.rep] at e3 g3
    exact ⟨by simp [*, Value.oneCell'], ⟨a0, a1, a2, a3⟩, by simp [Sl.rep, St.rep, Mk.rep, CaM.rep, *], ⟨w0, w1, w2, w3⟩⟩
/- quidnunc/quidnunclaw10.RecentPlays -/
noncomputable def c4_1 : ACode := .region false [⟨some 2, .move, [.c (.val (.bool false))], none⟩] [] [] [0] false [] []
noncomputable def c4_4 : ACode := .region false [⟨some 11, .call 11, [], none⟩,
  ⟨some 12, .un .not, [.t 11], none⟩,
  ⟨some 13, .move, [.t 12], none⟩,
  ⟨some 14, .move, [.t 0], some (some 13, false)⟩,
  ⟨some 15, .call 15, [.t 14], some (some 13, false)⟩,
  ⟨some 16, .un .not, [.t 15], some (some 13, false)⟩,
  ⟨some 17, .pick, [.t 13, .c (.val (.bool true)), .t 16], none⟩] [] [] [0, 17] true [] []
noncomputable def c4_7 : ACode := .region false [⟨some 18, .call 11, [], none⟩,
  ⟨some 2, .move, [.t 18], none⟩] [] [] [2] true [] []
noncomputable def c4_6 : ACode := .seq c4_7 .ret
noncomputable def c4_5 : ACode := .cond (.t 17) c4_6 .skip
noncomputable def c4_3 : ACode := .seq c4_4 c4_5
noncomputable def c4_9 : ACode := .region false [⟨some 19, .call 16, [], none⟩,
  ⟨some 3, .move, [.t 19], none⟩] [] [] [0, 3] true [] []
noncomputable def c4_11 : ACode := .region false [⟨some 20, .buildSl 3 0 [(.int .i64 0), (.int .i64 0), (.string ⟨#[]⟩)] [], [], none⟩,
  ⟨some 4, .move, [.t 20], none⟩] [] [] [0, 3, 4] true [] []
noncomputable def c4_14 : ACode := .region false [⟨some 21, .move, [.t 0], none⟩,
  ⟨some 22, .len, [.t 21], none⟩,
  ⟨some 23, .move, [.c (.val (.int .i64 0))], none⟩] [] [] [3, 4, 21, 22, 23] false [] []
noncomputable def c4_18 : ACode := .region false [⟨some 24, .bin .lss, [.t 23, .t 22], none⟩] [] [] [3, 4, 21, 22, 23, 24] false [] []
noncomputable def c4_20 : ACode := .cond (.t 24) .skip (.exit 0)
noncomputable def c4_24 : ACode := .region false [⟨some 25, .ixS 8, [.t 21, .t 23], none⟩,
  ⟨some 26, .load true 8, [.t 25], none⟩,
  ⟨some 6, .alloc [(.int .i64 0), (.int .i64 0), (.int .i64 0), (.string ⟨#[]⟩), (.int .i64 0), (.int .i64 0), (.string ⟨#[]⟩), (.int .i64 0)], [], none⟩,
  ⟨none, .store 8, [.t 6, .t 26], none⟩] [] [] [3, 4, 6, 21, 22, 23] true [] []
noncomputable def c4_26 : ACode := .region false [⟨some 27, .move, [.t 4], none⟩,
  ⟨some 28, .addr 1, [.t 6], none⟩,
  ⟨some 29, .addr 2, [.t 28], none⟩,
  ⟨some 30, .load false 1, [.t 29], none⟩,
  ⟨some 31, .call 17, [.t 27, .t 30], none⟩,
  ⟨some 32, .bin .geq, [.t 31, .c (.val (.int .i64 0))], none⟩,
  ⟨some 7, .move, [.t 32], none⟩] [] [] [3, 4, 6, 7, 21, 22, 23] true [] []
noncomputable def c4_29 : ACode := .region false [⟨some 33, .addr 0, [.t 6], none⟩,
  ⟨some 34, .load false 1, [.t 33], none⟩,
  ⟨some 35, .bin .eql, [.t 34, .c (.val (.int .i64 0))], none⟩] [] [] [3, 4, 6, 7, 21, 22, 23, 35] false [] []
noncomputable def c4_32 : ACode := .region false [⟨some 36, .move, [.t 4], none⟩,
  ⟨some 37, .addr 1, [.t 6], none⟩,
  ⟨some 38, .load true 3, [.t 37], none⟩,
  ⟨some 39, .call 18, [.t 36, .t 38], none⟩,
  ⟨some 4, .move, [.t 39], none⟩] [] [] [3, 4, 6, 7, 21, 22, 23] true [] []
noncomputable def c4_34 : ACode := .region false [⟨some 40, .move, [.t 3], none⟩,
  ⟨some 41, .addr 1, [.t 6], none⟩,
  ⟨some 42, .load true 3, [.t 41], none⟩,
  ⟨some 43, .call 13, [.t 42], none⟩,
  ⟨some 44, .call 19, [.t 40, .t 43], none⟩,
  ⟨some 45, .move, [.t 7], none⟩,
  ⟨some 46, .eqB true, [.t 44, .t 45], none⟩] [] [] [3, 4, 6, 21, 22, 23, 46] true [] []
noncomputable def c4_37 : ACode := .region false [⟨some 2, .move, [.c (.val (.bool false))], none⟩] [] [] [2] false [] []
noncomputable def c4_36 : ACode := .seq c4_37 .ret
noncomputable def c4_35 : ACode := .cond (.t 46) c4_36 .skip
noncomputable def c4_33 : ACode := .seq c4_34 c4_35
noncomputable def c4_31 : ACode := .seq c4_32 c4_33
noncomputable def c4_39 : ACode := .region false [⟨some 47, .move, [.t 4], none⟩,
  ⟨some 48, .addr 1, [.t 6], none⟩,
  ⟨some 49, .addr 2, [.t 48], none⟩,
  ⟨some 50, .load false 1, [.t 49], none⟩,
  ⟨some 51, .call 20, [.t 47, .t 50], none⟩,
  ⟨some 4, .move, [.t 51], none⟩] [] [] [3, 4, 6, 7, 21, 22, 23] true [] []
noncomputable def c4_41 : ACode := .region false [⟨some 52, .move, [.t 3], none⟩,
  ⟨some 53, .addr 1, [.t 6], none⟩,
  ⟨some 54, .addr 2, [.t 53], none⟩,
  ⟨some 55, .load false 1, [.t 54], none⟩,
  ⟨some 56, .call 21, [.t 52, .t 55], none⟩,
  ⟨some 57, .move, [.t 7], none⟩,
  ⟨some 58, .eqB true, [.t 56, .t 57], none⟩] [] [] [3, 4, 6, 21, 22, 23, 58] true [] []
noncomputable def c4_44 : ACode := .region false [⟨some 2, .move, [.c (.val (.bool false))], none⟩] [] [] [2] false [] []
noncomputable def c4_43 : ACode := .seq c4_44 .ret
noncomputable def c4_42 : ACode := .cond (.t 58) c4_43 .skip
noncomputable def c4_40 : ACode := .seq c4_41 c4_42
noncomputable def c4_38 : ACode := .seq c4_39 c4_40
noncomputable def c4_30 : ACode := .cond (.t 35) c4_31 c4_38
noncomputable def c4_28 : ACode := .seq c4_29 c4_30
noncomputable def c4_46 : ACode := .region false [⟨some 60, .move, [.t 3], none⟩,
  ⟨some 61, .addr 4, [.t 6], none⟩,
  ⟨some 62, .addr 2, [.t 61], none⟩,
  ⟨some 63, .load false 1, [.t 62], none⟩,
  ⟨some 64, .call 22, [.t 60, .t 63], none⟩,
  ⟨some 59, .move, [.t 64], none⟩,
  ⟨some 65, .ext 0, [.t 59], none⟩,
  ⟨some 66, .ext 1, [.t 59], none⟩,
  ⟨some 8, .alloc [(.int .i64 0), (.int .i64 0), (.string ⟨#[]⟩)], [], none⟩,
  ⟨none, .store 3, [.t 8, .t 65], none⟩,
  ⟨some 9, .move, [.t 66], none⟩] [] [] [3, 4, 6, 8, 9, 21, 22, 23] true [] []
noncomputable def c4_48 : ACode := .region false [⟨some 67, .move, [.t 4], none⟩,
  ⟨some 68, .addr 4, [.t 6], none⟩,
  ⟨some 69, .addr 2, [.t 68], none⟩,
  ⟨some 70, .load false 1, [.t 69], none⟩,
  ⟨some 71, .call 17, [.t 67, .t 70], none⟩,
  ⟨some 10, .move, [.t 71], none⟩] [] [] [3, 4, 6, 8, 9, 10, 21, 22, 23] true [] []
noncomputable def c4_51 : ACode := .region true [⟨some 72, .move, [.t 9], none⟩,
  ⟨some 73, .move, [.t 10], none⟩,
  ⟨some 74, .bin .geq, [.t 73, .c (.val (.int .i64 0))], none⟩,
  ⟨some 75, .eqB true, [.t 72, .t 74], none⟩,
  ⟨some 76, .move, [.t 75], none⟩,
  ⟨some 77, .move, [.t 9], some (some 76, false)⟩,
  ⟨some 78, .move, [.t 77], some (some 76, false)⟩,
  ⟨some 79, .load true 3, [.t 8], some (some 78, true)⟩,
  ⟨some 80, .call 23, [.t 79], some (some 78, true)⟩,
  ⟨some 81, .move, [.t 4], some (some 78, true)⟩,
  ⟨some 82, .move, [.t 10], some (some 78, true)⟩,
  ⟨some 83, .ixS 3, [.t 81, .t 82], some (some 78, true)⟩,
  ⟨some 84, .load true 3, [.t 83], some (some 78, true)⟩,
  ⟨some 85, .eqA true [(0, 0), (1, 0), (2, 1)], [.t 80, .t 84], some (some 78, true)⟩,
  ⟨some 86, .pick, [.t 78, .t 85, .c (.val (.bool false))], some (some 76, false)⟩,
  ⟨some 87, .pick, [.t 76, .c (.val (.bool true)), .t 86], none⟩,
  ⟨some 88, .move, [.t 87], none⟩,
  ⟨some 89, .move, [.t 9], some (some 88, false)⟩,
  ⟨some 90, .un .not, [.t 89], some (some 88, false)⟩,
  ⟨some 91, .move, [.t 90], some (some 88, false)⟩,
  ⟨some 92, .load true 3, [.t 8], some (some 91, true)⟩,
  ⟨some 93, .build [(.int .i64 0), (.int .i64 0), (.string ⟨#[]⟩)] [], [], some (some 91, true)⟩,
  ⟨some 94, .eqA true [(0, 0), (1, 0), (2, 1)], [.t 92, .t 93], some (some 91, true)⟩,
  ⟨some 95, .pick, [.t 91, .t 94, .c (.val (.bool false))], some (some 88, false)⟩,
  ⟨some 96, .pick, [.t 88, .c (.val (.bool true)), .t 95], none⟩] [] [] [3, 4, 6, 21, 22, 23, 96] true [] []
noncomputable def c4_54 : ACode := .region false [⟨some 2, .move, [.c (.val (.bool false))], none⟩] [] [] [2] false [] []
noncomputable def c4_53 : ACode := .seq c4_54 .ret
noncomputable def c4_52 : ACode := .cond (.t 96) c4_53 .skip
noncomputable def c4_50 : ACode := .seq c4_51 c4_52
noncomputable def c4_56 : ACode := .region true [⟨some 97, .move, [.t 3], none⟩,
  ⟨some 98, .call 24, [.t 97], none⟩,
  ⟨some 99, .move, [.t 4], none⟩,
  ⟨some 100, .len, [.t 99], none⟩,
  ⟨some 101, .bin .neq, [.t 98, .t 100], none⟩,
  ⟨some 102, .move, [.t 101], none⟩,
  ⟨some 103, .move, [.t 3], some (some 102, false)⟩,
  ⟨some 104, .addr 7, [.t 6], some (some 102, false)⟩,
  ⟨some 105, .load false 1, [.t 104], some (some 102, false)⟩,
  ⟨some 106, .call 27, [.t 103, .t 105], some (some 102, false)⟩,
  ⟨some 107, .call 26, [.t 106], some (some 102, false)⟩,
  ⟨some 108, .move, [.t 4], some (some 102, false)⟩,
  ⟨some 109, .build [(.int .i64 0), (.int .i64 0), (.string ⟨#[]⟩)] [], [], some (some 102, false)⟩,
  ⟨some 110, .addr 7, [.t 6], some (some 102, false)⟩,
  ⟨some 111, .load false 1, [.t 110], some (some 102, false)⟩,
  ⟨some 112, .call 28, [.t 108, .t 109, .t 111], some (some 102, false)⟩,
  ⟨some 113, .call 25, [.t 107, .t 112], some (some 102, false)⟩,
  ⟨some 114, .un .not, [.t 113], some (some 102, false)⟩,
  ⟨some 115, .pick, [.t 102, .c (.val (.bool true)), .t 114], none⟩,
  ⟨some 116, .move, [.t 115], none⟩,
  ⟨some 117, .move, [.t 3], some (some 116, false)⟩,
  ⟨some 118, .addr 4, [.t 6], some (some 116, false)⟩,
  ⟨some 119, .load true 3, [.t 118], some (some 116, false)⟩,
  ⟨some 120, .call 13, [.t 119], some (some 116, false)⟩,
  ⟨some 121, .addr 7, [.t 6], some (some 116, false)⟩,
  ⟨some 122, .load false 1, [.t 121], some (some 116, false)⟩,
  ⟨some 123, .call 29, [.t 117, .t 120, .t 122], some (some 116, false)⟩,
  ⟨some 124, .call 26, [.t 123], some (some 116, false)⟩,
  ⟨some 125, .move, [.t 4], some (some 116, false)⟩,
  ⟨some 126, .addr 4, [.t 6], some (some 116, false)⟩,
  ⟨some 127, .load true 3, [.t 126], some (some 116, false)⟩,
  ⟨some 128, .addr 7, [.t 6], some (some 116, false)⟩,
  ⟨some 129, .load false 1, [.t 128], some (some 116, false)⟩,
  ⟨some 130, .call 28, [.t 125, .t 127, .t 129], some (some 116, false)⟩,
  ⟨some 131, .call 25, [.t 124, .t 130], some (some 116, false)⟩,
  ⟨some 132, .un .not, [.t 131], some (some 116, false)⟩,
  ⟨some 133, .pick, [.t 116, .c (.val (.bool true)), .t 132], none⟩] [] [] [3, 4, 21, 22, 23, 133] true [] []
noncomputable def c4_59 : ACode := .region false [⟨some 2, .move, [.c (.val (.bool false))], none⟩] [] [] [2] false [] []
noncomputable def c4_58 : ACode := .seq c4_59 .ret
noncomputable def c4_57 : ACode := .cond (.t 133) c4_58 .skip
noncomputable def c4_55 : ACode := .seq c4_56 c4_57
noncomputable def c4_49 : ACode := .seq c4_50 c4_55
noncomputable def c4_47 : ACode := .seq c4_48 c4_49
noncomputable def c4_45 : ACode := .seq c4_46 c4_47
noncomputable def c4_27 : ACode := .seq c4_28 c4_45
noncomputable def c4_25 : ACode := .seq c4_26 c4_27
noncomputable def c4_23 : ACode := .seq c4_24 c4_25
noncomputable def c4_22 : ACode := .block 1 c4_23
noncomputable def c4_60 : ACode := .region false [⟨some 134, .bin .add, [.t 23, .c (.val (.int .i64 1))], none⟩,
  ⟨some 23, .move, [.t 134], none⟩] [] [] [3, 4, 21, 22, 23] false [] []
noncomputable def c4_21 : ACode := .seq c4_22 c4_60
noncomputable def c4_19 : ACode := .seq c4_20 c4_21
noncomputable def c4_17 : ACode := .seq c4_18 c4_19
noncomputable def c4_16 : ACode := .loop c4_17
noncomputable def c4_15 : ACode := .block 0 c4_16
noncomputable def c4_13 : ACode := .seq c4_14 c4_15
noncomputable def c4_62 : ACode := .region false [⟨some 2, .move, [.c (.val (.bool true))], none⟩] [] [] [2] false [] []
noncomputable def c4_61 : ACode := .seq c4_62 .ret
noncomputable def c4_12 : ACode := .seq c4_13 c4_61
noncomputable def c4_10 : ACode := .seq c4_11 c4_12
noncomputable def c4_8 : ACode := .seq c4_9 c4_10
noncomputable def c4_2 : ACode := .seq c4_3 c4_8
noncomputable def c4_0 : ACode := .seq c4_1 c4_2
noncomputable def code4 : Code := (Try.f4.body).getD .skip
theorem c4_ok : compC Try.prog 135 code4 = some (strip c4_0) := by kernel_rfl
theorem res4_ok : Try.f4.results.toList.mapM (resC Try.prog) = some [(2, none)] := by kernel_rfl
theorem recentPlays_walk (W : World) (sl : Sl CaM) (hz : Sl.ok W 8 CaM.rep (CaM.ok W) sl) :
    Calls Try.prog 4 #[.slice sl.ad sl.l.length sl.cap] W fun e W' => e = .returned (.bool true) ∧ Below W.heap.size W W' := by
  obtain ⟨ad, off, cap, l⟩ := sl
  obtain ⟨hz, -, hl⟩ := hz
  have hl : l.length ≤ 9223372036854775807 := by simpa [maxLen] using hl
  simp only at hz
  have hr : ∀ ρ, renL ρ (rowsC off CmL l) = rowsC off CmL l := fun ρ => rowsC_ren (fun ρ x => by simp [renL, ren]) ρ l
  have hL : (rowsC off CmL l).length = off + l.length * 8 := rowsC_len (f := CmL) (k := 8) (fun _ => rfl) l
  have hf := few10_any off l hl
  cases hs : fewM l with
  | false =>
    rw [hs] at hf
    refine top_call c4_ok Try.func4 rfl Try.ntmps4 res4_ok [ .val (.slice ad l.length cap)] (by simp) (by (repeat' (first | exact VRs_nil' _ | exact VR_val' _ _ | (refine VRs_cons' ?_ ?_) | (refine VR_agg' (by first | rfl | assumption) ?_; first | assumption | simp [Value.oneCell', St.rep, Mk.rep, CaM.rep])))) ?_; try simp (maxSteps := 9999999) (disch := omega) only [go_sem]
    refine AWpA.thawT 0 CmL hz (fun x => by simp [CaM.rep, Mk.rep, St.rep]) rfl ?_
    (repeat' (first | refine AWpA.seq ?_ | refine AWpA.block ?_ | (with_reducible refine CondP.tt ?_) | (with_reducible refine CondP.ff ?_) | refine AWpA.condv (by simp (maxSteps := 9999999) (disch := omega) only [go_sem, hr]; rfl) ?_ | ((first | (apply AWpA.region; (focus (simp (maxSteps := 9999999) (disch := omega) only [go_sem, hr]; rfl))) | (apply AWpA.draw [] [] follows; (focus (first | rfl | decide)); (focus (simp (maxSteps := 9999999) (disch := omega) only [go_sem, hr]; rfl)); (focus (simp (maxSteps := 9999999) (disch := omega) only [go_sem, hr]; first | done | trivial)); (focus (simp (maxSteps := 9999999) (disch := omega) only [go_sem, hr]; rfl))) | (apply TailK.go; (focus (simp (maxSteps := 9999999) (disch := omega) only [go_sem, hr]; rfl))) | refine AWpA.skip ?_ | refine AWpA.exit ?_ | refine AWpA.ret ?_ | (with_reducible refine ARoundsA.succ ?_) | ((first | refine Runs.kt (by assumption) (fun h9 => ?_) | refine Runs.kf (by assumption) (fun h9 => ?_) | refine Runs.nt (by assumption) (fun h9 => ?_) | refine Runs.nf (by assumption) (fun h9 => ?_) | refine CondP.ht (by assumption) (fun h9 => ?_) | refine CondP.hf (by assumption) (fun h9 => ?_) | refine CondP.nt (by assumption) (fun h9 => ?_) | refine CondP.nf (by assumption) (fun h9 => ?_)); (try simp only [h9]); clear h9) | ((first | (with_reducible apply CallG.plain1 [] (speaks10_any)) | (with_reducible apply CallG.draw1 [] (speaks10_any))); (focus ((try refine And.intro (leAs_of_eq rfl) ?_); (try refine And.intro (leOL_of_eq rfl) ?_); simp (maxSteps := 9999999) (disch := omega) only [go_sem, hr]; first | done | (repeat' (first | rfl | (refine And.intro ?_ ?_))))); (focus (simp (maxSteps := 9999999) (disch := omega) only [go_sem, hr]; rfl))) | ((first | (with_reducible apply CallG.plain1 [0] (hf)) | (with_reducible apply CallG.draw1 [0] (hf))); (focus ((try refine And.intro (leAs_of_eq rfl) ?_); (try refine And.intro (leOL_of_eq rfl) ?_); simp (maxSteps := 9999999) (disch := omega) only [go_sem, hr]; first | done | (repeat' (first | rfl | (refine And.intro ?_ ?_))))); (focus (simp (maxSteps := 9999999) (disch := omega) only [go_sem, hr]; rfl)))); (try simp (maxSteps := 9999999) (disch := omega) only [go_sem, hr]); (try (refine And.intro ?_ ?_; (focus (first | omega | (simp only [go_sem]; done) | (simp; done) | (simp; omega) | assumption))))) | ((first | refine CondP.split (fun hif => ?_) (fun hif => ?_) | refine Runs.part (fun hif => ?_) (fun hif => ?_)) <;> ((try simp only [hif]); (try simp only [decide_eq_true_eq, decide_eq_false_iff_not, Bool.not_eq_true, Bool.not_eq_false, Bool.not_eq_true', Bool.not_eq_false', beq_iff_eq, bne_iff_ne, bne_eq_false_iff_eq, beq_eq_false_iff_ne, ne_eq, Bool.and_eq_true, Bool.or_eq_true, Bool.or_eq_false_iff] at hif); (try (have h9 : _ = true := hif; simp only [h9])); (try (have h9 : _ = false := hif; simp only [h9])); (try simp (maxSteps := 9999999) (disch := omega) only [go_sem, hr]); (try (refine And.intro ?_ ?_; (focus (first | omega | (simp only [go_sem]; done) | (simp; done) | (simp; omega) | assumption)))); (try (exfalso; omega; done))))))
    (refine TopPost.of (by first | exact .inl rfl | exact .inr rfl) (by (try simp (maxSteps := 9999999) (disch := omega) only [go_sem]); rfl) ?_; (try simp (maxSteps := 9999999) (disch := omega) only [go_sem]); (try (first | trivial | decide | (simp; done))))
  | true =>
  rw [hs] at hf
  have h60 : l.length ≤ 60 := by unfold fewM at hs; simp at hs; exact hs.2
  clear hs
  have n1 := mnew_any
  have hbe : ∀ x : ByteArray, (x == x) = true := fun x => (_root_.Go.MapKept.bytes_beq _ _).2 rfl
  have he := esI_ren
  have hrm := rm_ren 0
  refine top_call c4_ok Try.func4 rfl Try.ntmps4 res4_ok [ .val (.slice ad l.length cap)] (by simp) (by (repeat' (first | exact VRs_nil' _ | exact VR_val' _ _ | (refine VRs_cons' ?_ ?_) | (refine VR_agg' (by first | rfl | assumption) ?_; first | assumption | simp [Value.oneCell', St.rep, Mk.rep, CaM.rep])))) ?_; try simp (maxSteps := 9999999) (disch := omega) only [go_sem]
  refine AWpA.thawT 0 CmL hz (fun x => by simp [CaM.rep, Mk.rep, St.rep]) rfl ?_
  refine AWpA.dummy ?_
  (repeat' (first | refine AWpA.seq ?_ | refine AWpA.block ?_ | (with_reducible refine CondP.tt ?_) | (with_reducible refine CondP.ff ?_) | refine AWpA.condv (by simp (maxSteps := 9999999) (disch := omega) only [go_sem, hr]; rfl) ?_ | ((first | (apply AWpA.region; (focus (simp (maxSteps := 9999999) (disch := omega) only [go_sem, hr]; rfl))) | (apply AWpA.draw [] [] follows; (focus (first | rfl | decide)); (focus (simp (maxSteps := 9999999) (disch := omega) only [go_sem, hr]; rfl)); (focus (simp (maxSteps := 9999999) (disch := omega) only [go_sem, hr]; first | done | trivial)); (focus (simp (maxSteps := 9999999) (disch := omega) only [go_sem, hr]; rfl))) | (apply TailK.go; (focus (simp (maxSteps := 9999999) (disch := omega) only [go_sem, hr]; rfl))) | refine AWpA.skip ?_ | refine AWpA.exit ?_ | refine AWpA.ret ?_ | (with_reducible refine ARoundsA.succ ?_) | ((first | refine Runs.kt (by assumption) (fun h9 => ?_) | refine Runs.kf (by assumption) (fun h9 => ?_) | refine Runs.nt (by assumption) (fun h9 => ?_) | refine Runs.nf (by assumption) (fun h9 => ?_) | refine CondP.ht (by assumption) (fun h9 => ?_) | refine CondP.hf (by assumption) (fun h9 => ?_) | refine CondP.nt (by assumption) (fun h9 => ?_) | refine CondP.nf (by assumption) (fun h9 => ?_)); (try simp only [h9]); clear h9) | ((first | (with_reducible apply CallG.plain1 [] (speaks10_any)) | (with_reducible apply CallG.draw1 [] (speaks10_any))); (focus ((try refine And.intro (leAs_of_eq rfl) ?_); (try refine And.intro (leOL_of_eq rfl) ?_); simp (maxSteps := 9999999) (disch := omega) only [go_sem, hr]; first | done | (repeat' (first | rfl | (refine And.intro ?_ ?_))))); (focus (simp (maxSteps := 9999999) (disch := omega) only [go_sem, hr]; rfl))) | ((first | (with_reducible apply CallG.plain1 [0] (hf)) | (with_reducible apply CallG.draw1 [0] (hf))); (focus ((try refine And.intro (leAs_of_eq rfl) ?_); (try refine And.intro (leOL_of_eq rfl) ?_); simp (maxSteps := 9999999) (disch := omega) only [go_sem, hr]; first | done | (repeat' (first | rfl | (refine And.intro ?_ ?_))))); (focus (simp (maxSteps := 9999999) (disch := omega) only [go_sem, hr]; rfl))) | ((first | (with_reducible apply CallG.plain1 [] (n1)) | (with_reducible apply CallG.draw1 [] (n1))); (focus ((try refine And.intro (leAs_of_eq rfl) ?_); (try refine And.intro (leOL_of_eq rfl) ?_); simp (maxSteps := 9999999) (disch := omega) only [go_sem, hr]; first | done | (repeat' (first | rfl | (refine And.intro ?_ ?_))))); (focus (simp (maxSteps := 9999999) (disch := omega) only [go_sem, hr]; rfl)))); (try simp (maxSteps := 9999999) (disch := omega) only [go_sem, hr]); (try (refine And.intro ?_ ?_; (focus (first | omega | (simp only [go_sem]; done) | (simp; done) | (simp; omega) | assumption))))) | ((first | refine CondP.split (fun hif => ?_) (fun hif => ?_) | refine Runs.part (fun hif => ?_) (fun hif => ?_)) <;> ((try simp only [hif]); (try simp only [decide_eq_true_eq, decide_eq_false_iff_not, Bool.not_eq_true, Bool.not_eq_false, Bool.not_eq_true', Bool.not_eq_false', beq_iff_eq, bne_iff_ne, bne_eq_false_iff_eq, beq_eq_false_iff_ne, ne_eq, Bool.and_eq_true, Bool.or_eq_true, Bool.or_eq_false_iff] at hif); (try (have h9 : _ = true := hif; simp only [h9])); (try (have h9 : _ = false := hif; simp only [h9])); (try simp (maxSteps := 9999999) (disch := omega) only [go_sem, hr]); (try (refine And.intro ?_ ?_; (focus (first | omega | (simp only [go_sem]; done) | (simp; done) | (simp; omega) | assumption)))); (try (exfalso; omega; done))))))
  (apply AWpA.loopL (fun p : Nat × Ix => [(3, .ptr 1 0), (4, .sl 4 0 p.2.l.length 3 none), (21, .sl 0 off l.length 8 none), (22, I l.length), (23, I p.1)]) (fun p => [.cells true (rowsC off CmL l), IxO 3 2 p.2.l, .map false (EsI p.2.e), .cells false (Rm 0 p.2.l), .cells false (Rm 0 p.2.l)]) (fun p => l.length - p.1) (fun p => p.1 ≤ l.length ∧ p.2.ok ∧ p.2.l.length ≤ p.1) ((0, ⟨[], []⟩)) [0, _, _, 1, _]; rotate_left; (focus (simp (maxSteps := 9999999) (disch := omega) only [go_sem, hr, he, rm_nil]; (try (repeat' (first | done | trivial | rfl | exact leAs_rfl _ | decide | (refine And.intro ?_ ?_) | (simp; done) | omega | (simp; decide)))))); rotate_right)
  · exact ⟨Nat.zero_le _, ix0_ok, Nat.le_refl _⟩
  rintro ⟨i, x⟩ ⟨hi, hok, hlen⟩
  (try simp only at hi hok hlen)
  by_cases hin : i < l.length
  · have k1 : ((i : Int) < (l.length : Int)) = True := eq_true (by omega)
    have hat : ((rowsC off CmL l).drop (off + i * 8)).take 8 = CmL l[i] := rowsC_at (f := CmL) (k := 8) (fun _ => rfl) l i hin
    generalize l[i] = a at *
    have w1 := rfindM_any x.l a.mark.key (by omega)
    have hw := find_get hok a.mark.key
    have o1 := of10_any a.mark
    have o2 := of10_any a.below
    by_cases hk0 : a.kind = 0
    · have q0 : (a.kind = 0) = True := eq_true hk0
      have c1 := mput_any x a.mark hok (by omega)
      have c2 := rputM_any x.l a.mark hok.rise (by omega)
      have e2 : insM (dropF x.l a.mark.key) a.mark = (putX x a.mark).l := rfl
      rw [e2] at c2
      clear e2
      have hok2 := hok.put a.mark
      have hlen2 := putX_len x a.mark
      generalize putX x a.mark = y at *
      generalize findR x.l a.mark.key = f at *
      generalize (getX x.e a.mark.key).isSome = b at *
      have c3 := mget_any y a.below.key
      have c4 := rfindM_any y.l a.below.key (by omega)
      have c5 := mlen_any y
      have c6 := mnewest_any y a.n hok2.rise (by omega)
      have c7 := rbelowM_any y.l zeroM a.n hok2.rise (by omega)
      have c8 := mbelow_any y a.below a.n hok2.rise (by omega)
      have c9 := rbelowM_any y.l a.below a.n hok2.rise (by omega)
      have hla : (belowM y.l zeroM a.n).length ≤ 1099511627776 := by
        have : (belowM y.l zeroM a.n).length ≤ y.l.length := by unfold belowM; simp; omega
        omega
      have hlb : (belowM y.l a.below a.n).length ≤ 1099511627776 := by
        have : (belowM y.l a.below a.n).length ≤ y.l.length := by unfold belowM; simp; omega
        omega
      generalize belowM y.l zeroM a.n = A at *
      generalize belowM y.l a.below a.n = B at *
      have t1 := tos_any 0 A hla
      have t2 := tos_any 0 B hlb
      have s1 := same10_any 0 0 A A hla hla
      have s2 := same10_any 0 0 B B hlb hlb
      rw [decide_eq_true rfl] at s1 s2
      have hly := rm_len 0 y.l
      cases hg : getX y.e a.below.key with
      | none =>
        have hfn := find_none hok2 hg
        rw [hg] at c3
        rw [hfn] at c4
        simp only [Option.getD_none, Option.isSome_none] at c3
        clear hg hfn
        (try simp (maxSteps := 9999999) (disch := omega) only [go_sem])
        (repeat' (first | refine AWpA.seq ?_ | refine AWpA.block ?_ | (with_reducible refine CondP.tt ?_) | (with_reducible refine CondP.ff ?_) | refine AWpA.condv (by simp (maxSteps := 9999999) (disch := omega) only [go_sem, hr, hrm, he, hL, k1, hat, q0, hw, hbe]; rfl) ?_ | ((first | (apply AWpA.region; (focus (simp (maxSteps := 9999999) (disch := omega) only [go_sem, hr, hrm, he, hL, k1, hat, q0, hw, hbe]; rfl))) | (apply AWpA.draw [] [] follows; (focus (first | rfl | decide)); (focus (simp (maxSteps := 9999999) (disch := omega) only [go_sem, hr, hrm, he, hL, k1, hat, q0, hw, hbe]; rfl)); (focus (simp (maxSteps := 9999999) (disch := omega) only [go_sem, hr, hrm, he, hL, k1, hat, q0, hw, hbe]; first | done | trivial)); (focus (simp (maxSteps := 9999999) (disch := omega) only [go_sem, hr, hrm, he, hL, k1, hat, q0, hw, hbe]; rfl))) | (apply TailK.go; (focus (simp (maxSteps := 9999999) (disch := omega) only [go_sem, hr, hrm, he, hL, k1, hat, q0, hw, hbe]; rfl))) | refine AWpA.skip ?_ | refine AWpA.exit ?_ | refine AWpA.ret ?_ | (with_reducible refine ARoundsA.succ ?_) | ((first | refine Runs.kt (by assumption) (fun h9 => ?_) | refine Runs.kf (by assumption) (fun h9 => ?_) | refine Runs.nt (by assumption) (fun h9 => ?_) | refine Runs.nf (by assumption) (fun h9 => ?_) | refine CondP.ht (by assumption) (fun h9 => ?_) | refine CondP.hf (by assumption) (fun h9 => ?_) | refine CondP.nt (by assumption) (fun h9 => ?_) | refine CondP.nf (by assumption) (fun h9 => ?_)); (try simp only [h9]); clear h9) | ((first | (with_reducible apply CallG.plain1 [4] (w1)) | (with_reducible apply CallG.draw1 [4] (w1))); (focus ((try refine And.intro (leAs_of_eq rfl) ?_); (try refine And.intro (leOL_of_eq rfl) ?_); simp (maxSteps := 9999999) (disch := omega) only [go_sem, hr, hrm, he, hL, k1, hat, q0, hw, hbe]; first | done | (repeat' (first | rfl | (refine And.intro ?_ ?_))))); (focus (simp (maxSteps := 9999999) (disch := omega) only [go_sem, hr, hrm, he, hL, k1, hat, q0, hw, hbe]; rfl))) | ((first | (with_reducible apply CallG.plain1 [] (o1)) | (with_reducible apply CallG.draw1 [] (o1))); (focus ((try refine And.intro (leAs_of_eq rfl) ?_); (try refine And.intro (leOL_of_eq rfl) ?_); simp (maxSteps := 9999999) (disch := omega) only [go_sem, hr, hrm, he, hL, k1, hat, q0, hw, hbe]; first | done | (repeat' (first | rfl | (refine And.intro ?_ ?_))))); (focus (simp (maxSteps := 9999999) (disch := omega) only [go_sem, hr, hrm, he, hL, k1, hat, q0, hw, hbe]; rfl))) | ((first | (with_reducible apply CallG.plain1 [] (o2)) | (with_reducible apply CallG.draw1 [] (o2))); (focus ((try refine And.intro (leAs_of_eq rfl) ?_); (try refine And.intro (leOL_of_eq rfl) ?_); simp (maxSteps := 9999999) (disch := omega) only [go_sem, hr, hrm, he, hL, k1, hat, q0, hw, hbe]; first | done | (repeat' (first | rfl | (refine And.intro ?_ ?_))))); (focus (simp (maxSteps := 9999999) (disch := omega) only [go_sem, hr, hrm, he, hL, k1, hat, q0, hw, hbe]; rfl))) | ((first | (with_reducible apply CallG.plain1 [1, 2, 3] (c1)) | (with_reducible apply CallG.draw1 [1, 2, 3] (c1))); (focus ((try refine And.intro (leAs_of_eq rfl) ?_); (try refine And.intro (leOL_of_eq rfl) ?_); simp (maxSteps := 9999999) (disch := omega) only [go_sem, hr, hrm, he, hL, k1, hat, q0, hw, hbe]; first | done | (repeat' (first | rfl | (refine And.intro ?_ ?_))))); (focus (simp (maxSteps := 9999999) (disch := omega) only [go_sem, hr, hrm, he, hL, k1, hat, q0, hw, hbe]; rfl))) | ((first | (with_reducible apply CallG.plain1 [4] (c2)) | (with_reducible apply CallG.draw1 [4] (c2))); (focus ((try refine And.intro (leAs_of_eq rfl) ?_); (try refine And.intro (leOL_of_eq rfl) ?_); simp (maxSteps := 9999999) (disch := omega) only [go_sem, hr, hrm, he, hL, k1, hat, q0, hw, hbe]; first | done | (repeat' (first | rfl | (refine And.intro ?_ ?_))))); (focus (simp (maxSteps := 9999999) (disch := omega) only [go_sem, hr, hrm, he, hL, k1, hat, q0, hw, hbe]; rfl))) | ((first | (with_reducible apply CallG.plain1 [1, 2, 389] (c3)) | (with_reducible apply CallG.draw1 [1, 2, 389] (c3))); (focus ((try refine And.intro (leAs_of_eq rfl) ?_); (try refine And.intro (leOL_of_eq rfl) ?_); simp (maxSteps := 9999999) (disch := omega) only [go_sem, hr, hrm, he, hL, k1, hat, q0, hw, hbe]; first | done | (repeat' (first | rfl | (refine And.intro ?_ ?_))))); (focus (simp (maxSteps := 9999999) (disch := omega) only [go_sem, hr, hrm, he, hL, k1, hat, q0, hw, hbe]; rfl))) | ((first | (with_reducible apply CallG.plain1 [293] (c4)) | (with_reducible apply CallG.draw1 [293] (c4))); (focus ((try refine And.intro (leAs_of_eq rfl) ?_); (try refine And.intro (leOL_of_eq rfl) ?_); simp (maxSteps := 9999999) (disch := omega) only [go_sem, hr, hrm, he, hL, k1, hat, q0, hw, hbe]; first | done | (repeat' (first | rfl | (refine And.intro ?_ ?_))))); (focus (simp (maxSteps := 9999999) (disch := omega) only [go_sem, hr, hrm, he, hL, k1, hat, q0, hw, hbe]; rfl))) | ((first | (with_reducible apply CallG.plain1 [1, 2, 389] (c5)) | (with_reducible apply CallG.draw1 [1, 2, 389] (c5))); (focus ((try refine And.intro (leAs_of_eq rfl) ?_); (try refine And.intro (leOL_of_eq rfl) ?_); simp (maxSteps := 9999999) (disch := omega) only [go_sem, hr, hrm, he, hL, k1, hat, q0, hw, hbe]; first | done | (repeat' (first | rfl | (refine And.intro ?_ ?_))))); (focus (simp (maxSteps := 9999999) (disch := omega) only [go_sem, hr, hrm, he, hL, k1, hat, q0, hw, hbe]; rfl))) | ((first | (with_reducible apply CallG.plain1 [1, 2, 389] (c6)) | (with_reducible apply CallG.draw1 [1, 2, 389] (c6))); (focus ((try refine And.intro (leAs_of_eq rfl) ?_); (try refine And.intro (leOL_of_eq rfl) ?_); simp (maxSteps := 9999999) (disch := omega) only [go_sem, hr, hrm, he, hL, k1, hat, q0, hw, hbe]; first | done | (repeat' (first | rfl | (refine And.intro ?_ ?_))))); (focus (simp (maxSteps := 9999999) (disch := omega) only [go_sem, hr, hrm, he, hL, k1, hat, q0, hw, hbe]; rfl))) | ((first | (with_reducible apply CallG.plain1 [293] (c7)) | (with_reducible apply CallG.draw1 [293] (c7))); (focus ((try refine And.intro (leAs_of_eq rfl) ?_); (try refine And.intro (leOL_of_eq rfl) ?_); simp (maxSteps := 9999999) (disch := omega) only [go_sem, hr, hrm, he, hL, k1, hat, q0, hw, hbe]; first | done | (repeat' (first | rfl | (refine And.intro ?_ ?_))))); (focus (simp (maxSteps := 9999999) (disch := omega) only [go_sem, hr, hrm, he, hL, k1, hat, q0, hw, hbe]; rfl))) | ((first | (with_reducible apply CallG.plain1 [1, 2, 389] (c8)) | (with_reducible apply CallG.draw1 [1, 2, 389] (c8))); (focus ((try refine And.intro (leAs_of_eq rfl) ?_); (try refine And.intro (leOL_of_eq rfl) ?_); simp (maxSteps := 9999999) (disch := omega) only [go_sem, hr, hrm, he, hL, k1, hat, q0, hw, hbe]; first | done | (repeat' (first | rfl | (refine And.intro ?_ ?_))))); (focus (simp (maxSteps := 9999999) (disch := omega) only [go_sem, hr, hrm, he, hL, k1, hat, q0, hw, hbe]; rfl))) | ((first | (with_reducible apply CallG.plain1 [293] (c9)) | (with_reducible apply CallG.draw1 [293] (c9))); (focus ((try refine And.intro (leAs_of_eq rfl) ?_); (try refine And.intro (leOL_of_eq rfl) ?_); simp (maxSteps := 9999999) (disch := omega) only [go_sem, hr, hrm, he, hL, k1, hat, q0, hw, hbe]; first | done | (repeat' (first | rfl | (refine And.intro ?_ ?_))))); (focus (simp (maxSteps := 9999999) (disch := omega) only [go_sem, hr, hrm, he, hL, k1, hat, q0, hw, hbe]; rfl))) | ((first | (with_reducible apply CallG.plain1 [1253] (t1)) | (with_reducible apply CallG.draw1 [1253] (t1))); (focus ((try refine And.intro (leAs_of_eq rfl) ?_); (try refine And.intro (leOL_of_eq rfl) ?_); simp (maxSteps := 9999999) (disch := omega) only [go_sem, hr, hrm, he, hL, k1, hat, q0, hw, hbe]; first | done | (repeat' (first | rfl | (refine And.intro ?_ ?_))))); (focus (simp (maxSteps := 9999999) (disch := omega) only [go_sem, hr, hrm, he, hL, k1, hat, q0, hw, hbe]; rfl))) | ((first | (with_reducible apply CallG.plain1 [1525] (t2)) | (with_reducible apply CallG.draw1 [1525] (t2))); (focus ((try refine And.intro (leAs_of_eq rfl) ?_); (try refine And.intro (leOL_of_eq rfl) ?_); simp (maxSteps := 9999999) (disch := omega) only [go_sem, hr, hrm, he, hL, k1, hat, q0, hw, hbe]; first | done | (repeat' (first | rfl | (refine And.intro ?_ ?_))))); (focus (simp (maxSteps := 9999999) (disch := omega) only [go_sem, hr, hrm, he, hL, k1, hat, q0, hw, hbe]; rfl))) | ((first | (with_reducible apply CallG.plain1 [1269, 1349] (s1)) | (with_reducible apply CallG.draw1 [1269, 1349] (s1))); (focus ((try refine And.intro (leAs_of_eq rfl) ?_); (try refine And.intro (leOL_of_eq rfl) ?_); simp (maxSteps := 9999999) (disch := omega) only [go_sem, hr, hrm, he, hL, k1, hat, q0, hw, hbe]; first | done | (repeat' (first | rfl | (refine And.intro ?_ ?_))))); (focus (simp (maxSteps := 9999999) (disch := omega) only [go_sem, hr, hrm, he, hL, k1, hat, q0, hw, hbe]; rfl))) | ((first | (with_reducible apply CallG.plain1 [1541, 1637] (s2)) | (with_reducible apply CallG.draw1 [1541, 1637] (s2))); (focus ((try refine And.intro (leAs_of_eq rfl) ?_); (try refine And.intro (leOL_of_eq rfl) ?_); simp (maxSteps := 9999999) (disch := omega) only [go_sem, hr, hrm, he, hL, k1, hat, q0, hw, hbe]; first | done | (repeat' (first | rfl | (refine And.intro ?_ ?_))))); (focus (simp (maxSteps := 9999999) (disch := omega) only [go_sem, hr, hrm, he, hL, k1, hat, q0, hw, hbe]; rfl)))); (try simp (maxSteps := 9999999) (disch := omega) only [go_sem, hr, hrm, he, hL, k1, hat, q0, hw, hbe]); (try (refine And.intro ?_ ?_; (focus (first | omega | (simp only [go_sem]; done) | (simp; done) | (simp; omega) | assumption))))) | ((first | refine CondP.split (fun hif => ?_) (fun hif => ?_) | refine Runs.part (fun hif => ?_) (fun hif => ?_)) <;> ((try simp only [hif]); (try simp only [decide_eq_true_eq, decide_eq_false_iff_not, Bool.not_eq_true, Bool.not_eq_false, Bool.not_eq_true', Bool.not_eq_false', beq_iff_eq, bne_iff_ne, bne_eq_false_iff_eq, beq_eq_false_iff_ne, ne_eq, Bool.and_eq_true, Bool.or_eq_true, Bool.or_eq_false_iff] at hif); (try (have h9 : _ = true := hif; simp only [h9])); (try (have h9 : _ = false := hif; simp only [h9])); (try simp (maxSteps := 9999999) (disch := omega) only [go_sem, hr, hrm, he, hL, k1, hat, q0, hw, hbe]); (try (refine And.intro ?_ ?_; (focus (first | omega | (simp only [go_sem]; done) | (simp; done) | (simp; omega) | assumption)))); (try (exfalso; omega; done))))))
        (apply Back.to (i + 1, y) [0, 1, 2, 389, 293]; (focus ((try simp (maxSteps := 9999999) (disch := omega) only [go_sem, hr, hrm, he]); first | done | omega)); rotate_left; (focus (simp (maxSteps := 9999999) (disch := omega) only [go_sem, hr, hrm, he]; (try (repeat' (first | done | trivial | rfl | exact leAs_rfl _ | decide | (refine And.intro ?_ ?_) | (simp; done) | omega | (simp; decide)))))))
        exact ⟨by simp only; omega, hok2, by simp only; omega⟩
      | some m =>
        obtain ⟨j, hj, hjm, hfj⟩ := find_some hok2 hg
        rw [hg] at c3
        rw [hfj] at c4
        simp only [Option.getD_some, Option.isSome_some] at c3
        have hatj := rm_at 0 y.l j hj
        rw [Nat.zero_add, hjm] at hatj
        have tm := to10_any m
        have q2 : ((0 : Int) ≤ (j : Int)) = True := eq_true (by omega)
        have hmm : mkE m m = true := by rw [mkE_dec]; simp
        clear hg hfj hjm
        (try simp (maxSteps := 9999999) (disch := omega) only [go_sem])
        (repeat' (first | refine AWpA.seq ?_ | refine AWpA.block ?_ | (with_reducible refine CondP.tt ?_) | (with_reducible refine CondP.ff ?_) | refine AWpA.condv (by simp (maxSteps := 9999999) (disch := omega) only [go_sem, hr, hrm, he, hL, hly, k1, hat, hatj, q0, q2, hw, hbe, hmm]; rfl) ?_ | ((first | (apply AWpA.region; (focus (simp (maxSteps := 9999999) (disch := omega) only [go_sem, hr, hrm, he, hL, hly, k1, hat, hatj, q0, q2, hw, hbe, hmm]; rfl))) | (apply AWpA.draw [] [] follows; (focus (first | rfl | decide)); (focus (simp (maxSteps := 9999999) (disch := omega) only [go_sem, hr, hrm, he, hL, hly, k1, hat, hatj, q0, q2, hw, hbe, hmm]; rfl)); (focus (simp (maxSteps := 9999999) (disch := omega) only [go_sem, hr, hrm, he, hL, hly, k1, hat, hatj, q0, q2, hw, hbe, hmm]; first | done | trivial)); (focus (simp (maxSteps := 9999999) (disch := omega) only [go_sem, hr, hrm, he, hL, hly, k1, hat, hatj, q0, q2, hw, hbe, hmm]; rfl))) | (apply TailK.go; (focus (simp (maxSteps := 9999999) (disch := omega) only [go_sem, hr, hrm, he, hL, hly, k1, hat, hatj, q0, q2, hw, hbe, hmm]; rfl))) | refine AWpA.skip ?_ | refine AWpA.exit ?_ | refine AWpA.ret ?_ | (with_reducible refine ARoundsA.succ ?_) | ((first | refine Runs.kt (by assumption) (fun h9 => ?_) | refine Runs.kf (by assumption) (fun h9 => ?_) | refine Runs.nt (by assumption) (fun h9 => ?_) | refine Runs.nf (by assumption) (fun h9 => ?_) | refine CondP.ht (by assumption) (fun h9 => ?_) | refine CondP.hf (by assumption) (fun h9 => ?_) | refine CondP.nt (by assumption) (fun h9 => ?_) | refine CondP.nf (by assumption) (fun h9 => ?_)); (try simp only [h9]); clear h9) | ((first | (with_reducible apply CallG.plain1 [] (tm)) | (with_reducible apply CallG.draw1 [] (tm))); (focus ((try refine And.intro (leAs_of_eq rfl) ?_); (try refine And.intro (leOL_of_eq rfl) ?_); simp (maxSteps := 9999999) (disch := omega) only [go_sem, hr, hrm, he, hL, hly, k1, hat, hatj, q0, q2, hw, hbe, hmm]; first | done | (repeat' (first | rfl | (refine And.intro ?_ ?_))))); (focus (simp (maxSteps := 9999999) (disch := omega) only [go_sem, hr, hrm, he, hL, hly, k1, hat, hatj, q0, q2, hw, hbe, hmm]; rfl))) | ((first | (with_reducible apply CallG.plain1 [4] (w1)) | (with_reducible apply CallG.draw1 [4] (w1))); (focus ((try refine And.intro (leAs_of_eq rfl) ?_); (try refine And.intro (leOL_of_eq rfl) ?_); simp (maxSteps := 9999999) (disch := omega) only [go_sem, hr, hrm, he, hL, hly, k1, hat, hatj, q0, q2, hw, hbe, hmm]; first | done | (repeat' (first | rfl | (refine And.intro ?_ ?_))))); (focus (simp (maxSteps := 9999999) (disch := omega) only [go_sem, hr, hrm, he, hL, hly, k1, hat, hatj, q0, q2, hw, hbe, hmm]; rfl))) | ((first | (with_reducible apply CallG.plain1 [] (o1)) | (with_reducible apply CallG.draw1 [] (o1))); (focus ((try refine And.intro (leAs_of_eq rfl) ?_); (try refine And.intro (leOL_of_eq rfl) ?_); simp (maxSteps := 9999999) (disch := omega) only [go_sem, hr, hrm, he, hL, hly, k1, hat, hatj, q0, q2, hw, hbe, hmm]; first | done | (repeat' (first | rfl | (refine And.intro ?_ ?_))))); (focus (simp (maxSteps := 9999999) (disch := omega) only [go_sem, hr, hrm, he, hL, hly, k1, hat, hatj, q0, q2, hw, hbe, hmm]; rfl))) | ((first | (with_reducible apply CallG.plain1 [] (o2)) | (with_reducible apply CallG.draw1 [] (o2))); (focus ((try refine And.intro (leAs_of_eq rfl) ?_); (try refine And.intro (leOL_of_eq rfl) ?_); simp (maxSteps := 9999999) (disch := omega) only [go_sem, hr, hrm, he, hL, hly, k1, hat, hatj, q0, q2, hw, hbe, hmm]; first | done | (repeat' (first | rfl | (refine And.intro ?_ ?_))))); (focus (simp (maxSteps := 9999999) (disch := omega) only [go_sem, hr, hrm, he, hL, hly, k1, hat, hatj, q0, q2, hw, hbe, hmm]; rfl))) | ((first | (with_reducible apply CallG.plain1 [1, 2, 3] (c1)) | (with_reducible apply CallG.draw1 [1, 2, 3] (c1))); (focus ((try refine And.intro (leAs_of_eq rfl) ?_); (try refine And.intro (leOL_of_eq rfl) ?_); simp (maxSteps := 9999999) (disch := omega) only [go_sem, hr, hrm, he, hL, hly, k1, hat, hatj, q0, q2, hw, hbe, hmm]; first | done | (repeat' (first | rfl | (refine And.intro ?_ ?_))))); (focus (simp (maxSteps := 9999999) (disch := omega) only [go_sem, hr, hrm, he, hL, hly, k1, hat, hatj, q0, q2, hw, hbe, hmm]; rfl))) | ((first | (with_reducible apply CallG.plain1 [4] (c2)) | (with_reducible apply CallG.draw1 [4] (c2))); (focus ((try refine And.intro (leAs_of_eq rfl) ?_); (try refine And.intro (leOL_of_eq rfl) ?_); simp (maxSteps := 9999999) (disch := omega) only [go_sem, hr, hrm, he, hL, hly, k1, hat, hatj, q0, q2, hw, hbe, hmm]; first | done | (repeat' (first | rfl | (refine And.intro ?_ ?_))))); (focus (simp (maxSteps := 9999999) (disch := omega) only [go_sem, hr, hrm, he, hL, hly, k1, hat, hatj, q0, q2, hw, hbe, hmm]; rfl))) | ((first | (with_reducible apply CallG.plain1 [1, 2, 389] (c3)) | (with_reducible apply CallG.draw1 [1, 2, 389] (c3))); (focus ((try refine And.intro (leAs_of_eq rfl) ?_); (try refine And.intro (leOL_of_eq rfl) ?_); simp (maxSteps := 9999999) (disch := omega) only [go_sem, hr, hrm, he, hL, hly, k1, hat, hatj, q0, q2, hw, hbe, hmm]; first | done | (repeat' (first | rfl | (refine And.intro ?_ ?_))))); (focus (simp (maxSteps := 9999999) (disch := omega) only [go_sem, hr, hrm, he, hL, hly, k1, hat, hatj, q0, q2, hw, hbe, hmm]; rfl))) | ((first | (with_reducible apply CallG.plain1 [293] (c4)) | (with_reducible apply CallG.draw1 [293] (c4))); (focus ((try refine And.intro (leAs_of_eq rfl) ?_); (try refine And.intro (leOL_of_eq rfl) ?_); simp (maxSteps := 9999999) (disch := omega) only [go_sem, hr, hrm, he, hL, hly, k1, hat, hatj, q0, q2, hw, hbe, hmm]; first | done | (repeat' (first | rfl | (refine And.intro ?_ ?_))))); (focus (simp (maxSteps := 9999999) (disch := omega) only [go_sem, hr, hrm, he, hL, hly, k1, hat, hatj, q0, q2, hw, hbe, hmm]; rfl))) | ((first | (with_reducible apply CallG.plain1 [1, 2, 389] (c5)) | (with_reducible apply CallG.draw1 [1, 2, 389] (c5))); (focus ((try refine And.intro (leAs_of_eq rfl) ?_); (try refine And.intro (leOL_of_eq rfl) ?_); simp (maxSteps := 9999999) (disch := omega) only [go_sem, hr, hrm, he, hL, hly, k1, hat, hatj, q0, q2, hw, hbe, hmm]; first | done | (repeat' (first | rfl | (refine And.intro ?_ ?_))))); (focus (simp (maxSteps := 9999999) (disch := omega) only [go_sem, hr, hrm, he, hL, hly, k1, hat, hatj, q0, q2, hw, hbe, hmm]; rfl))) | ((first | (with_reducible apply CallG.plain1 [1, 2, 389] (c6)) | (with_reducible apply CallG.draw1 [1, 2, 389] (c6))); (focus ((try refine And.intro (leAs_of_eq rfl) ?_); (try refine And.intro (leOL_of_eq rfl) ?_); simp (maxSteps := 9999999) (disch := omega) only [go_sem, hr, hrm, he, hL, hly, k1, hat, hatj, q0, q2, hw, hbe, hmm]; first | done | (repeat' (first | rfl | (refine And.intro ?_ ?_))))); (focus (simp (maxSteps := 9999999) (disch := omega) only [go_sem, hr, hrm, he, hL, hly, k1, hat, hatj, q0, q2, hw, hbe, hmm]; rfl))) | ((first | (with_reducible apply CallG.plain1 [293] (c7)) | (with_reducible apply CallG.draw1 [293] (c7))); (focus ((try refine And.intro (leAs_of_eq rfl) ?_); (try refine And.intro (leOL_of_eq rfl) ?_); simp (maxSteps := 9999999) (disch := omega) only [go_sem, hr, hrm, he, hL, hly, k1, hat, hatj, q0, q2, hw, hbe, hmm]; first | done | (repeat' (first | rfl | (refine And.intro ?_ ?_))))); (focus (simp (maxSteps := 9999999) (disch := omega) only [go_sem, hr, hrm, he, hL, hly, k1, hat, hatj, q0, q2, hw, hbe, hmm]; rfl))) | ((first | (with_reducible apply CallG.plain1 [1, 2, 389] (c8)) | (with_reducible apply CallG.draw1 [1, 2, 389] (c8))); (focus ((try refine And.intro (leAs_of_eq rfl) ?_); (try refine And.intro (leOL_of_eq rfl) ?_); simp (maxSteps := 9999999) (disch := omega) only [go_sem, hr, hrm, he, hL, hly, k1, hat, hatj, q0, q2, hw, hbe, hmm]; first | done | (repeat' (first | rfl | (refine And.intro ?_ ?_))))); (focus (simp (maxSteps := 9999999) (disch := omega) only [go_sem, hr, hrm, he, hL, hly, k1, hat, hatj, q0, q2, hw, hbe, hmm]; rfl))) | ((first | (with_reducible apply CallG.plain1 [293] (c9)) | (with_reducible apply CallG.draw1 [293] (c9))); (focus ((try refine And.intro (leAs_of_eq rfl) ?_); (try refine And.intro (leOL_of_eq rfl) ?_); simp (maxSteps := 9999999) (disch := omega) only [go_sem, hr, hrm, he, hL, hly, k1, hat, hatj, q0, q2, hw, hbe, hmm]; first | done | (repeat' (first | rfl | (refine And.intro ?_ ?_))))); (focus (simp (maxSteps := 9999999) (disch := omega) only [go_sem, hr, hrm, he, hL, hly, k1, hat, hatj, q0, q2, hw, hbe, hmm]; rfl))) | ((first | (with_reducible apply CallG.plain1 [1253] (t1)) | (with_reducible apply CallG.draw1 [1253] (t1))); (focus ((try refine And.intro (leAs_of_eq rfl) ?_); (try refine And.intro (leOL_of_eq rfl) ?_); simp (maxSteps := 9999999) (disch := omega) only [go_sem, hr, hrm, he, hL, hly, k1, hat, hatj, q0, q2, hw, hbe, hmm]; first | done | (repeat' (first | rfl | (refine And.intro ?_ ?_))))); (focus (simp (maxSteps := 9999999) (disch := omega) only [go_sem, hr, hrm, he, hL, hly, k1, hat, hatj, q0, q2, hw, hbe, hmm]; rfl))) | ((first | (with_reducible apply CallG.plain1 [1525] (t2)) | (with_reducible apply CallG.draw1 [1525] (t2))); (focus ((try refine And.intro (leAs_of_eq rfl) ?_); (try refine And.intro (leOL_of_eq rfl) ?_); simp (maxSteps := 9999999) (disch := omega) only [go_sem, hr, hrm, he, hL, hly, k1, hat, hatj, q0, q2, hw, hbe, hmm]; first | done | (repeat' (first | rfl | (refine And.intro ?_ ?_))))); (focus (simp (maxSteps := 9999999) (disch := omega) only [go_sem, hr, hrm, he, hL, hly, k1, hat, hatj, q0, q2, hw, hbe, hmm]; rfl))) | ((first | (with_reducible apply CallG.plain1 [1269, 1349] (s1)) | (with_reducible apply CallG.draw1 [1269, 1349] (s1))); (focus ((try refine And.intro (leAs_of_eq rfl) ?_); (try refine And.intro (leOL_of_eq rfl) ?_); simp (maxSteps := 9999999) (disch := omega) only [go_sem, hr, hrm, he, hL, hly, k1, hat, hatj, q0, q2, hw, hbe, hmm]; first | done | (repeat' (first | rfl | (refine And.intro ?_ ?_))))); (focus (simp (maxSteps := 9999999) (disch := omega) only [go_sem, hr, hrm, he, hL, hly, k1, hat, hatj, q0, q2, hw, hbe, hmm]; rfl))) | ((first | (with_reducible apply CallG.plain1 [1541, 1637] (s2)) | (with_reducible apply CallG.draw1 [1541, 1637] (s2))); (focus ((try refine And.intro (leAs_of_eq rfl) ?_); (try refine And.intro (leOL_of_eq rfl) ?_); simp (maxSteps := 9999999) (disch := omega) only [go_sem, hr, hrm, he, hL, hly, k1, hat, hatj, q0, q2, hw, hbe, hmm]; first | done | (repeat' (first | rfl | (refine And.intro ?_ ?_))))); (focus (simp (maxSteps := 9999999) (disch := omega) only [go_sem, hr, hrm, he, hL, hly, k1, hat, hatj, q0, q2, hw, hbe, hmm]; rfl)))); (try simp (maxSteps := 9999999) (disch := omega) only [go_sem, hr, hrm, he, hL, hly, k1, hat, hatj, q0, q2, hw, hbe, hmm]); (try (refine And.intro ?_ ?_; (focus (first | omega | (simp only [go_sem]; done) | (simp; done) | (simp; omega) | assumption))))) | ((first | refine CondP.split (fun hif => ?_) (fun hif => ?_) | refine Runs.part (fun hif => ?_) (fun hif => ?_)) <;> ((try simp only [hif]); (try simp only [decide_eq_true_eq, decide_eq_false_iff_not, Bool.not_eq_true, Bool.not_eq_false, Bool.not_eq_true', Bool.not_eq_false', beq_iff_eq, bne_iff_ne, bne_eq_false_iff_eq, beq_eq_false_iff_ne, ne_eq, Bool.and_eq_true, Bool.or_eq_true, Bool.or_eq_false_iff] at hif); (try (have h9 : _ = true := hif; simp only [h9])); (try (have h9 : _ = false := hif; simp only [h9])); (try simp (maxSteps := 9999999) (disch := omega) only [go_sem, hr, hrm, he, hL, hly, k1, hat, hatj, q0, q2, hw, hbe, hmm]); (try (refine And.intro ?_ ?_; (focus (first | omega | (simp only [go_sem]; done) | (simp; done) | (simp; omega) | assumption)))); (try (exfalso; omega; done))))))
        (apply Back.to (i + 1, y) [0, 1, 2, 389, 293]; (focus ((try simp (maxSteps := 9999999) (disch := omega) only [go_sem, hr, hrm, he]); first | done | omega)); rotate_left; (focus (simp (maxSteps := 9999999) (disch := omega) only [go_sem, hr, hrm, he]; (try (repeat' (first | done | trivial | rfl | exact leAs_rfl _ | decide | (refine And.intro ?_ ?_) | (simp; done) | omega | (simp; decide)))))))
        exact ⟨by simp only; omega, hok2, by simp only; omega⟩
    · have q0 : (a.kind = 0) = False := eq_false hk0
      have c1 := mdrop_any x a.mark.key hok (by omega)
      have c2 := rdropM_any x.l a.mark.key (by omega)
      have e2 : dropF x.l a.mark.key = (dropX x a.mark.key).l := rfl
      rw [e2] at c2
      have hlen2 : (dropX x a.mark.key).l.length ≤ x.l.length + 1 := by rw [← e2]; have := dropF_le x.l a.mark.key; omega
      clear e2
      have hok2 := hok.drop a.mark.key
      generalize dropX x a.mark.key = y at *
      generalize findR x.l a.mark.key = f at *
      generalize (getX x.e a.mark.key).isSome = b at *
      have c3 := mget_any y a.below.key
      have c4 := rfindM_any y.l a.below.key (by omega)
      have c5 := mlen_any y
      have c6 := mnewest_any y a.n hok2.rise (by omega)
      have c7 := rbelowM_any y.l zeroM a.n hok2.rise (by omega)
      have c8 := mbelow_any y a.below a.n hok2.rise (by omega)
      have c9 := rbelowM_any y.l a.below a.n hok2.rise (by omega)
      have hla : (belowM y.l zeroM a.n).length ≤ 1099511627776 := by
        have : (belowM y.l zeroM a.n).length ≤ y.l.length := by unfold belowM; simp; omega
        omega
      have hlb : (belowM y.l a.below a.n).length ≤ 1099511627776 := by
        have : (belowM y.l a.below a.n).length ≤ y.l.length := by unfold belowM; simp; omega
        omega
      generalize belowM y.l zeroM a.n = A at *
      generalize belowM y.l a.below a.n = B at *
      have t1 := tos_any 0 A hla
      have t2 := tos_any 0 B hlb
      have s1 := same10_any 0 0 A A hla hla
      have s2 := same10_any 0 0 B B hlb hlb
      rw [decide_eq_true rfl] at s1 s2
      have hly := rm_len 0 y.l
      cases hg : getX y.e a.below.key with
      | none =>
        have hfn := find_none hok2 hg
        rw [hg] at c3
        rw [hfn] at c4
        simp only [Option.getD_none, Option.isSome_none] at c3
        clear hg hfn
        (try simp (maxSteps := 9999999) (disch := omega) only [go_sem])
        (repeat' (first | refine AWpA.seq ?_ | refine AWpA.block ?_ | (with_reducible refine CondP.tt ?_) | (with_reducible refine CondP.ff ?_) | refine AWpA.condv (by simp (maxSteps := 9999999) (disch := omega) only [go_sem, hr, hrm, he, hL, k1, hat, q0, hw, hbe]; rfl) ?_ | ((first | (apply AWpA.region; (focus (simp (maxSteps := 9999999) (disch := omega) only [go_sem, hr, hrm, he, hL, k1, hat, q0, hw, hbe]; rfl))) | (apply AWpA.draw [] [] follows; (focus (first | rfl | decide)); (focus (simp (maxSteps := 9999999) (disch := omega) only [go_sem, hr, hrm, he, hL, k1, hat, q0, hw, hbe]; rfl)); (focus (simp (maxSteps := 9999999) (disch := omega) only [go_sem, hr, hrm, he, hL, k1, hat, q0, hw, hbe]; first | done | trivial)); (focus (simp (maxSteps := 9999999) (disch := omega) only [go_sem, hr, hrm, he, hL, k1, hat, q0, hw, hbe]; rfl))) | (apply TailK.go; (focus (simp (maxSteps := 9999999) (disch := omega) only [go_sem, hr, hrm, he, hL, k1, hat, q0, hw, hbe]; rfl))) | refine AWpA.skip ?_ | refine AWpA.exit ?_ | refine AWpA.ret ?_ | (with_reducible refine ARoundsA.succ ?_) | ((first | refine Runs.kt (by assumption) (fun h9 => ?_) | refine Runs.kf (by assumption) (fun h9 => ?_) | refine Runs.nt (by assumption) (fun h9 => ?_) | refine Runs.nf (by assumption) (fun h9 => ?_) | refine CondP.ht (by assumption) (fun h9 => ?_) | refine CondP.hf (by assumption) (fun h9 => ?_) | refine CondP.nt (by assumption) (fun h9 => ?_) | refine CondP.nf (by assumption) (fun h9 => ?_)); (try simp only [h9]); clear h9) | ((first | (with_reducible apply CallG.plain1 [4] (w1)) | (with_reducible apply CallG.draw1 [4] (w1))); (focus ((try refine And.intro (leAs_of_eq rfl) ?_); (try refine And.intro (leOL_of_eq rfl) ?_); simp (maxSteps := 9999999) (disch := omega) only [go_sem, hr, hrm, he, hL, k1, hat, q0, hw, hbe]; first | done | (repeat' (first | rfl | (refine And.intro ?_ ?_))))); (focus (simp (maxSteps := 9999999) (disch := omega) only [go_sem, hr, hrm, he, hL, k1, hat, q0, hw, hbe]; rfl))) | ((first | (with_reducible apply CallG.plain1 [] (o1)) | (with_reducible apply CallG.draw1 [] (o1))); (focus ((try refine And.intro (leAs_of_eq rfl) ?_); (try refine And.intro (leOL_of_eq rfl) ?_); simp (maxSteps := 9999999) (disch := omega) only [go_sem, hr, hrm, he, hL, k1, hat, q0, hw, hbe]; first | done | (repeat' (first | rfl | (refine And.intro ?_ ?_))))); (focus (simp (maxSteps := 9999999) (disch := omega) only [go_sem, hr, hrm, he, hL, k1, hat, q0, hw, hbe]; rfl))) | ((first | (with_reducible apply CallG.plain1 [] (o2)) | (with_reducible apply CallG.draw1 [] (o2))); (focus ((try refine And.intro (leAs_of_eq rfl) ?_); (try refine And.intro (leOL_of_eq rfl) ?_); simp (maxSteps := 9999999) (disch := omega) only [go_sem, hr, hrm, he, hL, k1, hat, q0, hw, hbe]; first | done | (repeat' (first | rfl | (refine And.intro ?_ ?_))))); (focus (simp (maxSteps := 9999999) (disch := omega) only [go_sem, hr, hrm, he, hL, k1, hat, q0, hw, hbe]; rfl))) | ((first | (with_reducible apply CallG.plain1 [1, 2, 3] (c1)) | (with_reducible apply CallG.draw1 [1, 2, 3] (c1))); (focus ((try refine And.intro (leAs_of_eq rfl) ?_); (try refine And.intro (leOL_of_eq rfl) ?_); simp (maxSteps := 9999999) (disch := omega) only [go_sem, hr, hrm, he, hL, k1, hat, q0, hw, hbe]; first | done | (repeat' (first | rfl | (refine And.intro ?_ ?_))))); (focus (simp (maxSteps := 9999999) (disch := omega) only [go_sem, hr, hrm, he, hL, k1, hat, q0, hw, hbe]; rfl))) | ((first | (with_reducible apply CallG.plain1 [4] (c2)) | (with_reducible apply CallG.draw1 [4] (c2))); (focus ((try refine And.intro (leAs_of_eq rfl) ?_); (try refine And.intro (leOL_of_eq rfl) ?_); simp (maxSteps := 9999999) (disch := omega) only [go_sem, hr, hrm, he, hL, k1, hat, q0, hw, hbe]; first | done | (repeat' (first | rfl | (refine And.intro ?_ ?_))))); (focus (simp (maxSteps := 9999999) (disch := omega) only [go_sem, hr, hrm, he, hL, k1, hat, q0, hw, hbe]; rfl))) | ((first | (with_reducible apply CallG.plain1 [1, 2, 405] (c3)) | (with_reducible apply CallG.draw1 [1, 2, 405] (c3))); (focus ((try refine And.intro (leAs_of_eq rfl) ?_); (try refine And.intro (leOL_of_eq rfl) ?_); simp (maxSteps := 9999999) (disch := omega) only [go_sem, hr, hrm, he, hL, k1, hat, q0, hw, hbe]; first | done | (repeat' (first | rfl | (refine And.intro ?_ ?_))))); (focus (simp (maxSteps := 9999999) (disch := omega) only [go_sem, hr, hrm, he, hL, k1, hat, q0, hw, hbe]; rfl))) | ((first | (with_reducible apply CallG.plain1 [309] (c4)) | (with_reducible apply CallG.draw1 [309] (c4))); (focus ((try refine And.intro (leAs_of_eq rfl) ?_); (try refine And.intro (leOL_of_eq rfl) ?_); simp (maxSteps := 9999999) (disch := omega) only [go_sem, hr, hrm, he, hL, k1, hat, q0, hw, hbe]; first | done | (repeat' (first | rfl | (refine And.intro ?_ ?_))))); (focus (simp (maxSteps := 9999999) (disch := omega) only [go_sem, hr, hrm, he, hL, k1, hat, q0, hw, hbe]; rfl))) | ((first | (with_reducible apply CallG.plain1 [1, 2, 405] (c5)) | (with_reducible apply CallG.draw1 [1, 2, 405] (c5))); (focus ((try refine And.intro (leAs_of_eq rfl) ?_); (try refine And.intro (leOL_of_eq rfl) ?_); simp (maxSteps := 9999999) (disch := omega) only [go_sem, hr, hrm, he, hL, k1, hat, q0, hw, hbe]; first | done | (repeat' (first | rfl | (refine And.intro ?_ ?_))))); (focus (simp (maxSteps := 9999999) (disch := omega) only [go_sem, hr, hrm, he, hL, k1, hat, q0, hw, hbe]; rfl))) | ((first | (with_reducible apply CallG.plain1 [1, 2, 405] (c6)) | (with_reducible apply CallG.draw1 [1, 2, 405] (c6))); (focus ((try refine And.intro (leAs_of_eq rfl) ?_); (try refine And.intro (leOL_of_eq rfl) ?_); simp (maxSteps := 9999999) (disch := omega) only [go_sem, hr, hrm, he, hL, k1, hat, q0, hw, hbe]; first | done | (repeat' (first | rfl | (refine And.intro ?_ ?_))))); (focus (simp (maxSteps := 9999999) (disch := omega) only [go_sem, hr, hrm, he, hL, k1, hat, q0, hw, hbe]; rfl))) | ((first | (with_reducible apply CallG.plain1 [309] (c7)) | (with_reducible apply CallG.draw1 [309] (c7))); (focus ((try refine And.intro (leAs_of_eq rfl) ?_); (try refine And.intro (leOL_of_eq rfl) ?_); simp (maxSteps := 9999999) (disch := omega) only [go_sem, hr, hrm, he, hL, k1, hat, q0, hw, hbe]; first | done | (repeat' (first | rfl | (refine And.intro ?_ ?_))))); (focus (simp (maxSteps := 9999999) (disch := omega) only [go_sem, hr, hrm, he, hL, k1, hat, q0, hw, hbe]; rfl))) | ((first | (with_reducible apply CallG.plain1 [1, 2, 405] (c8)) | (with_reducible apply CallG.draw1 [1, 2, 405] (c8))); (focus ((try refine And.intro (leAs_of_eq rfl) ?_); (try refine And.intro (leOL_of_eq rfl) ?_); simp (maxSteps := 9999999) (disch := omega) only [go_sem, hr, hrm, he, hL, k1, hat, q0, hw, hbe]; first | done | (repeat' (first | rfl | (refine And.intro ?_ ?_))))); (focus (simp (maxSteps := 9999999) (disch := omega) only [go_sem, hr, hrm, he, hL, k1, hat, q0, hw, hbe]; rfl))) | ((first | (with_reducible apply CallG.plain1 [309] (c9)) | (with_reducible apply CallG.draw1 [309] (c9))); (focus ((try refine And.intro (leAs_of_eq rfl) ?_); (try refine And.intro (leOL_of_eq rfl) ?_); simp (maxSteps := 9999999) (disch := omega) only [go_sem, hr, hrm, he, hL, k1, hat, q0, hw, hbe]; first | done | (repeat' (first | rfl | (refine And.intro ?_ ?_))))); (focus (simp (maxSteps := 9999999) (disch := omega) only [go_sem, hr, hrm, he, hL, k1, hat, q0, hw, hbe]; rfl))) | ((first | (with_reducible apply CallG.plain1 [1269] (t1)) | (with_reducible apply CallG.draw1 [1269] (t1))); (focus ((try refine And.intro (leAs_of_eq rfl) ?_); (try refine And.intro (leOL_of_eq rfl) ?_); simp (maxSteps := 9999999) (disch := omega) only [go_sem, hr, hrm, he, hL, k1, hat, q0, hw, hbe]; first | done | (repeat' (first | rfl | (refine And.intro ?_ ?_))))); (focus (simp (maxSteps := 9999999) (disch := omega) only [go_sem, hr, hrm, he, hL, k1, hat, q0, hw, hbe]; rfl))) | ((first | (with_reducible apply CallG.plain1 [1541] (t2)) | (with_reducible apply CallG.draw1 [1541] (t2))); (focus ((try refine And.intro (leAs_of_eq rfl) ?_); (try refine And.intro (leOL_of_eq rfl) ?_); simp (maxSteps := 9999999) (disch := omega) only [go_sem, hr, hrm, he, hL, k1, hat, q0, hw, hbe]; first | done | (repeat' (first | rfl | (refine And.intro ?_ ?_))))); (focus (simp (maxSteps := 9999999) (disch := omega) only [go_sem, hr, hrm, he, hL, k1, hat, q0, hw, hbe]; rfl))) | ((first | (with_reducible apply CallG.plain1 [1285, 1365] (s1)) | (with_reducible apply CallG.draw1 [1285, 1365] (s1))); (focus ((try refine And.intro (leAs_of_eq rfl) ?_); (try refine And.intro (leOL_of_eq rfl) ?_); simp (maxSteps := 9999999) (disch := omega) only [go_sem, hr, hrm, he, hL, k1, hat, q0, hw, hbe]; first | done | (repeat' (first | rfl | (refine And.intro ?_ ?_))))); (focus (simp (maxSteps := 9999999) (disch := omega) only [go_sem, hr, hrm, he, hL, k1, hat, q0, hw, hbe]; rfl))) | ((first | (with_reducible apply CallG.plain1 [1557, 1653] (s2)) | (with_reducible apply CallG.draw1 [1557, 1653] (s2))); (focus ((try refine And.intro (leAs_of_eq rfl) ?_); (try refine And.intro (leOL_of_eq rfl) ?_); simp (maxSteps := 9999999) (disch := omega) only [go_sem, hr, hrm, he, hL, k1, hat, q0, hw, hbe]; first | done | (repeat' (first | rfl | (refine And.intro ?_ ?_))))); (focus (simp (maxSteps := 9999999) (disch := omega) only [go_sem, hr, hrm, he, hL, k1, hat, q0, hw, hbe]; rfl)))); (try simp (maxSteps := 9999999) (disch := omega) only [go_sem, hr, hrm, he, hL, k1, hat, q0, hw, hbe]); (try (refine And.intro ?_ ?_; (focus (first | omega | (simp only [go_sem]; done) | (simp; done) | (simp; omega) | assumption))))) | ((first | refine CondP.split (fun hif => ?_) (fun hif => ?_) | refine Runs.part (fun hif => ?_) (fun hif => ?_)) <;> ((try simp only [hif]); (try simp only [decide_eq_true_eq, decide_eq_false_iff_not, Bool.not_eq_true, Bool.not_eq_false, Bool.not_eq_true', Bool.not_eq_false', beq_iff_eq, bne_iff_ne, bne_eq_false_iff_eq, beq_eq_false_iff_ne, ne_eq, Bool.and_eq_true, Bool.or_eq_true, Bool.or_eq_false_iff] at hif); (try (have h9 : _ = true := hif; simp only [h9])); (try (have h9 : _ = false := hif; simp only [h9])); (try simp (maxSteps := 9999999) (disch := omega) only [go_sem, hr, hrm, he, hL, k1, hat, q0, hw, hbe]); (try (refine And.intro ?_ ?_; (focus (first | omega | (simp only [go_sem]; done) | (simp; done) | (simp; omega) | assumption)))); (try (exfalso; omega; done))))))
        (apply Back.to (i + 1, y) [0, 1, 2, 405, 309]; (focus ((try simp (maxSteps := 9999999) (disch := omega) only [go_sem, hr, hrm, he]); first | done | omega)); rotate_left; (focus (simp (maxSteps := 9999999) (disch := omega) only [go_sem, hr, hrm, he]; (try (repeat' (first | done | trivial | rfl | exact leAs_rfl _ | decide | (refine And.intro ?_ ?_) | (simp; done) | omega | (simp; decide)))))))
        exact ⟨by simp only; omega, hok2, by simp only; omega⟩
      | some m =>
        obtain ⟨j, hj, hjm, hfj⟩ := find_some hok2 hg
        rw [hg] at c3
        rw [hfj] at c4
        simp only [Option.getD_some, Option.isSome_some] at c3
        have hatj := rm_at 0 y.l j hj
        rw [Nat.zero_add, hjm] at hatj
        have tm := to10_any m
        have q2 : ((0 : Int) ≤ (j : Int)) = True := eq_true (by omega)
        have hmm : mkE m m = true := by rw [mkE_dec]; simp
        clear hg hfj hjm
        (try simp (maxSteps := 9999999) (disch := omega) only [go_sem])
        (repeat' (first | refine AWpA.seq ?_ | refine AWpA.block ?_ | (with_reducible refine CondP.tt ?_) | (with_reducible refine CondP.ff ?_) | refine AWpA.condv (by simp (maxSteps := 9999999) (disch := omega) only [go_sem, hr, hrm, he, hL, hly, k1, hat, hatj, q0, q2, hw, hbe, hmm]; rfl) ?_ | ((first | (apply AWpA.region; (focus (simp (maxSteps := 9999999) (disch := omega) only [go_sem, hr, hrm, he, hL, hly, k1, hat, hatj, q0, q2, hw, hbe, hmm]; rfl))) | (apply AWpA.draw [] [] follows; (focus (first | rfl | decide)); (focus (simp (maxSteps := 9999999) (disch := omega) only [go_sem, hr, hrm, he, hL, hly, k1, hat, hatj, q0, q2, hw, hbe, hmm]; rfl)); (focus (simp (maxSteps := 9999999) (disch := omega) only [go_sem, hr, hrm, he, hL, hly, k1, hat, hatj, q0, q2, hw, hbe, hmm]; first | done | trivial)); (focus (simp (maxSteps := 9999999) (disch := omega) only [go_sem, hr, hrm, he, hL, hly, k1, hat, hatj, q0, q2, hw, hbe, hmm]; rfl))) | (apply TailK.go; (focus (simp (maxSteps := 9999999) (disch := omega) only [go_sem, hr, hrm, he, hL, hly, k1, hat, hatj, q0, q2, hw, hbe, hmm]; rfl))) | refine AWpA.skip ?_ | refine AWpA.exit ?_ | refine AWpA.ret ?_ | (with_reducible refine ARoundsA.succ ?_) | ((first | refine Runs.kt (by assumption) (fun h9 => ?_) | refine Runs.kf (by assumption) (fun h9 => ?_) | refine Runs.nt (by assumption) (fun h9 => ?_) | refine Runs.nf (by assumption) (fun h9 => ?_) | refine CondP.ht (by assumption) (fun h9 => ?_) | refine CondP.hf (by assumption) (fun h9 => ?_) | refine CondP.nt (by assumption) (fun h9 => ?_) | refine CondP.nf (by assumption) (fun h9 => ?_)); (try simp only [h9]); clear h9) | ((first | (with_reducible apply CallG.plain1 [] (tm)) | (with_reducible apply CallG.draw1 [] (tm))); (focus ((try refine And.intro (leAs_of_eq rfl) ?_); (try refine And.intro (leOL_of_eq rfl) ?_); simp (maxSteps := 9999999) (disch := omega) only [go_sem, hr, hrm, he, hL, hly, k1, hat, hatj, q0, q2, hw, hbe, hmm]; first | done | (repeat' (first | rfl | (refine And.intro ?_ ?_))))); (focus (simp (maxSteps := 9999999) (disch := omega) only [go_sem, hr, hrm, he, hL, hly, k1, hat, hatj, q0, q2, hw, hbe, hmm]; rfl))) | ((first | (with_reducible apply CallG.plain1 [4] (w1)) | (with_reducible apply CallG.draw1 [4] (w1))); (focus ((try refine And.intro (leAs_of_eq rfl) ?_); (try refine And.intro (leOL_of_eq rfl) ?_); simp (maxSteps := 9999999) (disch := omega) only [go_sem, hr, hrm, he, hL, hly, k1, hat, hatj, q0, q2, hw, hbe, hmm]; first | done | (repeat' (first | rfl | (refine And.intro ?_ ?_))))); (focus (simp (maxSteps := 9999999) (disch := omega) only [go_sem, hr, hrm, he, hL, hly, k1, hat, hatj, q0, q2, hw, hbe, hmm]; rfl))) | ((first | (with_reducible apply CallG.plain1 [] (o1)) | (with_reducible apply CallG.draw1 [] (o1))); (focus ((try refine And.intro (leAs_of_eq rfl) ?_); (try refine And.intro (leOL_of_eq rfl) ?_); simp (maxSteps := 9999999) (disch := omega) only [go_sem, hr, hrm, he, hL, hly, k1, hat, hatj, q0, q2, hw, hbe, hmm]; first | done | (repeat' (first | rfl | (refine And.intro ?_ ?_))))); (focus (simp (maxSteps := 9999999) (disch := omega) only [go_sem, hr, hrm, he, hL, hly, k1, hat, hatj, q0, q2, hw, hbe, hmm]; rfl))) | ((first | (with_reducible apply CallG.plain1 [] (o2)) | (with_reducible apply CallG.draw1 [] (o2))); (focus ((try refine And.intro (leAs_of_eq rfl) ?_); (try refine And.intro (leOL_of_eq rfl) ?_); simp (maxSteps := 9999999) (disch := omega) only [go_sem, hr, hrm, he, hL, hly, k1, hat, hatj, q0, q2, hw, hbe, hmm]; first | done | (repeat' (first | rfl | (refine And.intro ?_ ?_))))); (focus (simp (maxSteps := 9999999) (disch := omega) only [go_sem, hr, hrm, he, hL, hly, k1, hat, hatj, q0, q2, hw, hbe, hmm]; rfl))) | ((first | (with_reducible apply CallG.plain1 [1, 2, 3] (c1)) | (with_reducible apply CallG.draw1 [1, 2, 3] (c1))); (focus ((try refine And.intro (leAs_of_eq rfl) ?_); (try refine And.intro (leOL_of_eq rfl) ?_); simp (maxSteps := 9999999) (disch := omega) only [go_sem, hr, hrm, he, hL, hly, k1, hat, hatj, q0, q2, hw, hbe, hmm]; first | done | (repeat' (first | rfl | (refine And.intro ?_ ?_))))); (focus (simp (maxSteps := 9999999) (disch := omega) only [go_sem, hr, hrm, he, hL, hly, k1, hat, hatj, q0, q2, hw, hbe, hmm]; rfl))) | ((first | (with_reducible apply CallG.plain1 [4] (c2)) | (with_reducible apply CallG.draw1 [4] (c2))); (focus ((try refine And.intro (leAs_of_eq rfl) ?_); (try refine And.intro (leOL_of_eq rfl) ?_); simp (maxSteps := 9999999) (disch := omega) only [go_sem, hr, hrm, he, hL, hly, k1, hat, hatj, q0, q2, hw, hbe, hmm]; first | done | (repeat' (first | rfl | (refine And.intro ?_ ?_))))); (focus (simp (maxSteps := 9999999) (disch := omega) only [go_sem, hr, hrm, he, hL, hly, k1, hat, hatj, q0, q2, hw, hbe, hmm]; rfl))) | ((first | (with_reducible apply CallG.plain1 [1, 2, 405] (c3)) | (with_reducible apply CallG.draw1 [1, 2, 405] (c3))); (focus ((try refine And.intro (leAs_of_eq rfl) ?_); (try refine And.intro (leOL_of_eq rfl) ?_); simp (maxSteps := 9999999) (disch := omega) only [go_sem, hr, hrm, he, hL, hly, k1, hat, hatj, q0, q2, hw, hbe, hmm]; first | done | (repeat' (first | rfl | (refine And.intro ?_ ?_))))); (focus (simp (maxSteps := 9999999) (disch := omega) only [go_sem, hr, hrm, he, hL, hly, k1, hat, hatj, q0, q2, hw, hbe, hmm]; rfl))) | ((first | (with_reducible apply CallG.plain1 [309] (c4)) | (with_reducible apply CallG.draw1 [309] (c4))); (focus ((try refine And.intro (leAs_of_eq rfl) ?_); (try refine And.intro (leOL_of_eq rfl) ?_); simp (maxSteps := 9999999) (disch := omega) only [go_sem, hr, hrm, he, hL, hly, k1, hat, hatj, q0, q2, hw, hbe, hmm]; first | done | (repeat' (first | rfl | (refine And.intro ?_ ?_))))); (focus (simp (maxSteps := 9999999) (disch := omega) only [go_sem, hr, hrm, he, hL, hly, k1, hat, hatj, q0, q2, hw, hbe, hmm]; rfl))) | ((first | (with_reducible apply CallG.plain1 [1, 2, 405] (c5)) | (with_reducible apply CallG.draw1 [1, 2, 405] (c5))); (focus ((try refine And.intro (leAs_of_eq rfl) ?_); (try refine And.intro (leOL_of_eq rfl) ?_); simp (maxSteps := 9999999) (disch := omega) only [go_sem, hr, hrm, he, hL, hly, k1, hat, hatj, q0, q2, hw, hbe, hmm]; first | done | (repeat' (first | rfl | (refine And.intro ?_ ?_))))); (focus (simp (maxSteps := 9999999) (disch := omega) only [go_sem, hr, hrm, he, hL, hly, k1, hat, hatj, q0, q2, hw, hbe, hmm]; rfl))) | ((first | (with_reducible apply CallG.plain1 [1, 2, 405] (c6)) | (with_reducible apply CallG.draw1 [1, 2, 405] (c6))); (focus ((try refine And.intro (leAs_of_eq rfl) ?_); (try refine And.intro (leOL_of_eq rfl) ?_); simp (maxSteps := 9999999) (disch := omega) only [go_sem, hr, hrm, he, hL, hly, k1, hat, hatj, q0, q2, hw, hbe, hmm]; first | done | (repeat' (first | rfl | (refine And.intro ?_ ?_))))); (focus (simp (maxSteps := 9999999) (disch := omega) only [go_sem, hr, hrm, he, hL, hly, k1, hat, hatj, q0, q2, hw, hbe, hmm]; rfl))) | ((first | (with_reducible apply CallG.plain1 [309] (c7)) | (with_reducible apply CallG.draw1 [309] (c7))); (focus ((try refine And.intro (leAs_of_eq rfl) ?_); (try refine And.intro (leOL_of_eq rfl) ?_); simp (maxSteps := 9999999) (disch := omega) only [go_sem, hr, hrm, he, hL, hly, k1, hat, hatj, q0, q2, hw, hbe, hmm]; first | done | (repeat' (first | rfl | (refine And.intro ?_ ?_))))); (focus (simp (maxSteps := 9999999) (disch := omega) only [go_sem, hr, hrm, he, hL, hly, k1, hat, hatj, q0, q2, hw, hbe, hmm]; rfl))) | ((first | (with_reducible apply CallG.plain1 [1, 2, 405] (c8)) | (with_reducible apply CallG.draw1 [1, 2, 405] (c8))); (focus ((try refine And.intro (leAs_of_eq rfl) ?_); (try refine And.intro (leOL_of_eq rfl) ?_); simp (maxSteps := 9999999) (disch := omega) only [go_sem, hr, hrm, he, hL, hly, k1, hat, hatj, q0, q2, hw, hbe, hmm]; first | done | (repeat' (first | rfl | (refine And.intro ?_ ?_))))); (focus (simp (maxSteps := 9999999) (disch := omega) only [go_sem, hr, hrm, he, hL, hly, k1, hat, hatj, q0, q2, hw, hbe, hmm]; rfl))) | ((first | (with_reducible apply CallG.plain1 [309] (c9)) | (with_reducible apply CallG.draw1 [309] (c9))); (focus ((try refine And.intro (leAs_of_eq rfl) ?_); (try refine And.intro (leOL_of_eq rfl) ?_); simp (maxSteps := 9999999) (disch := omega) only [go_sem, hr, hrm, he, hL, hly, k1, hat, hatj, q0, q2, hw, hbe, hmm]; first | done | (repeat' (first | rfl | (refine And.intro ?_ ?_))))); (focus (simp (maxSteps := 9999999) (disch := omega) only [go_sem, hr, hrm, he, hL, hly, k1, hat, hatj, q0, q2, hw, hbe, hmm]; rfl))) | ((first | (with_reducible apply CallG.plain1 [1269] (t1)) | (with_reducible apply CallG.draw1 [1269] (t1))); (focus ((try refine And.intro (leAs_of_eq rfl) ?_); (try refine And.intro (leOL_of_eq rfl) ?_); simp (maxSteps := 9999999) (disch := omega) only [go_sem, hr, hrm, he, hL, hly, k1, hat, hatj, q0, q2, hw, hbe, hmm]; first | done | (repeat' (first | rfl | (refine And.intro ?_ ?_))))); (focus (simp (maxSteps := 9999999) (disch := omega) only [go_sem, hr, hrm, he, hL, hly, k1, hat, hatj, q0, q2, hw, hbe, hmm]; rfl))) | ((first | (with_reducible apply CallG.plain1 [1541] (t2)) | (with_reducible apply CallG.draw1 [1541] (t2))); (focus ((try refine And.intro (leAs_of_eq rfl) ?_); (try refine And.intro (leOL_of_eq rfl) ?_); simp (maxSteps := 9999999) (disch := omega) only [go_sem, hr, hrm, he, hL, hly, k1, hat, hatj, q0, q2, hw, hbe, hmm]; first | done | (repeat' (first | rfl | (refine And.intro ?_ ?_))))); (focus (simp (maxSteps := 9999999) (disch := omega) only [go_sem, hr, hrm, he, hL, hly, k1, hat, hatj, q0, q2, hw, hbe, hmm]; rfl))) | ((first | (with_reducible apply CallG.plain1 [1285, 1365] (s1)) | (with_reducible apply CallG.draw1 [1285, 1365] (s1))); (focus ((try refine And.intro (leAs_of_eq rfl) ?_); (try refine And.intro (leOL_of_eq rfl) ?_); simp (maxSteps := 9999999) (disch := omega) only [go_sem, hr, hrm, he, hL, hly, k1, hat, hatj, q0, q2, hw, hbe, hmm]; first | done | (repeat' (first | rfl | (refine And.intro ?_ ?_))))); (focus (simp (maxSteps := 9999999) (disch := omega) only [go_sem, hr, hrm, he, hL, hly, k1, hat, hatj, q0, q2, hw, hbe, hmm]; rfl))) | ((first | (with_reducible apply CallG.plain1 [1557, 1653] (s2)) | (with_reducible apply CallG.draw1 [1557, 1653] (s2))); (focus ((try refine And.intro (leAs_of_eq rfl) ?_); (try refine And.intro (leOL_of_eq rfl) ?_); simp (maxSteps := 9999999) (disch := omega) only [go_sem, hr, hrm, he, hL, hly, k1, hat, hatj, q0, q2, hw, hbe, hmm]; first | done | (repeat' (first | rfl | (refine And.intro ?_ ?_))))); (focus (simp (maxSteps := 9999999) (disch := omega) only [go_sem, hr, hrm, he, hL, hly, k1, hat, hatj, q0, q2, hw, hbe, hmm]; rfl)))); (try simp (maxSteps := 9999999) (disch := omega) only [go_sem, hr, hrm, he, hL, hly, k1, hat, hatj, q0, q2, hw, hbe, hmm]); (try (refine And.intro ?_ ?_; (focus (first | omega | (simp only [go_sem]; done) | (simp; done) | (simp; omega) | assumption))))) | ((first | refine CondP.split (fun hif => ?_) (fun hif => ?_) | refine Runs.part (fun hif => ?_) (fun hif => ?_)) <;> ((try simp only [hif]); (try simp only [decide_eq_true_eq, decide_eq_false_iff_not, Bool.not_eq_true, Bool.not_eq_false, Bool.not_eq_true', Bool.not_eq_false', beq_iff_eq, bne_iff_ne, bne_eq_false_iff_eq, beq_eq_false_iff_ne, ne_eq, Bool.and_eq_true, Bool.or_eq_true, Bool.or_eq_false_iff] at hif); (try (have h9 : _ = true := hif; simp only [h9])); (try (have h9 : _ = false := hif; simp only [h9])); (try simp (maxSteps := 9999999) (disch := omega) only [go_sem, hr, hrm, he, hL, hly, k1, hat, hatj, q0, q2, hw, hbe, hmm]); (try (refine And.intro ?_ ?_; (focus (first | omega | (simp only [go_sem]; done) | (simp; done) | (simp; omega) | assumption)))); (try (exfalso; omega; done))))))
        (apply Back.to (i + 1, y) [0, 1, 2, 405, 309]; (focus ((try simp (maxSteps := 9999999) (disch := omega) only [go_sem, hr, hrm, he]); first | done | omega)); rotate_left; (focus (simp (maxSteps := 9999999) (disch := omega) only [go_sem, hr, hrm, he]; (try (repeat' (first | done | trivial | rfl | exact leAs_rfl _ | decide | (refine And.intro ?_ ?_) | (simp; done) | omega | (simp; decide)))))))
        exact ⟨by simp only; omega, hok2, by simp only; omega⟩
  · obtain rfl : i = l.length := by omega
    have k1 : ((l.length : Int) < (l.length : Int)) = False := eq_false (by omega)
    (try simp (maxSteps := 9999999) (disch := omega) only [go_sem])
    (repeat' (first | refine AWpA.seq ?_ | refine AWpA.block ?_ | (with_reducible refine CondP.tt ?_) | (with_reducible refine CondP.ff ?_) | refine AWpA.condv (by simp (maxSteps := 9999999) (disch := omega) only [go_sem, hr, k1]; rfl) ?_ | ((first | (apply AWpA.region; (focus (simp (maxSteps := 9999999) (disch := omega) only [go_sem, hr, k1]; rfl))) | (apply AWpA.draw [] [] follows; (focus (first | rfl | decide)); (focus (simp (maxSteps := 9999999) (disch := omega) only [go_sem, hr, k1]; rfl)); (focus (simp (maxSteps := 9999999) (disch := omega) only [go_sem, hr, k1]; first | done | trivial)); (focus (simp (maxSteps := 9999999) (disch := omega) only [go_sem, hr, k1]; rfl))) | (apply TailK.go; (focus (simp (maxSteps := 9999999) (disch := omega) only [go_sem, hr, k1]; rfl))) | refine AWpA.skip ?_ | refine AWpA.exit ?_ | refine AWpA.ret ?_ | (with_reducible refine ARoundsA.succ ?_) | ((first | refine Runs.kt (by assumption) (fun h9 => ?_) | refine Runs.kf (by assumption) (fun h9 => ?_) | refine Runs.nt (by assumption) (fun h9 => ?_) | refine Runs.nf (by assumption) (fun h9 => ?_) | refine CondP.ht (by assumption) (fun h9 => ?_) | refine CondP.hf (by assumption) (fun h9 => ?_) | refine CondP.nt (by assumption) (fun h9 => ?_) | refine CondP.nf (by assumption) (fun h9 => ?_)); (try simp only [h9]); clear h9)); (try simp (maxSteps := 9999999) (disch := omega) only [go_sem, hr, k1]); (try (refine And.intro ?_ ?_; (focus (first | omega | (simp only [go_sem]; done) | (simp; done) | (simp; omega) | assumption))))) | ((first | refine CondP.split (fun hif => ?_) (fun hif => ?_) | refine Runs.part (fun hif => ?_) (fun hif => ?_)) <;> ((try simp only [hif]); (try simp only [decide_eq_true_eq, decide_eq_false_iff_not, Bool.not_eq_true, Bool.not_eq_false, Bool.not_eq_true', Bool.not_eq_false', beq_iff_eq, bne_iff_ne, bne_eq_false_iff_eq, beq_eq_false_iff_ne, ne_eq, Bool.and_eq_true, Bool.or_eq_true, Bool.or_eq_false_iff] at hif); (try (have h9 : _ = true := hif; simp only [h9])); (try (have h9 : _ = false := hif; simp only [h9])); (try simp (maxSteps := 9999999) (disch := omega) only [go_sem, hr, k1]); (try (refine And.intro ?_ ?_; (focus (first | omega | (simp only [go_sem]; done) | (simp; done) | (simp; omega) | assumption)))); (try (exfalso; omega; done))))))
    (refine TopPost.of (by first | exact .inl rfl | exact .inr rfl) (by (try simp (maxSteps := 9999999) (disch := omega) only [go_sem]); rfl) ?_; (try simp (maxSteps := 9999999) (disch := omega) only [go_sem]); (try (first | trivial | decide | (simp; done))))
end Go.Proofs.Ytgjimlgofakbpaa
