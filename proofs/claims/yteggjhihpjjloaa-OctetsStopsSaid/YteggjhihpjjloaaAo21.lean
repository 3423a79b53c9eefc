/- The walk of OctetsStops. -/
import Derived.Test.YteggjhihpjjloaaAo18
namespace Go.Proofs.Yteggjhihpjjloaa
set_option linter.unusedSimpArgs false
set_option linter.unusedVariables false
set_option maxHeartbeats 4000000
open Go Go.Am Go.RowKit Go.ChangeShapes Go.WideShapes Go.ChangeAt
set_option maxRecDepth 100000
/-- A call of a reader. -/
structure Tk where
  k : Int
  n : Int
def Tk.rep (a : Tk) : List Value := (fun n : Int => [.int .i64 n]) a.k ++ (fun n : Int => [.int .i64 n]) a.n
structure Tk.ok (W : World) (a : Tk) : Prop where
  k : (fun n : Int => IntKind.i64.min ≤ n ∧ n ≤ IntKind.i64.max) a.k
  n : (fun n : Int => IntKind.i64.min ≤ n ∧ n ≤ IntKind.i64.max) a.n
set_option maxRecDepth 100000 in
theorem rd_Tk {H : Type} {enc : TypeId × Value → H} {W : World} {base : Nat} {held : Bool} : Rd enc Try.prog W base held 106 Tk.rep (Tk.ok W) := fun n cs x h => by
  obtain ⟨xs, n1, _, _, hlen, hx, hf⟩ := DataW.trod_struct Try.underlying106 h
  rw [show Try.prog.cellsOf 106 = 2 by kernel_rfl] at hlen
  have f0 : DataW.trod enc Try.prog W base (fun _ => true) held n1 3 ((cs.drop 0).take (Try.prog.cellsOf 3)) = xs[0]? := hf 0 _ rfl
  rw [show Try.prog.cellsOf 3 = 1 by kernel_rfl] at f0
  obtain ⟨y0, h0⟩ := at_some2 hx (by decide) f0
  obtain ⟨g0, a0, e0, w0⟩ := (rd_int Try.underlying3 : Rd _ _ _ _ _ _ (fun n : Int => [.int .i64 n]) (fun n : Int => IntKind.i64.min ≤ n ∧ n ≤ IntKind.i64.max)) _ _ _ h0
  have f1 : DataW.trod enc Try.prog W base (fun _ => true) held n1 3 ((cs.drop 1).take (Try.prog.cellsOf 3)) = xs[1]? := hf 1 _ rfl
  rw [show Try.prog.cellsOf 3 = 1 by kernel_rfl] at f1
  obtain ⟨y1, h1⟩ := at_some2 hx (by decide) f1
  obtain ⟨g1, a1, e1, w1⟩ := (rd_int Try.underlying3 : Rd _ _ _ _ _ _ (fun n : Int => [.int .i64 n]) (fun n : Int => IntKind.i64.min ≤ n ∧ n ≤ IntKind.i64.max)) _ _ _ h1
  match cs, hlen with
  | [c0, c1], _ =>
    simp [Sl.rep, Pt.rep, Tk.rep] at e0 g0
    simp [Sl.rep, Pt.rep, Tk.rep] at e1 g1
    exact ⟨by simp [*, Value.oneCell'], ⟨a0, a1⟩, by simp [Sl.rep, Pt.rep, Tk.rep, *], ⟨w0, w1⟩⟩
abbrev TkC (t : Tk) : List AV := [I t.k, I t.n]
theorem failI_no {e : Int} (he : e ≠ 0) (k : Int) : failI e k = e := by
  unfold failI
  rw [if_neg (by simpa using he)]
theorem rawOk_err {e n left : Int} (he : e ≠ 0) : rawOk e n left = false := by
  unfold rawOk
  rw [show (e == 0) = false by simpa using he, Bool.and_false]
theorem rawE_err {e n left : Int} (he : e ≠ 0) : rawE e n left = e := by
  unfold rawE hasE
  rw [failI_no he, failI_no he]
  cases decide (n < 0) <;> cases decide (left < n) <;> rfl
theorem numC_err {L : List Int} {w e : Int} {a : Nat} (he : e ≠ 0) : numC L w ⟨a, e⟩ = ⟨a, e⟩ ∧ numV L w ⟨a, e⟩ = 0 := by
  unfold numC numV rawC rawV
  rw [rawE_err he, (rawOk_no (rawOk_err he)).2.1, (rawOk_no (rawOk_err he)).2.2, failI_no he]
  cases wideB w <;> exact ⟨rfl, rfl⟩
theorem flagC_err {L : List Int} {e : Int} {a : Nat} (he : e ≠ 0) : flagC L ⟨a, e⟩ = ⟨a, e⟩ ∧ flagV L ⟨a, e⟩ = false := by
  unfold flagC flagV
  rw [rawE_err he, rawOk_err he]
  exact ⟨rfl, rfl⟩
theorem textC_err {L : List Int} {e m : Int} {a : Nat} (he : e ≠ 0) : textC L m ⟨a, e⟩ = ⟨a, e⟩ ∧ textV L m ⟨a, e⟩ = ByteArray.empty := by
  refine ⟨?_, textV_no (rawOk_err he)⟩
  rw [textC_no (rawOk_err he), rawE_err he]
/- quidnunc/quidnunclaw01.OctetsStops -/
noncomputable def c12_1 : ACode := .region false [⟨some 6, .move, [.c (.val (.bool false))], none⟩] [] [] [0, 1, 2] false [] []
noncomputable def c12_4 : ACode := .region false [⟨some 13, .call 33, [], none⟩,
  ⟨some 14, .un .not, [.t 13], none⟩,
  ⟨some 15, .move, [.t 14], none⟩,
  ⟨some 16, .move, [.t 0], some (some 15, false)⟩,
  ⟨some 17, .call 34, [.t 16], some (some 15, false)⟩,
  ⟨some 18, .un .not, [.t 17], some (some 15, false)⟩,
  ⟨some 19, .pick, [.t 15, .c (.val (.bool true)), .t 18], none⟩,
  ⟨some 20, .move, [.t 19], none⟩,
  ⟨some 21, .move, [.t 1], some (some 20, false)⟩,
  ⟨some 22, .len, [.t 21], some (some 20, false)⟩,
  ⟨some 23, .bin .gtr, [.t 22, .c (.val (.int .i64 600))], some (some 20, false)⟩,
  ⟨some 24, .pick, [.t 20, .c (.val (.bool true)), .t 23], none⟩,
  ⟨some 25, .move, [.t 24], none⟩,
  ⟨some 26, .move, [.t 2], some (some 25, false)⟩,
  ⟨some 27, .len, [.t 26], some (some 25, false)⟩,
  ⟨some 28, .bin .gtr, [.t 27, .c (.val (.int .i64 40))], some (some 25, false)⟩,
  ⟨some 29, .pick, [.t 25, .c (.val (.bool true)), .t 28], none⟩] [] [] [0, 1, 2, 29] true [] []
noncomputable def c12_7 : ACode := .region false [⟨some 30, .call 33, [], none⟩,
  ⟨some 6, .move, [.t 30], none⟩] [] [] [6] true [] []
noncomputable def c12_6 : ACode := .seq c12_7 .ret
noncomputable def c12_5 : ACode := .cond (.t 29) c12_6 .skip
noncomputable def c12_3 : ACode := .seq c12_4 c12_5
noncomputable def c12_9 : ACode := .region false [⟨some 7, .alloc [(.slice none 0 0), (.int .i64 0)], [], none⟩] [] [] [0, 1, 2, 7] true [] []
noncomputable def c12_11 : ACode := .region false [⟨some 31, .call 35, [.t 7, .c (.val (.int .u64 256)), .c (.val (.int .i64 1))], none⟩] [] [] [0, 1, 2, 7] true [] []
noncomputable def c12_14 : ACode := .region false [⟨some 32, .move, [.t 0], none⟩,
  ⟨some 33, .len, [.t 32], none⟩,
  ⟨some 34, .move, [.c (.val (.int .i64 0))], none⟩] [] [] [1, 2, 7, 32, 33, 34] false [] []
noncomputable def c12_18 : ACode := .region false [⟨some 35, .bin .lss, [.t 34, .t 33], none⟩] [] [] [1, 2, 7, 32, 33, 34, 35] false [] []
noncomputable def c12_20 : ACode := .cond (.t 35) .skip (.exit 0)
noncomputable def c12_24 : ACode := .region false [⟨some 36, .ixS 4, [.t 32, .t 34], none⟩,
  ⟨some 37, .load true 4, [.t 36], none⟩,
  ⟨some 9, .alloc [(.int .i64 0), (.int .i64 0), (.int .u64 0), (.slice none 0 0)], [], none⟩,
  ⟨none, .store 4, [.t 9, .t 37], none⟩] [] [] [1, 2, 7, 9, 32, 33, 34] true [] []
noncomputable def c12_25 : ACode := .region true [⟨some 38, .addr 2, [.t 9], none⟩,
  ⟨some 39, .load false 1, [.t 38], none⟩,
  ⟨some 40, .addr 1, [.t 9], none⟩,
  ⟨some 41, .load false 1, [.t 40], none⟩,
  ⟨some 42, .call 35, [.t 7, .t 39, .t 41], none⟩,
  ⟨some 43, .call 38, [.t 42, .c (.val (.bool true))], none⟩,
  ⟨some 44, .addr 3, [.t 9], none⟩,
  ⟨some 45, .load false 1, [.t 44], none⟩,
  ⟨some 46, .toStr, [.t 45], none⟩,
  ⟨some 47, .call 39, [.t 43, .t 46], none⟩,
  ⟨some 48, .addr 3, [.t 9], none⟩,
  ⟨some 49, .load false 1, [.t 48], none⟩,
  ⟨some 50, .buildSl 1 1 [(.slice none 0 0)] [(0, 1)], [.t 49], none⟩,
  ⟨some 51, .call 40, [.t 47, .t 50], none⟩] [] [(4, 12), (5, 12), (9, 12)] [1, 2, 7, 32, 33, 34] true [] []
noncomputable def c12_23 : ACode := .seq c12_24 c12_25
noncomputable def c12_22 : ACode := .block 1 c12_23
noncomputable def c12_26 : ACode := .region false [⟨some 52, .bin .add, [.t 34, .c (.val (.int .i64 1))], none⟩,
  ⟨some 34, .move, [.t 52], none⟩] [] [] [1, 2, 7, 32, 33, 34] false [] []
noncomputable def c12_21 : ACode := .seq c12_22 c12_26
noncomputable def c12_19 : ACode := .seq c12_20 c12_21
noncomputable def c12_17 : ACode := .seq c12_18 c12_19
noncomputable def c12_16 : ACode := .loop c12_17
noncomputable def c12_15 : ACode := .block 0 c12_16
noncomputable def c12_13 : ACode := .seq c12_14 c12_15
noncomputable def c12_28 : ACode := .region false [⟨some 53, .move, [.t 1], none⟩,
  ⟨some 54, .call 57, [.t 53], none⟩,
  ⟨some 10, .move, [.t 54], none⟩] [] [] [1, 2, 7, 10] true [] []
noncomputable def c12_31 : ACode := .region false [⟨some 55, .move, [.t 10], none⟩,
  ⟨some 56, .eqP false, [.t 55, .c (.val (.pointer none))], none⟩] [] [] [1, 2, 7, 10, 56] false [] []
noncomputable def c12_34 : ACode := .region false [⟨some 6, .move, [.c (.val (.bool false))], none⟩] [] [] [6] false [] []
noncomputable def c12_33 : ACode := .seq c12_34 .ret
noncomputable def c12_32 : ACode := .cond (.t 56) c12_33 .skip
noncomputable def c12_30 : ACode := .seq c12_31 c12_32
noncomputable def c12_36 : ACode := .region false [⟨some 57, .move, [.t 10], none⟩,
  ⟨some 58, .move, [.t 1], none⟩,
  ⟨some 59, .len, [.t 58], none⟩,
  ⟨some 60, .bin .add, [.t 59, .c (.val (.int .i64 1))], none⟩,
  ⟨some 61, .call 58, [.t 57, .t 60], none⟩] [] [] [1, 2, 7, 10] true [] []
noncomputable def c12_39 : ACode := .region false [⟨some 62, .move, [.t 2], none⟩,
  ⟨some 63, .len, [.t 62], none⟩,
  ⟨some 64, .move, [.c (.val (.int .i64 0))], none⟩] [] [] [1, 7, 10, 62, 63, 64] false [] []
noncomputable def c12_43 : ACode := .region false [⟨some 65, .bin .lss, [.t 64, .t 63], none⟩] [] [] [1, 7, 10, 62, 63, 64, 65] false [] []
noncomputable def c12_45 : ACode := .cond (.t 65) .skip (.exit 2)
noncomputable def c12_49 : ACode := .region false [⟨some 66, .ixS 2, [.t 62, .t 64], none⟩,
  ⟨some 67, .load true 2, [.t 66], none⟩,
  ⟨some 12, .alloc [(.int .i64 0), (.int .i64 0)], [], none⟩,
  ⟨none, .store 2, [.t 12, .t 67], none⟩] [] [] [1, 7, 10, 12, 62, 63, 64] true [] []
noncomputable def c12_52 : ACode := .region false [⟨some 68, .move, [.t 10], none⟩,
  ⟨some 69, .addr 1, [.t 12], none⟩,
  ⟨some 70, .load false 1, [.t 69], none⟩,
  ⟨some 71, .call 62, [.t 68, .t 70], none⟩,
  ⟨some 72, .bin .neq, [.t 71, .c (.val (.int .u64 0))], none⟩,
  ⟨some 73, .move, [.t 72], none⟩,
  ⟨some 74, .move, [.t 10], some (some 73, false)⟩,
  ⟨some 75, .call 64, [.t 74], some (some 73, false)⟩,
  ⟨some 76, .pick, [.t 73, .c (.val (.bool true)), .t 75], none⟩,
  ⟨some 77, .move, [.t 76], none⟩,
  ⟨some 78, .move, [.t 10], some (some 77, false)⟩,
  ⟨some 79, .addr 1, [.t 12], some (some 77, false)⟩,
  ⟨some 80, .load false 1, [.t 79], some (some 77, false)⟩,
  ⟨some 81, .call 66, [.t 78, .t 80], some (some 77, false)⟩,
  ⟨some 82, .bin .neq, [.t 81, .c (.val (.string ⟨#[]⟩))], some (some 77, false)⟩,
  ⟨some 83, .pick, [.t 77, .c (.val (.bool true)), .t 82], none⟩,
  ⟨some 84, .move, [.t 83], none⟩,
  ⟨some 85, .move, [.t 10], some (some 84, false)⟩,
  ⟨some 86, .addr 1, [.t 12], some (some 84, false)⟩,
  ⟨some 87, .load false 1, [.t 86], some (some 84, false)⟩,
  ⟨some 88, .call 58, [.t 85, .t 87], some (some 84, false)⟩,
  ⟨some 89, .len, [.t 88], some (some 84, false)⟩,
  ⟨some 90, .bin .neq, [.t 89, .c (.val (.int .i64 0))], some (some 84, false)⟩,
  ⟨some 91, .pick, [.t 84, .c (.val (.bool true)), .t 90], none⟩] [] [] [1, 7, 10, 12, 62, 63, 64, 91] true [] []
noncomputable def c12_55 : ACode := .region false [⟨some 6, .move, [.c (.val (.bool false))], none⟩] [] [] [6] false [] []
noncomputable def c12_54 : ACode := .seq c12_55 .ret
noncomputable def c12_53 : ACode := .cond (.t 91) c12_54 .skip
noncomputable def c12_51 : ACode := .seq c12_52 c12_53
noncomputable def c12_56 : ACode := .region true [⟨some 92, .move, [.t 10], none⟩,
  ⟨some 93, .nilChk, [.t 92], none⟩,
  ⟨some 94, .addr 0, [.t 93], none⟩,
  ⟨some 95, .addr 0, [.t 12], none⟩,
  ⟨some 96, .load false 1, [.t 95], none⟩,
  ⟨some 97, .call 68, [.t 94, .t 96], none⟩] [] [] [1, 7, 10, 62, 63, 64] true [] []
noncomputable def c12_50 : ACode := .seq c12_51 c12_56
noncomputable def c12_48 : ACode := .seq c12_49 c12_50
noncomputable def c12_47 : ACode := .block 3 c12_48
noncomputable def c12_57 : ACode := .region false [⟨some 98, .bin .add, [.t 64, .c (.val (.int .i64 1))], none⟩,
  ⟨some 64, .move, [.t 98], none⟩] [] [] [1, 7, 10, 62, 63, 64] false [] []
noncomputable def c12_46 : ACode := .seq c12_47 c12_57
noncomputable def c12_44 : ACode := .seq c12_45 c12_46
noncomputable def c12_42 : ACode := .seq c12_43 c12_44
noncomputable def c12_41 : ACode := .loop c12_42
noncomputable def c12_40 : ACode := .block 2 c12_41
noncomputable def c12_38 : ACode := .seq c12_39 c12_40
noncomputable def c12_59 : ACode := .region false [⟨some 99, .call 41, [.t 7], none⟩,
  ⟨some 100, .bin .eql, [.t 99, .c (.val (.int .i64 2))], none⟩,
  ⟨some 101, .move, [.t 100], none⟩,
  ⟨some 102, .call 43, [.t 7], some (some 101, true)⟩,
  ⟨some 103, .len, [.t 102], some (some 101, true)⟩,
  ⟨some 104, .bin .eql, [.t 103, .c (.val (.int .i64 0))], some (some 101, true)⟩,
  ⟨some 105, .pick, [.t 101, .t 104, .c (.val (.bool false))], none⟩,
  ⟨some 106, .move, [.t 105], none⟩,
  ⟨some 107, .move, [.t 10], some (some 106, true)⟩,
  ⟨some 108, .nilChk, [.t 107], some (some 106, true)⟩,
  ⟨some 109, .addr 0, [.t 108], some (some 106, true)⟩,
  ⟨some 110, .call 71, [.t 109], some (some 106, true)⟩,
  ⟨some 111, .bin .eql, [.t 110, .c (.val (.int .i64 6))], some (some 106, true)⟩,
  ⟨some 112, .pick, [.t 106, .t 111, .c (.val (.bool false))], none⟩,
  ⟨some 113, .move, [.t 112], none⟩,
  ⟨some 114, .move, [.t 10], some (some 113, true)⟩,
  ⟨some 115, .call 72, [.t 114], some (some 113, true)⟩,
  ⟨some 116, .move, [.t 1], some (some 113, true)⟩,
  ⟨some 117, .len, [.t 116], some (some 113, true)⟩,
  ⟨some 118, .bin .eql, [.t 115, .t 117], some (some 113, true)⟩,
  ⟨some 119, .pick, [.t 113, .t 118, .c (.val (.bool false))], none⟩,
  ⟨some 120, .move, [.t 119], none⟩,
  ⟨some 121, .move, [.t 10], some (some 120, true)⟩,
  ⟨some 122, .call 70, [.t 121], some (some 120, true)⟩,
  ⟨some 123, .bin .eql, [.t 122, .c (.val (.int .i64 6))], some (some 120, true)⟩,
  ⟨some 124, .pick, [.t 120, .t 123, .c (.val (.bool false))], none⟩,
  ⟨some 6, .move, [.t 124], none⟩] [] [] [6] true [] []
noncomputable def c12_58 : ACode := .seq c12_59 .ret
noncomputable def c12_37 : ACode := .seq c12_38 c12_58
noncomputable def c12_35 : ACode := .seq c12_36 c12_37
noncomputable def c12_29 : ACode := .seq c12_30 c12_35
noncomputable def c12_27 : ACode := .seq c12_28 c12_29
noncomputable def c12_12 : ACode := .seq c12_13 c12_27
noncomputable def c12_10 : ACode := .seq c12_11 c12_12
noncomputable def c12_8 : ACode := .seq c12_9 c12_10
noncomputable def c12_2 : ACode := .seq c12_3 c12_8
noncomputable def c12_0 : ACode := .seq c12_1 c12_2
noncomputable def code12 : Code := (Try.f12.body).getD .skip
theorem c12_ok : compC Try.prog 125 code12 = some (strip c12_0) := by kernel_rfl
theorem res12_ok : Try.f12.results.toList.mapM (resC Try.prog) = some [(6, none)] := by kernel_rfl
theorem stops_walk (W : World) (tl : Sl Pt) (b : Sl Int) (ml : Sl Tk) (ht : tl.ok W 4 Pt.rep (Pt.ok W)) (hb : b.ok W 1 (fun n : Int => [.int .u8 n]) (fun n : Int => IntKind.u8.min ≤ n ∧ n ≤ IntKind.u8.max)) (hm : ml.ok W 2 Tk.rep (Tk.ok W)) :
    Calls Try.prog 12 #[.slice tl.ad tl.l.length tl.cap, .slice b.ad b.l.length b.cap, .slice ml.ad ml.l.length ml.cap] W fun e W' => e = .returned (.bool true) ∧ Below W.heap.size W W' := by
  obtain ⟨ad, off, cap, ts⟩ := tl
  obtain ⟨bad, boff, bcap, L⟩ := b
  obtain ⟨mad, moff, mcap, ms⟩ := ml
  have hz := ht.fz
  have hlen0 := ht.len
  have hall := ht.all
  have hzb := hb.fz
  have hby : bytesB L := hb.all
  have hzm := hm.fz
  simp only at hz hlen0 hall hzb hzm
  have hl0 : ts.length ≤ 9223372036854775807 := by simp only [maxLen] at hlen0; omega
  have hr : ∀ ρ, renL ρ (rowsC off PtC ts) = rowsC off PtC ts := fun ρ => rowsC_ren (fun ρ x => by simp [renL, ren]) ρ ts
  have hrm : ∀ ρ, renL ρ (rowsC moff TkC ms) = rowsC moff TkC ms := fun ρ => rowsC_ren (fun ρ x => by simp [renL, ren]) ρ ms
  have hfw := few_any off ts hl0
  cases hfew : fewB ts with
  | false =>
    rw [hfew] at hfw
    refine top_call c12_ok Try.func12 rfl Try.ntmps12 res12_ok [ .val (.slice ad ts.length cap), .val (.slice bad L.length bcap), .val (.slice mad ms.length mcap)] (by simp) (by (repeat' (first | exact VRs_nil' _ | exact VR_val' _ _ | (refine VRs_cons' ?_ ?_) | (refine VR_agg' rfl ?_; simp [Value.oneCell', Pt.rep, Tk.rep])))) ?_; try simp (maxSteps := 9999999) (disch := omega) only [go_sem]
    refine AWpA.thawT 0 PtC hz (fun x => by simp [Pt.rep, Sl.rep]) rfl ?_
    (repeat' (first | refine AWpA.seq ?_ | refine AWpA.block ?_ | (with_reducible refine CondP.tt ?_) | (with_reducible refine CondP.ff ?_) | refine AWpA.condv (by simp (maxSteps := 9999999) (disch := omega) only [go_sem, hr]; rfl) ?_ | ((first | (apply AWpA.region; (focus (simp (maxSteps := 9999999) (disch := omega) only [go_sem, hr]; rfl))) | (apply AWpA.draw [] follows; (focus (simp (maxSteps := 9999999) (disch := omega) only [go_sem, hr]; rfl)); (focus (simp (maxSteps := 9999999) (disch := omega) only [go_sem, hr]; first | done | trivial)); (focus (simp (maxSteps := 9999999) (disch := omega) only [go_sem, hr]; rfl))) | (apply TailK.go; (focus (simp (maxSteps := 9999999) (disch := omega) only [go_sem, hr]; rfl))) | refine AWpA.skip ?_ | refine AWpA.exit ?_ | refine AWpA.ret ?_ | (with_reducible refine ARoundsA.succ ?_) | ((first | refine Runs.kt (by assumption) (fun h9 => ?_) | refine Runs.kf (by assumption) (fun h9 => ?_) | refine Runs.nt (by assumption) (fun h9 => ?_) | refine Runs.nf (by assumption) (fun h9 => ?_) | refine CondP.ht (by assumption) (fun h9 => ?_) | refine CondP.hf (by assumption) (fun h9 => ?_) | refine CondP.nt (by assumption) (fun h9 => ?_) | refine CondP.nf (by assumption) (fun h9 => ?_)); (try simp only [h9]); clear h9) | ((first | (with_reducible apply CallG.plain1 [] (speaks_any)) | (with_reducible apply CallG.plain1 [0] (hfw)) | (with_reducible apply CallG.draw1 [] (speaks_any)) | (with_reducible apply CallG.draw1 [0] (hfw))); (focus ((try refine And.intro (leAs_of_eq rfl) ?_); (try refine And.intro (leOL_of_eq rfl) ?_); simp (maxSteps := 9999999) (disch := omega) only [go_sem, hr]; first | done | (repeat' (first | rfl | (refine And.intro ?_ ?_))))); (focus (simp (maxSteps := 9999999) (disch := omega) only [go_sem, hr]; rfl)))); (try simp (maxSteps := 9999999) (disch := omega) only [go_sem, hr]); (try (refine And.intro ?_ ?_; (focus (first | omega | (simp only [go_sem]; done) | (simp; done) | (simp; omega) | assumption))))) | ((first | refine CondP.split (fun hif => ?_) (fun hif => ?_) | refine Runs.part (fun hif => ?_) (fun hif => ?_)) <;> ((try simp only [hif]); (try simp only [decide_eq_true_eq, decide_eq_false_iff_not, Bool.not_eq_true, Bool.not_eq_false, Bool.not_eq_true', Bool.not_eq_false', beq_iff_eq, bne_iff_ne, bne_eq_false_iff_eq, beq_eq_false_iff_ne, ne_eq, Bool.and_eq_true, Bool.or_eq_true, Bool.or_eq_false_iff] at hif); (try (have h9 : _ = true := hif; simp only [h9])); (try (have h9 : _ = false := hif; simp only [h9])); (try simp (maxSteps := 9999999) (disch := omega) only [go_sem, hr]); (try (refine And.intro ?_ ?_; (focus (first | omega | (simp only [go_sem]; done) | (simp; done) | (simp; omega) | assumption)))); (try (exfalso; omega; done))))))
    (refine TopPost.of (by first | exact .inl rfl | exact .inr rfl) (by simp (maxSteps := 9999999) (disch := omega) only [go_sem]; rfl) ?_; simp (maxSteps := 9999999) (disch := omega) only [go_sem]; (try (first | trivial | decide | (simp; done))))
  | true =>
  rw [hfew] at hfw
  simp only [fewB, few300, Bool.and_eq_true, List.all_eq_true, decide_eq_true_eq] at hfew
  obtain ⟨h300, h40⟩ := hfew
  by_cases h600 : 600 < L.length
  · have h1 : ((600 : Int) < (L.length : Int)) = True := eq_true (by omega)
    refine top_call c12_ok Try.func12 rfl Try.ntmps12 res12_ok [ .val (.slice ad ts.length cap), .val (.slice bad L.length bcap), .val (.slice mad ms.length mcap)] (by simp) (by (repeat' (first | exact VRs_nil' _ | exact VR_val' _ _ | (refine VRs_cons' ?_ ?_) | (refine VR_agg' rfl ?_; simp [Value.oneCell', Pt.rep, Tk.rep])))) ?_; try simp (maxSteps := 9999999) (disch := omega) only [go_sem]
    refine AWpA.thawT 0 PtC hz (fun x => by simp [Pt.rep, Sl.rep]) rfl ?_
    (repeat' (first | refine AWpA.seq ?_ | refine AWpA.block ?_ | (with_reducible refine CondP.tt ?_) | (with_reducible refine CondP.ff ?_) | refine AWpA.condv (by simp (maxSteps := 9999999) (disch := omega) only [go_sem, hr, h1]; rfl) ?_ | ((first | (apply AWpA.region; (focus (simp (maxSteps := 9999999) (disch := omega) only [go_sem, hr, h1]; rfl))) | (apply AWpA.draw [] follows; (focus (simp (maxSteps := 9999999) (disch := omega) only [go_sem, hr, h1]; rfl)); (focus (simp (maxSteps := 9999999) (disch := omega) only [go_sem, hr, h1]; first | done | trivial)); (focus (simp (maxSteps := 9999999) (disch := omega) only [go_sem, hr, h1]; rfl))) | (apply TailK.go; (focus (simp (maxSteps := 9999999) (disch := omega) only [go_sem, hr, h1]; rfl))) | refine AWpA.skip ?_ | refine AWpA.exit ?_ | refine AWpA.ret ?_ | (with_reducible refine ARoundsA.succ ?_) | ((first | refine Runs.kt (by assumption) (fun h9 => ?_) | refine Runs.kf (by assumption) (fun h9 => ?_) | refine Runs.nt (by assumption) (fun h9 => ?_) | refine Runs.nf (by assumption) (fun h9 => ?_) | refine CondP.ht (by assumption) (fun h9 => ?_) | refine CondP.hf (by assumption) (fun h9 => ?_) | refine CondP.nt (by assumption) (fun h9 => ?_) | refine CondP.nf (by assumption) (fun h9 => ?_)); (try simp only [h9]); clear h9) | ((first | (with_reducible apply CallG.plain1 [] (speaks_any)) | (with_reducible apply CallG.plain1 [0] (hfw)) | (with_reducible apply CallG.draw1 [] (speaks_any)) | (with_reducible apply CallG.draw1 [0] (hfw))); (focus ((try refine And.intro (leAs_of_eq rfl) ?_); (try refine And.intro (leOL_of_eq rfl) ?_); simp (maxSteps := 9999999) (disch := omega) only [go_sem, hr, h1]; first | done | (repeat' (first | rfl | (refine And.intro ?_ ?_))))); (focus (simp (maxSteps := 9999999) (disch := omega) only [go_sem, hr, h1]; rfl)))); (try simp (maxSteps := 9999999) (disch := omega) only [go_sem, hr, h1]); (try (refine And.intro ?_ ?_; (focus (first | omega | (simp only [go_sem]; done) | (simp; done) | (simp; omega) | assumption))))) | ((first | refine CondP.split (fun hif => ?_) (fun hif => ?_) | refine Runs.part (fun hif => ?_) (fun hif => ?_)) <;> ((try simp only [hif]); (try simp only [decide_eq_true_eq, decide_eq_false_iff_not, Bool.not_eq_true, Bool.not_eq_false, Bool.not_eq_true', Bool.not_eq_false', beq_iff_eq, bne_iff_ne, bne_eq_false_iff_eq, beq_eq_false_iff_ne, ne_eq, Bool.and_eq_true, Bool.or_eq_true, Bool.or_eq_false_iff] at hif); (try (have h9 : _ = true := hif; simp only [h9])); (try (have h9 : _ = false := hif; simp only [h9])); (try simp (maxSteps := 9999999) (disch := omega) only [go_sem, hr, h1]); (try (refine And.intro ?_ ?_; (focus (first | omega | (simp only [go_sem]; done) | (simp; done) | (simp; omega) | assumption)))); (try (exfalso; omega; done))))))
    (refine TopPost.of (by first | exact .inl rfl | exact .inr rfl) (by simp (maxSteps := 9999999) (disch := omega) only [go_sem]; rfl) ?_; simp (maxSteps := 9999999) (disch := omega) only [go_sem]; (try (first | trivial | decide | (simp; done))))
  have h1 : ((600 : Int) < (L.length : Int)) = False := eq_false (by omega)
  by_cases hm40 : 40 < ms.length
  · have h2 : ((40 : Int) < (ms.length : Int)) = True := eq_true (by omega)
    refine top_call c12_ok Try.func12 rfl Try.ntmps12 res12_ok [ .val (.slice ad ts.length cap), .val (.slice bad L.length bcap), .val (.slice mad ms.length mcap)] (by simp) (by (repeat' (first | exact VRs_nil' _ | exact VR_val' _ _ | (refine VRs_cons' ?_ ?_) | (refine VR_agg' rfl ?_; simp [Value.oneCell', Pt.rep, Tk.rep])))) ?_; try simp (maxSteps := 9999999) (disch := omega) only [go_sem]
    refine AWpA.thawT 0 PtC hz (fun x => by simp [Pt.rep, Sl.rep]) rfl ?_
    (repeat' (first | refine AWpA.seq ?_ | refine AWpA.block ?_ | (with_reducible refine CondP.tt ?_) | (with_reducible refine CondP.ff ?_) | refine AWpA.condv (by simp (maxSteps := 9999999) (disch := omega) only [go_sem, hr, h1, h2]; rfl) ?_ | ((first | (apply AWpA.region; (focus (simp (maxSteps := 9999999) (disch := omega) only [go_sem, hr, h1, h2]; rfl))) | (apply AWpA.draw [] follows; (focus (simp (maxSteps := 9999999) (disch := omega) only [go_sem, hr, h1, h2]; rfl)); (focus (simp (maxSteps := 9999999) (disch := omega) only [go_sem, hr, h1, h2]; first | done | trivial)); (focus (simp (maxSteps := 9999999) (disch := omega) only [go_sem, hr, h1, h2]; rfl))) | (apply TailK.go; (focus (simp (maxSteps := 9999999) (disch := omega) only [go_sem, hr, h1, h2]; rfl))) | refine AWpA.skip ?_ | refine AWpA.exit ?_ | refine AWpA.ret ?_ | (with_reducible refine ARoundsA.succ ?_) | ((first | refine Runs.kt (by assumption) (fun h9 => ?_) | refine Runs.kf (by assumption) (fun h9 => ?_) | refine Runs.nt (by assumption) (fun h9 => ?_) | refine Runs.nf (by assumption) (fun h9 => ?_) | refine CondP.ht (by assumption) (fun h9 => ?_) | refine CondP.hf (by assumption) (fun h9 => ?_) | refine CondP.nt (by assumption) (fun h9 => ?_) | refine CondP.nf (by assumption) (fun h9 => ?_)); (try simp only [h9]); clear h9) | ((first | (with_reducible apply CallG.plain1 [] (speaks_any)) | (with_reducible apply CallG.plain1 [0] (hfw)) | (with_reducible apply CallG.draw1 [] (speaks_any)) | (with_reducible apply CallG.draw1 [0] (hfw))); (focus ((try refine And.intro (leAs_of_eq rfl) ?_); (try refine And.intro (leOL_of_eq rfl) ?_); simp (maxSteps := 9999999) (disch := omega) only [go_sem, hr, h1, h2]; first | done | (repeat' (first | rfl | (refine And.intro ?_ ?_))))); (focus (simp (maxSteps := 9999999) (disch := omega) only [go_sem, hr, h1, h2]; rfl)))); (try simp (maxSteps := 9999999) (disch := omega) only [go_sem, hr, h1, h2]); (try (refine And.intro ?_ ?_; (focus (first | omega | (simp only [go_sem]; done) | (simp; done) | (simp; omega) | assumption))))) | ((first | refine CondP.split (fun hif => ?_) (fun hif => ?_) | refine Runs.part (fun hif => ?_) (fun hif => ?_)) <;> ((try simp only [hif]); (try simp only [decide_eq_true_eq, decide_eq_false_iff_not, Bool.not_eq_true, Bool.not_eq_false, Bool.not_eq_true', Bool.not_eq_false', beq_iff_eq, bne_iff_ne, bne_eq_false_iff_eq, beq_eq_false_iff_ne, ne_eq, Bool.and_eq_true, Bool.or_eq_true, Bool.or_eq_false_iff] at hif); (try (have h9 : _ = true := hif; simp only [h9])); (try (have h9 : _ = false := hif; simp only [h9])); (try simp (maxSteps := 9999999) (disch := omega) only [go_sem, hr, h1, h2]); (try (refine And.intro ?_ ?_; (focus (first | omega | (simp only [go_sem]; done) | (simp; done) | (simp; omega) | assumption)))); (try (exfalso; omega; done))))))
    (refine TopPost.of (by first | exact .inl rfl | exact .inr rfl) (by simp (maxSteps := 9999999) (disch := omega) only [go_sem]; rfl) ?_; simp (maxSteps := 9999999) (disch := omega) only [go_sem]; (try (first | trivial | decide | (simp; done))))
  have h2 : ((40 : Int) < (ms.length : Int)) = False := eq_false (by omega)
  have hlen : ∀ l : List Pt, (rowsC off PtC l).length = off + l.length * 4 := rowsC_len (fun _ => rfl)
  have hlenm : ∀ l : List Tk, (rowsC moff TkC l).length = moff + l.length * 2 := rowsC_len (fun _ => rfl)
  have sb := Seg.rows (off := boff) (l := L) (by omega)
  have hL : L.length ≤ 1099511627776 := by omega
  refine top_call c12_ok Try.func12 rfl Try.ntmps12 res12_ok [ .val (.slice ad ts.length cap), .val (.slice bad L.length bcap), .val (.slice mad ms.length mcap)] (by simp) (by (repeat' (first | exact VRs_nil' _ | exact VR_val' _ _ | (refine VRs_cons' ?_ ?_) | (refine VR_agg' rfl ?_; simp [Value.oneCell', Pt.rep, Tk.rep])))) ?_; try simp (maxSteps := 9999999) (disch := omega) only [go_sem]
  refine AWpA.thawT 0 PtC hz (fun x => by simp [Pt.rep, Sl.rep]) rfl ?_
  refine AWpA.thawT 1 (fun n : Int => [.val (.int .u8 n)]) hzb (fun _ => rfl) rfl ?_
  refine AWpA.thawT 2 TkC hzm (fun x => by simp [Tk.rep]) rfl ?_
  refine AWpA.dummy ?_
  generalize hPb : rowsC boff (fun n : Int => [.val (.int .u8 n)]) L = Pb at sb
  have hleb := sb.le
  have hpn : ∀ k l x, putL 2 k l x = l := fun k l x => rfl
  have hen : ∀ k, failI 2 k = 2 := fun k => rfl
  have hn0 := number_any [] (by simp) 0 256 1 (by decide)
  have hK0 : numK 256 1 = 2 := by decide +kernel
  have hp0 : ∀ x, putL 0 2 [] x = [] := fun x => rfl
  have he0 : failI 0 2 = 2 := rfl
  rw [numE_K, numL_K, hK0, hp0, he0] at hn0
  simp only [bA_nil, List.length_nil] at hn0
  (repeat' (first | refine AWpA.seq ?_ | refine AWpA.block ?_ | (with_reducible refine CondP.tt ?_) | (with_reducible refine CondP.ff ?_) | refine AWpA.condv (by simp (maxSteps := 9999999) (disch := omega) only [go_sem, hr, hrm, h1, h2]; rfl) ?_ | ((first | (apply AWpA.region; (focus (simp (maxSteps := 9999999) (disch := omega) only [go_sem, hr, hrm, h1, h2]; rfl))) | (apply AWpA.draw [] follows; (focus (simp (maxSteps := 9999999) (disch := omega) only [go_sem, hr, hrm, h1, h2]; rfl)); (focus (simp (maxSteps := 9999999) (disch := omega) only [go_sem, hr, hrm, h1, h2]; first | done | trivial)); (focus (simp (maxSteps := 9999999) (disch := omega) only [go_sem, hr, hrm, h1, h2]; rfl))) | (apply TailK.go; (focus (simp (maxSteps := 9999999) (disch := omega) only [go_sem, hr, hrm, h1, h2]; rfl))) | refine AWpA.skip ?_ | refine AWpA.exit ?_ | refine AWpA.ret ?_ | (with_reducible refine ARoundsA.succ ?_) | ((first | refine Runs.kt (by assumption) (fun h9 => ?_) | refine Runs.kf (by assumption) (fun h9 => ?_) | refine Runs.nt (by assumption) (fun h9 => ?_) | refine Runs.nf (by assumption) (fun h9 => ?_) | refine CondP.ht (by assumption) (fun h9 => ?_) | refine CondP.hf (by assumption) (fun h9 => ?_) | refine CondP.nt (by assumption) (fun h9 => ?_) | refine CondP.nf (by assumption) (fun h9 => ?_)); (try simp only [h9]); clear h9) | ((first | (with_reducible apply CallG.plain1 [] (speaks_any)) | (with_reducible apply CallG.plain1 [0] (hfw)) | (with_reducible apply CallG.plain1 [_, 3] (hn0)) | (with_reducible apply CallG.draw1 [] (speaks_any)) | (with_reducible apply CallG.draw1 [0] (hfw)) | (with_reducible apply CallG.draw1 [_, 3] (hn0))); (focus ((try refine And.intro (leAs_of_eq rfl) ?_); (try refine And.intro (leOL_of_eq rfl) ?_); simp (maxSteps := 9999999) (disch := omega) only [go_sem, hr, hrm, h1, h2]; first | done | (repeat' (first | rfl | (refine And.intro ?_ ?_))))); (focus (simp (maxSteps := 9999999) (disch := omega) only [go_sem, hr, hrm, h1, h2]; rfl)))); (try simp (maxSteps := 9999999) (disch := omega) only [go_sem, hr, hrm, h1, h2]); (try (refine And.intro ?_ ?_; (focus (first | omega | (simp only [go_sem]; done) | (simp; done) | (simp; omega) | assumption))))) | ((first | refine CondP.split (fun hif => ?_) (fun hif => ?_) | refine Runs.part (fun hif => ?_) (fun hif => ?_)) <;> ((try simp only [hif]); (try simp only [decide_eq_true_eq, decide_eq_false_iff_not, Bool.not_eq_true, Bool.not_eq_false, Bool.not_eq_true', Bool.not_eq_false', beq_iff_eq, bne_iff_ne, bne_eq_false_iff_eq, beq_eq_false_iff_ne, ne_eq, Bool.and_eq_true, Bool.or_eq_true, Bool.or_eq_false_iff] at hif); (try (have h9 : _ = true := hif; simp only [h9])); (try (have h9 : _ = false := hif; simp only [h9])); (try simp (maxSteps := 9999999) (disch := omega) only [go_sem, hr, hrm, h1, h2]); (try (refine And.intro ?_ ?_; (focus (first | omega | (simp only [go_sem]; done) | (simp; done) | (simp; omega) | assumption)))); (try (exfalso; omega; done))))))
  (apply AWpA.loopL (fun k : Nat => [(1, .sl 1 boff L.length 1 none), (2, .sl 2 moff ms.length 2 none), (7, .ptr 3 0), (32, .sl 0 off ts.length 4 none), (33, I ts.length), (34, I k)]) (fun _ => [.cells true (rowsC off PtC ts), .cells true Pb, .cells true (rowsC moff TkC ms), WrO 4 0 2, .cells false []]) (fun k => ts.length - k) (fun k => k ≤ ts.length) (0) [0, 1, 2, _, _]; rotate_left; (focus (simp (maxSteps := 9999999) (disch := omega) only [go_sem, hr, hrm, sb.ren]; (try (repeat' (first | done | trivial | rfl | exact leAs_rfl _ | decide | (refine And.intro ?_ ?_) | (simp; done) | omega | (simp; decide)))))); rotate_right)
  · exact Nat.zero_le _
  rintro i hi
  (try simp only at hi)
  by_cases hil : i < ts.length
  · have hat := rowsC_at (off := off) (f := PtC) (k := 4) (fun _ => rfl) ts i hil
    have hok := hall ts[i] (List.getElem_mem _)
    have h3 := h300 ts[i] (List.getElem_mem _)
    generalize ts[i] = p at hat hok h3
    obtain ⟨pk, pw, pv, ⟨pad, poff, pcap, B⟩⟩ := p
    have hzp := hok.b.fz
    have hB : bytesB B := hok.b.all
    have hv : 0 ≤ pv ∧ pv < 18446744073709551616 := by
      have h := hok.v
      simp only [IntKind.min, IntKind.max, IntKind.signed, IntKind.bits] at h
      simp at h
      omega
    simp only at hzp h3 hat
    have s := Seg.rows (off := poff) (l := B) (by omega)
    generalize hP : rowsC poff (fun n : Int => [.val (.int .u8 n)]) B = P at s
    have hle := s.le
    have g1 : ((i : Int) < (ts.length : Int)) = True := eq_true (by omega)
    have hnum := number_any [] (by simp) 2 pv pw hv
    have hflag := flag_any [] (by simp) 2 true
    have htext := text_any [] (by simp) 2 (baI B)
    have hraw := raw1_any [] (by simp) 2 s
    rw [numE_K, numL_K, hen, hpn] at hnum hflag
    rw [textE_K, textL_K, hen, hpn] at htext
    rw [wput_K, hpn] at hraw
    simp only [bA_nil, List.length_nil, baI] at hnum hflag htext hraw
    (repeat' (first | (refine AWpA.thawO 53 3 (fun n : Int => [.val (.int .u8 n)]) hzp (fun _ => rfl) rfl rfl rfl ?_; (try simp only [hP, List.set_cons_zero, List.set_cons_succ]); (try simp (maxSteps := 9999999) (disch := omega) only [go_sem, g1, hlen, hat, PtC, hr, hrm, s.ren, s.seg, s.noAny, sb.ren])) | refine AWpA.seq ?_ | refine AWpA.block ?_ | (with_reducible refine CondP.tt ?_) | (with_reducible refine CondP.ff ?_) | refine AWpA.condv (by simp (maxSteps := 9999999) (disch := omega) only [go_sem, g1, hlen, hat, PtC, hr, hrm, s.ren, s.seg, s.noAny, sb.ren]; rfl) ?_ | ((first | (apply AWpA.region; (focus (simp (maxSteps := 9999999) (disch := omega) only [go_sem, g1, hlen, hat, PtC, hr, hrm, s.ren, s.seg, s.noAny, sb.ren]; rfl))) | (apply AWpA.draw [3, 4] follows; (focus (simp (maxSteps := 9999999) (disch := omega) only [go_sem, g1, hlen, hat, PtC, hr, hrm, s.ren, s.seg, s.noAny, sb.ren]; rfl)); (focus (simp (maxSteps := 9999999) (disch := omega) only [go_sem, g1, hlen, hat, PtC, hr, hrm, s.ren, s.seg, s.noAny, sb.ren]; first | done | trivial)); (focus (simp (maxSteps := 9999999) (disch := omega) only [go_sem, g1, hlen, hat, PtC, hr, hrm, s.ren, s.seg, s.noAny, sb.ren]; rfl))) | (apply TailK.go; (focus (simp (maxSteps := 9999999) (disch := omega) only [go_sem, g1, hlen, hat, PtC, hr, hrm, s.ren, s.seg, s.noAny, sb.ren]; rfl))) | refine AWpA.skip ?_ | refine AWpA.exit ?_ | refine AWpA.ret ?_ | (with_reducible refine ARoundsA.succ ?_) | ((first | refine Runs.kt (by assumption) (fun h9 => ?_) | refine Runs.kf (by assumption) (fun h9 => ?_) | refine Runs.nt (by assumption) (fun h9 => ?_) | refine Runs.nf (by assumption) (fun h9 => ?_) | refine CondP.ht (by assumption) (fun h9 => ?_) | refine CondP.hf (by assumption) (fun h9 => ?_) | refine CondP.nt (by assumption) (fun h9 => ?_) | refine CondP.nf (by assumption) (fun h9 => ?_)); (try simp only [h9]); clear h9) | ((first | (with_reducible apply CallG.plain1 [3, 150] (hflag)) | (with_reducible apply CallG.draw1 [3, 150] (hflag))); (focus ((try refine And.intro (leAs_of_eq rfl) ?_); (try refine And.intro (leOL_of_eq rfl) ?_); simp (maxSteps := 9999999) (disch := omega) only [go_sem, g1, hlen, hat, PtC, hr, hrm, s.ren, s.seg, s.noAny, sb.ren]; first | done | (repeat' (first | rfl | (refine And.intro ?_ ?_))))); (focus (simp (maxSteps := 9999999) (disch := omega) only [go_sem, g1, hlen, hat, PtC, hr, hrm, s.ren, s.seg, s.noAny, sb.ren]; rfl))) | ((first | (with_reducible apply CallG.plain1 [3, 166] (htext)) | (with_reducible apply CallG.draw1 [3, 166] (htext))); (focus ((try refine And.intro (leAs_of_eq rfl) ?_); (try refine And.intro (leOL_of_eq rfl) ?_); simp (maxSteps := 9999999) (disch := omega) only [go_sem, g1, hlen, hat, PtC, hr, hrm, s.ren, s.seg, s.noAny, sb.ren]; first | done | (repeat' (first | rfl | (refine And.intro ?_ ?_))))); (focus (simp (maxSteps := 9999999) (disch := omega) only [go_sem, g1, hlen, hat, PtC, hr, hrm, s.ren, s.seg, s.noAny, sb.ren]; rfl))) | ((first | (with_reducible apply CallG.plain1 [3, 230, 278, 85] (hraw)) | (with_reducible apply CallG.draw1 [3, 230, 278, 85] (hraw))); (focus ((try refine And.intro (leAs_of_eq rfl) ?_); (try refine And.intro (leOL_of_eq rfl) ?_); simp (maxSteps := 9999999) (disch := omega) only [go_sem, g1, hlen, hat, PtC, hr, hrm, s.ren, s.seg, s.noAny, sb.ren]; first | done | (repeat' (first | rfl | (refine And.intro ?_ ?_))))); (focus (simp (maxSteps := 9999999) (disch := omega) only [go_sem, g1, hlen, hat, PtC, hr, hrm, s.ren, s.seg, s.noAny, sb.ren]; rfl))) | ((first | (with_reducible apply CallG.plain1 [3, 4] (hnum)) | (with_reducible apply CallG.draw1 [3, 4] (hnum))); (focus ((try refine And.intro (leAs_of_eq rfl) ?_); (try refine And.intro (leOL_of_eq rfl) ?_); simp (maxSteps := 9999999) (disch := omega) only [go_sem, g1, hlen, hat, PtC, hr, hrm, s.ren, s.seg, s.noAny, sb.ren]; first | done | (repeat' (first | rfl | (refine And.intro ?_ ?_))))); (focus (simp (maxSteps := 9999999) (disch := omega) only [go_sem, g1, hlen, hat, PtC, hr, hrm, s.ren, s.seg, s.noAny, sb.ren]; rfl)))); (try simp (maxSteps := 9999999) (disch := omega) only [go_sem, g1, hlen, hat, PtC, hr, hrm, s.ren, s.seg, s.noAny, sb.ren]); (try (refine And.intro ?_ ?_; (focus (first | omega | (simp only [go_sem]; done) | (simp; done) | (simp; omega) | assumption))))) | ((first | refine CondP.split (fun hif => ?_) (fun hif => ?_) | refine Runs.part (fun hif => ?_) (fun hif => ?_)) <;> ((try simp only [hif]); (try simp only [decide_eq_true_eq, decide_eq_false_iff_not, Bool.not_eq_true, Bool.not_eq_false, Bool.not_eq_true', Bool.not_eq_false', beq_iff_eq, bne_iff_ne, bne_eq_false_iff_eq, beq_eq_false_iff_ne, ne_eq, Bool.and_eq_true, Bool.or_eq_true, Bool.or_eq_false_iff] at hif); (try (have h9 : _ = true := hif; simp only [h9])); (try (have h9 : _ = false := hif; simp only [h9])); (try simp (maxSteps := 9999999) (disch := omega) only [go_sem, g1, hlen, hat, PtC, hr, hrm, s.ren, s.seg, s.noAny, sb.ren]); (try (refine And.intro ?_ ?_; (focus (first | omega | (simp only [go_sem]; done) | (simp; done) | (simp; omega) | assumption)))); (try (exfalso; omega; done))))))
    (apply Back.to (i + 1) [0, 1, 2, 3, _]; (focus ((try simp (maxSteps := 9999999) (disch := omega) only [go_sem, hr, hrm, sb.ren]); first | done | omega)); rotate_left; (focus (simp (maxSteps := 9999999) (disch := omega) only [go_sem, hr, hrm, sb.ren]; (try (repeat' (first | done | trivial | rfl | exact leAs_rfl _ | decide | (refine And.intro ?_ ?_) | (simp; done) | omega | (simp; decide)))))))
    all_goals (first | exact hil | omega)
  obtain rfl : i = ts.length := by omega
  have hrr := rraw_any 0 L (by omega) hL 0 ((L.length : Int) + 1)
  have ho : rawOk 0 ((L.length : Int) + 1) (L.length - 0 : Nat) = false := by
    unfold rawOk
    rw [decide_eq_false (by omega)]
    rfl
  have hoe : rawE 0 ((L.length : Int) + 1) (L.length - 0 : Nat) = 6 := by
    unfold rawE hasE
    rw [decide_eq_false (by omega), decide_eq_true (by omega)]
    rfl
  rw [hoe, (rawOk_no ho).2.1, (rawOk_no ho).2.2] at hrr
  simp only [List.length_nil, bA_nil] at hrr
  (repeat' (first | refine AWpA.seq ?_ | refine AWpA.block ?_ | (with_reducible refine CondP.tt ?_) | (with_reducible refine CondP.ff ?_) | refine AWpA.condv (by simp (maxSteps := 9999999) (disch := omega) only [go_sem, hr, hrm, sb.ren]; rfl) ?_ | ((first | (apply AWpA.region; (focus (simp (maxSteps := 9999999) (disch := omega) only [go_sem, hr, hrm, sb.ren]; rfl))) | (apply AWpA.draw [] follows; (focus (simp (maxSteps := 9999999) (disch := omega) only [go_sem, hr, hrm, sb.ren]; rfl)); (focus (simp (maxSteps := 9999999) (disch := omega) only [go_sem, hr, hrm, sb.ren]; first | done | trivial)); (focus (simp (maxSteps := 9999999) (disch := omega) only [go_sem, hr, hrm, sb.ren]; rfl))) | (apply TailK.go; (focus (simp (maxSteps := 9999999) (disch := omega) only [go_sem, hr, hrm, sb.ren]; rfl))) | refine AWpA.skip ?_ | refine AWpA.exit ?_ | refine AWpA.ret ?_ | (with_reducible refine ARoundsA.succ ?_) | ((first | refine Runs.kt (by assumption) (fun h9 => ?_) | refine Runs.kf (by assumption) (fun h9 => ?_) | refine Runs.nt (by assumption) (fun h9 => ?_) | refine Runs.nf (by assumption) (fun h9 => ?_) | refine CondP.ht (by assumption) (fun h9 => ?_) | refine CondP.hf (by assumption) (fun h9 => ?_) | refine CondP.nt (by assumption) (fun h9 => ?_) | refine CondP.nf (by assumption) (fun h9 => ?_)); (try simp only [h9]); clear h9) | ((first | (with_reducible apply CallG.plain1 [_] (read_any sb)) | (with_reducible apply CallG.plain1 [37, 38] (hrr)) | (with_reducible apply CallG.draw1 [_] (read_any sb)) | (with_reducible apply CallG.draw1 [37, 38] (hrr))); (focus ((try refine And.intro (leAs_of_eq rfl) ?_); (try refine And.intro (leOL_of_eq rfl) ?_); simp (maxSteps := 9999999) (disch := omega) only [go_sem, hr, hrm, sb.ren]; first | done | (repeat' (first | rfl | (refine And.intro ?_ ?_))))); (focus (simp (maxSteps := 9999999) (disch := omega) only [go_sem, hr, hrm, sb.ren]; rfl)))); (try simp (maxSteps := 9999999) (disch := omega) only [go_sem, hr, hrm, sb.ren]); (try (refine And.intro ?_ ?_; (focus (first | omega | (simp only [go_sem]; done) | (simp; done) | (simp; omega) | assumption))))) | ((first | refine CondP.split (fun hif => ?_) (fun hif => ?_) | refine Runs.part (fun hif => ?_) (fun hif => ?_)) <;> ((try simp only [hif]); (try simp only [decide_eq_true_eq, decide_eq_false_iff_not, Bool.not_eq_true, Bool.not_eq_false, Bool.not_eq_true', Bool.not_eq_false', beq_iff_eq, bne_iff_ne, bne_eq_false_iff_eq, beq_eq_false_iff_ne, ne_eq, Bool.and_eq_true, Bool.or_eq_true, Bool.or_eq_false_iff] at hif); (try (have h9 : _ = true := hif; simp only [h9])); (try (have h9 : _ = false := hif; simp only [h9])); (try simp (maxSteps := 9999999) (disch := omega) only [go_sem, hr, hrm, sb.ren]); (try (refine And.intro ?_ ?_; (focus (first | omega | (simp only [go_sem]; done) | (simp; done) | (simp; omega) | assumption)))); (try (exfalso; omega; done))))))
  (apply AWpA.loopL (fun k : Nat => [(1, .sl 0 boff L.length 1 none), (7, .ptr 2 0), (10, .ptr 4 0), (62, .sl 1 moff ms.length 2 none), (63, I ms.length), (64, I k)]) (fun _ => [.cells true Pb, .cells true (rowsC moff TkC ms), WrO 3 0 2, .cells false [], RdO 5 0 L.length 6, .cells false (bA L)]) (fun k => ms.length - k) (fun k => k ≤ ms.length) (0) [1, 2, 3, 4, 37, 38]; rotate_left; (focus (simp (maxSteps := 9999999) (disch := omega) only [go_sem, hr, hrm, sb.ren]; (try (repeat' (first | done | trivial | rfl | exact leAs_rfl _ | decide | (refine And.intro ?_ ?_) | (simp; done) | omega | (simp; decide)))))); rotate_right)
  · exact Nat.zero_le _
  rintro i hi
  (try simp only at hi)
  have h6 : (6 : Int) ≠ 0 := by decide
  by_cases hil : i < ms.length
  · have hat := rowsC_at (off := moff) (f := TkC) (k := 2) (fun _ => rfl) ms i hil
    generalize ms[i] = t at hat
    obtain ⟨tk, tn⟩ := t
    have g1 : ((i : Int) < (ms.length : Int)) = True := eq_true (by omega)
    have q1 := rnum_any hL hby ⟨0, 6⟩ (Nat.zero_le _) tn
    have q2 := rflag_any hL ⟨0, 6⟩ (Nat.zero_le _)
    have q3 := rtext_any hL hby ⟨0, 6⟩ (Nat.zero_le _) tn
    have q4 := rraw_any 0 L (Nat.zero_le _) hL 6 tn
    have q5 := rfail_r 0 L 6 tk
    rw [(numC_err h6).1, (numC_err h6).2] at q1
    rw [(flagC_err h6).1, (flagC_err h6).2] at q2
    rw [(textC_err h6).1, (textC_err h6).2] at q3
    rw [rawE_err h6, (rawOk_no (rawOk_err h6)).2.1, (rawOk_no (rawOk_err h6)).2.2] at q4
    rw [failI_no h6] at q5
    have hem : (ByteArray.empty == (⟨#[]⟩ : ByteArray)) = true := by decide
    simp only [List.length_nil, bA_nil] at q1 q2 q3 q4 q5
    (repeat' (first | refine AWpA.seq ?_ | refine AWpA.block ?_ | (with_reducible refine CondP.tt ?_) | (with_reducible refine CondP.ff ?_) | refine AWpA.condv (by simp (maxSteps := 9999999) (disch := omega) only [go_sem, g1, hlenm, hat, TkC, hrm, sb.ren, hem]; rfl) ?_ | ((first | (apply AWpA.region; (focus (simp (maxSteps := 9999999) (disch := omega) only [go_sem, g1, hlenm, hat, TkC, hrm, sb.ren, hem]; rfl))) | (apply AWpA.draw [4] follows; (focus (simp (maxSteps := 9999999) (disch := omega) only [go_sem, g1, hlenm, hat, TkC, hrm, sb.ren, hem]; rfl)); (focus (simp (maxSteps := 9999999) (disch := omega) only [go_sem, g1, hlenm, hat, TkC, hrm, sb.ren, hem]; first | done | trivial)); (focus (simp (maxSteps := 9999999) (disch := omega) only [go_sem, g1, hlenm, hat, TkC, hrm, sb.ren, hem]; rfl))) | (apply TailK.go; (focus (simp (maxSteps := 9999999) (disch := omega) only [go_sem, g1, hlenm, hat, TkC, hrm, sb.ren, hem]; rfl))) | refine AWpA.skip ?_ | refine AWpA.exit ?_ | refine AWpA.ret ?_ | (with_reducible refine ARoundsA.succ ?_) | ((first | refine Runs.kt (by assumption) (fun h9 => ?_) | refine Runs.kf (by assumption) (fun h9 => ?_) | refine Runs.nt (by assumption) (fun h9 => ?_) | refine Runs.nf (by assumption) (fun h9 => ?_) | refine CondP.ht (by assumption) (fun h9 => ?_) | refine CondP.hf (by assumption) (fun h9 => ?_) | refine CondP.nt (by assumption) (fun h9 => ?_) | refine CondP.nf (by assumption) (fun h9 => ?_)); (try simp only [h9]); clear h9) | ((first | (with_reducible apply CallG.plain1 [4, 5] (q1)) | (with_reducible apply CallG.plain1 [4, 5] (q2)) | (with_reducible apply CallG.plain1 [4, 5] (q3)) | (with_reducible apply CallG.plain1 [4, 5] (q4)) | (with_reducible apply CallG.plain1 [4, 5] (q5)) | (with_reducible apply CallG.draw1 [4, 5] (q1)) | (with_reducible apply CallG.draw1 [4, 5] (q2)) | (with_reducible apply CallG.draw1 [4, 5] (q3)) | (with_reducible apply CallG.draw1 [4, 5] (q4)) | (with_reducible apply CallG.draw1 [4, 5] (q5))); (focus ((try refine And.intro (leAs_of_eq rfl) ?_); (try refine And.intro (leOL_of_eq rfl) ?_); simp (maxSteps := 9999999) (disch := omega) only [go_sem, g1, hlenm, hat, TkC, hrm, sb.ren, hem]; first | done | (repeat' (first | rfl | (refine And.intro ?_ ?_))))); (focus (simp (maxSteps := 9999999) (disch := omega) only [go_sem, g1, hlenm, hat, TkC, hrm, sb.ren, hem]; rfl)))); (try simp (maxSteps := 9999999) (disch := omega) only [go_sem, g1, hlenm, hat, TkC, hrm, sb.ren, hem]); (try (refine And.intro ?_ ?_; (focus (first | omega | (simp only [go_sem]; done) | (simp; done) | (simp; omega) | assumption))))) | ((first | refine CondP.split (fun hif => ?_) (fun hif => ?_) | refine Runs.part (fun hif => ?_) (fun hif => ?_)) <;> ((try simp only [hif]); (try simp only [decide_eq_true_eq, decide_eq_false_iff_not, Bool.not_eq_true, Bool.not_eq_false, Bool.not_eq_true', Bool.not_eq_false', beq_iff_eq, bne_iff_ne, bne_eq_false_iff_eq, beq_eq_false_iff_ne, ne_eq, Bool.and_eq_true, Bool.or_eq_true, Bool.or_eq_false_iff] at hif); (try (have h9 : _ = true := hif; simp only [h9])); (try (have h9 : _ = false := hif; simp only [h9])); (try simp (maxSteps := 9999999) (disch := omega) only [go_sem, g1, hlenm, hat, TkC, hrm, sb.ren, hem]); (try (refine And.intro ?_ ?_; (focus (first | omega | (simp only [go_sem]; done) | (simp; done) | (simp; omega) | assumption)))); (try (exfalso; omega; done))))))
    (apply Back.to (i + 1) [0, 1, 2, 3, 4, 5]; (focus ((try simp (maxSteps := 9999999) (disch := omega) only [go_sem, hrm, sb.ren]); first | done | omega)); rotate_left; (focus (simp (maxSteps := 9999999) (disch := omega) only [go_sem, hrm, sb.ren]; (try (repeat' (first | done | trivial | rfl | exact leAs_rfl _ | decide | (refine And.intro ?_ ?_) | (simp; done) | omega | (simp; decide)))))))
    all_goals (first | exact hil | omega)
  obtain rfl : i = ms.length := by omega
  have hd := rdone_any L ⟨0, 6⟩
  have e1 : doneC L ⟨0, 6⟩ = ⟨0, 6⟩ := by
    unfold doneC doneE
    rw [failI_no h6]
    cases decide (0 < L.length - 0) <;> rfl
  rw [e1] at hd
  (repeat' (first | refine AWpA.seq ?_ | refine AWpA.block ?_ | (with_reducible refine CondP.tt ?_) | (with_reducible refine CondP.ff ?_) | refine AWpA.condv (by simp (maxSteps := 9999999) (disch := omega) only [go_sem, hrm, sb.ren]; rfl) ?_ | ((first | (apply AWpA.region; (focus (simp (maxSteps := 9999999) (disch := omega) only [go_sem, hrm, sb.ren]; rfl))) | (apply AWpA.draw [] follows; (focus (simp (maxSteps := 9999999) (disch := omega) only [go_sem, hrm, sb.ren]; rfl)); (focus (simp (maxSteps := 9999999) (disch := omega) only [go_sem, hrm, sb.ren]; first | done | trivial)); (focus (simp (maxSteps := 9999999) (disch := omega) only [go_sem, hrm, sb.ren]; rfl))) | (apply TailK.go; (focus (simp (maxSteps := 9999999) (disch := omega) only [go_sem, hrm, sb.ren]; rfl))) | refine AWpA.skip ?_ | refine AWpA.exit ?_ | refine AWpA.ret ?_ | (with_reducible refine ARoundsA.succ ?_) | ((first | refine Runs.kt (by assumption) (fun h9 => ?_) | refine Runs.kf (by assumption) (fun h9 => ?_) | refine Runs.nt (by assumption) (fun h9 => ?_) | refine Runs.nf (by assumption) (fun h9 => ?_) | refine CondP.ht (by assumption) (fun h9 => ?_) | refine CondP.hf (by assumption) (fun h9 => ?_) | refine CondP.nt (by assumption) (fun h9 => ?_) | refine CondP.nf (by assumption) (fun h9 => ?_)); (try simp only [h9]); clear h9) | ((first | (with_reducible apply CallG.plain1 [2] (werr_any 2)) | (with_reducible apply CallG.plain1 [2, 3] (bytes_any [] 2 (by simp))) | (with_reducible apply CallG.plain1 [4] (rerr_any 6)) | (with_reducible apply CallG.plain1 [4, 5] (left_any 0 L 0)) | (with_reducible apply CallG.plain1 [4, 5] (hd)) | (with_reducible apply CallG.draw1 [2] (werr_any 2)) | (with_reducible apply CallG.draw1 [2, 3] (bytes_any [] 2 (by simp))) | (with_reducible apply CallG.draw1 [4] (rerr_any 6)) | (with_reducible apply CallG.draw1 [4, 5] (left_any 0 L 0)) | (with_reducible apply CallG.draw1 [4, 5] (hd))); (focus ((try refine And.intro (leAs_of_eq rfl) ?_); (try refine And.intro (leOL_of_eq rfl) ?_); simp (maxSteps := 9999999) (disch := omega) only [go_sem, hrm, sb.ren]; first | done | (repeat' (first | rfl | (refine And.intro ?_ ?_))))); (focus (simp (maxSteps := 9999999) (disch := omega) only [go_sem, hrm, sb.ren]; rfl)))); (try simp (maxSteps := 9999999) (disch := omega) only [go_sem, hrm, sb.ren]); (try (refine And.intro ?_ ?_; (focus (first | omega | (simp only [go_sem]; done) | (simp; done) | (simp; omega) | assumption))))) | ((first | refine CondP.split (fun hif => ?_) (fun hif => ?_) | refine Runs.part (fun hif => ?_) (fun hif => ?_)) <;> ((try simp only [hif]); (try simp only [decide_eq_true_eq, decide_eq_false_iff_not, Bool.not_eq_true, Bool.not_eq_false, Bool.not_eq_true', Bool.not_eq_false', beq_iff_eq, bne_iff_ne, bne_eq_false_iff_eq, beq_eq_false_iff_ne, ne_eq, Bool.and_eq_true, Bool.or_eq_true, Bool.or_eq_false_iff] at hif); (try (have h9 : _ = true := hif; simp only [h9])); (try (have h9 : _ = false := hif; simp only [h9])); (try simp (maxSteps := 9999999) (disch := omega) only [go_sem, hrm, sb.ren]); (try (refine And.intro ?_ ?_; (focus (first | omega | (simp only [go_sem]; done) | (simp; done) | (simp; omega) | assumption)))); (try (exfalso; omega; done))))))
  all_goals (refine TopPost.of (by first | exact .inl rfl | exact .inr rfl) (by simp (maxSteps := 9999999) (disch := omega) only [go_sem, Nat.sub_zero, List.length_nil]; rfl) ?_; simp (maxSteps := 9999999) (disch := omega) only [go_sem, Nat.sub_zero, List.length_nil]; (try (first | trivial | decide | (simp; done))))
end Go.Proofs.Yteggjhihpjjloaa
