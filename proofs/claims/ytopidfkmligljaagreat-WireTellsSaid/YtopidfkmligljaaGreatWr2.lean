/- Contracts: each field is put; a message's bytes. -/
import Derived.Test.YtopidfkmligljaaGreatWr1
import Derived.Test.YtopidfkmligljaaGreatWq4
namespace Go.Proofs.YtopidfkmligljaaGreat
noncomputable section
set_option linter.unusedSimpArgs false
set_option linter.unusedVariables false
set_option maxHeartbeats 4000000
open Go Go.Am Go.RowKit
set_option maxRecDepth 100000
set_option maxHeartbeats 8000000
/- quidnunc/wire.lays$1 -/
def c87_0 : ACode := .region false [⟨some 2, .load false 1, [.t 0], none⟩,
  ⟨some 3, .addr 1, [.t 1], none⟩,
  ⟨some 4, .load false 1, [.t 3], none⟩,
  ⟨some 5, .call 88, [.t 2, .t 4], none⟩] [] [] [] true [] []
def code87 : Code := (Tryz.f87.body).getD .skip
theorem c87_ok : compC Tryz.prog 6 code87 = some (strip c87_0) := by kernel_rfl
theorem res87_ok : Tryz.f87.results.toList.mapM (resC Tryz.prog) = some [] := by kernel_rfl
/- quidnunc/wire.lays$2 -/
def c89_0 : ACode := .region false [⟨some 2, .load false 1, [.t 0], none⟩,
  ⟨some 3, .addr 2, [.t 1], none⟩,
  ⟨some 4, .load false 1, [.t 3], none⟩,
  ⟨some 5, .call 88, [.t 2, .t 4], none⟩] [] [] [] true [] []
def code89 : Code := (Tryz.f89.body).getD .skip
theorem c89_ok : compC Tryz.prog 6 code89 = some (strip c89_0) := by kernel_rfl
theorem res89_ok : Tryz.f89.results.toList.mapM (resC Tryz.prog) = some [] := by kernel_rfl
/- quidnunc/wire.lays$3 -/
def c90_0 : ACode := .region false [⟨some 2, .load false 1, [.t 0], none⟩,
  ⟨some 3, .addr 3, [.t 1], none⟩,
  ⟨some 4, .load false 1, [.t 3], none⟩,
  ⟨some 5, .call 91, [.t 2, .t 4], none⟩] [] [] [] true [] []
def code90 : Code := (Tryz.f90.body).getD .skip
theorem c90_ok : compC Tryz.prog 6 code90 = some (strip c90_0) := by kernel_rfl
theorem res90_ok : Tryz.f90.results.toList.mapM (resC Tryz.prog) = some [] := by kernel_rfl
/- quidnunc/wire.lays$4 -/
def c92_0 : ACode := .region false [⟨some 2, .load false 1, [.t 0], none⟩,
  ⟨some 3, .addr 4, [.t 1], none⟩,
  ⟨some 4, .load false 1, [.t 3], none⟩,
  ⟨some 5, .call 93, [.t 2, .t 4, .c (.fn 88 [] [])], none⟩] [] [] [] true [] []
def code92 : Code := (Tryz.f92.body).getD .skip
theorem c92_ok : compC Tryz.prog 6 code92 = some (strip c92_0) := by kernel_rfl
theorem res92_ok : Tryz.f92.results.toList.mapM (resC Tryz.prog) = some [] := by kernel_rfl
/- quidnunc/wire.lays$5 -/
def c94_0 : ACode := .region false [⟨some 2, .load false 1, [.t 0], none⟩,
  ⟨some 3, .addr 5, [.t 1], none⟩,
  ⟨some 4, .load false 1, [.t 3], none⟩,
  ⟨some 5, .conv .u64, [.t 4], none⟩,
  ⟨some 6, .call 95, [.t 2, .t 5, .c (.val (.int .i64 4))], none⟩] [] [] [] true [] []
def code94 : Code := (Tryz.f94.body).getD .skip
theorem c94_ok : compC Tryz.prog 7 code94 = some (strip c94_0) := by kernel_rfl
theorem res94_ok : Tryz.f94.results.toList.mapM (resC Tryz.prog) = some [] := by kernel_rfl
/- quidnunc/wire.lays$6 -/
def c96_0 : ACode := .region false [⟨some 2, .load false 1, [.t 0], none⟩,
  ⟨some 3, .addr 6, [.t 1], none⟩,
  ⟨some 4, .load false 1, [.t 3], none⟩,
  ⟨some 5, .call 95, [.t 2, .t 4, .c (.val (.int .i64 8))], none⟩] [] [] [] true [] []
def code96 : Code := (Tryz.f96.body).getD .skip
theorem c96_ok : compC Tryz.prog 6 code96 = some (strip c96_0) := by kernel_rfl
theorem res96_ok : Tryz.f96.results.toList.mapM (resC Tryz.prog) = some [] := by kernel_rfl
/- quidnunc/wire.lays$7 -/
def c97_0 : ACode := .region false [⟨some 2, .load false 1, [.t 0], none⟩,
  ⟨some 3, .addr 7, [.t 1], none⟩,
  ⟨some 4, .load true 3, [.t 3], none⟩,
  ⟨some 5, .call 98, [.t 2, .t 4], none⟩] [] [] [] true [] []
def code97 : Code := (Tryz.f97.body).getD .skip
theorem c97_ok : compC Tryz.prog 6 code97 = some (strip c97_0) := by kernel_rfl
theorem res97_ok : Tryz.f97.results.toList.mapM (resC Tryz.prog) = some [] := by kernel_rfl
/- quidnunc/wire.lays$8 -/
def c99_0 : ACode := .region false [⟨some 2, .load false 1, [.t 0], none⟩,
  ⟨some 3, .addr 10, [.t 1], none⟩,
  ⟨some 4, .load false 1, [.t 3], none⟩,
  ⟨some 5, .call 100, [.t 2, .t 4, .c (.fn 98 [] [])], none⟩] [] [] [] true [] []
def code99 : Code := (Tryz.f99.body).getD .skip
theorem c99_ok : compC Tryz.prog 6 code99 = some (strip c99_0) := by kernel_rfl
theorem res99_ok : Tryz.f99.results.toList.mapM (resC Tryz.prog) = some [] := by kernel_rfl
/- quidnunc/wire.lays$9 -/
def c101_0 : ACode := .region false [⟨some 2, .load false 1, [.t 0], none⟩,
  ⟨some 3, .addr 11, [.t 1], none⟩,
  ⟨some 4, .load false 1, [.t 3], none⟩,
  ⟨some 5, .call 102, [.t 2, .t 4, .c (.fn 103 [] [])], none⟩] [] [] [] true [] []
def code101 : Code := (Tryz.f101.body).getD .skip
theorem c101_ok : compC Tryz.prog 6 code101 = some (strip c101_0) := by kernel_rfl
theorem res101_ok : Tryz.f101.results.toList.mapM (resC Tryz.prog) = some [] := by kernel_rfl
/- quidnunc/wire.lays -/
def c36_1 : ACode := .region false [⟨some 2, .box 0, [.t 0], none⟩,
  ⟨some 3, .box 0, [.t 1], none⟩,
  ⟨some 4, .alloc (List.replicate 9 .nilFunc), [], none⟩] [] [] [2, 3, 4] true [] []
def c36_3 : ACode := .region false [⟨some 5, .mkFn 87 0, [.t 2, .t 3], none⟩,
  ⟨some 6, .mkFn 89 0, [.t 2, .t 3], none⟩,
  ⟨some 7, .mkFn 90 0, [.t 2, .t 3], none⟩,
  ⟨some 8, .mkFn 92 0, [.t 2, .t 3], none⟩,
  ⟨some 9, .mkFn 94 0, [.t 2, .t 3], none⟩,
  ⟨some 10, .mkFn 96 0, [.t 2, .t 3], none⟩,
  ⟨some 11, .mkFn 97 0, [.t 2, .t 3], none⟩,
  ⟨some 12, .mkFn 99 0, [.t 2, .t 3], none⟩,
  ⟨some 13, .mkFn 101 0, [.t 2, .t 3], none⟩,
  ⟨some 14, .build (List.replicate 9 .nilFunc) [(0, 1), (1, 1), (2, 1), (3, 1), (4, 1), (5, 1), (6, 1), (7, 1), (8, 1)], [.t 5, .t 6, .t 7, .t 8, .t 9, .t 10, .t 11, .t 12, .t 13], none⟩,
  ⟨none, .store 9, [.t 4, .t 14], none⟩] [] [] [4] true [] []
def c36_2 : ACode := .seq c36_3 .ret
def c36_0 : ACode := .seq c36_1 c36_2
def code36 : Code := (Tryz.f36.body).getD .skip
theorem c36_ok : compC Tryz.prog 15 code36 = some (strip c36_0) := by kernel_rfl
theorem res36_ok : Tryz.f36.results.toList.mapM (resC Tryz.prog) = some [(4, some (true, 9))] := by kernel_rfl
/- quidnunc/wire.each -/
def c23_1 : ACode := .region false [⟨some 3, .box 0, [.t 1], none⟩] [] [] [0, 3] true [] []
def c23_3 : ACode := .region false [⟨some 6, .load true 9, [.t 3], none⟩,
  ⟨some 7, .move, [.c (.val (.int .i64 0))], none⟩] [] [] [0, 6, 7] false [] []
def c23_7 : ACode := .region false [⟨some 8, .bin .lss, [.t 7, .c (.val (.int .i64 9))], none⟩] [] [] [0, 6, 7, 8] false [] []
def c23_9 : ACode := .cond (.t 8) .skip (.exit 0)
def c23_13 : ACode := .region false [⟨some 9, .move, [.t 7], none⟩,
  ⟨some 10, .ixV false 9 1, [.t 6, .t 7], none⟩,
  ⟨some 4, .move, [.t 9], none⟩,
  ⟨some 5, .move, [.t 10], none⟩] [] [] [0, 4, 5, 6, 7] false [] []
def c23_15 : ACode := .region false [⟨some 11, .move, [.t 0], none⟩,
  ⟨some 12, .move, [.t 4], none⟩,
  ⟨some 13, .bin .shl, [.c (.val (.int .i64 1)), .t 12], none⟩,
  ⟨some 14, .bin .and, [.t 11, .t 13], none⟩,
  ⟨some 15, .bin .neq, [.t 14, .c (.val (.int .i64 0))], none⟩] [] [] [0, 5, 6, 7, 15] false [] []
def c23_17 : ACode := .region false [⟨some 16, .move, [.t 5], none⟩,
  ⟨some 17, .callv, [.t 16], none⟩] [] [] [0, 6, 7] true [] []
def c23_16 : ACode := .cond (.t 15) c23_17 .skip
def c23_14 : ACode := .seq c23_15 c23_16
def c23_12 : ACode := .seq c23_13 c23_14
def c23_11 : ACode := .block 1 c23_12
def c23_18 : ACode := .region false [⟨some 18, .bin .add, [.t 7, .c (.val (.int .i64 1))], none⟩,
  ⟨some 7, .move, [.t 18], none⟩] [] [] [0, 6, 7] false [] []
def c23_10 : ACode := .seq c23_11 c23_18
def c23_8 : ACode := .seq c23_9 c23_10
def c23_6 : ACode := .seq c23_7 c23_8
def c23_5 : ACode := .loop c23_6
def c23_4 : ACode := .block 0 c23_5
def c23_2 : ACode := .seq c23_3 c23_4
def c23_0 : ACode := .seq c23_1 c23_2
def code23 : Code := (Tryz.f23.body).getD .skip
theorem c23_ok : compC Tryz.prog 19 code23 = some (strip c23_0) := by kernel_rfl
theorem res23_ok : Tryz.f23.results.toList.mapM (resC Tryz.prog) = some [] := by kernel_rfl
theorem lays1_any (m : Wm) (a b c : Nat) (hf : fOk 0 m) (l : List Int) (hl : l.length ≤ 10000) : ACall Tryz.prog 87 [.ptr 0 0, .ptr 1 0] [.cells true [.ptr 2 0], .cells true (WmL m 4 a 5 b 6 c), WrO 3 l.length 0, .cells false (bA l), .cells true (Ri a m.peers), .cells true (Rm b m.marks), .cells true (Re c m.ents)] (Det (.tup []) [.cells true [.ptr 2 0], .cells true (WmL m 4 a 5 b 6 c), WrO 7 (l ++ fB 0 m).length 0, .gone, .cells true (Ri a m.peers), .cells true (Rm b m.marks), .cells true (Re c m.ents), .cells false (bA (l ++ fB 0 m))]) := by
  have hi := ri_ren
  have hm := rm_ren
  have he := re_ren
  have c1 := laynode_any m.peer hf l (by omega)
  rw [show leI m.peer 1 = fB 0 m from rfl] at c1
  clear hf
  generalize l ++ fB 0 m = l2 at *
  refine ACall.startA c87_ok Tryz.func87 rfl Tryz.ntmps87 (by kernel_rfl) res87_ok rfl rfl rfl ?_; simp (maxSteps := 9999999) (disch := omega) only [go_sem]
  (have k9 := And.intro @hi (And.intro @hm (And.intro @he (k0))); have a1 := Arm.mk [2, 3] c1; refine goK ?_; (try clear k9); (try clear a1))
  (have k9 := And.intro @hi (And.intro @hm (And.intro @he (And.intro @bA_ren (k0)))); exact Ret.dk [0, 1, 2, 3, 4, 5, 6, _])
theorem lays2_any (m : Wm) (a b c : Nat) (hf : fOk 1 m) (l : List Int) (hl : l.length ≤ 10000) : ACall Tryz.prog 89 [.ptr 0 0, .ptr 1 0] [.cells true [.ptr 2 0], .cells true (WmL m 4 a 5 b 6 c), WrO 3 l.length 0, .cells false (bA l), .cells true (Ri a m.peers), .cells true (Rm b m.marks), .cells true (Re c m.ents)] (Det (.tup []) [.cells true [.ptr 2 0], .cells true (WmL m 4 a 5 b 6 c), WrO 7 (l ++ fB 1 m).length 0, .gone, .cells true (Ri a m.peers), .cells true (Rm b m.marks), .cells true (Re c m.ents), .cells false (bA (l ++ fB 1 m))]) := by
  have hi := ri_ren
  have hm := rm_ren
  have he := re_ren
  have c1 := laynode_any m.hops hf l (by omega)
  rw [show leI m.hops 1 = fB 1 m from rfl] at c1
  clear hf
  generalize l ++ fB 1 m = l2 at *
  refine ACall.startA c89_ok Tryz.func89 rfl Tryz.ntmps89 (by kernel_rfl) res89_ok rfl rfl rfl ?_; simp (maxSteps := 9999999) (disch := omega) only [go_sem]
  (have k9 := And.intro @hi (And.intro @hm (And.intro @he (k0))); have a1 := Arm.mk [2, 3] c1; refine goK ?_; (try clear k9); (try clear a1))
  (have k9 := And.intro @hi (And.intro @hm (And.intro @he (And.intro @bA_ren (k0)))); exact Ret.dk [0, 1, 2, 3, 4, 5, 6, _])
theorem lays3_any (m : Wm) (a b c : Nat) (hf : fOk 2 m) (l : List Int) (hl : l.length ≤ 10000) : ACall Tryz.prog 90 [.ptr 0 0, .ptr 1 0] [.cells true [.ptr 2 0], .cells true (WmL m 4 a 5 b 6 c), WrO 3 l.length 0, .cells false (bA l), .cells true (Ri a m.peers), .cells true (Rm b m.marks), .cells true (Re c m.ents)] (Det (.tup []) [.cells true [.ptr 2 0], .cells true (WmL m 4 a 5 b 6 c), WrO 7 (l ++ fB 2 m).length 0, .gone, .cells true (Ri a m.peers), .cells true (Rm b m.marks), .cells true (Re c m.ents), .cells false (bA (l ++ fB 2 m))]) := by
  have hi := ri_ren
  have hm := rm_ren
  have he := re_ren
  have c1 := flag_any l (by omega) 0 m.high
  have hh : numL (cond m.high 1 0) 1 0 l = l ++ [cond m.high 1 0] ∧ numE (cond m.high 1 0) 1 0 = 0 := by
    cases m.high
    · exact numL_ok (v := 0) (k := 1) (by decide) (by decide) (by decide) (by decide) l
    · exact numL_ok (v := 1) (k := 1) (by decide) (by decide) (by decide) (by decide) l
  rw [hh.1, hh.2, show [cond m.high 1 0] = fB 2 m from rfl] at c1
  clear hh
  clear hf
  generalize l ++ fB 2 m = l2 at *
  refine ACall.startA c90_ok Tryz.func90 rfl Tryz.ntmps90 (by kernel_rfl) res90_ok rfl rfl rfl ?_; simp (maxSteps := 9999999) (disch := omega) only [go_sem]
  (have k9 := And.intro @hi (And.intro @hm (And.intro @he (k0))); have a1 := Arm.mk [2, 3] c1; refine goK ?_; (try clear k9); (try clear a1))
  (have k9 := And.intro @hi (And.intro @hm (And.intro @he (And.intro @bA_ren (k0)))); exact Ret.dk [0, 1, 2, 3, 4, 5, 6, _])
theorem lays4_any (m : Wm) (a b c : Nat) (hf : fOk 3 m) (l : List Int) (hl : l.length ≤ 10000) : ACall Tryz.prog 92 [.ptr 0 0, .ptr 1 0] [.cells true [.ptr 2 0], .cells true (WmL m 4 a 5 b 6 c), WrO 3 l.length 0, .cells false (bA l), .cells true (Ri a m.peers), .cells true (Rm b m.marks), .cells true (Re c m.ents)] (Det (.tup []) [.cells true [.ptr 2 0], .cells true (WmL m 4 a 5 b 6 c), WrO 7 (l ++ fB 3 m).length 0, .gone, .cells true (Ri a m.peers), .cells true (Rm b m.marks), .cells true (Re c m.ents), .cells false (bA (l ++ fB 3 m))]) := by
  have hi := ri_ren
  have hm := rm_ren
  have he := re_ren
  have c1 := layalli_any (enc := fun n => leI n 1) a m.peers hf.1 (fun x _ => by rw [leI_len]; decide) (fun x hx l' hl' => laynode_any x (hf.2 x hx) l' hl') l hl
  rw [show lsB (fun n => leI n 1) m.peers = fB 3 m from rfl] at c1
  clear hf
  generalize l ++ fB 3 m = l2 at *
  refine ACall.startA c92_ok Tryz.func92 rfl Tryz.ntmps92 (by kernel_rfl) res92_ok rfl rfl rfl ?_; simp (maxSteps := 9999999) (disch := omega) only [go_sem]
  (have k9 := And.intro @hi (And.intro @hm (And.intro @he (k0))); have a1 := Arm.mk [2, 3, 4] c1; refine goK ?_; (try clear k9); (try clear a1))
  (have k9 := And.intro @hi (And.intro @hm (And.intro @he (And.intro @bA_ren (k0)))); exact Ret.dk [0, 1, 2, 3, 4, 5, 6, _])
theorem lays5_any (m : Wm) (a b c : Nat) (hf : fOk 4 m) (l : List Int) (hl : l.length ≤ 10000) : ACall Tryz.prog 94 [.ptr 0 0, .ptr 1 0] [.cells true [.ptr 2 0], .cells true (WmL m 4 a 5 b 6 c), WrO 3 l.length 0, .cells false (bA l), .cells true (Ri a m.peers), .cells true (Rm b m.marks), .cells true (Re c m.ents)] (Det (.tup []) [.cells true [.ptr 2 0], .cells true (WmL m 4 a 5 b 6 c), WrO 7 (l ++ fB 4 m).length 0, .gone, .cells true (Ri a m.peers), .cells true (Rm b m.marks), .cells true (Re c m.ents), .cells false (bA (l ++ fB 4 m))]) := by
  have hi := ri_ren
  have hm := rm_ren
  have he := re_ren
  have h0 : fitsI m.num 4 = true ∧ 0 ≤ m.num := hf
  have hlt : m.num < 4294967296 := by
    have h1 := h0.1
    rw [show (4 : Int) = ((4 : Nat) : Int) from rfl, fitsI_eq] at h1
    simp only [beq_iff_eq] at h1
    have := h0.2
    omega
  have h2 := h0.2
  have c1 := number_any l (by omega) 0 m.num 4 (by omega)
  have h := numL_ok (v := m.num) (k := 4) (by decide) (by decide) h2 (by omega) l
  rw [show ((4 : Nat) : Int) = 4 from rfl] at h
  rw [h.1, h.2, show leI m.num 4 = fB 4 m from rfl] at c1
  clear h h0
  clear hf
  generalize l ++ fB 4 m = l2 at *
  refine ACall.startA c94_ok Tryz.func94 rfl Tryz.ntmps94 (by kernel_rfl) res94_ok rfl rfl rfl ?_; simp (maxSteps := 9999999) (disch := omega) only [go_sem]
  (have k9 := And.intro @hi (And.intro @hm (And.intro @he (k0))); have a1 := Arm.mk [2, 3] c1; refine goK ?_; (try clear k9); (try clear a1))
  (have k9 := And.intro @hi (And.intro @hm (And.intro @he (And.intro @bA_ren (k0)))); exact Ret.dk [0, 1, 2, 3, 4, 5, 6, _])
theorem lays6_any (m : Wm) (a b c : Nat) (hf : fOk 5 m) (l : List Int) (hl : l.length ≤ 10000) : ACall Tryz.prog 96 [.ptr 0 0, .ptr 1 0] [.cells true [.ptr 2 0], .cells true (WmL m 4 a 5 b 6 c), WrO 3 l.length 0, .cells false (bA l), .cells true (Ri a m.peers), .cells true (Rm b m.marks), .cells true (Re c m.ents)] (Det (.tup []) [.cells true [.ptr 2 0], .cells true (WmL m 4 a 5 b 6 c), WrO 7 (l ++ fB 5 m).length 0, .gone, .cells true (Ri a m.peers), .cells true (Rm b m.marks), .cells true (Re c m.ents), .cells false (bA (l ++ fB 5 m))]) := by
  have hi := ri_ren
  have hm := rm_ren
  have he := re_ren
  have h0 : fitsI m.sum 8 = true ∧ 0 ≤ m.sum := hf
  have hlt : m.sum < 18446744073709551616 := by
    have h1 := h0.1
    rw [show (8 : Int) = ((8 : Nat) : Int) from rfl, fitsI_eq] at h1
    simp only [beq_iff_eq] at h1
    have := h0.2
    omega
  have h2 := h0.2
  have c1 := number_any l (by omega) 0 m.sum 8 (by omega)
  have h := numL_ok (v := m.sum) (k := 8) (by decide) (by decide) h2 (by omega) l
  rw [show ((8 : Nat) : Int) = 8 from rfl] at h
  rw [h.1, h.2, show leI m.sum 8 = fB 5 m from rfl] at c1
  clear h h0
  clear hf
  generalize l ++ fB 5 m = l2 at *
  refine ACall.startA c96_ok Tryz.func96 rfl Tryz.ntmps96 (by kernel_rfl) res96_ok rfl rfl rfl ?_; simp (maxSteps := 9999999) (disch := omega) only [go_sem]
  (have k9 := And.intro @hi (And.intro @hm (And.intro @he (k0))); have a1 := Arm.mk [2, 3] c1; refine goK ?_; (try clear k9); (try clear a1))
  (have k9 := And.intro @hi (And.intro @hm (And.intro @he (And.intro @bA_ren (k0)))); exact Ret.dk [0, 1, 2, 3, 4, 5, 6, _])
theorem lays7_any (m : Wm) (a b c : Nat) (hf : fOk 6 m) (l : List Int) (hl : l.length ≤ 10000) : ACall Tryz.prog 97 [.ptr 0 0, .ptr 1 0] [.cells true [.ptr 2 0], .cells true (WmL m 4 a 5 b 6 c), WrO 3 l.length 0, .cells false (bA l), .cells true (Ri a m.peers), .cells true (Rm b m.marks), .cells true (Re c m.ents)] (Det (.tup []) [.cells true [.ptr 2 0], .cells true (WmL m 4 a 5 b 6 c), WrO 7 (l ++ fB 6 m).length 0, .gone, .cells true (Ri a m.peers), .cells true (Rm b m.marks), .cells true (Re c m.ents), .cells false (bA (l ++ fB 6 m))]) := by
  have hi := ri_ren
  have hm := rm_ren
  have he := re_ren
  have c1 := laymark_any m.mark hf l (by omega)
  rw [show mkB m.mark = fB 6 m from rfl] at c1
  clear hf
  generalize l ++ fB 6 m = l2 at *
  refine ACall.startA c97_ok Tryz.func97 rfl Tryz.ntmps97 (by kernel_rfl) res97_ok rfl rfl rfl ?_; simp (maxSteps := 9999999) (disch := omega) only [go_sem]
  (have k9 := And.intro @hi (And.intro @hm (And.intro @he (k0))); have a1 := Arm.mk [2, 3] c1; refine goK ?_; (try clear k9); (try clear a1))
  (have k9 := And.intro @hi (And.intro @hm (And.intro @he (And.intro @bA_ren (k0)))); exact Ret.dk [0, 1, 2, 3, 4, 5, 6, _])
theorem lays8_any (m : Wm) (a b c : Nat) (hf : fOk 7 m) (l : List Int) (hl : l.length ≤ 10000) : ACall Tryz.prog 99 [.ptr 0 0, .ptr 1 0] [.cells true [.ptr 2 0], .cells true (WmL m 4 a 5 b 6 c), WrO 3 l.length 0, .cells false (bA l), .cells true (Ri a m.peers), .cells true (Rm b m.marks), .cells true (Re c m.ents)] (Det (.tup []) [.cells true [.ptr 2 0], .cells true (WmL m 4 a 5 b 6 c), WrO 7 (l ++ fB 7 m).length 0, .gone, .cells true (Ri a m.peers), .cells true (Rm b m.marks), .cells true (Re c m.ents), .cells false (bA (l ++ fB 7 m))]) := by
  have hi := ri_ren
  have hm := rm_ren
  have he := re_ren
  have c1 := layallm_any (enc := mkB) b m.marks hf.1 (fun x hx => by have h3 : (x.key.size : Int) ≤ 16 := (hf.2 x hx).2.2; rw [mkB_len]; omega) (fun x hx l' hl' => laymark_any x (hf.2 x hx) l' hl') l hl
  rw [show lsB (mkB) m.marks = fB 7 m from rfl] at c1
  clear hf
  generalize l ++ fB 7 m = l2 at *
  refine ACall.startA c99_ok Tryz.func99 rfl Tryz.ntmps99 (by kernel_rfl) res99_ok rfl rfl rfl ?_; simp (maxSteps := 9999999) (disch := omega) only [go_sem]
  (have k9 := And.intro @hi (And.intro @hm (And.intro @he (k0))); have a1 := Arm.mk [2, 3, 5] c1; refine goK ?_; (try clear k9); (try clear a1))
  (have k9 := And.intro @hi (And.intro @hm (And.intro @he (And.intro @bA_ren (k0)))); exact Ret.dk [0, 1, 2, 3, 4, 5, 6, _])
theorem lays9_any (m : Wm) (a b c : Nat) (hf : fOk 8 m) (l : List Int) (hl : l.length ≤ 10000) : ACall Tryz.prog 101 [.ptr 0 0, .ptr 1 0] [.cells true [.ptr 2 0], .cells true (WmL m 4 a 5 b 6 c), WrO 3 l.length 0, .cells false (bA l), .cells true (Ri a m.peers), .cells true (Rm b m.marks), .cells true (Re c m.ents)] (Det (.tup []) [.cells true [.ptr 2 0], .cells true (WmL m 4 a 5 b 6 c), WrO 7 (l ++ fB 8 m).length 0, .gone, .cells true (Ri a m.peers), .cells true (Rm b m.marks), .cells true (Re c m.ents), .cells false (bA (l ++ fB 8 m))]) := by
  have hi := ri_ren
  have hm := rm_ren
  have he := re_ren
  have c1 := layalle_any (enc := enB) c m.ents hf.1 (fun x hx => by obtain ⟨-, k2, k3, -⟩ := check_ok (hf.2 x hx); rw [enB_len]; omega) (fun x hx l' hl' => lay_any x (hf.2 x hx) l' hl') l hl
  rw [show lsB (enB) m.ents = fB 8 m from rfl] at c1
  clear hf
  generalize l ++ fB 8 m = l2 at *
  refine ACall.startA c101_ok Tryz.func101 rfl Tryz.ntmps101 (by kernel_rfl) res101_ok rfl rfl rfl ?_; simp (maxSteps := 9999999) (disch := omega) only [go_sem]
  (have k9 := And.intro @hi (And.intro @hm (And.intro @he (k0))); have a1 := Arm.mk [2, 3, 6] c1; refine goK ?_; (try clear k9); (try clear a1))
  (have k9 := And.intro @hi (And.intro @hm (And.intro @he (And.intro @bA_ren (k0)))); exact Ret.dk [0, 1, 2, 3, 4, 5, 6, _])
theorem lays_any (m : Wm) (a b c : Nat) (l : List Int) : ACall Tryz.prog 36 [.ptr 0 0, WmA m 1 a 2 b 3 c] [WrO 4 l.length 0, .cells true (Ri a m.peers), .cells true (Rm b m.marks), .cells true (Re c m.ents), .cells false (bA l)] (Det (.agg [.fn 87 [] [.ptr 5 0, .ptr 6 0], .fn 89 [] [.ptr 5 0, .ptr 6 0], .fn 90 [] [.ptr 5 0, .ptr 6 0], .fn 92 [] [.ptr 5 0, .ptr 6 0], .fn 94 [] [.ptr 5 0, .ptr 6 0], .fn 96 [] [.ptr 5 0, .ptr 6 0], .fn 97 [] [.ptr 5 0, .ptr 6 0], .fn 99 [] [.ptr 5 0, .ptr 6 0], .fn 101 [] [.ptr 5 0, .ptr 6 0]]) [WrO 4 l.length 0, .cells true (Ri a m.peers), .cells true (Rm b m.marks), .cells true (Re c m.ents), .cells false (bA l), .cells false [.ptr 0 0], .cells false (WmL m 1 a 2 b 3 c)]) := by
  have hi := ri_ren
  have hm := rm_ren
  have he := re_ren
  refine ACall.startA c36_ok Tryz.func36 rfl Tryz.ntmps36 (by kernel_rfl) res36_ok rfl rfl rfl ?_; simp (maxSteps := 9999999) (disch := omega) only [go_sem]
  (have k9 := And.intro @hi (And.intro @hm (And.intro @he (And.intro @bA_ren (k0)))); refine goK ?_; (try clear k9))
  (have k9 := And.intro @hi (And.intro @hm (And.intro @he (And.intro @bA_ren (k0)))); exact Ret.dk [0, 1, 2, 3, 4, _, _])
theorem wBn_len2 {k : Int} {m : Wm} (ho : ∀ i, i < 9 → hasF k i = true → fOk i m) {i : Nat} (h : i ≤ 9) : (wBn k m i).length ≤ 1000 := by
  have h1 : ((List.range i).map fun j => if hasF k j = true then fMax j else 0).sum ≤ ((List.range 9).map fun j => if hasF k j = true then fMax j else 0).sum := by
    have e : List.range 9 = List.range i ++ (List.range (9 - i)).map (i + ·) := by rw [← List.range_add, show i + (9 - i) = 9 by omega]
    rw [e, List.map_append, List.sum_append]
    exact Nat.le_add_right _ _
  exact Nat.le_trans (wBn_len ho i h) (Nat.le_trans h1 (Nat.le_trans (sum_max k) (by decide)))
theorem eachL_any (m : Wm) (a b c : Nat) (hk : kindB m.kind = true) (ho : ∀ i, i < 9 → hasF m.kind i = true → fOk i m) (l : List Int) (hl : l.length ≤ 1000) : ACall Tryz.prog 23 [I (fldW m.kind.toNat), .agg [.fn 87 [] [.ptr 0 0, .ptr 1 0], .fn 89 [] [.ptr 0 0, .ptr 1 0], .fn 90 [] [.ptr 0 0, .ptr 1 0], .fn 92 [] [.ptr 0 0, .ptr 1 0], .fn 94 [] [.ptr 0 0, .ptr 1 0], .fn 96 [] [.ptr 0 0, .ptr 1 0], .fn 97 [] [.ptr 0 0, .ptr 1 0], .fn 99 [] [.ptr 0 0, .ptr 1 0], .fn 101 [] [.ptr 0 0, .ptr 1 0]]] [.cells true [.ptr 2 0], .cells true (WmL m 4 a 5 b 6 c), WrO 3 l.length 0, .cells false (bA l), .cells true (Ri a m.peers), .cells true (Rm b m.marks), .cells true (Re c m.ents)] (Det (.tup []) [.cells true [.ptr 2 0], .cells true (WmL m 4 a 5 b 6 c), WrO 7 (l ++ wBn m.kind m 9).length 0, .gone, .cells true (Ri a m.peers), .cells true (Rm b m.marks), .cells true (Re c m.ents), .cells false (bA (l ++ wBn m.kind m 9))]) := by
  have hi := ri_ren
  have hm := rm_ren
  have he := re_ren
  have mk0 := mask_k hk 0 (by decide)
  have mk1 := mask_k hk 1 (by decide)
  have mk2 := mask_k hk 2 (by decide)
  have mk3 := mask_k hk 3 (by decide)
  have mk4 := mask_k hk 4 (by decide)
  have mk5 := mask_k hk 5 (by decide)
  have mk6 := mask_k hk 6 (by decide)
  have mk7 := mask_k hk 7 (by decide)
  have mk8 := mask_k hk 8 (by decide)
  simp only [Nat.reducePow, Int.reducePow] at mk0 mk1 mk2 mk3 mk4 mk5 mk6 mk7 mk8
  have hS : ∀ i, wBn m.kind m (i + 1) = wBn m.kind m i ++ (if hasF m.kind i = true then fB i m else []) := fun i => rfl
  refine ACall.startA c23_ok Tryz.func23 rfl Tryz.ntmps23 (by kernel_rfl) res23_ok rfl rfl rfl ?_; simp (maxSteps := 9999999) (disch := omega) only [go_sem]
  (have k9 := And.intro @hi (And.intro @hm (And.intro @he (k0))); refine goK ?_; (try clear k9))
  (apply AWpA.loopL (fun i : Nat => [(0, I (fldW m.kind.toNat)), (6, .agg [.fn 87 [] [.ptr 0 0, .ptr 1 0], .fn 89 [] [.ptr 0 0, .ptr 1 0], .fn 90 [] [.ptr 0 0, .ptr 1 0], .fn 92 [] [.ptr 0 0, .ptr 1 0], .fn 94 [] [.ptr 0 0, .ptr 1 0], .fn 96 [] [.ptr 0 0, .ptr 1 0], .fn 97 [] [.ptr 0 0, .ptr 1 0], .fn 99 [] [.ptr 0 0, .ptr 1 0], .fn 101 [] [.ptr 0 0, .ptr 1 0]]), (7, I i)]) (fun i => [.cells true [.ptr 2 0], .cells true (WmL m 4 a 5 b 6 c), WrO 7 (l ++ wBn m.kind m i).length 0, .gone, .cells true (Ri a m.peers), .cells true (Rm b m.marks), .cells true (Re c m.ents), .cells false (bA (l ++ wBn m.kind m i))]) (fun i => 9 - i) (fun i => i ≤ 9) (0) [0, 1, 2, 3, 4, 5, 6, 3]; rotate_left; (focus (simp (maxSteps := 9999999) (disch := omega) only [go_sem, hi, hm, he, wBn, List.append_nil, bA_ren]; (try (repeat' (first | done | trivial | rfl | exact leAs_rfl _ | decide | (refine And.intro ?_ ?_) | (simp; done) | omega | (simp; decide)))))); rotate_right)
  · exact Nat.zero_le _
  rintro i hi9
  (try simp only at hi9)
  have hbl := wBn_len2 ho hi9
  have hlen : (l ++ wBn m.kind m i).length ≤ 10000 := by rw [List.length_append]; omega
  by_cases hin : i < 9
  · have hS := hS i
    have ho := ho i hin
    rcases (show i = 0 ∨ i = 1 ∨ i = 2 ∨ i = 3 ∨ i = 4 ∨ i = 5 ∨ i = 6 ∨ i = 7 ∨ i = 8 by omega) with rfl | rfl | rfl | rfl | rfl | rfl | rfl | rfl | rfl
    · cases hh : hasF m.kind 0 with
      | false =>
        rw [hh] at mk0 hS
        rw [if_neg (by decide), List.append_nil] at hS
        simp only [Nat.reduceAdd] at hS
        clear ho hbl
        generalize wBn m.kind m 0 = B at *
        (try simp (maxSteps := 9999999) (disch := omega) only [go_sem])
        (have k9 := And.intro @hi (And.intro @hm (And.intro @he (And.intro @mk0 (k0)))); refine goK ?_; (try clear k9))
        (have k9 := And.intro @hi (And.intro @hm (And.intro @he (And.intro @hS (And.intro @bA_ren (k0))))); refine Back.tk 1 [0, 1, 2, 3, 4, 5, 6, 7] ?_)
        omega
      | true =>
        rw [hh] at mk0 hS
        rw [if_pos rfl] at hS
        have hS2 : l ++ wBn m.kind m (0 + 1) = l ++ wBn m.kind m 0 ++ fB 0 m := by rw [hS, List.append_assoc]
        have c1 := lays1_any m a b c (ho hh) _ hlen
        clear ho hS hbl
        generalize l ++ wBn m.kind m 0 = B at *
        simp only [Nat.reduceAdd] at hS2
        have hS3 := congrArg List.length hS2
        rw [List.length_append, List.length_append] at hS3
        generalize fB 0 m = f at *
        (try simp (maxSteps := 9999999) (disch := omega) only [go_sem])
        (have k9 := And.intro @hi (And.intro @hm (And.intro @he (And.intro @mk0 (k0)))); have x9 := Xs.mk [2, 7] []; have a1 := Arm.mk [0, 1, 2, 7, 4, 5, 6] c1; refine goK ?_; (try clear k9); (try clear a1))
        (have k9 := And.intro @hi (And.intro @hm (And.intro @he (And.intro @hS2 (And.intro @hS3 (And.intro @bA_ren (k0)))))); refine Back.tk 1 [0, 1, 2, 3, 4, 5, 6, 184] ?_)
        omega
    · cases hh : hasF m.kind 1 with
      | false =>
        rw [hh] at mk1 hS
        rw [if_neg (by decide), List.append_nil] at hS
        simp only [Nat.reduceAdd] at hS
        clear ho hbl
        generalize wBn m.kind m 1 = B at *
        (try simp (maxSteps := 9999999) (disch := omega) only [go_sem])
        (have k9 := And.intro @hi (And.intro @hm (And.intro @he (And.intro @mk1 (k0)))); refine goK ?_; (try clear k9))
        (have k9 := And.intro @hi (And.intro @hm (And.intro @he (And.intro @hS (And.intro @bA_ren (k0))))); refine Back.tk 2 [0, 1, 2, 3, 4, 5, 6, 7] ?_)
        omega
      | true =>
        rw [hh] at mk1 hS
        rw [if_pos rfl] at hS
        have hS2 : l ++ wBn m.kind m (1 + 1) = l ++ wBn m.kind m 1 ++ fB 1 m := by rw [hS, List.append_assoc]
        have c1 := lays2_any m a b c (ho hh) _ hlen
        clear ho hS hbl
        generalize l ++ wBn m.kind m 1 = B at *
        simp only [Nat.reduceAdd] at hS2
        have hS3 := congrArg List.length hS2
        rw [List.length_append, List.length_append] at hS3
        generalize fB 1 m = f at *
        (try simp (maxSteps := 9999999) (disch := omega) only [go_sem])
        (have k9 := And.intro @hi (And.intro @hm (And.intro @he (And.intro @mk1 (k0)))); have x9 := Xs.mk [2, 7] []; have a1 := Arm.mk [0, 1, 2, 7, 4, 5, 6] c1; refine goK ?_; (try clear k9); (try clear a1))
        (have k9 := And.intro @hi (And.intro @hm (And.intro @he (And.intro @hS2 (And.intro @hS3 (And.intro @bA_ren (k0)))))); refine Back.tk 2 [0, 1, 2, 3, 4, 5, 6, 184] ?_)
        omega
    · cases hh : hasF m.kind 2 with
      | false =>
        rw [hh] at mk2 hS
        rw [if_neg (by decide), List.append_nil] at hS
        simp only [Nat.reduceAdd] at hS
        clear ho hbl
        generalize wBn m.kind m 2 = B at *
        (try simp (maxSteps := 9999999) (disch := omega) only [go_sem])
        (have k9 := And.intro @hi (And.intro @hm (And.intro @he (And.intro @mk2 (k0)))); refine goK ?_; (try clear k9))
        (have k9 := And.intro @hi (And.intro @hm (And.intro @he (And.intro @hS (And.intro @bA_ren (k0))))); refine Back.tk 3 [0, 1, 2, 3, 4, 5, 6, 7] ?_)
        omega
      | true =>
        rw [hh] at mk2 hS
        rw [if_pos rfl] at hS
        have hS2 : l ++ wBn m.kind m (2 + 1) = l ++ wBn m.kind m 2 ++ fB 2 m := by rw [hS, List.append_assoc]
        have c1 := lays3_any m a b c (ho hh) _ hlen
        clear ho hS hbl
        generalize l ++ wBn m.kind m 2 = B at *
        simp only [Nat.reduceAdd] at hS2
        have hS3 := congrArg List.length hS2
        rw [List.length_append, List.length_append] at hS3
        generalize fB 2 m = f at *
        (try simp (maxSteps := 9999999) (disch := omega) only [go_sem])
        (have k9 := And.intro @hi (And.intro @hm (And.intro @he (And.intro @mk2 (k0)))); have x9 := Xs.mk [2, 7] []; have a1 := Arm.mk [0, 1, 2, 7, 4, 5, 6] c1; refine goK ?_; (try clear k9); (try clear a1))
        (have k9 := And.intro @hi (And.intro @hm (And.intro @he (And.intro @hS2 (And.intro @hS3 (And.intro @bA_ren (k0)))))); refine Back.tk 3 [0, 1, 2, 3, 4, 5, 6, 184] ?_)
        omega
    · cases hh : hasF m.kind 3 with
      | false =>
        rw [hh] at mk3 hS
        rw [if_neg (by decide), List.append_nil] at hS
        simp only [Nat.reduceAdd] at hS
        clear ho hbl
        generalize wBn m.kind m 3 = B at *
        (try simp (maxSteps := 9999999) (disch := omega) only [go_sem])
        (have k9 := And.intro @hi (And.intro @hm (And.intro @he (And.intro @mk3 (k0)))); refine goK ?_; (try clear k9))
        (have k9 := And.intro @hi (And.intro @hm (And.intro @he (And.intro @hS (And.intro @bA_ren (k0))))); refine Back.tk 4 [0, 1, 2, 3, 4, 5, 6, 7] ?_)
        omega
      | true =>
        rw [hh] at mk3 hS
        rw [if_pos rfl] at hS
        have hS2 : l ++ wBn m.kind m (3 + 1) = l ++ wBn m.kind m 3 ++ fB 3 m := by rw [hS, List.append_assoc]
        have c1 := lays4_any m a b c (ho hh) _ hlen
        clear ho hS hbl
        generalize l ++ wBn m.kind m 3 = B at *
        simp only [Nat.reduceAdd] at hS2
        have hS3 := congrArg List.length hS2
        rw [List.length_append, List.length_append] at hS3
        generalize fB 3 m = f at *
        (try simp (maxSteps := 9999999) (disch := omega) only [go_sem])
        (have k9 := And.intro @hi (And.intro @hm (And.intro @he (And.intro @mk3 (k0)))); have x9 := Xs.mk [2, 7] []; have a1 := Arm.mk [0, 1, 2, 7, 4, 5, 6] c1; refine goK ?_; (try clear k9); (try clear a1))
        (have k9 := And.intro @hi (And.intro @hm (And.intro @he (And.intro @hS2 (And.intro @hS3 (And.intro @bA_ren (k0)))))); refine Back.tk 4 [0, 1, 2, 3, 4, 5, 6, 184] ?_)
        omega
    · cases hh : hasF m.kind 4 with
      | false =>
        rw [hh] at mk4 hS
        rw [if_neg (by decide), List.append_nil] at hS
        simp only [Nat.reduceAdd] at hS
        clear ho hbl
        generalize wBn m.kind m 4 = B at *
        (try simp (maxSteps := 9999999) (disch := omega) only [go_sem])
        (have k9 := And.intro @hi (And.intro @hm (And.intro @he (And.intro @mk4 (k0)))); refine goK ?_; (try clear k9))
        (have k9 := And.intro @hi (And.intro @hm (And.intro @he (And.intro @hS (And.intro @bA_ren (k0))))); refine Back.tk 5 [0, 1, 2, 3, 4, 5, 6, 7] ?_)
        omega
      | true =>
        rw [hh] at mk4 hS
        rw [if_pos rfl] at hS
        have hS2 : l ++ wBn m.kind m (4 + 1) = l ++ wBn m.kind m 4 ++ fB 4 m := by rw [hS, List.append_assoc]
        have c1 := lays5_any m a b c (ho hh) _ hlen
        clear ho hS hbl
        generalize l ++ wBn m.kind m 4 = B at *
        simp only [Nat.reduceAdd] at hS2
        have hS3 := congrArg List.length hS2
        rw [List.length_append, List.length_append] at hS3
        generalize fB 4 m = f at *
        (try simp (maxSteps := 9999999) (disch := omega) only [go_sem])
        (have k9 := And.intro @hi (And.intro @hm (And.intro @he (And.intro @mk4 (k0)))); have x9 := Xs.mk [2, 7] []; have a1 := Arm.mk [0, 1, 2, 7, 4, 5, 6] c1; refine goK ?_; (try clear k9); (try clear a1))
        (have k9 := And.intro @hi (And.intro @hm (And.intro @he (And.intro @hS2 (And.intro @hS3 (And.intro @bA_ren (k0)))))); refine Back.tk 5 [0, 1, 2, 3, 4, 5, 6, 184] ?_)
        omega
    · cases hh : hasF m.kind 5 with
      | false =>
        rw [hh] at mk5 hS
        rw [if_neg (by decide), List.append_nil] at hS
        simp only [Nat.reduceAdd] at hS
        clear ho hbl
        generalize wBn m.kind m 5 = B at *
        (try simp (maxSteps := 9999999) (disch := omega) only [go_sem])
        (have k9 := And.intro @hi (And.intro @hm (And.intro @he (And.intro @mk5 (k0)))); refine goK ?_; (try clear k9))
        (have k9 := And.intro @hi (And.intro @hm (And.intro @he (And.intro @hS (And.intro @bA_ren (k0))))); refine Back.tk 6 [0, 1, 2, 3, 4, 5, 6, 7] ?_)
        omega
      | true =>
        rw [hh] at mk5 hS
        rw [if_pos rfl] at hS
        have hS2 : l ++ wBn m.kind m (5 + 1) = l ++ wBn m.kind m 5 ++ fB 5 m := by rw [hS, List.append_assoc]
        have c1 := lays6_any m a b c (ho hh) _ hlen
        clear ho hS hbl
        generalize l ++ wBn m.kind m 5 = B at *
        simp only [Nat.reduceAdd] at hS2
        have hS3 := congrArg List.length hS2
        rw [List.length_append, List.length_append] at hS3
        generalize fB 5 m = f at *
        (try simp (maxSteps := 9999999) (disch := omega) only [go_sem])
        (have k9 := And.intro @hi (And.intro @hm (And.intro @he (And.intro @mk5 (k0)))); have x9 := Xs.mk [2, 7] []; have a1 := Arm.mk [0, 1, 2, 7, 4, 5, 6] c1; refine goK ?_; (try clear k9); (try clear a1))
        (have k9 := And.intro @hi (And.intro @hm (And.intro @he (And.intro @hS2 (And.intro @hS3 (And.intro @bA_ren (k0)))))); refine Back.tk 6 [0, 1, 2, 3, 4, 5, 6, 184] ?_)
        omega
    · cases hh : hasF m.kind 6 with
      | false =>
        rw [hh] at mk6 hS
        rw [if_neg (by decide), List.append_nil] at hS
        simp only [Nat.reduceAdd] at hS
        clear ho hbl
        generalize wBn m.kind m 6 = B at *
        (try simp (maxSteps := 9999999) (disch := omega) only [go_sem])
        (have k9 := And.intro @hi (And.intro @hm (And.intro @he (And.intro @mk6 (k0)))); refine goK ?_; (try clear k9))
        (have k9 := And.intro @hi (And.intro @hm (And.intro @he (And.intro @hS (And.intro @bA_ren (k0))))); refine Back.tk 7 [0, 1, 2, 3, 4, 5, 6, 7] ?_)
        omega
      | true =>
        rw [hh] at mk6 hS
        rw [if_pos rfl] at hS
        have hS2 : l ++ wBn m.kind m (6 + 1) = l ++ wBn m.kind m 6 ++ fB 6 m := by rw [hS, List.append_assoc]
        have c1 := lays7_any m a b c (ho hh) _ hlen
        clear ho hS hbl
        generalize l ++ wBn m.kind m 6 = B at *
        simp only [Nat.reduceAdd] at hS2
        have hS3 := congrArg List.length hS2
        rw [List.length_append, List.length_append] at hS3
        generalize fB 6 m = f at *
        (try simp (maxSteps := 9999999) (disch := omega) only [go_sem])
        (have k9 := And.intro @hi (And.intro @hm (And.intro @he (And.intro @mk6 (k0)))); have x9 := Xs.mk [2, 7] []; have a1 := Arm.mk [0, 1, 2, 7, 4, 5, 6] c1; refine goK ?_; (try clear k9); (try clear a1))
        (have k9 := And.intro @hi (And.intro @hm (And.intro @he (And.intro @hS2 (And.intro @hS3 (And.intro @bA_ren (k0)))))); refine Back.tk 7 [0, 1, 2, 3, 4, 5, 6, 184] ?_)
        omega
    · cases hh : hasF m.kind 7 with
      | false =>
        rw [hh] at mk7 hS
        rw [if_neg (by decide), List.append_nil] at hS
        simp only [Nat.reduceAdd] at hS
        clear ho hbl
        generalize wBn m.kind m 7 = B at *
        (try simp (maxSteps := 9999999) (disch := omega) only [go_sem])
        (have k9 := And.intro @hi (And.intro @hm (And.intro @he (And.intro @mk7 (k0)))); refine goK ?_; (try clear k9))
        (have k9 := And.intro @hi (And.intro @hm (And.intro @he (And.intro @hS (And.intro @bA_ren (k0))))); refine Back.tk 8 [0, 1, 2, 3, 4, 5, 6, 7] ?_)
        omega
      | true =>
        rw [hh] at mk7 hS
        rw [if_pos rfl] at hS
        have hS2 : l ++ wBn m.kind m (7 + 1) = l ++ wBn m.kind m 7 ++ fB 7 m := by rw [hS, List.append_assoc]
        have c1 := lays8_any m a b c (ho hh) _ hlen
        clear ho hS hbl
        generalize l ++ wBn m.kind m 7 = B at *
        simp only [Nat.reduceAdd] at hS2
        have hS3 := congrArg List.length hS2
        rw [List.length_append, List.length_append] at hS3
        generalize fB 7 m = f at *
        (try simp (maxSteps := 9999999) (disch := omega) only [go_sem])
        (have k9 := And.intro @hi (And.intro @hm (And.intro @he (And.intro @mk7 (k0)))); have x9 := Xs.mk [2, 7] []; have a1 := Arm.mk [0, 1, 2, 7, 4, 5, 6] c1; refine goK ?_; (try clear k9); (try clear a1))
        (have k9 := And.intro @hi (And.intro @hm (And.intro @he (And.intro @hS2 (And.intro @hS3 (And.intro @bA_ren (k0)))))); refine Back.tk 8 [0, 1, 2, 3, 4, 5, 6, 184] ?_)
        omega
    · cases hh : hasF m.kind 8 with
      | false =>
        rw [hh] at mk8 hS
        rw [if_neg (by decide), List.append_nil] at hS
        simp only [Nat.reduceAdd] at hS
        clear ho hbl
        generalize wBn m.kind m 8 = B at *
        (try simp (maxSteps := 9999999) (disch := omega) only [go_sem])
        (have k9 := And.intro @hi (And.intro @hm (And.intro @he (And.intro @mk8 (k0)))); refine goK ?_; (try clear k9))
        (have k9 := And.intro @hi (And.intro @hm (And.intro @he (And.intro @hS (And.intro @bA_ren (k0))))); refine Back.tk 9 [0, 1, 2, 3, 4, 5, 6, 7] ?_)
        omega
      | true =>
        rw [hh] at mk8 hS
        rw [if_pos rfl] at hS
        have hS2 : l ++ wBn m.kind m (8 + 1) = l ++ wBn m.kind m 8 ++ fB 8 m := by rw [hS, List.append_assoc]
        have c1 := lays9_any m a b c (ho hh) _ hlen
        clear ho hS hbl
        generalize l ++ wBn m.kind m 8 = B at *
        simp only [Nat.reduceAdd] at hS2
        have hS3 := congrArg List.length hS2
        rw [List.length_append, List.length_append] at hS3
        generalize fB 8 m = f at *
        (try simp (maxSteps := 9999999) (disch := omega) only [go_sem])
        (have k9 := And.intro @hi (And.intro @hm (And.intro @he (And.intro @mk8 (k0)))); have x9 := Xs.mk [2, 7] []; have a1 := Arm.mk [0, 1, 2, 7, 4, 5, 6] c1; refine goK ?_; (try clear k9); (try clear a1))
        (have k9 := And.intro @hi (And.intro @hm (And.intro @he (And.intro @hS2 (And.intro @hS3 (And.intro @bA_ren (k0)))))); refine Back.tk 9 [0, 1, 2, 3, 4, 5, 6, 184] ?_)
        omega
  · obtain rfl : i = 9 := by omega
    clear hbl hS ho
    have hC : (l ++ wBn m.kind m 9).length = l.length + (wBn m.kind m 9).length := List.length_append
    generalize l ++ wBn m.kind m 9 = B at *
    (try simp (maxSteps := 9999999) (disch := omega) only [go_sem])
    (have k9 := And.intro @hi (And.intro @hm (And.intro @he (k0))); refine goK ?_; (try clear k9))
    (have k9 := And.intro @hi (And.intro @hm (And.intro @he (And.intro @hC (And.intro @bA_ren (k0))))); exact Ret.dk [0, 1, 2, 3, 4, 5, 6, 7])
end
end Go.Proofs.YtopidfkmligljaaGreat
