/- Contracts: each field is taken. -/
import Derived.Test.YtopidfkmligljaaGreatWs1
import Derived.Test.YtopidfkmligljaaGreatWr2
namespace Go.Proofs.YtopidfkmligljaaGreat
noncomputable section
set_option linter.unusedSimpArgs false
set_option linter.unusedVariables false
set_option maxHeartbeats 4000000
open Go Go.Am Go.RowKit
set_option maxRecDepth 100000
set_option maxHeartbeats 8000000
/- quidnunc/wire.takes$1 -/
def c62_0 : ACode := .region true [⟨some 2, .load false 1, [.t 1], none⟩,
  ⟨some 3, .load false 1, [.t 0], none⟩,
  ⟨some 4, .call 63, [.t 3], none⟩,
  ⟨some 5, .nilChk, [.t 2], none⟩,
  ⟨some 6, .addr 1, [.t 5], none⟩,
  ⟨none, .store 1, [.t 6, .t 4], none⟩] [] [] [] true [] []
def code62 : Code := (Tryz.f62.body).getD .skip
theorem c62_ok : compC Tryz.prog 7 code62 = some (strip c62_0) := by kernel_rfl
theorem res62_ok : Tryz.f62.results.toList.mapM (resC Tryz.prog) = some [] := by kernel_rfl
/- quidnunc/wire.takes$2 -/
def c64_0 : ACode := .region true [⟨some 2, .load false 1, [.t 1], none⟩,
  ⟨some 3, .load false 1, [.t 0], none⟩,
  ⟨some 4, .call 63, [.t 3], none⟩,
  ⟨some 5, .nilChk, [.t 2], none⟩,
  ⟨some 6, .addr 2, [.t 5], none⟩,
  ⟨none, .store 1, [.t 6, .t 4], none⟩] [] [] [] true [] []
def code64 : Code := (Tryz.f64.body).getD .skip
theorem c64_ok : compC Tryz.prog 7 code64 = some (strip c64_0) := by kernel_rfl
theorem res64_ok : Tryz.f64.results.toList.mapM (resC Tryz.prog) = some [] := by kernel_rfl
/- quidnunc/wire.takes$3 -/
def c65_0 : ACode := .region true [⟨some 2, .load false 1, [.t 1], none⟩,
  ⟨some 3, .load false 1, [.t 0], none⟩,
  ⟨some 4, .call 66, [.t 3], none⟩,
  ⟨some 5, .nilChk, [.t 2], none⟩,
  ⟨some 6, .addr 3, [.t 5], none⟩,
  ⟨none, .store 1, [.t 6, .t 4], none⟩] [] [] [] true [] []
def code65 : Code := (Tryz.f65.body).getD .skip
theorem c65_ok : compC Tryz.prog 7 code65 = some (strip c65_0) := by kernel_rfl
theorem res65_ok : Tryz.f65.results.toList.mapM (resC Tryz.prog) = some [] := by kernel_rfl
/- quidnunc/wire.takes$4 -/
def c67_0 : ACode := .region true [⟨some 2, .load false 1, [.t 1], none⟩,
  ⟨some 3, .load false 1, [.t 0], none⟩,
  ⟨some 4, .call 68, [.t 3, .c (.fn 63 [] [])], none⟩,
  ⟨some 5, .nilChk, [.t 2], none⟩,
  ⟨some 6, .addr 4, [.t 5], none⟩,
  ⟨none, .store 1, [.t 6, .t 4], none⟩] [] [] [] true [] []
def code67 : Code := (Tryz.f67.body).getD .skip
theorem c67_ok : compC Tryz.prog 7 code67 = some (strip c67_0) := by kernel_rfl
theorem res67_ok : Tryz.f67.results.toList.mapM (resC Tryz.prog) = some [] := by kernel_rfl
/- quidnunc/wire.takes$5 -/
def c69_0 : ACode := .region true [⟨some 2, .load false 1, [.t 1], none⟩,
  ⟨some 3, .load false 1, [.t 0], none⟩,
  ⟨some 4, .call 70, [.t 3, .c (.val (.int .i64 4))], none⟩,
  ⟨some 5, .conv .i64, [.t 4], none⟩,
  ⟨some 6, .nilChk, [.t 2], none⟩,
  ⟨some 7, .addr 5, [.t 6], none⟩,
  ⟨none, .store 1, [.t 7, .t 5], none⟩] [] [] [] true [] []
def code69 : Code := (Tryz.f69.body).getD .skip
theorem c69_ok : compC Tryz.prog 8 code69 = some (strip c69_0) := by kernel_rfl
theorem res69_ok : Tryz.f69.results.toList.mapM (resC Tryz.prog) = some [] := by kernel_rfl
/- quidnunc/wire.takes$6 -/
def c71_0 : ACode := .region true [⟨some 2, .load false 1, [.t 1], none⟩,
  ⟨some 3, .load false 1, [.t 0], none⟩,
  ⟨some 4, .call 70, [.t 3, .c (.val (.int .i64 8))], none⟩,
  ⟨some 5, .nilChk, [.t 2], none⟩,
  ⟨some 6, .addr 6, [.t 5], none⟩,
  ⟨none, .store 1, [.t 6, .t 4], none⟩] [] [] [] true [] []
def code71 : Code := (Tryz.f71.body).getD .skip
theorem c71_ok : compC Tryz.prog 7 code71 = some (strip c71_0) := by kernel_rfl
theorem res71_ok : Tryz.f71.results.toList.mapM (resC Tryz.prog) = some [] := by kernel_rfl
/- quidnunc/wire.takes$7 -/
def c72_0 : ACode := .region true [⟨some 2, .load false 1, [.t 1], none⟩,
  ⟨some 3, .load false 1, [.t 0], none⟩,
  ⟨some 4, .call 73, [.t 3], none⟩,
  ⟨some 5, .nilChk, [.t 2], none⟩,
  ⟨some 6, .addr 7, [.t 5], none⟩,
  ⟨none, .store 3, [.t 6, .t 4], none⟩] [] [] [] true [] []
def code72 : Code := (Tryz.f72.body).getD .skip
theorem c72_ok : compC Tryz.prog 7 code72 = some (strip c72_0) := by kernel_rfl
theorem res72_ok : Tryz.f72.results.toList.mapM (resC Tryz.prog) = some [] := by kernel_rfl
/- quidnunc/wire.takes$8 -/
def c74_0 : ACode := .region true [⟨some 2, .load false 1, [.t 1], none⟩,
  ⟨some 3, .load false 1, [.t 0], none⟩,
  ⟨some 4, .call 75, [.t 3, .c (.fn 73 [] [])], none⟩,
  ⟨some 5, .nilChk, [.t 2], none⟩,
  ⟨some 6, .addr 10, [.t 5], none⟩,
  ⟨none, .store 1, [.t 6, .t 4], none⟩] [] [] [] true [] []
def code74 : Code := (Tryz.f74.body).getD .skip
theorem c74_ok : compC Tryz.prog 7 code74 = some (strip c74_0) := by kernel_rfl
theorem res74_ok : Tryz.f74.results.toList.mapM (resC Tryz.prog) = some [] := by kernel_rfl
/- quidnunc/wire.takes$9 -/
def c76_0 : ACode := .region true [⟨some 2, .load false 1, [.t 1], none⟩,
  ⟨some 3, .load false 1, [.t 0], none⟩,
  ⟨some 4, .call 77, [.t 3, .c (.fn 78 [] [])], none⟩,
  ⟨some 5, .nilChk, [.t 2], none⟩,
  ⟨some 6, .addr 11, [.t 5], none⟩,
  ⟨none, .store 1, [.t 6, .t 4], none⟩] [] [] [] true [] []
def code76 : Code := (Tryz.f76.body).getD .skip
theorem c76_ok : compC Tryz.prog 7 code76 = some (strip c76_0) := by kernel_rfl
theorem res76_ok : Tryz.f76.results.toList.mapM (resC Tryz.prog) = some [] := by kernel_rfl
/- quidnunc/wire.takes -/
def c24_1 : ACode := .region false [⟨some 2, .box 0, [.t 0], none⟩,
  ⟨some 3, .box 0, [.t 1], none⟩,
  ⟨some 4, .alloc (List.replicate 9 .nilFunc), [], none⟩] [] [] [2, 3, 4] true [] []
def c24_3 : ACode := .region false [⟨some 5, .mkFn 62 0, [.t 2, .t 3], none⟩,
  ⟨some 6, .mkFn 64 0, [.t 2, .t 3], none⟩,
  ⟨some 7, .mkFn 65 0, [.t 2, .t 3], none⟩,
  ⟨some 8, .mkFn 67 0, [.t 2, .t 3], none⟩,
  ⟨some 9, .mkFn 69 0, [.t 2, .t 3], none⟩,
  ⟨some 10, .mkFn 71 0, [.t 2, .t 3], none⟩,
  ⟨some 11, .mkFn 72 0, [.t 2, .t 3], none⟩,
  ⟨some 12, .mkFn 74 0, [.t 2, .t 3], none⟩,
  ⟨some 13, .mkFn 76 0, [.t 2, .t 3], none⟩,
  ⟨some 14, .build (List.replicate 9 .nilFunc) [(0, 1), (1, 1), (2, 1), (3, 1), (4, 1), (5, 1), (6, 1), (7, 1), (8, 1)], [.t 5, .t 6, .t 7, .t 8, .t 9, .t 10, .t 11, .t 12, .t 13], none⟩,
  ⟨none, .store 9, [.t 4, .t 14], none⟩] [] [] [4] true [] []
def c24_2 : ACode := .seq c24_3 .ret
def c24_0 : ACode := .seq c24_1 c24_2
def code24 : Code := (Tryz.f24.body).getD .skip
theorem c24_ok : compC Tryz.prog 15 code24 = some (strip c24_0) := by kernel_rfl
theorem res24_ok : Tryz.f24.results.toList.mapM (resC Tryz.prog) = some [(4, some (true, 9))] := by kernel_rfl
theorem takes1_any {L : List Int} (hL : L.length ≤ 1099511627776) (hb : bytesB L) (c : Cu) (ha : c.a ≤ L.length) (x : Wm) (d : Cu) (hd : d = (fR 0).cur L c) (y : Wm) (hy : y = setF 0 x ((fR 0).val L c)) : ACall Tryz.prog 62 [.ptr 0 0, .ptr 1 0] [.cells true [.ptr 2 0], .cells true [.ptr 4 0], RdO 3 (c).a L.length (c).e, .cells true (bA L), .cells false (WmL (x) 5 0 6 0 7 0), .cells false (Ri 0 x.peers), .cells false (Rm 0 x.marks), .cells false (Re 0 x.ents)] (Det (.tup []) [.cells true [.ptr 2 0], .cells true [.ptr 4 0], RdO 3 (d).a L.length (d).e, .cells true (bA L), .cells false (WmL (y) 5 0 6 0 7 0), .cells false (Ri 0 x.peers), .cells false (Rm 0 x.marks), .cells false (Re 0 x.ents)]) := by
  have hi := ri_ren
  have hm := rm_ren
  have he := re_ren
  have c1 := takenode_any hL hb c ha
  have e0 : (numR 1).val L c = numV L 1 c := rfl
  have e1 : (numR 1).cur L c = numC L 1 c := rfl
  rw [e0, e1] at c1
  have hd : d = numC L 1 c := hd
  have hy : y = { x with peer := numV L 1 c } := hy
  subst hy
  rw [← hd] at c1
  (try simp only)
  generalize numV L 1 c = v at *
  clear hd
  refine ACall.startA c62_ok Tryz.func62 rfl Tryz.ntmps62 (by kernel_rfl) res62_ok rfl rfl rfl ?_; simp (maxSteps := 9999999) (disch := omega) only [go_sem]
  (have k9 := And.intro @hi (And.intro @hm (And.intro @he (And.intro @bA_ren (k0)))); have x9 := Xs.mk [2, 4] []; have a1 := Arm.mk [2, 3] c1; refine goK ?_; (try clear k9); (try clear a1))
  (have k9 := And.intro @hi (And.intro @hm (And.intro @he (And.intro @bA_ren (k0)))); exact Ret.dk [0, 1, 2, 3, 4, 5, 6, 7])
theorem takes2_any {L : List Int} (hL : L.length ≤ 1099511627776) (hb : bytesB L) (c : Cu) (ha : c.a ≤ L.length) (x : Wm) (d : Cu) (hd : d = (fR 1).cur L c) (y : Wm) (hy : y = setF 1 x ((fR 1).val L c)) : ACall Tryz.prog 64 [.ptr 0 0, .ptr 1 0] [.cells true [.ptr 2 0], .cells true [.ptr 4 0], RdO 3 (c).a L.length (c).e, .cells true (bA L), .cells false (WmL (x) 5 0 6 0 7 0), .cells false (Ri 0 x.peers), .cells false (Rm 0 x.marks), .cells false (Re 0 x.ents)] (Det (.tup []) [.cells true [.ptr 2 0], .cells true [.ptr 4 0], RdO 3 (d).a L.length (d).e, .cells true (bA L), .cells false (WmL (y) 5 0 6 0 7 0), .cells false (Ri 0 x.peers), .cells false (Rm 0 x.marks), .cells false (Re 0 x.ents)]) := by
  have hi := ri_ren
  have hm := rm_ren
  have he := re_ren
  have c1 := takenode_any hL hb c ha
  have e0 : (numR 1).val L c = numV L 1 c := rfl
  have e1 : (numR 1).cur L c = numC L 1 c := rfl
  rw [e0, e1] at c1
  have hd : d = numC L 1 c := hd
  have hy : y = { x with hops := numV L 1 c } := hy
  subst hy
  rw [← hd] at c1
  (try simp only)
  generalize numV L 1 c = v at *
  clear hd
  refine ACall.startA c64_ok Tryz.func64 rfl Tryz.ntmps64 (by kernel_rfl) res64_ok rfl rfl rfl ?_; simp (maxSteps := 9999999) (disch := omega) only [go_sem]
  (have k9 := And.intro @hi (And.intro @hm (And.intro @he (And.intro @bA_ren (k0)))); have x9 := Xs.mk [2, 4] []; have a1 := Arm.mk [2, 3] c1; refine goK ?_; (try clear k9); (try clear a1))
  (have k9 := And.intro @hi (And.intro @hm (And.intro @he (And.intro @bA_ren (k0)))); exact Ret.dk [0, 1, 2, 3, 4, 5, 6, 7])
theorem takes3_any {L : List Int} (hL : L.length ≤ 1099511627776) (hb : bytesB L) (c : Cu) (ha : c.a ≤ L.length) (x : Wm) (d : Cu) (hd : d = (fR 2).cur L c) (y : Wm) (hy : y = setF 2 x ((fR 2).val L c)) : ACall Tryz.prog 65 [.ptr 0 0, .ptr 1 0] [.cells true [.ptr 2 0], .cells true [.ptr 4 0], RdO 3 (c).a L.length (c).e, .cells true (bA L), .cells false (WmL (x) 5 0 6 0 7 0), .cells false (Ri 0 x.peers), .cells false (Rm 0 x.marks), .cells false (Re 0 x.ents)] (Det (.tup []) [.cells true [.ptr 2 0], .cells true [.ptr 4 0], RdO 3 (d).a L.length (d).e, .cells true (bA L), .cells false (WmL (y) 5 0 6 0 7 0), .cells false (Ri 0 x.peers), .cells false (Rm 0 x.marks), .cells false (Re 0 x.ents)]) := by
  have hi := ri_ren
  have hm := rm_ren
  have he := re_ren
  have c1 := rflag_any hL c ha
  have hd : d = flagC L c := hd
  have hy : y = { x with high := flagV L c } := hy
  subst hy
  rw [← hd] at c1
  (try simp only)
  generalize flagV L c = v at *
  clear hd
  refine ACall.startA c65_ok Tryz.func65 rfl Tryz.ntmps65 (by kernel_rfl) res65_ok rfl rfl rfl ?_; simp (maxSteps := 9999999) (disch := omega) only [go_sem]
  (have k9 := And.intro @hi (And.intro @hm (And.intro @he (And.intro @bA_ren (k0)))); have x9 := Xs.mk [2, 4] []; have a1 := Arm.mk [2, 3] c1; refine goK ?_; (try clear k9); (try clear a1))
  (have k9 := And.intro @hi (And.intro @hm (And.intro @he (And.intro @bA_ren (k0)))); exact Ret.dk [0, 1, 2, 3, 4, 5, 6, 7])
theorem takes4_any {L : List Int} (hL : L.length ≤ 1099511627776) (hb : bytesB L) (c : Cu) (ha : c.a ≤ L.length) (x : Wm) (d : Cu) (hd : d = (fR 3).cur L c) (y : Wm) (hy : y = setF 3 x ((fR 3).val L c)) : ACall Tryz.prog 67 [.ptr 0 0, .ptr 1 0] [.cells true [.ptr 2 0], .cells true [.ptr 4 0], RdO 3 (c).a L.length (c).e, .cells true (bA L), .cells false (WmL (x) 5 0 6 0 7 0), .cells false (Ri 0 x.peers), .cells false (Rm 0 x.marks), .cells false (Re 0 x.ents)] (Det (.tup []) [.cells true [.ptr 2 0], .cells true [.ptr 4 0], RdO 3 (d).a L.length (d).e, .cells true (bA L), .cells false (WmL (y) 8 0 6 0 7 0), .gone, .cells false (Rm 0 x.marks), .cells false (Re 0 x.ents), .cells false (Ri 0 y.peers)]) := by
  have hi := ri_ren
  have hm := rm_ren
  have he := re_ren
  have c1 := takealli_any (numR_ok (w := 1) (by decide)) hL hb (fun c ha => takenode_any hL hb c ha) c ha
  have hd : d = (lsR (numR 1)).cur L c := hd
  have hy : y = { x with peers := (lsR (numR 1)).val L c } := hy
  subst hy
  rw [← hd] at c1
  (try simp only)
  generalize (lsR (numR 1)).val L c = v at *
  clear hd
  refine ACall.startA c67_ok Tryz.func67 rfl Tryz.ntmps67 (by kernel_rfl) res67_ok rfl rfl rfl ?_; simp (maxSteps := 9999999) (disch := omega) only [go_sem]
  (have k9 := And.intro @hi (And.intro @hm (And.intro @he (And.intro @bA_ren (k0)))); have x9 := Xs.mk [2, 4] []; have a1 := Arm.mk [2, 3] c1; refine goK ?_; (try clear k9); (try clear a1))
  (have k9 := And.intro @hi (And.intro @hm (And.intro @he (And.intro @bA_ren (k0)))); exact Ret.dk [0, 1, 2, 3, 4, 5, 6, 7, _])
theorem takes5_any {L : List Int} (hL : L.length ≤ 1099511627776) (hb : bytesB L) (c : Cu) (ha : c.a ≤ L.length) (x : Wm) (d : Cu) (hd : d = (fR 4).cur L c) (y : Wm) (hy : y = setF 4 x ((fR 4).val L c)) : ACall Tryz.prog 69 [.ptr 0 0, .ptr 1 0] [.cells true [.ptr 2 0], .cells true [.ptr 4 0], RdO 3 (c).a L.length (c).e, .cells true (bA L), .cells false (WmL (x) 5 0 6 0 7 0), .cells false (Ri 0 x.peers), .cells false (Rm 0 x.marks), .cells false (Re 0 x.ents)] (Det (.tup []) [.cells true [.ptr 2 0], .cells true [.ptr 4 0], RdO 3 (d).a L.length (d).e, .cells true (bA L), .cells false (WmL (y) 5 0 6 0 7 0), .cells false (Ri 0 x.peers), .cells false (Rm 0 x.marks), .cells false (Re 0 x.ents)]) := by
  have hi := ri_ren
  have hm := rm_ren
  have he := re_ren
  have c1 := rnum_any hL hb c ha 4
  have hd : d = numC L 4 c := hd
  have hy : y = { x with num := numV L 4 c } := hy
  have b0 := numV_lt hb 4 c
  simp only [show (4 : Int).toNat = 4 from rfl, Int.reducePow] at b0
  subst hy
  rw [← hd] at c1
  (try simp only)
  generalize numV L 4 c = v at *
  clear hd
  refine ACall.startA c69_ok Tryz.func69 rfl Tryz.ntmps69 (by kernel_rfl) res69_ok rfl rfl rfl ?_; simp (maxSteps := 9999999) (disch := omega) only [go_sem]
  (have k9 := And.intro @hi (And.intro @hm (And.intro @he (And.intro @bA_ren (k0)))); have x9 := Xs.mk [2, 4] []; have a1 := Arm.mk [2, 3] c1; refine goK ?_; (try clear k9); (try clear a1))
  (have k9 := And.intro @hi (And.intro @hm (And.intro @he (And.intro @bA_ren (k0)))); exact Ret.dk [0, 1, 2, 3, 4, 5, 6, 7])
theorem takes6_any {L : List Int} (hL : L.length ≤ 1099511627776) (hb : bytesB L) (c : Cu) (ha : c.a ≤ L.length) (x : Wm) (d : Cu) (hd : d = (fR 5).cur L c) (y : Wm) (hy : y = setF 5 x ((fR 5).val L c)) : ACall Tryz.prog 71 [.ptr 0 0, .ptr 1 0] [.cells true [.ptr 2 0], .cells true [.ptr 4 0], RdO 3 (c).a L.length (c).e, .cells true (bA L), .cells false (WmL (x) 5 0 6 0 7 0), .cells false (Ri 0 x.peers), .cells false (Rm 0 x.marks), .cells false (Re 0 x.ents)] (Det (.tup []) [.cells true [.ptr 2 0], .cells true [.ptr 4 0], RdO 3 (d).a L.length (d).e, .cells true (bA L), .cells false (WmL (y) 5 0 6 0 7 0), .cells false (Ri 0 x.peers), .cells false (Rm 0 x.marks), .cells false (Re 0 x.ents)]) := by
  have hi := ri_ren
  have hm := rm_ren
  have he := re_ren
  have c1 := rnum_any hL hb c ha 8
  have hd : d = numC L 8 c := hd
  have hy : y = { x with sum := numV L 8 c } := hy
  subst hy
  rw [← hd] at c1
  (try simp only)
  generalize numV L 8 c = v at *
  clear hd
  refine ACall.startA c71_ok Tryz.func71 rfl Tryz.ntmps71 (by kernel_rfl) res71_ok rfl rfl rfl ?_; simp (maxSteps := 9999999) (disch := omega) only [go_sem]
  (have k9 := And.intro @hi (And.intro @hm (And.intro @he (And.intro @bA_ren (k0)))); have x9 := Xs.mk [2, 4] []; have a1 := Arm.mk [2, 3] c1; refine goK ?_; (try clear k9); (try clear a1))
  (have k9 := And.intro @hi (And.intro @hm (And.intro @he (And.intro @bA_ren (k0)))); exact Ret.dk [0, 1, 2, 3, 4, 5, 6, 7])
theorem takes7_any {L : List Int} (hL : L.length ≤ 1099511627776) (hb : bytesB L) (c : Cu) (ha : c.a ≤ L.length) (x : Wm) (d : Cu) (hd : d = (fR 6).cur L c) (y : Wm) (hy : y = setF 6 x ((fR 6).val L c)) : ACall Tryz.prog 72 [.ptr 0 0, .ptr 1 0] [.cells true [.ptr 2 0], .cells true [.ptr 4 0], RdO 3 (c).a L.length (c).e, .cells true (bA L), .cells false (WmL (x) 5 0 6 0 7 0), .cells false (Ri 0 x.peers), .cells false (Rm 0 x.marks), .cells false (Re 0 x.ents)] (Det (.tup []) [.cells true [.ptr 2 0], .cells true [.ptr 4 0], RdO 3 (d).a L.length (d).e, .cells true (bA L), .cells false (WmL (y) 5 0 6 0 7 0), .cells false (Ri 0 x.peers), .cells false (Rm 0 x.marks), .cells false (Re 0 x.ents)]) := by
  have hi := ri_ren
  have hm := rm_ren
  have he := re_ren
  have c1 := takemark_any hL hb c ha
  have hd : d = mkR.cur L c := hd
  have hy : y = { x with mark := mkR.val L c } := hy
  subst hy
  rw [← hd] at c1
  (try simp only)
  generalize mkR.val L c = v at *
  clear hd
  refine ACall.startA c72_ok Tryz.func72 rfl Tryz.ntmps72 (by kernel_rfl) res72_ok rfl rfl rfl ?_; simp (maxSteps := 9999999) (disch := omega) only [go_sem]
  (have k9 := And.intro @hi (And.intro @hm (And.intro @he (And.intro @bA_ren (k0)))); have x9 := Xs.mk [2, 4] []; have a1 := Arm.mk [2, 3] c1; refine goK ?_; (try clear k9); (try clear a1))
  (have k9 := And.intro @hi (And.intro @hm (And.intro @he (And.intro @bA_ren (k0)))); exact Ret.dk [0, 1, 2, 3, 4, 5, 6, 7])
theorem takes8_any {L : List Int} (hL : L.length ≤ 1099511627776) (hb : bytesB L) (c : Cu) (ha : c.a ≤ L.length) (x : Wm) (d : Cu) (hd : d = (fR 7).cur L c) (y : Wm) (hy : y = setF 7 x ((fR 7).val L c)) : ACall Tryz.prog 74 [.ptr 0 0, .ptr 1 0] [.cells true [.ptr 2 0], .cells true [.ptr 4 0], RdO 3 (c).a L.length (c).e, .cells true (bA L), .cells false (WmL (x) 5 0 6 0 7 0), .cells false (Ri 0 x.peers), .cells false (Rm 0 x.marks), .cells false (Re 0 x.ents)] (Det (.tup []) [.cells true [.ptr 2 0], .cells true [.ptr 4 0], RdO 3 (d).a L.length (d).e, .cells true (bA L), .cells false (WmL (y) 5 0 8 0 7 0), .cells false (Ri 0 x.peers), .gone, .cells false (Re 0 x.ents), .cells false (Rm 0 y.marks)]) := by
  have hi := ri_ren
  have hm := rm_ren
  have he := re_ren
  have c1 := takeallm_any mkR_ok hL hb (fun c ha => takemark_any hL hb c ha) c ha
  have hd : d = (lsR mkR).cur L c := hd
  have hy : y = { x with marks := (lsR mkR).val L c } := hy
  subst hy
  rw [← hd] at c1
  (try simp only)
  generalize (lsR mkR).val L c = v at *
  clear hd
  refine ACall.startA c74_ok Tryz.func74 rfl Tryz.ntmps74 (by kernel_rfl) res74_ok rfl rfl rfl ?_; simp (maxSteps := 9999999) (disch := omega) only [go_sem]
  (have k9 := And.intro @hi (And.intro @hm (And.intro @he (And.intro @bA_ren (k0)))); have x9 := Xs.mk [2, 4] []; have a1 := Arm.mk [2, 3] c1; refine goK ?_; (try clear k9); (try clear a1))
  (have k9 := And.intro @hi (And.intro @hm (And.intro @he (And.intro @bA_ren (k0)))); exact Ret.dk [0, 1, 2, 3, 4, 5, 6, 7, _])
theorem takes9_any {L : List Int} (hL : L.length ≤ 1099511627776) (hb : bytesB L) (c : Cu) (ha : c.a ≤ L.length) (x : Wm) (d : Cu) (hd : d = (fR 8).cur L c) (y : Wm) (hy : y = setF 8 x ((fR 8).val L c)) : ACall Tryz.prog 76 [.ptr 0 0, .ptr 1 0] [.cells true [.ptr 2 0], .cells true [.ptr 4 0], RdO 3 (c).a L.length (c).e, .cells true (bA L), .cells false (WmL (x) 5 0 6 0 7 0), .cells false (Ri 0 x.peers), .cells false (Rm 0 x.marks), .cells false (Re 0 x.ents)] (Det (.tup []) [.cells true [.ptr 2 0], .cells true [.ptr 4 0], RdO 3 (d).a L.length (d).e, .cells true (bA L), .cells false (WmL (y) 5 0 6 0 8 0), .cells false (Ri 0 x.peers), .cells false (Rm 0 x.marks), .gone, .cells false (Re 0 y.ents)]) := by
  have hi := ri_ren
  have hm := rm_ren
  have he := re_ren
  have c1 := takealle_any enR_ok hL hb (fun c ha => etake_any hL hb c ha) c ha
  have hd : d = (lsR enR).cur L c := hd
  have hy : y = { x with ents := (lsR enR).val L c } := hy
  subst hy
  rw [← hd] at c1
  (try simp only)
  generalize (lsR enR).val L c = v at *
  clear hd
  refine ACall.startA c76_ok Tryz.func76 rfl Tryz.ntmps76 (by kernel_rfl) res76_ok rfl rfl rfl ?_; simp (maxSteps := 9999999) (disch := omega) only [go_sem]
  (have k9 := And.intro @hi (And.intro @hm (And.intro @he (And.intro @bA_ren (k0)))); have x9 := Xs.mk [2, 4] []; have a1 := Arm.mk [2, 3] c1; refine goK ?_; (try clear k9); (try clear a1))
  (have k9 := And.intro @hi (And.intro @hm (And.intro @he (And.intro @bA_ren (k0)))); exact Ret.dk [0, 1, 2, 3, 4, 5, 6, 7, _])
theorem takes_any (L : List Int) (c : Cu) (x : Wm) : ACall Tryz.prog 24 [.ptr 0 0, .ptr 2 0] [RdO 1 c.a L.length c.e, .cells true (bA L), .cells false (WmL x 3 0 4 0 5 0), .cells false (Ri 0 x.peers), .cells false (Rm 0 x.marks), .cells false (Re 0 x.ents)] (Det (.agg [.fn 62 [] [.ptr 6 0, .ptr 7 0], .fn 64 [] [.ptr 6 0, .ptr 7 0], .fn 65 [] [.ptr 6 0, .ptr 7 0], .fn 67 [] [.ptr 6 0, .ptr 7 0], .fn 69 [] [.ptr 6 0, .ptr 7 0], .fn 71 [] [.ptr 6 0, .ptr 7 0], .fn 72 [] [.ptr 6 0, .ptr 7 0], .fn 74 [] [.ptr 6 0, .ptr 7 0], .fn 76 [] [.ptr 6 0, .ptr 7 0]]) [RdO 1 c.a L.length c.e, .cells true (bA L), .cells false (WmL x 3 0 4 0 5 0), .cells false (Ri 0 x.peers), .cells false (Rm 0 x.marks), .cells false (Re 0 x.ents), .cells false [.ptr 0 0], .cells false [.ptr 2 0]]) := by
  have hi := ri_ren
  have hm := rm_ren
  have he := re_ren
  refine ACall.startA c24_ok Tryz.func24 rfl Tryz.ntmps24 (by kernel_rfl) res24_ok rfl rfl rfl ?_; simp (maxSteps := 9999999) (disch := omega) only [go_sem]
  (have k9 := And.intro @hi (And.intro @hm (And.intro @he (And.intro @bA_ren (k0)))); refine goK ?_; (try clear k9))
  (have k9 := And.intro @hi (And.intro @hm (And.intro @he (And.intro @bA_ren (k0)))); exact Ret.dk [0, 1, 2, 3, 4, 5, _, _])
theorem eachT_any {L : List Int} (hL : L.length ≤ 1099511627776) (hb : bytesB L) (k : Int) (hk : kindB k = true) : ACall Tryz.prog 23 [I (fldW k.toNat), .agg [.fn 62 [] [.ptr 0 0, .ptr 1 0], .fn 64 [] [.ptr 0 0, .ptr 1 0], .fn 65 [] [.ptr 0 0, .ptr 1 0], .fn 67 [] [.ptr 0 0, .ptr 1 0], .fn 69 [] [.ptr 0 0, .ptr 1 0], .fn 71 [] [.ptr 0 0, .ptr 1 0], .fn 72 [] [.ptr 0 0, .ptr 1 0], .fn 74 [] [.ptr 0 0, .ptr 1 0], .fn 76 [] [.ptr 0 0, .ptr 1 0]]] [.cells true [.ptr 2 0], .cells true [.ptr 4 0], RdO 3 0 L.length 0, .cells true (bA L), .cells false (WmL { noW with kind := k } 5 0 6 0 7 0), .cells false [], .cells false [], .cells false []] (Det (.tup []) [.cells true [.ptr 2 0], .cells true [.ptr 4 0], RdO 3 (stP L k 9).1.a L.length (stP L k 9).1.e, .cells true (bA L), .cells false (WmL (stP L k 9).2 8 0 9 0 10 0), .gone, .gone, .gone, .cells false (Ri 0 (stP L k 9).2.peers), .cells false (Rm 0 (stP L k 9).2.marks), .cells false (Re 0 (stP L k 9).2.ents)]) := by
  have hi := ri_ren
  have hm := rm_ren
  have he := re_ren
  have mk0 := mask_k hk 0 (by decide)
  have mk1 := mask_k hk 1 (by decide)
  have mk2 := mask_k hk 2 (by decide)
  have mk3 := mask_k hk 3 (by decide)
  have mk4 := mask_k hk 4 (by decide)
  have mk5 := mask_k hk 5 (by decide)
  have mk6 := mask_k hk 6 (by decide)
  have mk7 := mask_k hk 7 (by decide)
  have mk8 := mask_k hk 8 (by decide)
  simp only [Nat.reducePow, Int.reducePow] at mk0 mk1 mk2 mk3 mk4 mk5 mk6 mk7 mk8
  have hle := fun i h => stP_le (k := k) hb i h
  have h0 : stP L k 0 = (⟨0, 0⟩, { noW with kind := k }) := rfl
  refine ACall.startA c23_ok Tryz.func23 rfl Tryz.ntmps23 (by kernel_rfl) res23_ok rfl rfl rfl ?_; simp (maxSteps := 9999999) (disch := omega) only [go_sem]
  (have k9 := And.intro @hi (And.intro @hm (And.intro @he (k0))); refine goK ?_; (try clear k9))
  (apply AWpA.loopL (fun i : Nat => [(0, I (fldW k.toNat)), (6, .agg [.fn 62 [] [.ptr 0 0, .ptr 1 0], .fn 64 [] [.ptr 0 0, .ptr 1 0], .fn 65 [] [.ptr 0 0, .ptr 1 0], .fn 67 [] [.ptr 0 0, .ptr 1 0], .fn 69 [] [.ptr 0 0, .ptr 1 0], .fn 71 [] [.ptr 0 0, .ptr 1 0], .fn 72 [] [.ptr 0 0, .ptr 1 0], .fn 74 [] [.ptr 0 0, .ptr 1 0], .fn 76 [] [.ptr 0 0, .ptr 1 0]]), (7, I i)]) (fun i => [.cells true [.ptr 2 0], .cells true [.ptr 4 0], RdO 3 (stP L k i).1.a L.length (stP L k i).1.e, .cells true (bA L), .cells false (WmL (stP L k i).2 8 0 9 0 10 0), .gone, .gone, .gone, .cells false (Ri 0 (stP L k i).2.peers), .cells false (Rm 0 (stP L k i).2.marks), .cells false (Re 0 (stP L k i).2.ents)]) (fun i => 9 - i) (fun i => i ≤ 9) (0) [0, 1, 2, 3, 4, 5, 6, 7, 5, 6, 7]; rotate_left; (focus (simp (maxSteps := 9999999) (disch := omega) only [go_sem, hi, hm, he, h0, ri_nil, rm_nil, re_nil, List.length_nil, bA_ren]; (try (repeat' (first | done | trivial | rfl | exact leAs_rfl _ | decide | (refine And.intro ?_ ?_) | (simp; done) | omega | (simp; decide)))))); rotate_right)
  · exact Nat.zero_le _
  rintro i hi9
  (try simp only at hi9)
  have hle := hle i hi9
  by_cases hin : i < 9
  · have hY := fun (h : hasF k i = true) => stP_yes (L := L) h
    have hN := fun (h : hasF k i = false) => stP_no (L := L) h
    rcases (show i = 0 ∨ i = 1 ∨ i = 2 ∨ i = 3 ∨ i = 4 ∨ i = 5 ∨ i = 6 ∨ i = 7 ∨ i = 8 by omega) with rfl | rfl | rfl | rfl | rfl | rfl | rfl | rfl | rfl
    · cases hh : hasF k 0 with
      | false =>
        rw [hh] at mk0
        have hS := hN hh
        clear hY hN hle h0
        simp only [Nat.reduceAdd] at hS
        generalize stP L k 0 = p at *
        (try simp (maxSteps := 9999999) (disch := omega) only [go_sem])
        (have k9 := And.intro @hi (And.intro @hm (And.intro @he (And.intro @mk0 (k0)))); refine goK ?_; (try clear k9))
        (have k9 := And.intro @hi (And.intro @hm (And.intro @he (And.intro @hS (And.intro @bA_ren (k0))))); refine Back.tk 1 [0, 1, 2, 3, 4, 5, 6, 7, 8, 9, 10] ?_)
        omega
      | true =>
        rw [hh] at mk0
        have hS := hY hh
        have c1 := takes1_any hL hb (stP L k 0).1 hle (stP L k 0).2 _ rfl _ rfl
        have e1 : (setF 0 (stP L k 0).2 ((fR 0).val L (stP L k 0).1)).peers = (stP L k 0).2.peers := rfl
        have e2 : (setF 0 (stP L k 0).2 ((fR 0).val L (stP L k 0).1)).marks = (stP L k 0).2.marks := rfl
        have e3 : (setF 0 (stP L k 0).2 ((fR 0).val L (stP L k 0).1)).ents = (stP L k 0).2.ents := rfl
        clear hY hN hle h0
        simp only [Nat.reduceAdd] at hS
        generalize (fR 0).cur L (stP L k 0).1 = d at *
        generalize setF 0 (stP L k 0).2 ((fR 0).val L (stP L k 0).1) = y at *
        generalize stP L k 0 = p at *
        (try simp (maxSteps := 9999999) (disch := omega) only [go_sem])
        (have k9 := And.intro @hi (And.intro @hm (And.intro @he (And.intro @mk0 (And.intro @bA_ren (k0))))); have x9 := Xs.mk [2, 4] []; have a1 := Arm.mk [0, 1, 2, 3, 4, 8, 9, 10] c1; refine goK ?_; (try clear k9); (try clear a1))
        (have k9 := And.intro @hi (And.intro @hm (And.intro @he (And.intro @hS (And.intro @bA_ren (And.intro @e1 (And.intro @e2 (And.intro @e3 (k0)))))))); refine Back.tk 1 [0, 1, 2, 3, 4, 5, 6, 7, 8, 9, 10] ?_)
        omega
    · cases hh : hasF k 1 with
      | false =>
        rw [hh] at mk1
        have hS := hN hh
        clear hY hN hle h0
        simp only [Nat.reduceAdd] at hS
        generalize stP L k 1 = p at *
        (try simp (maxSteps := 9999999) (disch := omega) only [go_sem])
        (have k9 := And.intro @hi (And.intro @hm (And.intro @he (And.intro @mk1 (k0)))); refine goK ?_; (try clear k9))
        (have k9 := And.intro @hi (And.intro @hm (And.intro @he (And.intro @hS (And.intro @bA_ren (k0))))); refine Back.tk 2 [0, 1, 2, 3, 4, 5, 6, 7, 8, 9, 10] ?_)
        omega
      | true =>
        rw [hh] at mk1
        have hS := hY hh
        have c1 := takes2_any hL hb (stP L k 1).1 hle (stP L k 1).2 _ rfl _ rfl
        have e1 : (setF 1 (stP L k 1).2 ((fR 1).val L (stP L k 1).1)).peers = (stP L k 1).2.peers := rfl
        have e2 : (setF 1 (stP L k 1).2 ((fR 1).val L (stP L k 1).1)).marks = (stP L k 1).2.marks := rfl
        have e3 : (setF 1 (stP L k 1).2 ((fR 1).val L (stP L k 1).1)).ents = (stP L k 1).2.ents := rfl
        clear hY hN hle h0
        simp only [Nat.reduceAdd] at hS
        generalize (fR 1).cur L (stP L k 1).1 = d at *
        generalize setF 1 (stP L k 1).2 ((fR 1).val L (stP L k 1).1) = y at *
        generalize stP L k 1 = p at *
        (try simp (maxSteps := 9999999) (disch := omega) only [go_sem])
        (have k9 := And.intro @hi (And.intro @hm (And.intro @he (And.intro @mk1 (And.intro @bA_ren (k0))))); have x9 := Xs.mk [2, 4] []; have a1 := Arm.mk [0, 1, 2, 3, 4, 8, 9, 10] c1; refine goK ?_; (try clear k9); (try clear a1))
        (have k9 := And.intro @hi (And.intro @hm (And.intro @he (And.intro @hS (And.intro @bA_ren (And.intro @e1 (And.intro @e2 (And.intro @e3 (k0)))))))); refine Back.tk 2 [0, 1, 2, 3, 4, 5, 6, 7, 8, 9, 10] ?_)
        omega
    · cases hh : hasF k 2 with
      | false =>
        rw [hh] at mk2
        have hS := hN hh
        clear hY hN hle h0
        simp only [Nat.reduceAdd] at hS
        generalize stP L k 2 = p at *
        (try simp (maxSteps := 9999999) (disch := omega) only [go_sem])
        (have k9 := And.intro @hi (And.intro @hm (And.intro @he (And.intro @mk2 (k0)))); refine goK ?_; (try clear k9))
        (have k9 := And.intro @hi (And.intro @hm (And.intro @he (And.intro @hS (And.intro @bA_ren (k0))))); refine Back.tk 3 [0, 1, 2, 3, 4, 5, 6, 7, 8, 9, 10] ?_)
        omega
      | true =>
        rw [hh] at mk2
        have hS := hY hh
        have c1 := takes3_any hL hb (stP L k 2).1 hle (stP L k 2).2 _ rfl _ rfl
        have e1 : (setF 2 (stP L k 2).2 ((fR 2).val L (stP L k 2).1)).peers = (stP L k 2).2.peers := rfl
        have e2 : (setF 2 (stP L k 2).2 ((fR 2).val L (stP L k 2).1)).marks = (stP L k 2).2.marks := rfl
        have e3 : (setF 2 (stP L k 2).2 ((fR 2).val L (stP L k 2).1)).ents = (stP L k 2).2.ents := rfl
        clear hY hN hle h0
        simp only [Nat.reduceAdd] at hS
        generalize (fR 2).cur L (stP L k 2).1 = d at *
        generalize setF 2 (stP L k 2).2 ((fR 2).val L (stP L k 2).1) = y at *
        generalize stP L k 2 = p at *
        (try simp (maxSteps := 9999999) (disch := omega) only [go_sem])
        (have k9 := And.intro @hi (And.intro @hm (And.intro @he (And.intro @mk2 (And.intro @bA_ren (k0))))); have x9 := Xs.mk [2, 4] []; have a1 := Arm.mk [0, 1, 2, 3, 4, 8, 9, 10] c1; refine goK ?_; (try clear k9); (try clear a1))
        (have k9 := And.intro @hi (And.intro @hm (And.intro @he (And.intro @hS (And.intro @bA_ren (And.intro @e1 (And.intro @e2 (And.intro @e3 (k0)))))))); refine Back.tk 3 [0, 1, 2, 3, 4, 5, 6, 7, 8, 9, 10] ?_)
        omega
    · cases hh : hasF k 3 with
      | false =>
        rw [hh] at mk3
        have hS := hN hh
        clear hY hN hle h0
        simp only [Nat.reduceAdd] at hS
        generalize stP L k 3 = p at *
        (try simp (maxSteps := 9999999) (disch := omega) only [go_sem])
        (have k9 := And.intro @hi (And.intro @hm (And.intro @he (And.intro @mk3 (k0)))); refine goK ?_; (try clear k9))
        (have k9 := And.intro @hi (And.intro @hm (And.intro @he (And.intro @hS (And.intro @bA_ren (k0))))); refine Back.tk 4 [0, 1, 2, 3, 4, 5, 6, 7, 8, 9, 10] ?_)
        omega
      | true =>
        rw [hh] at mk3
        have hS := hY hh
        have c1 := takes4_any hL hb (stP L k 3).1 hle (stP L k 3).2 _ rfl _ rfl
        have e2 : (setF 3 (stP L k 3).2 ((fR 3).val L (stP L k 3).1)).marks = (stP L k 3).2.marks := rfl
        have e3 : (setF 3 (stP L k 3).2 ((fR 3).val L (stP L k 3).1)).ents = (stP L k 3).2.ents := rfl
        clear hY hN hle h0
        simp only [Nat.reduceAdd] at hS
        generalize (fR 3).cur L (stP L k 3).1 = d at *
        generalize setF 3 (stP L k 3).2 ((fR 3).val L (stP L k 3).1) = y at *
        generalize stP L k 3 = p at *
        (try simp (maxSteps := 9999999) (disch := omega) only [go_sem])
        (have k9 := And.intro @hi (And.intro @hm (And.intro @he (And.intro @mk3 (And.intro @bA_ren (k0))))); have x9 := Xs.mk [2, 4] []; have a1 := Arm.mk [0, 1, 2, 3, 4, 8, 9, 10] c1; refine goK ?_; (try clear k9); (try clear a1))
        (have k9 := And.intro @hi (And.intro @hm (And.intro @he (And.intro @hS (And.intro @bA_ren (And.intro @e2 (And.intro @e3 (k0))))))); refine Back.tk 4 [0, 1, 2, 3, 4, 5, 6, 7, 187, 9, 10] ?_)
        omega
    · cases hh : hasF k 4 with
      | false =>
        rw [hh] at mk4
        have hS := hN hh
        clear hY hN hle h0
        simp only [Nat.reduceAdd] at hS
        generalize stP L k 4 = p at *
        (try simp (maxSteps := 9999999) (disch := omega) only [go_sem])
        (have k9 := And.intro @hi (And.intro @hm (And.intro @he (And.intro @mk4 (k0)))); refine goK ?_; (try clear k9))
        (have k9 := And.intro @hi (And.intro @hm (And.intro @he (And.intro @hS (And.intro @bA_ren (k0))))); refine Back.tk 5 [0, 1, 2, 3, 4, 5, 6, 7, 8, 9, 10] ?_)
        omega
      | true =>
        rw [hh] at mk4
        have hS := hY hh
        have c1 := takes5_any hL hb (stP L k 4).1 hle (stP L k 4).2 _ rfl _ rfl
        have e1 : (setF 4 (stP L k 4).2 ((fR 4).val L (stP L k 4).1)).peers = (stP L k 4).2.peers := rfl
        have e2 : (setF 4 (stP L k 4).2 ((fR 4).val L (stP L k 4).1)).marks = (stP L k 4).2.marks := rfl
        have e3 : (setF 4 (stP L k 4).2 ((fR 4).val L (stP L k 4).1)).ents = (stP L k 4).2.ents := rfl
        clear hY hN hle h0
        simp only [Nat.reduceAdd] at hS
        generalize (fR 4).cur L (stP L k 4).1 = d at *
        generalize setF 4 (stP L k 4).2 ((fR 4).val L (stP L k 4).1) = y at *
        generalize stP L k 4 = p at *
        (try simp (maxSteps := 9999999) (disch := omega) only [go_sem])
        (have k9 := And.intro @hi (And.intro @hm (And.intro @he (And.intro @mk4 (And.intro @bA_ren (k0))))); have x9 := Xs.mk [2, 4] []; have a1 := Arm.mk [0, 1, 2, 3, 4, 8, 9, 10] c1; refine goK ?_; (try clear k9); (try clear a1))
        (have k9 := And.intro @hi (And.intro @hm (And.intro @he (And.intro @hS (And.intro @bA_ren (And.intro @e1 (And.intro @e2 (And.intro @e3 (k0)))))))); refine Back.tk 5 [0, 1, 2, 3, 4, 5, 6, 7, 8, 9, 10] ?_)
        omega
    · cases hh : hasF k 5 with
      | false =>
        rw [hh] at mk5
        have hS := hN hh
        clear hY hN hle h0
        simp only [Nat.reduceAdd] at hS
        generalize stP L k 5 = p at *
        (try simp (maxSteps := 9999999) (disch := omega) only [go_sem])
        (have k9 := And.intro @hi (And.intro @hm (And.intro @he (And.intro @mk5 (k0)))); refine goK ?_; (try clear k9))
        (have k9 := And.intro @hi (And.intro @hm (And.intro @he (And.intro @hS (And.intro @bA_ren (k0))))); refine Back.tk 6 [0, 1, 2, 3, 4, 5, 6, 7, 8, 9, 10] ?_)
        omega
      | true =>
        rw [hh] at mk5
        have hS := hY hh
        have c1 := takes6_any hL hb (stP L k 5).1 hle (stP L k 5).2 _ rfl _ rfl
        have e1 : (setF 5 (stP L k 5).2 ((fR 5).val L (stP L k 5).1)).peers = (stP L k 5).2.peers := rfl
        have e2 : (setF 5 (stP L k 5).2 ((fR 5).val L (stP L k 5).1)).marks = (stP L k 5).2.marks := rfl
        have e3 : (setF 5 (stP L k 5).2 ((fR 5).val L (stP L k 5).1)).ents = (stP L k 5).2.ents := rfl
        clear hY hN hle h0
        simp only [Nat.reduceAdd] at hS
        generalize (fR 5).cur L (stP L k 5).1 = d at *
        generalize setF 5 (stP L k 5).2 ((fR 5).val L (stP L k 5).1) = y at *
        generalize stP L k 5 = p at *
        (try simp (maxSteps := 9999999) (disch := omega) only [go_sem])
        (have k9 := And.intro @hi (And.intro @hm (And.intro @he (And.intro @mk5 (And.intro @bA_ren (k0))))); have x9 := Xs.mk [2, 4] []; have a1 := Arm.mk [0, 1, 2, 3, 4, 8, 9, 10] c1; refine goK ?_; (try clear k9); (try clear a1))
        (have k9 := And.intro @hi (And.intro @hm (And.intro @he (And.intro @hS (And.intro @bA_ren (And.intro @e1 (And.intro @e2 (And.intro @e3 (k0)))))))); refine Back.tk 6 [0, 1, 2, 3, 4, 5, 6, 7, 8, 9, 10] ?_)
        omega
    · cases hh : hasF k 6 with
      | false =>
        rw [hh] at mk6
        have hS := hN hh
        clear hY hN hle h0
        simp only [Nat.reduceAdd] at hS
        generalize stP L k 6 = p at *
        (try simp (maxSteps := 9999999) (disch := omega) only [go_sem])
        (have k9 := And.intro @hi (And.intro @hm (And.intro @he (And.intro @mk6 (k0)))); refine goK ?_; (try clear k9))
        (have k9 := And.intro @hi (And.intro @hm (And.intro @he (And.intro @hS (And.intro @bA_ren (k0))))); refine Back.tk 7 [0, 1, 2, 3, 4, 5, 6, 7, 8, 9, 10] ?_)
        omega
      | true =>
        rw [hh] at mk6
        have hS := hY hh
        have c1 := takes7_any hL hb (stP L k 6).1 hle (stP L k 6).2 _ rfl _ rfl
        have e1 : (setF 6 (stP L k 6).2 ((fR 6).val L (stP L k 6).1)).peers = (stP L k 6).2.peers := rfl
        have e2 : (setF 6 (stP L k 6).2 ((fR 6).val L (stP L k 6).1)).marks = (stP L k 6).2.marks := rfl
        have e3 : (setF 6 (stP L k 6).2 ((fR 6).val L (stP L k 6).1)).ents = (stP L k 6).2.ents := rfl
        clear hY hN hle h0
        simp only [Nat.reduceAdd] at hS
        generalize (fR 6).cur L (stP L k 6).1 = d at *
        generalize setF 6 (stP L k 6).2 ((fR 6).val L (stP L k 6).1) = y at *
        generalize stP L k 6 = p at *
        (try simp (maxSteps := 9999999) (disch := omega) only [go_sem])
        (have k9 := And.intro @hi (And.intro @hm (And.intro @he (And.intro @mk6 (And.intro @bA_ren (k0))))); have x9 := Xs.mk [2, 4] []; have a1 := Arm.mk [0, 1, 2, 3, 4, 8, 9, 10] c1; refine goK ?_; (try clear k9); (try clear a1))
        (have k9 := And.intro @hi (And.intro @hm (And.intro @he (And.intro @hS (And.intro @bA_ren (And.intro @e1 (And.intro @e2 (And.intro @e3 (k0)))))))); refine Back.tk 7 [0, 1, 2, 3, 4, 5, 6, 7, 8, 9, 10] ?_)
        omega
    · cases hh : hasF k 7 with
      | false =>
        rw [hh] at mk7
        have hS := hN hh
        clear hY hN hle h0
        simp only [Nat.reduceAdd] at hS
        generalize stP L k 7 = p at *
        (try simp (maxSteps := 9999999) (disch := omega) only [go_sem])
        (have k9 := And.intro @hi (And.intro @hm (And.intro @he (And.intro @mk7 (k0)))); refine goK ?_; (try clear k9))
        (have k9 := And.intro @hi (And.intro @hm (And.intro @he (And.intro @hS (And.intro @bA_ren (k0))))); refine Back.tk 8 [0, 1, 2, 3, 4, 5, 6, 7, 8, 9, 10] ?_)
        omega
      | true =>
        rw [hh] at mk7
        have hS := hY hh
        have c1 := takes8_any hL hb (stP L k 7).1 hle (stP L k 7).2 _ rfl _ rfl
        have e1 : (setF 7 (stP L k 7).2 ((fR 7).val L (stP L k 7).1)).peers = (stP L k 7).2.peers := rfl
        have e3 : (setF 7 (stP L k 7).2 ((fR 7).val L (stP L k 7).1)).ents = (stP L k 7).2.ents := rfl
        clear hY hN hle h0
        simp only [Nat.reduceAdd] at hS
        generalize (fR 7).cur L (stP L k 7).1 = d at *
        generalize setF 7 (stP L k 7).2 ((fR 7).val L (stP L k 7).1) = y at *
        generalize stP L k 7 = p at *
        (try simp (maxSteps := 9999999) (disch := omega) only [go_sem])
        (have k9 := And.intro @hi (And.intro @hm (And.intro @he (And.intro @mk7 (And.intro @bA_ren (k0))))); have x9 := Xs.mk [2, 4] []; have a1 := Arm.mk [0, 1, 2, 3, 4, 8, 9, 10] c1; refine goK ?_; (try clear k9); (try clear a1))
        (have k9 := And.intro @hi (And.intro @hm (And.intro @he (And.intro @hS (And.intro @bA_ren (And.intro @e1 (And.intro @e3 (k0))))))); refine Back.tk 8 [0, 1, 2, 3, 4, 5, 6, 7, 8, 187, 10] ?_)
        omega
    · cases hh : hasF k 8 with
      | false =>
        rw [hh] at mk8
        have hS := hN hh
        clear hY hN hle h0
        simp only [Nat.reduceAdd] at hS
        generalize stP L k 8 = p at *
        (try simp (maxSteps := 9999999) (disch := omega) only [go_sem])
        (have k9 := And.intro @hi (And.intro @hm (And.intro @he (And.intro @mk8 (k0)))); refine goK ?_; (try clear k9))
        (have k9 := And.intro @hi (And.intro @hm (And.intro @he (And.intro @hS (And.intro @bA_ren (k0))))); refine Back.tk 9 [0, 1, 2, 3, 4, 5, 6, 7, 8, 9, 10] ?_)
        omega
      | true =>
        rw [hh] at mk8
        have hS := hY hh
        have c1 := takes9_any hL hb (stP L k 8).1 hle (stP L k 8).2 _ rfl _ rfl
        have e1 : (setF 8 (stP L k 8).2 ((fR 8).val L (stP L k 8).1)).peers = (stP L k 8).2.peers := rfl
        have e2 : (setF 8 (stP L k 8).2 ((fR 8).val L (stP L k 8).1)).marks = (stP L k 8).2.marks := rfl
        clear hY hN hle h0
        simp only [Nat.reduceAdd] at hS
        generalize (fR 8).cur L (stP L k 8).1 = d at *
        generalize setF 8 (stP L k 8).2 ((fR 8).val L (stP L k 8).1) = y at *
        generalize stP L k 8 = p at *
        (try simp (maxSteps := 9999999) (disch := omega) only [go_sem])
        (have k9 := And.intro @hi (And.intro @hm (And.intro @he (And.intro @mk8 (And.intro @bA_ren (k0))))); have x9 := Xs.mk [2, 4] []; have a1 := Arm.mk [0, 1, 2, 3, 4, 8, 9, 10] c1; refine goK ?_; (try clear k9); (try clear a1))
        (have k9 := And.intro @hi (And.intro @hm (And.intro @he (And.intro @hS (And.intro @bA_ren (And.intro @e1 (And.intro @e2 (k0))))))); refine Back.tk 9 [0, 1, 2, 3, 4, 5, 6, 7, 8, 9, 187] ?_)
        omega
  · obtain rfl : i = 9 := by omega
    clear hle h0
    generalize stP L k 9 = p at *
    (try simp (maxSteps := 9999999) (disch := omega) only [go_sem])
    (have k9 := And.intro @hi (And.intro @hm (And.intro @he (k0))); refine goK ?_; (try clear k9))
    (have k9 := And.intro @hi (And.intro @hm (And.intro @he (And.intro @bA_ren (k0)))); exact Ret.dk [0, 1, 2, 3, 4, 5, 6, 7, 8, 9, 10])
end
end Go.Proofs.YtopidfkmligljaaGreat
