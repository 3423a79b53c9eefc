/- Contracts: a document's message as the program's, and back. -/
import Derived.Test.YtopidfkmligljaaGreatWq3
import Derived.Test.YtopidfkmligljaaGreatAc10
namespace Go.Proofs.YtopidfkmligljaaGreat
noncomputable section
set_option linter.unusedSimpArgs false
set_option linter.unusedVariables false
set_option maxHeartbeats 4000000
open Go Go.Am Go.RowKit
set_option maxRecDepth 100000
set_option maxHeartbeats 8000000
/- quidnunc/quidnunclaw16.To -/
def c11_1 : ACode := .region false [⟨some 1, .box 0, [.t 0], none⟩,
  ⟨some 2, .alloc [(.int .i64 0), (.int .i64 0), (.int .i64 0), (.bool false), (.slice none 0 0), (.int .i64 0), (.int .u64 0), (.int .i64 0), (.int .i64 0), (.string ⟨#[]⟩), (.slice none 0 0), (.slice none 0 0)], [], none⟩] [] [] [1, 2] true [] []
def c11_3 : ACode := .region true [⟨some 8, .addr 0, [.t 1], none⟩,
  ⟨some 9, .load false 1, [.t 8], none⟩,
  ⟨some 10, .addr 1, [.t 1], none⟩,
  ⟨some 11, .load false 1, [.t 10], none⟩,
  ⟨some 12, .addr 2, [.t 1], none⟩,
  ⟨some 13, .load false 1, [.t 12], none⟩,
  ⟨some 14, .addr 3, [.t 1], none⟩,
  ⟨some 15, .load false 1, [.t 14], none⟩,
  ⟨some 16, .addr 4, [.t 1], none⟩,
  ⟨some 17, .load false 1, [.t 16], none⟩,
  ⟨some 18, .addr 5, [.t 1], none⟩,
  ⟨some 19, .load false 1, [.t 18], none⟩,
  ⟨some 20, .addr 6, [.t 1], none⟩,
  ⟨some 21, .load false 1, [.t 20], none⟩,
  ⟨some 22, .addr 7, [.t 1], none⟩,
  ⟨some 23, .load true 3, [.t 22], none⟩,
  ⟨some 24, .call 34, [.t 23], none⟩,
  ⟨some 25, .build [(.int .i64 0), (.int .i64 0), (.int .i64 0), (.bool false), (.slice none 0 0), (.int .i64 0), (.int .u64 0), (.int .i64 0), (.int .i64 0), (.string ⟨#[]⟩), (.slice none 0 0), (.slice none 0 0)] [(0, 1), (1, 1), (2, 1), (3, 1), (4, 1), (5, 1), (6, 1), (7, 3)], [.t 9, .t 11, .t 13, .t 15, .t 17, .t 19, .t 21, .t 24], none⟩,
  ⟨some 3, .alloc [(.int .i64 0), (.int .i64 0), (.int .i64 0), (.bool false), (.slice none 0 0), (.int .i64 0), (.int .u64 0), (.int .i64 0), (.int .i64 0), (.string ⟨#[]⟩), (.slice none 0 0), (.slice none 0 0)], [], none⟩,
  ⟨none, .store 12, [.t 3, .t 25], none⟩] [] [(16, 18)] [1, 2, 3] true [] []
def c11_6 : ACode := .region false [⟨some 26, .addr 10, [.t 1], none⟩,
  ⟨some 27, .load false 1, [.t 26], none⟩,
  ⟨some 28, .len, [.t 27], none⟩,
  ⟨some 29, .move, [.c (.val (.int .i64 0))], none⟩] [] [] [1, 2, 3, 27, 28, 29] false [] []
def c11_10 : ACode := .region false [⟨some 30, .bin .lss, [.t 29, .t 28], none⟩] [] [] [1, 2, 3, 27, 28, 29, 30] false [] []
def c11_12 : ACode := .cond (.t 30) .skip (.exit 0)
def c11_16 : ACode := .region false [⟨some 31, .ixS 3, [.t 27, .t 29], none⟩,
  ⟨some 32, .load true 3, [.t 31], none⟩,
  ⟨some 5, .alloc [(.int .i64 0), (.int .i64 0), (.string ⟨#[]⟩)], [], none⟩,
  ⟨none, .store 3, [.t 5, .t 32], none⟩] [] [] [1, 2, 3, 5, 27, 28, 29] true [] []
def c11_17 : ACode := .region true [⟨some 33, .addr 10, [.t 3], none⟩,
  ⟨some 34, .load false 1, [.t 33], none⟩,
  ⟨some 35, .load true 3, [.t 5], none⟩,
  ⟨some 36, .call 34, [.t 35], none⟩,
  ⟨some 37, .buildSl 3 1 [(.int .i64 0), (.int .i64 0), (.string ⟨#[]⟩)] [(0, 3)], [.t 36], none⟩] [] [] [1, 2, 3, 27, 28, 29] true [] [⟨some 38, .append 3 32 false, [.t 34, .t 37], none⟩,
  ⟨some 39, .addr 10, [.t 3], none⟩,
  ⟨none, .store 1, [.t 39, .t 38], none⟩]
def c11_15 : ACode := .seq c11_16 c11_17
def c11_14 : ACode := .block 1 c11_15
def c11_18 : ACode := .region false [⟨some 40, .bin .add, [.t 29, .c (.val (.int .i64 1))], none⟩,
  ⟨some 29, .move, [.t 40], none⟩] [] [] [1, 2, 3, 27, 28, 29] false [] []
def c11_13 : ACode := .seq c11_14 c11_18
def c11_11 : ACode := .seq c11_12 c11_13
def c11_9 : ACode := .seq c11_10 c11_11
def c11_8 : ACode := .loop c11_9
def c11_7 : ACode := .block 0 c11_8
def c11_5 : ACode := .seq c11_6 c11_7
def c11_21 : ACode := .region false [⟨some 41, .addr 11, [.t 1], none⟩,
  ⟨some 42, .load false 1, [.t 41], none⟩,
  ⟨some 43, .len, [.t 42], none⟩,
  ⟨some 44, .move, [.c (.val (.int .i64 0))], none⟩] [] [] [2, 3, 42, 43, 44] false [] []
def c11_25 : ACode := .region false [⟨some 45, .bin .lss, [.t 44, .t 43], none⟩] [] [] [2, 3, 42, 43, 44, 45] false [] []
def c11_27 : ACode := .cond (.t 45) .skip (.exit 2)
def c11_31 : ACode := .region false [⟨some 46, .ixS 9, [.t 42, .t 44], none⟩,
  ⟨some 47, .load true 9, [.t 46], none⟩,
  ⟨some 7, .alloc [(.string ⟨#[]⟩), (.string ⟨#[]⟩), (.bool false), (.int .i64 0), (.int .i64 0), (.int .i64 0), (.int .i64 0), (.int .i64 0), (.int .i64 0)], [], none⟩,
  ⟨none, .store 9, [.t 7, .t 47], none⟩] [] [] [2, 3, 7, 42, 43, 44] true [] []
def c11_32 : ACode := .region true [⟨some 48, .addr 11, [.t 3], none⟩,
  ⟨some 49, .load false 1, [.t 48], none⟩,
  ⟨some 50, .load true 9, [.t 7], none⟩,
  ⟨some 51, .call 35, [.t 50], none⟩,
  ⟨some 52, .buildSl 9 1 [(.string ⟨#[]⟩), (.string ⟨#[]⟩), (.bool false), (.int .i64 0), (.int .i64 0), (.int .i64 0), (.int .i64 0), (.int .i64 0), (.int .i64 0)] [(0, 9)], [.t 51], none⟩] [] [] [2, 3, 42, 43, 44] true [] [⟨some 53, .append 9 88 false, [.t 49, .t 52], none⟩,
  ⟨some 54, .addr 11, [.t 3], none⟩,
  ⟨none, .store 1, [.t 54, .t 53], none⟩]
def c11_30 : ACode := .seq c11_31 c11_32
def c11_29 : ACode := .block 3 c11_30
def c11_33 : ACode := .region false [⟨some 55, .bin .add, [.t 44, .c (.val (.int .i64 1))], none⟩,
  ⟨some 44, .move, [.t 55], none⟩] [] [] [2, 3, 42, 43, 44] false [] []
def c11_28 : ACode := .seq c11_29 c11_33
def c11_26 : ACode := .seq c11_27 c11_28
def c11_24 : ACode := .seq c11_25 c11_26
def c11_23 : ACode := .loop c11_24
def c11_22 : ACode := .block 2 c11_23
def c11_20 : ACode := .seq c11_21 c11_22
def c11_35 : ACode := .region false [⟨some 56, .load true 12, [.t 3], none⟩,
  ⟨none, .store 12, [.t 2, .t 56], none⟩] [] [] [2] true [] []
def c11_34 : ACode := .seq c11_35 .ret
def c11_19 : ACode := .seq c11_20 c11_34
def c11_4 : ACode := .seq c11_5 c11_19
def c11_2 : ACode := .seq c11_3 c11_4
def c11_0 : ACode := .seq c11_1 c11_2
def code11 : Code := (Tryz.f11.body).getD .skip
theorem c11_ok : compC Tryz.prog 57 code11 = some (strip c11_0) := by kernel_rfl
theorem res11_ok : Tryz.f11.results.toList.mapM (resC Tryz.prog) = some [(2, some (true, 12))] := by kernel_rfl
theorem to16_any (x : Wm) (a b c : Nat) (hl : x.peers.length ≤ 1099511627776 ∧ x.marks.length ≤ 1099511627776 ∧ x.ents.length ≤ 1099511627776) : ACall Tryz.prog 11 [WmA x 0 a 1 b 2 c] [.cells true (Ri a x.peers), .cells true (Rm b x.marks), .cells true (Re c x.ents)] (Det (WmA x 0 a 3 0 4 0) [.cells true (Ri a x.peers), .cells true (Rm b x.marks), .cells true (Re c x.ents), .cells false (Rm 0 x.marks), .cells false (Re 0 x.ents)]) := by
  have hi := ri_ren
  have hm := rm_ren
  have he := re_ren
  have hLm := rm_len b x.marks
  have hLe := re_len c x.ents
  have c0 := to10_any x.mark
  refine ACall.startA c11_ok Tryz.func11 rfl Tryz.ntmps11 (by kernel_rfl) res11_ok rfl rfl rfl ?_; simp (maxSteps := 9999999) (disch := omega) only [go_sem]
  refine AWpA.dummy ?_
  refine AWpA.dummy ?_
  (have k9 := And.intro @hi (And.intro @hm (And.intro @he (k0))); have a1 := Arm.mk [] c0; refine goK ?_; (try clear k9); (try clear a1))
  (apply AWpA.loopL (fun i : Nat => [(1, .ptr 5 0), (2, .ptr 7 0), (3, .ptr 6 0), (27, .sl 1 b x.marks.length 3 none), (28, I x.marks.length), (29, I i)]) (fun i => [.cells true (Ri a x.peers), .cells true (Rm b x.marks), .cells true (Re c x.ents), .cells false (Rm 0 (x.marks.take i)), .cells false [], .cells false (WmL x 0 a 1 b 2 c), .cells false [I x.kind, I x.peer, I x.hops, Bo x.high, .sl 0 a x.peers.length 1 none, I x.num, U64 x.sum, I x.mark.act.c, I x.mark.act.s, Str x.mark.key, .sl 3 0 (i) 3 none, .sl 4 0 (0) 9 none], .cells false [I 0, I 0, I 0, Bo false, .val (.slice none 0 0), I 0, U64 0, I 0, I 0, Str ⟨#[]⟩, .val (.slice none 0 0), .val (.slice none 0 0)]]) (fun i => x.marks.length - i) (fun i => i ≤ x.marks.length) (0) [0, 1, 2, 3, 4, 5, 325, 21]; rotate_left; (focus (simp (maxSteps := 9999999) (disch := omega) only [go_sem, hi, hm, he, List.take_zero, rm_nil]; (try (repeat' (first | done | trivial | rfl | exact leAs_rfl _ | decide | (refine And.intro ?_ ?_) | (simp; done) | omega | (simp; decide)))))); rotate_right)
  · exact Nat.zero_le _
  rintro i hil
  (try simp only at hil)
  by_cases hin : i < x.marks.length
  · have g1 : ((i : Int) < (x.marks.length : Int)) = True := eq_true (by omega)
    have hat := rm_at b x.marks i hin
    have hput := (rm_put x.marks i hin).symm
    have hln : (x.marks.take i).length = i := by rw [List.length_take]; omega
    have hfu := rm_all (x.marks.take i) (n := i * 3) (by rw [hln])
    have hlr := rm_len 0 (x.marks.take i)
    rw [hln] at hlr
    have c1 := to10_any x.marks[i]
    generalize x.marks[i] = z at *
    (try simp (maxSteps := 9999999) (disch := omega) only [go_sem])
    (have k9 := And.intro @hi (And.intro @hm (And.intro @he (And.intro @g1 (And.intro @hat (And.intro @hLm (And.intro @hlr (k0))))))); have a1 := Arm.mk [] c1; refine goK ?_; (try clear k9); (try clear a1))
    (have k9 := And.intro @hi (And.intro @hm (And.intro @he (And.intro @hfu (And.intro @hput (And.intro @renL_append (k0)))))); refine Back.tk (i + 1) [0, 1, 2, 168, 4, 5, 6, 7] ?_)
    omega
  · obtain rfl : i = x.marks.length := by omega
    have g1 : ((x.marks.length : Int) < (x.marks.length : Int)) = False := eq_false (by omega)
    rw [List.take_length]
    (try simp (maxSteps := 9999999) (disch := omega) only [go_sem])
    (have k9 := And.intro @hi (And.intro @hm (And.intro @he (And.intro @g1 (k0)))); refine goK ?_; (try clear k9))
    (apply AWpA.loopL (fun i : Nat => [(2, .ptr 7 0), (3, .ptr 6 0), (42, .sl 2 c x.ents.length 9 none), (43, I x.ents.length), (44, I i)]) (fun i => [.cells true (Ri a x.peers), .cells true (Rm b x.marks), .cells true (Re c x.ents), .cells false (Rm 0 x.marks), .cells false (Re 0 (x.ents.take i)), .cells false (WmL x 0 a 1 b 2 c), .cells false [I x.kind, I x.peer, I x.hops, Bo x.high, .sl 0 a x.peers.length 1 none, I x.num, U64 x.sum, I x.mark.act.c, I x.mark.act.s, Str x.mark.key, .sl 3 0 (x.marks.length) 3 none, .sl 4 0 (i) 9 none], .cells false [I 0, I 0, I 0, Bo false, .val (.slice none 0 0), I 0, U64 0, I 0, I 0, Str ⟨#[]⟩, .val (.slice none 0 0), .val (.slice none 0 0)]]) (fun i => x.ents.length - i) (fun i => i ≤ x.ents.length) (0) [0, 1, 2, 3, 4, 5, 6, 7]; rotate_left; (focus (simp (maxSteps := 9999999) (disch := omega) only [go_sem, hi, hm, he, List.take_zero, re_nil]; (try (repeat' (first | done | trivial | rfl | exact leAs_rfl _ | decide | (refine And.intro ?_ ?_) | (simp; done) | omega | (simp; decide)))))); rotate_right)
    · exact Nat.zero_le _
    rintro i hil2
    (try simp only at hil2)
    by_cases hin2 : i < x.ents.length
    · have g1 : ((i : Int) < (x.ents.length : Int)) = True := eq_true (by omega)
      have hat := re_at c x.ents i hin2
      have hput := re_put x.ents i hin2
      have hln : (x.ents.take i).length = i := by rw [List.length_take]; omega
      have hfu := re_all (x.ents.take i) (n := i * 9) (by rw [hln])
      have hlr := re_len 0 (x.ents.take i)
      rw [hln] at hlr
      have c1 := to05_any x.ents[i]
      generalize x.ents[i] = z at *
      (try simp (maxSteps := 9999999) (disch := omega) only [go_sem])
      (have k9 := And.intro @hi (And.intro @hm (And.intro @he (And.intro @g1 (And.intro @hat (And.intro @hLe (And.intro @hlr (k0))))))); have a1 := Arm.mk [] c1; refine goK ?_; (try clear k9); (try clear a1))
      (have k9 := And.intro @hi (And.intro @hm (And.intro @he (And.intro @hfu (And.intro @hput (And.intro @renL_append (k0)))))); refine Back.tk (i + 1) [0, 1, 2, 3, 168, 5, 6, 7] ?_)
      omega
    · obtain rfl : i = x.ents.length := by omega
      have g1 : ((x.ents.length : Int) < (x.ents.length : Int)) = False := eq_false (by omega)
      rw [List.take_length]
      (try simp (maxSteps := 9999999) (disch := omega) only [go_sem])
      (have k9 := And.intro @hi (And.intro @hm (And.intro @he (And.intro @g1 (k0)))); refine goK ?_; (try clear k9))
      (have k9 := And.intro @hi (And.intro @hm (And.intro @he (k0))); exact Ret.dk [0, 1, 2, 3, 4])
/- quidnunc/quidnunclaw16.Of -/
def c16_1 : ACode := .region false [⟨some 1, .box 0, [.t 0], none⟩,
  ⟨some 2, .alloc [(.int .i64 0), (.int .i64 0), (.int .i64 0), (.bool false), (.slice none 0 0), (.int .i64 0), (.int .u64 0), (.int .i64 0), (.int .i64 0), (.string ⟨#[]⟩), (.slice none 0 0), (.slice none 0 0)], [], none⟩] [] [] [1, 2] true [] []
def c16_3 : ACode := .region true [⟨some 8, .addr 0, [.t 1], none⟩,
  ⟨some 9, .load false 1, [.t 8], none⟩,
  ⟨some 10, .addr 1, [.t 1], none⟩,
  ⟨some 11, .load false 1, [.t 10], none⟩,
  ⟨some 12, .addr 2, [.t 1], none⟩,
  ⟨some 13, .load false 1, [.t 12], none⟩,
  ⟨some 14, .addr 3, [.t 1], none⟩,
  ⟨some 15, .load false 1, [.t 14], none⟩,
  ⟨some 16, .addr 4, [.t 1], none⟩,
  ⟨some 17, .load false 1, [.t 16], none⟩,
  ⟨some 18, .addr 5, [.t 1], none⟩,
  ⟨some 19, .load false 1, [.t 18], none⟩,
  ⟨some 20, .addr 6, [.t 1], none⟩,
  ⟨some 21, .load false 1, [.t 20], none⟩,
  ⟨some 22, .addr 7, [.t 1], none⟩,
  ⟨some 23, .load true 3, [.t 22], none⟩,
  ⟨some 24, .call 48, [.t 23], none⟩,
  ⟨some 25, .build [(.int .i64 0), (.int .i64 0), (.int .i64 0), (.bool false), (.slice none 0 0), (.int .i64 0), (.int .u64 0), (.int .i64 0), (.int .i64 0), (.string ⟨#[]⟩), (.slice none 0 0), (.slice none 0 0)] [(0, 1), (1, 1), (2, 1), (3, 1), (4, 1), (5, 1), (6, 1), (7, 3)], [.t 9, .t 11, .t 13, .t 15, .t 17, .t 19, .t 21, .t 24], none⟩,
  ⟨some 3, .alloc [(.int .i64 0), (.int .i64 0), (.int .i64 0), (.bool false), (.slice none 0 0), (.int .i64 0), (.int .u64 0), (.int .i64 0), (.int .i64 0), (.string ⟨#[]⟩), (.slice none 0 0), (.slice none 0 0)], [], none⟩,
  ⟨none, .store 12, [.t 3, .t 25], none⟩] [] [(16, 18)] [1, 2, 3] true [] []
def c16_6 : ACode := .region false [⟨some 26, .addr 10, [.t 1], none⟩,
  ⟨some 27, .load false 1, [.t 26], none⟩,
  ⟨some 28, .len, [.t 27], none⟩,
  ⟨some 29, .move, [.c (.val (.int .i64 0))], none⟩] [] [] [1, 2, 3, 27, 28, 29] false [] []
def c16_10 : ACode := .region false [⟨some 30, .bin .lss, [.t 29, .t 28], none⟩] [] [] [1, 2, 3, 27, 28, 29, 30] false [] []
def c16_12 : ACode := .cond (.t 30) .skip (.exit 0)
def c16_16 : ACode := .region false [⟨some 31, .ixS 3, [.t 27, .t 29], none⟩,
  ⟨some 32, .load true 3, [.t 31], none⟩,
  ⟨some 5, .alloc [(.int .i64 0), (.int .i64 0), (.string ⟨#[]⟩)], [], none⟩,
  ⟨none, .store 3, [.t 5, .t 32], none⟩] [] [] [1, 2, 3, 5, 27, 28, 29] true [] []
def c16_17 : ACode := .region true [⟨some 33, .addr 10, [.t 3], none⟩,
  ⟨some 34, .load false 1, [.t 33], none⟩,
  ⟨some 35, .load true 3, [.t 5], none⟩,
  ⟨some 36, .call 48, [.t 35], none⟩,
  ⟨some 37, .buildSl 3 1 [(.int .i64 0), (.int .i64 0), (.string ⟨#[]⟩)] [(0, 3)], [.t 36], none⟩] [] [] [1, 2, 3, 27, 28, 29] true [] [⟨some 38, .append 3 32 false, [.t 34, .t 37], none⟩,
  ⟨some 39, .addr 10, [.t 3], none⟩,
  ⟨none, .store 1, [.t 39, .t 38], none⟩]
def c16_15 : ACode := .seq c16_16 c16_17
def c16_14 : ACode := .block 1 c16_15
def c16_18 : ACode := .region false [⟨some 40, .bin .add, [.t 29, .c (.val (.int .i64 1))], none⟩,
  ⟨some 29, .move, [.t 40], none⟩] [] [] [1, 2, 3, 27, 28, 29] false [] []
def c16_13 : ACode := .seq c16_14 c16_18
def c16_11 : ACode := .seq c16_12 c16_13
def c16_9 : ACode := .seq c16_10 c16_11
def c16_8 : ACode := .loop c16_9
def c16_7 : ACode := .block 0 c16_8
def c16_5 : ACode := .seq c16_6 c16_7
def c16_21 : ACode := .region false [⟨some 41, .addr 11, [.t 1], none⟩,
  ⟨some 42, .load false 1, [.t 41], none⟩,
  ⟨some 43, .len, [.t 42], none⟩,
  ⟨some 44, .move, [.c (.val (.int .i64 0))], none⟩] [] [] [2, 3, 42, 43, 44] false [] []
def c16_25 : ACode := .region false [⟨some 45, .bin .lss, [.t 44, .t 43], none⟩] [] [] [2, 3, 42, 43, 44, 45] false [] []
def c16_27 : ACode := .cond (.t 45) .skip (.exit 2)
def c16_31 : ACode := .region false [⟨some 46, .ixS 9, [.t 42, .t 44], none⟩,
  ⟨some 47, .load true 9, [.t 46], none⟩,
  ⟨some 7, .alloc [(.string ⟨#[]⟩), (.string ⟨#[]⟩), (.bool false), (.int .i64 0), (.int .i64 0), (.int .i64 0), (.int .i64 0), (.int .i64 0), (.int .i64 0)], [], none⟩,
  ⟨none, .store 9, [.t 7, .t 47], none⟩] [] [] [2, 3, 7, 42, 43, 44] true [] []
def c16_32 : ACode := .region true [⟨some 48, .addr 11, [.t 3], none⟩,
  ⟨some 49, .load false 1, [.t 48], none⟩,
  ⟨some 50, .load true 9, [.t 7], none⟩,
  ⟨some 51, .call 49, [.t 50], none⟩,
  ⟨some 52, .buildSl 9 1 [(.string ⟨#[]⟩), (.string ⟨#[]⟩), (.bool false), (.int .i64 0), (.int .i64 0), (.int .i64 0), (.int .i64 0), (.int .i64 0), (.int .i64 0)] [(0, 9)], [.t 51], none⟩] [] [] [2, 3, 42, 43, 44] true [] [⟨some 53, .append 9 88 false, [.t 49, .t 52], none⟩,
  ⟨some 54, .addr 11, [.t 3], none⟩,
  ⟨none, .store 1, [.t 54, .t 53], none⟩]
def c16_30 : ACode := .seq c16_31 c16_32
def c16_29 : ACode := .block 3 c16_30
def c16_33 : ACode := .region false [⟨some 55, .bin .add, [.t 44, .c (.val (.int .i64 1))], none⟩,
  ⟨some 44, .move, [.t 55], none⟩] [] [] [2, 3, 42, 43, 44] false [] []
def c16_28 : ACode := .seq c16_29 c16_33
def c16_26 : ACode := .seq c16_27 c16_28
def c16_24 : ACode := .seq c16_25 c16_26
def c16_23 : ACode := .loop c16_24
def c16_22 : ACode := .block 2 c16_23
def c16_20 : ACode := .seq c16_21 c16_22
def c16_35 : ACode := .region false [⟨some 56, .load true 12, [.t 3], none⟩,
  ⟨none, .store 12, [.t 2, .t 56], none⟩] [] [] [2] true [] []
def c16_34 : ACode := .seq c16_35 .ret
def c16_19 : ACode := .seq c16_20 c16_34
def c16_4 : ACode := .seq c16_5 c16_19
def c16_2 : ACode := .seq c16_3 c16_4
def c16_0 : ACode := .seq c16_1 c16_2
def code16 : Code := (Tryz.f16.body).getD .skip
theorem c16_ok : compC Tryz.prog 57 code16 = some (strip c16_0) := by kernel_rfl
theorem res16_ok : Tryz.f16.results.toList.mapM (resC Tryz.prog) = some [(2, some (true, 12))] := by kernel_rfl
theorem of16_any (x : Wm) (a b c : Nat) (hl : x.peers.length ≤ 1099511627776 ∧ x.marks.length ≤ 1099511627776 ∧ x.ents.length ≤ 1099511627776) : ACall Tryz.prog 16 [WmA x 0 a 1 b 2 c] [.cells true (Ri a x.peers), .cells true (Rm b x.marks), .cells true (Re c x.ents)] (Det (WmA x 0 a 3 0 4 0) [.cells true (Ri a x.peers), .cells true (Rm b x.marks), .cells true (Re c x.ents), .cells false (Rm 0 x.marks), .cells false (Re 0 x.ents)]) := by
  have hi := ri_ren
  have hm := rm_ren
  have he := re_ren
  have hLm := rm_len b x.marks
  have hLe := re_len c x.ents
  have c0 := of10_any x.mark
  refine ACall.startA c16_ok Tryz.func16 rfl Tryz.ntmps16 (by kernel_rfl) res16_ok rfl rfl rfl ?_; simp (maxSteps := 9999999) (disch := omega) only [go_sem]
  refine AWpA.dummy ?_
  refine AWpA.dummy ?_
  (have k9 := And.intro @hi (And.intro @hm (And.intro @he (k0))); have a1 := Arm.mk [] c0; refine goK ?_; (try clear k9); (try clear a1))
  (apply AWpA.loopL (fun i : Nat => [(1, .ptr 5 0), (2, .ptr 7 0), (3, .ptr 6 0), (27, .sl 1 b x.marks.length 3 none), (28, I x.marks.length), (29, I i)]) (fun i => [.cells true (Ri a x.peers), .cells true (Rm b x.marks), .cells true (Re c x.ents), .cells false (Rm 0 (x.marks.take i)), .cells false [], .cells false (WmL x 0 a 1 b 2 c), .cells false [I x.kind, I x.peer, I x.hops, Bo x.high, .sl 0 a x.peers.length 1 none, I x.num, U64 x.sum, I x.mark.act.c, I x.mark.act.s, Str x.mark.key, .sl 3 0 (i) 3 none, .sl 4 0 (0) 9 none], .cells false [I 0, I 0, I 0, Bo false, .val (.slice none 0 0), I 0, U64 0, I 0, I 0, Str ⟨#[]⟩, .val (.slice none 0 0), .val (.slice none 0 0)]]) (fun i => x.marks.length - i) (fun i => i ≤ x.marks.length) (0) [0, 1, 2, 3, 4, 5, 325, 21]; rotate_left; (focus (simp (maxSteps := 9999999) (disch := omega) only [go_sem, hi, hm, he, List.take_zero, rm_nil]; (try (repeat' (first | done | trivial | rfl | exact leAs_rfl _ | decide | (refine And.intro ?_ ?_) | (simp; done) | omega | (simp; decide)))))); rotate_right)
  · exact Nat.zero_le _
  rintro i hil
  (try simp only at hil)
  by_cases hin : i < x.marks.length
  · have g1 : ((i : Int) < (x.marks.length : Int)) = True := eq_true (by omega)
    have hat := rm_at b x.marks i hin
    have hput := (rm_put x.marks i hin).symm
    have hln : (x.marks.take i).length = i := by rw [List.length_take]; omega
    have hfu := rm_all (x.marks.take i) (n := i * 3) (by rw [hln])
    have hlr := rm_len 0 (x.marks.take i)
    rw [hln] at hlr
    have c1 := of10_any x.marks[i]
    generalize x.marks[i] = z at *
    (try simp (maxSteps := 9999999) (disch := omega) only [go_sem])
    (have k9 := And.intro @hi (And.intro @hm (And.intro @he (And.intro @g1 (And.intro @hat (And.intro @hLm (And.intro @hlr (k0))))))); have a1 := Arm.mk [] c1; refine goK ?_; (try clear k9); (try clear a1))
    (have k9 := And.intro @hi (And.intro @hm (And.intro @he (And.intro @hfu (And.intro @hput (And.intro @renL_append (k0)))))); refine Back.tk (i + 1) [0, 1, 2, 168, 4, 5, 6, 7] ?_)
    omega
  · obtain rfl : i = x.marks.length := by omega
    have g1 : ((x.marks.length : Int) < (x.marks.length : Int)) = False := eq_false (by omega)
    rw [List.take_length]
    (try simp (maxSteps := 9999999) (disch := omega) only [go_sem])
    (have k9 := And.intro @hi (And.intro @hm (And.intro @he (And.intro @g1 (k0)))); refine goK ?_; (try clear k9))
    (apply AWpA.loopL (fun i : Nat => [(2, .ptr 7 0), (3, .ptr 6 0), (42, .sl 2 c x.ents.length 9 none), (43, I x.ents.length), (44, I i)]) (fun i => [.cells true (Ri a x.peers), .cells true (Rm b x.marks), .cells true (Re c x.ents), .cells false (Rm 0 x.marks), .cells false (Re 0 (x.ents.take i)), .cells false (WmL x 0 a 1 b 2 c), .cells false [I x.kind, I x.peer, I x.hops, Bo x.high, .sl 0 a x.peers.length 1 none, I x.num, U64 x.sum, I x.mark.act.c, I x.mark.act.s, Str x.mark.key, .sl 3 0 (x.marks.length) 3 none, .sl 4 0 (i) 9 none], .cells false [I 0, I 0, I 0, Bo false, .val (.slice none 0 0), I 0, U64 0, I 0, I 0, Str ⟨#[]⟩, .val (.slice none 0 0), .val (.slice none 0 0)]]) (fun i => x.ents.length - i) (fun i => i ≤ x.ents.length) (0) [0, 1, 2, 3, 4, 5, 6, 7]; rotate_left; (focus (simp (maxSteps := 9999999) (disch := omega) only [go_sem, hi, hm, he, List.take_zero, re_nil]; (try (repeat' (first | done | trivial | rfl | exact leAs_rfl _ | decide | (refine And.intro ?_ ?_) | (simp; done) | omega | (simp; decide)))))); rotate_right)
    · exact Nat.zero_le _
    rintro i hil2
    (try simp only at hil2)
    by_cases hin2 : i < x.ents.length
    · have g1 : ((i : Int) < (x.ents.length : Int)) = True := eq_true (by omega)
      have hat := re_at c x.ents i hin2
      have hput := re_put x.ents i hin2
      have hln : (x.ents.take i).length = i := by rw [List.length_take]; omega
      have hfu := re_all (x.ents.take i) (n := i * 9) (by rw [hln])
      have hlr := re_len 0 (x.ents.take i)
      rw [hln] at hlr
      have c1 := of05_any x.ents[i]
      generalize x.ents[i] = z at *
      (try simp (maxSteps := 9999999) (disch := omega) only [go_sem])
      (have k9 := And.intro @hi (And.intro @hm (And.intro @he (And.intro @g1 (And.intro @hat (And.intro @hLe (And.intro @hlr (k0))))))); have a1 := Arm.mk [] c1; refine goK ?_; (try clear k9); (try clear a1))
      (have k9 := And.intro @hi (And.intro @hm (And.intro @he (And.intro @hfu (And.intro @hput (And.intro @renL_append (k0)))))); refine Back.tk (i + 1) [0, 1, 2, 3, 168, 5, 6, 7] ?_)
      omega
    · obtain rfl : i = x.ents.length := by omega
      have g1 : ((x.ents.length : Int) < (x.ents.length : Int)) = False := eq_false (by omega)
      rw [List.take_length]
      (try simp (maxSteps := 9999999) (disch := omega) only [go_sem])
      (have k9 := And.intro @hi (And.intro @hm (And.intro @he (And.intro @g1 (k0)))); refine goK ?_; (try clear k9))
      (have k9 := And.intro @hi (And.intro @hm (And.intro @he (k0))); exact Ret.dk [0, 1, 2, 3, 4])
end
end Go.Proofs.YtopidfkmligljaaGreat
