/- Contract: a message's bytes, or that it may not be. -/
import Derived.Test.YtopidfkmligljaaGreatWr2
import Derived.Test.YtopidfkmligljaaGreatWq5
namespace Go.Proofs.YtopidfkmligljaaGreat
noncomputable section
set_option linter.unusedSimpArgs false
set_option linter.unusedVariables false
set_option maxHeartbeats 4000000
open Go Go.Am Go.RowKit
set_option maxRecDepth 100000
set_option maxHeartbeats 8000000
/- quidnunc/wire.Encode -/
def c12_1 : ACode := .region false [⟨some 1, .box 0, [.t 0], none⟩,
  ⟨some 2, .move, [.c (.val (.slice none 0 0))], none⟩,
  ⟨some 3, .move, [.c (.val (.int .i64 0))], none⟩] [] [] [1] true [] []
def c12_4 : ACode := .region false [⟨some 8, .load true 12, [.t 1], none⟩,
  ⟨some 9, .call 17, [.t 8], none⟩,
  ⟨some 4, .move, [.t 9], none⟩] [] [] [1, 4] true [] []
def c12_6 : ACode := .region false [⟨some 10, .move, [.t 4], none⟩,
  ⟨some 11, .bin .neq, [.t 10, .c (.val (.int .i64 0))], none⟩] [] [] [1, 4, 11] false [] []
def c12_9 : ACode := .region false [⟨some 12, .move, [.t 4], none⟩,
  ⟨some 2, .move, [.c (.val (.slice none 0 0))], none⟩,
  ⟨some 3, .move, [.t 12], none⟩] [] [] [2, 3] false [] []
def c12_8 : ACode := .seq c12_9 .ret
def c12_7 : ACode := .cond (.t 11) c12_8 .skip
def c12_5 : ACode := .seq c12_6 c12_7
def c12_3 : ACode := .seq c12_4 c12_5
def c12_11 : ACode := .region false [⟨some 14, .addr 0, [.t 1], none⟩,
  ⟨some 15, .load false 1, [.t 14], none⟩,
  ⟨some 16, .call 21, [.t 15], none⟩,
  ⟨some 13, .move, [.t 16], none⟩,
  ⟨some 17, .ext 0, [.t 13], none⟩,
  ⟨some 18, .ext 1, [.t 13], none⟩,
  ⟨some 5, .alloc [(.string ⟨#[]⟩), (.int .i64 0), (.int .i64 0), (.int .i64 0), (.int .i64 0), (.int .i64 0)], [], none⟩,
  ⟨none, .store 6, [.t 5, .t 17], none⟩,
  ⟨some 6, .move, [.t 18], none⟩] [] [] [1, 5] true [] []
def c12_13 : ACode := .region false [⟨some 7, .alloc [(.slice none 0 0), (.int .i64 0)], [], none⟩] [] [] [1, 5, 7] true [] []
def c12_15 : ACode := .region true [⟨some 19, .addr 1, [.t 5], none⟩,
  ⟨some 20, .load false 1, [.t 19], none⟩,
  ⟨some 21, .load true 12, [.t 1], none⟩,
  ⟨some 22, .call 36, [.t 7, .t 21], none⟩,
  ⟨some 23, .call 23, [.t 20, .t 22], none⟩] [] [] [7] true [] []
def c12_17 : ACode := .region false [⟨some 24, .call 37, [.t 7], none⟩,
  ⟨some 25, .call 38, [.t 7], none⟩,
  ⟨some 2, .move, [.t 24], none⟩,
  ⟨some 3, .move, [.t 25], none⟩] [] [] [2, 3] true [] []
def c12_16 : ACode := .seq c12_17 .ret
def c12_14 : ACode := .seq c12_15 c12_16
def c12_12 : ACode := .seq c12_13 c12_14
def c12_10 : ACode := .seq c12_11 c12_12
def c12_2 : ACode := .seq c12_3 c12_10
def c12_0 : ACode := .seq c12_1 c12_2
def code12 : Code := (Tryz.f12.body).getD .skip
theorem c12_ok : compC Tryz.prog 26 code12 = some (strip c12_0) := by kernel_rfl
theorem res12_ok : Tryz.f12.results.toList.mapM (resC Tryz.prog) = some [(2, none), (3, none)] := by kernel_rfl
def encW (m : Wm) : List Int := cond (goodW m == 0) (wB m) []
theorem wencode_any (m : Wm) (a b c : Nat) (hl : m.peers.length ≤ 1099511627776 ∧ m.marks.length ≤ 1099511627776 ∧ m.ents.length ≤ 1099511627776) (hs : sumR m) : ACall Tryz.prog 12 [WmA m 0 a 1 b 2 c] [.cells true (Ri a m.peers), .cells true (Rm b m.marks), .cells true (Re c m.ents)] (Det (.tup [.sl 3 0 (encW m).length 1 none, I (goodW m)]) [.cells true (Ri a m.peers), .cells true (Rm b m.marks), .cells true (Re c m.ents), .cells false (bA (encW m))]) := by
  have hi := ri_ren
  have hm := rm_ren
  have he := re_ren
  have g1 := wgood_any m a b c hl
  by_cases h : goodW m = 0
  · have e1 : encW m = wB m := by simp [encW, h]
    have hw := good_w h
    have hk : kindB m.kind = true := by
      have := hw.kind
      unfold kindB
      rw [decide_eq_true (p := 1 ≤ m.kind) (by omega), decide_eq_true (p := m.kind ≤ 19) (by omega)]
      rfl
    have f1 := formof_any m.kind
    unfold formV at f1
    rw [hk] at f1
    simp only [cond_true] at f1
    have l1 := lays_any m a b c []
    have c1 := eachL_any m a b c hk (good_f hw hs) [] (by simp)
    have hB : wBn m.kind m 9 = wB m := rfl
    simp only [List.nil_append, List.length_nil, bA_nil] at c1 l1
    rw [hB] at c1
    have hln := wB_len hw hs
    have c2 := bytes_any (wB m) 0 (by omega)
    have c3 := werr_any 0
    rw [e1, h]
    rw [h] at g1
    clear e1 h hw hk hB hln hs hl
    generalize wB m = B at *
    refine ACall.startA c12_ok Tryz.func12 rfl Tryz.ntmps12 (by kernel_rfl) res12_ok rfl rfl rfl ?_; simp (maxSteps := 9999999) (disch := omega) only [go_sem]
    refine AWpA.dummy ?_
    (have k9 := And.intro @hi (And.intro @hm (And.intro @he (And.intro @bA_ren (And.intro @hi (And.intro @hm (And.intro @he (And.intro @bA_ren (k0)))))))); have x9 := Xs.mk [276, 3] []; have a1 := Arm.mk [0, 1, 2] g1; have a2 := Arm.mk [] f1; have a3 := Arm.mk [276, 0, 1, 2, 3] l1; have a4 := Arm.mk [340, 341, 276, 3, 0, 1, 2] c1; have a5 := Arm.mk [276, 356] c2; have a6 := Arm.mk [276] c3; have e9 := Ends.mk [0, 1, 2, 372]; exact goE)
  · have e1 : encW m = [] := by
      unfold encW
      rw [show (goodW m == 0) = false by simpa using h]
      rfl
    rw [e1]
    generalize goodW m = k at *
    clear e1 hl hs
    have h2 : (k == 0) = false := by simpa using h
    refine ACall.startA c12_ok Tryz.func12 rfl Tryz.ntmps12 (by kernel_rfl) res12_ok rfl rfl rfl ?_; simp (maxSteps := 9999999) (disch := omega) only [go_sem]
    refine AWpA.dummy ?_
    (have k9 := And.intro @hi (And.intro @hm (And.intro @he (And.intro @h (And.intro @h2 (And.intro @hi (And.intro @hm (And.intro @he (And.intro @h (And.intro @bA_nil (k0)))))))))); have a1 := Arm.mk [0, 1, 2] g1; have e9 := Ends.mk [0, 1, 2, 3]; exact goE)
end
end Go.Proofs.YtopidfkmligljaaGreat
