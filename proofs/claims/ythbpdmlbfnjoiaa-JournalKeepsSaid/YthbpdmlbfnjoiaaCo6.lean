/- Contracts: marks. -/
import Derived.Test.YthbpdmlbfnjoiaaCo5
namespace Go.Crc
set_option linter.unusedSimpArgs false
set_option linter.unusedVariables false
set_option maxHeartbeats 4000000
open Go Go.Am
theorem le4_four (s : R) : le4 4 s = [((s &&& 255#32).toNat : Int), (((s >>> 8) &&& 255#32).toNat : Int), (((s >>> 16) &&& 255#32).toNat : Int), (((s >>> 24) &&& 255#32).toNat : Int)] := by
  simp only [le4]
  rw [← BitVec.shiftRight_add, ← BitVec.shiftRight_add]
theorem le4_bytes (k : Nat) : ∀ s : R, ∀ x ∈ le4 k s, 0 ≤ x ∧ x ≤ 255 := by
  induction k with
  | zero => intro s x hx; cases hx
  | succ k ih =>
    intro s x hx
    rcases List.mem_cons.1 hx with rfl | hx
    · have := and255_lt s; omega
    · exact ih _ _ hx
theorem mkd_bytes {l : List Int} (h : ∀ x ∈ l, 0 ≤ x ∧ x ≤ 255) : ∀ x ∈ mkd l, 0 ≤ x ∧ x ≤ 255 := fun x hx => by
  rcases List.mem_append.1 hx with hx | hx
  · exact h x hx
  · exact le4_bytes 4 _ x hx
/-- Marked? -/
def mkdB (l : List Int) : Bool := decide (4 ≤ l.length) && decide (mkd (l.take (l.length - 4)) = l)
theorem rem256 (a : R) (k m : Nat) (h : m = 2 ^ k) : IntKind.u8.wrap ((IntKind.u32.wrap ((a.toNat : Int).tdiv (m : Int))).tmod 256) = (((a >>> k) &&& 255#32).toNat : Int) := by
  have hlt := a.isLt
  have hm : 0 < m := by rw [h]; exact Nat.pow_pos (by omega)
  have e : ((a.toNat : Int).tdiv (m : Int)) = ((a.toNat / m : Nat) : Int) := by rw [Int.tdiv_eq_ediv_of_nonneg (by omega)]; rfl
  have e2 : a.toNat / m ≤ a.toNat := Nat.div_le_self _ _
  rw [e, and255, BitVec.toNat_ushiftRight, Nat.shiftRight_eq_div_pow, ← h]
  generalize a.toNat / m = q at *
  have e3 : IntKind.u32.wrap (q : Int) = (q : Int) := by
    simp only [IntKind.wrap, IntKind.bits, IntKind.signed]; simp; omega
  rw [e3, Int.tmod_eq_emod_of_nonneg (by omega)]
  simp [IntKind.wrap, IntKind.bits, IntKind.signed]
theorem rem0 (a : R) : IntKind.u8.wrap ((a.toNat : Int).tmod 256) = ((a &&& 255#32).toNat : Int) := by
  rw [Int.tmod_eq_emod_of_nonneg (by omega), and255]
  simp [IntKind.wrap, IntKind.bits, IntKind.signed]
theorem rem8 (a : R) : IntKind.u8.wrap ((IntKind.u32.wrap ((a.toNat : Int).tdiv 256)).tmod 256) = (((a >>> 8) &&& 255#32).toNat : Int) := rem256 a 8 256 rfl
theorem rem16 (a : R) : IntKind.u8.wrap ((IntKind.u32.wrap ((a.toNat : Int).tdiv 65536)).tmod 256) = (((a >>> 16) &&& 255#32).toNat : Int) := rem256 a 16 65536 rfl
theorem rem24 (a : R) : IntKind.u8.wrap (IntKind.u32.wrap ((a.toNat : Int).tdiv 16777216)) = (((a >>> 24) &&& 255#32).toNat : Int) := by
  rw [← rem256 a 24 16777216 rfl]
  have hlt := a.isLt
  have e : (a.toNat : Int).tdiv 16777216 = ((a.toNat / 16777216 : Nat) : Int) := by rw [Int.tdiv_eq_ediv_of_nonneg (by omega)]; rfl
  have e2 : a.toNat / 16777216 < 256 := by omega
  rw [show ((16777216 : Nat) : Int) = 16777216 from rfl, e]
  have e3 : IntKind.u32.wrap ((a.toNat / 16777216 : Nat) : Int) = ((a.toNat / 16777216 : Nat) : Int) := by
    simp only [IntKind.wrap, IntKind.bits, IntKind.signed]; simp; omega
  rw [e3, Int.tmod_eq_emod_of_nonneg (by omega), Int.emod_eq_of_lt (by omega) (by omega)]
end Go.Crc
namespace Go.Proofs.Ythbpdmlbfnjoiaa
open Go Go.Am Go.RowKit Go.Crc
set_option linter.unusedSimpArgs false
set_option maxHeartbeats 4000000
set_option maxRecDepth 100000
/- slices.Equal[[]byte,byte] -/
noncomputable def c58_1 : ACode := .region false [⟨some 4, .move, [.c (.val (.bool false))], none⟩] [] [] [0, 1] false [] []
noncomputable def c58_4 : ACode := .region false [⟨some 6, .move, [.t 0], none⟩,
  ⟨some 7, .len, [.t 6], none⟩,
  ⟨some 8, .move, [.t 1], none⟩,
  ⟨some 9, .len, [.t 8], none⟩,
  ⟨some 10, .bin .neq, [.t 7, .t 9], none⟩] [] [] [0, 1, 10] false [] []
noncomputable def c58_7 : ACode := .region false [⟨some 4, .move, [.c (.val (.bool false))], none⟩] [] [] [4] false [] []
noncomputable def c58_6 : ACode := .seq c58_7 .ret
noncomputable def c58_5 : ACode := .cond (.t 10) c58_6 .skip
noncomputable def c58_3 : ACode := .seq c58_4 c58_5
noncomputable def c58_10 : ACode := .region false [⟨some 11, .move, [.t 0], none⟩,
  ⟨some 12, .len, [.t 11], none⟩,
  ⟨some 13, .move, [.c (.val (.int .i64 0))], none⟩] [] [] [0, 1, 12, 13] false [] []
noncomputable def c58_14 : ACode := .region false [⟨some 14, .bin .lss, [.t 13, .t 12], none⟩] [] [] [0, 1, 12, 13, 14] false [] []
noncomputable def c58_16 : ACode := .cond (.t 14) .skip (.exit 0)
noncomputable def c58_20 : ACode := .region false [⟨some 15, .move, [.t 13], none⟩,
  ⟨some 5, .move, [.t 15], none⟩] [] [] [0, 1, 5, 12, 13] false [] []
noncomputable def c58_22 : ACode := .region true [⟨some 16, .move, [.t 0], none⟩,
  ⟨some 17, .move, [.t 5], none⟩,
  ⟨some 18, .ixS 1, [.t 16, .t 17], none⟩,
  ⟨some 19, .load false 1, [.t 18], none⟩,
  ⟨some 20, .move, [.t 1], none⟩,
  ⟨some 21, .move, [.t 5], none⟩,
  ⟨some 22, .ixS 1, [.t 20, .t 21], none⟩,
  ⟨some 23, .load false 1, [.t 22], none⟩,
  ⟨some 24, .bin .neq, [.t 19, .t 23], none⟩] [] [] [0, 1, 12, 13, 24] false [] []
noncomputable def c58_25 : ACode := .region false [⟨some 4, .move, [.c (.val (.bool false))], none⟩] [] [] [4] false [] []
noncomputable def c58_24 : ACode := .seq c58_25 .ret
noncomputable def c58_23 : ACode := .cond (.t 24) c58_24 .skip
noncomputable def c58_21 : ACode := .seq c58_22 c58_23
noncomputable def c58_19 : ACode := .seq c58_20 c58_21
noncomputable def c58_18 : ACode := .block 1 c58_19
noncomputable def c58_26 : ACode := .region false [⟨some 25, .bin .add, [.t 13, .c (.val (.int .i64 1))], none⟩,
  ⟨some 13, .move, [.t 25], none⟩] [] [] [0, 1, 12, 13] false [] []
noncomputable def c58_17 : ACode := .seq c58_18 c58_26
noncomputable def c58_15 : ACode := .seq c58_16 c58_17
noncomputable def c58_13 : ACode := .seq c58_14 c58_15
noncomputable def c58_12 : ACode := .loop c58_13
noncomputable def c58_11 : ACode := .block 0 c58_12
noncomputable def c58_9 : ACode := .seq c58_10 c58_11
noncomputable def c58_28 : ACode := .region false [⟨some 4, .move, [.c (.val (.bool true))], none⟩] [] [] [4] false [] []
noncomputable def c58_27 : ACode := .seq c58_28 .ret
noncomputable def c58_8 : ACode := .seq c58_9 c58_27
noncomputable def c58_2 : ACode := .seq c58_3 c58_8
noncomputable def c58_0 : ACode := .seq c58_1 c58_2
noncomputable def code58 : Code := (Try.f58.body).getD .skip
theorem c58_ok : compC Try.prog 26 code58 = some (strip c58_0) := by kernel_rfl
theorem res58_ok : Try.f58.results.toList.mapM (resC Try.prog) = some [(4, none)] := by kernel_rfl
/- (*quidnunc/crc.Table).Mark -/
noncomputable def c53_1 : ACode := .region false [⟨some 4, .move, [.c (.val (.slice none 0 0))], none⟩] [] [] [0, 1] false [] []
noncomputable def c53_3 : ACode := .region false [⟨some 6, .move, [.t 0], none⟩,
  ⟨some 7, .move, [.t 1], none⟩,
  ⟨some 8, .buildSl 1 1 [(.slice none 0 0)] [(0, 1)], [.t 7], none⟩,
  ⟨some 9, .call 74, [.t 6, .t 8], none⟩,
  ⟨some 5, .move, [.t 9], none⟩] [] [] [1, 5] true [] []
noncomputable def c53_5 : ACode := .region false [⟨some 10, .move, [.t 1], none⟩,
  ⟨some 11, .call 65, [.t 10], none⟩,
  ⟨some 12, .move, [.t 5], none⟩,
  ⟨some 13, .conv .u8, [.t 12], none⟩,
  ⟨some 14, .move, [.t 5], none⟩,
  ⟨some 15, .bin .shr, [.t 14, .c (.val (.int .u64 8))], none⟩,
  ⟨some 16, .conv .u8, [.t 15], none⟩,
  ⟨some 17, .move, [.t 5], none⟩,
  ⟨some 18, .bin .shr, [.t 17, .c (.val (.int .u64 16))], none⟩,
  ⟨some 19, .conv .u8, [.t 18], none⟩,
  ⟨some 20, .move, [.t 5], none⟩,
  ⟨some 21, .bin .shr, [.t 20, .c (.val (.int .u64 24))], none⟩,
  ⟨some 22, .conv .u8, [.t 21], none⟩,
  ⟨some 23, .buildSl 1 4 [(.int .u8 0)] [(0, 1), (1, 1), (2, 1), (3, 1)], [.t 13, .t 16, .t 19, .t 22], none⟩,
  ⟨some 24, .append 1 1 false, [.t 11, .t 23], none⟩,
  ⟨some 4, .move, [.t 24], none⟩] [] [] [4] true [] []
noncomputable def c53_4 : ACode := .seq c53_5 .ret
noncomputable def c53_2 : ACode := .seq c53_3 c53_4
noncomputable def c53_0 : ACode := .seq c53_1 c53_2
noncomputable def code53 : Code := (Try.f53.body).getD .skip
theorem c53_ok : compC Try.prog 25 code53 = some (strip c53_0) := by kernel_rfl
theorem res53_ok : Try.f53.results.toList.mapM (resC Try.prog) = some [(4, none)] := by kernel_rfl
/- (*quidnunc/crc.Table).Holds -/
noncomputable def c45_1 : ACode := .region false [⟨some 4, .move, [.c (.val (.bool false))], none⟩] [] [] [0, 1] false [] []
noncomputable def c45_3 : ACode := .region false [⟨some 6, .move, [.t 1], none⟩,
  ⟨some 7, .len, [.t 6], none⟩,
  ⟨some 8, .bin .sub, [.t 7, .c (.val (.int .i64 4))], none⟩,
  ⟨some 5, .move, [.t 8], none⟩] [] [] [0, 1, 5] false [] []
noncomputable def c45_5 : ACode := .region false [⟨some 9, .move, [.t 5], none⟩,
  ⟨some 10, .bin .geq, [.t 9, .c (.val (.int .i64 0))], none⟩,
  ⟨some 11, .move, [.t 10], none⟩,
  ⟨some 12, .move, [.t 0], some (some 11, true)⟩,
  ⟨some 13, .move, [.t 1], some (some 11, true)⟩,
  ⟨some 14, .move, [.t 5], some (some 11, true)⟩,
  ⟨some 15, .slS 1 false true false, [.t 13, .t 14], some (some 11, true)⟩,
  ⟨some 16, .call 53, [.t 12, .t 15], some (some 11, true)⟩,
  ⟨some 17, .move, [.t 1], some (some 11, true)⟩,
  ⟨some 18, .call 58, [.t 16, .t 17], some (some 11, true)⟩,
  ⟨some 19, .pick, [.t 11, .t 18, .c (.val (.bool false))], none⟩,
  ⟨some 4, .move, [.t 19], none⟩] [] [] [4] true [] []
noncomputable def c45_4 : ACode := .seq c45_5 .ret
noncomputable def c45_2 : ACode := .seq c45_3 c45_4
noncomputable def c45_0 : ACode := .seq c45_1 c45_2
noncomputable def code45 : Code := (Try.f45.body).getD .skip
theorem c45_ok : compC Try.prog 20 code45 = some (strip c45_0) := by kernel_rfl
theorem res45_ok : Try.f45.results.toList.mapM (resC Try.prog) = some [(4, none)] := by kernel_rfl
/- quidnunc/quidnuncref02.Low -/
noncomputable def c67_1 : ACode := .region false [⟨some 2, .move, [.c (.val (.slice none 0 0))], none⟩] [] [] [0] false [] []
noncomputable def c67_3 : ACode := .region false [⟨some 3, .move, [.t 0], none⟩,
  ⟨some 4, .bin .rem, [.t 3, .c (.val (.int .u32 256))], none⟩,
  ⟨some 5, .conv .u8, [.t 4], none⟩,
  ⟨some 6, .move, [.t 0], none⟩,
  ⟨some 7, .bin .quo, [.t 6, .c (.val (.int .u32 256))], none⟩,
  ⟨some 8, .bin .rem, [.t 7, .c (.val (.int .u32 256))], none⟩,
  ⟨some 9, .conv .u8, [.t 8], none⟩,
  ⟨some 10, .move, [.t 0], none⟩,
  ⟨some 11, .bin .quo, [.t 10, .c (.val (.int .u32 65536))], none⟩,
  ⟨some 12, .bin .rem, [.t 11, .c (.val (.int .u32 256))], none⟩,
  ⟨some 13, .conv .u8, [.t 12], none⟩,
  ⟨some 14, .move, [.t 0], none⟩,
  ⟨some 15, .bin .quo, [.t 14, .c (.val (.int .u32 16777216))], none⟩,
  ⟨some 16, .conv .u8, [.t 15], none⟩,
  ⟨some 17, .buildSl 1 4 [(.int .u8 0)] [(0, 1), (1, 1), (2, 1), (3, 1)], [.t 5, .t 9, .t 13, .t 16], none⟩,
  ⟨some 2, .move, [.t 17], none⟩] [] [] [2] true [] []
noncomputable def c67_2 : ACode := .seq c67_3 .ret
noncomputable def c67_0 : ACode := .seq c67_1 c67_2
noncomputable def code67 : Code := (Try.f67.body).getD .skip
theorem c67_ok : compC Try.prog 18 code67 = some (strip c67_0) := by kernel_rfl
theorem res67_ok : Try.f67.results.toList.mapM (resC Try.prog) = some [(2, none)] := by kernel_rfl
/- quidnunc/quidnuncref02.Mark -/
noncomputable def c44_1 : ACode := .region false [⟨some 2, .move, [.c (.val (.slice none 0 0))], none⟩] [] [] [0] false [] []
noncomputable def c44_3 : ACode := .region false [⟨some 3, .buildSl 1 0 [(.int .u8 0)] [], [], none⟩,
  ⟨some 4, .move, [.t 0], none⟩,
  ⟨some 5, .append 1 1 false, [.t 3, .t 4], none⟩,
  ⟨some 6, .move, [.t 0], none⟩,
  ⟨some 7, .call 68, [.t 6], none⟩,
  ⟨some 8, .call 67, [.t 7], none⟩,
  ⟨some 9, .append 1 1 false, [.t 5, .t 8], none⟩,
  ⟨some 2, .move, [.t 9], none⟩] [] [] [2] true [] []
noncomputable def c44_2 : ACode := .seq c44_3 .ret
noncomputable def c44_0 : ACode := .seq c44_1 c44_2
noncomputable def code44 : Code := (Try.f44.body).getD .skip
theorem c44_ok : compC Try.prog 10 code44 = some (strip c44_0) := by kernel_rfl
theorem res44_ok : Try.f44.results.toList.mapM (resC Try.prog) = some [(2, none)] := by kernel_rfl
/- quidnunc/quidnuncref02.Holds -/
noncomputable def c50_1 : ACode := .region false [⟨some 2, .move, [.c (.val (.bool false))], none⟩] [] [] [0] false [] []
noncomputable def c50_3 : ACode := .region true [⟨some 3, .move, [.t 0], none⟩,
  ⟨some 4, .len, [.t 3], none⟩,
  ⟨some 5, .bin .geq, [.t 4, .c (.val (.int .i64 4))], none⟩,
  ⟨some 6, .move, [.t 5], none⟩,
  ⟨some 7, .move, [.t 0], some (some 6, true)⟩,
  ⟨some 8, .move, [.t 0], some (some 6, true)⟩,
  ⟨some 9, .len, [.t 8], some (some 6, true)⟩,
  ⟨some 10, .bin .sub, [.t 9, .c (.val (.int .i64 4))], some (some 6, true)⟩,
  ⟨some 11, .slS 1 false true false, [.t 7, .t 10], some (some 6, true)⟩,
  ⟨some 12, .call 44, [.t 11], some (some 6, true)⟩,
  ⟨some 13, .toStr, [.t 12], some (some 6, true)⟩,
  ⟨some 14, .move, [.t 0], some (some 6, true)⟩,
  ⟨some 15, .toStr, [.t 14], some (some 6, true)⟩,
  ⟨some 16, .bin .eql, [.t 13, .t 15], some (some 6, true)⟩,
  ⟨some 17, .pick, [.t 6, .t 16, .c (.val (.bool false))], none⟩,
  ⟨some 2, .move, [.t 17], none⟩] [10] [] [2] true [] []
noncomputable def c50_2 : ACode := .seq c50_3 .ret
noncomputable def c50_0 : ACode := .seq c50_1 c50_2
noncomputable def code50 : Code := (Try.f50.body).getD .skip
theorem c50_ok : compC Try.prog 18 code50 = some (strip c50_0) := by kernel_rfl
theorem res50_ok : Try.f50.results.toList.mapM (resC Try.prog) = some [(2, none)] := by kernel_rfl
theorem equal_any {P Q : List AV} {o o' : Nat} {l m : List Int} (s : Seg P o l) (t : Seg Q o' m) :
    ACall Try.prog 58 [.sl 0 o l.length 1 none, .sl 1 o' m.length 1 none] [.cells true P, .cells true Q] (Det (Bo (decide (l = m))) [.cells true P, .cells true Q]) := by
  have s1 := s.le
  have s2 := t.le
  have s3 := s.small
  have s4 := t.small
  by_cases hlen : l.length = m.length
  · have g0 : ((l.length : Int) == (m.length : Int)) = true := by simp [hlen]
    refine ACall.startA c58_ok Try.func58 rfl Try.ntmps58 (by kernel_rfl) res58_ok rfl rfl rfl ?_; simp (maxSteps := 9999999) (disch := omega) only [go_sem]
    (have k9 := And.intro @s.ren (And.intro @t.ren (And.intro @g0 (k0))); (repeat' (first | refine AWpA.seq ?_ | refine AWpA.block ?_ | (with_reducible refine CondP.tt ?_) | (with_reducible refine CondP.ff ?_) | refine AWpA.cg ?_ | ((first | refine AWpA.rg ?_ | refine AWpA.dg [] [] follows ?_ | refine TailK.tg ?_ | refine AWpA.skip ?_ | refine AWpA.exit ?_ | refine AWpA.ret ?_ | (with_reducible refine ARoundsA.succ ?_) | ((first | refine Runs.gkt (fun h9 => ?_) | refine Runs.gkf (fun h9 => ?_) | refine Runs.gnt (fun h9 => ?_) | refine Runs.gnf (fun h9 => ?_) | refine CondP.gt (fun h9 => ?_) | refine CondP.gf (fun h9 => ?_) | refine CondP.gnt (fun h9 => ?_) | refine CondP.gnf (fun h9 => ?_)); (try simp only [h9]); clear h9)); (try simp (maxSteps := 9999999) (disch := omega) only [go_sem, k9]); (try refine cnd ?_)) | ((first | refine CondP.split (fun hif => ?_) (fun hif => ?_) | refine Runs.part (fun hif => ?_) (fun hif => ?_)) <;> ((try simp only [hif]); (try simp only [BL] at hif); (try (have h9 : _ = true := hif; simp only [h9])); (try (have h9 : _ = false := hif; simp only [h9])); (try simp (maxSteps := 9999999) (disch := omega) only [go_sem, k9]); (try refine cnd ?_); (try (exfalso; omega; done)))))); (all_goals (try clear k9)))
    (apply AWpA.loopL (fun i : Nat => [(0, .sl 0 o l.length 1 none), (1, .sl 1 o' m.length 1 none), (12, I l.length), (13, I i)]) (fun i => [.cells true P, .cells true Q]) (fun i => l.length - i) (fun i => i ≤ l.length ∧ l.take i = m.take i) (0) [0, 1]; rotate_left; (focus (simp (maxSteps := 9999999) (disch := omega) only [go_sem, s.ren, t.ren]; (try (repeat' (first | done | trivial | rfl | exact leAs_rfl _ | decide | (refine And.intro ?_ ?_) | (simp; done) | omega | (simp; decide)))))); rotate_right)
    · exact ⟨Nat.zero_le _, rfl⟩
    rintro i ⟨hi, hp⟩
    (try simp only at hi)
    by_cases hin : i < l.length
    · have g1 : ((i : Int) < (l.length : Int)) = True := eq_true (by omega)
      have hin2 : i < m.length := by omega
      have g2 : P.getD (o + i) .bad = .val (.int .u8 l[i]) := s.byte i hin
      have g3 : Q.getD (o' + i) .bad = .val (.int .u8 m[i]) := t.byte i hin2
      have e1 : l.take (i + 1) = l.take i ++ [l[i]] := by rw [List.take_add_one, List.getElem?_eq_getElem hin]; rfl
      have e2 : m.take (i + 1) = m.take i ++ [m[i]] := by rw [List.take_add_one, List.getElem?_eq_getElem hin2]; rfl
      have e3 : l = m → l[i] = m[i] := fun h => by subst h; rfl
      generalize l[i] = x at g2 e1 e3
      generalize m[i] = y at g3 e2 e3
      by_cases hxy : x = y
      · have g4 : (x == y) = true := by simp [hxy]
        (try simp (maxSteps := 9999999) (disch := omega) only [go_sem])
        (have k9 := And.intro @g1 (And.intro @s.ren (And.intro @t.ren (And.intro @g2 (And.intro @g3 (And.intro @g4 (k0)))))); (repeat' (first | refine AWpA.seq ?_ | refine AWpA.block ?_ | (with_reducible refine CondP.tt ?_) | (with_reducible refine CondP.ff ?_) | refine AWpA.cg ?_ | ((first | refine AWpA.rg ?_ | refine AWpA.dg [] [] follows ?_ | refine TailK.tg ?_ | refine AWpA.skip ?_ | refine AWpA.exit ?_ | refine AWpA.ret ?_ | (with_reducible refine ARoundsA.succ ?_) | ((first | refine Runs.gkt (fun h9 => ?_) | refine Runs.gkf (fun h9 => ?_) | refine Runs.gnt (fun h9 => ?_) | refine Runs.gnf (fun h9 => ?_) | refine CondP.gt (fun h9 => ?_) | refine CondP.gf (fun h9 => ?_) | refine CondP.gnt (fun h9 => ?_) | refine CondP.gnf (fun h9 => ?_)); (try simp only [h9]); clear h9)); (try simp (maxSteps := 9999999) (disch := omega) only [go_sem, k9]); (try refine cnd ?_)) | ((first | refine CondP.split (fun hif => ?_) (fun hif => ?_) | refine Runs.part (fun hif => ?_) (fun hif => ?_)) <;> ((try simp only [hif]); (try simp only [BL] at hif); (try (have h9 : _ = true := hif; simp only [h9])); (try (have h9 : _ = false := hif; simp only [h9])); (try simp (maxSteps := 9999999) (disch := omega) only [go_sem, k9]); (try refine cnd ?_); (try (exfalso; omega; done)))))); (all_goals (try clear k9)))
        (apply Back.to (i + 1) [0, 1]; (focus ((try simp (maxSteps := 9999999) (disch := omega) only [go_sem, s.ren, t.ren]); first | done | omega)); rotate_left; (focus (simp (maxSteps := 9999999) (disch := omega) only [go_sem, s.ren, t.ren]; (try (repeat' (first | done | trivial | rfl | exact leAs_rfl _ | decide | (refine And.intro ?_ ?_) | (simp; done) | omega | (simp; decide)))))))
        exact ⟨by omega, by rw [e1, e2, hp, hxy]⟩
      · have g4 : (x == y) = false := by simp [hxy]
        have g5 : decide (l = m) = false := decide_eq_false fun h => hxy (e3 h)
        (try simp (maxSteps := 9999999) (disch := omega) only [go_sem])
        (have k9 := And.intro @g1 (And.intro @s.ren (And.intro @t.ren (And.intro @g2 (And.intro @g3 (And.intro @g4 (k0)))))); (repeat' (first | refine AWpA.seq ?_ | refine AWpA.block ?_ | (with_reducible refine CondP.tt ?_) | (with_reducible refine CondP.ff ?_) | refine AWpA.cg ?_ | ((first | refine AWpA.rg ?_ | refine AWpA.dg [] [] follows ?_ | refine TailK.tg ?_ | refine AWpA.skip ?_ | refine AWpA.exit ?_ | refine AWpA.ret ?_ | (with_reducible refine ARoundsA.succ ?_) | ((first | refine Runs.gkt (fun h9 => ?_) | refine Runs.gkf (fun h9 => ?_) | refine Runs.gnt (fun h9 => ?_) | refine Runs.gnf (fun h9 => ?_) | refine CondP.gt (fun h9 => ?_) | refine CondP.gf (fun h9 => ?_) | refine CondP.gnt (fun h9 => ?_) | refine CondP.gnf (fun h9 => ?_)); (try simp only [h9]); clear h9)); (try simp (maxSteps := 9999999) (disch := omega) only [go_sem, k9]); (try refine cnd ?_)) | ((first | refine CondP.split (fun hif => ?_) (fun hif => ?_) | refine Runs.part (fun hif => ?_) (fun hif => ?_)) <;> ((try simp only [hif]); (try simp only [BL] at hif); (try (have h9 : _ = true := hif; simp only [h9])); (try (have h9 : _ = false := hif; simp only [h9])); (try simp (maxSteps := 9999999) (disch := omega) only [go_sem, k9]); (try refine cnd ?_); (try (exfalso; omega; done)))))); (all_goals (try clear k9)))
        (apply Ret.det [0, 1]; (focus (first | exact .inl rfl | exact .inr rfl)); (focus (simp (maxSteps := 9999999) (disch := omega) only [go_sem, s.ren, t.ren, g5]; rfl)); (simp (maxSteps := 9999999) (disch := omega) only [go_sem, s.ren, t.ren, g5]; (try (repeat' (first | done | trivial | rfl | exact leAs_rfl _ | decide | (refine And.intro ?_ ?_) | (simp; done) | omega | (simp; decide))))))
    · obtain rfl : i = l.length := by omega
      have g5 : decide (l = m) = true := decide_eq_true (by rw [List.take_length, hlen, List.take_length] at hp; exact hp)
      (try simp (maxSteps := 9999999) (disch := omega) only [go_sem])
      (have k9 := k0; (repeat' (first | refine AWpA.seq ?_ | refine AWpA.block ?_ | (with_reducible refine CondP.tt ?_) | (with_reducible refine CondP.ff ?_) | refine AWpA.cg ?_ | ((first | refine AWpA.rg ?_ | refine AWpA.dg [] [] follows ?_ | refine TailK.tg ?_ | refine AWpA.skip ?_ | refine AWpA.exit ?_ | refine AWpA.ret ?_ | (with_reducible refine ARoundsA.succ ?_) | ((first | refine Runs.gkt (fun h9 => ?_) | refine Runs.gkf (fun h9 => ?_) | refine Runs.gnt (fun h9 => ?_) | refine Runs.gnf (fun h9 => ?_) | refine CondP.gt (fun h9 => ?_) | refine CondP.gf (fun h9 => ?_) | refine CondP.gnt (fun h9 => ?_) | refine CondP.gnf (fun h9 => ?_)); (try simp only [h9]); clear h9)); (try simp (maxSteps := 9999999) (disch := omega) only [go_sem, k9]); (try refine cnd ?_)) | ((first | refine CondP.split (fun hif => ?_) (fun hif => ?_) | refine Runs.part (fun hif => ?_) (fun hif => ?_)) <;> ((try simp only [hif]); (try simp only [BL] at hif); (try (have h9 : _ = true := hif; simp only [h9])); (try (have h9 : _ = false := hif; simp only [h9])); (try simp (maxSteps := 9999999) (disch := omega) only [go_sem, k9]); (try refine cnd ?_); (try (exfalso; omega; done)))))); (all_goals (try clear k9)))
      (apply Ret.det [0, 1]; (focus (first | exact .inl rfl | exact .inr rfl)); (focus (simp (maxSteps := 9999999) (disch := omega) only [go_sem, s.ren, t.ren, g5]; rfl)); (simp (maxSteps := 9999999) (disch := omega) only [go_sem, s.ren, t.ren, g5]; (try (repeat' (first | done | trivial | rfl | exact leAs_rfl _ | decide | (refine And.intro ?_ ?_) | (simp; done) | omega | (simp; decide))))))
  · have g0 : ((l.length : Int) == (m.length : Int)) = false := by simp; omega
    have g5 : decide (l = m) = false := decide_eq_false fun h => hlen (by rw [h])
    refine ACall.startA c58_ok Try.func58 rfl Try.ntmps58 (by kernel_rfl) res58_ok rfl rfl rfl ?_; simp (maxSteps := 9999999) (disch := omega) only [go_sem]
    (have k9 := And.intro @s.ren (And.intro @t.ren (And.intro @g0 (k0))); (repeat' (first | refine AWpA.seq ?_ | refine AWpA.block ?_ | (with_reducible refine CondP.tt ?_) | (with_reducible refine CondP.ff ?_) | refine AWpA.cg ?_ | ((first | refine AWpA.rg ?_ | refine AWpA.dg [] [] follows ?_ | refine TailK.tg ?_ | refine AWpA.skip ?_ | refine AWpA.exit ?_ | refine AWpA.ret ?_ | (with_reducible refine ARoundsA.succ ?_) | ((first | refine Runs.gkt (fun h9 => ?_) | refine Runs.gkf (fun h9 => ?_) | refine Runs.gnt (fun h9 => ?_) | refine Runs.gnf (fun h9 => ?_) | refine CondP.gt (fun h9 => ?_) | refine CondP.gf (fun h9 => ?_) | refine CondP.gnt (fun h9 => ?_) | refine CondP.gnf (fun h9 => ?_)); (try simp only [h9]); clear h9)); (try simp (maxSteps := 9999999) (disch := omega) only [go_sem, k9]); (try refine cnd ?_)) | ((first | refine CondP.split (fun hif => ?_) (fun hif => ?_) | refine Runs.part (fun hif => ?_) (fun hif => ?_)) <;> ((try simp only [hif]); (try simp only [BL] at hif); (try (have h9 : _ = true := hif; simp only [h9])); (try (have h9 : _ = false := hif; simp only [h9])); (try simp (maxSteps := 9999999) (disch := omega) only [go_sem, k9]); (try refine cnd ?_); (try (exfalso; omega; done)))))); (all_goals (try clear k9)))
    (apply Ret.det [0, 1]; (focus (first | exact .inl rfl | exact .inr rfl)); (focus (simp (maxSteps := 9999999) (disch := omega) only [go_sem, s.ren, t.ren, g5]; rfl)); (simp (maxSteps := 9999999) (disch := omega) only [go_sem, s.ren, t.ren, g5]; (try (repeat' (first | done | trivial | rfl | exact leAs_rfl _ | decide | (refine And.intro ?_ ?_) | (simp; done) | omega | (simp; decide))))))
theorem mark_any (d : Bool) {P : List AV} {o : Nat} {l : List Int} (sg : Seg P o l) (hby : ∀ x ∈ l, 0 ≤ x ∧ x ≤ 255) :
    ACall Try.prog 53 [.ptr 0 0, .sl 1 o l.length 1 none] [.cells false (tb d), .cells true P] (Det (.sl 2 0 (l.length + 4) 1 none) [.cells false (tb true), .cells true P, .cells false (bA (mkd l))]) := by
  have hle := sg.le
  have hsm := sg.small
  have h := of1_any d sg hby
  have e : mkd l = l ++ [((sum l &&& 255#32).toNat : Int)] ++ [(((sum l >>> 8) &&& 255#32).toNat : Int)] ++ [(((sum l >>> 16) &&& 255#32).toNat : Int)] ++ [(((sum l >>> 24) &&& 255#32).toNat : Int)] := by rw [mkd, le4_four]; simp
  refine ACall.startA c53_ok Try.func53 rfl Try.ntmps53 (by kernel_rfl) res53_ok rfl rfl rfl ?_; simp (maxSteps := 9999999) (disch := omega) only [go_sem]
  (have k9 := And.intro @sg.ren (And.intro @tb_ren (And.intro @sg.seg (And.intro @sg.noAny (And.intro @low8 (And.intro @shr8 (And.intro @shr16 (And.intro @shr24 (k0)))))))); (repeat' (first | refine AWpA.seq ?_ | refine AWpA.block ?_ | (with_reducible refine CondP.tt ?_) | (with_reducible refine CondP.ff ?_) | refine AWpA.cg ?_ | ((first | refine AWpA.rg ?_ | refine AWpA.dg [] [] follows ?_ | refine TailK.tg ?_ | refine AWpA.skip ?_ | refine AWpA.exit ?_ | refine AWpA.ret ?_ | (with_reducible refine ARoundsA.succ ?_) | ((first | refine Runs.gkt (fun h9 => ?_) | refine Runs.gkf (fun h9 => ?_) | refine Runs.gnt (fun h9 => ?_) | refine Runs.gnf (fun h9 => ?_) | refine CondP.gt (fun h9 => ?_) | refine CondP.gf (fun h9 => ?_) | refine CondP.gnt (fun h9 => ?_) | refine CondP.gnf (fun h9 => ?_)); (try simp only [h9]); clear h9) | refine CallG.pg [0, 50, 1] (h) ?_ | refine CallG.pg [1] (clone_any sg) ?_ | refine CallG.dg [0, 50, 1] (h) ?_ | refine CallG.dg [1] (clone_any sg) ?_); (try simp (maxSteps := 9999999) (disch := omega) only [go_sem, k9]); (try refine cnd ?_)) | ((first | refine CondP.split (fun hif => ?_) (fun hif => ?_) | refine Runs.part (fun hif => ?_) (fun hif => ?_)) <;> ((try simp only [hif]); (try simp only [BL] at hif); (try (have h9 : _ = true := hif; simp only [h9])); (try (have h9 : _ = false := hif; simp only [h9])); (try simp (maxSteps := 9999999) (disch := omega) only [go_sem, k9]); (try refine cnd ?_); (try (exfalso; omega; done)))))); (all_goals (try clear k9)))
  (apply Ret.det [0, 1, _]; (focus (first | exact .inl rfl | exact .inr rfl)); (focus (simp (maxSteps := 9999999) (disch := omega) only [go_sem, sg.ren, tb_ren, e]; rfl)); (simp (maxSteps := 9999999) (disch := omega) only [go_sem, sg.ren, tb_ren, e]; (try (repeat' (first | done | trivial | rfl | exact leAs_rfl _ | decide | (refine And.intro ?_ ?_) | (simp; done) | omega | (simp; decide))))))
theorem holds_any (d : Bool) {P : List AV} {o : Nat} {l : List Int} (sg : Seg P o l) (hby : ∀ x ∈ l, 0 ≤ x ∧ x ≤ 255) :
    ACall Try.prog 45 [.ptr 0 0, .sl 1 o l.length 1 none] [.cells false (tb d), .cells true P] (Det (Bo (mkdB l)) [.cells false (tb (d || decide (4 ≤ l.length))), .cells true P]) := by
  have hle := sg.le
  have hsm := sg.small
  by_cases h4 : 4 ≤ l.length
  · have g0 : (0 ≤ (l.length : Int) - 4) = True := eq_true (by omega)
    have g1 : (l.length : Int) - 4 = ((l.length - 4 : Nat) : Int) := by omega
    have sg2 := sg.takeS (l.length - 4) (by omega)
    have hm := mark_any d sg2 (fun x hx => hby x (List.mem_of_mem_take hx))
    have hlt : (l.take (l.length - 4)).length = l.length - 4 := by rw [List.length_take]; omega
    have hml : (mkd (l.take (l.length - 4))).length = l.length := by rw [mkd_length, hlt]; omega
    have he := equal_any (Seg.all (mkd (l.take (l.length - 4))) (by rw [hml]; exact hsm)) sg
    rw [hml] at he
    rw [hlt, show l.length - 4 + 4 = l.length by omega] at hm
    have e : mkdB l = decide (mkd (l.take (l.length - 4)) = l) := by simp [mkdB, h4]
    have e2 : (d || decide (4 ≤ l.length)) = true := by simp [h4]
    rw [e, e2]
    generalize l.length - 4 = n at *
    refine ACall.startA c45_ok Try.func45 rfl Try.ntmps45 (by kernel_rfl) res45_ok rfl rfl rfl ?_; simp (maxSteps := 9999999) (disch := omega) only [go_sem]
    (have k9 := And.intro @sg.ren (And.intro @tb_ren (And.intro @g0 (And.intro @g1 (k0)))); (repeat' (first | refine AWpA.seq ?_ | refine AWpA.block ?_ | (with_reducible refine CondP.tt ?_) | (with_reducible refine CondP.ff ?_) | refine AWpA.cg ?_ | ((first | refine AWpA.rg ?_ | refine AWpA.dg [] [] follows ?_ | refine TailK.tg ?_ | refine AWpA.skip ?_ | refine AWpA.exit ?_ | refine AWpA.ret ?_ | (with_reducible refine ARoundsA.succ ?_) | ((first | refine Runs.gkt (fun h9 => ?_) | refine Runs.gkf (fun h9 => ?_) | refine Runs.gnt (fun h9 => ?_) | refine Runs.gnf (fun h9 => ?_) | refine CondP.gt (fun h9 => ?_) | refine CondP.gf (fun h9 => ?_) | refine CondP.gnt (fun h9 => ?_) | refine CondP.gnf (fun h9 => ?_)); (try simp only [h9]); clear h9) | refine CallG.pg [0, 1] (hm) ?_ | refine CallG.pg [194, 1] (he) ?_ | refine CallG.dg [0, 1] (hm) ?_ | refine CallG.dg [194, 1] (he) ?_); (try simp (maxSteps := 9999999) (disch := omega) only [go_sem, k9]); (try refine cnd ?_)) | ((first | refine CondP.split (fun hif => ?_) (fun hif => ?_) | refine Runs.part (fun hif => ?_) (fun hif => ?_)) <;> ((try simp only [hif]); (try simp only [BL] at hif); (try (have h9 : _ = true := hif; simp only [h9])); (try (have h9 : _ = false := hif; simp only [h9])); (try simp (maxSteps := 9999999) (disch := omega) only [go_sem, k9]); (try refine cnd ?_); (try (exfalso; omega; done)))))); (all_goals (try clear k9)))
    (apply Ret.det [0, 1]; (focus (first | exact .inl rfl | exact .inr rfl)); (focus (simp (maxSteps := 9999999) (disch := omega) only [go_sem, sg.ren, tb_ren]; rfl)); (simp (maxSteps := 9999999) (disch := omega) only [go_sem, sg.ren, tb_ren]; (try (repeat' (first | done | trivial | rfl | exact leAs_rfl _ | decide | (refine And.intro ?_ ?_) | (simp; done) | omega | (simp; decide))))))
  · have g0 : (0 ≤ (l.length : Int) - 4) = False := eq_false (by omega)
    have e : mkdB l = false := by simp [mkdB, h4]
    have e2 : (d || decide (4 ≤ l.length)) = d := by simp [h4]
    rw [e, e2]
    refine ACall.startA c45_ok Try.func45 rfl Try.ntmps45 (by kernel_rfl) res45_ok rfl rfl rfl ?_; simp (maxSteps := 9999999) (disch := omega) only [go_sem]
    (have k9 := And.intro @sg.ren (And.intro @tb_ren (And.intro @g0 (k0))); (repeat' (first | refine AWpA.seq ?_ | refine AWpA.block ?_ | (with_reducible refine CondP.tt ?_) | (with_reducible refine CondP.ff ?_) | refine AWpA.cg ?_ | ((first | refine AWpA.rg ?_ | refine AWpA.dg [] [] follows ?_ | refine TailK.tg ?_ | refine AWpA.skip ?_ | refine AWpA.exit ?_ | refine AWpA.ret ?_ | (with_reducible refine ARoundsA.succ ?_) | ((first | refine Runs.gkt (fun h9 => ?_) | refine Runs.gkf (fun h9 => ?_) | refine Runs.gnt (fun h9 => ?_) | refine Runs.gnf (fun h9 => ?_) | refine CondP.gt (fun h9 => ?_) | refine CondP.gf (fun h9 => ?_) | refine CondP.gnt (fun h9 => ?_) | refine CondP.gnf (fun h9 => ?_)); (try simp only [h9]); clear h9)); (try simp (maxSteps := 9999999) (disch := omega) only [go_sem, k9]); (try refine cnd ?_)) | ((first | refine CondP.split (fun hif => ?_) (fun hif => ?_) | refine Runs.part (fun hif => ?_) (fun hif => ?_)) <;> ((try simp only [hif]); (try simp only [BL] at hif); (try (have h9 : _ = true := hif; simp only [h9])); (try (have h9 : _ = false := hif; simp only [h9])); (try simp (maxSteps := 9999999) (disch := omega) only [go_sem, k9]); (try refine cnd ?_); (try (exfalso; omega; done)))))); (all_goals (try clear k9)))
    (apply Ret.det [0, 1]; (focus (first | exact .inl rfl | exact .inr rfl)); (focus (simp (maxSteps := 9999999) (disch := omega) only [go_sem, sg.ren, tb_ren]; rfl)); (simp (maxSteps := 9999999) (disch := omega) only [go_sem, sg.ren, tb_ren]; (try (repeat' (first | done | trivial | rfl | exact leAs_rfl _ | decide | (refine And.intro ?_ ?_) | (simp; done) | omega | (simp; decide))))))
theorem low_any (s : R) : ACall Try.prog 67 [U32 s.toNat] [] (Det (.sl 0 0 4 1 none) [.cells false (bA (le4 4 s))]) := by
  have e : bA (le4 4 s) = [U8 ((s &&& 255#32).toNat : Int), U8 (((s >>> 8) &&& 255#32).toNat : Int), U8 (((s >>> 16) &&& 255#32).toNat : Int), U8 (((s >>> 24) &&& 255#32).toNat : Int)] := by rw [le4_four]; rfl
  refine ACall.startA c67_ok Try.func67 rfl Try.ntmps67 (by kernel_rfl) res67_ok rfl rfl rfl ?_; simp (maxSteps := 9999999) (disch := omega) only [go_sem]
  (have k9 := And.intro @rem0 (And.intro @rem8 (And.intro @rem16 (And.intro @rem24 (k0)))); (repeat' (first | refine AWpA.seq ?_ | refine AWpA.block ?_ | (with_reducible refine CondP.tt ?_) | (with_reducible refine CondP.ff ?_) | refine AWpA.cg ?_ | ((first | refine AWpA.rg ?_ | refine AWpA.dg [] [] follows ?_ | refine TailK.tg ?_ | refine AWpA.skip ?_ | refine AWpA.exit ?_ | refine AWpA.ret ?_ | (with_reducible refine ARoundsA.succ ?_) | ((first | refine Runs.gkt (fun h9 => ?_) | refine Runs.gkf (fun h9 => ?_) | refine Runs.gnt (fun h9 => ?_) | refine Runs.gnf (fun h9 => ?_) | refine CondP.gt (fun h9 => ?_) | refine CondP.gf (fun h9 => ?_) | refine CondP.gnt (fun h9 => ?_) | refine CondP.gnf (fun h9 => ?_)); (try simp only [h9]); clear h9)); (try simp (maxSteps := 9999999) (disch := omega) only [go_sem, k9]); (try refine cnd ?_)) | ((first | refine CondP.split (fun hif => ?_) (fun hif => ?_) | refine Runs.part (fun hif => ?_) (fun hif => ?_)) <;> ((try simp only [hif]); (try simp only [BL] at hif); (try (have h9 : _ = true := hif; simp only [h9])); (try (have h9 : _ = false := hif; simp only [h9])); (try simp (maxSteps := 9999999) (disch := omega) only [go_sem, k9]); (try refine cnd ?_); (try (exfalso; omega; done)))))); (all_goals (try clear k9)))
  (apply Ret.det [_]; (focus (first | exact .inl rfl | exact .inr rfl)); (focus (simp (maxSteps := 9999999) (disch := omega) only [go_sem, e]; rfl)); (simp (maxSteps := 9999999) (disch := omega) only [go_sem, e]; (try (repeat' (first | done | trivial | rfl | exact leAs_rfl _ | decide | (refine And.intro ?_ ?_) | (simp; done) | omega | (simp; decide))))))
theorem rmark_any {P : List AV} {o : Nat} {l : List Int} (sg : Seg P o l) (hby : ∀ x ∈ l, 0 ≤ x ∧ x ≤ 255) :
    ACall Try.prog 44 [.sl 0 o l.length 1 none] [.cells true P] (Det (.sl 1 0 (l.length + 4) 1 none) [.cells true P, .cells false (bA (mkd l))]) := by
  have hle := sg.le
  have hsm := sg.small
  have h1 := rsum_any sg hby
  have h2 := low_any (sum l)
  have hl4 := le4_length 4 (sum l)
  have ht : (le4 4 (sum l)).take 4 = le4 4 (sum l) := List.take_of_length_le (by omega)
  have e : mkd l = l ++ le4 4 (sum l) := rfl
  by_cases h0 : l.length = 0
  · have hl : l = [] := List.length_eq_zero_iff.1 h0
    have g1 : (l.length ≤ 0) = True := eq_true (by omega)
    refine ACall.startA c44_ok Try.func44 rfl Try.ntmps44 (by kernel_rfl) res44_ok rfl rfl rfl ?_; simp (maxSteps := 9999999) (disch := omega) only [go_sem]
    (have k9 := And.intro @sg.ren (And.intro @sg.seg (And.intro @sg.noAny (And.intro @h0 (And.intro @hl4 (k0))))); (repeat' (first | refine AWpA.seq ?_ | refine AWpA.block ?_ | (with_reducible refine CondP.tt ?_) | (with_reducible refine CondP.ff ?_) | refine AWpA.cg ?_ | ((first | refine AWpA.rg ?_ | refine AWpA.dg [] [] follows ?_ | refine TailK.tg ?_ | refine AWpA.skip ?_ | refine AWpA.exit ?_ | refine AWpA.ret ?_ | (with_reducible refine ARoundsA.succ ?_) | ((first | refine Runs.gkt (fun h9 => ?_) | refine Runs.gkf (fun h9 => ?_) | refine Runs.gnt (fun h9 => ?_) | refine Runs.gnf (fun h9 => ?_) | refine CondP.gt (fun h9 => ?_) | refine CondP.gf (fun h9 => ?_) | refine CondP.gnt (fun h9 => ?_) | refine CondP.gnf (fun h9 => ?_)); (try simp only [h9]); clear h9) | refine CallG.pg [0] (h1) ?_ | refine CallG.pg [] (h2) ?_ | refine CallG.dg [0] (h1) ?_ | refine CallG.dg [] (h2) ?_); (try simp (maxSteps := 9999999) (disch := omega) only [go_sem, k9]); (try refine cnd ?_)) | ((first | refine CondP.split (fun hif => ?_) (fun hif => ?_) | refine Runs.part (fun hif => ?_) (fun hif => ?_)) <;> ((try simp only [hif]); (try simp only [BL] at hif); (try (have h9 : _ = true := hif; simp only [h9])); (try (have h9 : _ = false := hif; simp only [h9])); (try simp (maxSteps := 9999999) (disch := omega) only [go_sem, k9]); (try refine cnd ?_); (try (exfalso; omega; done)))))); (all_goals (try clear k9)))
    have e0 : mkd l = le4 4 (sum l) := by rw [e, hl]; rfl
    (apply Ret.det [0, _]; (focus (first | exact .inl rfl | exact .inr rfl)); (focus (simp (maxSteps := 9999999) (disch := omega) only [go_sem, sg.ren, ht, e0]; rfl)); (simp (maxSteps := 9999999) (disch := omega) only [go_sem, sg.ren, ht, e0]; (try (repeat' (first | done | trivial | rfl | exact leAs_rfl _ | decide | (refine And.intro ?_ ?_) | (simp; done) | omega | (simp; decide))))))
  · have g1 : (l.length ≤ 0) = False := eq_false (by omega)
    refine ACall.startA c44_ok Try.func44 rfl Try.ntmps44 (by kernel_rfl) res44_ok rfl rfl rfl ?_; simp (maxSteps := 9999999) (disch := omega) only [go_sem]
    (have k9 := And.intro @sg.ren (And.intro @sg.seg (And.intro @sg.noAny (And.intro @g1 (And.intro @hl4 (k0))))); (repeat' (first | refine AWpA.seq ?_ | refine AWpA.block ?_ | (with_reducible refine CondP.tt ?_) | (with_reducible refine CondP.ff ?_) | refine AWpA.cg ?_ | ((first | refine AWpA.rg ?_ | refine AWpA.dg [] [] follows ?_ | refine TailK.tg ?_ | refine AWpA.skip ?_ | refine AWpA.exit ?_ | refine AWpA.ret ?_ | (with_reducible refine ARoundsA.succ ?_) | ((first | refine Runs.gkt (fun h9 => ?_) | refine Runs.gkf (fun h9 => ?_) | refine Runs.gnt (fun h9 => ?_) | refine Runs.gnf (fun h9 => ?_) | refine CondP.gt (fun h9 => ?_) | refine CondP.gf (fun h9 => ?_) | refine CondP.gnt (fun h9 => ?_) | refine CondP.gnf (fun h9 => ?_)); (try simp only [h9]); clear h9) | refine CallG.pg [0] (h1) ?_ | refine CallG.pg [] (h2) ?_ | refine CallG.dg [0] (h1) ?_ | refine CallG.dg [] (h2) ?_); (try simp (maxSteps := 9999999) (disch := omega) only [go_sem, k9]); (try refine cnd ?_)) | ((first | refine CondP.split (fun hif => ?_) (fun hif => ?_) | refine Runs.part (fun hif => ?_) (fun hif => ?_)) <;> ((try simp only [hif]); (try simp only [BL] at hif); (try (have h9 : _ = true := hif; simp only [h9])); (try (have h9 : _ = false := hif; simp only [h9])); (try simp (maxSteps := 9999999) (disch := omega) only [go_sem, k9]); (try refine cnd ?_); (try (exfalso; omega; done)))))); (all_goals (try clear k9)))
    (apply Ret.det [0, _]; (focus (first | exact .inl rfl | exact .inr rfl)); (focus (simp (maxSteps := 9999999) (disch := omega) only [go_sem, sg.ren, ht, e]; rfl)); (simp (maxSteps := 9999999) (disch := omega) only [go_sem, sg.ren, ht, e]; (try (repeat' (first | done | trivial | rfl | exact leAs_rfl _ | decide | (refine And.intro ?_ ?_) | (simp; done) | omega | (simp; decide))))))
theorem rholds_any {P : List AV} {o : Nat} {l : List Int} (sg : Seg P o l) (hby : ∀ x ∈ l, 0 ≤ x ∧ x ≤ 255) :
    ACall Try.prog 50 [.sl 0 o l.length 1 none] [.cells true P] (Det (Bo (mkdB l)) [.cells true P]) := by
  have hle := sg.le
  have hsm := sg.small
  by_cases h4 : 4 ≤ l.length
  · have g0 : (4 ≤ (l.length : Int)) = True := eq_true (by omega)
    have g1 : (l.length : Int) - 4 = ((l.length - 4 : Nat) : Int) := by omega
    have sg2 := sg.takeS (l.length - 4) (by omega)
    have hm := rmark_any sg2 (fun x hx => hby x (List.mem_of_mem_take hx))
    have hlt : (l.take (l.length - 4)).length = l.length - 4 := by rw [List.length_take]; omega
    have hml : (mkd (l.take (l.length - 4))).length = l.length := by rw [mkd_length, hlt]; omega
    rw [hlt, show l.length - 4 + 4 = l.length by omega] at hm
    have e : mkdB l = decide (mkd (l.take (l.length - 4)) = l) := by simp [mkdB, h4]
    rw [e]
    have ht : (mkd (l.take (l.length - 4))).take l.length = mkd (l.take (l.length - 4)) := List.take_of_length_le (by omega)
    generalize l.length - 4 = n at *
    refine ACall.startA c50_ok Try.func50 rfl Try.ntmps50 (by kernel_rfl) res50_ok rfl rfl rfl ?_; simp (maxSteps := 9999999) (disch := omega) only [go_sem]
    (have k9 := And.intro @sg.ren (And.intro @sg.seg (And.intro @sg.noAny (And.intro @g0 (And.intro @g1 (And.intro @hml (And.intro @ht (k0))))))); (repeat' (first | refine AWpA.seq ?_ | refine AWpA.block ?_ | (with_reducible refine CondP.tt ?_) | (with_reducible refine CondP.ff ?_) | refine AWpA.cg ?_ | ((first | refine AWpA.rg ?_ | refine AWpA.dg [] [] follows ?_ | refine TailK.tg ?_ | refine AWpA.skip ?_ | refine AWpA.exit ?_ | refine AWpA.ret ?_ | (with_reducible refine ARoundsA.succ ?_) | ((first | refine Runs.gkt (fun h9 => ?_) | refine Runs.gkf (fun h9 => ?_) | refine Runs.gnt (fun h9 => ?_) | refine Runs.gnf (fun h9 => ?_) | refine CondP.gt (fun h9 => ?_) | refine CondP.gf (fun h9 => ?_) | refine CondP.gnt (fun h9 => ?_) | refine CondP.gnf (fun h9 => ?_)); (try simp only [h9]); clear h9) | refine CallG.pg [0] (hm) ?_ | refine CallG.dg [0] (hm) ?_); (try simp (maxSteps := 9999999) (disch := omega) only [go_sem, k9]); (try refine cnd ?_)) | ((first | refine CondP.split (fun hif => ?_) (fun hif => ?_) | refine Runs.part (fun hif => ?_) (fun hif => ?_)) <;> ((try simp only [hif]); (try simp only [BL] at hif); (try (have h9 : _ = true := hif; simp only [h9])); (try (have h9 : _ = false := hif; simp only [h9])); (try simp (maxSteps := 9999999) (disch := omega) only [go_sem, k9]); (try refine cnd ?_); (try (exfalso; omega; done)))))); (all_goals (try clear k9)))
    have hbe := ba_beq (mkd_bytes (fun x (hx : x ∈ l.take n) => hby x (List.mem_of_mem_take hx))) hby
    (apply Ret.det [0]; (focus (first | exact .inl rfl | exact .inr rfl)); (focus (simp (maxSteps := 9999999) (disch := omega) only [go_sem, sg.ren, hbe]; rfl)); (simp (maxSteps := 9999999) (disch := omega) only [go_sem, sg.ren, hbe]; (try (repeat' (first | done | trivial | rfl | exact leAs_rfl _ | decide | (refine And.intro ?_ ?_) | (simp; done) | omega | (simp; decide))))))
  · have g0 : (4 ≤ (l.length : Int)) = False := eq_false (by omega)
    have e : mkdB l = false := by simp [mkdB, h4]
    rw [e]
    refine ACall.startA c50_ok Try.func50 rfl Try.ntmps50 (by kernel_rfl) res50_ok rfl rfl rfl ?_; simp (maxSteps := 9999999) (disch := omega) only [go_sem]
    (have k9 := And.intro @sg.ren (And.intro @g0 (k0)); (repeat' (first | refine AWpA.seq ?_ | refine AWpA.block ?_ | (with_reducible refine CondP.tt ?_) | (with_reducible refine CondP.ff ?_) | refine AWpA.cg ?_ | ((first | refine AWpA.rg ?_ | refine AWpA.dg [] [] follows ?_ | refine TailK.tg ?_ | refine AWpA.skip ?_ | refine AWpA.exit ?_ | refine AWpA.ret ?_ | (with_reducible refine ARoundsA.succ ?_) | ((first | refine Runs.gkt (fun h9 => ?_) | refine Runs.gkf (fun h9 => ?_) | refine Runs.gnt (fun h9 => ?_) | refine Runs.gnf (fun h9 => ?_) | refine CondP.gt (fun h9 => ?_) | refine CondP.gf (fun h9 => ?_) | refine CondP.gnt (fun h9 => ?_) | refine CondP.gnf (fun h9 => ?_)); (try simp only [h9]); clear h9)); (try simp (maxSteps := 9999999) (disch := omega) only [go_sem, k9]); (try refine cnd ?_)) | ((first | refine CondP.split (fun hif => ?_) (fun hif => ?_) | refine Runs.part (fun hif => ?_) (fun hif => ?_)) <;> ((try simp only [hif]); (try simp only [BL] at hif); (try (have h9 : _ = true := hif; simp only [h9])); (try (have h9 : _ = false := hif; simp only [h9])); (try simp (maxSteps := 9999999) (disch := omega) only [go_sem, k9]); (try refine cnd ?_); (try (exfalso; omega; done)))))); (all_goals (try clear k9)))
    (apply Ret.det [0]; (focus (first | exact .inl rfl | exact .inr rfl)); (focus (simp (maxSteps := 9999999) (disch := omega) only [go_sem, sg.ren]; rfl)); (simp (maxSteps := 9999999) (disch := omega) only [go_sem, sg.ren]; (try (repeat' (first | done | trivial | rfl | exact leAs_rfl _ | decide | (refine And.intro ?_ ?_) | (simp; done) | omega | (simp; decide))))))
end Go.Proofs.Ythbpdmlbfnjoiaa
