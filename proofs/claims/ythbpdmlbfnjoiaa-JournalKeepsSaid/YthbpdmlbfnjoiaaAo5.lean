/- Contracts: a writer's numbers of any width, flags, texts, bytes. -/
import Derived.Test.YthbpdmlbfnjoiaaAo4
namespace Go.Proofs.Ythbpdmlbfnjoiaa
set_option linter.unusedSimpArgs false
set_option linter.unusedVariables false
set_option maxHeartbeats 4000000
open Go Go.Am
set_option maxRecDepth 100000
/- (*quidnunc/octets.Writer).Raw -/
noncomputable def c54_1 : ACode := .region false [⟨some 4, .move, [.c (.val (.pointer none))], none⟩] [] [] [0, 1] false [] []
noncomputable def c54_3 : ACode := .region false [⟨some 5, .move, [.t 0], none⟩,
  ⟨some 6, .move, [.t 1], none⟩,
  ⟨some 7, .call 73, [.t 5, .t 6], none⟩,
  ⟨some 4, .move, [.t 7], none⟩] [] [] [4] true [] []
noncomputable def c54_2 : ACode := .seq c54_3 .ret
noncomputable def c54_0 : ACode := .seq c54_1 c54_2
noncomputable def code54 : Code := (Try.f54.body).getD .skip
theorem c54_ok : compC Try.prog 8 code54 = some (strip c54_0) := by kernel_rfl
theorem res54_ok : Try.f54.results.toList.mapM (resC Try.prog) = some [(4, none)] := by kernel_rfl
theorem wfail_w (l : List Int) (err e : Int) : ACall Try.prog 69 [.ptr 0 1, I e] [WrO 1 l.length err, .cells false (bA l)] (Det (.tup []) [WrO 1 l.length (failI err e), .cells false (bA l)]) := by
  refine ACall.startA c69_ok Try.func69 rfl Try.ntmps69 (by kernel_rfl) res69_ok rfl rfl rfl ?_; simp (maxSteps := 9999999) (disch := omega) only [go_sem]
  (have k9 := k0; (repeat' (first | refine AWpA.seq ?_ | refine AWpA.block ?_ | (with_reducible refine CondP.tt ?_) | (with_reducible refine CondP.ff ?_) | refine AWpA.cg ?_ | ((first | refine AWpA.rg ?_ | refine AWpA.dg [] [] follows ?_ | refine TailK.tg ?_ | refine AWpA.skip ?_ | refine AWpA.exit ?_ | refine AWpA.ret ?_ | (with_reducible refine ARoundsA.succ ?_) | ((first | refine Runs.gkt (fun h9 => ?_) | refine Runs.gkf (fun h9 => ?_) | refine Runs.gnt (fun h9 => ?_) | refine Runs.gnf (fun h9 => ?_) | refine CondP.gt (fun h9 => ?_) | refine CondP.gf (fun h9 => ?_) | refine CondP.gnt (fun h9 => ?_) | refine CondP.gnf (fun h9 => ?_)); (try simp only [h9]); clear h9)); (try simp (maxSteps := 9999999) (disch := omega) only [go_sem, k9]); (try refine cnd ?_)) | ((first | refine CondP.split (fun hif => ?_) (fun hif => ?_) | refine Runs.part (fun hif => ?_) (fun hif => ?_)) <;> ((try simp only [hif]); (try simp only [BL] at hif); (try (have h9 : _ = true := hif; simp only [h9])); (try (have h9 : _ = false := hif; simp only [h9])); (try simp (maxSteps := 9999999) (disch := omega) only [go_sem, k9]); (try refine cnd ?_); (try (exfalso; omega; done)))))); (all_goals (try clear k9)))
  all_goals
    (apply Ret.det [0, 1]; (focus (first | exact .inl rfl | exact .inr rfl)); (focus (simp (maxSteps := 9999999) (disch := omega) only [go_sem]; rfl)); (simp (maxSteps := 9999999) (disch := omega) only [go_sem]; (try (repeat' (first | done | trivial | rfl | exact leAs_rfl _ | decide | (refine And.intro ?_ ?_) | (simp; done) | omega | (simp; decide))))))
    all_goals (simp [failI, *])
def wideB (w : Int) : Bool := decide (0 < w ∧ w < 9)
def numE (v w err : Int) : Int := cond (wideB w) (cond (fitsI v w) err (failI err 2)) (failI err 1)
def numL (v w err : Int) (l : List Int) : List Int := cond (wideB w && fitsI v w) (wput err l (leI v w.toNat)) l
theorem number_any (l : List Int) (hl : l.length ≤ 1099511627776) (err v w : Int) (h0 : 0 ≤ v ∧ v < 18446744073709551616) : ACall Try.prog 52 [.ptr 0 0, .val (.int .u64 v), I w] [WrO 1 l.length err, .cells false (bA l)] (Det (.ptr 0 0) [WrO 2 (numL v w err l).length (numE v w err), .gone, .cells false (bA (numL v w err l))]) := by
  by_cases hw : 0 < w ∧ w < 9
  · cases hf : fitsI v w with
    | true =>
      have e1 : numL v w err l = wput err l (leI v w.toNat) := by simp [numL, wideB, hw, hf]
      have e2 : numE v w err = err := by simp [numE, wideB, hw, hf]
      rw [e1, e2]
      have h8 : w = 1 ∨ w = 2 ∨ w = 3 ∨ w = 4 ∨ w = 5 ∨ w = 6 ∨ w = 7 ∨ w = 8 := by omega
      rcases h8 with rfl | rfl | rfl | rfl | rfl | rfl | rfl | rfl
      · exact num1 l hl err v h0 hf
      · exact num2 l hl err v h0 hf
      · exact num3 l hl err v h0 hf
      · exact num4 l hl err v h0 hf
      · exact num5 l hl err v h0 hf
      · exact num6 l hl err v h0 hf
      · exact num7 l hl err v h0 hf
      · exact num8 l hl err v h0 hf
    | false =>
      have e1 : numL v w err l = l := by simp [numL, hf]
      have e2 : numE v w err = failI err 2 := by simp [numE, wideB, hw, hf]
      rw [e1, e2]
      have h1 : (w < 1) = False := eq_false (by omega)
      have h2 : (8 < w) = False := eq_false (by omega)
      refine ACall.startA c52_ok Try.func52 rfl Try.ntmps52 (by kernel_rfl) res52_ok rfl rfl rfl ?_; simp (maxSteps := 9999999) (disch := omega) only [go_sem]
      (have k9 := And.intro @h1 (And.intro @h2 (And.intro @hf (k0))); (repeat' (first | refine AWpA.seq ?_ | refine AWpA.block ?_ | (with_reducible refine CondP.tt ?_) | (with_reducible refine CondP.ff ?_) | refine AWpA.cg ?_ | ((first | refine AWpA.rg ?_ | refine AWpA.dg [] [] follows ?_ | refine TailK.tg ?_ | refine AWpA.skip ?_ | refine AWpA.exit ?_ | refine AWpA.ret ?_ | (with_reducible refine ARoundsA.succ ?_) | ((first | refine Runs.gkt (fun h9 => ?_) | refine Runs.gkf (fun h9 => ?_) | refine Runs.gnt (fun h9 => ?_) | refine Runs.gnf (fun h9 => ?_) | refine CondP.gt (fun h9 => ?_) | refine CondP.gf (fun h9 => ?_) | refine CondP.gnt (fun h9 => ?_) | refine CondP.gnf (fun h9 => ?_)); (try simp only [h9]); clear h9) | refine CallG.pg [] (fits_any v w h0 hw.1 hw.2) ?_ | refine CallG.pg [0, 1] (wfail_w l err 2) ?_ | refine CallG.dg [] (fits_any v w h0 hw.1 hw.2) ?_ | refine CallG.dg [0, 1] (wfail_w l err 2) ?_); (try simp (maxSteps := 9999999) (disch := omega) only [go_sem, k9]); (try refine cnd ?_)) | ((first | refine CondP.split (fun hif => ?_) (fun hif => ?_) | refine Runs.part (fun hif => ?_) (fun hif => ?_)) <;> ((try simp only [hif]); (try simp only [BL] at hif); (try (have h9 : _ = true := hif; simp only [h9])); (try (have h9 : _ = false := hif; simp only [h9])); (try simp (maxSteps := 9999999) (disch := omega) only [go_sem, k9]); (try refine cnd ?_); (try (exfalso; omega; done)))))); (all_goals (try clear k9)))
      all_goals (apply Ret.det [0, 1, 1]; (focus (first | exact .inl rfl | exact .inr rfl)); (focus (simp (maxSteps := 9999999) (disch := omega) only [go_sem]; rfl)); (simp (maxSteps := 9999999) (disch := omega) only [go_sem]; (try (repeat' (first | done | trivial | rfl | exact leAs_rfl _ | decide | (refine And.intro ?_ ?_) | (simp; done) | omega | (simp; decide))))))
  · have e1 : numL v w err l = l := by simp [numL, wideB, hw]
    have e2 : numE v w err = failI err 1 := by simp [numE, wideB, hw]
    rw [e1, e2]
    refine ACall.startA c52_ok Try.func52 rfl Try.ntmps52 (by kernel_rfl) res52_ok rfl rfl rfl ?_; simp (maxSteps := 9999999) (disch := omega) only [go_sem]
    (have k9 := k0; (repeat' (first | refine AWpA.seq ?_ | refine AWpA.block ?_ | (with_reducible refine CondP.tt ?_) | (with_reducible refine CondP.ff ?_) | refine AWpA.cg ?_ | ((first | refine AWpA.rg ?_ | refine AWpA.dg [] [] follows ?_ | refine TailK.tg ?_ | refine AWpA.skip ?_ | refine AWpA.exit ?_ | refine AWpA.ret ?_ | (with_reducible refine ARoundsA.succ ?_) | ((first | refine Runs.gkt (fun h9 => ?_) | refine Runs.gkf (fun h9 => ?_) | refine Runs.gnt (fun h9 => ?_) | refine Runs.gnf (fun h9 => ?_) | refine CondP.gt (fun h9 => ?_) | refine CondP.gf (fun h9 => ?_) | refine CondP.gnt (fun h9 => ?_) | refine CondP.gnf (fun h9 => ?_)); (try simp only [h9]); clear h9) | refine CallG.pg [0, 1] (wfail_w l err 1) ?_ | refine CallG.dg [0, 1] (wfail_w l err 1) ?_); (try simp (maxSteps := 9999999) (disch := omega) only [go_sem, k9]); (try refine cnd ?_)) | ((first | refine CondP.split (fun hif => ?_) (fun hif => ?_) | refine Runs.part (fun hif => ?_) (fun hif => ?_)) <;> ((try simp only [hif]); (try simp only [BL] at hif); (try (have h9 : _ = true := hif; simp only [h9])); (try (have h9 : _ = false := hif; simp only [h9])); (try simp (maxSteps := 9999999) (disch := omega) only [go_sem, k9]); (try refine cnd ?_); (try (exfalso; omega; done)))))); (all_goals (try clear k9)))
    all_goals (first | (exfalso; omega) | skip)
    all_goals (apply Ret.det [0, 1, 1]; (focus (first | exact .inl rfl | exact .inr rfl)); (focus (simp (maxSteps := 9999999) (disch := omega) only [go_sem]; rfl)); (simp (maxSteps := 9999999) (disch := omega) only [go_sem]; (try (repeat' (first | done | trivial | rfl | exact leAs_rfl _ | decide | (refine And.intro ?_ ?_) | (simp; done) | omega | (simp; decide))))))
theorem raw1_any (l : List Int) (hl : l.length ≤ 1099511627776) (err : Int) {P1 : List AV} {o1 : Nat} {l1 : List Int} (s1 : Seg P1 o1 l1) : ACall Try.prog 54 [.ptr 0 0, .sl 2 0 1 1 none] [WrO 1 l.length err, .cells false (bA l), .cells true [.sl 3 o1 l1.length 1 none], .cells true P1] (Det (.ptr 0 0) [WrO 4 (wput err l l1).length err, .gone, .cells true [.sl 3 o1 l1.length 1 none], .cells true P1, .cells false (bA (wput err l l1))]) := by
  refine ACall.startA c54_ok Try.func54 rfl Try.ntmps54 (by kernel_rfl) res54_ok rfl rfl rfl ?_; simp (maxSteps := 9999999) (disch := omega) only [go_sem]
  (have k9 := And.intro @s1.ren (k0); (repeat' (first | refine AWpA.seq ?_ | refine AWpA.block ?_ | (with_reducible refine CondP.tt ?_) | (with_reducible refine CondP.ff ?_) | refine AWpA.cg ?_ | ((first | refine AWpA.rg ?_ | refine AWpA.dg [] [] follows ?_ | refine TailK.tg ?_ | refine AWpA.skip ?_ | refine AWpA.exit ?_ | refine AWpA.ret ?_ | (with_reducible refine ARoundsA.succ ?_) | ((first | refine Runs.gkt (fun h9 => ?_) | refine Runs.gkf (fun h9 => ?_) | refine Runs.gnt (fun h9 => ?_) | refine Runs.gnf (fun h9 => ?_) | refine CondP.gt (fun h9 => ?_) | refine CondP.gf (fun h9 => ?_) | refine CondP.gnt (fun h9 => ?_) | refine CondP.gnf (fun h9 => ?_)); (try simp only [h9]); clear h9) | refine CallG.pg [0, 1, 2, 3] (put1_any l hl err s1) ?_ | refine CallG.dg [0, 1, 2, 3] (put1_any l hl err s1) ?_); (try simp (maxSteps := 9999999) (disch := omega) only [go_sem, k9]); (try refine cnd ?_)) | ((first | refine CondP.split (fun hif => ?_) (fun hif => ?_) | refine Runs.part (fun hif => ?_) (fun hif => ?_)) <;> ((try simp only [hif]); (try simp only [BL] at hif); (try (have h9 : _ = true := hif; simp only [h9])); (try (have h9 : _ = false := hif; simp only [h9])); (try simp (maxSteps := 9999999) (disch := omega) only [go_sem, k9]); (try refine cnd ?_); (try (exfalso; omega; done)))))); (all_goals (try clear k9)))
  (apply Ret.det [0, 1, 2, 3, _]; (focus (first | exact .inl rfl | exact .inr rfl)); (focus (simp (maxSteps := 9999999) (disch := omega) only [go_sem, s1.ren]; rfl)); (simp (maxSteps := 9999999) (disch := omega) only [go_sem, s1.ren]; (try (repeat' (first | done | trivial | rfl | exact leAs_rfl _ | decide | (refine And.intro ?_ ?_) | (simp; done) | omega | (simp; decide))))))
theorem raw3_any (l : List Int) (hl : l.length ≤ 1099511627776) (err : Int) {P1 : List AV} {o1 : Nat} {l1 : List Int} (s1 : Seg P1 o1 l1) {P2 : List AV} {o2 : Nat} {l2 : List Int} (s2 : Seg P2 o2 l2) {P3 : List AV} {o3 : Nat} {l3 : List Int} (s3 : Seg P3 o3 l3) : ACall Try.prog 54 [.ptr 0 0, .sl 2 0 3 1 none] [WrO 1 l.length err, .cells false (bA l), .cells true [.sl 3 o1 l1.length 1 none, .sl 4 o2 l2.length 1 none, .sl 5 o3 l3.length 1 none], .cells true P1, .cells true P2, .cells true P3] (Det (.ptr 0 0) [WrO 6 (wput err l ((l1 ++ l2) ++ l3)).length err, .gone, .cells true [.sl 3 o1 l1.length 1 none, .sl 4 o2 l2.length 1 none, .sl 5 o3 l3.length 1 none], .cells true P1, .cells true P2, .cells true P3, .cells false (bA (wput err l ((l1 ++ l2) ++ l3)))]) := by
  refine ACall.startA c54_ok Try.func54 rfl Try.ntmps54 (by kernel_rfl) res54_ok rfl rfl rfl ?_; simp (maxSteps := 9999999) (disch := omega) only [go_sem]
  (have k9 := And.intro @s1.ren (And.intro @s2.ren (And.intro @s3.ren (k0))); (repeat' (first | refine AWpA.seq ?_ | refine AWpA.block ?_ | (with_reducible refine CondP.tt ?_) | (with_reducible refine CondP.ff ?_) | refine AWpA.cg ?_ | ((first | refine AWpA.rg ?_ | refine AWpA.dg [] [] follows ?_ | refine TailK.tg ?_ | refine AWpA.skip ?_ | refine AWpA.exit ?_ | refine AWpA.ret ?_ | (with_reducible refine ARoundsA.succ ?_) | ((first | refine Runs.gkt (fun h9 => ?_) | refine Runs.gkf (fun h9 => ?_) | refine Runs.gnt (fun h9 => ?_) | refine Runs.gnf (fun h9 => ?_) | refine CondP.gt (fun h9 => ?_) | refine CondP.gf (fun h9 => ?_) | refine CondP.gnt (fun h9 => ?_) | refine CondP.gnf (fun h9 => ?_)); (try simp only [h9]); clear h9) | refine CallG.pg [0, 1, 2, 3, 4, 5] (put3_any l hl err s1 s2 s3) ?_ | refine CallG.dg [0, 1, 2, 3, 4, 5] (put3_any l hl err s1 s2 s3) ?_); (try simp (maxSteps := 9999999) (disch := omega) only [go_sem, k9]); (try refine cnd ?_)) | ((first | refine CondP.split (fun hif => ?_) (fun hif => ?_) | refine Runs.part (fun hif => ?_) (fun hif => ?_)) <;> ((try simp only [hif]); (try simp only [BL] at hif); (try (have h9 : _ = true := hif; simp only [h9])); (try (have h9 : _ = false := hif; simp only [h9])); (try simp (maxSteps := 9999999) (disch := omega) only [go_sem, k9]); (try refine cnd ?_); (try (exfalso; omega; done)))))); (all_goals (try clear k9)))
  (apply Ret.det [0, 1, 2, 3, 4, 5, _]; (focus (first | exact .inl rfl | exact .inr rfl)); (focus (simp (maxSteps := 9999999) (disch := omega) only [go_sem, s1.ren, s2.ren, s3.ren]; rfl)); (simp (maxSteps := 9999999) (disch := omega) only [go_sem, s1.ren, s2.ren, s3.ren]; (try (repeat' (first | done | trivial | rfl | exact leAs_rfl _ | decide | (refine And.intro ?_ ?_) | (simp; done) | omega | (simp; decide))))))
/-- A text's bytes. -/
def txI (s : ByteArray) : List Int := s.data.toList.map fun b => (b.toNat : Int)
theorem txI_len (s : ByteArray) : (txI s).length = s.size := by simp [txI]
theorem txI_str (s : ByteArray) : strCells s = bA (txI s) := by simp [strCells, txI, bA]
def textE (s : ByteArray) (err : Int) : Int := cond (decide (255 < s.size)) (failI err 2) err
def textL (s : ByteArray) (err : Int) (l : List Int) : List Int := cond (decide (255 < s.size)) l (wput err l ((s.size : Int) :: txI s))
end Go.Proofs.Ythbpdmlbfnjoiaa
