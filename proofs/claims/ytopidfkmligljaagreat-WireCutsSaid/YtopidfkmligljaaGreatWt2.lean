/- Contract: the document's fields. -/
import Derived.Test.YtopidfkmligljaaGreatWt1
namespace Go.Proofs.YtopidfkmligljaaGreat
set_option linter.unusedSimpArgs false
set_option linter.unusedVariables false
set_option maxHeartbeats 4000000
open Go Go.Am Go.RowKit
set_option maxRecDepth 100000
set_option maxHeartbeats 8000000
theorem fields_any (m : Wm) (a b c : Nat) : ACall Tryz.prog 44 [WmA m 0 a 1 b 2 c] [.cells true (Ri a m.peers), .cells true (Rm b m.marks), .cells true (Re c m.ents)] (Det (Bo (bareW m)) [.cells true (Ri a m.peers), .cells true (Rm b m.marks), .cells true (Re c m.ents)]) := by
  have hi := ri_ren
  have hm := rm_ren
  have he := re_ren
  have h0 := has0_any m.kind
  have h2 := has2_any m.kind
  have h3 := has3_any m.kind
  have h4 := has4_any m.kind
  have h5 := has5_any m.kind
  have h6 := has6_any m.kind
  unfold bareW
  rw [← mkE_dec]
  have hd : decide (m.peers.length = 0) = !decide ((0 : Int) < (m.peers.length : Int)) := by
    rw [Bool.eq_iff_iff]
    simp
  rw [hd]
  generalize hasF m.kind 0 = b0 at *
  generalize hasF m.kind 2 = b2 at *
  generalize hasF m.kind 3 = b3 at *
  generalize hasF m.kind 4 = b4 at *
  generalize hasF m.kind 5 = b5 at *
  generalize hasF m.kind 6 = b6 at *
  refine ACall.startA c44_ok Tryz.func44 rfl Tryz.ntmps44 (by kernel_rfl) res44_ok rfl rfl rfl ?_; simp (maxSteps := 9999999) (disch := omega) only [go_sem]
  (have k9 := And.intro @hi (And.intro @hm (And.intro @he (k0))); (repeat' (first | refine AWpA.seq ?_ | refine AWpA.block ?_ | (with_reducible refine CondP.tt ?_) | (with_reducible refine CondP.ff ?_) | refine AWpA.cg ?_ | ((first | refine AWpA.rg ?_ | refine AWpA.dg [] [] follows ?_ | refine TailK.tg ?_ | refine AWpA.skip ?_ | refine AWpA.exit ?_ | refine AWpA.ret ?_ | (with_reducible refine ARoundsA.succ ?_) | ((first | refine Runs.gkt (fun h9 => ?_) | refine Runs.gkf (fun h9 => ?_) | refine Runs.gnt (fun h9 => ?_) | refine Runs.gnf (fun h9 => ?_) | refine CondP.gt (fun h9 => ?_) | refine CondP.gf (fun h9 => ?_) | refine CondP.gnt (fun h9 => ?_) | refine CondP.gnf (fun h9 => ?_)); (try simp only [h9]); clear h9) | refine CallG.pg [] (h0) ?_ | refine CallG.pg [] (h2) ?_ | refine CallG.pg [] (h3) ?_ | refine CallG.pg [] (h4) ?_ | refine CallG.pg [] (h5) ?_ | refine CallG.pg [] (h6) ?_ | refine CallG.dg [] (h0) ?_ | refine CallG.dg [] (h2) ?_ | refine CallG.dg [] (h3) ?_ | refine CallG.dg [] (h4) ?_ | refine CallG.dg [] (h5) ?_ | refine CallG.dg [] (h6) ?_); (try simp (maxSteps := 9999999) (disch := omega) only [go_sem, k9]); (try refine cnd ?_)) | ((first | refine CondP.split (fun hif => ?_) (fun hif => ?_) | refine Runs.part (fun hif => ?_) (fun hif => ?_)) <;> ((try simp only [hif]); (try simp only [BL] at hif); (try (have h9 : _ = true := hif; simp only [h9])); (try (have h9 : _ = false := hif; simp only [h9])); (try simp (maxSteps := 9999999) (disch := omega) only [go_sem, k9]); (try refine cnd ?_); (try (exfalso; omega; done)))))); (all_goals (try clear k9)))
  all_goals (apply Ret.det [0, 1, 2]; (focus (first | exact .inl rfl | exact .inr rfl)); (focus (simp (maxSteps := 9999999) (disch := omega) only [go_sem, hi, hm, he]; rfl)); (simp (maxSteps := 9999999) (disch := omega) only [go_sem, hi, hm, he]; (try (repeat' (first | done | trivial | rfl | exact leAs_rfl _ | decide | (refine And.intro ?_ ?_) | (simp; done) | omega | (simp; decide))))))
  all_goals (simp [*])
end Go.Proofs.YtopidfkmligljaaGreat
