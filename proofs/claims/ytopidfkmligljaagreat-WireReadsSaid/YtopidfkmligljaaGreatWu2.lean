/- Contract: messages that are the same, as the document says. -/
import Derived.Test.YtopidfkmligljaaGreatWq3
namespace Go.Proofs.YtopidfkmligljaaGreat
set_option linter.unusedSimpArgs false
set_option linter.unusedVariables false
set_option maxHeartbeats 4000000
open Go Go.Am Go.RowKit
set_option maxRecDepth 100000
set_option maxHeartbeats 8000000

theorem rsame16_any (x y : Wm) (a b c d e f : Nat) (hx : x.peers.length ≤ 1099511627776 ∧ x.marks.length ≤ 1099511627776 ∧ x.ents.length ≤ 1099511627776) (hy : y.peers.length ≤ 1099511627776 ∧ y.marks.length ≤ 1099511627776 ∧ y.ents.length ≤ 1099511627776) :
    ACall Tryz.prog 10 [WmA x 0 a 1 b 2 c, WmA y 3 d 4 e 5 f] [.cells true (Ri a x.peers), .cells true (Rm b x.marks), .cells true (Re c x.ents), .cells true (Ri d y.peers), .cells true (Rm e y.marks), .cells true (Re f y.ents)]
      (Det (Bo (sameW x y)) [.cells true (Ri a x.peers), .cells true (Rm b x.marks), .cells true (Re c x.ents), .cells true (Ri d y.peers), .cells true (Rm e y.marks), .cells true (Re f y.ents)]) := by
  have hi := ri_ren
  have hm := rm_ren
  have he := re_ren
  have c1 := rpeers_any a d x.peers y.peers hx.1 hy.1
  have c2 := same10_any b e x.marks y.marks hx.2.1 hy.2.1
  have c3 := rents_any c f x.ents y.ents hx.2.2 hy.2.2
  obtain ⟨x1, x2, x3, x4, x5, x6, x7, ⟨⟨x8, x9⟩, x10⟩, x11, x12⟩ := x
  obtain ⟨y1, y2, y3, y4, y5, y6, y7, ⟨⟨y8, y9⟩, y10⟩, y11, y12⟩ := y
  unfold sameW
  simp only at c1 c2 c3 ⊢
  clear hx hy
  generalize decide (x5 = y5) = b1 at *
  generalize decide (x11 = y11) = b2 at *
  generalize decide (x12 = y12) = b3 at *
  refine ACall.startA c10_ok Tryz.func10 rfl Tryz.ntmps10 (by kernel_rfl) res10_ok rfl rfl rfl ?_; simp (maxSteps := 9999999) (disch := omega) only [go_sem]
  (have k9 := And.intro @hi (And.intro @hm (And.intro @he (k0))); (repeat' (first | refine AWpA.seq ?_ | refine AWpA.block ?_ | (with_reducible refine CondP.tt ?_) | (with_reducible refine CondP.ff ?_) | refine AWpA.cg ?_ | ((first | refine AWpA.rg ?_ | refine AWpA.dg [] [] follows ?_ | refine TailK.tg ?_ | refine AWpA.skip ?_ | refine AWpA.exit ?_ | refine AWpA.ret ?_ | (with_reducible refine ARoundsA.succ ?_) | ((first | refine Runs.gkt (fun h9 => ?_) | refine Runs.gkf (fun h9 => ?_) | refine Runs.gnt (fun h9 => ?_) | refine Runs.gnf (fun h9 => ?_) | refine CondP.gt (fun h9 => ?_) | refine CondP.gf (fun h9 => ?_) | refine CondP.gnt (fun h9 => ?_) | refine CondP.gnf (fun h9 => ?_)); (try simp only [h9]); clear h9) | refine CallG.pg [0, 3] (c1) ?_ | refine CallG.pg [1, 4] (c2) ?_ | refine CallG.pg [2, 5] (c3) ?_ | refine CallG.dg [0, 3] (c1) ?_ | refine CallG.dg [1, 4] (c2) ?_ | refine CallG.dg [2, 5] (c3) ?_); (try simp (maxSteps := 9999999) (disch := omega) only [go_sem, k9]); (try refine cnd ?_)) | ((first | refine CondP.split (fun hif => ?_) (fun hif => ?_) | refine Runs.part (fun hif => ?_) (fun hif => ?_)) <;> ((try simp only [hif]); (try simp only [BL] at hif); (try (have h9 : _ = true := hif; simp only [h9])); (try (have h9 : _ = false := hif; simp only [h9])); (try simp (maxSteps := 9999999) (disch := omega) only [go_sem, k9]); (try refine cnd ?_); (try (exfalso; omega; done)))))); (all_goals (try clear k9)))
  all_goals (apply Ret.det [0, 1, 2, 3, 4, 5]; (focus (first | exact .inl rfl | exact .inr rfl)); (focus (simp (maxSteps := 9999999) (disch := omega) only [go_sem, hi, hm, he]; rfl)); (simp (maxSteps := 9999999) (disch := omega) only [go_sem, hi, hm, he]; (try (repeat' (first | done | trivial | rfl | exact leAs_rfl _ | decide | (refine And.intro ?_ ?_) | (simp; done) | omega | (simp; decide))))))
  all_goals (simp [*])
end Go.Proofs.YtopidfkmligljaaGreat
