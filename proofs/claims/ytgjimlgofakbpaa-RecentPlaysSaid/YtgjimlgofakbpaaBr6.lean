/- Contracts: marks put into an index, and taken out of it. -/
import Derived.Test.YtgjimlgofakbpaaBr5
namespace Go.Proofs.Ytgjimlgofakbpaa
set_option linter.unusedSimpArgs false
set_option linter.unusedVariables false
set_option maxHeartbeats 4000000
open Go Go.Am Go.RowKit
set_option maxRecDepth 100000
theorem mdrop_any (x : Ix) (k : ByteArray) (hx : x.ok) (hl : x.l.length ≤ 1099511627776) : ACall Try.prog 21 [.ptr 0 0, Str k] [IxO 2 1 x.l, .map false (EsI x.e), .cells false (Rm 0 x.l)] (Det (Bo (getX x.e k).isSome) [IxO 3 1 (dropX x k).l, .map false (EsI (dropX x k).e), .gone, .cells false (Rm 0 (dropX x k).l)]) := by
  have hr := rm_ren 0
  have he := esI_ren
  have c := mget_any x k
  simp only [dropX]
  cases hg : getX x.e k with
  | none =>
    have h1 : dropF x.e k = x.e := dropF_self (getX_none hg)
    have h2 : dropF x.l k = x.l := dropF_self fun a ha => getX_none hg a (hx.perm.mem_iff.2 ha)
    rw [hg] at c
    simp only [Option.getD_none, Option.isSome_none] at c ⊢
    rw [h1, h2]
    clear hg h1 h2
    refine ACall.startA c21_ok Try.func21 rfl Try.ntmps21 (by kernel_rfl) res21_ok rfl rfl rfl ?_; simp (maxSteps := 9999999) (disch := omega) only [go_sem]
    (repeat' (first | refine AWpA.seq ?_ | refine AWpA.block ?_ | (with_reducible refine CondP.tt ?_) | (with_reducible refine CondP.ff ?_) | refine AWpA.condv (by simp (maxSteps := 9999999) (disch := omega) only [go_sem, hr, he]; rfl) ?_ | ((first | (apply AWpA.region; (focus (simp (maxSteps := 9999999) (disch := omega) only [go_sem, hr, he]; rfl))) | (apply AWpA.draw [] [] follows; (focus (first | rfl | decide)); (focus (simp (maxSteps := 9999999) (disch := omega) only [go_sem, hr, he]; rfl)); (focus (simp (maxSteps := 9999999) (disch := omega) only [go_sem, hr, he]; first | done | trivial)); (focus (simp (maxSteps := 9999999) (disch := omega) only [go_sem, hr, he]; rfl))) | (apply TailK.go; (focus (simp (maxSteps := 9999999) (disch := omega) only [go_sem, hr, he]; rfl))) | refine AWpA.skip ?_ | refine AWpA.exit ?_ | refine AWpA.ret ?_ | (with_reducible refine ARoundsA.succ ?_) | ((first | refine Runs.kt (by assumption) (fun h9 => ?_) | refine Runs.kf (by assumption) (fun h9 => ?_) | refine Runs.nt (by assumption) (fun h9 => ?_) | refine Runs.nf (by assumption) (fun h9 => ?_) | refine CondP.ht (by assumption) (fun h9 => ?_) | refine CondP.hf (by assumption) (fun h9 => ?_) | refine CondP.nt (by assumption) (fun h9 => ?_) | refine CondP.nf (by assumption) (fun h9 => ?_)); (try simp only [h9]); clear h9) | ((first | (with_reducible apply CallG.plain1 [0, 1, 2] (c)) | (with_reducible apply CallG.draw1 [0, 1, 2] (c))); (focus ((try refine And.intro (leAs_of_eq rfl) ?_); (try refine And.intro (leOL_of_eq rfl) ?_); simp (maxSteps := 9999999) (disch := omega) only [go_sem, hr, he]; first | done | (repeat' (first | rfl | (refine And.intro ?_ ?_))))); (focus (simp (maxSteps := 9999999) (disch := omega) only [go_sem, hr, he]; rfl)))); (try simp (maxSteps := 9999999) (disch := omega) only [go_sem, hr, he]); (try (refine And.intro ?_ ?_; (focus (first | omega | (simp only [go_sem]; done) | (simp; done) | (simp; omega) | assumption))))) | ((first | refine CondP.split (fun hif => ?_) (fun hif => ?_) | refine Runs.part (fun hif => ?_) (fun hif => ?_)) <;> ((try simp only [hif]); (try simp only [decide_eq_true_eq, decide_eq_false_iff_not, Bool.not_eq_true, Bool.not_eq_false, Bool.not_eq_true', Bool.not_eq_false', beq_iff_eq, bne_iff_ne, bne_eq_false_iff_eq, beq_eq_false_iff_ne, ne_eq, Bool.and_eq_true, Bool.or_eq_true, Bool.or_eq_false_iff] at hif); (try (have h9 : _ = true := hif; simp only [h9])); (try (have h9 : _ = false := hif; simp only [h9])); (try simp (maxSteps := 9999999) (disch := omega) only [go_sem, hr, he]); (try (refine And.intro ?_ ?_; (focus (first | omega | (simp only [go_sem]; done) | (simp; done) | (simp; omega) | assumption)))); (try (exfalso; omega; done))))))
    (apply Ret.det [0, 1, 2, 2]; (focus (first | exact .inl rfl | exact .inr rfl)); (focus (simp (maxSteps := 9999999) (disch := omega) only [go_sem, hr, he]; rfl)); (simp (maxSteps := 9999999) (disch := omega) only [go_sem, hr, he]; (try (repeat' (first | done | trivial | rfl | exact leAs_rfl _ | decide | (refine And.intro ?_ ?_) | (simp; done) | omega | (simp; decide))))))
  | some m =>
    have hm := hx.perm.mem_iff.1 (getX_some hg).1
    obtain rfl := (getX_some hg).2
    obtain ⟨i, hi, him⟩ := List.getElem_of_mem hm
    have p := mplace_any x m hx.rise hl
    have d := deletem_any x.l i hi hl
    rw [drop_ix hx.nod hi] at d
    have hri := rankM_at hx.rise hi
    have hhi := hasM_at hx.rise hi
    rw [him] at d hri hhi
    rw [hri, hhi] at p
    have hdl : x.l.length - 1 = (dropF x.l m.key).length := by
      have := drop_ix hx.nod hi
      rw [him] at this
      rw [← this]; simp; omega
    rw [hdl] at d
    have hk := key_same m.key
    have hdel := del_ix m.key hx.nodE
    rw [hg] at c
    simp only [Option.getD_some, Option.isSome_some] at c ⊢
    generalize dropF x.l m.key = l' at *
    generalize dropF x.e m.key = e' at *
    clear hg hm hri hhi him
    refine ACall.startA c21_ok Try.func21 rfl Try.ntmps21 (by kernel_rfl) res21_ok rfl rfl rfl ?_; simp (maxSteps := 9999999) (disch := omega) only [go_sem]
    (repeat' (first | refine AWpA.seq ?_ | refine AWpA.block ?_ | (with_reducible refine CondP.tt ?_) | (with_reducible refine CondP.ff ?_) | refine AWpA.condv (by simp (maxSteps := 9999999) (disch := omega) only [go_sem, hr, he, hk, hdel]; rfl) ?_ | ((first | (apply AWpA.region; (focus (simp (maxSteps := 9999999) (disch := omega) only [go_sem, hr, he, hk, hdel]; rfl))) | (apply AWpA.draw [] [] follows; (focus (first | rfl | decide)); (focus (simp (maxSteps := 9999999) (disch := omega) only [go_sem, hr, he, hk, hdel]; rfl)); (focus (simp (maxSteps := 9999999) (disch := omega) only [go_sem, hr, he, hk, hdel]; first | done | trivial)); (focus (simp (maxSteps := 9999999) (disch := omega) only [go_sem, hr, he, hk, hdel]; rfl))) | (apply TailK.go; (focus (simp (maxSteps := 9999999) (disch := omega) only [go_sem, hr, he, hk, hdel]; rfl))) | refine AWpA.skip ?_ | refine AWpA.exit ?_ | refine AWpA.ret ?_ | (with_reducible refine ARoundsA.succ ?_) | ((first | refine Runs.kt (by assumption) (fun h9 => ?_) | refine Runs.kf (by assumption) (fun h9 => ?_) | refine Runs.nt (by assumption) (fun h9 => ?_) | refine Runs.nf (by assumption) (fun h9 => ?_) | refine CondP.ht (by assumption) (fun h9 => ?_) | refine CondP.hf (by assumption) (fun h9 => ?_) | refine CondP.nt (by assumption) (fun h9 => ?_) | refine CondP.nf (by assumption) (fun h9 => ?_)); (try simp only [h9]); clear h9) | ((first | (with_reducible apply CallG.plain1 [0, 1, 2] (c)) | (with_reducible apply CallG.draw1 [0, 1, 2] (c))); (focus ((try refine And.intro (leAs_of_eq rfl) ?_); (try refine And.intro (leOL_of_eq rfl) ?_); simp (maxSteps := 9999999) (disch := omega) only [go_sem, hr, he, hk, hdel]; first | done | (repeat' (first | rfl | (refine And.intro ?_ ?_))))); (focus (simp (maxSteps := 9999999) (disch := omega) only [go_sem, hr, he, hk, hdel]; rfl))) | ((first | (with_reducible apply CallG.plain1 [0, 1, 2] (p)) | (with_reducible apply CallG.draw1 [0, 1, 2] (p))); (focus ((try refine And.intro (leAs_of_eq rfl) ?_); (try refine And.intro (leOL_of_eq rfl) ?_); simp (maxSteps := 9999999) (disch := omega) only [go_sem, hr, he, hk, hdel]; first | done | (repeat' (first | rfl | (refine And.intro ?_ ?_))))); (focus (simp (maxSteps := 9999999) (disch := omega) only [go_sem, hr, he, hk, hdel]; rfl))) | ((first | (with_reducible apply CallG.plain1 [2] (d)) | (with_reducible apply CallG.draw1 [2] (d))); (focus ((try refine And.intro (leAs_of_eq rfl) ?_); (try refine And.intro (leOL_of_eq rfl) ?_); simp (maxSteps := 9999999) (disch := omega) only [go_sem, hr, he, hk, hdel]; first | done | (repeat' (first | rfl | (refine And.intro ?_ ?_))))); (focus (simp (maxSteps := 9999999) (disch := omega) only [go_sem, hr, he, hk, hdel]; rfl)))); (try simp (maxSteps := 9999999) (disch := omega) only [go_sem, hr, he, hk, hdel]); (try (refine And.intro ?_ ?_; (focus (first | omega | (simp only [go_sem]; done) | (simp; done) | (simp; omega) | assumption))))) | ((first | refine CondP.split (fun hif => ?_) (fun hif => ?_) | refine Runs.part (fun hif => ?_) (fun hif => ?_)) <;> ((try simp only [hif]); (try simp only [decide_eq_true_eq, decide_eq_false_iff_not, Bool.not_eq_true, Bool.not_eq_false, Bool.not_eq_true', Bool.not_eq_false', beq_iff_eq, bne_iff_ne, bne_eq_false_iff_eq, beq_eq_false_iff_ne, ne_eq, Bool.and_eq_true, Bool.or_eq_true, Bool.or_eq_false_iff] at hif); (try (have h9 : _ = true := hif; simp only [h9])); (try (have h9 : _ = false := hif; simp only [h9])); (try simp (maxSteps := 9999999) (disch := omega) only [go_sem, hr, he, hk, hdel]); (try (refine And.intro ?_ ?_; (focus (first | omega | (simp only [go_sem]; done) | (simp; done) | (simp; omega) | assumption)))); (try (exfalso; omega; done))))))
    (apply Ret.det [0, 1, 2, 451]; (focus (first | exact .inl rfl | exact .inr rfl)); (focus (simp (maxSteps := 9999999) (disch := omega) only [go_sem, hr, he]; rfl)); (simp (maxSteps := 9999999) (disch := omega) only [go_sem, hr, he]; (try (repeat' (first | done | trivial | rfl | exact leAs_rfl _ | decide | (refine And.intro ?_ ?_) | (simp; done) | omega | (simp; decide))))))
theorem mput_any (x : Ix) (m : Mk) (hx : x.ok) (hl : x.l.length ≤ 1099511627776) : ACall Try.prog 19 [.ptr 0 0, MkG m] [IxO 2 1 x.l, .map false (EsI x.e), .cells false (Rm 0 x.l)] (Det (Bo (getX x.e m.key).isSome) [IxO 3 1 (putX x m).l, .map false (EsI (putX x m).e), .gone, .cells false (Rm 0 (putX x m).l)]) := by
  have hr := rm_ren 0
  have he := esI_ren
  have c := mdrop_any x m.key hx hl
  have hd := hx.drop m.key
  have hdl : (dropX x m.key).l.length ≤ x.l.length := dropF_le _ _
  have p := mplace_any (dropX x m.key) m hd.rise (by omega)
  have d := insertm_any (dropX x m.key).l (rankM (dropX x m.key).l m) m (rankM_le _ _) (by omega)
  have hk := key_same m.key
  have hup := upd_ix m (e := (dropX x m.key).e) fun a ha => dropF_key ha
  have e1 : (putX x m).l = (dropX x m.key).l.take (rankM (dropX x m.key).l m) ++ m :: (dropX x m.key).l.drop (rankM (dropX x m.key).l m) := rfl
  have e2 : (putX x m).e = (dropX x m.key).e ++ [m] := rfl
  have e3 : (dropX x m.key).l.length + 1 = (putX x m).l.length := ((perm_insM (dropF x.l m.key) m).length_eq).symm
  rw [← e1, e3] at d
  rw [← e2] at hup
  generalize (getX x.e m.key).isSome = b at *
  generalize putX x m = y at *
  generalize dropX x m.key = z at *
  generalize rankM z.l m = r at *
  generalize hasM z.l m = hb at *
  clear e1 e2 hd
  have hle : z.l.length ≤ 1099511627776 := by omega
  refine ACall.startA c19_ok Try.func19 rfl Try.ntmps19 (by kernel_rfl) res19_ok rfl rfl rfl ?_; simp (maxSteps := 9999999) (disch := omega) only [go_sem]
  (repeat' (first | refine AWpA.seq ?_ | refine AWpA.block ?_ | (with_reducible refine CondP.tt ?_) | (with_reducible refine CondP.ff ?_) | refine AWpA.condv (by simp (maxSteps := 9999999) (disch := omega) only [go_sem, hr, he, hk, hup]; rfl) ?_ | ((first | (apply AWpA.region; (focus (simp (maxSteps := 9999999) (disch := omega) only [go_sem, hr, he, hk, hup]; rfl))) | (apply AWpA.draw [83, 1] [] follows; (focus (first | rfl | decide)); (focus (simp (maxSteps := 9999999) (disch := omega) only [go_sem, hr, he, hk, hup]; rfl)); (focus (simp (maxSteps := 9999999) (disch := omega) only [go_sem, hr, he, hk, hup]; first | done | trivial)); (focus (simp (maxSteps := 9999999) (disch := omega) only [go_sem, hr, he, hk, hup]; rfl))) | (apply TailK.go; (focus (simp (maxSteps := 9999999) (disch := omega) only [go_sem, hr, he, hk, hup]; rfl))) | refine AWpA.skip ?_ | refine AWpA.exit ?_ | refine AWpA.ret ?_ | (with_reducible refine ARoundsA.succ ?_) | ((first | refine Runs.kt (by assumption) (fun h9 => ?_) | refine Runs.kf (by assumption) (fun h9 => ?_) | refine Runs.nt (by assumption) (fun h9 => ?_) | refine Runs.nf (by assumption) (fun h9 => ?_) | refine CondP.ht (by assumption) (fun h9 => ?_) | refine CondP.hf (by assumption) (fun h9 => ?_) | refine CondP.nt (by assumption) (fun h9 => ?_) | refine CondP.nf (by assumption) (fun h9 => ?_)); (try simp only [h9]); clear h9) | ((first | (with_reducible apply CallG.plain1 [0, 1, 2] (c)) | (with_reducible apply CallG.draw1 [0, 1, 2] (c))); (focus ((try refine And.intro (leAs_of_eq rfl) ?_); (try refine And.intro (leOL_of_eq rfl) ?_); simp (maxSteps := 9999999) (disch := omega) only [go_sem, hr, he, hk, hup]; first | done | (repeat' (first | rfl | (refine And.intro ?_ ?_))))); (focus (simp (maxSteps := 9999999) (disch := omega) only [go_sem, hr, he, hk, hup]; rfl))) | ((first | (with_reducible apply CallG.plain1 [0, 1, 83] (p)) | (with_reducible apply CallG.draw1 [0, 1, 83] (p))); (focus ((try refine And.intro (leAs_of_eq rfl) ?_); (try refine And.intro (leOL_of_eq rfl) ?_); simp (maxSteps := 9999999) (disch := omega) only [go_sem, hr, he, hk, hup]; first | done | (repeat' (first | rfl | (refine And.intro ?_ ?_))))); (focus (simp (maxSteps := 9999999) (disch := omega) only [go_sem, hr, he, hk, hup]; rfl))) | ((first | (with_reducible apply CallG.plain1 [83, 355] (d)) | (with_reducible apply CallG.draw1 [83, 355] (d))); (focus ((try refine And.intro (leAs_of_eq rfl) ?_); (try refine And.intro (leOL_of_eq rfl) ?_); simp (maxSteps := 9999999) (disch := omega) only [go_sem, hr, he, hk, hup]; first | done | (repeat' (first | rfl | (refine And.intro ?_ ?_))))); (focus (simp (maxSteps := 9999999) (disch := omega) only [go_sem, hr, he, hk, hup]; rfl)))); (try simp (maxSteps := 9999999) (disch := omega) only [go_sem, hr, he, hk, hup]); (try (refine And.intro ?_ ?_; (focus (first | omega | (simp only [go_sem]; done) | (simp; done) | (simp; omega) | assumption))))) | ((first | refine CondP.split (fun hif => ?_) (fun hif => ?_) | refine Runs.part (fun hif => ?_) (fun hif => ?_)) <;> ((try simp only [hif]); (try simp only [decide_eq_true_eq, decide_eq_false_iff_not, Bool.not_eq_true, Bool.not_eq_false, Bool.not_eq_true', Bool.not_eq_false', beq_iff_eq, bne_iff_ne, bne_eq_false_iff_eq, beq_eq_false_iff_ne, ne_eq, Bool.and_eq_true, Bool.or_eq_true, Bool.or_eq_false_iff] at hif); (try (have h9 : _ = true := hif; simp only [h9])); (try (have h9 : _ = false := hif; simp only [h9])); (try simp (maxSteps := 9999999) (disch := omega) only [go_sem, hr, he, hk, hup]); (try (refine And.intro ?_ ?_; (focus (first | omega | (simp only [go_sem]; done) | (simp; done) | (simp; omega) | assumption)))); (try (exfalso; omega; done))))))
  (apply Ret.det [0, 1, 2, 371]; (focus (first | exact .inl rfl | exact .inr rfl)); (focus (simp (maxSteps := 9999999) (disch := omega) only [go_sem, hr, he]; rfl)); (simp (maxSteps := 9999999) (disch := omega) only [go_sem, hr, he]; (try (repeat' (first | done | trivial | rfl | exact leAs_rfl _ | decide | (refine And.intro ?_ ?_) | (simp; done) | omega | (simp; decide))))))
end Go.Proofs.Ytgjimlgofakbpaa
