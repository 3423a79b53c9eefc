/- The walk of JournalKeeps. -/
import Derived.Test.YthbpdmlbfnjoiaaJe1
namespace Go.Proofs.Ythbpdmlbfnjoiaa
set_option linter.unusedSimpArgs false
set_option linter.unusedVariables false
set_option maxHeartbeats 4000000
open Go Go.Am Go.RowKit Go.ChangeShapes Go.WideShapes Go.ChangeAt Go.Crc
set_option linter.unusedSimpArgs false
set_option maxHeartbeats 4000000
set_option maxRecDepth 100000
theorem crash_ok {d : Dk} (h : d.ok) (keep : Int) : (crashF d keep).ok := by
  have h1 := h.s
  have h2 := h.l
  have h3 : d.s + crashN d keep ≤ d.l.length := by unfold crashN; omega
  refine ⟨?_, ?_, show (-1 : Int) ≤ -1 by decide, show (-1 : Int) ≤ 9223372036854775807 by decide⟩
  · unfold crashF; simp only [List.length_take]; omega
  · unfold crashF; simp only [List.length_take]; omega
theorem crash_DG (g : List (List Int)) : crashF (DG g) 0 = DG g := by
  unfold crashF crashN
  simp
theorem zz_ren (G : List (List Int)) (off : Nat) (ρ : List Nat) : renL ρ (List.replicate off .any ++ rowsB G) = List.replicate off .any ++ rowsB G := by rw [renL_append, renL_any, rowsB_ren]
theorem zz_seg (G : List (List Int)) (off : Nat) : ((List.replicate off AV.any ++ rowsB G).drop off).take G.length = rowsB G := by
  rw [List.drop_append_of_le_length (by simp), List.drop_eq_nil_of_le (by simp), List.nil_append, rowsB_take, List.take_length]
theorem zz_at {G : List (List Int)} {i : Nat} (h : i < G.length) (off : Nat) : (List.replicate off AV.any ++ rowsB G).getD (off + i) .bad = fzB G[i] := by
  rw [List.getD_eq_getElem?_getD, List.getElem?_append_right (by simp), List.length_replicate, Nat.add_sub_cancel_left, ← List.getD_eq_getElem?_getD, rowsB_getD h]
theorem jkeeps_rest (W : World) {g : List (List Int)} {b : List Int} {d : Dk} (hk : Kp g b d) (hgg : ∀ l ∈ g, goodR l) (hg20 : g.length ≤ 20) (keep : Int) {more : List Int} (hm6 : more.length ≤ 600) (hbm : ∀ c ∈ more, 0 ≤ c ∧ c ≤ 255) :
    AWpA Try.prog 187 (topN W) c12_60 (TopPost [(8, none)])
      (Am.mk [(2, I keep), (3, fzB more), (9, .ptr 0 0), (13, .sl 2 0 g.length 1 none), (14, fzB b)] none0 (zipI 0 [DkO 1 d, .cells false (bA d.l), .cells false (rowsB g)]) gone0 [DkO 1 d, .cells false (bA d.l), .cells false (rowsB g)].length) := by
  obtain ⟨G, hG, e1, e2, e3, e4, e5⟩ := hk.crash hgg keep
  have hdl := hk.ok.l
  have c1 := dcrash_any d hk.ok keep
  have o1 := opens_ok (crashF d keep) (crash_ok hk.ok keep) rfl e4 e1
  rw [e2, e3] at o1
  generalize crashF d keep = D at *
  generalize crashN d keep = N at *
  have hGg : ∀ l ∈ G, goodR l := by
    rcases hG with rfl | ⟨rfl, hb⟩
    · exact hgg
    · intro l hl
      rcases List.mem_append.1 hl with hl | hl
      · exact hgg l hl
      · simp only [List.mem_singleton] at hl; subst hl; exact hb
  have hGl : G.length = g.length ∨ G.length = g.length + 1 := by
    rcases hG with rfl | ⟨rfl, hb⟩
    · exact .inl rfl
    · right; simp
  have htk : G.take g.length = g := by
    rcases hG with rfl | ⟨rfl, hb⟩
    · exact List.take_length
    · exact List.take_left
  have hgb : ∀ r ∈ g, ∀ x ∈ r, 0 ≤ x ∧ x ≤ 255 := fun r hr => (hgg r hr).2
  have hGb : ∀ r ∈ G, ∀ x ∈ r, 0 ≤ x ∧ x ≤ 255 := fun r hr => (hGg r hr).2
  have hcb := catR_bound hGg
  have sm : ∀ off, ACall Try.prog 30 [.sl 0 off g.length 1 none, .sl 1 0 g.length 1 none] [.cells true (List.replicate off .any ++ rowsB G), .cells true (rowsB g)] (Det (Bo true) [.cells true (List.replicate off .any ++ rowsB G), .cells true (rowsB g)]) := fun off => by
    have s1 := (SegR.zz off (l := G) (by omega)).takeS g.length (by omega)
    rw [htk] at s1
    have := jsame_any s1 (SegR.all g (by omega)) hgb hgb
    rwa [decide_eq_true rfl] at this
  have n1 := jlen_any G.length
  have k1 := rchk_any more (by omega)
  have ha := jadd_any (DG G) (DG_ok (by omega)) more G.length (by omega) (by omega) hbm
  obtain ⟨p1, p2⟩ := add_good (g := G) (b := more) (by omega)
  rw [p1, p2] at ha
  clear e1 e2 e3 e4 e5 hk p1 p2
  by_cases hr : recE more = 0
  · simp only [if_pos hr, hr] at ha
    have hMg : ∀ l ∈ G ++ [more], goodR l := fun l hl => by
      rcases List.mem_append.1 hl with hl | hl
      · exact hGg l hl
      · simp only [List.mem_singleton] at hl; subst hl; exact ⟨hr, hbm⟩
    have hMb : ∀ r ∈ G ++ [more], ∀ x ∈ r, 0 ≤ x ∧ x ≤ 255 := fun r hr => (hMg r hr).2
    have hMe : ∀ l ∈ G ++ [more], recE l = 0 := fun l hl => (hMg l hl).1
    have hMc := catR_bound hMg
    rw [List.length_append, List.length_singleton] at hMc
    have c3 := dcrash_any (DG (G ++ [more])) (DG_ok (by omega)) 0
    rw [crash_DG] at c3
    obtain ⟨q1, q2, q3⟩ := open_good hMe
    have o3 := opens_ok (DG (G ++ [more])) (DG_ok (by omega)) rfl (catR_bytes hMg) q1
    rw [q2, q3] at o3
    have s3 := same_fs (l := G ++ [more]) (m := G ++ [more]) (by rw [List.length_append, List.length_singleton]; omega) (SegR.all (G ++ [more]) (by rw [List.length_append, List.length_singleton]; omega)) hMb hMb
    rw [decide_eq_true rfl] at s3
    have hlG : (G ++ [more]).length = G.length + 1 := by simp
    rw [hlG] at s3 o3
    simp only [FL, hlG] at s3 o3
    clear q1 q2 q3 hMg hMb hMe
    generalize crashN (DG (G ++ [more])) 0 = N3 at *
    rcases hG with rfl | ⟨hGe, hb⟩
    · have g1 : ((G.length : Int) < (G.length : Int)) = False := eq_false (by omega)
      have g2 : ((G.length : Int) + 1 < (G.length : Int)) = False := eq_false (by omega)
      by_cases h0 : G.length = 0
      · have g3 : (G.length ≤ 0) = True := eq_true (by omega)
        (try simp (maxSteps := 9999999) (disch := omega) only [go_sem])
        (have k9 := And.intro @g1 (And.intro @g2 (And.intro @g3 (And.intro (zz_ren G) (And.intro (zz_seg G) (And.intro @bA_ren (k0)))))); (repeat' (first | (refine AWpA.thawZ 18 rfl (fun offz => ?_)) | refine AWpA.seq ?_ | refine AWpA.block ?_ | (with_reducible refine CondP.tt ?_) | (with_reducible refine CondP.ff ?_) | refine AWpA.cg ?_ | ((first | refine AWpA.rg ?_ | refine AWpA.dg [] [] follows ?_ | refine TailK.tg ?_ | refine AWpA.skip ?_ | refine AWpA.exit ?_ | refine AWpA.ret ?_ | (with_reducible refine ARoundsA.succ ?_) | ((first | refine Runs.gkt (fun h9 => ?_) | refine Runs.gkf (fun h9 => ?_) | refine Runs.gnt (fun h9 => ?_) | refine Runs.gnf (fun h9 => ?_) | refine CondP.gt (fun h9 => ?_) | refine CondP.gf (fun h9 => ?_) | refine CondP.gnt (fun h9 => ?_) | refine CondP.gnf (fun h9 => ?_)); (try simp only [h9]); clear h9) | refine CallG.pg [0, 1] (c1) ?_ | refine CallG.pg [0, 1] (o1) ?_ | refine CallG.pg [67] (n1) ?_ | refine CallG.pg [195, 2] (sm offz) ?_ | refine CallG.pg [] (k1) ?_ | refine CallG.pg [67, 0, 1] (ha) ?_ | refine CallG.pg [0, 1204] (c3) ?_ | refine CallG.pg [0, 1204] (o3) ?_ | refine CallG.pg [1556] (s3) ?_ | refine CallG.dg [0, 1] (c1) ?_ | refine CallG.dg [0, 1] (o1) ?_ | refine CallG.dg [67] (n1) ?_ | refine CallG.dg [195, 2] (sm offz) ?_ | refine CallG.dg [] (k1) ?_ | refine CallG.dg [67, 0, 1] (ha) ?_ | refine CallG.dg [0, 1204] (c3) ?_ | refine CallG.dg [0, 1204] (o3) ?_ | refine CallG.dg [1556] (s3) ?_); (try simp (maxSteps := 9999999) (disch := omega) only [go_sem, k9]); (try refine cnd ?_)) | ((first | refine CondP.split (fun hif => ?_) (fun hif => ?_) | refine Runs.part (fun hif => ?_) (fun hif => ?_)) <;> ((try simp only [hif]); (try simp only [BL] at hif); (try (have h9 : _ = true := hif; simp only [h9])); (try (have h9 : _ = false := hif; simp only [h9])); (try simp (maxSteps := 9999999) (disch := omega) only [go_sem, k9]); (try refine cnd ?_); (try (exfalso; omega; done)))))); (all_goals (try clear k9)))
        all_goals (refine TopPost.of (by first | exact .inl rfl | exact .inr rfl) (by (try simp (maxSteps := 9999999) (disch := omega) only [go_sem]); rfl) ?_; (try simp (maxSteps := 9999999) (disch := omega) only [go_sem]); (try (first | trivial | decide | (simp; done))))
      · have g3 : (G.length ≤ 0) = False := eq_false (by omega)
        (try simp (maxSteps := 9999999) (disch := omega) only [go_sem])
        (have k9 := And.intro @g1 (And.intro @g2 (And.intro @g3 (And.intro (zz_ren G) (And.intro (zz_seg G) (And.intro @bA_ren (k0)))))); (repeat' (first | (refine AWpA.thawZ 18 rfl (fun offz => ?_)) | refine AWpA.seq ?_ | refine AWpA.block ?_ | (with_reducible refine CondP.tt ?_) | (with_reducible refine CondP.ff ?_) | refine AWpA.cg ?_ | ((first | refine AWpA.rg ?_ | refine AWpA.dg [] [] follows ?_ | refine TailK.tg ?_ | refine AWpA.skip ?_ | refine AWpA.exit ?_ | refine AWpA.ret ?_ | (with_reducible refine ARoundsA.succ ?_) | ((first | refine Runs.gkt (fun h9 => ?_) | refine Runs.gkf (fun h9 => ?_) | refine Runs.gnt (fun h9 => ?_) | refine Runs.gnf (fun h9 => ?_) | refine CondP.gt (fun h9 => ?_) | refine CondP.gf (fun h9 => ?_) | refine CondP.gnt (fun h9 => ?_) | refine CondP.gnf (fun h9 => ?_)); (try simp only [h9]); clear h9) | refine CallG.pg [0, 1] (c1) ?_ | refine CallG.pg [0, 1] (o1) ?_ | refine CallG.pg [67] (n1) ?_ | refine CallG.pg [195, 2] (sm offz) ?_ | refine CallG.pg [] (k1) ?_ | refine CallG.pg [67, 0, 1] (ha) ?_ | refine CallG.pg [0, 1204] (c3) ?_ | refine CallG.pg [0, 1204] (o3) ?_ | refine CallG.pg [1556] (s3) ?_ | refine CallG.dg [0, 1] (c1) ?_ | refine CallG.dg [0, 1] (o1) ?_ | refine CallG.dg [67] (n1) ?_ | refine CallG.dg [195, 2] (sm offz) ?_ | refine CallG.dg [] (k1) ?_ | refine CallG.dg [67, 0, 1] (ha) ?_ | refine CallG.dg [0, 1204] (c3) ?_ | refine CallG.dg [0, 1204] (o3) ?_ | refine CallG.dg [1556] (s3) ?_); (try simp (maxSteps := 9999999) (disch := omega) only [go_sem, k9]); (try refine cnd ?_)) | ((first | refine CondP.split (fun hif => ?_) (fun hif => ?_) | refine Runs.part (fun hif => ?_) (fun hif => ?_)) <;> ((try simp only [hif]); (try simp only [BL] at hif); (try (have h9 : _ = true := hif; simp only [h9])); (try (have h9 : _ = false := hif; simp only [h9])); (try simp (maxSteps := 9999999) (disch := omega) only [go_sem, k9]); (try refine cnd ?_); (try (exfalso; omega; done)))))); (all_goals (try clear k9)))
        all_goals (refine TopPost.of (by first | exact .inl rfl | exact .inr rfl) (by (try simp (maxSteps := 9999999) (disch := omega) only [go_sem]); rfl) ?_; (try simp (maxSteps := 9999999) (disch := omega) only [go_sem]); (try (first | trivial | decide | (simp; done))))
    · have hGn : G.length = g.length + 1 := by rw [hGe]; simp
      have g1 : ((G.length : Int) < (g.length : Int)) = False := eq_false (by omega)
      have g2 : ((g.length : Int) + 1 < (G.length : Int)) = False := eq_false (by omega)
      have g3 : (G.length ≤ 0) = False := eq_false (by omega)
      have g4 : ((g.length : Int) < (G.length : Int)) = True := eq_true (by omega)
      have g5 : ∀ off, (List.replicate off AV.any ++ rowsB G).getD (off + g.length) .bad = fzB b := fun off => by
        rw [zz_at (by omega)]
        simp [hGe]
      have g6 := ba_self b
      have g7 : ((b.length : Int) == 0) = false := by have := (recE_0 hb.1).1; rw [beq_eq_false_iff_ne]; omega
      clear hGe hGl
      (try simp (maxSteps := 9999999) (disch := omega) only [go_sem])
      (have k9 := And.intro @g1 (And.intro @g2 (And.intro @g3 (And.intro @g4 (And.intro @g5 (And.intro @g6 (And.intro @g7 (And.intro @htk (And.intro (zz_ren G) (And.intro (zz_seg G) (And.intro @bA_ren (k0))))))))))); (repeat' (first | (refine AWpA.thawZ 18 rfl (fun offz => ?_)) | refine AWpA.seq ?_ | refine AWpA.block ?_ | (with_reducible refine CondP.tt ?_) | (with_reducible refine CondP.ff ?_) | refine AWpA.cg ?_ | ((first | refine AWpA.rg ?_ | refine AWpA.dg [] [] follows ?_ | refine TailK.tg ?_ | refine AWpA.skip ?_ | refine AWpA.exit ?_ | refine AWpA.ret ?_ | (with_reducible refine ARoundsA.succ ?_) | ((first | refine Runs.gkt (fun h9 => ?_) | refine Runs.gkf (fun h9 => ?_) | refine Runs.gnt (fun h9 => ?_) | refine Runs.gnf (fun h9 => ?_) | refine CondP.gt (fun h9 => ?_) | refine CondP.gf (fun h9 => ?_) | refine CondP.gnt (fun h9 => ?_) | refine CondP.gnf (fun h9 => ?_)); (try simp only [h9]); clear h9) | refine CallG.pg [0, 1] (c1) ?_ | refine CallG.pg [0, 1] (o1) ?_ | refine CallG.pg [67] (n1) ?_ | refine CallG.pg [195, 2] (sm offz) ?_ | refine CallG.pg [] (k1) ?_ | refine CallG.pg [67, 0, 1] (ha) ?_ | refine CallG.pg [0, 1204] (c3) ?_ | refine CallG.pg [0, 1204] (o3) ?_ | refine CallG.pg [1556] (s3) ?_ | refine CallG.dg [0, 1] (c1) ?_ | refine CallG.dg [0, 1] (o1) ?_ | refine CallG.dg [67] (n1) ?_ | refine CallG.dg [195, 2] (sm offz) ?_ | refine CallG.dg [] (k1) ?_ | refine CallG.dg [67, 0, 1] (ha) ?_ | refine CallG.dg [0, 1204] (c3) ?_ | refine CallG.dg [0, 1204] (o3) ?_ | refine CallG.dg [1556] (s3) ?_); (try simp (maxSteps := 9999999) (disch := omega) only [go_sem, k9]); (try refine cnd ?_)) | ((first | refine CondP.split (fun hif => ?_) (fun hif => ?_) | refine Runs.part (fun hif => ?_) (fun hif => ?_)) <;> ((try simp only [hif]); (try simp only [BL] at hif); (try (have h9 : _ = true := hif; simp only [h9])); (try (have h9 : _ = false := hif; simp only [h9])); (try simp (maxSteps := 9999999) (disch := omega) only [go_sem, k9]); (try refine cnd ?_); (try (exfalso; omega; done)))))); (all_goals (try clear k9)))
      all_goals (refine TopPost.of (by first | exact .inl rfl | exact .inr rfl) (by (try simp (maxSteps := 9999999) (disch := omega) only [go_sem]); rfl) ?_; (try simp (maxSteps := 9999999) (disch := omega) only [go_sem]); (try (first | trivial | decide | (simp; done))))
  · obtain ⟨q1, q2⟩ : adE (DG G) more = recE more ∧ adD (DG G) more = DG G := by
      unfold adE adD
      rw [if_pos hr, if_pos hr]
      exact ⟨rfl, rfl⟩
    simp only [q1, q2, if_neg hr] at ha
    have g8 : (recE more != 0) = true := by rw [bne_iff_ne]; exact hr
    have g9 := bne_self_eq_false (recE more)
    have g10 := beq_self_eq_true (recE more)
    clear q1 q2
    generalize recE more = E at *
    rcases hG with rfl | ⟨hGe, hb⟩
    · have g1 : ((G.length : Int) < (G.length : Int)) = False := eq_false (by omega)
      have g2 : ((G.length : Int) + 1 < (G.length : Int)) = False := eq_false (by omega)
      (try simp (maxSteps := 9999999) (disch := omega) only [go_sem])
      (have k9 := And.intro @g1 (And.intro @g2 (And.intro @g8 (And.intro @g9 (And.intro @g10 (And.intro @hr (And.intro (zz_ren G) (And.intro (zz_seg G) (And.intro @bA_ren (k0))))))))); (repeat' (first | (refine AWpA.thawZ 18 rfl (fun offz => ?_)) | refine AWpA.seq ?_ | refine AWpA.block ?_ | (with_reducible refine CondP.tt ?_) | (with_reducible refine CondP.ff ?_) | refine AWpA.cg ?_ | ((first | refine AWpA.rg ?_ | refine AWpA.dg [] [] follows ?_ | refine TailK.tg ?_ | refine AWpA.skip ?_ | refine AWpA.exit ?_ | refine AWpA.ret ?_ | (with_reducible refine ARoundsA.succ ?_) | ((first | refine Runs.gkt (fun h9 => ?_) | refine Runs.gkf (fun h9 => ?_) | refine Runs.gnt (fun h9 => ?_) | refine Runs.gnf (fun h9 => ?_) | refine CondP.gt (fun h9 => ?_) | refine CondP.gf (fun h9 => ?_) | refine CondP.gnt (fun h9 => ?_) | refine CondP.gnf (fun h9 => ?_)); (try simp only [h9]); clear h9) | refine CallG.pg [0, 1] (c1) ?_ | refine CallG.pg [0, 1] (o1) ?_ | refine CallG.pg [67] (n1) ?_ | refine CallG.pg [195, 2] (sm offz) ?_ | refine CallG.pg [] (k1) ?_ | refine CallG.pg [67, 0, 1] (ha) ?_ | refine CallG.dg [0, 1] (c1) ?_ | refine CallG.dg [0, 1] (o1) ?_ | refine CallG.dg [67] (n1) ?_ | refine CallG.dg [195, 2] (sm offz) ?_ | refine CallG.dg [] (k1) ?_ | refine CallG.dg [67, 0, 1] (ha) ?_); (try simp (maxSteps := 9999999) (disch := omega) only [go_sem, k9]); (try refine cnd ?_)) | ((first | refine CondP.split (fun hif => ?_) (fun hif => ?_) | refine Runs.part (fun hif => ?_) (fun hif => ?_)) <;> ((try simp only [hif]); (try simp only [BL] at hif); (try (have h9 : _ = true := hif; simp only [h9])); (try (have h9 : _ = false := hif; simp only [h9])); (try simp (maxSteps := 9999999) (disch := omega) only [go_sem, k9]); (try refine cnd ?_); (try (exfalso; omega; done)))))); (all_goals (try clear k9)))
      all_goals (refine TopPost.of (by first | exact .inl rfl | exact .inr rfl) (by (try simp (maxSteps := 9999999) (disch := omega) only [go_sem]); rfl) ?_; (try simp (maxSteps := 9999999) (disch := omega) only [go_sem]); (try (first | trivial | decide | (simp; done))))
    · have hGn : G.length = g.length + 1 := by rw [hGe]; simp
      have g1 : ((G.length : Int) < (g.length : Int)) = False := eq_false (by omega)
      have g2 : ((g.length : Int) + 1 < (G.length : Int)) = False := eq_false (by omega)
      have g4 : ((g.length : Int) < (G.length : Int)) = True := eq_true (by omega)
      have g5 : ∀ off, (List.replicate off AV.any ++ rowsB G).getD (off + g.length) .bad = fzB b := fun off => by
        rw [zz_at (by omega)]
        simp [hGe]
      have g6 := ba_self b
      have g7 : ((b.length : Int) == 0) = false := by have := (recE_0 hb.1).1; rw [beq_eq_false_iff_ne]; omega
      clear hGe hGl
      (try simp (maxSteps := 9999999) (disch := omega) only [go_sem])
      (have k9 := And.intro @g1 (And.intro @g2 (And.intro @g4 (And.intro @g5 (And.intro @g6 (And.intro @g7 (And.intro @g8 (And.intro @g9 (And.intro @g10 (And.intro @hr (And.intro @htk (And.intro (zz_ren G) (And.intro (zz_seg G) (And.intro @bA_ren (k0)))))))))))))); (repeat' (first | (refine AWpA.thawZ 18 rfl (fun offz => ?_)) | refine AWpA.seq ?_ | refine AWpA.block ?_ | (with_reducible refine CondP.tt ?_) | (with_reducible refine CondP.ff ?_) | refine AWpA.cg ?_ | ((first | refine AWpA.rg ?_ | refine AWpA.dg [] [] follows ?_ | refine TailK.tg ?_ | refine AWpA.skip ?_ | refine AWpA.exit ?_ | refine AWpA.ret ?_ | (with_reducible refine ARoundsA.succ ?_) | ((first | refine Runs.gkt (fun h9 => ?_) | refine Runs.gkf (fun h9 => ?_) | refine Runs.gnt (fun h9 => ?_) | refine Runs.gnf (fun h9 => ?_) | refine CondP.gt (fun h9 => ?_) | refine CondP.gf (fun h9 => ?_) | refine CondP.gnt (fun h9 => ?_) | refine CondP.gnf (fun h9 => ?_)); (try simp only [h9]); clear h9) | refine CallG.pg [0, 1] (c1) ?_ | refine CallG.pg [0, 1] (o1) ?_ | refine CallG.pg [67] (n1) ?_ | refine CallG.pg [195, 2] (sm offz) ?_ | refine CallG.pg [] (k1) ?_ | refine CallG.pg [67, 0, 1] (ha) ?_ | refine CallG.dg [0, 1] (c1) ?_ | refine CallG.dg [0, 1] (o1) ?_ | refine CallG.dg [67] (n1) ?_ | refine CallG.dg [195, 2] (sm offz) ?_ | refine CallG.dg [] (k1) ?_ | refine CallG.dg [67, 0, 1] (ha) ?_); (try simp (maxSteps := 9999999) (disch := omega) only [go_sem, k9]); (try refine cnd ?_)) | ((first | refine CondP.split (fun hif => ?_) (fun hif => ?_) | refine Runs.part (fun hif => ?_) (fun hif => ?_)) <;> ((try simp only [hif]); (try simp only [BL] at hif); (try (have h9 : _ = true := hif; simp only [h9])); (try (have h9 : _ = false := hif; simp only [h9])); (try simp (maxSteps := 9999999) (disch := omega) only [go_sem, k9]); (try refine cnd ?_); (try (exfalso; omega; done)))))); (all_goals (try clear k9)))
      all_goals (refine TopPost.of (by first | exact .inl rfl | exact .inr rfl) (by (try simp (maxSteps := 9999999) (disch := omega) only [go_sem]); rfl) ?_; (try simp (maxSteps := 9999999) (disch := omega) only [go_sem]); (try (first | trivial | decide | (simp; done))))
theorem jkeeps_walk (W : World) (x : Sl (Sl Int)) (fu keep : Int) (y : Sl Int) (hfu : IntKind.i64.min ≤ fu ∧ fu ≤ IntKind.i64.max) (ht : x.ok W 1 (fun s : Sl Int => s.rep) (Sl.ok W 1 (fun n : Int => [.int .u8 n]) (fun n : Int => IntKind.u8.min ≤ n ∧ n ≤ IntKind.u8.max))) (hy : y.ok W 1 (fun n : Int => [.int .u8 n]) (fun n : Int => IntKind.u8.min ≤ n ∧ n ≤ IntKind.u8.max)) :
    Calls Try.prog 12 #[.slice x.ad x.l.length x.cap, .int .i64 fu, .int .i64 keep, .slice y.ad y.l.length y.cap] W fun e W' => e = .returned (.bool true) ∧ Below W.heap.size W W' := by
  obtain ⟨ad, off, cap, l0⟩ := x
  have hz := ht.fz
  have hall := ht.all
  have hln := ht.len
  simp only at hz hall hln
  have hfy := frz_bytes hy.fz
  have hbm : ∀ c ∈ y.l, 0 ≤ c ∧ c ≤ 255 := hy.all
  have hf2 : fu ≤ 9223372036854775807 := hfu.2
  have sg : SegR (rowsC off (fun s : Sl Int => [fzB s.l]) l0) off (l0.map (·.l)) := SegR.rows (fun _ => rfl) (Nat.le_trans hln (by decide))
  have hby0 : ∀ l ∈ l0.map (·.l), ∀ x ∈ l, 0 ≤ x ∧ x ≤ 255 := by
    intro l hl
    obtain ⟨s, hs, rfl⟩ := List.mem_map.1 hl
    exact (hall s hs).all
  refine top_call c12_ok Try.func12 rfl Try.ntmps12 res12_ok [ .val (.slice ad l0.length cap), I fu, I keep, .val (.slice y.ad y.l.length y.cap)] (by simp) (by (repeat' (first | exact VRs_nil' _ | exact VR_val' _ _ | (refine VRs_cons' ?_ ?_) | (refine VR_agg' (by first | rfl | assumption) ?_; first | assumption | simp [Value.oneCell'])))) ?_; try simp (maxSteps := 9999999) (disch := omega) only [go_sem]
  refine AWpA.thawT 0 (fun s : Sl Int => [.val (.slice s.ad s.l.length s.cap)]) hz (fun _ => rfl) rfl ?_
  refine AWpA.frzO 0 rfl (frz_rows fun s hs => (hall s hs).fz) ?_
  refine AWpA.frzT 3 rfl hfy ?_
  have hl0 : l0.length = (l0.map (·.l)).length := by simp
  rw [hl0]
  obtain ⟨_, _, _, more⟩ := y
  simp only at *
  clear hz hall hln hl0 hfy hy ht hfu
  generalize rowsC off (fun s : Sl Int => [fzB s.l]) l0 = P at sg
  generalize l0.map (·.l) = ls at *
  have hle := sg.le
  have hfw := few_any sg
  cases hf : fewB ls
  · rw [hf] at hfw
    (have k9 := And.intro @sg.ren (k0); (repeat' (first | refine AWpA.seq ?_ | refine AWpA.block ?_ | (with_reducible refine CondP.tt ?_) | (with_reducible refine CondP.ff ?_) | refine AWpA.cg ?_ | ((first | refine AWpA.rg ?_ | refine AWpA.dg [] [] follows ?_ | refine TailK.tg ?_ | refine AWpA.skip ?_ | refine AWpA.exit ?_ | refine AWpA.ret ?_ | (with_reducible refine ARoundsA.succ ?_) | ((first | refine Runs.gkt (fun h9 => ?_) | refine Runs.gkf (fun h9 => ?_) | refine Runs.gnt (fun h9 => ?_) | refine Runs.gnf (fun h9 => ?_) | refine CondP.gt (fun h9 => ?_) | refine CondP.gf (fun h9 => ?_) | refine CondP.gnt (fun h9 => ?_) | refine CondP.gnf (fun h9 => ?_)); (try simp only [h9]); clear h9) | refine CallG.pg [] (speaks07_any) ?_ | refine CallG.pg [0] (hfw) ?_ | refine CallG.dg [] (speaks07_any) ?_ | refine CallG.dg [0] (hfw) ?_); (try simp (maxSteps := 9999999) (disch := omega) only [go_sem, k9]); (try refine cnd ?_)) | ((first | refine CondP.split (fun hif => ?_) (fun hif => ?_) | refine Runs.part (fun hif => ?_) (fun hif => ?_)) <;> ((try simp only [hif]); (try simp only [BL] at hif); (try (have h9 : _ = true := hif; simp only [h9])); (try (have h9 : _ = false := hif; simp only [h9])); (try simp (maxSteps := 9999999) (disch := omega) only [go_sem, k9]); (try refine cnd ?_); (try (exfalso; omega; done)))))); (all_goals (try clear k9)))
    (refine TopPost.of (by first | exact .inl rfl | exact .inr rfl) (by (try simp (maxSteps := 9999999) (disch := omega) only [go_sem]); rfl) ?_; (try simp (maxSteps := 9999999) (disch := omega) only [go_sem]); (try (first | trivial | decide | (simp; done))))
  rw [hf] at hfw
  obtain ⟨hf1, hf3⟩ := fewB_yes hf
  by_cases hm6 : 600 < more.length
  · have g1 : ((600 : Int) < (more.length : Int)) = True := eq_true (by omega)
    (have k9 := And.intro @sg.ren (And.intro @g1 (k0)); (repeat' (first | refine AWpA.seq ?_ | refine AWpA.block ?_ | (with_reducible refine CondP.tt ?_) | (with_reducible refine CondP.ff ?_) | refine AWpA.cg ?_ | ((first | refine AWpA.rg ?_ | refine AWpA.dg [] [] follows ?_ | refine TailK.tg ?_ | refine AWpA.skip ?_ | refine AWpA.exit ?_ | refine AWpA.ret ?_ | (with_reducible refine ARoundsA.succ ?_) | ((first | refine Runs.gkt (fun h9 => ?_) | refine Runs.gkf (fun h9 => ?_) | refine Runs.gnt (fun h9 => ?_) | refine Runs.gnf (fun h9 => ?_) | refine CondP.gt (fun h9 => ?_) | refine CondP.gf (fun h9 => ?_) | refine CondP.gnt (fun h9 => ?_) | refine CondP.gnf (fun h9 => ?_)); (try simp only [h9]); clear h9) | refine CallG.pg [] (speaks07_any) ?_ | refine CallG.pg [0] (hfw) ?_ | refine CallG.dg [] (speaks07_any) ?_ | refine CallG.dg [0] (hfw) ?_); (try simp (maxSteps := 9999999) (disch := omega) only [go_sem, k9]); (try refine cnd ?_)) | ((first | refine CondP.split (fun hif => ?_) (fun hif => ?_) | refine Runs.part (fun hif => ?_) (fun hif => ?_)) <;> ((try simp only [hif]); (try simp only [BL] at hif); (try (have h9 : _ = true := hif; simp only [h9])); (try (have h9 : _ = false := hif; simp only [h9])); (try simp (maxSteps := 9999999) (disch := omega) only [go_sem, k9]); (try refine cnd ?_); (try (exfalso; omega; done)))))); (all_goals (try clear k9)))
    (refine TopPost.of (by first | exact .inl rfl | exact .inr rfl) (by (try simp (maxSteps := 9999999) (disch := omega) only [go_sem]); rfl) ?_; (try simp (maxSteps := 9999999) (disch := omega) only [go_sem]); (try (first | trivial | decide | (simp; done))))
  have g1 : ((600 : Int) < (more.length : Int)) = False := eq_false (by omega)
  obtain ⟨F, hF⟩ : ∃ F : Int, (if -1 > fu then -1 else fu) = F := ⟨_, rfl⟩
  have hFlo : -1 ≤ F ∧ F ≤ 9223372036854775807 := by rw [← hF]; split <;> omega
  have o0 := opens_ok (DG []) (DG_ok (by decide)) rfl (by simp [catR_nil]) (open_good (g := []) (by simp)).1
  rw [(open_good (g := []) (by simp)).2.1, (open_good (g := []) (by simp)).2.2] at o0
  have a2 := fuse_any (DG []) fu
  simp only [hF] at a2
  (have k9 := And.intro @sg.ren (And.intro @g1 (And.intro @bA_ren (k0))); (repeat' (first | refine AWpA.seq ?_ | refine AWpA.block ?_ | (with_reducible refine CondP.tt ?_) | (with_reducible refine CondP.ff ?_) | refine AWpA.cg ?_ | ((first | refine AWpA.rg ?_ | refine AWpA.dg [] [] follows ?_ | refine TailK.tg ?_ | refine AWpA.skip ?_ | refine AWpA.exit ?_ | refine AWpA.ret ?_ | (with_reducible refine ARoundsA.succ ?_) | ((first | refine Runs.gkt (fun h9 => ?_) | refine Runs.gkf (fun h9 => ?_) | refine Runs.gnt (fun h9 => ?_) | refine Runs.gnf (fun h9 => ?_) | refine CondP.gt (fun h9 => ?_) | refine CondP.gf (fun h9 => ?_) | refine CondP.gnt (fun h9 => ?_) | refine CondP.gnf (fun h9 => ?_)); (try simp only [h9]); clear h9) | refine CallG.pg [] (speaks07_any) ?_ | refine CallG.pg [0] (hfw) ?_ | refine CallG.pg [] (dnew_any) ?_ | refine CallG.pg [209, 210] (o0) ?_ | refine CallG.pg [209, 210] (a2) ?_ | refine CallG.dg [] (speaks07_any) ?_ | refine CallG.dg [0] (hfw) ?_ | refine CallG.dg [] (dnew_any) ?_ | refine CallG.dg [209, 210] (o0) ?_ | refine CallG.dg [209, 210] (a2) ?_); (try simp (maxSteps := 9999999) (disch := omega) only [go_sem, k9]); (try refine cnd ?_)) | ((first | refine CondP.split (fun hif => ?_) (fun hif => ?_) | refine Runs.part (fun hif => ?_) (fun hif => ?_)) <;> ((try simp only [hif]); (try simp only [BL] at hif); (try (have h9 : _ = true := hif; simp only [h9])); (try (have h9 : _ = false := hif; simp only [h9])); (try simp (maxSteps := 9999999) (disch := omega) only [go_sem, k9]); (try refine cnd ?_); (try (exfalso; omega; done)))))); (all_goals (try clear k9)))
  refine AWpA.dummy ?_
  (apply AWpA.loopL (fun p : Nat × Int => [(2, I keep), (3, fzB more), (9, .ptr 2 0), (10, .ptr 1 0), (13, .sl 4 0 (gd (ls.take p.1)).length 1 none), (14, .val (.slice none 0 0)), (58, .sl 0 off ls.length 1 none), (59, I ls.length), (60, I p.1)]) (fun p => [.cells true P, .cells false [.ptr 2 0, I (gd (ls.take p.1)).length], DkO 3 ⟨catR (gd (ls.take p.1)), (catR (gd (ls.take p.1))).length, false, p.2⟩, .cells false (bA (catR (gd (ls.take p.1)))), .cells false (rowsB (gd (ls.take p.1)))]) (fun p => ls.length - p.1) (fun p => p.1 ≤ ls.length ∧ (-1 ≤ p.2 ∧ p.2 ≤ 9223372036854775807)) ((0, F)) [0, 257, 209, 210, 721]; rotate_left; (focus (simp (maxSteps := 9999999) (disch := omega) only [go_sem, sg.ren, List.take_zero, gd_nil, catR_nil, bA_nil, bA_ren, rowsB_nil, List.length_nil]; (try (repeat' (first | done | trivial | rfl | exact leAs_rfl _ | decide | (refine And.intro ?_ ?_) | (simp; done) | omega | (simp; decide)))))); rotate_right)
  · exact ⟨Nat.zero_le _, hFlo⟩
  clear hF hFlo a2 o0 hf2
  rintro ⟨i, F⟩ ⟨hi, hFlo⟩
  (try simp only at hi hFlo)
  have hgl := gd_len (ls.take i)
  have htl : (ls.take i).length = i := by rw [List.length_take]; omega
  have hgg : ∀ l ∈ gd (ls.take i), goodR l := gd_good fun l hl => hby0 l (List.mem_of_mem_take hl)
  have hcb := catR_bound hgg
  by_cases hin : i < ls.length
  · have g2 : ((i : Int) < (ls.length : Int)) = True := eq_true (by omega)
    have g3 := sg.at i hin
    have g4 := gd_take hin
    have hb := hby0 ls[i] (List.getElem_mem hin)
    have hl6 := hf1 ls[i] (List.getElem_mem hin)
    generalize ls[i] = c at g3 g4 hb hl6
    generalize gd (ls.take i) = g at *
    have hok : (⟨catR g, (catR g).length, false, F⟩ : Dk).ok := ⟨Nat.le_refl _, by simp only; omega, hFlo.1, hFlo.2⟩
    have ha := jadd_any ⟨catR g, (catR g).length, false, F⟩ hok c g.length (by omega) (by omega) hb
    by_cases hr : recE c = 0
    · rw [if_pos hr] at g4
      have hgc : goodR c := ⟨hr, hb⟩
      have key := add_fuse (g := g) (b := c) hFlo (by omega) hr hgc
      generalize hE : adE ⟨catR g, (catR g).length, false, F⟩ c = E at *
      generalize hD : adD ⟨catR g, (catR g).length, false, F⟩ c = D at *
      rcases key with ⟨-, h1, h2, h3⟩ | ⟨-, h1, h2, h3⟩ | ⟨F', h1, h2, h3⟩
      · subst h1
        have n1 := on_any D
        rw [h2] at n1
        simp only [show ((11 : Int) = 0) = False by decide, if_false] at ha
        (try simp (maxSteps := 9999999) (disch := omega) only [go_sem])
        (have k9 := And.intro @g2 (And.intro @g3 (And.intro @h2 (And.intro @sg.ren (And.intro @bA_ren (k0))))); (repeat' (first | (with_reducible refine AWpA.to [2, 101, 4] (jkeeps_rest W h3 hgg (by omega) keep (by omega) hbm) ?_; (focus (simp (maxSteps := 9999999) (disch := omega) only [go_sem, g2, g3, h2, sg.ren, bA_ren]; (try (repeat' (first | done | trivial | rfl | exact leAs_rfl _ | decide | (refine And.intro ?_ ?_) | (simp; done) | omega | (simp; decide))))))) | refine AWpA.seq ?_ | refine AWpA.block ?_ | (with_reducible refine CondP.tt ?_) | (with_reducible refine CondP.ff ?_) | refine AWpA.cg ?_ | ((first | refine AWpA.rg ?_ | refine AWpA.dg [] [] follows ?_ | refine TailK.tg ?_ | refine AWpA.skip ?_ | refine AWpA.exit ?_ | refine AWpA.ret ?_ | (with_reducible refine ARoundsA.succ ?_) | ((first | refine Runs.gkt (fun h9 => ?_) | refine Runs.gkf (fun h9 => ?_) | refine Runs.gnt (fun h9 => ?_) | refine Runs.gnf (fun h9 => ?_) | refine CondP.gt (fun h9 => ?_) | refine CondP.gf (fun h9 => ?_) | refine CondP.gnt (fun h9 => ?_) | refine CondP.gnf (fun h9 => ?_)); (try simp only [h9]); clear h9) | refine CallG.pg [1, 2, 3] (ha) ?_ | refine CallG.pg [2] (n1) ?_ | refine CallG.dg [1, 2, 3] (ha) ?_ | refine CallG.dg [2] (n1) ?_); (try simp (maxSteps := 9999999) (disch := omega) only [go_sem, k9]); (try refine cnd ?_)) | ((first | refine CondP.split (fun hif => ?_) (fun hif => ?_) | refine Runs.part (fun hif => ?_) (fun hif => ?_)) <;> ((try simp only [hif]); (try simp only [BL] at hif); (try (have h9 : _ = true := hif; simp only [h9])); (try (have h9 : _ = false := hif; simp only [h9])); (try simp (maxSteps := 9999999) (disch := omega) only [go_sem, k9]); (try refine cnd ?_); (try (exfalso; omega; done)))))); (all_goals (try clear k9)))
      · subst h1
        have n1 := on_any D
        rw [h2] at n1
        simp only [show ((11 : Int) = 0) = False by decide, if_false] at ha
        (try simp (maxSteps := 9999999) (disch := omega) only [go_sem])
        (have k9 := And.intro @g2 (And.intro @g3 (And.intro @h2 (And.intro @sg.ren (And.intro @bA_ren (k0))))); (repeat' (first | (with_reducible refine AWpA.to [2, 101, 4] (jkeeps_rest W h3 hgg (by omega) keep (by omega) hbm) ?_; (focus (simp (maxSteps := 9999999) (disch := omega) only [go_sem, g2, g3, h2, sg.ren, bA_ren]; (try (repeat' (first | done | trivial | rfl | exact leAs_rfl _ | decide | (refine And.intro ?_ ?_) | (simp; done) | omega | (simp; decide))))))) | refine AWpA.seq ?_ | refine AWpA.block ?_ | (with_reducible refine CondP.tt ?_) | (with_reducible refine CondP.ff ?_) | refine AWpA.cg ?_ | ((first | refine AWpA.rg ?_ | refine AWpA.dg [] [] follows ?_ | refine TailK.tg ?_ | refine AWpA.skip ?_ | refine AWpA.exit ?_ | refine AWpA.ret ?_ | (with_reducible refine ARoundsA.succ ?_) | ((first | refine Runs.gkt (fun h9 => ?_) | refine Runs.gkf (fun h9 => ?_) | refine Runs.gnt (fun h9 => ?_) | refine Runs.gnf (fun h9 => ?_) | refine CondP.gt (fun h9 => ?_) | refine CondP.gf (fun h9 => ?_) | refine CondP.gnt (fun h9 => ?_) | refine CondP.gnf (fun h9 => ?_)); (try simp only [h9]); clear h9) | refine CallG.pg [1, 2, 3] (ha) ?_ | refine CallG.pg [2] (n1) ?_ | refine CallG.dg [1, 2, 3] (ha) ?_ | refine CallG.dg [2] (n1) ?_); (try simp (maxSteps := 9999999) (disch := omega) only [go_sem, k9]); (try refine cnd ?_)) | ((first | refine CondP.split (fun hif => ?_) (fun hif => ?_) | refine Runs.part (fun hif => ?_) (fun hif => ?_)) <;> ((try simp only [hif]); (try simp only [BL] at hif); (try (have h9 : _ = true := hif; simp only [h9])); (try (have h9 : _ = false := hif; simp only [h9])); (try simp (maxSteps := 9999999) (disch := omega) only [go_sem, k9]); (try refine cnd ?_); (try (exfalso; omega; done)))))); (all_goals (try clear k9)))
      · subst h2
        subst h3
        simp only [if_true] at ha
        have n1 := on_any ⟨catR (g ++ [c]), (catR (g ++ [c])).length, false, F'⟩
        (try simp (maxSteps := 9999999) (disch := omega) only [go_sem])
        (have k9 := And.intro @g2 (And.intro @g3 (And.intro @sg.ren (And.intro @bA_ren (k0)))); (repeat' (first | refine AWpA.seq ?_ | refine AWpA.block ?_ | (with_reducible refine CondP.tt ?_) | (with_reducible refine CondP.ff ?_) | refine AWpA.cg ?_ | ((first | refine AWpA.rg ?_ | refine AWpA.dg [] [] follows ?_ | refine TailK.tg ?_ | refine AWpA.skip ?_ | refine AWpA.exit ?_ | refine AWpA.ret ?_ | (with_reducible refine ARoundsA.succ ?_) | ((first | refine Runs.gkt (fun h9 => ?_) | refine Runs.gkf (fun h9 => ?_) | refine Runs.gnt (fun h9 => ?_) | refine Runs.gnf (fun h9 => ?_) | refine CondP.gt (fun h9 => ?_) | refine CondP.gf (fun h9 => ?_) | refine CondP.gnt (fun h9 => ?_) | refine CondP.gnf (fun h9 => ?_)); (try simp only [h9]); clear h9) | refine CallG.pg [1, 2, 3] (ha) ?_ | refine CallG.pg [2] (n1) ?_ | refine CallG.dg [1, 2, 3] (ha) ?_ | refine CallG.dg [2] (n1) ?_); (try simp (maxSteps := 9999999) (disch := omega) only [go_sem, k9]); (try refine cnd ?_)) | ((first | refine CondP.split (fun hif => ?_) (fun hif => ?_) | refine Runs.part (fun hif => ?_) (fun hif => ?_)) <;> ((try simp only [hif]); (try simp only [BL] at hif); (try (have h9 : _ = true := hif; simp only [h9])); (try (have h9 : _ = false := hif; simp only [h9])); (try simp (maxSteps := 9999999) (disch := omega) only [go_sem, k9]); (try refine cnd ?_); (try (exfalso; omega; done)))))); (all_goals (try clear k9)))
        (apply Back.to (i + 1, F') [0, 1, 2, 101, 229]; (focus ((try simp (maxSteps := 9999999) (disch := omega) only [go_sem, g4, sg.ren, bA_ren]); first | done | omega)); rotate_left; (focus (simp (maxSteps := 9999999) (disch := omega) only [go_sem, g4, sg.ren, bA_ren]; (try (repeat' (first | done | trivial | rfl | exact leAs_rfl _ | decide | (refine And.intro ?_ ?_) | (simp; done) | omega | (simp; decide)))))))
        exact ⟨hin, h1⟩
    · rw [if_neg hr] at g4
      obtain ⟨q1, q2⟩ : adE ⟨catR g, (catR g).length, false, F⟩ c = recE c ∧ adD ⟨catR g, (catR g).length, false, F⟩ c = ⟨catR g, (catR g).length, false, F⟩ := by
        unfold adE adD
        rw [if_pos hr, if_pos hr]
        exact ⟨rfl, rfl⟩
      rw [q1, q2, if_neg hr] at ha
      have c2 := rchk_any c (by omega)
      have hE : recE c = 1 ∨ recE c = 7 := by
        unfold recE at hr ⊢
        split
        · exact .inl rfl
        · rename_i h0
          rw [if_neg h0] at hr
          split at hr
          · rename_i h1; rw [if_pos h1]; exact .inr rfl
          · exact absurd rfl hr
      have n1 := on_any ⟨catR g, (catR g).length, false, F⟩
      have g5 : (recE c == 0) = false := by rw [beq_eq_false_iff_ne]; exact hr
      have g6 : (recE c == 11) = false := by rw [beq_eq_false_iff_ne]; omega
      generalize recE c = E at *
      (try simp (maxSteps := 9999999) (disch := omega) only [go_sem])
      (have k9 := And.intro @g2 (And.intro @g3 (And.intro @g5 (And.intro @g6 (And.intro @sg.ren (And.intro @bA_ren (k0)))))); (repeat' (first | refine AWpA.seq ?_ | refine AWpA.block ?_ | (with_reducible refine CondP.tt ?_) | (with_reducible refine CondP.ff ?_) | refine AWpA.cg ?_ | ((first | refine AWpA.rg ?_ | refine AWpA.dg [] [] follows ?_ | refine TailK.tg ?_ | refine AWpA.skip ?_ | refine AWpA.exit ?_ | refine AWpA.ret ?_ | (with_reducible refine ARoundsA.succ ?_) | ((first | refine Runs.gkt (fun h9 => ?_) | refine Runs.gkf (fun h9 => ?_) | refine Runs.gnt (fun h9 => ?_) | refine Runs.gnf (fun h9 => ?_) | refine CondP.gt (fun h9 => ?_) | refine CondP.gf (fun h9 => ?_) | refine CondP.gnt (fun h9 => ?_) | refine CondP.gnf (fun h9 => ?_)); (try simp only [h9]); clear h9) | refine CallG.pg [1, 2, 3] (ha) ?_ | refine CallG.pg [2] (n1) ?_ | refine CallG.pg [] (c2) ?_ | refine CallG.dg [1, 2, 3] (ha) ?_ | refine CallG.dg [2] (n1) ?_ | refine CallG.dg [] (c2) ?_); (try simp (maxSteps := 9999999) (disch := omega) only [go_sem, k9]); (try refine cnd ?_)) | ((first | refine CondP.split (fun hif => ?_) (fun hif => ?_) | refine Runs.part (fun hif => ?_) (fun hif => ?_)) <;> ((try simp only [hif]); (try simp only [BL] at hif); (try (have h9 : _ = true := hif; simp only [h9])); (try (have h9 : _ = false := hif; simp only [h9])); (try simp (maxSteps := 9999999) (disch := omega) only [go_sem, k9]); (try refine cnd ?_); (try (exfalso; omega; done)))))); (all_goals (try clear k9)))
      (apply Back.to (i + 1, F) [0, 1, 2, 101, 4]; (focus ((try simp (maxSteps := 9999999) (disch := omega) only [go_sem, g4, sg.ren, bA_ren]); first | done | omega)); rotate_left; (focus (simp (maxSteps := 9999999) (disch := omega) only [go_sem, g4, sg.ren, bA_ren]; (try (repeat' (first | done | trivial | rfl | exact leAs_rfl _ | decide | (refine And.intro ?_ ?_) | (simp; done) | omega | (simp; decide)))))))
      exact ⟨hin, hFlo⟩
  · obtain rfl : i = ls.length := by omega
    rw [List.take_length] at *
    generalize gd ls = g at *
    have hok : (⟨catR g, (catR g).length, false, F⟩ : Dk).ok := ⟨Nat.le_refl _, by simp only; omega, hFlo.1, hFlo.2⟩
    have h3 : Kp g [] ⟨catR g, (catR g).length, false, F⟩ := ⟨hok, rfl, .inl rfl⟩
    (try simp (maxSteps := 9999999) (disch := omega) only [go_sem])
    (have k9 := And.intro @sg.ren (And.intro @bA_ren (And.intro @bA_nil (k0))); (repeat' (first | (with_reducible refine AWpA.to [2, 3, 4] (jkeeps_rest W h3 hgg (by omega) keep (by omega) hbm) ?_; (focus (simp (maxSteps := 9999999) (disch := omega) only [go_sem, sg.ren, bA_ren, bA_nil]; (try (repeat' (first | done | trivial | rfl | exact leAs_rfl _ | decide | (refine And.intro ?_ ?_) | (simp; done) | omega | (simp; decide))))))) | refine AWpA.seq ?_ | refine AWpA.block ?_ | (with_reducible refine CondP.tt ?_) | (with_reducible refine CondP.ff ?_) | refine AWpA.cg ?_ | ((first | refine AWpA.rg ?_ | refine AWpA.dg [] [] follows ?_ | refine TailK.tg ?_ | refine AWpA.skip ?_ | refine AWpA.exit ?_ | refine AWpA.ret ?_ | (with_reducible refine ARoundsA.succ ?_) | ((first | refine Runs.gkt (fun h9 => ?_) | refine Runs.gkf (fun h9 => ?_) | refine Runs.gnt (fun h9 => ?_) | refine Runs.gnf (fun h9 => ?_) | refine CondP.gt (fun h9 => ?_) | refine CondP.gf (fun h9 => ?_) | refine CondP.gnt (fun h9 => ?_) | refine CondP.gnf (fun h9 => ?_)); (try simp only [h9]); clear h9)); (try simp (maxSteps := 9999999) (disch := omega) only [go_sem, k9]); (try refine cnd ?_)) | ((first | refine CondP.split (fun hif => ?_) (fun hif => ?_) | refine Runs.part (fun hif => ?_) (fun hif => ?_)) <;> ((try simp only [hif]); (try simp only [BL] at hif); (try (have h9 : _ = true := hif; simp only [h9])); (try (have h9 : _ = false := hif; simp only [h9])); (try simp (maxSteps := 9999999) (disch := omega) only [go_sem, k9]); (try refine cnd ?_); (try (exfalso; omega; done)))))); (all_goals (try clear k9)))
end Go.Proofs.Ythbpdmlbfnjoiaa
