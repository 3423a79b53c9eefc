/- The walk of DiskPlays. -/
import Derived.Test.YtnadhhmlehifnaaAd9
namespace Go.Proofs.Ytnadhhmlehifnaa
set_option linter.unusedSimpArgs false
set_option linter.unusedVariables false
set_option maxHeartbeats 4000000
open Go Go.Am Go.RowKit Go.ChangeShapes Go.WideShapes Go.ChangeAt
set_option maxRecDepth 100000
structure AtD where
  kind : Int
  n : Int
  b : Sl Int
def AtD.rep (a : AtD) : List Value := (fun n : Int => [.int .i64 n]) a.kind ++ (fun n : Int => [.int .i64 n]) a.n ++ (fun s : Sl (Int) => s.rep) a.b
structure AtD.ok (W : World) (a : AtD) : Prop where
  kind : (fun n : Int => IntKind.i64.min ≤ n ∧ n ≤ IntKind.i64.max) a.kind
  n : (fun n : Int => IntKind.i64.min ≤ n ∧ n ≤ IntKind.i64.max) a.n
  b : (Sl.ok W 1 (fun n : Int => [.int .u8 n]) (fun n : Int => IntKind.u8.min ≤ n ∧ n ≤ IntKind.u8.max)) a.b
set_option maxRecDepth 100000 in
theorem rd_AtD {H : Type} {enc : TypeId × Value → H} {W : World} {base : Nat} {held : Bool} : Rd enc Try.prog W base held 44 AtD.rep (AtD.ok W) := fun n cs x h => by
  obtain ⟨xs, n1, _, _, hlen, hx, hf⟩ := DataW.trod_struct Try.underlying44 h
  rw [show Try.prog.cellsOf 44 = 3 by kernel_rfl] at hlen
  have f0 : DataW.trod enc Try.prog W base (fun _ => true) held n1 3 ((cs.drop 0).take (Try.prog.cellsOf 3)) = xs[0]? := hf 0 _ rfl
  rw [show Try.prog.cellsOf 3 = 1 by kernel_rfl] at f0
  obtain ⟨y0, h0⟩ := at_some2 hx (by decide) f0
  obtain ⟨g0, a0, e0, w0⟩ := (rd_int Try.underlying3 : Rd _ _ _ _ _ _ (fun n : Int => [.int .i64 n]) (fun n : Int => IntKind.i64.min ≤ n ∧ n ≤ IntKind.i64.max)) _ _ _ h0
  have f1 : DataW.trod enc Try.prog W base (fun _ => true) held n1 3 ((cs.drop 1).take (Try.prog.cellsOf 3)) = xs[1]? := hf 1 _ rfl
  rw [show Try.prog.cellsOf 3 = 1 by kernel_rfl] at f1
  obtain ⟨y1, h1⟩ := at_some2 hx (by decide) f1
  obtain ⟨g1, a1, e1, w1⟩ := (rd_int Try.underlying3 : Rd _ _ _ _ _ _ (fun n : Int => [.int .i64 n]) (fun n : Int => IntKind.i64.min ≤ n ∧ n ≤ IntKind.i64.max)) _ _ _ h1
  have f2 : DataW.trod enc Try.prog W base (fun _ => true) held n1 22 ((cs.drop 2).take (Try.prog.cellsOf 22)) = xs[2]? := hf 2 _ rfl
  rw [show Try.prog.cellsOf 22 = 1 by kernel_rfl] at f2
  obtain ⟨y2, h2⟩ := at_some2 hx (by decide) f2
  obtain ⟨g2, a2, e2, w2⟩ := (rd_slice Try.underlying22 (show Try.prog.cellsOf 5 = 1 by kernel_rfl) (by decide) (rd_int Try.underlying5) : Rd _ _ _ _ _ _ (fun s : Sl (Int) => s.rep) (Sl.ok W 1 (fun n : Int => [.int .u8 n]) (fun n : Int => IntKind.u8.min ≤ n ∧ n ≤ IntKind.u8.max))) _ _ _ h2
  match cs, hlen with
  | [c0, c1, c2], _ =>
    simp [Sl.rep, AtD.rep] at e0 g0
    simp [Sl.rep, AtD.rep] at e1 g1
    simp [Sl.rep, AtD.rep] at e2 g2
    exact ⟨by simp [*, Value.oneCell'], ⟨a0, a1, a2⟩, by simp [Sl.rep, AtD.rep, *], ⟨w0, w1, w2⟩⟩
abbrev AtC (a : AtD) : List AV := [I a.kind, I a.n, .val (.slice a.b.ad a.b.l.length a.b.cap)]
theorem at_ren (off : Nat) (l : List AtD) (ρ : List Nat) : renL ρ (rowsC off AtC l) = rowsC off AtC l := rowsC_ren (fun ρ x => by simp [renL, ren]) ρ l
theorem at_len (off : Nat) (l : List AtD) : (rowsC off AtC l).length = off + l.length * 3 := rowsC_len (f := AtC) (k := 3) (fun _ => rfl) l
theorem at_at (off : Nat) (l : List AtD) (i : Nat) (h : i < l.length) : ((rowsC off AtC l).drop (off + i * 3)).take 3 = AtC l[i] := rowsC_at (f := AtC) (k := 3) (fun _ => rfl) l i h
def fewD (l : List AtD) : Bool := l.all (fun a => decide (a.b.l.length ≤ 100)) && decide (l.length ≤ 60)
theorem fewD_any (off : Nat) (l : List AtD) (hl : l.length ≤ 9223372036854775807) : ACall Try.prog 22 [.sl 0 off l.length 3 none] [.cells true (rowsC off AtC l)] (Det (Bo (fewD l)) [.cells true (rowsC off AtC l)]) := by
  have hr := at_ren off l
  have hlen := at_len off l
  refine ACall.startA c22_ok Try.func22 rfl Try.ntmps22 (by kernel_rfl) res22_ok rfl rfl rfl ?_; simp (maxSteps := 9999999) (disch := omega) only [go_sem]
  (repeat' (first | refine AWpA.seq ?_ | refine AWpA.block ?_ | (with_reducible refine CondP.tt ?_) | (with_reducible refine CondP.ff ?_) | refine AWpA.condv (by simp (maxSteps := 9999999) (disch := omega) only [go_sem, hr]; rfl) ?_ | ((first | (apply AWpA.region; (focus (simp (maxSteps := 9999999) (disch := omega) only [go_sem, hr]; rfl))) | (apply AWpA.draw [] [] follows; (focus (first | rfl | decide)); (focus (simp (maxSteps := 9999999) (disch := omega) only [go_sem, hr]; rfl)); (focus (simp (maxSteps := 9999999) (disch := omega) only [go_sem, hr]; first | done | trivial)); (focus (simp (maxSteps := 9999999) (disch := omega) only [go_sem, hr]; rfl))) | (apply TailK.go; (focus (simp (maxSteps := 9999999) (disch := omega) only [go_sem, hr]; rfl))) | refine AWpA.skip ?_ | refine AWpA.exit ?_ | refine AWpA.ret ?_ | (with_reducible refine ARoundsA.succ ?_) | ((first | refine Runs.kt (by assumption) (fun h9 => ?_) | refine Runs.kf (by assumption) (fun h9 => ?_) | refine Runs.nt (by assumption) (fun h9 => ?_) | refine Runs.nf (by assumption) (fun h9 => ?_) | refine CondP.ht (by assumption) (fun h9 => ?_) | refine CondP.hf (by assumption) (fun h9 => ?_) | refine CondP.nt (by assumption) (fun h9 => ?_) | refine CondP.nf (by assumption) (fun h9 => ?_)); (try simp only [h9]); clear h9)); (try simp (maxSteps := 9999999) (disch := omega) only [go_sem, hr]); (try (refine And.intro ?_ ?_; (focus (first | omega | (simp only [go_sem]; done) | (simp; done) | (simp; omega) | assumption))))) | ((first | refine CondP.split (fun hif => ?_) (fun hif => ?_) | refine Runs.part (fun hif => ?_) (fun hif => ?_)) <;> ((try simp only [hif]); (try simp only [decide_eq_true_eq, decide_eq_false_iff_not, Bool.not_eq_true, Bool.not_eq_false, Bool.not_eq_true', Bool.not_eq_false', beq_iff_eq, bne_iff_ne, bne_eq_false_iff_eq, beq_eq_false_iff_ne, ne_eq, Bool.and_eq_true, Bool.or_eq_true, Bool.or_eq_false_iff] at hif); (try (have h9 : _ = true := hif; simp only [h9])); (try (have h9 : _ = false := hif; simp only [h9])); (try simp (maxSteps := 9999999) (disch := omega) only [go_sem, hr]); (try (refine And.intro ?_ ?_; (focus (first | omega | (simp only [go_sem]; done) | (simp; done) | (simp; omega) | assumption)))); (try (exfalso; omega; done))))))
  (apply AWpA.loopL (fun i : Nat => [(0, .sl 0 off l.length 3 none), (5, .sl 0 off l.length 3 none), (6, I l.length), (7, I i)]) (fun i => [.cells true (rowsC off AtC l)]) (fun i => l.length - i) (fun i => i ≤ l.length ∧ (l.take i).all (fun a => decide (a.b.l.length ≤ 100)) = true) (0) [0]; rotate_left; (focus (simp (maxSteps := 9999999) (disch := omega) only [go_sem, hr]; (try (repeat' (first | done | trivial | rfl | exact leAs_rfl _ | decide | (refine And.intro ?_ ?_) | (simp; done) | omega | (simp; decide)))))); rotate_right)
  · exact ⟨Nat.zero_le _, rfl⟩
  rintro i ⟨hi, hp⟩
  (try simp only at hi)
  by_cases hin : i < l.length
  · have g1 : ((i : Int) < (l.length : Int)) = True := eq_true (by omega)
    have hat := at_at off l i hin
    have e1 : l.take (i + 1) = l.take i ++ [l[i]] := by rw [List.take_add_one, List.getElem?_eq_getElem hin]; rfl
    have hmem : l[i] ∈ l := List.getElem_mem hin
    generalize l[i] = x at hat e1 hmem
    by_cases h40 : x.b.l.length ≤ 100
    · have g2 : ((100 : Int) < (x.b.l.length : Int)) = False := eq_false (by omega)
      have hp2 : (l.take (i + 1)).all (fun a => decide (a.b.l.length ≤ 100)) = true := by rw [e1, List.all_append, hp]; simp [h40]
      clear hp e1
      (try simp (maxSteps := 9999999) (disch := omega) only [go_sem])
      (repeat' (first | refine AWpA.seq ?_ | refine AWpA.block ?_ | (with_reducible refine CondP.tt ?_) | (with_reducible refine CondP.ff ?_) | refine AWpA.condv (by simp (maxSteps := 9999999) (disch := omega) only [go_sem, g1, g2, hr, hat, hlen]; rfl) ?_ | ((first | (apply AWpA.region; (focus (simp (maxSteps := 9999999) (disch := omega) only [go_sem, g1, g2, hr, hat, hlen]; rfl))) | (apply AWpA.draw [] [] follows; (focus (first | rfl | decide)); (focus (simp (maxSteps := 9999999) (disch := omega) only [go_sem, g1, g2, hr, hat, hlen]; rfl)); (focus (simp (maxSteps := 9999999) (disch := omega) only [go_sem, g1, g2, hr, hat, hlen]; first | done | trivial)); (focus (simp (maxSteps := 9999999) (disch := omega) only [go_sem, g1, g2, hr, hat, hlen]; rfl))) | (apply TailK.go; (focus (simp (maxSteps := 9999999) (disch := omega) only [go_sem, g1, g2, hr, hat, hlen]; rfl))) | refine AWpA.skip ?_ | refine AWpA.exit ?_ | refine AWpA.ret ?_ | (with_reducible refine ARoundsA.succ ?_) | ((first | refine Runs.kt (by assumption) (fun h9 => ?_) | refine Runs.kf (by assumption) (fun h9 => ?_) | refine Runs.nt (by assumption) (fun h9 => ?_) | refine Runs.nf (by assumption) (fun h9 => ?_) | refine CondP.ht (by assumption) (fun h9 => ?_) | refine CondP.hf (by assumption) (fun h9 => ?_) | refine CondP.nt (by assumption) (fun h9 => ?_) | refine CondP.nf (by assumption) (fun h9 => ?_)); (try simp only [h9]); clear h9)); (try simp (maxSteps := 9999999) (disch := omega) only [go_sem, g1, g2, hr, hat, hlen]); (try (refine And.intro ?_ ?_; (focus (first | omega | (simp only [go_sem]; done) | (simp; done) | (simp; omega) | assumption))))) | ((first | refine CondP.split (fun hif => ?_) (fun hif => ?_) | refine Runs.part (fun hif => ?_) (fun hif => ?_)) <;> ((try simp only [hif]); (try simp only [decide_eq_true_eq, decide_eq_false_iff_not, Bool.not_eq_true, Bool.not_eq_false, Bool.not_eq_true', Bool.not_eq_false', beq_iff_eq, bne_iff_ne, bne_eq_false_iff_eq, beq_eq_false_iff_ne, ne_eq, Bool.and_eq_true, Bool.or_eq_true, Bool.or_eq_false_iff] at hif); (try (have h9 : _ = true := hif; simp only [h9])); (try (have h9 : _ = false := hif; simp only [h9])); (try simp (maxSteps := 9999999) (disch := omega) only [go_sem, g1, g2, hr, hat, hlen]); (try (refine And.intro ?_ ?_; (focus (first | omega | (simp only [go_sem]; done) | (simp; done) | (simp; omega) | assumption)))); (try (exfalso; omega; done))))))
      (apply Back.to (i + 1) [0]; (focus ((try simp (maxSteps := 9999999) (disch := omega) only [go_sem, hr]); first | done | omega)); rotate_left; (focus (simp (maxSteps := 9999999) (disch := omega) only [go_sem, hr]; (try (repeat' (first | done | trivial | rfl | exact leAs_rfl _ | decide | (refine And.intro ?_ ?_) | (simp; done) | omega | (simp; decide)))))))
      exact ⟨by omega, hp2⟩
    · have g2 : ((100 : Int) < (x.b.l.length : Int)) = True := eq_true (by omega)
      have g5 : fewD l = false := by
        unfold fewD
        rw [Bool.and_eq_false_iff]
        refine .inl ?_
        rw [List.all_eq_false]
        exact ⟨x, hmem, by simpa using h40⟩
      clear hp e1
      (try simp (maxSteps := 9999999) (disch := omega) only [go_sem])
      (repeat' (first | refine AWpA.seq ?_ | refine AWpA.block ?_ | (with_reducible refine CondP.tt ?_) | (with_reducible refine CondP.ff ?_) | refine AWpA.condv (by simp (maxSteps := 9999999) (disch := omega) only [go_sem, g1, g2, hr, hat, hlen]; rfl) ?_ | ((first | (apply AWpA.region; (focus (simp (maxSteps := 9999999) (disch := omega) only [go_sem, g1, g2, hr, hat, hlen]; rfl))) | (apply AWpA.draw [] [] follows; (focus (first | rfl | decide)); (focus (simp (maxSteps := 9999999) (disch := omega) only [go_sem, g1, g2, hr, hat, hlen]; rfl)); (focus (simp (maxSteps := 9999999) (disch := omega) only [go_sem, g1, g2, hr, hat, hlen]; first | done | trivial)); (focus (simp (maxSteps := 9999999) (disch := omega) only [go_sem, g1, g2, hr, hat, hlen]; rfl))) | (apply TailK.go; (focus (simp (maxSteps := 9999999) (disch := omega) only [go_sem, g1, g2, hr, hat, hlen]; rfl))) | refine AWpA.skip ?_ | refine AWpA.exit ?_ | refine AWpA.ret ?_ | (with_reducible refine ARoundsA.succ ?_) | ((first | refine Runs.kt (by assumption) (fun h9 => ?_) | refine Runs.kf (by assumption) (fun h9 => ?_) | refine Runs.nt (by assumption) (fun h9 => ?_) | refine Runs.nf (by assumption) (fun h9 => ?_) | refine CondP.ht (by assumption) (fun h9 => ?_) | refine CondP.hf (by assumption) (fun h9 => ?_) | refine CondP.nt (by assumption) (fun h9 => ?_) | refine CondP.nf (by assumption) (fun h9 => ?_)); (try simp only [h9]); clear h9)); (try simp (maxSteps := 9999999) (disch := omega) only [go_sem, g1, g2, hr, hat, hlen]); (try (refine And.intro ?_ ?_; (focus (first | omega | (simp only [go_sem]; done) | (simp; done) | (simp; omega) | assumption))))) | ((first | refine CondP.split (fun hif => ?_) (fun hif => ?_) | refine Runs.part (fun hif => ?_) (fun hif => ?_)) <;> ((try simp only [hif]); (try simp only [decide_eq_true_eq, decide_eq_false_iff_not, Bool.not_eq_true, Bool.not_eq_false, Bool.not_eq_true', Bool.not_eq_false', beq_iff_eq, bne_iff_ne, bne_eq_false_iff_eq, beq_eq_false_iff_ne, ne_eq, Bool.and_eq_true, Bool.or_eq_true, Bool.or_eq_false_iff] at hif); (try (have h9 : _ = true := hif; simp only [h9])); (try (have h9 : _ = false := hif; simp only [h9])); (try simp (maxSteps := 9999999) (disch := omega) only [go_sem, g1, g2, hr, hat, hlen]); (try (refine And.intro ?_ ?_; (focus (first | omega | (simp only [go_sem]; done) | (simp; done) | (simp; omega) | assumption)))); (try (exfalso; omega; done))))))
      (apply Ret.det [0]; (focus (first | exact .inl rfl | exact .inr rfl)); (focus (simp (maxSteps := 9999999) (disch := omega) only [go_sem, hr, g5]; rfl)); (simp (maxSteps := 9999999) (disch := omega) only [go_sem, hr, g5]; (try (repeat' (first | done | trivial | rfl | exact leAs_rfl _ | decide | (refine And.intro ?_ ?_) | (simp; done) | omega | (simp; decide))))))
  · obtain rfl : i = l.length := by omega
    have g1 : ((l.length : Int) < (l.length : Int)) = False := eq_false (by omega)
    rw [List.take_length] at hp
    have g5 : fewD l = decide (l.length ≤ 60) := by unfold fewD; rw [hp]; rfl
    clear hp
    by_cases h80 : l.length ≤ 60
    · have g2 : ((l.length : Int) ≤ 60) = True := eq_true (by omega)
      rw [decide_eq_true h80] at g5
      (try simp (maxSteps := 9999999) (disch := omega) only [go_sem])
      (repeat' (first | refine AWpA.seq ?_ | refine AWpA.block ?_ | (with_reducible refine CondP.tt ?_) | (with_reducible refine CondP.ff ?_) | refine AWpA.condv (by simp (maxSteps := 9999999) (disch := omega) only [go_sem, g1, g2, hr]; rfl) ?_ | ((first | (apply AWpA.region; (focus (simp (maxSteps := 9999999) (disch := omega) only [go_sem, g1, g2, hr]; rfl))) | (apply AWpA.draw [] [] follows; (focus (first | rfl | decide)); (focus (simp (maxSteps := 9999999) (disch := omega) only [go_sem, g1, g2, hr]; rfl)); (focus (simp (maxSteps := 9999999) (disch := omega) only [go_sem, g1, g2, hr]; first | done | trivial)); (focus (simp (maxSteps := 9999999) (disch := omega) only [go_sem, g1, g2, hr]; rfl))) | (apply TailK.go; (focus (simp (maxSteps := 9999999) (disch := omega) only [go_sem, g1, g2, hr]; rfl))) | refine AWpA.skip ?_ | refine AWpA.exit ?_ | refine AWpA.ret ?_ | (with_reducible refine ARoundsA.succ ?_) | ((first | refine Runs.kt (by assumption) (fun h9 => ?_) | refine Runs.kf (by assumption) (fun h9 => ?_) | refine Runs.nt (by assumption) (fun h9 => ?_) | refine Runs.nf (by assumption) (fun h9 => ?_) | refine CondP.ht (by assumption) (fun h9 => ?_) | refine CondP.hf (by assumption) (fun h9 => ?_) | refine CondP.nt (by assumption) (fun h9 => ?_) | refine CondP.nf (by assumption) (fun h9 => ?_)); (try simp only [h9]); clear h9)); (try simp (maxSteps := 9999999) (disch := omega) only [go_sem, g1, g2, hr]); (try (refine And.intro ?_ ?_; (focus (first | omega | (simp only [go_sem]; done) | (simp; done) | (simp; omega) | assumption))))) | ((first | refine CondP.split (fun hif => ?_) (fun hif => ?_) | refine Runs.part (fun hif => ?_) (fun hif => ?_)) <;> ((try simp only [hif]); (try simp only [decide_eq_true_eq, decide_eq_false_iff_not, Bool.not_eq_true, Bool.not_eq_false, Bool.not_eq_true', Bool.not_eq_false', beq_iff_eq, bne_iff_ne, bne_eq_false_iff_eq, beq_eq_false_iff_ne, ne_eq, Bool.and_eq_true, Bool.or_eq_true, Bool.or_eq_false_iff] at hif); (try (have h9 : _ = true := hif; simp only [h9])); (try (have h9 : _ = false := hif; simp only [h9])); (try simp (maxSteps := 9999999) (disch := omega) only [go_sem, g1, g2, hr]); (try (refine And.intro ?_ ?_; (focus (first | omega | (simp only [go_sem]; done) | (simp; done) | (simp; omega) | assumption)))); (try (exfalso; omega; done))))))
      (apply Ret.det [0]; (focus (first | exact .inl rfl | exact .inr rfl)); (focus (simp (maxSteps := 9999999) (disch := omega) only [go_sem, hr, g5]; rfl)); (simp (maxSteps := 9999999) (disch := omega) only [go_sem, hr, g5]; (try (repeat' (first | done | trivial | rfl | exact leAs_rfl _ | decide | (refine And.intro ?_ ?_) | (simp; done) | omega | (simp; decide))))))
    · have g2 : ((l.length : Int) ≤ 60) = False := eq_false (by omega)
      rw [decide_eq_false h80] at g5
      (try simp (maxSteps := 9999999) (disch := omega) only [go_sem])
      (repeat' (first | refine AWpA.seq ?_ | refine AWpA.block ?_ | (with_reducible refine CondP.tt ?_) | (with_reducible refine CondP.ff ?_) | refine AWpA.condv (by simp (maxSteps := 9999999) (disch := omega) only [go_sem, g1, g2, hr]; rfl) ?_ | ((first | (apply AWpA.region; (focus (simp (maxSteps := 9999999) (disch := omega) only [go_sem, g1, g2, hr]; rfl))) | (apply AWpA.draw [] [] follows; (focus (first | rfl | decide)); (focus (simp (maxSteps := 9999999) (disch := omega) only [go_sem, g1, g2, hr]; rfl)); (focus (simp (maxSteps := 9999999) (disch := omega) only [go_sem, g1, g2, hr]; first | done | trivial)); (focus (simp (maxSteps := 9999999) (disch := omega) only [go_sem, g1, g2, hr]; rfl))) | (apply TailK.go; (focus (simp (maxSteps := 9999999) (disch := omega) only [go_sem, g1, g2, hr]; rfl))) | refine AWpA.skip ?_ | refine AWpA.exit ?_ | refine AWpA.ret ?_ | (with_reducible refine ARoundsA.succ ?_) | ((first | refine Runs.kt (by assumption) (fun h9 => ?_) | refine Runs.kf (by assumption) (fun h9 => ?_) | refine Runs.nt (by assumption) (fun h9 => ?_) | refine Runs.nf (by assumption) (fun h9 => ?_) | refine CondP.ht (by assumption) (fun h9 => ?_) | refine CondP.hf (by assumption) (fun h9 => ?_) | refine CondP.nt (by assumption) (fun h9 => ?_) | refine CondP.nf (by assumption) (fun h9 => ?_)); (try simp only [h9]); clear h9)); (try simp (maxSteps := 9999999) (disch := omega) only [go_sem, g1, g2, hr]); (try (refine And.intro ?_ ?_; (focus (first | omega | (simp only [go_sem]; done) | (simp; done) | (simp; omega) | assumption))))) | ((first | refine CondP.split (fun hif => ?_) (fun hif => ?_) | refine Runs.part (fun hif => ?_) (fun hif => ?_)) <;> ((try simp only [hif]); (try simp only [decide_eq_true_eq, decide_eq_false_iff_not, Bool.not_eq_true, Bool.not_eq_false, Bool.not_eq_true', Bool.not_eq_false', beq_iff_eq, bne_iff_ne, bne_eq_false_iff_eq, beq_eq_false_iff_ne, ne_eq, Bool.and_eq_true, Bool.or_eq_true, Bool.or_eq_false_iff] at hif); (try (have h9 : _ = true := hif; simp only [h9])); (try (have h9 : _ = false := hif; simp only [h9])); (try simp (maxSteps := 9999999) (disch := omega) only [go_sem, g1, g2, hr]); (try (refine And.intro ?_ ?_; (focus (first | omega | (simp only [go_sem]; done) | (simp; done) | (simp; omega) | assumption)))); (try (exfalso; omega; done))))))
      (apply Ret.det [0]; (focus (first | exact .inl rfl | exact .inr rfl)); (focus (simp (maxSteps := 9999999) (disch := omega) only [go_sem, hr, g5]; rfl)); (simp (maxSteps := 9999999) (disch := omega) only [go_sem, hr, g5]; (try (repeat' (first | done | trivial | rfl | exact leAs_rfl _ | decide | (refine And.intro ?_ ?_) | (simp; done) | omega | (simp; decide))))))
theorem doD_ok {d : Dk} (h : d.ok) {w : Int} {f : Dk → Dk} (hf : w = 0 → (f { d with left := leftU d.left }).ok) : (doD d w f).ok := by
  rcases doD_cases d w f with ⟨_, e, _⟩ | ⟨_, _, e, _⟩ | ⟨_, _, _, e, _⟩ | ⟨_, hw, _, e, _⟩ <;> rw [e]
  · exact h
  · exact h
  · exact ⟨h.s, h.l, h.lo, h.hi⟩
  · exact hf hw
theorem actD_ok {d : Dk} (h : d.ok) (k n : Int) (b : List Int) (hn : n ≤ 9223372036854775807) : (actD d k n b).ok := by
  have hu := leftU_ok h.lo h.hi
  have h1 := h.s
  have h2 := h.l
  unfold actD
  split
  · refine doD_ok h fun hw => ?_
    have := appW_0 d b.length hw
    exact ⟨by simp only [appF, List.length_append]; omega, by simp only [appF, List.length_append]; omega, hu.1, hu.2⟩
  split
  · exact doD_ok h fun _ => ⟨Nat.le_refl _, h2, hu.1, hu.2⟩
  split
  · refine doD_ok h fun hw => ?_
    exact ⟨by simp only [trimF, List.length_take]; omega, by simp only [trimF, List.length_take]; omega, hu.1, hu.2⟩
  split
  · exact ⟨h1, h2, by simp only; split <;> omega, by simp only; split <;> omega⟩
  split
  · refine ⟨?_, ?_, by simp [crashF], by simp [crashF]⟩
    · simp only [crashF, List.length_take, crashN]; omega
    · simp only [crashF, List.length_take, crashN]; omega
  split
  · unfold turnF
    split
    · rename_i hi
      have hk : n.toNat < d.l.length := by omega
      exact ⟨by simp only [turnL_len hk]; exact h1, by simp only [turnL_len hk]; exact h2, h.lo, h.hi⟩
    · exact h
  · exact h
/-- No new row: the old one is looked at. -/
theorem actD_seg {d : Dk} {P : List AV} (p : Seg P 0 d.l) (k n : Int) (b : List Int) (hw : nwD d k n b = false) : Seg P 0 (actD d k n b).l := by
  unfold nwD at hw
  unfold actD
  split
  · rename_i h0
    rw [if_pos h0] at hw
    rcases doD_cases d (appW d b.length) (appF b) with ⟨_, e, _⟩ | ⟨_, _, e, _⟩ | ⟨_, _, _, e, _⟩ | ⟨h1, h2, h3, e, _⟩ <;> rw [e]
    · exact p
    · exact p
    · exact p
    · simp [nwA, h1, h2, h3] at hw
  rename_i h0
  rw [if_neg h0] at hw
  split
  · rcases doD_cases d 0 syncF with ⟨_, e, _⟩ | ⟨_, _, e, _⟩ | ⟨_, _, _, e, _⟩ | ⟨h1, h2, h3, e, _⟩ <;> rw [e] <;> exact p
  split
  · rcases doD_cases d (trimW d n) (trimF n.toNat) with ⟨_, e, _⟩ | ⟨_, _, e, _⟩ | ⟨_, _, _, e, _⟩ | ⟨h1, h2, h3, e, _⟩ <;> rw [e]
    · exact p
    · exact p
    · exact p
    · rcases trimW_cases d n with ⟨e, _⟩ | ⟨_, c1, c2⟩
      · rw [h2] at e; cases e
      · exact p.takeS _ (by omega)
  split
  · exact p
  split
  · simp only [crashF]
    by_cases h : d.s + crashN d n ≤ d.l.length
    · exact p.takeS _ h
    · rw [List.take_of_length_le (by omega)]; exact p
  split
  · rename_i h5
    rw [if_pos h5] at hw
    unfold turnF
    rw [if_neg (of_decide_eq_false hw)]
    exact p
  · exact p
/- quidnunc/quidnunclaw06.DiskPlays -/
noncomputable def c6_1 : ACode := .region false [⟨some 2, .move, [.c (.val (.bool false))], none⟩] [] [] [0] false [] []
noncomputable def c6_4 : ACode := .region false [⟨some 11, .call 13, [], none⟩,
  ⟨some 12, .un .not, [.t 11], none⟩,
  ⟨some 13, .move, [.t 12], none⟩,
  ⟨some 14, .move, [.t 0], some (some 13, false)⟩,
  ⟨some 15, .call 22, [.t 14], some (some 13, false)⟩,
  ⟨some 16, .un .not, [.t 15], some (some 13, false)⟩,
  ⟨some 17, .pick, [.t 13, .c (.val (.bool true)), .t 16], none⟩] [] [] [0, 17] true [] []
noncomputable def c6_7 : ACode := .region false [⟨some 18, .call 13, [], none⟩,
  ⟨some 2, .move, [.t 18], none⟩] [] [] [2] true [] []
noncomputable def c6_6 : ACode := .seq c6_7 .ret
noncomputable def c6_5 : ACode := .cond (.t 17) c6_6 .skip
noncomputable def c6_3 : ACode := .seq c6_4 c6_5
noncomputable def c6_9 : ACode := .region false [⟨some 19, .call 14, [], none⟩,
  ⟨some 20, .call 23, [], none⟩,
  ⟨some 4, .alloc [(.slice none 0 0), (.int .i64 0), (.bool false), (.int .i64 0)], [], none⟩,
  ⟨some 3, .move, [.t 19], none⟩,
  ⟨none, .store 4, [.t 4, .t 20], none⟩] [] [] [0, 3, 4] true [] []
noncomputable def c6_12 : ACode := .region false [⟨some 21, .move, [.t 0], none⟩,
  ⟨some 22, .len, [.t 21], none⟩,
  ⟨some 23, .move, [.c (.val (.int .i64 0))], none⟩] [] [] [3, 4, 21, 22, 23] false [] []
noncomputable def c6_16 : ACode := .region false [⟨some 24, .bin .lss, [.t 23, .t 22], none⟩] [] [] [3, 4, 21, 22, 23, 24] false [] []
noncomputable def c6_18 : ACode := .cond (.t 24) .skip (.exit 0)
noncomputable def c6_22 : ACode := .region false [⟨some 25, .ixS 3, [.t 21, .t 23], none⟩,
  ⟨some 26, .load true 3, [.t 25], none⟩,
  ⟨some 6, .alloc [(.int .i64 0), (.int .i64 0), (.slice none 0 0)], [], none⟩,
  ⟨none, .store 3, [.t 6, .t 26], none⟩] [] [] [3, 4, 6, 21, 22, 23] true [] []
noncomputable def c6_24 : ACode := .region false [⟨some 28, .move, [.t 3], none⟩,
  ⟨some 29, .load true 4, [.t 4], none⟩,
  ⟨some 30, .load true 3, [.t 6], none⟩,
  ⟨some 31, .call 24, [.t 28, .t 29, .t 30], none⟩,
  ⟨some 27, .move, [.t 31], none⟩,
  ⟨some 32, .ext 0, [.t 27], none⟩,
  ⟨some 33, .ext 1, [.t 27], none⟩,
  ⟨some 7, .alloc [(.slice none 0 0), (.int .i64 0), (.bool false), (.int .i64 0)], [], none⟩,
  ⟨none, .store 4, [.t 7, .t 32], none⟩,
  ⟨some 8, .move, [.t 33], none⟩] [] [] [3, 4, 7, 8, 21, 22, 23] true [] []
noncomputable def c6_26 : ACode := .region false [⟨some 34, .load true 4, [.t 7], none⟩,
  ⟨none, .store 4, [.t 4, .t 34], none⟩] [] [] [3, 4, 8, 21, 22, 23] true [] []
noncomputable def c6_29 : ACode := .region true [⟨some 35, .move, [.t 8], none⟩,
  ⟨some 36, .un .not, [.t 35], none⟩,
  ⟨some 37, .move, [.t 36], none⟩,
  ⟨some 38, .move, [.t 3], some (some 37, false)⟩,
  ⟨some 39, .nilChk, [.t 38], some (some 37, false)⟩,
  ⟨some 40, .addr 0, [.t 39], some (some 37, false)⟩,
  ⟨some 41, .call 26, [.t 40], some (some 37, false)⟩,
  ⟨some 42, .addr 2, [.t 4], some (some 37, false)⟩,
  ⟨some 43, .load false 1, [.t 42], some (some 37, false)⟩,
  ⟨some 44, .eqB false, [.t 41, .t 43], some (some 37, false)⟩,
  ⟨some 45, .pick, [.t 37, .c (.val (.bool true)), .t 44], none⟩,
  ⟨some 46, .move, [.t 45], none⟩,
  ⟨some 47, .move, [.t 3], some (some 46, false)⟩,
  ⟨some 48, .call 16, [.t 47], some (some 46, false)⟩,
  ⟨some 49, .addr 0, [.t 4], some (some 46, false)⟩,
  ⟨some 50, .load false 1, [.t 49], some (some 46, false)⟩,
  ⟨some 51, .len, [.t 50], some (some 46, false)⟩,
  ⟨some 52, .bin .neq, [.t 48, .t 51], some (some 46, false)⟩,
  ⟨some 53, .pick, [.t 46, .c (.val (.bool true)), .t 52], none⟩,
  ⟨some 54, .move, [.t 53], none⟩,
  ⟨some 55, .move, [.t 3], some (some 54, false)⟩,
  ⟨some 56, .call 18, [.t 55], some (some 54, false)⟩,
  ⟨some 57, .addr 1, [.t 4], some (some 54, false)⟩,
  ⟨some 58, .load false 1, [.t 57], some (some 54, false)⟩,
  ⟨some 59, .bin .neq, [.t 56, .t 58], some (some 54, false)⟩,
  ⟨some 60, .pick, [.t 54, .c (.val (.bool true)), .t 59], none⟩] [] [] [3, 4, 21, 22, 23, 60] true [] []
noncomputable def c6_32 : ACode := .region false [⟨some 2, .move, [.c (.val (.bool false))], none⟩] [] [] [2] false [] []
noncomputable def c6_31 : ACode := .seq c6_32 .ret
noncomputable def c6_30 : ACode := .cond (.t 60) c6_31 .skip
noncomputable def c6_28 : ACode := .seq c6_29 c6_30
noncomputable def c6_34 : ACode := .region false [⟨some 62, .move, [.t 3], none⟩,
  ⟨some 63, .call 19, [.t 62], none⟩,
  ⟨some 61, .move, [.t 63], none⟩,
  ⟨some 64, .ext 0, [.t 61], none⟩,
  ⟨some 65, .ext 1, [.t 61], none⟩,
  ⟨some 9, .move, [.t 64], none⟩,
  ⟨some 10, .move, [.t 65], none⟩] [] [] [3, 4, 9, 10, 21, 22, 23] true [] []
noncomputable def c6_36 : ACode := .region false [⟨some 66, .addr 2, [.t 4], none⟩,
  ⟨some 67, .load false 1, [.t 66], none⟩,
  ⟨some 68, .move, [.t 67], none⟩,
  ⟨some 69, .move, [.t 10], some (some 68, true)⟩,
  ⟨some 70, .bin .neq, [.t 69, .c (.val (.int .i64 11))], some (some 68, true)⟩,
  ⟨some 71, .move, [.t 70], some (some 68, true)⟩,
  ⟨some 72, .move, [.t 9], some (some 71, false)⟩,
  ⟨some 73, .len, [.t 72], some (some 71, false)⟩,
  ⟨some 74, .bin .neq, [.t 73, .c (.val (.int .i64 0))], some (some 71, false)⟩,
  ⟨some 75, .pick, [.t 71, .c (.val (.bool true)), .t 74], some (some 68, true)⟩,
  ⟨some 76, .pick, [.t 68, .t 75, .c (.val (.bool false))], none⟩,
  ⟨some 77, .move, [.t 76], none⟩,
  ⟨some 78, .addr 2, [.t 4], some (some 77, false)⟩,
  ⟨some 79, .load false 1, [.t 78], some (some 77, false)⟩,
  ⟨some 80, .un .not, [.t 79], some (some 77, false)⟩,
  ⟨some 81, .move, [.t 80], some (some 77, false)⟩,
  ⟨some 82, .move, [.t 10], some (some 81, true)⟩,
  ⟨some 83, .bin .neq, [.t 82, .c (.val (.int .i64 0))], some (some 81, true)⟩,
  ⟨some 84, .move, [.t 83], some (some 81, true)⟩,
  ⟨some 85, .move, [.t 9], some (some 84, false)⟩,
  ⟨some 86, .toStr, [.t 85], some (some 84, false)⟩,
  ⟨some 87, .addr 0, [.t 4], some (some 84, false)⟩,
  ⟨some 88, .load false 1, [.t 87], some (some 84, false)⟩,
  ⟨some 89, .toStr, [.t 88], some (some 84, false)⟩,
  ⟨some 90, .bin .neq, [.t 86, .t 89], some (some 84, false)⟩,
  ⟨some 91, .pick, [.t 84, .c (.val (.bool true)), .t 90], some (some 81, true)⟩,
  ⟨some 92, .pick, [.t 81, .t 91, .c (.val (.bool false))], some (some 77, false)⟩,
  ⟨some 93, .pick, [.t 77, .c (.val (.bool true)), .t 92], none⟩] [] [] [3, 4, 21, 22, 23, 93] false [] []
noncomputable def c6_39 : ACode := .region false [⟨some 2, .move, [.c (.val (.bool false))], none⟩] [] [] [2] false [] []
noncomputable def c6_38 : ACode := .seq c6_39 .ret
noncomputable def c6_37 : ACode := .cond (.t 93) c6_38 .skip
noncomputable def c6_35 : ACode := .seq c6_36 c6_37
noncomputable def c6_33 : ACode := .seq c6_34 c6_35
noncomputable def c6_27 : ACode := .seq c6_28 c6_33
noncomputable def c6_25 : ACode := .seq c6_26 c6_27
noncomputable def c6_23 : ACode := .seq c6_24 c6_25
noncomputable def c6_21 : ACode := .seq c6_22 c6_23
noncomputable def c6_20 : ACode := .block 1 c6_21
noncomputable def c6_40 : ACode := .region false [⟨some 94, .bin .add, [.t 23, .c (.val (.int .i64 1))], none⟩,
  ⟨some 23, .move, [.t 94], none⟩] [] [] [3, 4, 21, 22, 23] false [] []
noncomputable def c6_19 : ACode := .seq c6_20 c6_40
noncomputable def c6_17 : ACode := .seq c6_18 c6_19
noncomputable def c6_15 : ACode := .seq c6_16 c6_17
noncomputable def c6_14 : ACode := .loop c6_15
noncomputable def c6_13 : ACode := .block 0 c6_14
noncomputable def c6_11 : ACode := .seq c6_12 c6_13
noncomputable def c6_42 : ACode := .region false [⟨some 2, .move, [.c (.val (.bool true))], none⟩] [] [] [2] false [] []
noncomputable def c6_41 : ACode := .seq c6_42 .ret
noncomputable def c6_10 : ACode := .seq c6_11 c6_41
noncomputable def c6_8 : ACode := .seq c6_9 c6_10
noncomputable def c6_2 : ACode := .seq c6_3 c6_8
noncomputable def c6_0 : ACode := .seq c6_1 c6_2
noncomputable def code6 : Code := (Try.f6.body).getD .skip
theorem c6_ok : compC Try.prog 95 code6 = some (strip c6_0) := by kernel_rfl
theorem res6_ok : Try.f6.results.toList.mapM (resC Try.prog) = some [(2, none)] := by kernel_rfl
theorem plays_walk (W : World) (sl : Sl AtD) (hz : Sl.ok W 3 AtD.rep (AtD.ok W) sl) :
    Calls Try.prog 6 #[.slice sl.ad sl.l.length sl.cap] W fun e W' => e = .returned (.bool true) ∧ Below W.heap.size W W' := by
  obtain ⟨ad, off, cap, l⟩ := sl
  have hall := hz.all
  obtain ⟨hz, -, hl⟩ := hz
  have hl : l.length ≤ 9223372036854775807 := by simpa [maxLen] using hl
  simp only at hz hall
  have hr := at_ren off l
  have hlen := at_len off l
  have hf := fewD_any off l hl
  cases hs : fewD l with
  | false =>
    rw [hs] at hf
    refine top_call c6_ok Try.func6 rfl Try.ntmps6 res6_ok [ .val (.slice ad l.length cap)] (by simp) (by (repeat' (first | exact VRs_nil' _ | exact VR_val' _ _ | (refine VRs_cons' ?_ ?_) | (refine VR_agg' (by first | rfl | assumption) ?_; first | assumption | simp [Value.oneCell', AtD.rep])))) ?_; try simp (maxSteps := 9999999) (disch := omega) only [go_sem]
    refine AWpA.thawT 0 AtC hz (fun x => by simp [AtD.rep, Sl.rep]) rfl ?_
    (repeat' (first | refine AWpA.seq ?_ | refine AWpA.block ?_ | (with_reducible refine CondP.tt ?_) | (with_reducible refine CondP.ff ?_) | refine AWpA.condv (by simp (maxSteps := 9999999) (disch := omega) only [go_sem, hr]; rfl) ?_ | ((first | (apply AWpA.region; (focus (simp (maxSteps := 9999999) (disch := omega) only [go_sem, hr]; rfl))) | (apply AWpA.draw [] [] follows; (focus (first | rfl | decide)); (focus (simp (maxSteps := 9999999) (disch := omega) only [go_sem, hr]; rfl)); (focus (simp (maxSteps := 9999999) (disch := omega) only [go_sem, hr]; first | done | trivial)); (focus (simp (maxSteps := 9999999) (disch := omega) only [go_sem, hr]; rfl))) | (apply TailK.go; (focus (simp (maxSteps := 9999999) (disch := omega) only [go_sem, hr]; rfl))) | refine AWpA.skip ?_ | refine AWpA.exit ?_ | refine AWpA.ret ?_ | (with_reducible refine ARoundsA.succ ?_) | ((first | refine Runs.kt (by assumption) (fun h9 => ?_) | refine Runs.kf (by assumption) (fun h9 => ?_) | refine Runs.nt (by assumption) (fun h9 => ?_) | refine Runs.nf (by assumption) (fun h9 => ?_) | refine CondP.ht (by assumption) (fun h9 => ?_) | refine CondP.hf (by assumption) (fun h9 => ?_) | refine CondP.nt (by assumption) (fun h9 => ?_) | refine CondP.nf (by assumption) (fun h9 => ?_)); (try simp only [h9]); clear h9) | ((first | (with_reducible apply CallG.plain1 [] (speaks06)) | (with_reducible apply CallG.plain1 [0] (hf)) | (with_reducible apply CallG.draw1 [] (speaks06)) | (with_reducible apply CallG.draw1 [0] (hf))); (focus ((try refine And.intro (leAs_of_eq rfl) ?_); (try refine And.intro (leOL_of_eq rfl) ?_); simp (maxSteps := 9999999) (disch := omega) only [go_sem, hr]; first | done | (repeat' (first | rfl | (refine And.intro ?_ ?_))))); (focus (simp (maxSteps := 9999999) (disch := omega) only [go_sem, hr]; rfl)))); (try simp (maxSteps := 9999999) (disch := omega) only [go_sem, hr]); (try (refine And.intro ?_ ?_; (focus (first | omega | (simp only [go_sem]; done) | (simp; done) | (simp; omega) | assumption))))) | ((first | refine CondP.split (fun hif => ?_) (fun hif => ?_) | refine Runs.part (fun hif => ?_) (fun hif => ?_)) <;> ((try simp only [hif]); (try simp only [decide_eq_true_eq, decide_eq_false_iff_not, Bool.not_eq_true, Bool.not_eq_false, Bool.not_eq_true', Bool.not_eq_false', beq_iff_eq, bne_iff_ne, bne_eq_false_iff_eq, beq_eq_false_iff_ne, ne_eq, Bool.and_eq_true, Bool.or_eq_true, Bool.or_eq_false_iff] at hif); (try (have h9 : _ = true := hif; simp only [h9])); (try (have h9 : _ = false := hif; simp only [h9])); (try simp (maxSteps := 9999999) (disch := omega) only [go_sem, hr]); (try (refine And.intro ?_ ?_; (focus (first | omega | (simp only [go_sem]; done) | (simp; done) | (simp; omega) | assumption)))); (try (exfalso; omega; done))))))
    (refine TopPost.of (by first | exact .inl rfl | exact .inr rfl) (by (try simp (maxSteps := 9999999) (disch := omega) only [go_sem]); rfl) ?_; (try simp (maxSteps := 9999999) (disch := omega) only [go_sem]); (try (first | trivial | decide | (simp; done))))
  | true =>
  rw [hs] at hf
  have h60 : l.length ≤ 60 := by simp [fewD] at hs; exact hs.2
  have h100 : ∀ a ∈ l, a.b.l.length ≤ 100 := by simp [fewD] at hs; exact hs.1
  clear hs
  refine top_call c6_ok Try.func6 rfl Try.ntmps6 res6_ok [ .val (.slice ad l.length cap)] (by simp) (by (repeat' (first | exact VRs_nil' _ | exact VR_val' _ _ | (refine VRs_cons' ?_ ?_) | (refine VR_agg' (by first | rfl | assumption) ?_; first | assumption | simp [Value.oneCell', AtD.rep])))) ?_; try simp (maxSteps := 9999999) (disch := omega) only [go_sem]
  refine AWpA.thawT 0 AtC hz (fun x => by simp [AtD.rep, Sl.rep]) rfl ?_
  refine AWpA.dummy ?_
  (repeat' (first | refine AWpA.seq ?_ | refine AWpA.block ?_ | (with_reducible refine CondP.tt ?_) | (with_reducible refine CondP.ff ?_) | refine AWpA.condv (by simp (maxSteps := 9999999) (disch := omega) only [go_sem, hr]; rfl) ?_ | ((first | (apply AWpA.region; (focus (simp (maxSteps := 9999999) (disch := omega) only [go_sem, hr]; rfl))) | (apply AWpA.draw [] [] follows; (focus (first | rfl | decide)); (focus (simp (maxSteps := 9999999) (disch := omega) only [go_sem, hr]; rfl)); (focus (simp (maxSteps := 9999999) (disch := omega) only [go_sem, hr]; first | done | trivial)); (focus (simp (maxSteps := 9999999) (disch := omega) only [go_sem, hr]; rfl))) | (apply TailK.go; (focus (simp (maxSteps := 9999999) (disch := omega) only [go_sem, hr]; rfl))) | refine AWpA.skip ?_ | refine AWpA.exit ?_ | refine AWpA.ret ?_ | (with_reducible refine ARoundsA.succ ?_) | ((first | refine Runs.kt (by assumption) (fun h9 => ?_) | refine Runs.kf (by assumption) (fun h9 => ?_) | refine Runs.nt (by assumption) (fun h9 => ?_) | refine Runs.nf (by assumption) (fun h9 => ?_) | refine CondP.ht (by assumption) (fun h9 => ?_) | refine CondP.hf (by assumption) (fun h9 => ?_) | refine CondP.nt (by assumption) (fun h9 => ?_) | refine CondP.nf (by assumption) (fun h9 => ?_)); (try simp only [h9]); clear h9) | ((first | (with_reducible apply CallG.plain1 [] (speaks06)) | (with_reducible apply CallG.plain1 [0] (hf)) | (with_reducible apply CallG.plain1 [] (dnew_any)) | (with_reducible apply CallG.plain1 [] (rdnew_any)) | (with_reducible apply CallG.draw1 [] (speaks06)) | (with_reducible apply CallG.draw1 [0] (hf)) | (with_reducible apply CallG.draw1 [] (dnew_any)) | (with_reducible apply CallG.draw1 [] (rdnew_any))); (focus ((try refine And.intro (leAs_of_eq rfl) ?_); (try refine And.intro (leOL_of_eq rfl) ?_); simp (maxSteps := 9999999) (disch := omega) only [go_sem, hr]; first | done | (repeat' (first | rfl | (refine And.intro ?_ ?_))))); (focus (simp (maxSteps := 9999999) (disch := omega) only [go_sem, hr]; rfl)))); (try simp (maxSteps := 9999999) (disch := omega) only [go_sem, hr]); (try (refine And.intro ?_ ?_; (focus (first | omega | (simp only [go_sem]; done) | (simp; done) | (simp; omega) | assumption))))) | ((first | refine CondP.split (fun hif => ?_) (fun hif => ?_) | refine Runs.part (fun hif => ?_) (fun hif => ?_)) <;> ((try simp only [hif]); (try simp only [decide_eq_true_eq, decide_eq_false_iff_not, Bool.not_eq_true, Bool.not_eq_false, Bool.not_eq_true', Bool.not_eq_false', beq_iff_eq, bne_iff_ne, bne_eq_false_iff_eq, beq_eq_false_iff_ne, ne_eq, Bool.and_eq_true, Bool.or_eq_true, Bool.or_eq_false_iff] at hif); (try (have h9 : _ = true := hif; simp only [h9])); (try (have h9 : _ = false := hif; simp only [h9])); (try simp (maxSteps := 9999999) (disch := omega) only [go_sem, hr]); (try (refine And.intro ?_ ?_; (focus (first | omega | (simp only [go_sem]; done) | (simp; done) | (simp; omega) | assumption)))); (try (exfalso; omega; done))))))
  (apply AWpA.loopL (fun p : Nat × Dk × List AV => [(3, .ptr 1 0), (4, .ptr 3 0), (21, .sl 0 off l.length 3 none), (22, I l.length), (23, I p.1)]) (fun p => [.cells true (rowsC off AtC l), DkO 2 p.2.1, .cells false (bA p.2.1.l), .cells false [.sl 4 0 p.2.1.l.length 1 none, I (p.2.1.s : Int), Bo p.2.1.off, I p.2.1.left], .cells false p.2.2]) (fun p => l.length - p.1) (fun p => p.1 ≤ l.length ∧ p.2.1.ok ∧ Seg p.2.2 0 p.2.1.l) ((0, ⟨[], 0, false, -1⟩, [])) [0, _, _, _, 1]; rotate_left; (focus (simp (maxSteps := 9999999) (disch := omega) only [go_sem, hr, bA_nil, List.length_nil]; (try (repeat' (first | done | trivial | rfl | exact leAs_rfl _ | decide | (refine And.intro ?_ ?_) | (simp; done) | omega | (simp; decide)))))); rotate_right)
  · exact ⟨Nat.zero_le _, Dk.ok0, Seg.nil⟩
  rintro ⟨i, d, P⟩ ⟨hi, hok, p⟩
  (try simp only at hi hok p)
  by_cases hin : i < l.length
  · have k1 : ((i : Int) < (l.length : Int)) = True := eq_true (by omega)
    have hat := at_at off l i hin
    have hao := hall _ (List.getElem_mem hin)
    have hab := h100 _ (List.getElem_mem hin)
    generalize l[i] = a at *
    obtain ⟨k, n, ⟨bad, boff, bcap, B⟩⟩ := a
    have hzp := hao.b.fz
    have hn2 : n ≤ 9223372036854775807 := hao.n.2
    simp only at hzp hab
    have s := Seg.rows (off := boff) (l := B) (by omega)
    generalize hQ : rowsC boff (fun n : Int => [.val (.int .u8 n)]) B = Q at s
    have a1 := do_any d hok k n p s
    have hok2 := actD_ok hok k n B hn2
    have hsg := actD_seg p k n B
    cases hw : nwD d k n B with
    | false =>
      have p2 := hsg hw
      rw [hw] at a1
      simp only [cond_false] at a1
      clear hsg
      generalize actD d k n B = d2 at *
      have c1 := on_any d2
      have c2 := dlen_any d2
      have c3 := dsafe_any d2
      have hps := p2.seg
      rw [List.drop_zero] at hps
      have hple := p2.le
      have hdl := hok2.l
      cases ho : d2.off with
      | true =>
        have c4 := dread_to (d := d2) (l := []) (e := 11) hok2 (by simp [readL, ho]) (by simp [readE, ho])
        rw [ho] at c1 c4
        simp only [List.length_nil, bA_nil] at c4
        (try simp (maxSteps := 9999999) (disch := omega) only [go_sem])
        (repeat' (first | (refine AWpA.thawO 53 2 (fun n : Int => [.val (.int .u8 n)]) hzp (fun _ => rfl) rfl rfl rfl ?_; (try simp only [hQ, List.set_cons_zero, List.set_cons_succ]); (try simp (maxSteps := 9999999) (disch := omega) only [go_sem, hr, k1, hlen, hat, p.ren, s.ren, ho])) | refine AWpA.seq ?_ | refine AWpA.block ?_ | (with_reducible refine CondP.tt ?_) | (with_reducible refine CondP.ff ?_) | refine AWpA.condv (by simp (maxSteps := 9999999) (disch := omega) only [go_sem, hr, k1, hlen, hat, p.ren, s.ren, ho]; rfl) ?_ | ((first | (apply AWpA.region; (focus (simp (maxSteps := 9999999) (disch := omega) only [go_sem, hr, k1, hlen, hat, p.ren, s.ren, ho]; rfl))) | (apply AWpA.draw [] [] follows; (focus (first | rfl | decide)); (focus (simp (maxSteps := 9999999) (disch := omega) only [go_sem, hr, k1, hlen, hat, p.ren, s.ren, ho]; rfl)); (focus (simp (maxSteps := 9999999) (disch := omega) only [go_sem, hr, k1, hlen, hat, p.ren, s.ren, ho]; first | done | trivial)); (focus (simp (maxSteps := 9999999) (disch := omega) only [go_sem, hr, k1, hlen, hat, p.ren, s.ren, ho]; rfl))) | (apply TailK.go; (focus (simp (maxSteps := 9999999) (disch := omega) only [go_sem, hr, k1, hlen, hat, p.ren, s.ren, ho]; rfl))) | refine AWpA.skip ?_ | refine AWpA.exit ?_ | refine AWpA.ret ?_ | (with_reducible refine ARoundsA.succ ?_) | ((first | refine Runs.kt (by assumption) (fun h9 => ?_) | refine Runs.kf (by assumption) (fun h9 => ?_) | refine Runs.nt (by assumption) (fun h9 => ?_) | refine Runs.nf (by assumption) (fun h9 => ?_) | refine CondP.ht (by assumption) (fun h9 => ?_) | refine CondP.hf (by assumption) (fun h9 => ?_) | refine CondP.nt (by assumption) (fun h9 => ?_) | refine CondP.nf (by assumption) (fun h9 => ?_)); (try simp only [h9]); clear h9) | ((first | (with_reducible apply CallG.plain1 [1, 2, 4, 85] (a1)) | (with_reducible apply CallG.draw1 [1, 2, 4, 85] (a1))); (focus ((try refine And.intro (leAs_of_eq rfl) ?_); (try refine And.intro (leOL_of_eq rfl) ?_); simp (maxSteps := 9999999) (disch := omega) only [go_sem, hr, k1, hlen, hat, p.ren, s.ren, ho]; first | done | (repeat' (first | rfl | (refine And.intro ?_ ?_))))); (focus (simp (maxSteps := 9999999) (disch := omega) only [go_sem, hr, k1, hlen, hat, p.ren, s.ren, ho]; rfl))) | ((first | (with_reducible apply CallG.plain1 [1] (c1)) | (with_reducible apply CallG.draw1 [1] (c1))); (focus ((try refine And.intro (leAs_of_eq rfl) ?_); (try refine And.intro (leOL_of_eq rfl) ?_); simp (maxSteps := 9999999) (disch := omega) only [go_sem, hr, k1, hlen, hat, p.ren, s.ren, ho]; first | done | (repeat' (first | rfl | (refine And.intro ?_ ?_))))); (focus (simp (maxSteps := 9999999) (disch := omega) only [go_sem, hr, k1, hlen, hat, p.ren, s.ren, ho]; rfl))) | ((first | (with_reducible apply CallG.plain1 [1, 134] (c2)) | (with_reducible apply CallG.draw1 [1, 134] (c2))); (focus ((try refine And.intro (leAs_of_eq rfl) ?_); (try refine And.intro (leOL_of_eq rfl) ?_); simp (maxSteps := 9999999) (disch := omega) only [go_sem, hr, k1, hlen, hat, p.ren, s.ren, ho]; first | done | (repeat' (first | rfl | (refine And.intro ?_ ?_))))); (focus (simp (maxSteps := 9999999) (disch := omega) only [go_sem, hr, k1, hlen, hat, p.ren, s.ren, ho]; rfl))) | ((first | (with_reducible apply CallG.plain1 [1] (c3)) | (with_reducible apply CallG.draw1 [1] (c3))); (focus ((try refine And.intro (leAs_of_eq rfl) ?_); (try refine And.intro (leOL_of_eq rfl) ?_); simp (maxSteps := 9999999) (disch := omega) only [go_sem, hr, k1, hlen, hat, p.ren, s.ren, ho]; first | done | (repeat' (first | rfl | (refine And.intro ?_ ?_))))); (focus (simp (maxSteps := 9999999) (disch := omega) only [go_sem, hr, k1, hlen, hat, p.ren, s.ren, ho]; rfl))) | ((first | (with_reducible apply CallG.plain1 [1, 134] (c4)) | (with_reducible apply CallG.draw1 [1, 134] (c4))); (focus ((try refine And.intro (leAs_of_eq rfl) ?_); (try refine And.intro (leOL_of_eq rfl) ?_); simp (maxSteps := 9999999) (disch := omega) only [go_sem, hr, k1, hlen, hat, p.ren, s.ren, ho]; first | done | (repeat' (first | rfl | (refine And.intro ?_ ?_))))); (focus (simp (maxSteps := 9999999) (disch := omega) only [go_sem, hr, k1, hlen, hat, p.ren, s.ren, ho]; rfl)))); (try simp (maxSteps := 9999999) (disch := omega) only [go_sem, hr, k1, hlen, hat, p.ren, s.ren, ho]); (try (refine And.intro ?_ ?_; (focus (first | omega | (simp only [go_sem]; done) | (simp; done) | (simp; omega) | assumption))))) | ((first | refine CondP.split (fun hif => ?_) (fun hif => ?_) | refine Runs.part (fun hif => ?_) (fun hif => ?_)) <;> ((try simp only [hif]); (try simp only [decide_eq_true_eq, decide_eq_false_iff_not, Bool.not_eq_true, Bool.not_eq_false, Bool.not_eq_true', Bool.not_eq_false', beq_iff_eq, bne_iff_ne, bne_eq_false_iff_eq, beq_eq_false_iff_ne, ne_eq, Bool.and_eq_true, Bool.or_eq_true, Bool.or_eq_false_iff] at hif); (try (have h9 : _ = true := hif; simp only [h9])); (try (have h9 : _ = false := hif; simp only [h9])); (try simp (maxSteps := 9999999) (disch := omega) only [go_sem, hr, k1, hlen, hat, p.ren, s.ren, ho]); (try (refine And.intro ?_ ?_; (focus (first | omega | (simp only [go_sem]; done) | (simp; done) | (simp; omega) | assumption)))); (try (exfalso; omega; done))))))
        (apply Back.to (i + 1, d2, P) [0, 1, 134, 3, 4]; (focus ((try simp (maxSteps := 9999999) (disch := omega) only [go_sem, hr, p.ren, ho]); first | done | omega)); rotate_left; (focus (simp (maxSteps := 9999999) (disch := omega) only [go_sem, hr, p.ren, ho]; (try (repeat' (first | done | trivial | rfl | exact leAs_rfl _ | decide | (refine And.intro ?_ ?_) | (simp; done) | omega | (simp; decide)))))))
        exact ⟨by simp only; omega, hok2, p2⟩
      | false =>
        have c4 := dread_to (d := d2) (l := d2.l) (e := 0) hok2 (by simp [readL, ho]) (by simp [readE, ho])
        rw [ho] at c1 c4
        (try simp (maxSteps := 9999999) (disch := omega) only [go_sem])
        (repeat' (first | (refine AWpA.thawO 53 2 (fun n : Int => [.val (.int .u8 n)]) hzp (fun _ => rfl) rfl rfl rfl ?_; (try simp only [hQ, List.set_cons_zero, List.set_cons_succ]); (try simp (maxSteps := 9999999) (disch := omega) only [go_sem, hr, k1, hlen, hat, p.ren, s.ren, ho, hps])) | refine AWpA.seq ?_ | refine AWpA.block ?_ | (with_reducible refine CondP.tt ?_) | (with_reducible refine CondP.ff ?_) | refine AWpA.condv (by simp (maxSteps := 9999999) (disch := omega) only [go_sem, hr, k1, hlen, hat, p.ren, s.ren, ho, hps]; rfl) ?_ | ((first | (apply AWpA.region; (focus (simp (maxSteps := 9999999) (disch := omega) only [go_sem, hr, k1, hlen, hat, p.ren, s.ren, ho, hps]; rfl))) | (apply AWpA.draw [] [] follows; (focus (first | rfl | decide)); (focus (simp (maxSteps := 9999999) (disch := omega) only [go_sem, hr, k1, hlen, hat, p.ren, s.ren, ho, hps]; rfl)); (focus (simp (maxSteps := 9999999) (disch := omega) only [go_sem, hr, k1, hlen, hat, p.ren, s.ren, ho, hps]; first | done | trivial)); (focus (simp (maxSteps := 9999999) (disch := omega) only [go_sem, hr, k1, hlen, hat, p.ren, s.ren, ho, hps]; rfl))) | (apply TailK.go; (focus (simp (maxSteps := 9999999) (disch := omega) only [go_sem, hr, k1, hlen, hat, p.ren, s.ren, ho, hps]; rfl))) | refine AWpA.skip ?_ | refine AWpA.exit ?_ | refine AWpA.ret ?_ | (with_reducible refine ARoundsA.succ ?_) | ((first | refine Runs.kt (by assumption) (fun h9 => ?_) | refine Runs.kf (by assumption) (fun h9 => ?_) | refine Runs.nt (by assumption) (fun h9 => ?_) | refine Runs.nf (by assumption) (fun h9 => ?_) | refine CondP.ht (by assumption) (fun h9 => ?_) | refine CondP.hf (by assumption) (fun h9 => ?_) | refine CondP.nt (by assumption) (fun h9 => ?_) | refine CondP.nf (by assumption) (fun h9 => ?_)); (try simp only [h9]); clear h9) | ((first | (with_reducible apply CallG.plain1 [1, 2, 4, 85] (a1)) | (with_reducible apply CallG.draw1 [1, 2, 4, 85] (a1))); (focus ((try refine And.intro (leAs_of_eq rfl) ?_); (try refine And.intro (leOL_of_eq rfl) ?_); simp (maxSteps := 9999999) (disch := omega) only [go_sem, hr, k1, hlen, hat, p.ren, s.ren, ho, hps]; first | done | (repeat' (first | rfl | (refine And.intro ?_ ?_))))); (focus (simp (maxSteps := 9999999) (disch := omega) only [go_sem, hr, k1, hlen, hat, p.ren, s.ren, ho, hps]; rfl))) | ((first | (with_reducible apply CallG.plain1 [1] (c1)) | (with_reducible apply CallG.draw1 [1] (c1))); (focus ((try refine And.intro (leAs_of_eq rfl) ?_); (try refine And.intro (leOL_of_eq rfl) ?_); simp (maxSteps := 9999999) (disch := omega) only [go_sem, hr, k1, hlen, hat, p.ren, s.ren, ho, hps]; first | done | (repeat' (first | rfl | (refine And.intro ?_ ?_))))); (focus (simp (maxSteps := 9999999) (disch := omega) only [go_sem, hr, k1, hlen, hat, p.ren, s.ren, ho, hps]; rfl))) | ((first | (with_reducible apply CallG.plain1 [1, 134] (c2)) | (with_reducible apply CallG.draw1 [1, 134] (c2))); (focus ((try refine And.intro (leAs_of_eq rfl) ?_); (try refine And.intro (leOL_of_eq rfl) ?_); simp (maxSteps := 9999999) (disch := omega) only [go_sem, hr, k1, hlen, hat, p.ren, s.ren, ho, hps]; first | done | (repeat' (first | rfl | (refine And.intro ?_ ?_))))); (focus (simp (maxSteps := 9999999) (disch := omega) only [go_sem, hr, k1, hlen, hat, p.ren, s.ren, ho, hps]; rfl))) | ((first | (with_reducible apply CallG.plain1 [1] (c3)) | (with_reducible apply CallG.draw1 [1] (c3))); (focus ((try refine And.intro (leAs_of_eq rfl) ?_); (try refine And.intro (leOL_of_eq rfl) ?_); simp (maxSteps := 9999999) (disch := omega) only [go_sem, hr, k1, hlen, hat, p.ren, s.ren, ho, hps]; first | done | (repeat' (first | rfl | (refine And.intro ?_ ?_))))); (focus (simp (maxSteps := 9999999) (disch := omega) only [go_sem, hr, k1, hlen, hat, p.ren, s.ren, ho, hps]; rfl))) | ((first | (with_reducible apply CallG.plain1 [1, 134] (c4)) | (with_reducible apply CallG.draw1 [1, 134] (c4))); (focus ((try refine And.intro (leAs_of_eq rfl) ?_); (try refine And.intro (leOL_of_eq rfl) ?_); simp (maxSteps := 9999999) (disch := omega) only [go_sem, hr, k1, hlen, hat, p.ren, s.ren, ho, hps]; first | done | (repeat' (first | rfl | (refine And.intro ?_ ?_))))); (focus (simp (maxSteps := 9999999) (disch := omega) only [go_sem, hr, k1, hlen, hat, p.ren, s.ren, ho, hps]; rfl)))); (try simp (maxSteps := 9999999) (disch := omega) only [go_sem, hr, k1, hlen, hat, p.ren, s.ren, ho, hps]); (try (refine And.intro ?_ ?_; (focus (first | omega | (simp only [go_sem]; done) | (simp; done) | (simp; omega) | assumption))))) | ((first | refine CondP.split (fun hif => ?_) (fun hif => ?_) | refine Runs.part (fun hif => ?_) (fun hif => ?_)) <;> ((try simp only [hif]); (try simp only [decide_eq_true_eq, decide_eq_false_iff_not, Bool.not_eq_true, Bool.not_eq_false, Bool.not_eq_true', Bool.not_eq_false', beq_iff_eq, bne_iff_ne, bne_eq_false_iff_eq, beq_eq_false_iff_ne, ne_eq, Bool.and_eq_true, Bool.or_eq_true, Bool.or_eq_false_iff] at hif); (try (have h9 : _ = true := hif; simp only [h9])); (try (have h9 : _ = false := hif; simp only [h9])); (try simp (maxSteps := 9999999) (disch := omega) only [go_sem, hr, k1, hlen, hat, p.ren, s.ren, ho, hps]); (try (refine And.intro ?_ ?_; (focus (first | omega | (simp only [go_sem]; done) | (simp; done) | (simp; omega) | assumption)))); (try (exfalso; omega; done))))))
        (apply Back.to (i + 1, d2, P) [0, 1, 134, 3, 4]; (focus ((try simp (maxSteps := 9999999) (disch := omega) only [go_sem, hr, p.ren, ho]); first | done | omega)); rotate_left; (focus (simp (maxSteps := 9999999) (disch := omega) only [go_sem, hr, p.ren, ho]; (try (repeat' (first | done | trivial | rfl | exact leAs_rfl _ | decide | (refine And.intro ?_ ?_) | (simp; done) | omega | (simp; decide)))))))
        exact ⟨by simp only; omega, hok2, p2⟩
    | true =>
      rw [hw] at a1
      simp only [cond_true] at a1
      clear hsg
      generalize actD d k n B = d2 at *
      have p2 := Seg.all d2.l (by have := hok2.l; omega)
      have c1 := on_any d2
      have c2 := dlen_any d2
      have c3 := dsafe_any d2
      have hps := p2.seg
      rw [List.drop_zero] at hps
      have hple := p2.le
      have hdl := hok2.l
      cases ho : d2.off with
      | true =>
        have c4 := dread_to (d := d2) (l := []) (e := 11) hok2 (by simp [readL, ho]) (by simp [readE, ho])
        rw [ho] at c1 c4
        simp only [List.length_nil, bA_nil] at c4
        (try simp (maxSteps := 9999999) (disch := omega) only [go_sem])
        (repeat' (first | (refine AWpA.thawO 53 2 (fun n : Int => [.val (.int .u8 n)]) hzp (fun _ => rfl) rfl rfl rfl ?_; (try simp only [hQ, List.set_cons_zero, List.set_cons_succ]); (try simp (maxSteps := 9999999) (disch := omega) only [go_sem, hr, k1, hlen, hat, p.ren, s.ren, ho])) | refine AWpA.seq ?_ | refine AWpA.block ?_ | (with_reducible refine CondP.tt ?_) | (with_reducible refine CondP.ff ?_) | refine AWpA.condv (by simp (maxSteps := 9999999) (disch := omega) only [go_sem, hr, k1, hlen, hat, p.ren, s.ren, ho]; rfl) ?_ | ((first | (apply AWpA.region; (focus (simp (maxSteps := 9999999) (disch := omega) only [go_sem, hr, k1, hlen, hat, p.ren, s.ren, ho]; rfl))) | (apply AWpA.draw [] [] follows; (focus (first | rfl | decide)); (focus (simp (maxSteps := 9999999) (disch := omega) only [go_sem, hr, k1, hlen, hat, p.ren, s.ren, ho]; rfl)); (focus (simp (maxSteps := 9999999) (disch := omega) only [go_sem, hr, k1, hlen, hat, p.ren, s.ren, ho]; first | done | trivial)); (focus (simp (maxSteps := 9999999) (disch := omega) only [go_sem, hr, k1, hlen, hat, p.ren, s.ren, ho]; rfl))) | (apply TailK.go; (focus (simp (maxSteps := 9999999) (disch := omega) only [go_sem, hr, k1, hlen, hat, p.ren, s.ren, ho]; rfl))) | refine AWpA.skip ?_ | refine AWpA.exit ?_ | refine AWpA.ret ?_ | (with_reducible refine ARoundsA.succ ?_) | ((first | refine Runs.kt (by assumption) (fun h9 => ?_) | refine Runs.kf (by assumption) (fun h9 => ?_) | refine Runs.nt (by assumption) (fun h9 => ?_) | refine Runs.nf (by assumption) (fun h9 => ?_) | refine CondP.ht (by assumption) (fun h9 => ?_) | refine CondP.hf (by assumption) (fun h9 => ?_) | refine CondP.nt (by assumption) (fun h9 => ?_) | refine CondP.nf (by assumption) (fun h9 => ?_)); (try simp only [h9]); clear h9) | ((first | (with_reducible apply CallG.plain1 [1, 2, 4, 85] (a1)) | (with_reducible apply CallG.draw1 [1, 2, 4, 85] (a1))); (focus ((try refine And.intro (leAs_of_eq rfl) ?_); (try refine And.intro (leOL_of_eq rfl) ?_); simp (maxSteps := 9999999) (disch := omega) only [go_sem, hr, k1, hlen, hat, p.ren, s.ren, ho]; first | done | (repeat' (first | rfl | (refine And.intro ?_ ?_))))); (focus (simp (maxSteps := 9999999) (disch := omega) only [go_sem, hr, k1, hlen, hat, p.ren, s.ren, ho]; rfl))) | ((first | (with_reducible apply CallG.plain1 [1] (c1)) | (with_reducible apply CallG.draw1 [1] (c1))); (focus ((try refine And.intro (leAs_of_eq rfl) ?_); (try refine And.intro (leOL_of_eq rfl) ?_); simp (maxSteps := 9999999) (disch := omega) only [go_sem, hr, k1, hlen, hat, p.ren, s.ren, ho]; first | done | (repeat' (first | rfl | (refine And.intro ?_ ?_))))); (focus (simp (maxSteps := 9999999) (disch := omega) only [go_sem, hr, k1, hlen, hat, p.ren, s.ren, ho]; rfl))) | ((first | (with_reducible apply CallG.plain1 [1, 134] (c2)) | (with_reducible apply CallG.draw1 [1, 134] (c2))); (focus ((try refine And.intro (leAs_of_eq rfl) ?_); (try refine And.intro (leOL_of_eq rfl) ?_); simp (maxSteps := 9999999) (disch := omega) only [go_sem, hr, k1, hlen, hat, p.ren, s.ren, ho]; first | done | (repeat' (first | rfl | (refine And.intro ?_ ?_))))); (focus (simp (maxSteps := 9999999) (disch := omega) only [go_sem, hr, k1, hlen, hat, p.ren, s.ren, ho]; rfl))) | ((first | (with_reducible apply CallG.plain1 [1] (c3)) | (with_reducible apply CallG.draw1 [1] (c3))); (focus ((try refine And.intro (leAs_of_eq rfl) ?_); (try refine And.intro (leOL_of_eq rfl) ?_); simp (maxSteps := 9999999) (disch := omega) only [go_sem, hr, k1, hlen, hat, p.ren, s.ren, ho]; first | done | (repeat' (first | rfl | (refine And.intro ?_ ?_))))); (focus (simp (maxSteps := 9999999) (disch := omega) only [go_sem, hr, k1, hlen, hat, p.ren, s.ren, ho]; rfl))) | ((first | (with_reducible apply CallG.plain1 [1, 134] (c4)) | (with_reducible apply CallG.draw1 [1, 134] (c4))); (focus ((try refine And.intro (leAs_of_eq rfl) ?_); (try refine And.intro (leOL_of_eq rfl) ?_); simp (maxSteps := 9999999) (disch := omega) only [go_sem, hr, k1, hlen, hat, p.ren, s.ren, ho]; first | done | (repeat' (first | rfl | (refine And.intro ?_ ?_))))); (focus (simp (maxSteps := 9999999) (disch := omega) only [go_sem, hr, k1, hlen, hat, p.ren, s.ren, ho]; rfl)))); (try simp (maxSteps := 9999999) (disch := omega) only [go_sem, hr, k1, hlen, hat, p.ren, s.ren, ho]); (try (refine And.intro ?_ ?_; (focus (first | omega | (simp only [go_sem]; done) | (simp; done) | (simp; omega) | assumption))))) | ((first | refine CondP.split (fun hif => ?_) (fun hif => ?_) | refine Runs.part (fun hif => ?_) (fun hif => ?_)) <;> ((try simp only [hif]); (try simp only [decide_eq_true_eq, decide_eq_false_iff_not, Bool.not_eq_true, Bool.not_eq_false, Bool.not_eq_true', Bool.not_eq_false', beq_iff_eq, bne_iff_ne, bne_eq_false_iff_eq, beq_eq_false_iff_ne, ne_eq, Bool.and_eq_true, Bool.or_eq_true, Bool.or_eq_false_iff] at hif); (try (have h9 : _ = true := hif; simp only [h9])); (try (have h9 : _ = false := hif; simp only [h9])); (try simp (maxSteps := 9999999) (disch := omega) only [go_sem, hr, k1, hlen, hat, p.ren, s.ren, ho]); (try (refine And.intro ?_ ?_; (focus (first | omega | (simp only [go_sem]; done) | (simp; done) | (simp; omega) | assumption)))); (try (exfalso; omega; done))))))
        (apply Back.to (i + 1, d2, bA d2.l) [0, 1, 134, 3, 135]; (focus ((try simp (maxSteps := 9999999) (disch := omega) only [go_sem, hr, p.ren, ho]); first | done | omega)); rotate_left; (focus (simp (maxSteps := 9999999) (disch := omega) only [go_sem, hr, p.ren, ho]; (try (repeat' (first | done | trivial | rfl | exact leAs_rfl _ | decide | (refine And.intro ?_ ?_) | (simp; done) | omega | (simp; decide)))))))
        exact ⟨by simp only; omega, hok2, p2⟩
      | false =>
        have c4 := dread_to (d := d2) (l := d2.l) (e := 0) hok2 (by simp [readL, ho]) (by simp [readE, ho])
        rw [ho] at c1 c4
        (try simp (maxSteps := 9999999) (disch := omega) only [go_sem])
        (repeat' (first | (refine AWpA.thawO 53 2 (fun n : Int => [.val (.int .u8 n)]) hzp (fun _ => rfl) rfl rfl rfl ?_; (try simp only [hQ, List.set_cons_zero, List.set_cons_succ]); (try simp (maxSteps := 9999999) (disch := omega) only [go_sem, hr, k1, hlen, hat, p.ren, s.ren, ho, hps])) | refine AWpA.seq ?_ | refine AWpA.block ?_ | (with_reducible refine CondP.tt ?_) | (with_reducible refine CondP.ff ?_) | refine AWpA.condv (by simp (maxSteps := 9999999) (disch := omega) only [go_sem, hr, k1, hlen, hat, p.ren, s.ren, ho, hps]; rfl) ?_ | ((first | (apply AWpA.region; (focus (simp (maxSteps := 9999999) (disch := omega) only [go_sem, hr, k1, hlen, hat, p.ren, s.ren, ho, hps]; rfl))) | (apply AWpA.draw [] [] follows; (focus (first | rfl | decide)); (focus (simp (maxSteps := 9999999) (disch := omega) only [go_sem, hr, k1, hlen, hat, p.ren, s.ren, ho, hps]; rfl)); (focus (simp (maxSteps := 9999999) (disch := omega) only [go_sem, hr, k1, hlen, hat, p.ren, s.ren, ho, hps]; first | done | trivial)); (focus (simp (maxSteps := 9999999) (disch := omega) only [go_sem, hr, k1, hlen, hat, p.ren, s.ren, ho, hps]; rfl))) | (apply TailK.go; (focus (simp (maxSteps := 9999999) (disch := omega) only [go_sem, hr, k1, hlen, hat, p.ren, s.ren, ho, hps]; rfl))) | refine AWpA.skip ?_ | refine AWpA.exit ?_ | refine AWpA.ret ?_ | (with_reducible refine ARoundsA.succ ?_) | ((first | refine Runs.kt (by assumption) (fun h9 => ?_) | refine Runs.kf (by assumption) (fun h9 => ?_) | refine Runs.nt (by assumption) (fun h9 => ?_) | refine Runs.nf (by assumption) (fun h9 => ?_) | refine CondP.ht (by assumption) (fun h9 => ?_) | refine CondP.hf (by assumption) (fun h9 => ?_) | refine CondP.nt (by assumption) (fun h9 => ?_) | refine CondP.nf (by assumption) (fun h9 => ?_)); (try simp only [h9]); clear h9) | ((first | (with_reducible apply CallG.plain1 [1, 2, 4, 85] (a1)) | (with_reducible apply CallG.draw1 [1, 2, 4, 85] (a1))); (focus ((try refine And.intro (leAs_of_eq rfl) ?_); (try refine And.intro (leOL_of_eq rfl) ?_); simp (maxSteps := 9999999) (disch := omega) only [go_sem, hr, k1, hlen, hat, p.ren, s.ren, ho, hps]; first | done | (repeat' (first | rfl | (refine And.intro ?_ ?_))))); (focus (simp (maxSteps := 9999999) (disch := omega) only [go_sem, hr, k1, hlen, hat, p.ren, s.ren, ho, hps]; rfl))) | ((first | (with_reducible apply CallG.plain1 [1] (c1)) | (with_reducible apply CallG.draw1 [1] (c1))); (focus ((try refine And.intro (leAs_of_eq rfl) ?_); (try refine And.intro (leOL_of_eq rfl) ?_); simp (maxSteps := 9999999) (disch := omega) only [go_sem, hr, k1, hlen, hat, p.ren, s.ren, ho, hps]; first | done | (repeat' (first | rfl | (refine And.intro ?_ ?_))))); (focus (simp (maxSteps := 9999999) (disch := omega) only [go_sem, hr, k1, hlen, hat, p.ren, s.ren, ho, hps]; rfl))) | ((first | (with_reducible apply CallG.plain1 [1, 134] (c2)) | (with_reducible apply CallG.draw1 [1, 134] (c2))); (focus ((try refine And.intro (leAs_of_eq rfl) ?_); (try refine And.intro (leOL_of_eq rfl) ?_); simp (maxSteps := 9999999) (disch := omega) only [go_sem, hr, k1, hlen, hat, p.ren, s.ren, ho, hps]; first | done | (repeat' (first | rfl | (refine And.intro ?_ ?_))))); (focus (simp (maxSteps := 9999999) (disch := omega) only [go_sem, hr, k1, hlen, hat, p.ren, s.ren, ho, hps]; rfl))) | ((first | (with_reducible apply CallG.plain1 [1] (c3)) | (with_reducible apply CallG.draw1 [1] (c3))); (focus ((try refine And.intro (leAs_of_eq rfl) ?_); (try refine And.intro (leOL_of_eq rfl) ?_); simp (maxSteps := 9999999) (disch := omega) only [go_sem, hr, k1, hlen, hat, p.ren, s.ren, ho, hps]; first | done | (repeat' (first | rfl | (refine And.intro ?_ ?_))))); (focus (simp (maxSteps := 9999999) (disch := omega) only [go_sem, hr, k1, hlen, hat, p.ren, s.ren, ho, hps]; rfl))) | ((first | (with_reducible apply CallG.plain1 [1, 134] (c4)) | (with_reducible apply CallG.draw1 [1, 134] (c4))); (focus ((try refine And.intro (leAs_of_eq rfl) ?_); (try refine And.intro (leOL_of_eq rfl) ?_); simp (maxSteps := 9999999) (disch := omega) only [go_sem, hr, k1, hlen, hat, p.ren, s.ren, ho, hps]; first | done | (repeat' (first | rfl | (refine And.intro ?_ ?_))))); (focus (simp (maxSteps := 9999999) (disch := omega) only [go_sem, hr, k1, hlen, hat, p.ren, s.ren, ho, hps]; rfl)))); (try simp (maxSteps := 9999999) (disch := omega) only [go_sem, hr, k1, hlen, hat, p.ren, s.ren, ho, hps]); (try (refine And.intro ?_ ?_; (focus (first | omega | (simp only [go_sem]; done) | (simp; done) | (simp; omega) | assumption))))) | ((first | refine CondP.split (fun hif => ?_) (fun hif => ?_) | refine Runs.part (fun hif => ?_) (fun hif => ?_)) <;> ((try simp only [hif]); (try simp only [decide_eq_true_eq, decide_eq_false_iff_not, Bool.not_eq_true, Bool.not_eq_false, Bool.not_eq_true', Bool.not_eq_false', beq_iff_eq, bne_iff_ne, bne_eq_false_iff_eq, beq_eq_false_iff_ne, ne_eq, Bool.and_eq_true, Bool.or_eq_true, Bool.or_eq_false_iff] at hif); (try (have h9 : _ = true := hif; simp only [h9])); (try (have h9 : _ = false := hif; simp only [h9])); (try simp (maxSteps := 9999999) (disch := omega) only [go_sem, hr, k1, hlen, hat, p.ren, s.ren, ho, hps]); (try (refine And.intro ?_ ?_; (focus (first | omega | (simp only [go_sem]; done) | (simp; done) | (simp; omega) | assumption)))); (try (exfalso; omega; done))))))
        (apply Back.to (i + 1, d2, bA d2.l) [0, 1, 134, 3, 135]; (focus ((try simp (maxSteps := 9999999) (disch := omega) only [go_sem, hr, p.ren, ho]); first | done | omega)); rotate_left; (focus (simp (maxSteps := 9999999) (disch := omega) only [go_sem, hr, p.ren, ho]; (try (repeat' (first | done | trivial | rfl | exact leAs_rfl _ | decide | (refine And.intro ?_ ?_) | (simp; done) | omega | (simp; decide)))))))
        exact ⟨by simp only; omega, hok2, p2⟩
  · obtain rfl : i = l.length := by omega
    have k1 : ((l.length : Int) < (l.length : Int)) = False := eq_false (by omega)
    (try simp (maxSteps := 9999999) (disch := omega) only [go_sem])
    (repeat' (first | refine AWpA.seq ?_ | refine AWpA.block ?_ | (with_reducible refine CondP.tt ?_) | (with_reducible refine CondP.ff ?_) | refine AWpA.condv (by simp (maxSteps := 9999999) (disch := omega) only [go_sem, hr, k1]; rfl) ?_ | ((first | (apply AWpA.region; (focus (simp (maxSteps := 9999999) (disch := omega) only [go_sem, hr, k1]; rfl))) | (apply AWpA.draw [] [] follows; (focus (first | rfl | decide)); (focus (simp (maxSteps := 9999999) (disch := omega) only [go_sem, hr, k1]; rfl)); (focus (simp (maxSteps := 9999999) (disch := omega) only [go_sem, hr, k1]; first | done | trivial)); (focus (simp (maxSteps := 9999999) (disch := omega) only [go_sem, hr, k1]; rfl))) | (apply TailK.go; (focus (simp (maxSteps := 9999999) (disch := omega) only [go_sem, hr, k1]; rfl))) | refine AWpA.skip ?_ | refine AWpA.exit ?_ | refine AWpA.ret ?_ | (with_reducible refine ARoundsA.succ ?_) | ((first | refine Runs.kt (by assumption) (fun h9 => ?_) | refine Runs.kf (by assumption) (fun h9 => ?_) | refine Runs.nt (by assumption) (fun h9 => ?_) | refine Runs.nf (by assumption) (fun h9 => ?_) | refine CondP.ht (by assumption) (fun h9 => ?_) | refine CondP.hf (by assumption) (fun h9 => ?_) | refine CondP.nt (by assumption) (fun h9 => ?_) | refine CondP.nf (by assumption) (fun h9 => ?_)); (try simp only [h9]); clear h9)); (try simp (maxSteps := 9999999) (disch := omega) only [go_sem, hr, k1]); (try (refine And.intro ?_ ?_; (focus (first | omega | (simp only [go_sem]; done) | (simp; done) | (simp; omega) | assumption))))) | ((first | refine CondP.split (fun hif => ?_) (fun hif => ?_) | refine Runs.part (fun hif => ?_) (fun hif => ?_)) <;> ((try simp only [hif]); (try simp only [decide_eq_true_eq, decide_eq_false_iff_not, Bool.not_eq_true, Bool.not_eq_false, Bool.not_eq_true', Bool.not_eq_false', beq_iff_eq, bne_iff_ne, bne_eq_false_iff_eq, beq_eq_false_iff_ne, ne_eq, Bool.and_eq_true, Bool.or_eq_true, Bool.or_eq_false_iff] at hif); (try (have h9 : _ = true := hif; simp only [h9])); (try (have h9 : _ = false := hif; simp only [h9])); (try simp (maxSteps := 9999999) (disch := omega) only [go_sem, hr, k1]); (try (refine And.intro ?_ ?_; (focus (first | omega | (simp only [go_sem]; done) | (simp; done) | (simp; omega) | assumption)))); (try (exfalso; omega; done))))))
    (refine TopPost.of (by first | exact .inl rfl | exact .inr rfl) (by (try simp (maxSteps := 9999999) (disch := omega) only [go_sem]); rfl) ?_; (try simp (maxSteps := 9999999) (disch := omega) only [go_sem]); (try (first | trivial | decide | (simp; done))))
end Go.Proofs.Ytnadhhmlehifnaa
