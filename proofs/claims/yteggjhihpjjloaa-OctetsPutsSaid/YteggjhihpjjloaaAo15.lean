/- Contracts: puts that are few; what a put does to a writer. -/
import Derived.Test.YteggjhihpjjloaaAo14
namespace Go.Proofs.Yteggjhihpjjloaa
set_option linter.unusedSimpArgs false
set_option linter.unusedVariables false
set_option maxHeartbeats 4000000
open Go Go.Am Go.RowKit Go.ChangeShapes Go.WideShapes Go.ChangeAt
set_option maxRecDepth 100000
/-- A call of a writer. -/
structure Pt where
  k : Int
  w : Int
  v : Int
  b : Sl Int
def Pt.rep (a : Pt) : List Value := (fun n : Int => [.int .i64 n]) a.k ++ (fun n : Int => [.int .i64 n]) a.w ++ (fun n : Int => [.int .u64 n]) a.v ++ (fun s : Sl (Int) => s.rep) a.b
structure Pt.ok (W : World) (a : Pt) : Prop where
  k : (fun n : Int => IntKind.i64.min ≤ n ∧ n ≤ IntKind.i64.max) a.k
  w : (fun n : Int => IntKind.i64.min ≤ n ∧ n ≤ IntKind.i64.max) a.w
  v : (fun n : Int => IntKind.u64.min ≤ n ∧ n ≤ IntKind.u64.max) a.v
  b : (Sl.ok W 1 (fun n : Int => [.int .u8 n]) (fun n : Int => IntKind.u8.min ≤ n ∧ n ≤ IntKind.u8.max)) a.b
set_option maxRecDepth 100000 in
theorem rd_Pt {H : Type} {enc : TypeId × Value → H} {W : World} {base : Nat} {held : Bool} : Rd enc Try.prog W base held 58 Pt.rep (Pt.ok W) := fun n cs x h => by
  obtain ⟨xs, n1, _, _, hlen, hx, hf⟩ := DataW.trod_struct Try.underlying58 h
  rw [show Try.prog.cellsOf 58 = 4 by kernel_rfl] at hlen
  have f0 : DataW.trod enc Try.prog W base (fun _ => true) held n1 3 ((cs.drop 0).take (Try.prog.cellsOf 3)) = xs[0]? := hf 0 _ rfl
  rw [show Try.prog.cellsOf 3 = 1 by kernel_rfl] at f0
  obtain ⟨y0, h0⟩ := at_some2 hx (by decide) f0
  obtain ⟨g0, a0, e0, w0⟩ := (rd_int Try.underlying3 : Rd _ _ _ _ _ _ (fun n : Int => [.int .i64 n]) (fun n : Int => IntKind.i64.min ≤ n ∧ n ≤ IntKind.i64.max)) _ _ _ h0
  have f1 : DataW.trod enc Try.prog W base (fun _ => true) held n1 3 ((cs.drop 1).take (Try.prog.cellsOf 3)) = xs[1]? := hf 1 _ rfl
  rw [show Try.prog.cellsOf 3 = 1 by kernel_rfl] at f1
  obtain ⟨y1, h1⟩ := at_some2 hx (by decide) f1
  obtain ⟨g1, a1, e1, w1⟩ := (rd_int Try.underlying3 : Rd _ _ _ _ _ _ (fun n : Int => [.int .i64 n]) (fun n : Int => IntKind.i64.min ≤ n ∧ n ≤ IntKind.i64.max)) _ _ _ h1
  have f2 : DataW.trod enc Try.prog W base (fun _ => true) held n1 56 ((cs.drop 2).take (Try.prog.cellsOf 56)) = xs[2]? := hf 2 _ rfl
  rw [show Try.prog.cellsOf 56 = 1 by kernel_rfl] at f2
  obtain ⟨y2, h2⟩ := at_some2 hx (by decide) f2
  obtain ⟨g2, a2, e2, w2⟩ := (rd_int Try.underlying56 : Rd _ _ _ _ _ _ (fun n : Int => [.int .u64 n]) (fun n : Int => IntKind.u64.min ≤ n ∧ n ≤ IntKind.u64.max)) _ _ _ h2
  have f3 : DataW.trod enc Try.prog W base (fun _ => true) held n1 51 ((cs.drop 3).take (Try.prog.cellsOf 51)) = xs[3]? := hf 3 _ rfl
  rw [show Try.prog.cellsOf 51 = 1 by kernel_rfl] at f3
  obtain ⟨y3, h3⟩ := at_some2 hx (by decide) f3
  obtain ⟨g3, a3, e3, w3⟩ := (rd_slice Try.underlying51 (show Try.prog.cellsOf 5 = 1 by kernel_rfl) (by decide) (rd_int Try.underlying5) : Rd _ _ _ _ _ _ (fun s : Sl (Int) => s.rep) (Sl.ok W 1 (fun n : Int => [.int .u8 n]) (fun n : Int => IntKind.u8.min ≤ n ∧ n ≤ IntKind.u8.max))) _ _ _ h3
  match cs, hlen with
  | [c0, c1, c2, c3], _ =>
    simp [Sl.rep, Pt.rep] at e0 g0
    simp [Sl.rep, Pt.rep] at e1 g1
    simp [Sl.rep, Pt.rep] at e2 g2
    simp [Sl.rep, Pt.rep] at e3 g3
    exact ⟨by simp [*, Value.oneCell'], ⟨a0, a1, a2, a3⟩, by simp [Sl.rep, Pt.rep, *], ⟨w0, w1, w2, w3⟩⟩
abbrev PtC (p : Pt) : List AV := [I p.k, I p.w, U64 p.v, .val (.slice p.b.ad p.b.l.length p.b.cap)]
def few300 (l : List Pt) : Bool := l.all fun p => decide (p.b.l.length ≤ 300)
def fewB (l : List Pt) : Bool := few300 l && decide (l.length ≤ 40)
theorem few300_drop {l : List Pt} {i : Nat} (h : i < l.length) : few300 (l.drop i) = (decide (l[i].b.l.length ≤ 300) && few300 (l.drop (i + 1))) := by
  rw [List.drop_eq_getElem_cons h]
  rfl
/- quidnunc/quidnunclaw01.few -/
noncomputable def c34_1 : ACode := .region false [⟨some 2, .move, [.c (.val (.bool false))], none⟩] [] [] [0] false [] []
noncomputable def c34_4 : ACode := .region false [⟨some 5, .move, [.t 0], none⟩,
  ⟨some 6, .len, [.t 5], none⟩,
  ⟨some 7, .move, [.c (.val (.int .i64 0))], none⟩] [] [] [0, 5, 6, 7] false [] []
noncomputable def c34_8 : ACode := .region false [⟨some 8, .bin .lss, [.t 7, .t 6], none⟩] [] [] [0, 5, 6, 7, 8] false [] []
noncomputable def c34_10 : ACode := .cond (.t 8) .skip (.exit 0)
noncomputable def c34_14 : ACode := .region false [⟨some 9, .ixS 4, [.t 5, .t 7], none⟩,
  ⟨some 10, .load true 4, [.t 9], none⟩,
  ⟨some 4, .alloc [(.int .i64 0), (.int .i64 0), (.int .u64 0), (.slice none 0 0)], [], none⟩,
  ⟨none, .store 4, [.t 4, .t 10], none⟩] [] [] [0, 4, 5, 6, 7] true [] []
noncomputable def c34_16 : ACode := .region false [⟨some 11, .addr 3, [.t 4], none⟩,
  ⟨some 12, .load false 1, [.t 11], none⟩,
  ⟨some 13, .len, [.t 12], none⟩,
  ⟨some 14, .bin .gtr, [.t 13, .c (.val (.int .i64 300))], none⟩] [] [] [0, 5, 6, 7, 14] false [] []
noncomputable def c34_19 : ACode := .region false [⟨some 2, .move, [.c (.val (.bool false))], none⟩] [] [] [2] false [] []
noncomputable def c34_18 : ACode := .seq c34_19 .ret
noncomputable def c34_17 : ACode := .cond (.t 14) c34_18 .skip
noncomputable def c34_15 : ACode := .seq c34_16 c34_17
noncomputable def c34_13 : ACode := .seq c34_14 c34_15
noncomputable def c34_12 : ACode := .block 1 c34_13
noncomputable def c34_20 : ACode := .region false [⟨some 15, .bin .add, [.t 7, .c (.val (.int .i64 1))], none⟩,
  ⟨some 7, .move, [.t 15], none⟩] [] [] [0, 5, 6, 7] false [] []
noncomputable def c34_11 : ACode := .seq c34_12 c34_20
noncomputable def c34_9 : ACode := .seq c34_10 c34_11
noncomputable def c34_7 : ACode := .seq c34_8 c34_9
noncomputable def c34_6 : ACode := .loop c34_7
noncomputable def c34_5 : ACode := .block 0 c34_6
noncomputable def c34_3 : ACode := .seq c34_4 c34_5
noncomputable def c34_22 : ACode := .region false [⟨some 16, .move, [.t 0], none⟩,
  ⟨some 17, .len, [.t 16], none⟩,
  ⟨some 18, .bin .leq, [.t 17, .c (.val (.int .i64 40))], none⟩,
  ⟨some 2, .move, [.t 18], none⟩] [] [] [2] false [] []
noncomputable def c34_21 : ACode := .seq c34_22 .ret
noncomputable def c34_2 : ACode := .seq c34_3 c34_21
noncomputable def c34_0 : ACode := .seq c34_1 c34_2
noncomputable def code34 : Code := (Try.f34.body).getD .skip
theorem c34_ok : compC Try.prog 19 code34 = some (strip c34_0) := by kernel_rfl
theorem res34_ok : Try.f34.results.toList.mapM (resC Try.prog) = some [(2, none)] := by kernel_rfl
theorem few_any (off : Nat) (l : List Pt) (hl : l.length ≤ 9223372036854775807) : ACall Try.prog 34 [.sl 0 off l.length 4 none] [.cells true (rowsC off PtC l)] (Det (Bo (fewB l)) [.cells true (rowsC off PtC l)]) := by
  have hr : ∀ ρ, renL ρ (rowsC off PtC l) = rowsC off PtC l := fun ρ => rowsC_ren (fun ρ x => by simp [renL, ren]) ρ l
  have hlen : ∀ l : List Pt, (rowsC off PtC l).length = off + l.length * 4 := rowsC_len (fun _ => rfl)
  refine ACall.startA c34_ok Try.func34 rfl Try.ntmps34 (by kernel_rfl) res34_ok rfl rfl rfl ?_; simp (maxSteps := 9999999) (disch := omega) only [go_sem]
  (repeat' (first | refine AWpA.seq ?_ | refine AWpA.block ?_ | (with_reducible refine CondP.tt ?_) | (with_reducible refine CondP.ff ?_) | refine AWpA.condv (by simp (maxSteps := 9999999) (disch := omega) only [go_sem, hr]; rfl) ?_ | ((first | (apply AWpA.region; (focus (simp (maxSteps := 9999999) (disch := omega) only [go_sem, hr]; rfl))) | (apply AWpA.draw [] follows; (focus (simp (maxSteps := 9999999) (disch := omega) only [go_sem, hr]; rfl)); (focus (simp (maxSteps := 9999999) (disch := omega) only [go_sem, hr]; first | done | trivial)); (focus (simp (maxSteps := 9999999) (disch := omega) only [go_sem, hr]; rfl))) | (apply TailK.go; (focus (simp (maxSteps := 9999999) (disch := omega) only [go_sem, hr]; rfl))) | refine AWpA.skip ?_ | refine AWpA.exit ?_ | refine AWpA.ret ?_ | (with_reducible refine ARoundsA.succ ?_) | ((first | refine Runs.kt (by assumption) (fun h9 => ?_) | refine Runs.kf (by assumption) (fun h9 => ?_) | refine Runs.nt (by assumption) (fun h9 => ?_) | refine Runs.nf (by assumption) (fun h9 => ?_) | refine CondP.ht (by assumption) (fun h9 => ?_) | refine CondP.hf (by assumption) (fun h9 => ?_) | refine CondP.nt (by assumption) (fun h9 => ?_) | refine CondP.nf (by assumption) (fun h9 => ?_)); (try simp only [h9]); clear h9)); (try simp (maxSteps := 9999999) (disch := omega) only [go_sem, hr]); (try (refine And.intro ?_ ?_; (focus (first | omega | (simp only [go_sem]; done) | (simp; done) | (simp; omega) | assumption))))) | ((first | refine CondP.split (fun hif => ?_) (fun hif => ?_) | refine Runs.part (fun hif => ?_) (fun hif => ?_)) <;> ((try simp only [hif]); (try simp only [decide_eq_true_eq, decide_eq_false_iff_not, Bool.not_eq_true, Bool.not_eq_false, Bool.not_eq_true', Bool.not_eq_false', beq_iff_eq, bne_iff_ne, bne_eq_false_iff_eq, beq_eq_false_iff_ne, ne_eq, Bool.and_eq_true, Bool.or_eq_true, Bool.or_eq_false_iff] at hif); (try (have h9 : _ = true := hif; simp only [h9])); (try (have h9 : _ = false := hif; simp only [h9])); (try simp (maxSteps := 9999999) (disch := omega) only [go_sem, hr]); (try (refine And.intro ?_ ?_; (focus (first | omega | (simp only [go_sem]; done) | (simp; done) | (simp; omega) | assumption)))); (try (exfalso; omega; done))))))
  (apply AWpA.loopL (fun i : Nat => [(0, .sl 0 off l.length 4 none), (5, .sl 0 off l.length 4 none), (6, I l.length), (7, I i)]) (fun _ => [.cells true (rowsC off PtC l)]) (fun i => l.length - i) (fun i => i ≤ l.length ∧ few300 l = few300 (l.drop i)) (0) [0]; rotate_left; (focus (simp (maxSteps := 9999999) (disch := omega) only [go_sem, hr]; (try (repeat' (first | done | trivial | rfl | exact leAs_rfl _ | decide | (refine And.intro ?_ ?_) | (simp; done) | omega | (simp; decide)))))); rotate_right)
  · exact ⟨Nat.zero_le _, rfl⟩
  rintro i ⟨hi, hf⟩
  (try simp only at hi hf)
  by_cases hil : i < l.length
  · have hat := rowsC_at (off := off) (f := PtC) (k := 4) (fun _ => rfl) l i hil
    have hfd := few300_drop hil
    generalize l[i] = p at hat hfd
    have g1 : ((i : Int) < (l.length : Int)) = True := eq_true (by omega)
    by_cases h300 : 300 < p.b.l.length
    · have e : fewB l = false := by
        rw [decide_eq_false (by omega), Bool.false_and] at hfd
        rw [fewB, hf, hfd, Bool.false_and]
      rw [e]
      have g2 : ((300 : Int) < (p.b.l.length : Int)) = True := eq_true (by omega)
      (try simp (maxSteps := 9999999) (disch := omega) only [go_sem])
      (repeat' (first | refine AWpA.seq ?_ | refine AWpA.block ?_ | (with_reducible refine CondP.tt ?_) | (with_reducible refine CondP.ff ?_) | refine AWpA.condv (by simp (maxSteps := 9999999) (disch := omega) only [go_sem, hr, hlen, hat, PtC, g1, g2]; rfl) ?_ | ((first | (apply AWpA.region; (focus (simp (maxSteps := 9999999) (disch := omega) only [go_sem, hr, hlen, hat, PtC, g1, g2]; rfl))) | (apply AWpA.draw [] follows; (focus (simp (maxSteps := 9999999) (disch := omega) only [go_sem, hr, hlen, hat, PtC, g1, g2]; rfl)); (focus (simp (maxSteps := 9999999) (disch := omega) only [go_sem, hr, hlen, hat, PtC, g1, g2]; first | done | trivial)); (focus (simp (maxSteps := 9999999) (disch := omega) only [go_sem, hr, hlen, hat, PtC, g1, g2]; rfl))) | (apply TailK.go; (focus (simp (maxSteps := 9999999) (disch := omega) only [go_sem, hr, hlen, hat, PtC, g1, g2]; rfl))) | refine AWpA.skip ?_ | refine AWpA.exit ?_ | refine AWpA.ret ?_ | (with_reducible refine ARoundsA.succ ?_) | ((first | refine Runs.kt (by assumption) (fun h9 => ?_) | refine Runs.kf (by assumption) (fun h9 => ?_) | refine Runs.nt (by assumption) (fun h9 => ?_) | refine Runs.nf (by assumption) (fun h9 => ?_) | refine CondP.ht (by assumption) (fun h9 => ?_) | refine CondP.hf (by assumption) (fun h9 => ?_) | refine CondP.nt (by assumption) (fun h9 => ?_) | refine CondP.nf (by assumption) (fun h9 => ?_)); (try simp only [h9]); clear h9)); (try simp (maxSteps := 9999999) (disch := omega) only [go_sem, hr, hlen, hat, PtC, g1, g2]); (try (refine And.intro ?_ ?_; (focus (first | omega | (simp only [go_sem]; done) | (simp; done) | (simp; omega) | assumption))))) | ((first | refine CondP.split (fun hif => ?_) (fun hif => ?_) | refine Runs.part (fun hif => ?_) (fun hif => ?_)) <;> ((try simp only [hif]); (try simp only [decide_eq_true_eq, decide_eq_false_iff_not, Bool.not_eq_true, Bool.not_eq_false, Bool.not_eq_true', Bool.not_eq_false', beq_iff_eq, bne_iff_ne, bne_eq_false_iff_eq, beq_eq_false_iff_ne, ne_eq, Bool.and_eq_true, Bool.or_eq_true, Bool.or_eq_false_iff] at hif); (try (have h9 : _ = true := hif; simp only [h9])); (try (have h9 : _ = false := hif; simp only [h9])); (try simp (maxSteps := 9999999) (disch := omega) only [go_sem, hr, hlen, hat, PtC, g1, g2]); (try (refine And.intro ?_ ?_; (focus (first | omega | (simp only [go_sem]; done) | (simp; done) | (simp; omega) | assumption)))); (try (exfalso; omega; done))))))
      (apply Ret.det [0]; (focus (first | exact .inl rfl | exact .inr rfl)); (focus (simp (maxSteps := 9999999) (disch := omega) only [go_sem, hr]; rfl)); (simp (maxSteps := 9999999) (disch := omega) only [go_sem, hr]; (try (repeat' (first | done | trivial | rfl | exact leAs_rfl _ | decide | (refine And.intro ?_ ?_) | (simp; done) | omega | (simp; decide))))))
    · have g2 : ((300 : Int) < (p.b.l.length : Int)) = False := eq_false (by omega)
      rw [decide_eq_true (by omega), Bool.true_and] at hfd
      (try simp (maxSteps := 9999999) (disch := omega) only [go_sem])
      (repeat' (first | refine AWpA.seq ?_ | refine AWpA.block ?_ | (with_reducible refine CondP.tt ?_) | (with_reducible refine CondP.ff ?_) | refine AWpA.condv (by simp (maxSteps := 9999999) (disch := omega) only [go_sem, hr, hlen, hat, PtC, g1, g2]; rfl) ?_ | ((first | (apply AWpA.region; (focus (simp (maxSteps := 9999999) (disch := omega) only [go_sem, hr, hlen, hat, PtC, g1, g2]; rfl))) | (apply AWpA.draw [] follows; (focus (simp (maxSteps := 9999999) (disch := omega) only [go_sem, hr, hlen, hat, PtC, g1, g2]; rfl)); (focus (simp (maxSteps := 9999999) (disch := omega) only [go_sem, hr, hlen, hat, PtC, g1, g2]; first | done | trivial)); (focus (simp (maxSteps := 9999999) (disch := omega) only [go_sem, hr, hlen, hat, PtC, g1, g2]; rfl))) | (apply TailK.go; (focus (simp (maxSteps := 9999999) (disch := omega) only [go_sem, hr, hlen, hat, PtC, g1, g2]; rfl))) | refine AWpA.skip ?_ | refine AWpA.exit ?_ | refine AWpA.ret ?_ | (with_reducible refine ARoundsA.succ ?_) | ((first | refine Runs.kt (by assumption) (fun h9 => ?_) | refine Runs.kf (by assumption) (fun h9 => ?_) | refine Runs.nt (by assumption) (fun h9 => ?_) | refine Runs.nf (by assumption) (fun h9 => ?_) | refine CondP.ht (by assumption) (fun h9 => ?_) | refine CondP.hf (by assumption) (fun h9 => ?_) | refine CondP.nt (by assumption) (fun h9 => ?_) | refine CondP.nf (by assumption) (fun h9 => ?_)); (try simp only [h9]); clear h9)); (try simp (maxSteps := 9999999) (disch := omega) only [go_sem, hr, hlen, hat, PtC, g1, g2]); (try (refine And.intro ?_ ?_; (focus (first | omega | (simp only [go_sem]; done) | (simp; done) | (simp; omega) | assumption))))) | ((first | refine CondP.split (fun hif => ?_) (fun hif => ?_) | refine Runs.part (fun hif => ?_) (fun hif => ?_)) <;> ((try simp only [hif]); (try simp only [decide_eq_true_eq, decide_eq_false_iff_not, Bool.not_eq_true, Bool.not_eq_false, Bool.not_eq_true', Bool.not_eq_false', beq_iff_eq, bne_iff_ne, bne_eq_false_iff_eq, beq_eq_false_iff_ne, ne_eq, Bool.and_eq_true, Bool.or_eq_true, Bool.or_eq_false_iff] at hif); (try (have h9 : _ = true := hif; simp only [h9])); (try (have h9 : _ = false := hif; simp only [h9])); (try simp (maxSteps := 9999999) (disch := omega) only [go_sem, hr, hlen, hat, PtC, g1, g2]); (try (refine And.intro ?_ ?_; (focus (first | omega | (simp only [go_sem]; done) | (simp; done) | (simp; omega) | assumption)))); (try (exfalso; omega; done))))))
      (apply Back.to (i + 1) [0]; (focus ((try simp (maxSteps := 9999999) (disch := omega) only [go_sem, hr]); first | done | omega)); rotate_left; (focus (simp (maxSteps := 9999999) (disch := omega) only [go_sem, hr]; (try (repeat' (first | done | trivial | rfl | exact leAs_rfl _ | decide | (refine And.intro ?_ ?_) | (simp; done) | omega | (simp; decide)))))))
      all_goals (first | exact ⟨hil, by rw [hf, hfd]⟩ | rfl | omega)
  · obtain rfl : i = l.length := by omega
    have e : fewB l = decide ((l.length : Int) ≤ 40) := by
      rw [fewB, hf, List.drop_length, show few300 ([] : List Pt) = true from rfl, Bool.true_and]
      exact decide_eq_decide.2 (by omega)
    rw [e]
    (try simp (maxSteps := 9999999) (disch := omega) only [go_sem])
    (repeat' (first | refine AWpA.seq ?_ | refine AWpA.block ?_ | (with_reducible refine CondP.tt ?_) | (with_reducible refine CondP.ff ?_) | refine AWpA.condv (by simp (maxSteps := 9999999) (disch := omega) only [go_sem, hr]; rfl) ?_ | ((first | (apply AWpA.region; (focus (simp (maxSteps := 9999999) (disch := omega) only [go_sem, hr]; rfl))) | (apply AWpA.draw [] follows; (focus (simp (maxSteps := 9999999) (disch := omega) only [go_sem, hr]; rfl)); (focus (simp (maxSteps := 9999999) (disch := omega) only [go_sem, hr]; first | done | trivial)); (focus (simp (maxSteps := 9999999) (disch := omega) only [go_sem, hr]; rfl))) | (apply TailK.go; (focus (simp (maxSteps := 9999999) (disch := omega) only [go_sem, hr]; rfl))) | refine AWpA.skip ?_ | refine AWpA.exit ?_ | refine AWpA.ret ?_ | (with_reducible refine ARoundsA.succ ?_) | ((first | refine Runs.kt (by assumption) (fun h9 => ?_) | refine Runs.kf (by assumption) (fun h9 => ?_) | refine Runs.nt (by assumption) (fun h9 => ?_) | refine Runs.nf (by assumption) (fun h9 => ?_) | refine CondP.ht (by assumption) (fun h9 => ?_) | refine CondP.hf (by assumption) (fun h9 => ?_) | refine CondP.nt (by assumption) (fun h9 => ?_) | refine CondP.nf (by assumption) (fun h9 => ?_)); (try simp only [h9]); clear h9)); (try simp (maxSteps := 9999999) (disch := omega) only [go_sem, hr]); (try (refine And.intro ?_ ?_; (focus (first | omega | (simp only [go_sem]; done) | (simp; done) | (simp; omega) | assumption))))) | ((first | refine CondP.split (fun hif => ?_) (fun hif => ?_) | refine Runs.part (fun hif => ?_) (fun hif => ?_)) <;> ((try simp only [hif]); (try simp only [decide_eq_true_eq, decide_eq_false_iff_not, Bool.not_eq_true, Bool.not_eq_false, Bool.not_eq_true', Bool.not_eq_false', beq_iff_eq, bne_iff_ne, bne_eq_false_iff_eq, beq_eq_false_iff_ne, ne_eq, Bool.and_eq_true, Bool.or_eq_true, Bool.or_eq_false_iff] at hif); (try (have h9 : _ = true := hif; simp only [h9])); (try (have h9 : _ = false := hif; simp only [h9])); (try simp (maxSteps := 9999999) (disch := omega) only [go_sem, hr]); (try (refine And.intro ?_ ?_; (focus (first | omega | (simp only [go_sem]; done) | (simp; done) | (simp; omega) | assumption)))); (try (exfalso; omega; done))))))
    (apply Ret.det [0]; (focus (first | exact .inl rfl | exact .inr rfl)); (focus (simp (maxSteps := 9999999) (disch := omega) only [go_sem, hr]; rfl)); (simp (maxSteps := 9999999) (disch := omega) only [go_sem, hr]; (try (repeat' (first | done | trivial | rfl | exact leAs_rfl _ | decide | (refine And.intro ?_ ?_) | (simp; done) | omega | (simp; decide))))))
def numK (v w : Int) : Int := cond (wideB w) (cond (fitsI v w) 0 2) 1
theorem numE_K (v w e : Int) : numE v w e = failI e (numK v w) := by
  unfold numE numK
  cases wideB w <;> cases fitsI v w <;> simp [failI]
theorem failI_zero (e : Int) : failI e 0 = e := by
  unfold failI
  split
  · rename_i h; simp at h; exact h.symm
  · rfl
/-- What a put lays behind, if the error (of before, of its own) lets it. -/
def putL (e k : Int) (l x : List Int) : List Int := cond (e == 0 && k == 0) (l ++ x) l
theorem numL_K (v w e : Int) (l : List Int) : numL v w e l = putL e (numK v w) l (leI v w.toNat) := by
  unfold numL numK putL wput
  cases wideB w <;> cases fitsI v w <;> cases (e == 0) <;> simp
theorem wput_K (e : Int) (l x : List Int) : wput e l x = putL e 0 l x := by
  unfold wput putL
  cases (e == 0) <;> rfl
def textK (n : Nat) : Int := cond (decide (255 < n)) 2 0
theorem textE_K (s : ByteArray) (e : Int) : textE s e = failI e (textK s.size) := by
  unfold textE textK
  cases decide (255 < s.size)
  · exact (failI_zero e).symm
  · rfl
theorem textL_K (s : ByteArray) (e : Int) (l : List Int) : textL s e l = putL e (textK s.size) l ((s.size : Int) :: txI s) := by
  unfold textL textK putL wput
  cases decide (255 < s.size) <;> cases (e == 0) <;> simp
theorem putL_len (e k : Int) (l x : List Int) : (putL e k l x).length ≤ l.length + x.length := by
  unfold putL
  cases (e == 0 && k == 0) <;> simp
theorem toB_int {l : List Int} (h : bytesB l) : (toB l).map (fun b => (b.toNat : Int)) = l := by
  induction l with
  | nil => rfl
  | cons c l ih =>
    have hc := h c (by simp)
    have h1 := ih fun d hd => h d (by simp [hd])
    simp only [toB, List.map_cons, List.cons.injEq] at h1 ⊢
    refine ⟨?_, h1⟩
    have : c.toNat % 256 = c.toNat := Nat.mod_eq_of_lt (by omega)
    simp [UInt8.toNat_ofNat', this]
    omega
theorem txI_baI {l : List Int} (h : bytesB l) : txI (baI l) = l := by
  simpa [txI, baI] using toB_int h
theorem baI_size (l : List Int) : (baI l).size = l.length := by
  simp [baI, toB, ByteArray.size]
end Go.Proofs.Yteggjhihpjjloaa
