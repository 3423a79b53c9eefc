/- Own theory, no program in sight: the rule for a map that is gone through. -/
import Derived.Test.YtbblpmkdhdnkhaaAmS
namespace Go.Am
set_option linter.unusedSimpArgs false
set_option linter.unusedVariables false
set_option maxHeartbeats 4000000
open Go Go.RowKit
set_option linter.unusedVariables false
set_option linter.unusedSimpArgs false
section
variable {P : Program} {N : Nat}
/-- The states behind a step. -/
def stepT (tk tn : Nat) (T : List (Nat × AV)) (b : Bool) (l : List AV) : List (Nat × AV) := (tk, .val (.bool b)) :: (tn, .tup (.val (.bool b) :: l)) :: T
theorem ext_run {x : St} {T : List (Nat × AV)} {b : Nat → AV} {tk tn : Nat} {v : Bool} {l : List AV} (hx : x.s.t = fT T b) :
    runP P ⟨false, x.n, [], [], [], []⟩ (numberA 1 [⟨some tk, .ext 0, [.t tn], none⟩]) (fun s => s = ⟨fT (stepT tk tn T v l) b, x.s.h⟩) ⟨put x.s.t (some tn) (.tup (.val (.bool v) :: l)), x.s.h⟩ := by
  simp only [numberA, runP, Step, wants, isEff, hasB, Bool.or_false]
  refine ⟨True, .val (.bool v), [], ?_, trivial, ?_⟩
  · simp [simple, isFresh, quiet, evO, put, qExt]
  · simp only [updH]
    rw [hx, put_fT, put_fT]
    rfl
theorem Sms.less_rebase {C : Ctx} {B : BM} {x : St} {a : Act} {w w3 : World} {bm r : Nat} (hs : Sms (C.less bm r w) N B x a w3) (hC : C.w0.heap.size ≤ w.heap.size) (hb : bm < w.heap.size) (hr : r < w.heap.size) : Sms (C.less bm r w3) N B x a w3 := by
  obtain ⟨⟨h1, h2, h3, h4, h5, h6, h7, hza, hzm⟩, h8, h9⟩ := hs
  have hm : ∀ b, (C.less bm r w).mine b → (C.less bm r w3).mine b := fun b h => by
    rcases h with h | h
    · exact .inr ⟨C.new b (Nat.le_trans hC h), by omega, by omega⟩
    · exact .inr h
  refine ⟨⟨h1, h2, h3, h4, fun i b n hi hb => hm b (h5 i b n hi hb), Kept.refl _ _, h7, hza, fun b ar hb => ?_⟩, h8, h9⟩
  rcases hzm b ar hb with h | h
  · exact .inl h
  · exact .inr (hm b h)
theorem Sms.less_same {C : Ctx} {B : BM} {x : St} {a : Act} {w w3 : World} {bm r : Nat} (hs : Sms (C.less bm r w) N B x a w3) (hb : bm < w.heap.size) (hr : r < w.heap.size) : w3.heap[bm]? = w.heap[bm]? ∧ w3.heap[r]? = w.heap[r]? := by
  refine ⟨hs.sim.kept.block bm hb fun h => ?_, hs.sim.kept.block r hr fun h => ?_⟩
  · rcases h with h | h
    · omega
    · exact h.2.1 rfl
  · rcases h with h | h
    · omega
    · exact h.2.2 rfl
/-- A round, or the end. -/
theorem mi_round {m : Nat} {C : Ctx} {bm r : Nat} {arr : Array MapEntry} {clock : Nat} {it b1 tn tk b2 te : Nat} {postE : List AOper} {es : List (AV × AV)} {T0 : List Nat → List (Nat × AV)} {H0 : List Nat → List AObj} {d : List Nat} {B : BM} {a : Act} {w : World}
    (h : MI C N m bm r arr clock T0 H0 d B a w) (hit : fT (T0 d) none0 it = .val (.pointer (some ⟨r, 0, none⟩))) (hb : born clock arr.toList) (hr0 : C.w0.heap.size ≤ r) (hn : C.n = m)
    {id1 id2 : Nat} {ops1 ops2 : Array Oper} {co : Operand} {csk cb : Code} (h1 : compOps P N ops1 = some [⟨some tn, .itN, [.t it], none⟩, ⟨some tk, .ext 0, [.t tn], none⟩]) (hco : opd co = .t tk) (hsk : csk = .skip ∨ ∃ l, csk = .label l)
    (h2 : compOps P N ops2 = some (⟨some te, .itE, [.t it], none⟩ :: postE)) (hes : ∀ (i : Nat) (e : MapEntry), arr.toList[i]? = some e → es[i]? = some (AV.val e.key, AV.val e.val)) (hne : tn ≠ it ∧ tk ≠ it) {lv : List Nat} {dd : Bool} {body : ACode} (hcb : compC P N cb = some (strip body)) {Q : Exit → St → Prop}
    (round : ∀ (i : Nat) (u v : Value), i < arr.size → i ∉ d → es[i]? = some (AV.val u, AV.val v) →
      TailK P ((H0 d).length + 32) 1 postE (fun y => AWpA P N (NN.plain m) body (ABlock b2 (AThen (Back (NN.plain m) T0 H0 (fun d => arr.size - d.length) (fun d' => d' = d ++ [i]) d) (ABlock b1 Q))) (keepS lv dd y))
        (mk ((te, .tup [.val u, .val v]) :: stepT tk tn (T0 d) true [.val u, .val v]) none0 (zipI 0 (H0 d)) gone0 ((H0 d).length + 32 + 16 * (postE.length + 1))))
    (fin : d.Perm (List.range arr.size) → Q .normal (mk (stepT tk tn (T0 d) false []) none0 (zipI 0 (H0 d)) gone0 ((H0 d).length + 32))) :
    (Code.seq (.region id1 ops1 false) (.seq (.cond co csk (.exit b1)) (.block b2 (.seq (.region id2 ops2 false) cb)))).wp P
      (Exit.then (fun a' w' => (∃ d' B', MI C N m bm r arr clock T0 H0 d' B' a' w') ∧ arr.size - itSeen w' r < arr.size - itSeen w r) (Exit.inBlock b1 fun e a' w' => ∃ B' x', Q e x' ∧ Sms C N B' x' a' w')) a w := by
  have hptr : a.tmps.getD it undef = .pointer (some ⟨r, 0, none⟩) := by
    have := h.sms.sim.t it
    simp only [head, Am.mk] at this
    rw [hit] at this
    simpa [VR] using this
  have hseen : itSeen w r = d.length := by unfold itSeen; rw [h.it]; simp
  have hcond : ∀ {B : BM} {n : Nat} {C : Ctx} {a : Act} {w : World} {v : Bool} {l : List AV} {T : List (Nat × AV)} {hh : Nat → AObj}, Sms C N B ⟨⟨fT (stepT tk tn T v l) none0, hh⟩, n⟩ a w → a.eval co = .bool v := fun {B n C a w v l T hh} hs => by
    have := ev_rel hs.sim.t co
    rw [hco] at this
    simpa [evO, stepT, fT, VR] using this
  have hskip : ∀ {Q : Exit → Act → World → Prop} {a : Act} {w : World}, Q .normal a w → csk.wp P Q a w := fun {Q a w} hq => by
    rcases hsk with rfl | ⟨l, rfl⟩
    · exact wp_skip hq
    · exact wp_label hq
  refine wp_seq ?_
  rcases h.next (P := P) hb hr0 0 with ⟨hrun, hd⟩ | ⟨i, e, w2, hi, hid, hie, hrun, hs2, hk2, hm2, hi2⟩
  · refine wp_head (C := C.less bm r w) (B := B) (x := head (T0 d) (H0 d)) (v := .tup [.val (.bool false)]) h1 (fun o ho => exec_itN ho hptr hrun) (by simp [VR, VRs]) h.sms (fun s => s = ⟨fT (stepT tk tn (T0 d) false []) none0, (head (T0 d) (H0 d)).s.h⟩) (ext_run rfl) (fun B' s a' w' hs hk => ?_)
    subst hs
    refine wp_seq (wp_cond_false (hcond hk) (wp_exit ?_))
    show (Exit.inBlock b1 fun e a' w' => ∃ B' x', Q e x' ∧ Sms C N B' x' a' w') (.exit b1) a' w'
    simp only [Exit.inBlock, if_true]
    exact ⟨_, _, fin hd, hk.less_out h.kept⟩
  · have hbl : bm < w2.heap.size := getElem?_lt hm2
    have hrl : r < w2.heap.size := getElem?_lt hi2
    refine wp_head (C := C.less bm r w2) (B := B) (x := head (T0 d) (H0 d)) (v := .tup [.val (.bool true), .val e.key, .val e.val]) h1 (fun o ho => exec_itN ho hptr hrun) (by simp [VR, VRs]) hs2 (fun s => s = ⟨fT (stepT tk tn (T0 d) true [.val e.key, .val e.val]) none0, (head (T0 d) (H0 d)).s.h⟩) (ext_run rfl) (fun B' s a' w' hs hk => ?_)
    subst hs
    refine wp_seq (wp_cond_true (hcond hk) (hskip ?_))
    refine wp_block (wp_seq ?_)
    obtain ⟨g1, g2⟩ := hk.less_same hbl hrl
    have hptr' : a'.tmps.getD it undef = .pointer (some ⟨r, 0, none⟩) := by
      have := hk.sim.t it
      have e1 : Nat.beq tk it = false := by rw [← Bool.not_eq_true, Nat.beq_eq]; exact hne.2
      have e2 : Nat.beq tn it = false := by rw [← Bool.not_eq_true, Nat.beq_eq]; exact hne.1
      simp only [stepT, fT, e1, e2] at this
      rw [hit] at this
      simpa [VR] using this
    have hrunE := run_entry_at (P := P) w' r bm clock _ arr clock e (by rw [g2]; exact hi2) (by rw [g1]; exact hm2) (List.mem_of_getElem? hie) hb.2
    have hround := round i e.key e.val hi hid (hes i e hie)
    refine wp_head (C := C.less bm r w2) (B := B') (v := .tup [.val e.key, .val e.val]) h2 (fun o ho => exec_itE ho hptr' hrunE) (by simp [VR, VRs]) hk _ (by rw [put_fT]; exact hround) (fun B'' s a'' w'' hK hs' => ?_)
    have hfit : (NN.plain m).fits (C.less bm r w2) := ⟨hn, trivial⟩
    dsimp only at hK
    unfold AWpA AWp at hK
    refine wp_mono (hK cb hcb (C.less bm r w2) B'' a'' w'' hfit (keepS_ok lv dd hs')) ?_
    have back : ∀ {B3 x3 a3 w3}, Back (NN.plain m) T0 H0 (fun d => arr.size - d.length) (fun d' => d' = d ++ [i]) d x3 → Sms (C.less bm r w2) N B3 x3 a3 w3 → (∃ d' B', MI C N m bm r arr clock T0 H0 d' B' a3 w3) ∧ arr.size - itSeen w3 r < arr.size - itSeen w r := by
      rintro B3 x3 a3 w3 ⟨d', hlt, rfl, ρ, hemb⟩ hs3
      obtain ⟨k1, k2⟩ := hs3.less_same hbl hrl
      have hbn : bornAt arr.toList i = e.born := by unfold bornAt; rw [hie]; rfl
      have hit3 : w3.heap[r]? = some (.mapIter (some bm) clock ((d ++ [i]).map (bornAt arr.toList)).toArray clock) := by
        rw [k2, hi2, List.map_append, List.map_cons, List.map_nil, hbn]
        simp
      refine ⟨⟨_, _, (hemb.sms hfit hs3).less_rebase hk2.size hbl hrl, hk2.trans hs3.sim.kept (fun b hb' hm' => ?_), by rw [k1]; exact hm2, hit3, ?_, ?_⟩, ?_⟩
      · rcases hm' with hm' | hm'
        · exact C.new b (Nat.le_trans hk2.size hm')
        · exact hm'.1
      · rw [List.nodup_append]
        exact ⟨h.nodup, by simp, fun x hx y hy e => by simp only [List.mem_singleton] at hy; subst hy; subst e; exact hid hx⟩
      · intro j hj
        rcases List.mem_append.1 hj with hj | hj
        · exact h.lt j hj
        · simp only [List.mem_singleton] at hj; subst hj; exact hi
      · have e3 : itSeen w3 r = (d ++ [i]).length := by unfold itSeen; rw [hit3]; simp
        rw [e3, hseen]
        exact hlt
    rintro ex a3 w3 ⟨B3, x3, hq, hs3⟩
    cases ex with
    | normal => exact back hq hs3
    | exit id =>
      simp only [ABlock] at hq
      simp only [Exit.inBlock]
      cases hb2 : Nat.beq id b2 with
      | true => rw [hb2] at hq; rw [if_pos (Nat.eq_of_beq_eq_true hb2)]; exact back hq hs3
      | false =>
        rw [hb2] at hq
        rw [if_neg (Nat.ne_of_beq_eq_false hb2)]
        simp only [AThen, ABlock] at hq
        simp only [Exit.then, Exit.inBlock]
        cases hb3 : Nat.beq id b1 with
        | true => rw [hb3] at hq; rw [if_pos (Nat.eq_of_beq_eq_true hb3)]; exact ⟨B3, x3, hq, hs3.less_out hk2⟩
        | false => rw [hb3] at hq; rw [if_neg (Nat.ne_of_beq_eq_false hb3)]; exact ⟨B3, x3, hq, hs3.less_out hk2⟩
    | goto l => exact ⟨B3, x3, hq, hs3.less_out hk2⟩
    | ret => exact ⟨B3, x3, hq, hs3.less_out hk2⟩
    | panic c => exact ⟨B3, x3, hq, hs3.less_out hk2⟩
    | outgrown => exact ⟨B3, x3, hq, hs3.less_out hk2⟩
theorem upd_fH (H : List (Nat × AObj)) (hb : Nat → AObj) (i : Nat) (o : AObj) : upd (fH H hb) i o = fH ((i, o) :: H) hb := by
  funext j
  simp only [upd, fH]
  by_cases e : j = i
  · subst e; rw [if_pos rfl, Nat.beq_refl j]
  · rw [if_neg e]
    have : Nat.beq i j = false := by rw [← Bool.not_eq_true, Nat.beq_eq]; exact fun h => e h.symm
    rw [this]
/-- A MAP IS GONE THROUGH: the entries come one by one, each once; those that came are told by their places. -/
theorem AWpA.rangeMap {m n : Nat} {t1 tm it b1 tn tk b2 te mid : Nat} {ro : Bool} {E0 E1 E2 : List Nat} {F0 F1 F2 : List (Nat × Nat)} {lv0 lv1 lv : List Nat} {dd0 dd1 dd : Bool} {wr0 wr1 wr : List Nat} {postE : List AOper} {body : ACode} {Q : Exit → St → Prop} {T : List (Nat × AV)} {b : Nat → AV} {H : List (Nat × AObj)} {hb : Nat → AObj} (es : List (AV × AV)) (T0 : Value → List Nat → List (Nat × AV)) (H0 : List Nat → List AObj) (ρ : List Nat)
    (hm : fT T b tm = .mp mid) (ho : fH H hb mid = .map ro es) (hv : ∀ (i : Nat) (p : AV × AV), es[i]? = some p → ∃ u v, p = (AV.val u, AV.val v)) (hit : ∀ p d, fT (T0 p d) none0 it = .val p) (hne : tn ≠ it ∧ tk ≠ it)
    (h0 : ∀ p, sameT ρ ((it, .val p) :: (t1, .mp mid) :: T) b (T0 p []) ∧ sameR ρ ((mid, .gone) :: H) hb ρ (H0 []) ∧ aloneB ρ (H0 []) = true ∧ (H0 []).length = ρ.length ∧ ancB ρ m = true)
    (round : ∀ (p : Value) (d : List Nat) (i : Nat) (u v : Value), d.Nodup → (∀ j ∈ d, j < es.length) → i < es.length → i ∉ d → es[i]? = some (AV.val u, AV.val v) →
      TailK P ((H0 d).length + 32) 1 postE (fun y => AWpA P N (NN.plain m) body (ABlock b2 (AThen (Back (NN.plain m) (T0 p) H0 (fun d => es.length - d.length) (fun d' => d' = d ++ [i]) d) (ABlock b1 Q))) (keepS lv dd y))
        (mk ((te, .tup [.val u, .val v]) :: stepT tk tn (T0 p d) true [.val u, .val v]) none0 (zipI 0 (H0 d)) gone0 ((H0 d).length + 32 + 16 * (postE.length + 1))))
    (fin : ∀ (p : Value) (d : List Nat), d.Nodup → d.Perm (List.range es.length) → Q .normal (mk (stepT tk tn (T0 p d) false []) none0 (zipI 0 (H0 d)) gone0 ((H0 d).length + 32))) :
    AWpA P N (NN.plain m) (.seq (.region false [⟨some t1, .move, [.t tm], none⟩, ⟨some it, .itR, [.t t1], none⟩] E0 F0 lv0 dd0 wr0 []) (.block b1 (.loop (.seq (.region false [⟨some tn, .itN, [.t it], none⟩, ⟨some tk, .ext 0, [.t tn], none⟩] E1 F1 lv1 dd1 wr1 []) (.seq (.cond (.t tk) .skip (.exit b1)) (.block b2 (.seq (.region false (⟨some te, .itE, [.t it], none⟩ :: postE) E2 F2 lv dd wr []) body))))))) Q (mk T b H hb n) := by
  unfold AWpA
  intro c hc
  obtain ⟨c1, c2, rfl, hc1, hc2⟩ := comp_seq hc
  obtain ⟨id0, ops0, rfl, k0, -, -⟩ := comp_region hc1
  obtain ⟨c3, rfl, hc3⟩ := comp_block hc2
  obtain ⟨c4, rfl, hc4⟩ := comp_loop hc3
  obtain ⟨c5, c6, rfl, hc5, hc6⟩ := comp_seq hc4
  obtain ⟨id1, ops1, rfl, k1, -, -⟩ := comp_region hc5
  obtain ⟨c7, c8, rfl, hc7, hc8⟩ := comp_seq hc6
  obtain ⟨co, csk, cex, rfl, hco, hsk, hex⟩ := comp_cond hc7
  obtain rfl := comp_exit hex
  obtain ⟨c9, rfl, hc9⟩ := comp_block hc8
  obtain ⟨c10, cb, rfl, hc10, hcb⟩ := comp_seq hc9
  obtain ⟨id2, ops2, rfl, k2, -, -⟩ := comp_region hc10
  rw [List.append_nil] at k0 k1 k2
  unfold AWp
  intro C B a w hn hs
  obtain ⟨o1, o2, e1, e2, hsz, q1, q2⟩ := compL_2 k0
  obtain ⟨hd1, hdst1, hg1, hop1⟩ := compO_inv q1
  obtain ⟨hd2, hdst2, hg2, hop2⟩ := compO_inv q2
  refine wp_seq (wp_region ?_)
  rw [List.range_eq_range', hsz, List.range'_succ, List.range'_succ, wpOps_cons]
  refine wpOp_mono (fun a1 w1 hh => ?_) (step_ok (md := ⟨false, n, [], [], [], []⟩) (D := fun _ => False) (C := C) (K := fun s' => s' = ⟨fT ((t1, .mp mid) :: T) b, fH H hb⟩) e1 q1 ⟨hs.sim, fun h => (by cases h), fun k hk _ => hs.fr k hk, hs.base, fun _ _ => rfl⟩ (fun h => h) ?_)
  rotate_left
  · simp only [Step, wants, isEff, hasB, Bool.or_false]
    refine ⟨True, .mp mid, [], ?_, trivial, ?_⟩
    · simp [simple, isFresh, quiet, evO, Am.mk, hm, qMove]
    · simp only [updH, Am.mk]
      rw [put_fT]
      rfl
  obtain ⟨B1, s1, rfl, hinv⟩ := hh
  have hs1 : Sms C N B1 (mk ((t1, .mp mid) :: T) b H hb (n + 32)) a1 w1 := ⟨hinv.sim, fun k hk => hinv.fr k (by simp only [Am.mk] at hk ⊢; omega) (by simp only [Am.mk, false_or] at hk ⊢; omega), Nat.le_trans hinv.base (by simp only [Am.mk]; omega)⟩
  have hmp := hs1.sim.t t1
  simp only [Am.mk, fT, Nat.beq_refl t1, VR] at hmp
  obtain ⟨bm, mm, hBm, hmp⟩ := hmp
  have hobj := hs1.sim.hr.obj mid
  simp only [Am.mk] at hobj
  rw [ho] at hobj
  obtain ⟨bm', mm', arr, clock, hBm', hmap, hER, hborn⟩ := hobj
  rw [hBm] at hBm'
  cases hBm'
  obtain ⟨hlen, hget⟩ := ER_get hER
  have hsize : arr.size = es.length := by simpa using hlen
  have hes : ∀ (i : Nat) (e : MapEntry), arr.toList[i]? = some e → es[i]? = some (AV.val e.key, AV.val e.val) := fun i e hi => by
    have hlt : i < es.length := by
      have := (List.getElem?_eq_some_iff.1 hi).1
      omega
    obtain ⟨u, v, huv⟩ := hv i es[i] (List.getElem?_eq_getElem hlt)
    obtain ⟨e', he', v1, v2⟩ := hget i es[i] (List.getElem?_eq_getElem hlt)
    rw [hi] at he'
    cases he'
    rw [huv] at v1 v2
    simp only [VR] at v1 v2
    rw [List.getElem?_eq_getElem hlt, huv, v1, v2]
  rw [wpOps_cons]
  unfold wpOp
  simp only [e2]
  rw [if_pos (wants_free hg2)]
  refine .inl ?_
  unfold Oper.wp
  rw [exec_itR hop2 hmp hmap]
  show (Code.block b1 _).wp P _ (a1.put o2.dst _) _
  rw [hdst2]
  generalize hr : w1.heap.size = r
  have hbm : bm < w1.heap.size := getElem?_lt hmap
  have hk : ∀ b, b < w1.heap.size → (w1.alloc (.mapIter (some bm) clock #[] clock)).heap[b]? = w1.heap[b]? := fun b hb => Below.heap_alloc _ _ _ hb
  have hs2 := (hs1.less_in (r := r) hBm (by simp only [Am.mk]; rw [ho]; rfl) ⟨arr, clock, hmap⟩ (by omega) hk).put hd2 (v := .val (.pointer (some ⟨r, 0, none⟩))) (r := .pointer (some ⟨r, 0, none⟩)) (by simp [VR])
  have hfit : (NN.plain m).fits (C.less bm r (w1.alloc (.mapIter (some bm) clock #[] clock))) := ⟨hn.1, trivial⟩
  have hMI : MI C N m bm r arr clock (T0 (.pointer (some ⟨r, 0, none⟩))) H0 [] (under ρ B1) (a1.put (some it) (.pointer (some ⟨r, 0, none⟩))) (w1.alloc (.mapIter (some bm) clock #[] clock)) := by
    obtain ⟨f1, f2, f3, f4, f5⟩ := h0 (.pointer (some ⟨r, 0, none⟩))
    refine ⟨(Emb.list (n := n + 32) f1 f2 f3 f4 f5).sms hfit ?_, ?_, ?_, ?_, List.nodup_nil, fun j hj => by cases hj⟩
    · have := hs2
      simp only [Am.mk, upd_fH, put_fT, dput] at this
      exact this
    · refine ⟨hs1.sim.kept.os, hs1.sim.kept.tape, hs1.sim.kept.output, ?_, fun b hb hm => ?_⟩
      · have := hs1.sim.kept.size
        have h2 : (w1.alloc (.mapIter (some bm) clock #[] clock)).heap.size = w1.heap.size + 1 := Array.size_push _
        omega
      · rw [hk b (Nat.lt_of_lt_of_le hb hs1.sim.kept.size)]
        exact hs1.sim.kept.block b hb hm
    · rw [hk bm hbm]; exact hmap
    · rw [← hr]; exact heap_alloc_new w1 _
  refine wp_block (wp_loop (fun a w => ∃ d B, MI C N m bm r arr clock (T0 (.pointer (some ⟨r, 0, none⟩))) H0 d B a w) (fun _ w => arr.size - itSeen w r) ⟨_, _, hMI⟩ ?_)
  rintro a3 w3 ⟨d, B3, hI⟩
  refine mi_round (lv := lv) (dd := dd) hI (hit _ _) hborn (by rw [← hr]; exact hs1.sim.kept.size) hn.1 k1 hco (comp_skip hsk) k2 hes hne hcb (fun i u v hi hid hiv => ?_) (fun hd => ?_)
  · have := round (.pointer (some ⟨r, 0, none⟩)) d i u v hI.nodup (fun j hj => by rw [← hsize]; exact hI.lt j hj) (by rw [← hsize]; exact hi) hid hiv
    rw [hsize]
    exact this
  · exact fin _ d hI.nodup (by rw [← hsize]; exact hd)
end
end Go.Am
