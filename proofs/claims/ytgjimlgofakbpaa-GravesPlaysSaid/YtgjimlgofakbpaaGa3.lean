/- Contract: all graves, told by a range over a function. -/
import Derived.Test.YtgjimlgofakbpaaGa2
namespace Go.Proofs.Ytgjimlgofakbpaa
set_option linter.unusedSimpArgs false
set_option linter.unusedVariables false
set_option maxHeartbeats 4000000
open Go Go.Am Go.RowKit Go.Shelf
attribute [local go_sem] Oper.semAt_some
/-- A value is a slice of these pairs, below n₀. -/
def EntsI (n₀ : Nat) (w : World) (sv : Value) (zs : List PE) : Prop :=
  (zs = [] ∧ ∃ q, sv = .slice q 0 0) ∨ ∃ rb o cap, sv = .slice (some ⟨rb, o, none⟩) zs.length cap ∧ rb < n₀ ∧ ∀ k (h : k < zs.length), ∀ j u, (peV zs[k])[j]? = some u → w.cell? ⟨rb, o + k * 10 + j, none⟩ = some u
theorem EntsI.below {n₀ : Nat} {w W : World} {sv : Value} {zs : List PE} (h : EntsI n₀ w sv zs) (hb : Below n₀ w W) : EntsI n₀ W sv zs := by
  rcases h with h | ⟨rb, o, cap, h1, h2, h3⟩
  · exact .inl h
  · exact .inr ⟨rb, o, cap, h1, h2, fun k hk j u hj => (hb.cell (p := ⟨rb, o + k * 10 + j, none⟩) h2).trans (h3 k hk j u hj)⟩
set_option maxRecDepth 100000 in
set_option maxHeartbeats 2000000 in
theorem eall1_nil (F : Fence) (n : Nat) (h88 : F.fn 88) (hro : F.round = none) (l bx tb : Nat) (q : Option Addr) (J : List PE → World → Prop) (W : World) (hBx : W.cell? ⟨bx, 0, none⟩ = some (.pointer (some ⟨tb, 0, none⟩))) (hT : W.cell? ⟨tb, 1, none⟩ = some (.slice q 0 0)) (h0 : J [] W) :
    CallsIn F n Try.prog 88 #[.func (.yield l) #[] #[], .pointer (some ⟨bx, 0, none⟩)] W fun e W' => (∃ v, e = .returned v) ∧ J [] W' := by
  refine callsIn_of_wp Try.func88 rfl h88 ?_ hro
  simp only [Try.ntmps88, List.size_toArray, List.length_cons, List.length_nil, Nat.reduceAdd, Nat.reduceSub, Array.replicate_succ, Array.replicate_zero, List.push_toArray, List.append_toArray, List.nil_append, List.cons_append]
  gi_wp2
  gi_loopw [10] (fun i wr => i = .int .i64 0 ∧ J [] wr) (fun _ _ => 0)
  case atStart => exact ⟨rfl, h0⟩
  case round =>
    obtain ⟨rfl, hJs⟩ := hrel
    gi_wp2
    go_end0
    exact ⟨⟨_, rfl⟩, hJs⟩
theorem wpListIn_row {F : Fence} {n : Nat} {P : Program} (w : World) {ops : Array Oper} {rest : List Oper} {o : Oper} {a : Act} {Q : Exit → Act → World → Prop}
    (hg : o.guard = none) (s x : Operand) (t : TypeId) (hop : o.op = Op.call { callee := Callee.builtin Builtin.append, args := #[s, x], argTypes := #[t, t] }) {v vx v' : Value} {w' : World} (hs : a.eval s = v) (hx : a.eval x = vx)
    (hrun : (Builtin.append_ #[t, t] o.type #[v, vx]).run P w = .ok v' w') (hK : wpListIn F n P ops Q rest (a.put o.dst v') w') : wpListIn F n P ops Q (o :: rest) a w := by
  refine wpListIn_plain hg fun K hK' => ?_
  unfold Oper.wpIn
  refine ⟨?_, ?_⟩
  · simp [Oper.about, hop, resolve, Target.leads, Sem.run_pure]
  · rw [Oper.semAt_plain F _ _ (by rw [hop]; intro c hc'; cases hc')]
    simp [execOp, hop, resolve, invoke, builtin, hs, hx, hrun, Result.andThen]
    exact hK' _ _ hK
theorem eall_stops (F : Fence) (n : Nat) (h88 : F.fn 88) (hro : F.round = none) (hn : 1 ≤ n) (bx tb n₀ : Nat) (sv : Value) (zs : List PE) (hlen : zs.length ≤ 1099511627776) (w : World) (hbx : bx < w.heap.size) (htb : tb < w.heap.size) (hn0 : n₀ ≤ w.heap.size)
    (hBx : w.cell? ⟨bx, 0, none⟩ = some (.pointer (some ⟨tb, 0, none⟩))) (hT : w.cell? ⟨tb, 1, none⟩ = some sv) (hI : EntsI n₀ w sv zs) :
    SeqStopsK F n Try.prog 88 #[.pointer (some ⟨bx, 0, none⟩)] (fun x : PE => #[.string x.key, .agg (enV x.v)]) (Below n₀) (fun ys => ys = zs) (fun pre => pre <+: zs) zs.length w := fun l J Jx W hW hJ hJx hY h0 => by
  have hB := (hW.cell (p := ⟨bx, 0, none⟩) hbx).trans hBx
  have hT' := (hW.cell (p := ⟨tb, 1, none⟩) htb).trans hT
  rcases hI.below (hW.mono hn0) with ⟨rfl, q, rfl⟩ | ⟨rb, o, cap, rfl, hrb, hcs⟩
  · exact (eall1_nil F n h88 hro l bx tb q J W hB hT' h0).mono fun e W' ⟨he, hj⟩ => ⟨he, .inl ⟨_, rfl, hj⟩⟩
  · exact eall1_in F n h88 hro hn l bx tb n₀ rb o cap zs hrb hlen J Jx W.heap.size hJ hY W hB hT' hcs h0 (Nat.le_trans hn0 hW.size)
set_option maxHeartbeats 1000000 in
theorem tall_in (F : Fence) (n : Nat) (h72 : F.fn 72) (hro : F.round = none) (p : Option Addr) (w : World) :
    CallsIn F n Try.prog 72 #[.pointer p] w fun e w' => e = .returned (.func (.func 88) #[] #[.pointer (some ⟨w.heap.size, 0, none⟩)]) ∧ w' = w.alloc (.cells #[.pointer p] 76) := by
  refine callsIn_of_wp Try.func72 rfl h72 ?_ hro
  simp only [Try.ntmps72, List.size_toArray, List.length_cons, List.length_nil, Nat.reduceAdd, Nat.reduceSub, Array.replicate_succ, Array.replicate_zero, List.push_toArray, List.append_toArray, List.nil_append, List.cons_append]
  gi_wp2
  go_ret
  exact ⟨rfl, rfl⟩
theorem row_app {W : World} {n₀ Bx : Nat} {v : Value} {l : List En} (h : RowI W n₀ Bx v l) (hn : n₀ ≤ W.heap.size) (hBx : Bx < W.heap.size) (x : En) (hl : l.length ≤ 1099511627776) :
    ∃ v' w', (Builtin.append_ #[88, 88] 88 #[v, .slice (some ⟨W.heap.size, 0, none⟩) 1 1]).run Try.prog (W.alloc (.cells (enV x) 65)) = .ok v' w' ∧ RowI w' n₀ Bx v' (l ++ [x]) ∧ (W.alloc (.cells (enV x) 65)).grownBy w' v.ownBlock := by
  have hm : (Try.prog.info? 65).map (fun i => (i.size, i.bytes)) = some (9, 88) := by kernel_rfl
  obtain ⟨i0, hi, he⟩ := Option.map_eq_some_iff.1 hm
  have hi9 : i0.size = 9 := congrArg Prod.fst he
  have hi88 : i0.bytes = 88 := congrArg Prod.snd he
  have hzt : zeroT Try.prog 65 = some [.string ⟨#[]⟩, .string ⟨#[]⟩, .bool false, .int .i64 0, .int .i64 0, .int .i64 0, .int .i64 0, .int .i64 0, .int .i64 0] := by kernel_rfl
  have hzl : 9 = i0.size := hi9.symm
  exact h.append (P := Try.prog) (us := #[88, 88]) (R := 88) rfl Try.underlying88 ⟨_, rfl, .inr ⟨_, Try.underlying88⟩⟩ hi hzt hzl hi9 hn hBx x 65 (by rw [hi88]; exact ⟨by omega, by decide⟩)
set_option maxRecDepth 100000 in
set_option maxHeartbeats 4000000 in
theorem gall_in (F : Fence) (n : Nat) (h44 : F.fn 44) (h72 : F.fn 72) (h88 : F.fn 88) (hro : F.round = none) (hn : 3 ≤ n) (gb tb : Nat) (sv : Value) (zs : List PE) (hlen : zs.length ≤ 1099511627776) (w : World)
    (hgb : gb < w.heap.size) (htb : tb < w.heap.size) (hG : w.cell? ⟨gb, 0, none⟩ = some (.pointer (some ⟨tb, 0, none⟩))) (hT : w.cell? ⟨tb, 1, none⟩ = some sv) (hI : EntsI w.heap.size w sv zs) :
    CallsIn F n Try.prog 44 #[.pointer (some ⟨gb, 0, none⟩)] w fun e W' => ∃ v, e = .returned v ∧ RowI W' w.heap.size w.heap.size v (zs.map (·.v)) ∧ Below w.heap.size w W' := by
  have h1 : 1 ≤ n := by omega
  refine callsIn_of_wp_marks Try.func44 rfl h44 ?_ hro
  simp only [Try.ntmps44, List.size_toArray, List.length_cons, List.length_nil, Nat.reduceAdd, Nat.reduceSub, Array.replicate_succ, Array.replicate_zero, List.push_toArray, List.append_toArray, List.nil_append, List.cons_append]
  gi_wp2_with (gi_at_call 72; refine (tall_in F (n - 1) h72 hro _ _).mono ?_; rintro e w' ⟨rfl, rfl⟩)
  have bO := Boxed.new w 88 (.slice none 0 0)
  have bN := Boxed.new (w.alloc (.cells #[.slice none 0 0] 88)) 76 (.pointer (some ⟨tb, 0, none⟩))
  rw [World.size_alloc] at bN
  have hB0 : Below w.heap.size w ((w.alloc (.cells #[.slice none 0 0] 88)).alloc (.cells #[.pointer (some ⟨tb, 0, none⟩)] 76)) := ((Below.refl _ w).alloc (Nat.le_refl _) _).alloc (by simp) _
  refine wpIn_rangeFunc_ownH hro h1 (gf := 88) (lb := #[.pointer (some ⟨w.heap.size + 1, 0, none⟩)]) rfl h88 (enters_of Try.func88 (by kernel_rfl) rfl)
    (eall_stops F (n - 1) h88 hro (by omega) (w.heap.size + 1) tb w.heap.size sv zs hlen _ (by simp) (by simp; omega) (by simp; omega) bN.cell ((hB0.cell (p := ⟨tb, 1, none⟩) htb).trans hT) (hI.below hB0)) belowK_t (belowK_b (by simp; omega)) (Below.refl _ _) (fun _ => rfl)
    (fun pre W => (∃ v, Boxed W w.heap.size 88 v ∧ RowI W w.heap.size w.heap.size v (pre.map (·.v))) ∧ Below w.heap.size w W)
    (fun _ _ _ => False)
    (OwnFrom.and (Own.from (fun s X Y row hs hg hr => by
      obtain ⟨v, hv, hrw⟩ := hs
      refine ⟨v, hv.kept hg (fun e' => ?_), hrw.own hg hr⟩
      obtain ⟨o, ho, hc⟩ := hr _ e'.symm
      rw [show X.heap[w.heap.size]? = _ from hv] at ho; cases ho; cases hc) _) (ownFrom_below (Nat.le_refl _) (by simp; omega)))
    (fun _ _ _ _ _ hs _ _ => hs)
    ⟨⟨_, bO.alloc _, RowI.nil _ _ _⟩, hB0⟩
    (fun x a' W => ∃ Be, w.heap.size + 1 ≤ Be ∧ Be < W.heap.size ∧ W.heap[Be]? = some (.cells (enV x.v) 65 (0, 0)) ∧ a' = { tmps := #[.pointer (some ⟨gb, 0, none⟩), undef, .slice none 0 0, .pointer (some ⟨w.heap.size, 0, none⟩), undef, .pointer (some ⟨Be, 0, none⟩), .pointer (some ⟨gb, 0, none⟩), .pointer (some ⟨gb, 0, none⟩), .pointer (some ⟨gb, 0, none⟩), .pointer (some ⟨tb, 0, none⟩), .func (.func 88) #[] #[.pointer (some ⟨w.heap.size + 1, 0, none⟩)], .string x.key, .agg (enV x.v), undef, undef, undef, undef, undef], defers := [] })
    ?hAx ?assign ?body ?done ?stop
  case hAx =>
    intro x a' s X Y row hs hg hr
    obtain ⟨Be, q1, q2, q3, q4⟩ := hs
    refine ⟨Be, q1, Nat.lt_of_lt_of_le q2 hg.size, (hg.block Be q2 fun e' => ?_).trans q3, q4⟩
    obtain ⟨-, o, ho, hc⟩ := hr _ e'.symm
    rw [q3] at ho; cases ho; cases hc
  case assign =>
    rintro l pre x W K ⟨⟨v, hv, hrw⟩, hB⟩ hK
    dsimp only [enV] at *
    gi_wp2
    exact hK _ _ ((KeepsOthers.alloc _ _).from _) ((Below.refl _ W).alloc hB.size _) ⟨⟨v, hv.alloc _, hrw.alloc _⟩, hB.alloc hB.size _⟩ ⟨W.heap.size, hv.lt, by simp, World.alloc_heap_new W _, rfl⟩
  case body =>
    rintro l pre x a' W hl ⟨r, hr⟩ ⟨⟨v, hv, hrw⟩, hB⟩ ⟨Be, q1, q2, q3, rfl⟩ hlt
    have hc := hv.cell
    have hf := hv.frozen
    have e0 : W.cell? ⟨Be, 0, none⟩ = some (.string x.v.key) := by simp [World.cell?, q3, enV]
    have e1 : W.cell? ⟨Be, 1, none⟩ = some (.string x.v.val) := by simp [World.cell?, q3, enV]
    have e2 : W.cell? ⟨Be, 2, none⟩ = some (.bool x.v.dead) := by simp [World.cell?, q3, enV]
    have e3 : W.cell? ⟨Be, 3, none⟩ = some (.int .i64 x.v.st.c) := by simp [World.cell?, q3, enV]
    have e4 : W.cell? ⟨Be, 4, none⟩ = some (.int .i64 x.v.st.s) := by simp [World.cell?, q3, enV]
    have e5 : W.cell? ⟨Be, 5, none⟩ = some (.int .i64 x.v.act.c) := by simp [World.cell?, q3, enV]
    have e6 : W.cell? ⟨Be, 6, none⟩ = some (.int .i64 x.v.act.s) := by simp [World.cell?, q3, enV]
    have e7 : W.cell? ⟨Be, 7, none⟩ = some (.int .i64 x.v.keep) := by simp [World.cell?, q3, enV]
    have e8 : W.cell? ⟨Be, 8, none⟩ = some (.int .i64 x.v.age) := by simp [World.cell?, q3, enV]
    obtain ⟨v', w1, hrun, hrow', hgrow⟩ := row_app hrw hB.size hv.lt x.v (by simp; omega)
    have hv1 : Boxed w1 w.heap.size 88 v := (hv.alloc _).kept hgrow fun e' => (hrw.block e'.symm).2.1 rfl
    have hc1 := hv1.cell
    have hf1 := hv1.frozen
    obtain ⟨ga, gc, rfl⟩ := hrow'.slice
    dsimp only [enV] at hrun hgrow
    gi_wp2_with (gi_at_builtin; refine wpListIn_row _ rfl _ _ 88 rfl rfl rfl hrun ?_)
    have hbel : Below w.heap.size W (w1.setCell ⟨w.heap.size, 0, none⟩ (.slice ga (pre.map (·.v) ++ [x.v]).length gc)) := (((Below.refl _ W).alloc hB.size _).grown hgrow (by have := hB.size; simp; omega) fun j ej => (hrw.block ej).1).setCell (p := ⟨w.heap.size, 0, none⟩) (Nat.le_refl _) _
    have hrb := hrow'.box (v' := .slice ga (pre.map (·.v) ++ [x.v]).length gc)
    have hvb := hv1.set (.slice ga (pre.map (·.v) ++ [x.v]).length gc)
    simp only [List.length_append, List.length_map, List.length_singleton] at hbel hrb hvb
    refine ⟨(((KeepsOthers.alloc W _).trans (KeepsOthers.of_grownBy hgrow fun j o ej hj => ((hrw.alloc _).block ej).2.2.2 o hj)).trans (KeepsOthers.setCell _ _ _)).from _, hbel, ⟨_, hvb, ?_⟩, hB.trans hbel⟩
    rw [List.map_append]
    exact hrb
  case done =>
    rintro D ys W hD rfl ⟨⟨v, hv, hrw⟩, hB⟩ hK
    have hc := hv.cell
    gi_wp2
    refine ⟨by simp, .inl ⟨_, _, rfl, run_takeDeferred hK, ?_⟩⟩
    exact ⟨_, results_tmp rfl _ _ _, v, rfl, hrw.own (grownBy_putObj' W D _) (fun r e => by cases e; exact ⟨_, hK, rfl⟩), hB.trans (belowK_b (w := w) (Nat.le_refl _) W D _ _ (by simp at hD; omega) hK rfl rfl)⟩
  case stop =>
    rintro D c pre W _ _ h _
    exact h.elim
end Go.Proofs.Ytgjimlgofakbpaa
