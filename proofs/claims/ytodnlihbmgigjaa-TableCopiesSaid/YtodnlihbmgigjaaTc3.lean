/- Contract: a table copied: told by a range over a function. -/
import Derived.Test.YtodnlihbmgigjaaTc4
namespace Go.Proofs.Ytodnlihbmgigjaa
set_option linter.unusedSimpArgs false
set_option linter.unusedVariables false
set_option maxHeartbeats 4000000
open Go Go.Am Go.RowKit Go.Shelf
attribute [local go_sem] Oper.semAt_some
/-- A value is a slice of these pairs, below n₀. -/
def EntsI (n₀ : Nat) (w : World) (sv : Value) (zs : List Pi) : Prop :=
  (zs = [] ∧ ∃ q, sv = .slice q 0 0) ∨ ∃ rb o cap, sv = .slice (some ⟨rb, o, none⟩) zs.length cap ∧ rb < n₀ ∧ ∀ k (h : k < zs.length), ∀ j u, (piV zs[k])[j]? = some u → w.cell? ⟨rb, o + k * 2 + j, none⟩ = some u
theorem EntsI.below {n₀ : Nat} {w W : World} {sv : Value} {zs : List Pi} (h : EntsI n₀ w sv zs) (hb : Below n₀ w W) : EntsI n₀ W sv zs := by
  rcases h with h | ⟨rb, o, cap, h1, h2, h3⟩
  · exact .inl h
  · exact .inr ⟨rb, o, cap, h1, h2, fun k hk j u hj => (hb.cell (p := ⟨rb, o + k * 2 + j, none⟩) h2).trans (h3 k hk j u hj)⟩
set_option maxRecDepth 100000 in
set_option maxHeartbeats 2000000 in
theorem tall1_nil (F : Fence) (n : Nat) (h88 : F.fn 51) (hro : F.round = none) (l bx tb : Nat) (q : Option Addr) (J : List Pi → World → Prop) (W : World) (hBx : W.cell? ⟨bx, 0, none⟩ = some (.pointer (some ⟨tb, 0, none⟩))) (hT : W.cell? ⟨tb, 1, none⟩ = some (.slice q 0 0)) (h0 : J [] W) :
    CallsIn F n Try.prog 51 #[.func (.yield l) #[] #[], .pointer (some ⟨bx, 0, none⟩)] W fun e W' => (∃ v, e = .returned v) ∧ J [] W' := by
  refine callsIn_of_wp Try.func51 rfl h88 ?_ hro
  simp only [Try.ntmps51, List.size_toArray, List.length_cons, List.length_nil, Nat.reduceAdd, Nat.reduceSub, Array.replicate_succ, Array.replicate_zero, List.push_toArray, List.append_toArray, List.nil_append, List.cons_append]
  gi_wp2
  gi_loopw [10] (fun i wr => i = .int .i64 0 ∧ J [] wr) (fun _ _ => 0)
  case atStart => exact ⟨rfl, h0⟩
  case round =>
    obtain ⟨rfl, hJs⟩ := hrel
    gi_wp2
    go_end0
    exact ⟨⟨_, rfl⟩, hJs⟩
theorem wpListIn_row {F : Fence} {n : Nat} {P : Program} (w : World) {ops : Array Oper} {rest : List Oper} {o : Oper} {a : Act} {Q : Exit → Act → World → Prop}
    (hg : o.guard = none) (s x : Operand) (t : TypeId) (hop : o.op = Op.call { callee := Callee.builtin Builtin.append, args := #[s, x], argTypes := #[t, t] }) {v vx v' : Value} {w' : World} (hs : a.eval s = v) (hx : a.eval x = vx)
    (hrun : (Builtin.append_ #[t, t] o.type #[v, vx]).run P w = .ok v' w') (hK : wpListIn F n P ops Q rest (a.put o.dst v') w') : wpListIn F n P ops Q (o :: rest) a w := by
  refine wpListIn_plain hg fun K hK' => ?_
  unfold Oper.wpIn
  refine ⟨?_, ?_⟩
  · simp [Oper.about, hop, resolve, Target.leads, Sem.run_pure]
  · rw [Oper.semAt_plain F _ _ (by rw [hop]; intro c hc'; cases hc')]
    simp [execOp, hop, resolve, invoke, builtin, hs, hx, hrun, Result.andThen]
    exact hK' _ _ hK
theorem tall_stops (F : Fence) (n : Nat) (h88 : F.fn 51) (hro : F.round = none) (hn : 1 ≤ n) (bx tb n₀ : Nat) (sv : Value) (zs : List Pi) (hlen : zs.length ≤ 1099511627776) (w : World) (hbx : bx < w.heap.size) (htb : tb < w.heap.size) (hn0 : n₀ ≤ w.heap.size)
    (hBx : w.cell? ⟨bx, 0, none⟩ = some (.pointer (some ⟨tb, 0, none⟩))) (hT : w.cell? ⟨tb, 1, none⟩ = some sv) (hI : EntsI n₀ w sv zs) :
    SeqStopsK F n Try.prog 51 #[.pointer (some ⟨bx, 0, none⟩)] (fun x : Pi => #[.string x.key, .int .i64 x.v]) (Below n₀) (fun ys => ys = zs) (fun pre => pre <+: zs) zs.length w := fun l J Jx W hW hJ hJx hY h0 => by
  have hB := (hW.cell (p := ⟨bx, 0, none⟩) hbx).trans hBx
  have hT' := (hW.cell (p := ⟨tb, 1, none⟩) htb).trans hT
  rcases hI.below (hW.mono hn0) with ⟨rfl, q, rfl⟩ | ⟨rb, o, cap, rfl, hrb, hcs⟩
  · exact (tall1_nil F n h88 hro l bx tb q J W hB hT' h0).mono fun e W' ⟨he, hj⟩ => ⟨he, .inl ⟨_, rfl, hj⟩⟩
  · exact tall1_in F n h88 hro hn l bx tb n₀ rb o cap zs hrb hlen J Jx W.heap.size hJ hY W hB hT' hcs h0 (Nat.le_trans hn0 hW.size)
set_option maxHeartbeats 1000000 in
theorem tall_in (F : Fence) (n : Nat) (h72 : F.fn 41) (hro : F.round = none) (p : Option Addr) (w : World) :
    CallsIn F n Try.prog 41 #[.pointer p] w fun e w' => e = .returned (.func (.func 51) #[] #[.pointer (some ⟨w.heap.size, 0, none⟩)]) ∧ w' = w.alloc (.cells #[.pointer p] 39) := by
  refine callsIn_of_wp Try.func41 rfl h72 ?_ hro
  simp only [Try.ntmps41, List.size_toArray, List.length_cons, List.length_nil, Nat.reduceAdd, Nat.reduceSub, Array.replicate_succ, Array.replicate_zero, List.push_toArray, List.append_toArray, List.nil_append, List.cons_append]
  gi_wp2
  go_ret
  exact ⟨rfl, rfl⟩
theorem RowI.weak {W : World} {n₀ m Bx : Nat} {v : Value} {l : List Pi} (h : RowI W n₀ Bx v l) (hle : m ≤ n₀) : RowI W m Bx v l := by
  obtain ⟨B, h1, h2, h3, h4, h5⟩ := h
  exact ⟨B, h1, h2, h3, fun b n hb => ⟨Nat.le_trans hle (h4 b n hb).1, (h4 b n hb).2⟩, h5⟩
theorem row_app {W : World} {n₀ Bx : Nat} {v : Value} {l : List Pi} (h : RowI W n₀ Bx v l) (hn : n₀ ≤ W.heap.size) (hBx : Bx < W.heap.size) (x : Pi) (hl : l.length ≤ 1099511627776) :
    ∃ v' w', (Builtin.append_ #[43, 43] 43 #[v, .slice (some ⟨W.heap.size, 0, none⟩) 1 1]).run Try.prog (W.alloc (.cells (pvV x) 47)) = .ok v' w' ∧ RowI w' n₀ Bx v' (l ++ [x]) ∧ (W.alloc (.cells (pvV x) 47)).grownBy w' v.ownBlock := by
  have hm : (Try.prog.info? 47).map (fun i => (i.size, i.bytes)) = some (2, 24) := by kernel_rfl
  obtain ⟨i0, hi, he⟩ := Option.map_eq_some_iff.1 hm
  have hi9 : i0.size = 2 := congrArg Prod.fst he
  have hi88 : i0.bytes = 24 := congrArg Prod.snd he
  have hzt : zeroT Try.prog 47 = some [.string ⟨#[]⟩, .int .i64 0] := by kernel_rfl
  have hzl : 2 = i0.size := hi9.symm
  exact h.append (P := Try.prog) (us := #[43, 43]) (R := 43) rfl Try.underlying43 ⟨_, rfl, .inr ⟨_, Try.underlying43⟩⟩ hi hzt hzl hi9 hn hBx x 47 (by rw [hi88]; exact ⟨by omega, by decide⟩)
set_option maxRecDepth 100000 in
set_option maxHeartbeats 4000000 in
theorem tcopy_in (F : Fence) (n : Nat) (h44 : F.fn 27) (h72 : F.fn 41) (h88 : F.fn 51) (hro : F.round = none) (hn : 3 ≤ n) (tb : Nat) (room : Int) (sv : Value) (zs : List Pi) (hlen : zs.length ≤ 1099511627776) (w : World)
    (htb : tb < w.heap.size) (hR : w.cell? ⟨tb, 0, none⟩ = some (.int .i64 room)) (hT : w.cell? ⟨tb, 1, none⟩ = some sv) (hI : EntsI w.heap.size w sv zs) :
    CallsIn F n Try.prog 27 #[.pointer (some ⟨tb, 0, none⟩)] w fun e W' => ∃ v Bt, e = .returned (.pointer (some ⟨Bt, 0, none⟩)) ∧ w.heap.size ≤ Bt ∧ W'.heap[Bt]? = some (.cells #[.int .i64 room, v] 75 (0, 0)) ∧ RowI W' w.heap.size Bt v zs ∧ Below w.heap.size w W' := by
  have h1 : 1 ≤ n := by omega
  refine callsIn_of_wp_marks Try.func27 rfl h44 ?_ hro
  simp only [Try.ntmps27, List.size_toArray, List.length_cons, List.length_nil, Nat.reduceAdd, Nat.reduceSub, Array.replicate_succ, Array.replicate_zero, List.push_toArray, List.append_toArray, List.nil_append, List.cons_append]
  gi_wp2_with (gi_at_call 41; refine (tall_in F (n - 1) h72 hro _ _).mono ?_; rintro e w' ⟨rfl, rfl⟩)
  obtain ⟨S, hS⟩ : ∃ S, S = w.heap.size := ⟨_, rfl⟩
  obtain ⟨W0, hW0⟩ : ∃ W0, W0 = ((w.alloc (.cells #[.int .i64 room, .slice none 0 0] 75)).alloc (.cells #[.pointer (some ⟨w.heap.size, 0, none⟩)] 39)).alloc (.cells #[.pointer (some ⟨tb, 0, none⟩)] 39) := ⟨_, rfl⟩
  have hsz : W0.heap.size = S + 3 := by rw [hW0, hS]; simp
  have b0 : W0.heap[S]? = some (.cells #[.int .i64 room, .slice none 0 0] 75 (0, 0)) := by
    rw [hW0, hS]
    rw [Below.heap_alloc _ _ _ (by simp; omega), Below.heap_alloc _ _ _ (by simp)]
    exact World.alloc_heap_new w _
  have b1 : Boxed W0 (S + 1) 39 (.pointer (some ⟨S, 0, none⟩)) := by
    have h := (Boxed.new (w.alloc (.cells #[.int .i64 room, .slice none 0 0] 75)) 39 (.pointer (some ⟨w.heap.size, 0, none⟩))).alloc (.cells #[.pointer (some ⟨tb, 0, none⟩)] 39)
    rw [World.size_alloc, ← hS] at h
    rw [hW0, ← hS]; exact h
  have b2 : Boxed W0 (S + 2) 39 (.pointer (some ⟨tb, 0, none⟩)) := by
    have h := Boxed.new ((w.alloc (.cells #[.int .i64 room, .slice none 0 0] 75)).alloc (.cells #[.pointer (some ⟨w.heap.size, 0, none⟩)] 39)) 39 (.pointer (some ⟨tb, 0, none⟩))
    rw [World.size_alloc, World.size_alloc, ← hS] at h
    rw [hW0, ← hS]; exact h
  have hB0 : Below S w W0 := by
    rw [hW0, hS]
    exact ((((Below.refl _ w).alloc (Nat.le_refl _) _).alloc (by simp) _).alloc (by simp; omega) _)
  rw [← hW0]
  subst hS
  refine wpIn_rangeFunc_ownH hro h1 (gf := 51) (lb := #[.pointer (some ⟨w.heap.size + 2, 0, none⟩)]) rfl h88 (enters_of Try.func51 (by kernel_rfl) rfl)
    (tall_stops F (n - 1) h88 hro (by omega) (w.heap.size + 2) tb w.heap.size sv zs hlen _ (by omega) (by omega) (by omega) b2.cell ((hB0.cell (p := ⟨tb, 1, none⟩) htb).trans hT) (hI.below hB0)) belowK_t (belowK_b (by omega)) (Below.refl _ _) (fun _ => rfl)
    (fun pre W => (∃ v, W.heap[w.heap.size]? = some (.cells #[.int .i64 room, v] 75 (0, 0)) ∧ Boxed W (w.heap.size + 1) 39 (.pointer (some ⟨w.heap.size, 0, none⟩)) ∧ RowI W (w.heap.size + 3) w.heap.size v pre ∧ w.heap.size + 3 ≤ W.heap.size) ∧ Below w.heap.size w W)
    (fun _ _ _ => False)
    (OwnFrom.and (Own.from (fun s X Y row hs hg hr => by
      obtain ⟨v, ht, hv, hrw, hs3⟩ := hs
      refine ⟨v, (hg.block w.heap.size (Array.getElem?_eq_some_iff.1 ht).1 fun e' => ?_).trans ht, hv.kept hg (fun e' => ?_), hrw.own hg hr, Nat.le_trans hs3 hg.size⟩
      · obtain ⟨o, ho, hc⟩ := hr _ e'.symm
        rw [ht] at ho; cases ho; cases hc
      · obtain ⟨o, ho, hc⟩ := hr _ e'.symm
        rw [show X.heap[w.heap.size + 1]? = _ from hv] at ho; cases ho; cases hc) _) (ownFrom_below (by omega) (by omega)))
    (fun _ _ _ _ _ hs _ _ => hs)
    ⟨⟨_, b0, b1, RowI.nil _ _ _, by omega⟩, hB0⟩
    (fun x a' W => a' = { tmps := #[.pointer (some ⟨tb, 0, none⟩), undef, .pointer none, .pointer (some ⟨w.heap.size + 1, 0, none⟩), .string x.key, .int .i64 x.v, .pointer (some ⟨tb, 0, none⟩), .pointer (some ⟨tb, 0, none⟩), .pointer (some ⟨tb, 0, none⟩), .int .i64 room, .agg #[.int .i64 room, .slice none 0 0], .pointer (some ⟨w.heap.size, 0, none⟩), .pointer (some ⟨tb, 0, none⟩), .func (.func 51) #[] #[.pointer (some ⟨w.heap.size + 2, 0, none⟩)], .string x.key, .int .i64 x.v, undef, undef, undef, undef, undef, undef, undef, undef, undef, undef, undef, undef, undef], defers := [] })
    ?hAx ?assign ?body ?done ?stop
  case hAx =>
    intro x a' s X Y row hs hg hr
    exact hs
  case assign =>
    rintro l pre x W K ⟨⟨v, ht, hv, hrw, hs3⟩, hB⟩ hK
    gi_wp2
    exact hK _ _ (KeepsOthers.refl _ |>.from _) (Below.refl _ W) ⟨⟨v, ht, hv, hrw, hs3⟩, hB⟩ rfl
  case body =>
    rintro l pre x a' W hl ⟨r, hr⟩ ⟨⟨v, ht, hv, hrw, hs3⟩, hB⟩ rfl hlt
    have hc := hv.cell
    have hcv : W.cell? ⟨w.heap.size, 1, none⟩ = some v := by simp [World.cell?, ht]
    have hrwd : RowI W.drew (w.heap.size + 3) w.heap.size v pre := hrw.kept (W' := W.drew) (row := none) ⟨rfl, rfl, rfl, Nat.le_refl _, fun _ _ _ => rfl⟩ (fun b e => by cases e)
    obtain ⟨v', w1, hrun, hrow', hgrow⟩ := row_app hrwd hs3 (by show _ < W.heap.size; omega) x (by omega)
    have hne : ∀ j, v.ownBlock = some j → w.heap.size + 3 ≤ j := fun j ej => (hrw.block ej).1
    have hgS : ∀ b, b < w.heap.size + 3 → w1.heap[b]? = W.heap[b]? := fun b hb => (hgrow.block b (by rw [World.size_alloc]; show b < W.heap.size + 1; omega) (fun e' => by have := hne b e'.symm; omega)).trans (Below.heap_alloc W.drew _ b (by show b < W.heap.size; omega))
    have ht1 : w1.heap[w.heap.size]? = some (.cells #[.int .i64 room, v] 75 (0, 0)) := (hgS w.heap.size (by omega)).trans ht
    have hv1 : Boxed w1 (w.heap.size + 1) 39 (.pointer (some ⟨w.heap.size, 0, none⟩)) := (hgS (w.heap.size + 1) (by omega)).trans hv
    have hc1 : w1.cell? ⟨w.heap.size, 1, none⟩ = some v := by simp [World.cell?, ht1]
    have hf1 : w1.frozen? ⟨w.heap.size, 1, none⟩ = false := by simp [World.frozen?, ht1]
    obtain ⟨ga, gc, rfl⟩ := hrow'.slice
    dsimp only [pvV] at hrun hgrow
    obtain ⟨stW, hstW⟩ : ∃ stW : Bool → Bool → Bool → World, stW = fun b8 b9 b12 => if b12 = true then w1.setCell ⟨w.heap.size, 1, none⟩ (.slice ga (pre ++ [x]).length gc) else if b9 = true then w1 else if b8 = true then W.drew.alloc (.cells #[.string x.key, .int .i64 x.v] 47) else W.drew := ⟨_, rfl⟩
    have st0 : stW false false false = W.drew := by rw [hstW]; rfl
    have st1 : stW true false false = W.drew.alloc (.cells #[.string x.key, .int .i64 x.v] 47) := by rw [hstW]; rfl
    have st2 : stW true true false = w1 := by rw [hstW]; rfl
    have st3 : stW true true true = w1.setCell ⟨w.heap.size, 1, none⟩ (.slice ga (pre ++ [x]).length gc) := by rw [hstW]; rfl
    have hst : ∀ b8 b9 b, b < w.heap.size + 3 → (stW b8 b9 false).heap[b]? = W.heap[b]? := by
      intro b8 b9 b hb
      rw [hstW]
      cases b9
      · cases b8
        · rfl
        · exact Below.heap_alloc W.drew _ b (by show b < W.heap.size; omega)
      · exact hgS b hb
    have hsB : ∀ b8 b9, (stW b8 b9 false).cell? ⟨w.heap.size + 1, 0, none⟩ = some (.pointer (some ⟨w.heap.size, 0, none⟩)) := fun b8 b9 => by
      have h1 := (hst b8 b9 (w.heap.size + 1) (by omega)).trans hv
      simp [World.cell?, h1]
    have hsV : ∀ b8 b9, (stW b8 b9 false).cell? ⟨w.heap.size, 1, none⟩ = some v := fun b8 b9 => by
      have h1 := (hst b8 b9 w.heap.size (by omega)).trans ht
      simp [World.cell?, h1]
    clear hstW
    gi_wp2
    refine wpIn_region_any (by kernel_rfl) ?_
    refine any_inv (fun g a' W' => g.size = 13 ∧ (∃ t16 t17 t18 t19 t20 t21 t22 t23 t24 t25 t26 t27, a' = { tmps := #[.pointer (some ⟨tb, 0, none⟩), undef, .pointer none, .pointer (some ⟨w.heap.size + 1, 0, none⟩), .string x.key, .int .i64 x.v, .pointer (some ⟨tb, 0, none⟩), .pointer (some ⟨tb, 0, none⟩), .pointer (some ⟨tb, 0, none⟩), .int .i64 room, .agg #[.int .i64 room, .slice none 0 0], .pointer (some ⟨w.heap.size, 0, none⟩), .pointer (some ⟨tb, 0, none⟩), .func (.func 51) #[] #[.pointer (some ⟨w.heap.size + 2, 0, none⟩)], .string x.key, .int .i64 x.v, t16, t17, t18, t19, t20, t21, t22, t23, t24, t25, t26, t27, undef], defers := [] } ∧ (g.getD 0 false = true → t16 = .pointer (some ⟨w.heap.size, 0, none⟩)) ∧ (g.getD 1 false = true → t17 = .pointer (some ⟨w.heap.size, 0, none⟩)) ∧ (g.getD 2 false = true → t18 = .pointer (some ⟨w.heap.size, 0, none⟩)) ∧ (g.getD 3 false = true → t19 = .pointer (some ⟨w.heap.size, 1, none⟩)) ∧ (g.getD 4 false = true → t20 = v) ∧ (g.getD 5 false = true → t21 = .string x.key) ∧ (g.getD 6 false = true → t22 = .int .i64 x.v) ∧ (g.getD 7 false = true → t23 = .agg #[.string x.key, .int .i64 x.v]) ∧ (g.getD 8 false = true → t24 = .slice (some ⟨W.heap.size, 0, none⟩) 1 1) ∧ (g.getD 9 false = true → t25 = .slice ga (pre ++ [x]).length gc) ∧ (g.getD 10 false = true → t26 = .pointer (some ⟨w.heap.size, 0, none⟩)) ∧ (g.getD 11 false = true → t27 = .pointer (some ⟨w.heap.size, 1, none⟩))) ∧ W' = stW (g.getD 8 false) (g.getD 9 false) (g.getD 12 false) ∧ (g.getD 9 false = true → g.getD 4 false = true ∧ g.getD 8 false = true) ∧ (g.getD 12 false = true → g.getD 0 false = true ∧ g.getD 1 false = true ∧ g.getD 4 false = true ∧ g.getD 8 false = true ∧ g.getD 9 false = true)) ?step ?fin _ _ _ _ ?ini (by decide)
    case ini =>
      refine ⟨rfl, ⟨_, _, _, _, _, _, _, _, _, _, _, _, rfl, ?_⟩, st0.symm, fun h => absurd h (by decide), fun h => absurd h (by decide)⟩
      exact ⟨fun h => absurd h (by decide), fun h => absurd h (by decide), fun h => absurd h (by decide), fun h => absurd h (by decide), fun h => absurd h (by decide), fun h => absurd h (by decide), fun h => absurd h (by decide), fun h => absurd h (by decide), fun h => absurd h (by decide), fun h => absurd h (by decide), fun h => absurd h (by decide), fun h => absurd h (by decide)⟩
    case step =>
      intro g a' W' i hI hi
      obtain ⟨hun, o, ho, hdep⟩ := mem_ready.1 hi
      have hi13 : i < 13 := by have := (Array.getElem?_eq_some_iff.1 ho).1; simpa using this
      obtain ⟨hsz, ⟨t16, t17, t18, t19, t20, t21, t22, t23, t24, t25, t26, t27, rfl, f0, f1, f2, f3, f4, f5, f6, f7, f8, f9, f10, f11⟩, hW', hc9, hc12⟩ := hI
      have hunf := gun (by omega) hun
      have hupi := gup_eq (g := g) (i := i) (by omega)
      clear hi hun
      have hm : ∀ j, g.getD j false = true → (g.setIfInBounds i true).getD j false = true := fun j h => gup_mono (by omega) h
      have hnq : ∀ j, j ≠ i → (g.setIfInBounds i true).getD j false = g.getD j false := fun j h => gup_ne h
      have hz' : (g.setIfInBounds i true).size = 13 := by simpa using hsz
      rcases i with _ | _ | _ | _ | _ | _ | _ | _ | _ | _ | _ | _ | _ | i
      · obtain rfl := Option.some.inj ho
        try simp only [Nat.zero_add, Nat.reduceAdd] at hm hnq hz' hunf hupi ⊢
        have hW0' := hW'
        have n12 : g.getD 12 false = false := by cases h : g.getD 12 false with | false => rfl | true => rw [(hc12 h).1] at hunf; cases hunf
        rw [n12] at hW'
        have hcW : W'.cell? ⟨w.heap.size + 1, 0, none⟩ = some (.pointer (some ⟨w.heap.size, 0, none⟩)) := by rw [hW']; exact hsB _ _
        have hh := Hid.mk (And.intro hz' (And.intro hm (And.intro hnq (And.intro hW' (And.intro hc9 (And.intro hc12 (And.intro hunf (And.intro hupi (And.intro hsz (And.intro f0 (And.intro f1 (And.intro f2 (And.intro f3 (And.intro f4 (And.intro f5 (And.intro f6 (And.intro f7 (And.intro f8 (And.intro f9 (And.intro f10 (And.intro f11 (And.intro hW0' (And.intro n12 (And.intro st0 (And.intro st1 (And.intro st2 (And.intro st3 (And.intro hst (And.intro hsB (And.intro hsV (And.intro hgS hdep)))))))))))))))))))))))))))))))
        clear hz' hm hnq hW' hc9 hc12 hunf hupi hsz f0 f1 f2 f3 f4 f5 f6 f7 f8 f9 f10 f11 hW0' n12 st0 st1 st2 st3 hst hsB hsV hgS hdep
        refine wpOp_step (o := _) rfl rfl fun K hK => ?_
        gi_wp2
        refine hK.k _ _ ?_
        obtain ⟨hz', hm, hnq, hW', hc9, hc12, hunf, hupi, hsz, f0, f1, f2, f3, f4, f5, f6, f7, f8, f9, f10, f11, hW0', n12, st0, st1, st2, st3, hst, hsB, hsV, hgS, hdep⟩ := hh.k
        refine ⟨hz', ⟨_, _, _, _, _, _, _, _, _, _, _, _, rfl, fun _ => rfl, fun h => f1 ((hnq 1 (by decide)).symm.trans h), fun h => f2 ((hnq 2 (by decide)).symm.trans h), fun h => f3 ((hnq 3 (by decide)).symm.trans h), fun h => f4 ((hnq 4 (by decide)).symm.trans h), fun h => f5 ((hnq 5 (by decide)).symm.trans h), fun h => f6 ((hnq 6 (by decide)).symm.trans h), fun h => f7 ((hnq 7 (by decide)).symm.trans h), fun h => f8 ((hnq 8 (by decide)).symm.trans h), fun h => f9 ((hnq 9 (by decide)).symm.trans h), fun h => f10 ((hnq 10 (by decide)).symm.trans h), fun h => f11 ((hnq 11 (by decide)).symm.trans h)⟩, by rw [hnq 8 (by decide), hnq 9 (by decide), hnq 12 (by decide)]; exact hW0', fun h => ⟨hm 4 (hc9 ((hnq 9 (by decide)).symm.trans h)).1, hm 8 (hc9 ((hnq 9 (by decide)).symm.trans h)).2⟩, fun h => ⟨hm 0 (hc12 ((hnq 12 (by decide)).symm.trans h)).1, hm 1 (hc12 ((hnq 12 (by decide)).symm.trans h)).2.1, hm 4 (hc12 ((hnq 12 (by decide)).symm.trans h)).2.2.1, hm 8 (hc12 ((hnq 12 (by decide)).symm.trans h)).2.2.2.1, hm 9 (hc12 ((hnq 12 (by decide)).symm.trans h)).2.2.2.2⟩⟩
      · obtain rfl := Option.some.inj ho
        try simp only [Nat.zero_add, Nat.reduceAdd] at hm hnq hz' hunf hupi ⊢
        have hW0' := hW'
        have n12 : g.getD 12 false = false := by cases h : g.getD 12 false with | false => rfl | true => rw [(hc12 h).2.1] at hunf; cases hunf
        rw [n12] at hW'
        have hcW : W'.cell? ⟨w.heap.size + 1, 0, none⟩ = some (.pointer (some ⟨w.heap.size, 0, none⟩)) := by rw [hW']; exact hsB _ _
        have hh := Hid.mk (And.intro hz' (And.intro hm (And.intro hnq (And.intro hW' (And.intro hc9 (And.intro hc12 (And.intro hunf (And.intro hupi (And.intro hsz (And.intro f0 (And.intro f1 (And.intro f2 (And.intro f3 (And.intro f4 (And.intro f5 (And.intro f6 (And.intro f7 (And.intro f8 (And.intro f9 (And.intro f10 (And.intro f11 (And.intro hW0' (And.intro n12 (And.intro st0 (And.intro st1 (And.intro st2 (And.intro st3 (And.intro hst (And.intro hsB (And.intro hsV (And.intro hgS hdep)))))))))))))))))))))))))))))))
        clear hz' hm hnq hW' hc9 hc12 hunf hupi hsz f0 f1 f2 f3 f4 f5 f6 f7 f8 f9 f10 f11 hW0' n12 st0 st1 st2 st3 hst hsB hsV hgS hdep
        refine wpOp_step (o := _) rfl rfl fun K hK => ?_
        gi_wp2
        refine hK.k _ _ ?_
        obtain ⟨hz', hm, hnq, hW', hc9, hc12, hunf, hupi, hsz, f0, f1, f2, f3, f4, f5, f6, f7, f8, f9, f10, f11, hW0', n12, st0, st1, st2, st3, hst, hsB, hsV, hgS, hdep⟩ := hh.k
        refine ⟨hz', ⟨_, _, _, _, _, _, _, _, _, _, _, _, rfl, fun h => f0 ((hnq 0 (by decide)).symm.trans h), fun _ => rfl, fun h => f2 ((hnq 2 (by decide)).symm.trans h), fun h => f3 ((hnq 3 (by decide)).symm.trans h), fun h => f4 ((hnq 4 (by decide)).symm.trans h), fun h => f5 ((hnq 5 (by decide)).symm.trans h), fun h => f6 ((hnq 6 (by decide)).symm.trans h), fun h => f7 ((hnq 7 (by decide)).symm.trans h), fun h => f8 ((hnq 8 (by decide)).symm.trans h), fun h => f9 ((hnq 9 (by decide)).symm.trans h), fun h => f10 ((hnq 10 (by decide)).symm.trans h), fun h => f11 ((hnq 11 (by decide)).symm.trans h)⟩, by rw [hnq 8 (by decide), hnq 9 (by decide), hnq 12 (by decide)]; exact hW0', fun h => ⟨hm 4 (hc9 ((hnq 9 (by decide)).symm.trans h)).1, hm 8 (hc9 ((hnq 9 (by decide)).symm.trans h)).2⟩, fun h => ⟨hm 0 (hc12 ((hnq 12 (by decide)).symm.trans h)).1, hm 1 (hc12 ((hnq 12 (by decide)).symm.trans h)).2.1, hm 4 (hc12 ((hnq 12 (by decide)).symm.trans h)).2.2.1, hm 8 (hc12 ((hnq 12 (by decide)).symm.trans h)).2.2.2.1, hm 9 (hc12 ((hnq 12 (by decide)).symm.trans h)).2.2.2.2⟩⟩
      · obtain rfl := Option.some.inj ho
        try simp only [Nat.zero_add, Nat.reduceAdd] at hm hnq hz' hunf hupi ⊢
        have e1 : g.getD 1 false = true := hdep ⟨1, .data⟩ (by simp) rfl
        obtain rfl := f1 e1
        have hh := Hid.mk (And.intro hz' (And.intro hm (And.intro hnq (And.intro hW' (And.intro hc9 (And.intro hc12 (And.intro hunf (And.intro hupi (And.intro hsz (And.intro f0 (And.intro f1 (And.intro f2 (And.intro f3 (And.intro f4 (And.intro f5 (And.intro f6 (And.intro f7 (And.intro f8 (And.intro f9 (And.intro f10 (And.intro f11 (And.intro e1 (And.intro st0 (And.intro st1 (And.intro st2 (And.intro st3 (And.intro hst (And.intro hsB (And.intro hsV (And.intro hgS hdep))))))))))))))))))))))))))))))
        clear hz' hm hnq hW' hc9 hc12 hunf hupi hsz f0 f1 f2 f3 f4 f5 f6 f7 f8 f9 f10 f11 e1 st0 st1 st2 st3 hst hsB hsV hgS hdep
        refine wpOp_step (o := _) rfl rfl fun K hK => ?_
        gi_wp2
        refine hK.k _ _ ?_
        obtain ⟨hz', hm, hnq, hW', hc9, hc12, hunf, hupi, hsz, f0, f1, f2, f3, f4, f5, f6, f7, f8, f9, f10, f11, e1, st0, st1, st2, st3, hst, hsB, hsV, hgS, hdep⟩ := hh.k
        refine ⟨hz', ⟨_, _, _, _, _, _, _, _, _, _, _, _, rfl, fun h => f0 ((hnq 0 (by decide)).symm.trans h), fun _ => rfl, fun _ => rfl, fun h => f3 ((hnq 3 (by decide)).symm.trans h), fun h => f4 ((hnq 4 (by decide)).symm.trans h), fun h => f5 ((hnq 5 (by decide)).symm.trans h), fun h => f6 ((hnq 6 (by decide)).symm.trans h), fun h => f7 ((hnq 7 (by decide)).symm.trans h), fun h => f8 ((hnq 8 (by decide)).symm.trans h), fun h => f9 ((hnq 9 (by decide)).symm.trans h), fun h => f10 ((hnq 10 (by decide)).symm.trans h), fun h => f11 ((hnq 11 (by decide)).symm.trans h)⟩, by rw [hnq 8 (by decide), hnq 9 (by decide), hnq 12 (by decide)]; exact hW', fun h => ⟨hm 4 (hc9 ((hnq 9 (by decide)).symm.trans h)).1, hm 8 (hc9 ((hnq 9 (by decide)).symm.trans h)).2⟩, fun h => ⟨hm 0 (hc12 ((hnq 12 (by decide)).symm.trans h)).1, hm 1 (hc12 ((hnq 12 (by decide)).symm.trans h)).2.1, hm 4 (hc12 ((hnq 12 (by decide)).symm.trans h)).2.2.1, hm 8 (hc12 ((hnq 12 (by decide)).symm.trans h)).2.2.2.1, hm 9 (hc12 ((hnq 12 (by decide)).symm.trans h)).2.2.2.2⟩⟩
      · obtain rfl := Option.some.inj ho
        try simp only [Nat.zero_add, Nat.reduceAdd] at hm hnq hz' hunf hupi ⊢
        have e2 : g.getD 2 false = true := hdep ⟨2, .data⟩ (by simp) rfl
        obtain rfl := f2 e2
        have hh := Hid.mk (And.intro hz' (And.intro hm (And.intro hnq (And.intro hW' (And.intro hc9 (And.intro hc12 (And.intro hunf (And.intro hupi (And.intro hsz (And.intro f0 (And.intro f1 (And.intro f2 (And.intro f3 (And.intro f4 (And.intro f5 (And.intro f6 (And.intro f7 (And.intro f8 (And.intro f9 (And.intro f10 (And.intro f11 (And.intro e2 (And.intro st0 (And.intro st1 (And.intro st2 (And.intro st3 (And.intro hst (And.intro hsB (And.intro hsV (And.intro hgS hdep))))))))))))))))))))))))))))))
        clear hz' hm hnq hW' hc9 hc12 hunf hupi hsz f0 f1 f2 f3 f4 f5 f6 f7 f8 f9 f10 f11 e2 st0 st1 st2 st3 hst hsB hsV hgS hdep
        refine wpOp_step (o := _) rfl rfl fun K hK => ?_
        gi_wp2
        refine hK.k _ _ ?_
        obtain ⟨hz', hm, hnq, hW', hc9, hc12, hunf, hupi, hsz, f0, f1, f2, f3, f4, f5, f6, f7, f8, f9, f10, f11, e2, st0, st1, st2, st3, hst, hsB, hsV, hgS, hdep⟩ := hh.k
        refine ⟨hz', ⟨_, _, _, _, _, _, _, _, _, _, _, _, rfl, fun h => f0 ((hnq 0 (by decide)).symm.trans h), fun h => f1 ((hnq 1 (by decide)).symm.trans h), fun _ => rfl, fun _ => rfl, fun h => f4 ((hnq 4 (by decide)).symm.trans h), fun h => f5 ((hnq 5 (by decide)).symm.trans h), fun h => f6 ((hnq 6 (by decide)).symm.trans h), fun h => f7 ((hnq 7 (by decide)).symm.trans h), fun h => f8 ((hnq 8 (by decide)).symm.trans h), fun h => f9 ((hnq 9 (by decide)).symm.trans h), fun h => f10 ((hnq 10 (by decide)).symm.trans h), fun h => f11 ((hnq 11 (by decide)).symm.trans h)⟩, by rw [hnq 8 (by decide), hnq 9 (by decide), hnq 12 (by decide)]; exact hW', fun h => ⟨hm 4 (hc9 ((hnq 9 (by decide)).symm.trans h)).1, hm 8 (hc9 ((hnq 9 (by decide)).symm.trans h)).2⟩, fun h => ⟨hm 0 (hc12 ((hnq 12 (by decide)).symm.trans h)).1, hm 1 (hc12 ((hnq 12 (by decide)).symm.trans h)).2.1, hm 4 (hc12 ((hnq 12 (by decide)).symm.trans h)).2.2.1, hm 8 (hc12 ((hnq 12 (by decide)).symm.trans h)).2.2.2.1, hm 9 (hc12 ((hnq 12 (by decide)).symm.trans h)).2.2.2.2⟩⟩
      · obtain rfl := Option.some.inj ho
        try simp only [Nat.zero_add, Nat.reduceAdd] at hm hnq hz' hunf hupi ⊢
        have e3 : g.getD 3 false = true := hdep ⟨3, .data⟩ (by simp) rfl
        have hW0' := hW'
        have n12 : g.getD 12 false = false := by cases h : g.getD 12 false with | false => rfl | true => rw [(hc12 h).2.2.1] at hunf; cases hunf
        have n9 : g.getD 9 false = false := by cases h : g.getD 9 false with | false => rfl | true => rw [(hc9 h).1] at hunf; cases hunf
        rw [n12] at hW'
        have hcW : W'.cell? ⟨w.heap.size, 1, none⟩ = some v := by rw [hW']; exact hsV _ _
        obtain rfl := f3 e3
        have hh := Hid.mk (And.intro hz' (And.intro hm (And.intro hnq (And.intro hW' (And.intro hc9 (And.intro hc12 (And.intro hunf (And.intro hupi (And.intro hsz (And.intro f0 (And.intro f1 (And.intro f2 (And.intro f3 (And.intro f4 (And.intro f5 (And.intro f6 (And.intro f7 (And.intro f8 (And.intro f9 (And.intro f10 (And.intro f11 (And.intro e3 (And.intro hW0' (And.intro n9 (And.intro n12 (And.intro st0 (And.intro st1 (And.intro st2 (And.intro st3 (And.intro hst (And.intro hsB (And.intro hsV (And.intro hgS hdep)))))))))))))))))))))))))))))))))
        clear hz' hm hnq hW' hc9 hc12 hunf hupi hsz f0 f1 f2 f3 f4 f5 f6 f7 f8 f9 f10 f11 e3 hW0' n9 n12 st0 st1 st2 st3 hst hsB hsV hgS hdep
        refine wpOp_step (o := _) rfl rfl fun K hK => ?_
        gi_wp2
        refine hK.k _ _ ?_
        obtain ⟨hz', hm, hnq, hW', hc9, hc12, hunf, hupi, hsz, f0, f1, f2, f3, f4, f5, f6, f7, f8, f9, f10, f11, e3, hW0', n9, n12, st0, st1, st2, st3, hst, hsB, hsV, hgS, hdep⟩ := hh.k
        refine ⟨hz', ⟨_, _, _, _, _, _, _, _, _, _, _, _, rfl, fun h => f0 ((hnq 0 (by decide)).symm.trans h), fun h => f1 ((hnq 1 (by decide)).symm.trans h), fun h => f2 ((hnq 2 (by decide)).symm.trans h), fun _ => rfl, fun _ => rfl, fun h => f5 ((hnq 5 (by decide)).symm.trans h), fun h => f6 ((hnq 6 (by decide)).symm.trans h), fun h => f7 ((hnq 7 (by decide)).symm.trans h), fun h => f8 ((hnq 8 (by decide)).symm.trans h), fun h => f9 ((hnq 9 (by decide)).symm.trans h), fun h => f10 ((hnq 10 (by decide)).symm.trans h), fun h => f11 ((hnq 11 (by decide)).symm.trans h)⟩, by rw [hnq 8 (by decide), hnq 9 (by decide), hnq 12 (by decide)]; exact hW0', fun h => ⟨hm 4 (hc9 ((hnq 9 (by decide)).symm.trans h)).1, hm 8 (hc9 ((hnq 9 (by decide)).symm.trans h)).2⟩, fun h => ⟨hm 0 (hc12 ((hnq 12 (by decide)).symm.trans h)).1, hm 1 (hc12 ((hnq 12 (by decide)).symm.trans h)).2.1, hm 4 (hc12 ((hnq 12 (by decide)).symm.trans h)).2.2.1, hm 8 (hc12 ((hnq 12 (by decide)).symm.trans h)).2.2.2.1, hm 9 (hc12 ((hnq 12 (by decide)).symm.trans h)).2.2.2.2⟩⟩
      · obtain rfl := Option.some.inj ho
        try simp only [Nat.zero_add, Nat.reduceAdd] at hm hnq hz' hunf hupi ⊢
        have hh := Hid.mk (And.intro hz' (And.intro hm (And.intro hnq (And.intro hW' (And.intro hc9 (And.intro hc12 (And.intro hunf (And.intro hupi (And.intro hsz (And.intro f0 (And.intro f1 (And.intro f2 (And.intro f3 (And.intro f4 (And.intro f5 (And.intro f6 (And.intro f7 (And.intro f8 (And.intro f9 (And.intro f10 (And.intro f11 (And.intro st0 (And.intro st1 (And.intro st2 (And.intro st3 (And.intro hst (And.intro hsB (And.intro hsV (And.intro hgS hdep)))))))))))))))))))))))))))))
        clear hz' hm hnq hW' hc9 hc12 hunf hupi hsz f0 f1 f2 f3 f4 f5 f6 f7 f8 f9 f10 f11 st0 st1 st2 st3 hst hsB hsV hgS hdep
        refine wpOp_step (o := _) rfl rfl fun K hK => ?_
        gi_wp2
        refine hK.k _ _ ?_
        obtain ⟨hz', hm, hnq, hW', hc9, hc12, hunf, hupi, hsz, f0, f1, f2, f3, f4, f5, f6, f7, f8, f9, f10, f11, st0, st1, st2, st3, hst, hsB, hsV, hgS, hdep⟩ := hh.k
        refine ⟨hz', ⟨_, _, _, _, _, _, _, _, _, _, _, _, rfl, fun h => f0 ((hnq 0 (by decide)).symm.trans h), fun h => f1 ((hnq 1 (by decide)).symm.trans h), fun h => f2 ((hnq 2 (by decide)).symm.trans h), fun h => f3 ((hnq 3 (by decide)).symm.trans h), fun h => f4 ((hnq 4 (by decide)).symm.trans h), fun _ => rfl, fun h => f6 ((hnq 6 (by decide)).symm.trans h), fun h => f7 ((hnq 7 (by decide)).symm.trans h), fun h => f8 ((hnq 8 (by decide)).symm.trans h), fun h => f9 ((hnq 9 (by decide)).symm.trans h), fun h => f10 ((hnq 10 (by decide)).symm.trans h), fun h => f11 ((hnq 11 (by decide)).symm.trans h)⟩, by rw [hnq 8 (by decide), hnq 9 (by decide), hnq 12 (by decide)]; exact hW', fun h => ⟨hm 4 (hc9 ((hnq 9 (by decide)).symm.trans h)).1, hm 8 (hc9 ((hnq 9 (by decide)).symm.trans h)).2⟩, fun h => ⟨hm 0 (hc12 ((hnq 12 (by decide)).symm.trans h)).1, hm 1 (hc12 ((hnq 12 (by decide)).symm.trans h)).2.1, hm 4 (hc12 ((hnq 12 (by decide)).symm.trans h)).2.2.1, hm 8 (hc12 ((hnq 12 (by decide)).symm.trans h)).2.2.2.1, hm 9 (hc12 ((hnq 12 (by decide)).symm.trans h)).2.2.2.2⟩⟩
      · obtain rfl := Option.some.inj ho
        try simp only [Nat.zero_add, Nat.reduceAdd] at hm hnq hz' hunf hupi ⊢
        have hh := Hid.mk (And.intro hz' (And.intro hm (And.intro hnq (And.intro hW' (And.intro hc9 (And.intro hc12 (And.intro hunf (And.intro hupi (And.intro hsz (And.intro f0 (And.intro f1 (And.intro f2 (And.intro f3 (And.intro f4 (And.intro f5 (And.intro f6 (And.intro f7 (And.intro f8 (And.intro f9 (And.intro f10 (And.intro f11 (And.intro st0 (And.intro st1 (And.intro st2 (And.intro st3 (And.intro hst (And.intro hsB (And.intro hsV (And.intro hgS hdep)))))))))))))))))))))))))))))
        clear hz' hm hnq hW' hc9 hc12 hunf hupi hsz f0 f1 f2 f3 f4 f5 f6 f7 f8 f9 f10 f11 st0 st1 st2 st3 hst hsB hsV hgS hdep
        refine wpOp_step (o := _) rfl rfl fun K hK => ?_
        gi_wp2
        refine hK.k _ _ ?_
        obtain ⟨hz', hm, hnq, hW', hc9, hc12, hunf, hupi, hsz, f0, f1, f2, f3, f4, f5, f6, f7, f8, f9, f10, f11, st0, st1, st2, st3, hst, hsB, hsV, hgS, hdep⟩ := hh.k
        refine ⟨hz', ⟨_, _, _, _, _, _, _, _, _, _, _, _, rfl, fun h => f0 ((hnq 0 (by decide)).symm.trans h), fun h => f1 ((hnq 1 (by decide)).symm.trans h), fun h => f2 ((hnq 2 (by decide)).symm.trans h), fun h => f3 ((hnq 3 (by decide)).symm.trans h), fun h => f4 ((hnq 4 (by decide)).symm.trans h), fun h => f5 ((hnq 5 (by decide)).symm.trans h), fun _ => rfl, fun h => f7 ((hnq 7 (by decide)).symm.trans h), fun h => f8 ((hnq 8 (by decide)).symm.trans h), fun h => f9 ((hnq 9 (by decide)).symm.trans h), fun h => f10 ((hnq 10 (by decide)).symm.trans h), fun h => f11 ((hnq 11 (by decide)).symm.trans h)⟩, by rw [hnq 8 (by decide), hnq 9 (by decide), hnq 12 (by decide)]; exact hW', fun h => ⟨hm 4 (hc9 ((hnq 9 (by decide)).symm.trans h)).1, hm 8 (hc9 ((hnq 9 (by decide)).symm.trans h)).2⟩, fun h => ⟨hm 0 (hc12 ((hnq 12 (by decide)).symm.trans h)).1, hm 1 (hc12 ((hnq 12 (by decide)).symm.trans h)).2.1, hm 4 (hc12 ((hnq 12 (by decide)).symm.trans h)).2.2.1, hm 8 (hc12 ((hnq 12 (by decide)).symm.trans h)).2.2.2.1, hm 9 (hc12 ((hnq 12 (by decide)).symm.trans h)).2.2.2.2⟩⟩
      · obtain rfl := Option.some.inj ho
        try simp only [Nat.zero_add, Nat.reduceAdd] at hm hnq hz' hunf hupi ⊢
        have e5 : g.getD 5 false = true := hdep ⟨5, .data⟩ (by simp) rfl
        have e6 : g.getD 6 false = true := hdep ⟨6, .data⟩ (by simp) rfl
        obtain rfl := f5 e5
        obtain rfl := f6 e6
        have hh := Hid.mk (And.intro hz' (And.intro hm (And.intro hnq (And.intro hW' (And.intro hc9 (And.intro hc12 (And.intro hunf (And.intro hupi (And.intro hsz (And.intro f0 (And.intro f1 (And.intro f2 (And.intro f3 (And.intro f4 (And.intro f5 (And.intro f6 (And.intro f7 (And.intro f8 (And.intro f9 (And.intro f10 (And.intro f11 (And.intro e5 (And.intro e6 (And.intro st0 (And.intro st1 (And.intro st2 (And.intro st3 (And.intro hst (And.intro hsB (And.intro hsV (And.intro hgS hdep)))))))))))))))))))))))))))))))
        clear hz' hm hnq hW' hc9 hc12 hunf hupi hsz f0 f1 f2 f3 f4 f5 f6 f7 f8 f9 f10 f11 e5 e6 st0 st1 st2 st3 hst hsB hsV hgS hdep
        refine wpOp_step (o := _) rfl rfl fun K hK => ?_
        gi_wp2
        refine hK.k _ _ ?_
        obtain ⟨hz', hm, hnq, hW', hc9, hc12, hunf, hupi, hsz, f0, f1, f2, f3, f4, f5, f6, f7, f8, f9, f10, f11, e5, e6, st0, st1, st2, st3, hst, hsB, hsV, hgS, hdep⟩ := hh.k
        refine ⟨hz', ⟨_, _, _, _, _, _, _, _, _, _, _, _, rfl, fun h => f0 ((hnq 0 (by decide)).symm.trans h), fun h => f1 ((hnq 1 (by decide)).symm.trans h), fun h => f2 ((hnq 2 (by decide)).symm.trans h), fun h => f3 ((hnq 3 (by decide)).symm.trans h), fun h => f4 ((hnq 4 (by decide)).symm.trans h), fun _ => rfl, fun _ => rfl, fun _ => rfl, fun h => f8 ((hnq 8 (by decide)).symm.trans h), fun h => f9 ((hnq 9 (by decide)).symm.trans h), fun h => f10 ((hnq 10 (by decide)).symm.trans h), fun h => f11 ((hnq 11 (by decide)).symm.trans h)⟩, by rw [hnq 8 (by decide), hnq 9 (by decide), hnq 12 (by decide)]; exact hW', fun h => ⟨hm 4 (hc9 ((hnq 9 (by decide)).symm.trans h)).1, hm 8 (hc9 ((hnq 9 (by decide)).symm.trans h)).2⟩, fun h => ⟨hm 0 (hc12 ((hnq 12 (by decide)).symm.trans h)).1, hm 1 (hc12 ((hnq 12 (by decide)).symm.trans h)).2.1, hm 4 (hc12 ((hnq 12 (by decide)).symm.trans h)).2.2.1, hm 8 (hc12 ((hnq 12 (by decide)).symm.trans h)).2.2.2.1, hm 9 (hc12 ((hnq 12 (by decide)).symm.trans h)).2.2.2.2⟩⟩
      · obtain rfl := Option.some.inj ho
        try simp only [Nat.zero_add, Nat.reduceAdd] at hm hnq hz' hunf hupi ⊢
        have e7 : g.getD 7 false = true := hdep ⟨7, .data⟩ (by simp) rfl
        have n12 : g.getD 12 false = false := by cases h : g.getD 12 false with | false => rfl | true => rw [(hc12 h).2.2.2.1] at hunf; cases hunf
        have n9 : g.getD 9 false = false := by cases h : g.getD 9 false with | false => rfl | true => rw [(hc9 h).2] at hunf; cases hunf
        rw [n12, n9, hunf, st0] at hW'
        subst hW'
        obtain rfl := f7 e7
        have hh := Hid.mk (And.intro hz' (And.intro hm (And.intro hnq (And.intro hc9 (And.intro hc12 (And.intro hunf (And.intro hupi (And.intro hsz (And.intro f0 (And.intro f1 (And.intro f2 (And.intro f3 (And.intro f4 (And.intro f5 (And.intro f6 (And.intro f7 (And.intro f8 (And.intro f9 (And.intro f10 (And.intro f11 (And.intro e7 (And.intro n9 (And.intro n12 (And.intro st0 (And.intro st1 (And.intro st2 (And.intro st3 (And.intro hst (And.intro hsB (And.intro hsV (And.intro hgS hdep)))))))))))))))))))))))))))))))
        clear hz' hm hnq hc9 hc12 hunf hupi hsz f0 f1 f2 f3 f4 f5 f6 f7 f8 f9 f10 f11 e7 n9 n12 st0 st1 st2 st3 hst hsB hsV hgS hdep
        refine wpOp_step (o := _) rfl rfl fun K hK => ?_
        gi_wp2
        refine hK.k _ _ ?_
        obtain ⟨hz', hm, hnq, hc9, hc12, hunf, hupi, hsz, f0, f1, f2, f3, f4, f5, f6, f7, f8, f9, f10, f11, e7, n9, n12, st0, st1, st2, st3, hst, hsB, hsV, hgS, hdep⟩ := hh.k
        refine ⟨hz', ⟨_, _, _, _, _, _, _, _, _, _, _, _, rfl, fun h => f0 ((hnq 0 (by decide)).symm.trans h), fun h => f1 ((hnq 1 (by decide)).symm.trans h), fun h => f2 ((hnq 2 (by decide)).symm.trans h), fun h => f3 ((hnq 3 (by decide)).symm.trans h), fun h => f4 ((hnq 4 (by decide)).symm.trans h), fun h => f5 ((hnq 5 (by decide)).symm.trans h), fun h => f6 ((hnq 6 (by decide)).symm.trans h), fun _ => rfl, fun _ => rfl, fun h => f9 ((hnq 9 (by decide)).symm.trans h), fun h => f10 ((hnq 10 (by decide)).symm.trans h), fun h => f11 ((hnq 11 (by decide)).symm.trans h)⟩, by rw [hupi, hnq 9 (by decide), hnq 12 (by decide), n9, n12, st1]; rfl, fun h => ⟨hm 4 (hc9 ((hnq 9 (by decide)).symm.trans h)).1, hm 8 (hc9 ((hnq 9 (by decide)).symm.trans h)).2⟩, fun h => ⟨hm 0 (hc12 ((hnq 12 (by decide)).symm.trans h)).1, hm 1 (hc12 ((hnq 12 (by decide)).symm.trans h)).2.1, hm 4 (hc12 ((hnq 12 (by decide)).symm.trans h)).2.2.1, hm 8 (hc12 ((hnq 12 (by decide)).symm.trans h)).2.2.2.1, hm 9 (hc12 ((hnq 12 (by decide)).symm.trans h)).2.2.2.2⟩⟩
      · obtain rfl := Option.some.inj ho
        try simp only [Nat.zero_add, Nat.reduceAdd] at hm hnq hz' hunf hupi ⊢
        have e4 : g.getD 4 false = true := hdep ⟨4, .data⟩ (by simp) rfl
        have e8 : g.getD 8 false = true := hdep ⟨8, .data⟩ (by simp) rfl
        have n12 : g.getD 12 false = false := by cases h : g.getD 12 false with | false => rfl | true => rw [(hc12 h).2.2.2.2] at hunf; cases hunf
        rw [n12, e8, hunf, st1] at hW'
        subst hW'
        obtain rfl := f4 e4
        obtain rfl := f8 e8
        refine wpOp_row (o := _) rfl rfl (.tmp 20) (.tmp 24) 43 rfl rfl rfl hrun ?_
        refine ⟨hz', ⟨_, _, _, _, _, _, _, _, _, _, _, _, rfl, fun h => f0 ((hnq 0 (by decide)).symm.trans h), fun h => f1 ((hnq 1 (by decide)).symm.trans h), fun h => f2 ((hnq 2 (by decide)).symm.trans h), fun h => f3 ((hnq 3 (by decide)).symm.trans h), fun _ => rfl, fun h => f5 ((hnq 5 (by decide)).symm.trans h), fun h => f6 ((hnq 6 (by decide)).symm.trans h), fun h => f7 ((hnq 7 (by decide)).symm.trans h), fun _ => rfl, fun _ => by simp, fun h => f10 ((hnq 10 (by decide)).symm.trans h), fun h => f11 ((hnq 11 (by decide)).symm.trans h)⟩, by rw [hupi, hnq 8 (by decide), hnq 12 (by decide), e8, n12, st2], fun _ => ⟨hm 4 e4, hm 8 e8⟩, fun h => ⟨hm 0 (hc12 ((hnq 12 (by decide)).symm.trans h)).1, hm 1 (hc12 ((hnq 12 (by decide)).symm.trans h)).2.1, hm 4 (hc12 ((hnq 12 (by decide)).symm.trans h)).2.2.1, hm 8 (hc12 ((hnq 12 (by decide)).symm.trans h)).2.2.2.1, hm 9 (hc12 ((hnq 12 (by decide)).symm.trans h)).2.2.2.2⟩⟩
      · obtain rfl := Option.some.inj ho
        try simp only [Nat.zero_add, Nat.reduceAdd] at hm hnq hz' hunf hupi ⊢
        have e0 : g.getD 0 false = true := hdep ⟨0, .data⟩ (by simp) rfl
        obtain rfl := f0 e0
        have hh := Hid.mk (And.intro hz' (And.intro hm (And.intro hnq (And.intro hW' (And.intro hc9 (And.intro hc12 (And.intro hunf (And.intro hupi (And.intro hsz (And.intro f0 (And.intro f1 (And.intro f2 (And.intro f3 (And.intro f4 (And.intro f5 (And.intro f6 (And.intro f7 (And.intro f8 (And.intro f9 (And.intro f10 (And.intro f11 (And.intro e0 (And.intro st0 (And.intro st1 (And.intro st2 (And.intro st3 (And.intro hst (And.intro hsB (And.intro hsV (And.intro hgS hdep))))))))))))))))))))))))))))))
        clear hz' hm hnq hW' hc9 hc12 hunf hupi hsz f0 f1 f2 f3 f4 f5 f6 f7 f8 f9 f10 f11 e0 st0 st1 st2 st3 hst hsB hsV hgS hdep
        refine wpOp_step (o := _) rfl rfl fun K hK => ?_
        gi_wp2
        refine hK.k _ _ ?_
        obtain ⟨hz', hm, hnq, hW', hc9, hc12, hunf, hupi, hsz, f0, f1, f2, f3, f4, f5, f6, f7, f8, f9, f10, f11, e0, st0, st1, st2, st3, hst, hsB, hsV, hgS, hdep⟩ := hh.k
        refine ⟨hz', ⟨_, _, _, _, _, _, _, _, _, _, _, _, rfl, fun _ => rfl, fun h => f1 ((hnq 1 (by decide)).symm.trans h), fun h => f2 ((hnq 2 (by decide)).symm.trans h), fun h => f3 ((hnq 3 (by decide)).symm.trans h), fun h => f4 ((hnq 4 (by decide)).symm.trans h), fun h => f5 ((hnq 5 (by decide)).symm.trans h), fun h => f6 ((hnq 6 (by decide)).symm.trans h), fun h => f7 ((hnq 7 (by decide)).symm.trans h), fun h => f8 ((hnq 8 (by decide)).symm.trans h), fun h => f9 ((hnq 9 (by decide)).symm.trans h), fun _ => rfl, fun h => f11 ((hnq 11 (by decide)).symm.trans h)⟩, by rw [hnq 8 (by decide), hnq 9 (by decide), hnq 12 (by decide)]; exact hW', fun h => ⟨hm 4 (hc9 ((hnq 9 (by decide)).symm.trans h)).1, hm 8 (hc9 ((hnq 9 (by decide)).symm.trans h)).2⟩, fun h => ⟨hm 0 (hc12 ((hnq 12 (by decide)).symm.trans h)).1, hm 1 (hc12 ((hnq 12 (by decide)).symm.trans h)).2.1, hm 4 (hc12 ((hnq 12 (by decide)).symm.trans h)).2.2.1, hm 8 (hc12 ((hnq 12 (by decide)).symm.trans h)).2.2.2.1, hm 9 (hc12 ((hnq 12 (by decide)).symm.trans h)).2.2.2.2⟩⟩
      · obtain rfl := Option.some.inj ho
        try simp only [Nat.zero_add, Nat.reduceAdd] at hm hnq hz' hunf hupi ⊢
        have e10 : g.getD 10 false = true := hdep ⟨10, .data⟩ (by simp) rfl
        obtain rfl := f10 e10
        have hh := Hid.mk (And.intro hz' (And.intro hm (And.intro hnq (And.intro hW' (And.intro hc9 (And.intro hc12 (And.intro hunf (And.intro hupi (And.intro hsz (And.intro f0 (And.intro f1 (And.intro f2 (And.intro f3 (And.intro f4 (And.intro f5 (And.intro f6 (And.intro f7 (And.intro f8 (And.intro f9 (And.intro f10 (And.intro f11 (And.intro e10 (And.intro st0 (And.intro st1 (And.intro st2 (And.intro st3 (And.intro hst (And.intro hsB (And.intro hsV (And.intro hgS hdep))))))))))))))))))))))))))))))
        clear hz' hm hnq hW' hc9 hc12 hunf hupi hsz f0 f1 f2 f3 f4 f5 f6 f7 f8 f9 f10 f11 e10 st0 st1 st2 st3 hst hsB hsV hgS hdep
        refine wpOp_step (o := _) rfl rfl fun K hK => ?_
        gi_wp2
        refine hK.k _ _ ?_
        obtain ⟨hz', hm, hnq, hW', hc9, hc12, hunf, hupi, hsz, f0, f1, f2, f3, f4, f5, f6, f7, f8, f9, f10, f11, e10, st0, st1, st2, st3, hst, hsB, hsV, hgS, hdep⟩ := hh.k
        refine ⟨hz', ⟨_, _, _, _, _, _, _, _, _, _, _, _, rfl, fun h => f0 ((hnq 0 (by decide)).symm.trans h), fun h => f1 ((hnq 1 (by decide)).symm.trans h), fun h => f2 ((hnq 2 (by decide)).symm.trans h), fun h => f3 ((hnq 3 (by decide)).symm.trans h), fun h => f4 ((hnq 4 (by decide)).symm.trans h), fun h => f5 ((hnq 5 (by decide)).symm.trans h), fun h => f6 ((hnq 6 (by decide)).symm.trans h), fun h => f7 ((hnq 7 (by decide)).symm.trans h), fun h => f8 ((hnq 8 (by decide)).symm.trans h), fun h => f9 ((hnq 9 (by decide)).symm.trans h), fun _ => rfl, fun _ => rfl⟩, by rw [hnq 8 (by decide), hnq 9 (by decide), hnq 12 (by decide)]; exact hW', fun h => ⟨hm 4 (hc9 ((hnq 9 (by decide)).symm.trans h)).1, hm 8 (hc9 ((hnq 9 (by decide)).symm.trans h)).2⟩, fun h => ⟨hm 0 (hc12 ((hnq 12 (by decide)).symm.trans h)).1, hm 1 (hc12 ((hnq 12 (by decide)).symm.trans h)).2.1, hm 4 (hc12 ((hnq 12 (by decide)).symm.trans h)).2.2.1, hm 8 (hc12 ((hnq 12 (by decide)).symm.trans h)).2.2.2.1, hm 9 (hc12 ((hnq 12 (by decide)).symm.trans h)).2.2.2.2⟩⟩
      · obtain rfl := Option.some.inj ho
        try simp only [Nat.zero_add, Nat.reduceAdd] at hm hnq hz' hunf hupi ⊢
        have e11 : g.getD 11 false = true := hdep ⟨11, .data⟩ (by simp) rfl
        have e9 : g.getD 9 false = true := hdep ⟨9, .data⟩ (by simp) rfl
        have e0 : g.getD 0 false = true := hdep ⟨0, .phase⟩ (by simp) rfl
        have e1 : g.getD 1 false = true := hdep ⟨1, .phase⟩ (by simp) rfl
        have e2 : g.getD 2 false = true := hdep ⟨2, .phase⟩ (by simp) rfl
        have e3 : g.getD 3 false = true := hdep ⟨3, .phase⟩ (by simp) rfl
        have e4 : g.getD 4 false = true := hdep ⟨4, .phase⟩ (by simp) rfl
        have e5 : g.getD 5 false = true := hdep ⟨5, .phase⟩ (by simp) rfl
        have e6 : g.getD 6 false = true := hdep ⟨6, .phase⟩ (by simp) rfl
        have e7 : g.getD 7 false = true := hdep ⟨7, .phase⟩ (by simp) rfl
        have e8 : g.getD 8 false = true := hdep ⟨8, .phase⟩ (by simp) rfl
        rw [hunf, e8, e9, st2] at hW'
        subst hW'
        obtain rfl := f11 e11
        obtain rfl := f9 e9
        have hh := Hid.mk (And.intro hz' (And.intro hm (And.intro hnq (And.intro hc9 (And.intro hc12 (And.intro hunf (And.intro hupi (And.intro hsz (And.intro f0 (And.intro f1 (And.intro f2 (And.intro f3 (And.intro f4 (And.intro f5 (And.intro f6 (And.intro f7 (And.intro f8 (And.intro f9 (And.intro f10 (And.intro f11 (And.intro e11 (And.intro e9 (And.intro e0 (And.intro e1 (And.intro e2 (And.intro e3 (And.intro e4 (And.intro e5 (And.intro e6 (And.intro e7 (And.intro e8 (And.intro st0 (And.intro st1 (And.intro st2 (And.intro st3 (And.intro hst (And.intro hsB (And.intro hsV (And.intro hgS hdep)))))))))))))))))))))))))))))))))))))))
        clear hz' hm hnq hc9 hc12 hunf hupi hsz f0 f1 f2 f3 f4 f5 f6 f7 f8 f9 f10 f11 e11 e9 e0 e1 e2 e3 e4 e5 e6 e7 e8 st0 st1 st2 st3 hst hsB hsV hgS hdep
        refine wpOp_step (o := _) rfl rfl fun K hK => ?_
        gi_wp2
        refine hK.k _ _ ?_
        obtain ⟨hz', hm, hnq, hc9, hc12, hunf, hupi, hsz, f0, f1, f2, f3, f4, f5, f6, f7, f8, f9, f10, f11, e11, e9, e0, e1, e2, e3, e4, e5, e6, e7, e8, st0, st1, st2, st3, hst, hsB, hsV, hgS, hdep⟩ := hh.k
        refine ⟨hz', ⟨_, _, _, _, _, _, _, _, _, _, _, _, rfl, fun h => f0 ((hnq 0 (by decide)).symm.trans h), fun h => f1 ((hnq 1 (by decide)).symm.trans h), fun h => f2 ((hnq 2 (by decide)).symm.trans h), fun h => f3 ((hnq 3 (by decide)).symm.trans h), fun h => f4 ((hnq 4 (by decide)).symm.trans h), fun h => f5 ((hnq 5 (by decide)).symm.trans h), fun h => f6 ((hnq 6 (by decide)).symm.trans h), fun h => f7 ((hnq 7 (by decide)).symm.trans h), fun h => f8 ((hnq 8 (by decide)).symm.trans h), fun _ => by simp, fun h => f10 ((hnq 10 (by decide)).symm.trans h), fun _ => rfl⟩, by rw [hupi, hnq 8 (by decide), hnq 9 (by decide), e8, e9, st3]; simp, fun h => ⟨hm 4 (hc9 ((hnq 9 (by decide)).symm.trans h)).1, hm 8 (hc9 ((hnq 9 (by decide)).symm.trans h)).2⟩, fun _ => ⟨hm 0 e0, hm 1 e1, hm 4 e4, hm 8 e8, hm 9 e9⟩⟩
      · omega
    case fin =>
      intro g a' W' hI hr
      obtain ⟨hsz, ⟨t16, t17, t18, t19, t20, t21, t22, t23, t24, t25, t26, t27, rfl, f0, f1, f2, f3, f4, f5, f6, f7, f8, f9, f10, f11⟩, hW', hc9, hc12⟩ := hI
      have e0 : g.getD 0 false = true := not_ready hr (i := 0) (by omega) rfl (by simp)
      have e1 : g.getD 1 false = true := not_ready hr (i := 1) (by omega) rfl (by simp)
      have e2 : g.getD 2 false = true := not_ready hr (i := 2) (by omega) rfl (by intro e he; simp at he; subst he; assumption)
      have e3 : g.getD 3 false = true := not_ready hr (i := 3) (by omega) rfl (by intro e he; simp at he; subst he; assumption)
      have e4 : g.getD 4 false = true := not_ready hr (i := 4) (by omega) rfl (by intro e he; simp at he; subst he; assumption)
      have e5 : g.getD 5 false = true := not_ready hr (i := 5) (by omega) rfl (by simp)
      have e6 : g.getD 6 false = true := not_ready hr (i := 6) (by omega) rfl (by simp)
      have e7 : g.getD 7 false = true := not_ready hr (i := 7) (by omega) rfl (by intro e he; simp at he; rcases he with rfl | rfl <;> assumption)
      have e8 : g.getD 8 false = true := not_ready hr (i := 8) (by omega) rfl (by intro e he; simp at he; subst he; assumption)
      have e9 : g.getD 9 false = true := not_ready hr (i := 9) (by omega) rfl (by intro e he; simp at he; rcases he with rfl | rfl <;> assumption)
      have e10 : g.getD 10 false = true := not_ready hr (i := 10) (by omega) rfl (by intro e he; simp at he; rcases he with rfl | rfl | rfl | rfl | rfl | rfl | rfl | rfl | rfl | rfl | rfl <;> assumption)
      have e11 : g.getD 11 false = true := not_ready hr (i := 11) (by omega) rfl (by intro e he; simp at he; rcases he with rfl | rfl | rfl | rfl | rfl | rfl | rfl | rfl | rfl | rfl | rfl <;> assumption)
      have e12 : g.getD 12 false = true := not_ready hr (i := 12) (by omega) rfl (by intro e he; simp at he; rcases he with rfl | rfl | rfl | rfl | rfl | rfl | rfl | rfl | rfl | rfl | rfl | rfl | rfl <;> assumption)
      obtain rfl := f0 e0
      obtain rfl := f1 e1
      obtain rfl := f2 e2
      obtain rfl := f3 e3
      obtain rfl := f4 e4
      obtain rfl := f5 e5
      obtain rfl := f6 e6
      obtain rfl := f7 e7
      obtain rfl := f8 e8
      obtain rfl := f9 e9
      obtain rfl := f10 e10
      obtain rfl := f11 e11
      rw [e8, e9, e12, st3] at hW'
      subst hW'
      have kd : KeepsOthers W W.drew := ⟨Nat.le_refl _, fun _ _ h _ => h⟩
      have bd : Below w.heap.size W W.drew := ⟨rfl, rfl, rfl, Nat.le_refl _, fun _ _ => rfl⟩
      have hbel : Below w.heap.size W (w1.setCell ⟨w.heap.size, 1, none⟩ (.slice ga (pre ++ [x]).length gc)) := ((bd.alloc hB.size _).grown hgrow (by have := hB.size; simp; omega) fun j ej => by have := (hrwd.block ej).1; omega).setCell (p := ⟨w.heap.size, 1, none⟩) (Nat.le_refl _) _
      have hkf : KeepsFrom (w.heap.size + 3) W (w1.setCell ⟨w.heap.size, 1, none⟩ (.slice ga (pre ++ [x]).length gc)) := (((kd.trans (KeepsOthers.alloc W.drew _)).trans (KeepsOthers.of_grownBy hgrow fun j o ej hj => ((hrwd.alloc _).block ej).2.2.2 o hj)).trans (KeepsOthers.setCell _ _ _)).from _
      have hrb := hrow'.box (v' := .slice ga (pre ++ [x]).length gc)
      have hvb : Boxed (w1.setCell ⟨w.heap.size, 1, none⟩ (.slice ga (pre ++ [x]).length gc)) (w.heap.size + 1) 39 (.pointer (some ⟨w.heap.size, 0, none⟩)) := (Below.heap_setCell _ _ _ _ (by show w.heap.size + 1 ≠ w.heap.size; omega)).trans hv1
      have htb : (w1.setCell ⟨w.heap.size, 1, none⟩ (.slice ga (pre ++ [x]).length gc)).heap[w.heap.size]? = some (.cells #[.int .i64 room, .slice ga (pre ++ [x]).length gc] 75 (0, 0)) := by
        simp only [World.setCell, Array.getElem?_modify]
        rw [if_pos trivial, ht1]
        rfl
      have hsz3 := hbel.size
      generalize w1.setCell ⟨w.heap.size, 1, none⟩ (.slice ga (pre ++ [x]).length gc) = W9 at *
      clear hst hsB hsV st0 st1 st2 st3 hgS
      gi_wp2
      refine ⟨hkf, hbel, ⟨_, htb, hvb, hrb, by omega⟩, hB.trans hbel⟩
  case done =>
    rintro D ys W hD rfl ⟨⟨v, ht, hv, hrw, hs3⟩, hB⟩ hK
    have hc := hv.cell
    gi_wp2
    refine ⟨by simp, .inl ⟨_, _, rfl, run_takeDeferred hK, ?_⟩⟩
    refine ⟨_, results_tmp rfl _ _ _, v, w.heap.size, rfl, Nat.le_refl _, ?_, (hrw.own (grownBy_putObj' W D _) (fun r e => by cases e; exact ⟨_, hK, rfl⟩)).weak (by omega), hB.trans (belowK_b (w := w) (Nat.le_refl _) W D _ _ (by omega) hK rfl rfl)⟩
    exact ((grownBy_putObj' W D _).block w.heap.size (by omega) (fun e' => by injection e' with e'; omega)).trans ht
  case stop =>
    rintro D c pre W _ _ h _
    exact h.elim
end Go.Proofs.Ytodnlihbmgigjaa
