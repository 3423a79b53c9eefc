/- An iterator over a table of numbers (the kit's own law for a range over a function). -/
import Derived.RangeFuncNested
import Derived.RangeFuncBound
import Derived.RangeFuncCalls
import Derived.RangeFuncLeaves
import Derived.RangeFuncBox
import Derived.Shelf.Abstract
import Derived.Shelf.RegionOpen
import Derived.WalkKit
import Derived.OwnWalkIn
import Derived.TacticsInMore
import Derived.LoopNIn
import Derived.LoopIn
import Derived.Test.YtodnlihbmgigjaaRows
import Derived.Test.YtodnlihbmgigjaaBt4
namespace Go.Proofs.Ytodnlihbmgigjaa
set_option linter.unusedSimpArgs false
set_option linter.unusedVariables false
set_option maxHeartbeats 4000000
open Go Go.RowKit Go.Shelf
attribute [local go_sem] Oper.semAt_some
def piV (p : Pi) : List Value := [.string p.key, .int .i64 p.v]
set_option maxRecDepth 100000 in
set_option maxHeartbeats 4000000 in
theorem tall1_in (F : Fence) (n : Nat) (h88 : F.fn 51) (hro : F.round = none) (hn : 1 ≤ n) (l bx tb n₀ rb o cap : Nat) (zs : List Pi) (hb : rb < n₀) (hreach : zs.length ≤ 1099511627776) (J Jx : List Pi → World → Prop)
    (B0 : Nat) (hJ : AbidesFrom B0 J)
    (hY : ∀ pre x W, J pre W → pre.length < zs.length → YieldAt F (n - 1) Try.prog l #[.string x.key, .int .i64 x.v] W fun e W' =>
      (e = .returned (.bool true) ∧ J (pre ++ [x]) W' ∧ Below n₀ W W') ∨ (e = .returned (.bool false) ∧ Jx (pre ++ [x]) W'))
    (W : World) (hBx : W.cell? ⟨bx, 0, none⟩ = some (.pointer (some ⟨tb, 0, none⟩))) (hT : W.cell? ⟨tb, 1, none⟩ = some (.slice (some ⟨rb, o, none⟩) zs.length cap))
    (hc : ∀ k (h : k < zs.length), ∀ j u, (piV zs[k])[j]? = some u → W.cell? ⟨rb, o + k * 2 + j, none⟩ = some u) (h0 : J [] W) (hn0 : n₀ ≤ W.heap.size) :
    CallsIn F n Try.prog 51 #[.func (.yield l) #[] #[], .pointer (some ⟨bx, 0, none⟩)] W fun e W' => (∃ v, e = .returned v) ∧
      ((∃ ys, ys = zs ∧ J ys W') ∨ (∃ pre, pre <+: zs ∧ Jx pre W')) := by
  refine callsIn_of_wp Try.func51 rfl h88 ?_ hro
  simp only [Try.ntmps51, List.size_toArray, List.length_cons, List.length_nil, Nat.reduceAdd, Nat.reduceSub, Array.replicate_succ, Array.replicate_zero, List.push_toArray, List.append_toArray, List.nil_append, List.cons_append]
  gi_wp2
  gi_loopw [10] (fun i wr => ∃ k : Nat, k ≤ zs.length ∧ i = .int .i64 k ∧ J (zs.take k) wr ∧ Below n₀ W wr)
    (fun i _ => zs.length - (intOf i).toNat)
  case atStart => exact ⟨0, Nat.zero_le _, rfl, by simpa using h0, Below.refl _ _⟩
  case round =>
    obtain ⟨k, hk, rfl, hJs, hnx⟩ := hrel
    by_cases hlt : k < zs.length
    · have hcx : ∀ j u, (piV zs[k])[j]? = some u → wr.cell? ⟨rb, o + k * 2 + j, none⟩ = some u := fun j u hj => (hnx.cell (p := ⟨rb, o + k * 2 + j, none⟩) hb).trans (hc k hlt j u hj)
      have htk : zs.take (k + 1) = zs.take k ++ [zs[k]] := List.take_succ_eq_append_getElem hlt
      generalize zs[k] = x at *
      have c0 := hcx 0 _ rfl
      have c1 := hcx 1 _ rfl
      rw [Nat.add_zero] at c0
      clear hcx
      have hJ2 : J (zs.take k) (wr.alloc (.cells #[.string x.key, .int .i64 x.v] 47)) := hJ _ _ _ none hJs (World.grownBy_alloc _ _ none) (fun r e => by cases e)
      obtain ⟨fn, tmps, assign, body, hy, hR⟩ := hY _ x _ hJ2 (by simp; omega)
      gi_wp2
      refine hR.mono ?_
      rintro e W3 (⟨rfl, hJ3, hk3⟩ | ⟨rfl, hJx3⟩)
      · gi_wp2
        go_roundw
        case rel =>
          refine ⟨_, _, _, _, _, _, _, _, _, _, _, _, _, ?_, rfl⟩
          exact ⟨k + 1, by omega, by simp, by rw [htk]; exact hJ3, (hnx.alloc (by have := hnx.size; omega) _).trans hk3⟩
        case measure => simp [intOf]; omega
      · gi_wp2
        refine bodyPost_ret (results_none rfl _ _ _) rfl ?_
        exact ⟨⟨_, rfl⟩, .inr ⟨_, by rw [← htk]; exact List.take_prefix _ _, hJx3⟩⟩
    · obtain rfl : k = zs.length := by omega
      gi_wp2
      go_end0
      exact ⟨⟨_, rfl⟩, .inl ⟨_, rfl, by simpa using hJs⟩⟩
end Go.Proofs.Ytodnlihbmgigjaa
