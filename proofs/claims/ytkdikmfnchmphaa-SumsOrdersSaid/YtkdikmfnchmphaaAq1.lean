/- Contracts: a sum's cell (lifted from the model's own rows on sync/atomic). -/
import Derived.Test.YtkdikmfnchmphaaAc0
import Derived.Test.YtkdikmfnchmphaaAo10
import Derived.Laws.LoneSync
namespace Go.Proofs.Ytkdikmfnchmphaa
set_option linter.unusedSimpArgs false
set_option linter.unusedVariables false
set_option maxHeartbeats 4000000
open Go Go.Am Go.RowKit

theorem lift_loadU {P : Program} {g : FuncId} {n : Int} (hen : entersB P g = true) (rest : List AV)
    (h : ∀ b w, w.cell? ⟨b, 0, none⟩ = some (.int .u64 n) → Calls P g #[.pointer (some ⟨b, 0, none⟩)] w fun e w' => e = .returned (.int .u64 n) ∧ w = w') :
    ACall P g [.ptr 0 0] [.cells true (U64 n :: rest)] (Det (U64 n) [.cells true (U64 n :: rest)]) := by
  refine ⟨hen, fun B w ra hargs hr hfr => ?_⟩
  rw [args1] at hargs
  obtain ⟨v, hra, hv⟩ := hargs
  simp only [VR] at hv
  obtain ⟨b, sz, hb, rfl⟩ := hv
  obtain rfl : ra = #[.pointer (some ⟨b, 0, none⟩)] := by apply Array.ext'; simpa using hra
  have hob := hr.obj 0
  rw [hb] at hob
  obtain ⟨arr, T, fz, hh, hsz, hvs, h1c, hf⟩ := OR.at_block hob
  obtain ⟨r, hr0, hvr⟩ := hvs.get 0 (a := U64 n) rfl
  rw [vr_val] at hvr
  subst hvr
  have hc : w.cell? ⟨b, 0, none⟩ = some (.int .u64 n) := by
    rw [cell_at hh]
    rw [List.getElem?_take] at hr0
    simpa using hr0
  refine (h b w hc).mono ?_
  rintro e w' ⟨rfl, rfl⟩
  exact ⟨U64 n, [.cells true (U64 n :: rest)], _, B, rfl, ⟨rfl, rfl⟩, Nat.le_refl _, fun _ _ => rfl, by rw [vr_val], hr, hfr, Kept.refl _ _, fun i b n hi hb => .inr ⟨i, n, hi, hb⟩, fun _ _ _ => rfl⟩

theorem lift_writeU {P : Program} {g : FuncId} {n m : Int} {xs : List Value} {rv : Value} (hen : entersB P g = true) (rest : List AV)
    (h : ∀ b w, w.cell? ⟨b, 0, none⟩ = some (.int .u64 n) → w.frozen? ⟨b, 0, none⟩ = false → Calls P g (#[.pointer (some ⟨b, 0, none⟩)] ++ xs.toArray) w fun e w' => e = .returned rv ∧ w.setCell ⟨b, 0, none⟩ (.int .u64 m) = w')
    {rva : AV} (hrv : ∀ B, VR B rva rv) :
    ACall P g (.ptr 0 0 :: xs.map .val) [.cells false (U64 n :: rest)] (Det rva [.cells false (U64 m :: rest)]) := by
  refine ⟨hen, fun B w ra hargs hr hfr => ?_⟩
  simp only [VRs] at hargs
  obtain ⟨v, vs, hra, hv, hvs0⟩ := hargs
  have := VRs.vals_eq hvs0
  subst this
  simp only [VR] at hv
  obtain ⟨b, sz, hb, rfl⟩ := hv
  obtain rfl : ra = #[.pointer (some ⟨b, 0, none⟩)] ++ vs.toArray := by apply Array.ext'; simpa using hra
  have hob := hr.obj 0
  rw [hb] at hob
  obtain ⟨arr, T, fz, hh, hsz, hvs, h1c, hf⟩ := OR.at_own hob
  have hlen : (U64 n :: rest).length ≤ arr.size := by have := hvs.length; simp at this ⊢; omega
  have hpos : 0 < arr.size := by simp at hlen; omega
  obtain ⟨r, hr0, hvr⟩ := hvs.get 0 (a := U64 n) rfl
  rw [vr_val] at hvr
  subst hvr
  have hc : w.cell? ⟨b, 0, none⟩ = some (.int .u64 n) := by
    rw [cell_at hh]
    rw [List.getElem?_take] at hr0
    simpa using hr0
  have hfz : w.frozen? ⟨b, 0, none⟩ = false := by
    simp only [World.frozen?, hh]
    rcases hf rfl with h | h <;> simp <;> omega
  refine (h b w hc hfz).mono ?_
  rintro e w' ⟨rfl, rfl⟩
  have hset : (w.setCell ⟨b, 0, none⟩ (.int .u64 m)).heap[b]? = some (.cells (arr.setIfInBounds 0 (.int .u64 m)) T fz) := by
    simp only [World.setCell, Array.getElem?_modify, if_true, hh, Option.map_some]
    rfl
  have hkeep : ∀ x, x ≠ b → (w.setCell ⟨b, 0, none⟩ (.int .u64 m)).heap[x]? = w.heap[x]? := fun x hx => Below.heap_setCell _ _ _ _ hx
  have htk : (arr.setIfInBounds 0 (.int .u64 m)).toList.take (U64 m :: rest).length = .int .u64 m :: (arr.toList.take (U64 n :: rest).length).tail := by
    rw [Array.toList_setIfInBounds]
    cases hl : arr.toList with
    | nil => exfalso; have := congrArg List.length hl; simp at this; rw [this] at hpos; simp at hpos
    | cons y ys => simp
  have hw := HR.write (B := B) (h := listH [.cells false (U64 n :: rest)]) (i := 0) (o := .cells false (U64 m :: rest)) hr rfl hb hkeep (by
    have hs2 : (arr.setIfInBounds 0 (.int .u64 m)).size = sz := by simpa using hsz
    rw [← hs2]
    refine OR_cells hset htk ?_ ?_ (by rw [hs2]; exact hf rfl)
    · simp only [VRs]
      simp only [VRs] at hvs
      obtain ⟨v0, r0, e0, _, hrest⟩ := hvs
      exact ⟨_, _, rfl, by rw [vr_val], by rw [e0]; exact hrest⟩
    · intro x hx
      rcases List.mem_cons.1 hx with rfl | hx
      · rfl
      · exact h1c x (List.mem_of_mem_tail hx))
  have hup : upd (listH [.cells false (U64 n :: rest)]) 0 (.cells false (U64 m :: rest)) = listH [.cells false (U64 m :: rest)] := by
    funext j
    cases j with
    | zero => rfl
    | succ j => rfl
  rw [hup] at hw
  refine ⟨rva, [.cells false (U64 m :: rest)], _, B, rfl, ⟨rfl, rfl⟩, Nat.le_refl _, fun _ _ => rfl, hrv B, hw, hfr, ⟨rfl, rfl, rfl, by simp [World.setCell], fun x hx hn => hkeep x fun e => hn (.inr ⟨0, sz, rfl, by rw [e]; exact hb⟩)⟩, fun i b' n' hi hb' => ?_, fun i hl ho => ?_⟩
  · cases i with
    | zero => rw [hb] at hb'; cases hb'; exact .inr ⟨0, sz, rfl, hb⟩
    | succ i => cases hi
  · cases i with
    | zero => cases ho
    | succ i => cases hl

theorem loadU_real (b : Nat) (n : Int) (w : World) (c0 : w.cell? ⟨b, 0, none⟩ = some (.int .u64 n)) :
    Calls Try.prog 80 #[.pointer (some ⟨b, 0, none⟩)] w fun e w' => e = .returned (.int .u64 n) ∧ w = w' := by
  have hl := run_call_load (P := Try.prog) Try.func100 (by kernel_rfl) (by kernel_rfl) (by kernel_rfl) .u64 (by kernel_rfl) c0
  go_enter Try.func80, Try.ntmps80
  go_wp2
  go_ret
  exact ⟨rfl, rfl⟩
theorem addU_real (b : Nat) (n y : Int) (w : World) (c0 : w.cell? ⟨b, 0, none⟩ = some (.int .u64 n)) (f0 : w.frozen? ⟨b, 0, none⟩ = false) :
    Calls Try.prog 79 #[.pointer (some ⟨b, 0, none⟩), .int .u64 y] w fun e w' => e = .returned (.int .u64 (IntKind.u64.wrap (n + y))) ∧ w.setCell ⟨b, 0, none⟩ (.int .u64 (IntKind.u64.wrap (n + y))) = w' := by
  have hl := run_call_add (P := Try.prog) Try.func99 (by kernel_rfl) (by kernel_rfl) (by kernel_rfl) .u64 (by kernel_rfl) (y := y) (s := IntKind.u64.wrap (n + y)) c0 f0 (by rfl)
  go_enter Try.func79, Try.ntmps79
  go_wp2
  go_ret
  exact ⟨rfl, rfl⟩
theorem uload_any (n : Int) (rest : List AV) : ACall Try.prog 80 [.ptr 0 0] [.cells true (U64 n :: rest)] (Det (U64 n) [.cells true (U64 n :: rest)]) :=
  lift_loadU (by kernel_rfl) rest fun b w h => loadU_real b n w h
theorem uadd_any (n y : Int) (rest : List AV) : ACall Try.prog 79 [.ptr 0 0, U64 y] [.cells false (U64 n :: rest)] (Det (U64 (IntKind.u64.wrap (n + y))) [.cells false (U64 (IntKind.u64.wrap (n + y)) :: rest)]) :=
  lift_writeU (xs := [.int .u64 y]) (by kernel_rfl) rest (fun b w h f => addU_real b n y w h f) (fun B => by rw [vr_val])
end Go.Proofs.Ytkdikmfnchmphaa
