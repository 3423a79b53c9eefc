/- Contracts: the clock's cell (lifted from the model's own rows on sync/atomic). -/
import Derived.Test.YtjcjmeeajkdlhaaAc1
namespace Go.Proofs.Ytjcjmeeajkdlhaa
set_option linter.unusedSimpArgs false
set_option linter.unusedVariables false
set_option maxHeartbeats 4000000
open Go Go.Am Go.RowKit

theorem lift_load {P : Program} {g : FuncId} {n : Int} (hen : entersB P g = true) (rest : List AV)
    (h : ∀ b w, w.cell? ⟨b, 0, none⟩ = some (.int .i64 n) → Calls P g #[.pointer (some ⟨b, 0, none⟩)] w fun e w' => e = .returned (.int .i64 n) ∧ w = w') :
    ACall P g [.ptr 0 0] [.cells true (I n :: rest)] (Det (I n) [.cells true (I n :: rest)]) := by
  refine ⟨hen, fun B w ra hargs hr hfr => ?_⟩
  rw [args1] at hargs
  obtain ⟨v, hra, hv⟩ := hargs
  simp only [VR] at hv
  obtain ⟨b, sz, hb, rfl⟩ := hv
  obtain rfl : ra = #[.pointer (some ⟨b, 0, none⟩)] := by apply Array.ext'; simpa using hra
  have hob := hr.obj 0
  rw [hb] at hob
  obtain ⟨arr, T, fz, hh, hsz, hvs, h1c, hf⟩ := OR.at_block hob
  obtain ⟨r, hr0, hvr⟩ := hvs.get 0 (a := I n) rfl
  rw [vr_val] at hvr
  subst hvr
  have hc : w.cell? ⟨b, 0, none⟩ = some (.int .i64 n) := by
    rw [cell_at hh]
    rw [List.getElem?_take] at hr0
    simpa using hr0
  refine (h b w hc).mono ?_
  rintro e w' ⟨rfl, rfl⟩
  exact ⟨I n, [.cells true (I n :: rest)], _, B, rfl, ⟨rfl, rfl⟩, Nat.le_refl _, fun _ _ => rfl, by rw [vr_val], hr, hfr, Kept.refl _ _, fun i b n hi hb => .inr ⟨i, n, hi, hb⟩, fun _ _ _ => rfl⟩

theorem lift_write {P : Program} {g : FuncId} {n m : Int} {xs : List Value} {rv : Value} (hen : entersB P g = true) (rest : List AV)
    (h : ∀ b w, w.cell? ⟨b, 0, none⟩ = some (.int .i64 n) → w.frozen? ⟨b, 0, none⟩ = false → Calls P g (#[.pointer (some ⟨b, 0, none⟩)] ++ xs.toArray) w fun e w' => e = .returned rv ∧ w.setCell ⟨b, 0, none⟩ (.int .i64 m) = w')
    {rva : AV} (hrv : ∀ B, VR B rva rv) :
    ACall P g (.ptr 0 0 :: xs.map .val) [.cells false (I n :: rest)] (Det rva [.cells false (I m :: rest)]) := by
  refine ⟨hen, fun B w ra hargs hr hfr => ?_⟩
  simp only [VRs] at hargs
  obtain ⟨v, vs, hra, hv, hvs0⟩ := hargs
  have := VRs.vals_eq hvs0
  subst this
  simp only [VR] at hv
  obtain ⟨b, sz, hb, rfl⟩ := hv
  obtain rfl : ra = #[.pointer (some ⟨b, 0, none⟩)] ++ vs.toArray := by apply Array.ext'; simpa using hra
  have hob := hr.obj 0
  rw [hb] at hob
  obtain ⟨arr, T, fz, hh, hsz, hvs, h1c, hf⟩ := OR.at_own hob
  have hlen : (I n :: rest).length ≤ arr.size := by have := hvs.length; simp at this ⊢; omega
  have hpos : 0 < arr.size := by simp at hlen; omega
  obtain ⟨r, hr0, hvr⟩ := hvs.get 0 (a := I n) rfl
  rw [vr_val] at hvr
  subst hvr
  have hc : w.cell? ⟨b, 0, none⟩ = some (.int .i64 n) := by
    rw [cell_at hh]
    rw [List.getElem?_take] at hr0
    simpa using hr0
  have hfz : w.frozen? ⟨b, 0, none⟩ = false := by
    simp only [World.frozen?, hh]
    rcases hf rfl with h | h <;> simp <;> omega
  refine (h b w hc hfz).mono ?_
  rintro e w' ⟨rfl, rfl⟩
  have hset : (w.setCell ⟨b, 0, none⟩ (.int .i64 m)).heap[b]? = some (.cells (arr.setIfInBounds 0 (.int .i64 m)) T fz) := by
    simp only [World.setCell, Array.getElem?_modify, if_true, hh, Option.map_some]
    rfl
  have hkeep : ∀ x, x ≠ b → (w.setCell ⟨b, 0, none⟩ (.int .i64 m)).heap[x]? = w.heap[x]? := fun x hx => Below.heap_setCell _ _ _ _ hx
  have htk : (arr.setIfInBounds 0 (.int .i64 m)).toList.take (I m :: rest).length = .int .i64 m :: (arr.toList.take (I n :: rest).length).tail := by
    rw [Array.toList_setIfInBounds]
    cases hl : arr.toList with
    | nil => exfalso; have := congrArg List.length hl; simp at this; rw [this] at hpos; simp at hpos
    | cons y ys => simp
  have hw := HR.write (B := B) (h := listH [.cells false (I n :: rest)]) (i := 0) (o := .cells false (I m :: rest)) hr rfl hb hkeep (by
    have hs2 : (arr.setIfInBounds 0 (.int .i64 m)).size = sz := by simpa using hsz
    rw [← hs2]
    refine OR_cells hset htk ?_ ?_ (by rw [hs2]; exact hf rfl)
    · simp only [VRs]
      simp only [VRs] at hvs
      obtain ⟨v0, r0, e0, _, hrest⟩ := hvs
      exact ⟨_, _, rfl, by rw [vr_val], by rw [e0]; exact hrest⟩
    · intro x hx
      rcases List.mem_cons.1 hx with rfl | hx
      · rfl
      · exact h1c x (List.mem_of_mem_tail hx))
  have hup : upd (listH [.cells false (I n :: rest)]) 0 (.cells false (I m :: rest)) = listH [.cells false (I m :: rest)] := by
    funext j
    cases j with
    | zero => rfl
    | succ j => rfl
  rw [hup] at hw
  refine ⟨rva, [.cells false (I m :: rest)], _, B, rfl, ⟨rfl, rfl⟩, Nat.le_refl _, fun _ _ => rfl, hrv B, hw, hfr, ⟨rfl, rfl, rfl, by simp [World.setCell], fun x hx hn => hkeep x fun e => hn (.inr ⟨0, sz, rfl, by rw [e]; exact hb⟩)⟩, fun i b' n' hi hb' => ?_, fun i hl ho => ?_⟩
  · cases i with
    | zero => rw [hb] at hb'; cases hb'; exact .inr ⟨0, sz, rfl, hb⟩
    | succ i => cases hi
  · cases i with
    | zero => cases ho
    | succ i => cases hl

theorem load_real (b : Nat) (n : Int) (w : World) (c0 : w.cell? ⟨b, 0, none⟩ = some (.int .i64 n)) :
    Calls Try.prog 63 #[.pointer (some ⟨b, 0, none⟩)] w fun e w' => e = .returned (.int .i64 n) ∧ w = w' := by
  have hl := run_call_load (P := Try.prog) Try.func75 (by kernel_rfl) (by kernel_rfl) (by kernel_rfl) .i64 (by kernel_rfl) c0
  go_enter Try.func63, Try.ntmps63
  go_wp2
  go_ret
  exact ⟨rfl, rfl⟩
theorem cas_real (b : Nat) (n m : Int) (w : World) (c0 : w.cell? ⟨b, 0, none⟩ = some (.int .i64 n)) (f0 : w.frozen? ⟨b, 0, none⟩ = false) :
    Calls Try.prog 64 #[.pointer (some ⟨b, 0, none⟩), .int .i64 n, .int .i64 m] w fun e w' => e = .returned (.bool true) ∧ w.setCell ⟨b, 0, none⟩ (.int .i64 m) = w' := by
  have hl := run_call_cas_hit (P := Try.prog) Try.func76 (by kernel_rfl) (by kernel_rfl) (by kernel_rfl) .i64 (by kernel_rfl) (y := m) c0 f0
  go_enter Try.func64, Try.ntmps64
  go_wp2
  go_ret
  exact ⟨rfl, rfl⟩
theorem store_real (b : Nat) (n m : Int) (w : World) (c0 : w.cell? ⟨b, 0, none⟩ = some (.int .i64 n)) (f0 : w.frozen? ⟨b, 0, none⟩ = false) :
    Calls Try.prog 62 #[.pointer (some ⟨b, 0, none⟩), .int .i64 m] w fun e w' => e = .returned (.tuple #[]) ∧ w.setCell ⟨b, 0, none⟩ (.int .i64 m) = w' := by
  have hl := run_call_store (P := Try.prog) Try.func74 (by kernel_rfl) (by kernel_rfl) (by kernel_rfl) (by kernel_rfl) (k := .i64) (y := m) c0 f0
  go_enter Try.func62, Try.ntmps62
  go_wp2
  go_end0
  exact ⟨rfl, rfl⟩
theorem aload_any (n : Int) (rest : List AV) : ACall Try.prog 63 [.ptr 0 0] [.cells true (I n :: rest)] (Det (I n) [.cells true (I n :: rest)]) :=
  lift_load (by kernel_rfl) rest fun b w h => load_real b n w h
theorem acas_any (n m : Int) (rest : List AV) : ACall Try.prog 64 [.ptr 0 0, I n, I m] [.cells false (I n :: rest)] (Det (Bo true) [.cells false (I m :: rest)]) :=
  lift_write (xs := [.int .i64 n, .int .i64 m]) (by kernel_rfl) rest (fun b w h f => cas_real b n m w h f) (fun B => by rw [vr_val])
theorem astore_any (n m : Int) (rest : List AV) : ACall Try.prog 62 [.ptr 0 0, I m] [.cells false (I n :: rest)] (Det (.tup []) [.cells false (I m :: rest)]) :=
  lift_write (xs := [.int .i64 m]) (by kernel_rfl) rest (fun b w h f => store_real b n m w h f) (fun B => by simp [VR, VRs])
end Go.Proofs.Ytjcjmeeajkdlhaa
