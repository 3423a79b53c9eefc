/- A region that draws its order, by an invariant over what has been listed. -/
import Derived.Test.YtodnlihbmgigjaaTc2
import Derived.OrdersIn
import Derived.OwnWalkIn
namespace Go.Proofs.Ytodnlihbmgigjaa
set_option linter.unusedSimpArgs false
set_option linter.unusedVariables false
set_option maxHeartbeats 4000000
open Go
def cntF (l : Array Bool) : Nat := l.toList.countP (fun b => !b)
theorem cntF_set {l : Array Bool} {i : Nat} (h : l[i]? = some false) : cntF (l.setIfInBounds i true) + 1 = cntF l := by
  obtain ⟨hi, he⟩ := Array.getElem?_eq_some_iff.1 h
  have he' : l.toList[i]'(by simpa using hi) = false := by simpa using he
  have hp : 0 < l.toList.countP (fun b => !b) := List.countP_pos_iff.2 ⟨_, List.getElem_mem (by simpa using hi), by rw [he']; rfl⟩
  unfold cntF
  rw [Array.toList_setIfInBounds, List.countP_set (by simpa using hi), he']
  show _ - (if (!false) = true then 1 else 0) + (if (!true) = true then 1 else 0) + 1 = _
  rw [if_pos (show (!false) = true from rfl), if_neg (show ¬ (!true) = true by decide)]
  omega
theorem any_inv {F : Fence} {n : Nat} {P : Program} {md : Region.Mode} {ops : Array Oper} {Q : Exit → Act → World → Prop} (I : Array Bool → Act → World → Prop)
    (hstep : ∀ listed a w i, I listed a w → i ∈ Region.ready md ops listed → wpOpIn F n P ops Q i (fun a' w' => I (listed.setIfInBounds i true) a' w') a w)
    (hend : ∀ listed a w, I listed a w → Region.ready md ops listed = [] → Q .normal a w) :
    ∀ (fuel : Nat) (listed : Array Bool) (a : Act) (w : World), I listed a w → cntF listed ≤ fuel → wpAnyIn F n P md ops Q fuel listed a w := by
  have hun : ∀ listed i, i ∈ Region.ready md ops listed → listed[i]? = some false := fun listed i hi => by
    have h1 := (mem_ready.1 hi).1
    rw [Array.getD_eq_getD_getElem?] at h1
    cases h2 : listed[i]? with
    | none => rw [h2] at h1; cases h1
    | some b => rw [h2] at h1; exact congrArg some h1
  intro fuel
  induction fuel with
  | zero =>
    intro listed a w hI hc
    have hr : Region.ready md ops listed = [] := by
      cases hr : Region.ready md ops listed with
      | nil => rfl
      | cons i rest =>
        have := cntF_set (hun listed i (by rw [hr]; exact List.mem_cons_self))
        omega
    exact ⟨hr, hend _ _ _ hI hr⟩
  | succ fuel ih =>
    intro listed a w hI hc
    refine ⟨fun hr => hend _ _ _ hI hr, fun i hi => ?_⟩
    refine wpOpIn_mono (fun a' w' h' => ih _ a' w' h' ?_) (hstep listed a w i hI hi)
    have := cntF_set (hun listed i hi)
    omega
theorem gup_ne {g : Array Bool} {i j : Nat} (h : j ≠ i) : (g.setIfInBounds i true).getD j false = g.getD j false := by
  rw [Array.getD_eq_getD_getElem?, Array.getD_eq_getD_getElem?, Array.getElem?_setIfInBounds_ne (fun e => h e.symm)]
theorem gup_eq {g : Array Bool} {i : Nat} (h : i < g.size) : (g.setIfInBounds i true).getD i false = true := by
  rw [Array.getD_eq_getD_getElem?, Array.getElem?_setIfInBounds_self_of_lt h]; rfl
theorem gun {g : Array Bool} {i : Nat} (hi : i < g.size) (h : g.getD i true = false) : g.getD i false = false := by
  rw [Array.getD_eq_getD_getElem?, Array.getElem?_eq_getElem hi] at h ⊢; exact h
structure Hid (p : Prop) : Prop where
  k : p
theorem wpOp_step {F : Fence} {n : Nat} {P : Program} {ops : Array Oper} {Q : Exit → Act → World → Prop} {i : Nat} {o : Oper} {K : Act → World → Prop} {a : Act} {w : World} (ho : ops[i]? = some o) (hg : o.guard = none)
    (h : ∀ K' : Act → World → Prop, Hid (∀ a w, K a w → K' a w) → o.wpIn F n P a w K' Q) : wpOpIn F n P ops Q i K a w := by
  unfold wpOpIn
  rw [ho]
  simp only [Region.wanted, hg, if_true]
  exact h K ⟨fun _ _ h => h⟩
theorem wpOp_row {F : Fence} {n : Nat} {P : Program} {ops : Array Oper} {Q : Exit → Act → World → Prop} {i : Nat} {o : Oper} {K : Act → World → Prop} {a : Act} {w : World} (ho : ops[i]? = some o) (hg : o.guard = none)
    (s x : Operand) (t : TypeId) (hop : o.op = Op.call { callee := Callee.builtin Builtin.append, args := #[s, x], argTypes := #[t, t] }) {v vx v' : Value} {w' : World} (hs : a.eval s = v) (hx : a.eval x = vx)
    (hrun : (Builtin.append_ #[t, t] o.type #[v, vx]).run P w = .ok v' w') (hK : K (a.put o.dst v') w') : wpOpIn F n P ops Q i K a w := by
  refine wpOp_step ho hg fun K' hK' => ?_
  unfold Oper.wpIn
  refine ⟨?_, ?_⟩
  · simp [Oper.about, hop, resolve, Target.leads, Sem.run_pure]
  · rw [Oper.semAt_plain F _ _ (by rw [hop]; intro c hc'; cases hc')]
    simp [execOp, hop, resolve, invoke, builtin, hs, hx, hrun, Result.andThen]
    exact hK'.k _ _ hK
theorem gup_mono {g : Array Bool} {i j : Nat} (hi : i < g.size) (h : g.getD j false = true) : (g.setIfInBounds i true).getD j false = true := by
  by_cases e : j = i
  · rw [e]; exact gup_eq hi
  · rw [gup_ne e]; exact h
theorem not_ready {md : Region.Mode} {ops : Array Oper} {g : Array Bool} {i : Nat} {o : Oper} (hr : Region.ready md ops g = []) (hi : i < g.size) (ho : ops[i]? = some o) (hd : ∀ e ∈ o.after, g.getD e.on false = true) : g.getD i false = true := by
  cases h : g.getD i false with
  | true => rfl
  | false =>
    have : i ∈ Region.ready md ops g := mem_ready.2 ⟨by rw [Array.getD_eq_getD_getElem?, Array.getElem?_eq_getElem hi] at h ⊢; exact h, o, ho, fun e he _ => hd e he⟩
    rw [hr] at this
    cases this
end Go.Proofs.Ytodnlihbmgigjaa
