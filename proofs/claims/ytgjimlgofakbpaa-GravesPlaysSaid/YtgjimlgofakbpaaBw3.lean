/- Contracts: what nobody wrote; what isn't there. -/
import Derived.Test.YtgjimlgofakbpaaBw2
namespace Go.Proofs.Ytgjimlgofakbpaa
set_option linter.unusedSimpArgs false
set_option linter.unusedVariables false
set_option maxHeartbeats 4000000
open Go Go.Am Go.RowKit
set_option maxRecDepth 100000
/-- The map of what updates have in common with their entries. -/
def knM (l : List Up) : Nat → List (En × Int)
  | 0 => []
  | n + 1 => match l[n]? with
    | some u => updG (coreE u.e) (n : Int) (knM l n)
    | none => knM l n
theorem kn_succ {l : List Up} {n : Nat} (h : n < l.length) : knM l (n + 1) = updG (coreE l[n].e) (n : Int) (knM l n) := by
  rw [knM, List.getElem?_eq_getElem h]
def knownB (l : List Up) (e : En) : Bool := l.any fun u => decide (coreE e = coreE u.e)
theorem kn_look {l : List Up} (e : En) : ∀ n, n ≤ l.length → (lookG (coreE e) (knM l n)).isSome = knownB (l.take n) e
  | 0, _ => by simp [knM, lookG, knownB]
  | n + 1, h => by
    have ih := kn_look (l := l) e n (by omega)
    rw [kn_succ (l := l) (n := n) (by omega), look_upd]
    unfold knownB at ih ⊢
    rw [List.take_succ_eq_append_getElem (by omega), List.any_append, ← ih]
    simp only [List.any_cons, List.any_nil, Bool.or_false]
    split
    · rename_i h1; simp [h1]
    · rename_i h1; simp [h1]
def strangeI (table : List En) (l : List Up) : Int := idxI table fun e => !knownB l e
abbrev EsN (l : List Up) : List (AV × AV) := EsG EnA (knM l l.length)

/-- A sure update of a site that isn't there. -/
def shortP (table : List En) (site : Int) (u : Up) : Bool := u.sure && (decide (u.e.st.s = site) && (if firstK table u.e.key = -1 then true else match table[(firstK table u.e.key).toNat]? with | some x => laterB u.e.st x.st | none => true))
def shortI (table : List En) (site : Int) (l : List Up) : Int := idxI l (shortP table site)
end Go.Proofs.Ytgjimlgofakbpaa
