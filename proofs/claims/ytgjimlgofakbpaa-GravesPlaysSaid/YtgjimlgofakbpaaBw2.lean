/- Contracts: what a watch looks up. -/
import Derived.Test.YtgjimlgofakbpaaBw1
namespace Go.Proofs.Ytgjimlgofakbpaa
set_option linter.unusedSimpArgs false
set_option linter.unusedVariables false
set_option maxHeartbeats 4000000
open Go Go.Am Go.RowKit
set_option maxRecDepth 100000
theorem str_ren (ρ : List Nat) (a : ByteArray) : ren ρ (Str a) = Str a := by simp [ren]
theorem en_ren (ρ : List Nat) (a : En) : ren ρ (EnA a) = EnA a := by simp [ren, renL]
abbrev EsK (l : List En) : List (AV × AV) := EsG Str (bkM l l.length)
theorem re_key (off : Nat) (l : List En) (i : Nat) (h : i < l.length) : (Re off l).getD (off + i * 9) AV.bad = Str l[i].key := cell_at (q := 0) (re_at off l i h) (by decide)

/-- An entry without age and keepers; what it has in common with its update. -/
def bareE (e : En) : En := { e with keep := 0, age := 0 }
def coreE (e : En) : En := { e with act := ⟨0, 0⟩, keep := 0, age := 0 }
/-- Is an entry older than it was, or gone? -/
def fellP (is : List En) (e : En) : Bool := if firstK is e.key = -1 then true else match is[(firstK is e.key).toNat]? with | some x => newerB e x | none => true
def fellI (was is : List En) : Int := idxI was (fellP is)
def fellR (was is : List En) : AV := match was[(fellI was is).toNat]? with | some e => if fellI was is = -1 then .tup [Str ⟨#[]⟩, Bo false] else .tup [Str e.key, Bo true] | none => .tup [Str ⟨#[]⟩, Bo false]
theorem fellR_no {was is : List En} (h : fellI was is = -1) : fellR was is = .tup [Str ⟨#[]⟩, Bo false] := by
  unfold fellR
  split
  · rw [if_pos h]
  · rfl
theorem fellR_at {was is : List En} {i : Nat} (hi : i < was.length) (h : fellI was is = i) : fellR was is = .tup [Str was[i].key, Bo true] := by
  unfold fellR
  rw [h, show ((i : Int)).toNat = i by omega, List.getElem?_eq_getElem hi]
  simp only
  rw [if_neg (by omega)]
end Go.Proofs.Ytgjimlgofakbpaa
