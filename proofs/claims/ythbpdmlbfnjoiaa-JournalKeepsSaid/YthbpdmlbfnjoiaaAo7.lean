/- Contracts: the example of chapter 01. -/
import Derived.Test.YthbpdmlbfnjoiaaAo6
namespace Go.Proofs.Ythbpdmlbfnjoiaa
set_option linter.unusedSimpArgs false
set_option linter.unusedVariables false
set_option maxHeartbeats 4000000
open Go Go.Am
set_option maxRecDepth 100000

theorem sp1 : numL 258 2 0 [] = [2, 1] := by decide +kernel
theorem sp2 : numE 258 2 0 = 0 := by decide +kernel
theorem sp3 : textL (⟨#[97, 98]⟩) 0 [2, 1] = [2, 1, 2, 97, 98] := by decide +kernel
theorem sp4 : textE (⟨#[97, 98]⟩) 0 = 0 := by decide +kernel
theorem sp5 : ((⟨(toB [2, 1, 2, 97, 98]).toArray⟩ : ByteArray) == ⟨(toB [2, 1, 2, 97, 98]).toArray⟩) = true := by decide +kernel
end Go.Proofs.Ythbpdmlbfnjoiaa
