/- Contracts: the example of chapter 06. -/
import Derived.Test.YthbpdmlbfnjoiaaAd2
namespace Go.Proofs.Ythbpdmlbfnjoiaa
set_option linter.unusedSimpArgs false
set_option linter.unusedVariables false
set_option maxHeartbeats 4000000
open Go Go.Am
set_option maxRecDepth 100000

theorem Dk.ok0 : (⟨[], 0, false, -1⟩ : Dk).ok := ⟨by simp, by simp, by simp, by simp⟩
theorem dapp_to {d d' : Dk} {e : Int} (hok : d.ok) {P : List AV} {o : Nat} {b : List Int} (s : Seg P o b) (he : doE d (appW d b.length) = e) (hd : doD d (appW d b.length) (appF b) = d') : ACall Try.prog 33 [.ptr 0 0, .sl 2 o b.length 1 none] [DkO 1 d, .cells false (bA d.l), .cells true P] (Det (I e) [DkO 3 d', .gone, .cells true P, .cells false (bA d'.l)]) := by
  subst he hd; exact dapp_any d hok s
theorem dsync_to {d d' : Dk} {e : Int} (hok : d.ok) (he : doE d 0 = e) (hd : doD d 0 syncF = d') : ACall Try.prog 66 [.ptr 0 0] [DkO 1 d, .cells false (bA d.l)] (Det (I e) [DkO 1 d', .cells false (bA d.l)]) := by
  subst he hd; exact dsync_any d hok
theorem dtrim_to {d d' : Dk} {e n : Int} (hok : d.ok) (he : doE d (trimW d n) = e) (hd : doD d (trimW d n) (trimF n.toNat) = d') : ACall Try.prog 64 [.ptr 0 0, I n] [DkO 1 d, .cells false (bA d.l)] (Det (I e) [DkO 1 d', .cells false (bA d'.l)]) := by
  subst he hd; exact dtrim_any d hok n
theorem dcrash_to {d d' : Dk} {k keep : Int} (hok : d.ok) (he : (crashN d keep : Int) = k) (hd : crashF d keep = d') : ACall Try.prog 43 [.ptr 0 0, I keep] [DkO 1 d, .cells false (bA d.l)] (Det (I k) [DkO 1 d', .cells false (bA d'.l)]) := by
  subst he hd; exact dcrash_any d hok keep
theorem dread_to {d : Dk} {l : List Int} {e : Int} (hok : d.ok) (hl : readL d = l) (he : readE d = e) : ACall Try.prog 38 [.ptr 0 0] [.cells true [Bo d.off, .any, .sl 1 0 d.l.length 1 none, .any], .cells true (bA d.l)] (Det (.tup [.sl 2 0 l.length 1 none, I e]) [.cells true [Bo d.off, .any, .sl 1 0 d.l.length 1 none, .any], .cells true (bA d.l), .cells false (bA l)]) := by
  subst hl he; exact dread_any d hok
end Go.Proofs.Ythbpdmlbfnjoiaa
