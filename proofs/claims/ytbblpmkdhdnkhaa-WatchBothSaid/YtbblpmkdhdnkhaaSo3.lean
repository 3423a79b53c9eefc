/- SortFunc of entries and watch.Map: contracts. -/
import Derived.Test.YtbblpmkdhdnkhaaSo2
import Derived.Test.YtbblpmkdhdnkhaaLaySo
import Derived.Shelf.SlSortCmp.NoneTotal
namespace Go.Proofs.Ytbblpmkdhdnkhaa
set_option linter.unusedSimpArgs false
set_option linter.unusedVariables false
set_option maxHeartbeats 4000000
open Go Go.Proofs Go.Am Go.RowKit Go.Sort
set_option maxRecDepth 100000
theorem sortf_any (out : List En) (hl : out.length ≤ 4096) (hk : (out.map (·.key)).Nodup) : ACall Try.prog 47 [.sl 0 0 out.length 9 none, .fn 48 [] []] [.cells false (Re 0 out)] (Det (.tup []) [.cells false (Re 0 (sortE out))]) := by
  refine sort_acall (by kernel_rfl) (fun blk cap d w hH hblk hsz => ?_) (fun p cap fv w => ?_) out hl hk
  · have eg : ∀ args w, (callFunc 48 args).run Try.prog w = .ok (.enter 48 args) w := enters_of Try.func48 (by kernel_rfl) rfl
    have hcon := AnyQ.slices_SortFunc So 9 Try.isAgg52 Try.sizeOf52 encE enc_len enc_one (fun x y : En => cmpK x.key y.key) swo_key 48 #[] blk 0 cap d w eg (fun _ _ _ _ x y => clo_w x y _) hH hblk (by omega)
    exact hcon
  · exact AnyF.slices_SortFunc_none So p cap fv w
theorem watchmap_any (o : Nat) (l : List En) (hl : l.length ≤ 4096) : ACall Try.prog 23 [.sl 0 o l.length 9 none] [.cells true (Re o l)] (Det (.sl 2 0 (mapE l).length 9 none) [.cells true (Re o l), .gone, .cells false (Re 0 (mapE l))]) :=
  wmap_any o l hl fun out h1 h2 => sortf_any out h1 h2
end Go.Proofs.Ytbblpmkdhdnkhaa
