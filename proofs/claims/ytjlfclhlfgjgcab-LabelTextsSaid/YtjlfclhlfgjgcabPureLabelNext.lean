/- The place behind one. -/
import Derived.Test.YtjlfclhlfgjgcabPx4
import Derived.Test.YtjlfclhlfgjgcabPureLabel
set_option linter.unusedVariables false
set_option linter.unusedSimpArgs false
namespace Go.Proofs.Ytjlfclhlfgjgcab.Pure
open Go Go.Own Go.RowKit Go.Proofs.Ytjlfclhlfgjgcab.P Go.Proofs.YtjlfclhlfgjgcabW.PrintWords Go.Proofs.YtjlfclhlfgjgcabW.PrintLast

theorem label_Next_eq {a : List Int} (i : Int) (h : a.length ≤ 2000) : label_Next.f a i = some (a ++ [i]) := by
  unfold label_Next.f
  rw [if_pos (by omega)]

end Go.Proofs.Ytjlfclhlfgjgcab.Pure
