/- Of two places just one of four holds, and Compare goes with it. No condition but that places of more than 2000 numbers are not looked at (the statement's own). -/
import Derived.Test.YtjlfclhlfgjgcabPx4
import Derived.Test.YtjlfclhlfgjgcabPureLabel
set_option linter.unusedVariables false
set_option linter.unusedSimpArgs false
namespace Go.Proofs.Ytjlfclhlfgjgcab.Pure
open Go Go.Own Go.RowKit Go.Proofs.Ytjlfclhlfgjgcab.P Go.Proofs.YtjlfclhlfgjgcabW.PrintWords Go.Proofs.YtjlfclhlfgjgcabW.PrintLast

theorem LabelFour : spinneylaw19_LabelFour.Pure := by
  intro a b _ _ ha _ _ hb
  refine ⟨10, ?_⟩
  unfold spinneylaw19_LabelFour.f
  rw [live19 10 (by omega), big_eq [a, b] (by simp) 10 (by simp)]
  simp only [Option.bind_some]
  split
  · rfl
  · simp only [label_Compare_eq 9, label_Left_eq, Option.bind_some, spinneylaw19_LabelFour.j0, spinneylaw19_LabelFour.j1, spinneylaw19_LabelFour.j2, spinneylaw19_LabelFour.j3, label_Under_eq]
    rw [label_Compare_eq 5]
    have hanti := cmp_anti a b
    rw [hanti]
    rcases four a b with ⟨h1, h2, h3, h4, h5⟩ | ⟨h1, h2, h3, h4, h5⟩ | ⟨h1, h2, h3, h4, h5⟩ | ⟨h1, h2, h3, h4, h5⟩ | ⟨h1, h2, h3, h4, h5⟩ <;> rw [h1, h2, h3, h4, h5] <;> decide +kernel

end Go.Proofs.Ytjlfclhlfgjgcab.Pure
