/- The order of places goes on from two to three, and what is left of a place is left of all under it. No condition but the statement's own. -/
import Derived.Test.YtjlfclhlfgjgcabPx5
import Derived.Test.YtjlfclhlfgjgcabPureLabel
set_option linter.unusedVariables false
set_option linter.unusedSimpArgs false
namespace Go.Proofs.Ytjlfclhlfgjgcab.Pure
open Go Go.Own Go.RowKit Go.Proofs.Ytjlfclhlfgjgcab.P Go.Proofs.YtjlfclhlfgjgcabW.PrintWords Go.Proofs.YtjlfclhlfgjgcabW.PrintLast

theorem LabelOrders : spinneylaw19_LabelOrders.Pure := by
  intro a b c _ _ _ _ _ _ _ _ _
  refine ⟨10, ?_⟩
  unfold spinneylaw19_LabelOrders.f
  rw [live19 10 (by omega), big_eq [a, b, c] (by simp) 10 (by simp)]
  simp only [Option.bind_some]
  split
  · rfl
  · have j0 : spinneylaw19_LabelOrders.j0 10 a b c true false = some true := by
      simp only [spinneylaw19_LabelOrders.j0, label_Left_eq, label_Under_eq, Option.bind_some]
      have h1 := left_under a b c
      have h2 := under_left a b c
      cases e1 : leftL a b <;> cases e2 : underL c b <;> cases e3 : underL c a <;> simp [e1, e2, e3] at h1 h2 ⊢ <;> simp [h1, h2]
    simp only [label_Compare_eq 9, Option.bind_some]
    split
    · rename_i h1
      split
      · rename_i h2
        have := cmp_trans a b c h1 h2
        rw [decide_eq_false (by omega)]
        exact j0
      · exact j0
    · exact j0

end Go.Proofs.Ytjlfclhlfgjgcab.Pure
