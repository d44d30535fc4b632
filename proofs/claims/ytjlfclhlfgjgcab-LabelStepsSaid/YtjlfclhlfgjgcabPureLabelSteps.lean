/- The places behind one are under it, behind it, and apart from one another as their numbers are. No condition but the statement's own. -/
import Derived.Test.YtjlfclhlfgjgcabPx8
import Derived.Test.YtjlfclhlfgjgcabPureLabel
import Derived.Test.YtjlfclhlfgjgcabPureLabelNext
set_option linter.unusedVariables false
set_option linter.unusedSimpArgs false
namespace Go.Proofs.Ytjlfclhlfgjgcab.Pure
open Go Go.Own Go.RowKit Go.Proofs.Ytjlfclhlfgjgcab.P Go.Proofs.YtjlfclhlfgjgcabW.PrintWords Go.Proofs.YtjlfclhlfgjgcabW.PrintLast

theorem LabelSteps : spinneylaw19_LabelSteps.Pure := by
  intro a i j _ _ _ _ _
  refine ⟨10, ?_⟩
  unfold spinneylaw19_LabelSteps.f
  rw [live19 10 (by omega), big_eq [a] (by simp) 10 (by simp)]
  simp only [Option.bind_some]
  split
  · rfl
  · rename_i hbig
    have hl : a.length ≤ 2000 := by simpa [Nat.not_lt] using hbig
    simp only [label_Compare_eq 9, label_Left_eq, label_Under_eq, Option.bind_some, label_Next_eq _ hl, under_snoc, cmp_snoc, left_snoc]
    simp only [if_true, beq_self_eq_true]
    have e1 : ((cmpL (a ++ [i]) (a ++ [j]) == 0) == (i == j)) = true := by
      rw [beq_iff_eq, Bool.eq_iff_iff]
      simp [cmp_eq]
    rw [if_pos e1]
    have e2 : wrap64 ((a.length : Int) + 1) = (a.length : Int) + 1 := by unfold wrap64; omega
    rw [e2]
    simp

end Go.Proofs.Ytjlfclhlfgjgcab.Pure
