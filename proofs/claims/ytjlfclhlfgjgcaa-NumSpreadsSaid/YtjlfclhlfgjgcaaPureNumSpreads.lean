/- A product with a sum is the sum of both products, where nothing is over. No condition. -/
import Derived.Test.YtjlfclhlfgjgcaaPx5
import Derived.Test.YtjlfclhlfgjgcaaPureNum
set_option linter.unusedVariables false
set_option linter.unusedSimpArgs false
namespace Go.Proofs.Ytjlfclhlfgjgcaa.Pure
open Go Go.Own Go.RowKit Go.Proofs.Ytjlfclhlfgjgcaa.P Go.Proofs.YtjlfclhlfgjgcaaW.PrintWords Go.Proofs.YtjlfclhlfgjgcaaW.PrintLast

theorem NumSpreads : spinneylaw01_NumSpreads.Pure := by
  intro a b c ha hb hc
  replace ha := in64_of_wf ha
  replace hb := in64_of_wf hb
  replace hc := in64_of_wf hc
  refine ⟨1, ?_⟩
  unfold spinneylaw01_NumSpreads.f
  rw [live, add_fit hb hc, mul_fit ha hb, mul_fit ha hc]
  simp only [Option.bind_some]
  have jt : ∀ s p q, spinneylaw01_NumSpreads.j0 1 a true s p q true = some true := by intro s p q; simp [spinneylaw01_NumSpreads.j0]
  by_cases h1 : In64 (b + c)
  · rw [fit_in h1]
    simp only [if_true]
    by_cases h2 : In64 (a * b)
    · rw [fit_in h2]
      simp only [if_true]
      by_cases h3 : In64 (a * c)
      · rw [fit_in h3]
        simp only [spinneylaw01_NumSpreads.j0]
        rw [if_neg (by decide), mul_fit ha h1, add_fit h2 h3, Int.mul_add]
        simp
      · rw [fit_out h3]
        exact jt _ _ _
    · rw [fit_out h2]
      rw [if_neg (by simp)]
      exact jt _ _ _
  · rw [fit_out h1]
    rw [if_neg (by simp)]
    exact jt _ _ _

end Go.Proofs.Ytjlfclhlfgjgcaa.Pure
