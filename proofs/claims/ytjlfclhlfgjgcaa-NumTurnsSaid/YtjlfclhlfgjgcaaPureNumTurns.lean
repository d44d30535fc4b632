/- Turned twice a number is itself, its size is not below 0, and comparing turns round with the sides. No condition. -/
import Derived.Test.YtjlfclhlfgjgcaaPx6
import Derived.Test.YtjlfclhlfgjgcaaPx7
import Derived.Test.YtjlfclhlfgjgcaaPureNum
import Derived.Test.YtjlfclhlfgjgcaaPureNumSigns
set_option linter.unusedVariables false
set_option linter.unusedSimpArgs false
namespace Go.Proofs.Ytjlfclhlfgjgcaa.Pure
open Go Go.Own Go.RowKit Go.Proofs.Ytjlfclhlfgjgcaa.P Go.Proofs.YtjlfclhlfgjgcaaW.PrintWords Go.Proofs.YtjlfclhlfgjgcaaW.PrintLast

theorem NumTurns : spinneylaw01_NumTurns.Pure := by
  intro a b ha hb
  replace ha := in64_of_wf ha
  replace hb := in64_of_wf hb
  refine ⟨3, ?_⟩
  unfold spinneylaw01_NumTurns.f
  have ha' := ha
  unfold In64 at ha'
  have j1 : spinneylaw01_NumTurns.j1 2 a b true false = some true := by
    simp only [spinneylaw01_NumTurns.j1, cmp_eq, sign_eq, Option.bind_some]
    rw [if_neg (by simp), if_pos trivial]
    have e : (if a < b then (-1 : Int) else if a > b then 1 else 0) = wrap64 (-(if b < a then -1 else if b > a then 1 else 0)) := by
      by_cases h1 : a < b
      · rw [if_pos h1, if_neg (by omega), if_pos (by omega)]; decide +kernel
      · by_cases h2 : a > b
        · rw [if_neg h1, if_pos h2, if_pos (by omega)]; decide +kernel
        · rw [if_neg h1, if_neg h2, if_neg (by omega), if_neg (by omega)]; decide +kernel
    rw [if_pos e, if_pos]
    · simp
    · by_cases h1 : a < b
      · rw [if_pos h1]; simp; omega
      · by_cases h2 : a > b
        · rw [if_neg h1, if_pos h2]; simp; omega
        · rw [if_neg h1, if_neg h2]; simp; omega
  rw [live, neg_fit ha]
  simp only [Option.bind_some]
  by_cases h : In64 (-a)
  · rw [fit_in h]
    simp only [if_true]
    rw [neg_fit h, Int.neg_neg, fit_in ha]
    simp only [Option.bind_some, if_true, sign_eq]
    have e : (if -a < 0 then (-1 : Int) else if -a > 0 then 1 else 0) = wrap64 (-(if a < 0 then -1 else if a > 0 then 1 else 0)) := by
      by_cases h1 : a < 0
      · rw [if_neg (by omega), if_pos (by omega), if_pos h1]; decide +kernel
      · by_cases h2 : a > 0
        · rw [if_pos (by omega), if_neg h1, if_pos h2]; decide +kernel
        · rw [if_neg (by omega), if_neg (by omega), if_neg h1, if_neg h2]; decide +kernel
    rw [if_pos e]
    simp only [spinneylaw01_NumTurns.j0, abs_fit ha, Option.bind_some]
    by_cases h1 : a < 0
    · rw [if_pos h1, fit_in h]
      simp only [if_true]
      rw [if_neg (by omega), if_neg (by omega)]
      exact j1
    · rw [if_neg h1]
      simp only [if_true]
      rw [if_neg (by omega)]
      exact j1
  · rw [fit_out h]
    have hl : a = -9223372036854775808 := by unfold In64 at h; omega
    simp only []
    rw [if_neg (by omega)]
    have hab : num_Abs.f a = some (0, 10) := by rw [abs_fit ha, if_pos (by omega), fit_out h]
    simp only [spinneylaw01_NumTurns.j0, hab, Option.bind_some]
    rw [if_neg (by omega), if_neg (by omega)]
    have : (((10 : Int) == 0) != decide (a > 0)) = false := by subst hl; decide
    rw [this]
    exact j1

end Go.Proofs.Ytjlfclhlfgjgcaa.Pure
