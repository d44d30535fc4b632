/- What is pruned is so with all that is under it; a cut prunes neither itself, nor what is under it, nor what is left. No condition but the statement's own. -/
import Derived.Test.YtjlfclhlfgjgcabPx7
import Derived.Test.YtjlfclhlfgjgcabPureLabel
set_option linter.unusedVariables false
set_option linter.unusedSimpArgs false
namespace Go.Proofs.Ytjlfclhlfgjgcab.Pure
open Go Go.Own Go.RowKit Go.Proofs.Ytjlfclhlfgjgcab.P Go.Proofs.YtjlfclhlfgjgcabW.PrintWords Go.Proofs.YtjlfclhlfgjgcabW.PrintLast

theorem LabelPrunes : spinneylaw19_LabelPrunes.Pure := by
  intro a b i d _ _ _ _ _ _ _ _
  refine ⟨10, ?_⟩
  unfold spinneylaw19_LabelPrunes.f
  rw [live19 10 (by omega), big_eq [a, b] (by simp) 10 (by simp)]
  simp only [Option.bind_some]
  split
  · rfl
  · rename_i hbig
    have hl : a.length ≤ 2000 ∧ b.length ≤ 2000 := by simpa [Nat.not_lt] using hbig
    have p1 : prunedL b b d = false := by simp [prunedL, left_irrefl]
    have p2 : prunedL (b ++ [i]) b d = false := by simp [prunedL, left_not_snoc]
    have p3 : leftL a b = true → prunedL a b d = false := by
      intro h
      have : leftL b a = false := by rcases four a b with h4 | h4 | h4 | h4 | h4 <;> simp [h4] at h ⊢
      simp [prunedL, this]
    have j0 : spinneylaw19_LabelPrunes.j0 10 a b i d true false = some true := by
      simp only [spinneylaw19_LabelPrunes.j0, label_Pruned_eq, label_Left_eq, Option.bind_some, label_Next_eq i hl.1]
      rw [if_neg (by simp)]
      by_cases hp : prunedL a b d = true
      · have h1 : leftL b a = true := by simp [prunedL] at hp; exact hp.1
        have h2 := left_snoc_r b a i h1
        have h3 : prunedL (a ++ [i]) b d = true := by simp [prunedL] at hp ⊢; rw [h2.1, h2.2]; exact ⟨rfl, hp.2⟩
        have h4 : prunedL a b 0 = true := by simp [prunedL, h1]; omega
        simp [hp, h3, h4, h1]
      · simp [hp]
    simp only [label_Pruned_eq, label_Left_eq, Option.bind_some, label_Next_eq i hl.2, p1, p2]
    simp only [Bool.false_eq_true, if_false]
    by_cases h : leftL a b = true
    · simp only [h, if_true, p3 h]; exact j0
    · simp only [h]; exact j0

end Go.Proofs.Ytjlfclhlfgjgcab.Pure
