/- Sub undoes Add; a number is the divisor times the quotient and what is left; Rem and Mod differ by the divisor, or not at all. No condition. -/
import Derived.Test.YtjlfclhlfgjgcaaPx1
import Derived.Test.YtjlfclhlfgjgcaaPx9
import Derived.Test.YtjlfclhlfgjgcaaPureNum
import Derived.Test.YtjlfclhlfgjgcaaPureNumSigns
import Derived.Test.YtjlfclhlfgjgcaaPureNumDivides
set_option linter.unusedVariables false
set_option linter.unusedSimpArgs false
namespace Go.Proofs.Ytjlfclhlfgjgcaa.Pure
open Go Go.Own Go.RowKit Go.Proofs.Ytjlfclhlfgjgcaa.P Go.Proofs.YtjlfclhlfgjgcaaW.PrintWords Go.Proofs.YtjlfclhlfgjgcaaW.PrintLast

theorem NumUndoes : spinneylaw01_NumUndoes.Pure := by
  intro a b ha hb
  replace ha := in64_of_wf ha
  replace hb := in64_of_wf hb
  refine ⟨3, ?_⟩
  have j0 : spinneylaw01_NumUndoes.j0 3 a b true = some true := by
    by_cases hb0 : b = 0
    · subst hb0
      have h1 : num_Quo.f a 0 = some (0, 11) := by simp [num_Quo.f]
      have h2 : num_Rem.f a 0 = some (0, 11) := by simp [num_Rem.f]
      have h3 : num_Mod.f a 0 = some (0, 11) := by rw [mod_eq ha hb]; simp [spinneyref01_Mod.f, spinneyref01_Rem.f]
      simp only [spinneylaw01_NumUndoes.j0, h1, h2, h3, Option.bind_some, if_true]
      simp
    · have hrb : (a.tmod b).natAbs < b.natAbs := by
        have h2 : (a.tmod b).natAbs = a.natAbs % b.natAbs := Int.natAbs_tmod ..
        have h3 := Nat.mod_lt a.natAbs (show b.natAbs > 0 by omega)
        omega
      have hrs : a.tmod b ≠ 0 → (a.tmod b < 0 ↔ a < 0) := by
        intro h0
        constructor
        · intro h
          rcases Int.lt_or_le a 0 with h4 | h4
          · exact h4
          · have := Int.tmod_nonneg b h4; omega
        · intro h
          have := Int.tmod_nonneg b (show 0 ≤ -a by omega)
          rw [Int.neg_tmod] at this
          omega
      have hdm := Int.tmod_add_mul_tdiv a b
      have hr : num_Rem.f a b = some (a.tmod b, 0) := by
        unfold num_Rem.f
        rw [if_neg hb0]
        split
        · rename_i h; subst h; simp
        · rfl
      obtain ⟨m, hm, hm2, hm3⟩ : ∃ m, num_Mod.f a b = some (m, 0) ∧ (m = a.tmod b ∨ m = wrap64 (a.tmod b + b)) ∧ (m = 0 ∨ (decide (m < 0) != decide (b < 0)) = false) := by
        rw [mod_eq ha hb]
        unfold spinneyref01_Mod.f
        rw [← rem_eq, hr]
        simp only [Option.bind_some, if_true]
        by_cases h0 : a.tmod b = 0
        · rw [if_pos h0]; exact ⟨_, rfl, .inl rfl, .inl h0⟩
        · rw [if_neg h0]
          by_cases hs : (decide (a.tmod b < 0) != decide (b < 0)) = true
          · rw [if_pos hs]
            refine ⟨_, rfl, .inr rfl, .inr ?_⟩
            have hs' : (a.tmod b < 0 ∧ ¬ b < 0) ∨ (¬ a.tmod b < 0 ∧ b < 0) := by
              by_cases h5 : a.tmod b < 0 <;> by_cases h6 : b < 0 <;> simp [h5, h6] at hs ⊢
            have hw : wrap64 (a.tmod b + b) = a.tmod b + b := wrap64_id (by unfold In64 at *; omega)
            rw [hw]
            by_cases h5 : a.tmod b < 0 <;> by_cases h6 : b < 0 <;> simp [h5, h6] at hs ⊢ <;> omega
          · rw [if_neg hs]
            exact ⟨_, rfl, .inl rfl, .inr (by simpa using hs)⟩
      have j1 : ∀ q e, num_Quo.f a b = some (q, e) → spinneylaw01_NumUndoes.j1 2 a b true q e (a.tmod b) false = some true := by
        intro q e hq
        simp only [spinneylaw01_NumUndoes.j1]
        rw [if_neg (by simp)]
        unfold num_Quo.f at hq
        rw [if_neg hb0] at hq
        by_cases hn : b = -1
        · rw [if_pos hn, neg_fit ha] at hq
          subst hn
          by_cases h7 : In64 (-a)
          · rw [fit_in h7] at hq
            simp only [Option.bind_some, Option.some.injEq, Prod.mk.injEq] at hq
            obtain ⟨rfl, rfl⟩ := hq
            rw [if_pos rfl, mul_fit h7 hb]
            have e1 : -a * -1 = a := by omega
            rw [e1, fit_in ha]
            simp only [Option.bind_some]
            have e2 : a.tmod (-1) = 0 := by simp
            rw [e2, add_fit ha (by unfold In64; omega), Int.add_zero, fit_in ha]
            simp
          · rw [fit_out h7] at hq
            simp only [Option.bind_some, Option.some.injEq, Prod.mk.injEq] at hq
            obtain ⟨rfl, rfl⟩ := hq
            simp
        · rw [if_neg hn] at hq
          have habs : (a.tdiv b).natAbs = a.natAbs / b.natAbs := Int.natAbs_tdiv ..
          have hle : a.natAbs / b.natAbs ≤ a.natAbs := Nat.div_le_self _ _
          have hqi : In64 (a.tdiv b) := by
            rcases (show b.natAbs = 1 ∨ 2 ≤ b.natAbs by omega) with hbn | hbn
            · have : b = 1 := by omega
              subst this; rw [Int.tdiv_one]; exact ha
            · have : a.natAbs / b.natAbs ≤ a.natAbs / 2 := Nat.div_le_div_left hbn (by omega)
              unfold In64 at *
              omega
          rw [wrap64_id hqi] at hq
          simp only [Option.some.injEq, Prod.mk.injEq] at hq
          obtain ⟨rfl, rfl⟩ := hq
          have hmi : In64 (a.tdiv b * b) := by
            rw [Int.mul_comm]
            have : b * a.tdiv b = a - a.tmod b := by omega
            rw [this]
            by_cases h0 : a.tmod b = 0
            · rw [h0]; simpa using ha
            · have := hrs h0
              unfold In64 at *
              have hmabs : (a.tmod b).natAbs = a.natAbs % b.natAbs := Int.natAbs_tmod ..
              have := Nat.mod_le a.natAbs b.natAbs
              omega
          have hri : In64 (a.tmod b) := by unfold In64 at *; omega
          rw [if_pos rfl, mul_fit hqi hb, fit_in hmi]
          simp only [Option.bind_some]
          rw [add_fit hmi hri]
          have : a.tdiv b * b + a.tmod b = a := by rw [Int.mul_comm]; omega
          rw [this, fit_in ha]
          simp only [Option.bind_some, if_true]
          by_cases h0 : a.tmod b = 0
          · rw [if_pos h0]
          · rw [if_neg h0]
            have := hrs h0
            by_cases h8 : a < 0 <;> simp [h8, this]
      obtain ⟨⟨q, e⟩, hq⟩ : ∃ q, num_Quo.f a b = some q := by rw [quo_eq ha hb]; unfold spinneyref01_Quo.f; repeat' (first | exact ⟨_, rfl⟩ | split)
      have J := j1 q e hq
      simp only [spinneylaw01_NumUndoes.j0, hq, hr, hm, Option.bind_some]
      rw [if_neg hb0]
      simp only [if_true]
      by_cases h9 : m = a.tmod b
      · rw [if_pos h9]
        rcases hm3 with h10 | h10
        · rw [if_pos h10]; exact J
        · rw [h10]
          split <;> exact J
      · rw [if_neg h9, if_pos (hm2.resolve_left h9)]
        rcases hm3 with h10 | h10
        · rw [if_pos h10]; exact J
        · rw [h10]
          split <;> exact J
  unfold spinneylaw01_NumUndoes.f
  rw [live, add_fit ha hb]
  simp only [Option.bind_some]
  by_cases h1 : In64 (a + b)
  · rw [fit_in h1]
    simp only [if_true]
    rw [sub_fit h1 hb, Int.add_sub_cancel, fit_in ha]
    simp only [Option.bind_some, if_true]
    exact j0
  · rw [fit_out h1, if_neg (by simp)]
    exact j0

end Go.Proofs.Ytjlfclhlfgjgcaa.Pure
