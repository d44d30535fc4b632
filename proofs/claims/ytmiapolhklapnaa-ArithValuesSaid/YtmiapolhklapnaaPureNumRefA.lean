/- Checked 64-bit arithmetic of the reference: sums and products. -/
import Derived.Test.YtmiapolhklapnaaPx9
import Derived.Test.YtmiapolhklapnaaPx10
import Derived.Test.YtmiapolhklapnaaPureNumOps
import Derived.Test.YtmiapolhklapnaaPureNumRefS
set_option linter.unusedVariables false
set_option linter.unusedSimpArgs false
namespace Go.Proofs.Ytmiapolhklapnaa.Pure
open Go Go.Own Go.RowKit Go.Proofs.Ytmiapolhklapnaa.P Go.Proofs.YtmiapolhklapnaaW.PrintWords Go.Proofs.YtmiapolhklapnaaW.PrintLast

theorem refadd_fit {a b : Int} (ha : In64 a) (hb : In64 b) : spinneyref01_Add.f a b = some (fit (a + b)) := by
  unfold spinneyref01_Add.f
  have w1 : b > 0 → wrap64 (9223372036854775807 - b) = 9223372036854775807 - b := fun h => wrap64_id (by unfold In64 at *; omega)
  have w2 : b < 0 → wrap64 ((-9223372036854775808) - b) = (-9223372036854775808) - b := fun h => wrap64_id (by unfold In64 at *; omega)
  by_cases hi : In64 (a + b)
  · rw [fit_in hi, wrap64_id hi]
    unfold In64 at *
    repeat' split
    all_goals first | rfl | (exfalso; first | (have := w1 (by assumption); omega) | (have := w2 (by assumption); omega))
  · rw [fit_out hi]
    unfold In64 at *
    repeat' split
    all_goals first | rfl | (exfalso; first | omega | (have := w1 (by assumption); omega) | (have := w2 (by assumption); omega))
theorem tdiv_wrap {a b : Int} (ha : In64 a) (hb : In64 b) (h0 : b ≠ 0) (h1 : ¬ (a = -9223372036854775808 ∧ b = -1)) :
    wrap64 ((wrap64 (a * b)).tdiv b) = a ↔ In64 (a * b) := by
  constructor
  · intro h
    by_cases hb1 : b = -1
    · subst hb1
      unfold In64 at *
      omega
    · have hin := wrap64_in (a * b)
      have habs : ((wrap64 (a * b)).tdiv b).natAbs = (wrap64 (a * b)).natAbs / b.natAbs := Int.natAbs_tdiv ..
      have hq : In64 ((wrap64 (a * b)).tdiv b) := by
        have hbn : b.natAbs = 1 ∨ 2 ≤ b.natAbs := by omega
        rcases hbn with hbn | hbn
        · have : b = 1 := by omega
          subst this
          rw [Int.tdiv_one]; exact hin
        · have : (wrap64 (a * b)).natAbs / b.natAbs ≤ (wrap64 (a * b)).natAbs / 2 := Nat.div_le_div_left hbn (by omega)
          unfold In64 at *
          omega
      rw [wrap64_id hq] at h
      have hd := Int.tmod_add_mul_tdiv (wrap64 (a * b)) b
      rw [h] at hd
      have hm : ((wrap64 (a * b)).tmod b).natAbs = (wrap64 (a * b)).natAbs % b.natAbs := Int.natAbs_tmod ..
      have hlt := Nat.mod_lt (wrap64 (a * b)).natAbs (show b.natAbs > 0 by omega)
      rw [Int.mul_comm b a] at hd
      have hk : ∃ k : Int, wrap64 (a * b) = a * b + k * 18446744073709551616 := ⟨-((a * b + 9223372036854775808) / 18446744073709551616), by unfold wrap64; omega⟩
      obtain ⟨k, hk⟩ := hk
      have : k = 0 := by unfold In64 at hb; omega
      subst this
      rw [hk] at hin
      simpa using hin
  · intro h
    rw [wrap64_id h, Int.mul_tdiv_cancel _ h0, wrap64_id ha]
theorem refmul_fit {a b : Int} (ha : In64 a) (hb : In64 b) (k : Nat) : spinneyref01_Mul.f (k + 2) a b = some (fit (a * b)) := by
  unfold spinneyref01_Mul.f
  by_cases h0 : a = 0
  · rw [if_pos h0]
    subst h0
    simp [spinneyref01_Mul.j0, fit_in (show In64 0 by unfold In64; omega)]
  · rw [if_neg h0]
    by_cases h1 : b = 0
    · subst h1
      simp [spinneyref01_Mul.j0, fit_in (show In64 0 by unfold In64; omega)]
    · have e : (b == 0) = false := by simpa using h1
      rw [e]
      have j1f : ¬ (a = -9223372036854775808 ∧ b = -1) → spinneyref01_Mul.j1 (k + 1) a b false = some (fit (a * b)) := by
        intro hs
        simp only [spinneyref01_Mul.j1]
        rw [if_neg (by simp), if_neg h1]
        have := tdiv_wrap ha hb h1 hs
        by_cases hi : In64 (a * b)
        · rw [if_pos (this.mpr hi), fit_in hi, wrap64_id hi]
        · rw [if_neg (fun h => hi (this.mp h)), fit_out hi]
      have j1t : ¬ In64 (a * b) → spinneyref01_Mul.j1 (k + 1) a b true = some (fit (a * b)) := by
        intro hs
        simp [spinneyref01_Mul.j1, fit_out hs]
      simp only [spinneyref01_Mul.j0]
      rw [if_neg (by simp)]
      by_cases h2 : a = -1
      · rw [if_pos h2]
        subst h2
        by_cases h3 : b = -9223372036854775808
        · rw [if_pos h3]
          exact j1t (by subst h3; unfold In64; omega)
        · rw [if_neg h3]
          have e2 : ((-1 : Int) == -9223372036854775808) = false := by decide
          rw [e2]
          split <;> exact j1f (by omega)
      · rw [if_neg h2]
        by_cases h3 : b = -1
        · rw [if_pos h3]
          subst h3
          by_cases h4 : a = -9223372036854775808
          · have : (a == -9223372036854775808) = true := by simpa using h4
            rw [this]
            exact j1t (by subst h4; unfold In64; omega)
          · have : (a == -9223372036854775808) = false := by simpa using h4
            rw [this]
            exact j1f (by omega)
        · rw [if_neg h3]
          exact j1f (by omega)

end Go.Proofs.Ytmiapolhklapnaa.Pure
