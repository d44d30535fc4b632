/- Quotients, remainders and moduli of any two 64-bit numbers are those of the reference. No condition. -/
import Derived.Test.YtjlfclhlfgjgcaaPx1
import Derived.Test.YtjlfclhlfgjgcaaPx3
import Derived.Test.YtjlfclhlfgjgcaaPureNum
set_option linter.unusedVariables false
set_option linter.unusedSimpArgs false
namespace Go.Proofs.Ytjlfclhlfgjgcaa.Pure
open Go Go.Own Go.RowKit Go.Proofs.Ytjlfclhlfgjgcaa.P Go.Proofs.YtjlfclhlfgjgcaaW.PrintWords Go.Proofs.YtjlfclhlfgjgcaaW.PrintLast

theorem quo_eq {a b : Int} (ha : In64 a) (hb : In64 b) : num_Quo.f a b = spinneyref01_Quo.f a b := by
  unfold num_Quo.f spinneyref01_Quo.f
  split
  · rfl
  · split
    · rename_i h
      subst h
      rw [neg_fit ha]
      by_cases h : a = -9223372036854775808
      · subst h; rw [fit_out (by unfold In64; omega)]; simp
      · have hn : In64 (-a) := by unfold In64 at *; omega
        have : wrap64 (a.tdiv (-1)) = -a := by rw [Int.tdiv_neg, Int.tdiv_one]; exact wrap64_id hn
        rw [if_neg h, this, fit_in hn]
        rfl
    · simp_all
theorem rem_eq (a b : Int) : num_Rem.f a b = spinneyref01_Rem.f a b := rfl
theorem mod_eq {a b : Int} (ha : In64 a) (hb : In64 b) : num_Mod.f a b = spinneyref01_Mod.f a b := by
  unfold num_Mod.f spinneyref01_Mod.f
  rw [rem_eq]
  unfold spinneyref01_Rem.f
  by_cases h0 : b = 0
  · subst h0; simp
  · by_cases h1 : b = -1
    · subst h1; simp
    · simp only [h0, h1, if_false, Option.bind_some]
      have hr : In64 (a.tmod b) := by
        have h2 : (a.tmod b).natAbs = a.natAbs % b.natAbs := Int.natAbs_tmod ..
        have h3 := Nat.mod_lt a.natAbs (show b.natAbs > 0 by omega)
        unfold In64 at *
        omega
      have hx := xor_neg hr hb
      by_cases hs : (decide (a.tmod b < 0) != decide (b < 0)) = true
      · have : bits .xor .i64 (a.tmod b) b < 0 := hx.mpr (by simpa using hs)
        simp only [this, hs, if_true]
      · have : ¬ bits .xor .i64 (a.tmod b) b < 0 := fun h => hs (by simpa using hx.mp h)
        simp only [this, hs, if_false]
        simp
theorem NumDivides : spinneylaw01_NumDivides.Pure := by
  intro a b ha hb
  replace ha := in64_of_wf ha
  replace hb := in64_of_wf hb
  refine ⟨1, ?_⟩
  unfold spinneylaw01_NumDivides.f
  rw [quo_eq ha hb, rem_eq]
  have s : ∀ (x : Int × Int), spinneylaw01_same.f x.1 x.2 x.1 x.2 = some true := by intro x; simp [spinneylaw01_same.f]
  obtain ⟨q, hq⟩ : ∃ q, spinneyref01_Quo.f a b = some q := by unfold spinneyref01_Quo.f; repeat' (first | exact ⟨_, rfl⟩ | split)
  obtain ⟨r, hr⟩ : ∃ q, spinneyref01_Rem.f a b = some q := by unfold spinneyref01_Rem.f; repeat' (first | exact ⟨_, rfl⟩ | split)
  obtain ⟨m, hm⟩ : ∃ q, spinneyref01_Mod.f a b = some q := by unfold spinneyref01_Mod.f; rw [hr]; simp only [Option.bind_some]; repeat' (first | exact ⟨_, rfl⟩ | split)
  rw [hq, hr]
  simp only [Option.bind_some, s, if_true, spinneylaw01_NumDivides.j0]
  rw [mod_eq ha hb, hm, live]
  simp only [Option.bind_some, s, if_true]

end Go.Proofs.Ytjlfclhlfgjgcaa.Pure
