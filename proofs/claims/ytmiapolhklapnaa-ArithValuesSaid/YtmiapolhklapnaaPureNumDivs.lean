/- Quotients of the program are the reference's. -/
import Derived.Test.YtmiapolhklapnaaPx2
import Derived.Test.YtmiapolhklapnaaPx10
import Derived.Test.YtmiapolhklapnaaPx11
import Derived.Test.YtmiapolhklapnaaPureNumOps
set_option linter.unusedVariables false
set_option linter.unusedSimpArgs false
namespace Go.Proofs.Ytmiapolhklapnaa.Pure
open Go Go.Own Go.RowKit Go.Proofs.Ytmiapolhklapnaa.P Go.Proofs.YtmiapolhklapnaaW.PrintWords Go.Proofs.YtmiapolhklapnaaW.PrintLast

theorem quo_eq {a b : Int} (ha : In64 a) (hb : In64 b) : num_Quo.f a b = spinneyref01_Quo.f a b := by
  unfold num_Quo.f spinneyref01_Quo.f
  split
  · rfl
  · split
    · rename_i h
      subst h
      rw [neg_fit ha]
      by_cases h : a = -9223372036854775808
      · subst h; rw [fit_out (by unfold In64; omega)]; simp
      · have hn : In64 (-a) := by unfold In64 at *; omega
        have : wrap64 (a.tdiv (-1)) = -a := by rw [Int.tdiv_neg, Int.tdiv_one]; exact wrap64_id hn
        rw [if_neg h, this, fit_in hn]
        rfl
    · simp_all
theorem rem_eq (a b : Int) : num_Rem.f a b = spinneyref01_Rem.f a b := rfl
theorem mod_eq {a b : Int} (ha : In64 a) (hb : In64 b) : num_Mod.f a b = spinneyref01_Mod.f a b := by
  unfold num_Mod.f spinneyref01_Mod.f
  rw [rem_eq]
  unfold spinneyref01_Rem.f
  by_cases h0 : b = 0
  · subst h0; simp
  · by_cases h1 : b = -1
    · subst h1; simp
    · simp only [h0, h1, if_false, Option.bind_some]
      have hr : In64 (a.tmod b) := by
        have h2 : (a.tmod b).natAbs = a.natAbs % b.natAbs := Int.natAbs_tmod ..
        have h3 := Nat.mod_lt a.natAbs (show b.natAbs > 0 by omega)
        unfold In64 at *
        omega
      have hx := xor_neg hr hb
      by_cases hs : (decide (a.tmod b < 0) != decide (b < 0)) = true
      · have : bits .xor .i64 (a.tmod b) b < 0 := hx.mpr (by simpa using hs)
        simp only [this, hs, if_true]
      · have : ¬ bits .xor .i64 (a.tmod b) b < 0 := fun h => hs (by simpa using hx.mp h)
        simp only [this, hs, if_false]
        simp

end Go.Proofs.Ytmiapolhklapnaa.Pure
