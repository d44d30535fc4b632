/- Checked 64-bit arithmetic of the reference: signs. -/
import Derived.Test.YtmiapolhklapnaaPx2
import Derived.Test.YtmiapolhklapnaaPx8
import Derived.Test.YtmiapolhklapnaaPx9
import Derived.Test.YtmiapolhklapnaaPureNumOps
set_option linter.unusedVariables false
set_option linter.unusedSimpArgs false
namespace Go.Proofs.Ytmiapolhklapnaa.Pure
open Go Go.Own Go.RowKit Go.Proofs.Ytmiapolhklapnaa.P Go.Proofs.YtmiapolhklapnaaW.PrintWords Go.Proofs.YtmiapolhklapnaaW.PrintLast

theorem refsub_fit {a b : Int} (ha : In64 a) (hb : In64 b) : spinneyref01_Sub.f a b = some (fit (a - b)) := by
  unfold spinneyref01_Sub.f
  have h : wrap64 (a - b) = a - b ∨ ¬ In64 (a - b) := by
    by_cases h : In64 (a - b)
    · exact .inl (wrap64_id h)
    · exact .inr h
  have w1 : b < 0 → wrap64 (9223372036854775807 + b) = 9223372036854775807 + b := fun h => wrap64_id (by unfold In64 at *; omega)
  have w2 : b > 0 → wrap64 ((-9223372036854775808) + b) = (-9223372036854775808) + b := fun h => wrap64_id (by unfold In64 at *; omega)
  by_cases hi : In64 (a - b)
  · rw [fit_in hi, wrap64_id hi]
    unfold In64 at *
    repeat' split
    all_goals first | rfl | (exfalso; first | (have := w1 (by assumption); omega) | (have := w2 (by assumption); omega))
  · rw [fit_out hi]
    unfold In64 at *
    repeat' split
    all_goals first | rfl | (exfalso; first | omega | (have := w1 (by assumption); omega) | (have := w2 (by assumption); omega))
theorem refneg_fit {a : Int} (ha : In64 a) : spinneyref01_Neg.f a = some (fit (-a)) := by
  unfold spinneyref01_Neg.f
  rw [refsub_fit (by unfold In64; omega) ha]
  simp
theorem abs_fit {a : Int} (ha : In64 a) : num_Abs.f a = some (if a < 0 then fit (-a) else (a, 0)) := by
  unfold num_Abs.f
  rw [neg_fit ha]
  split <;> rfl
theorem refabs_fit {a : Int} (ha : In64 a) : spinneyref01_Abs.f a = some (if a < 0 then fit (-a) else (a, 0)) := by
  unfold spinneyref01_Abs.f
  rw [refneg_fit ha]
  by_cases h : a < 0
  · rw [if_neg (by omega), if_pos h]; rfl
  · rw [if_pos (by omega), if_neg h]
theorem refcmp_eq (a b : Int) : spinneyref01_Cmp.f a b = some (if a < b then -1 else if a > b then 1 else 0) := by
  unfold spinneyref01_Cmp.f
  split
  · rfl
  · split <;> rfl
theorem refsign_eq (a : Int) : spinneyref01_Sign.f a = some (if a < 0 then -1 else if a > 0 then 1 else 0) := by
  unfold spinneyref01_Sign.f
  rw [refcmp_eq]
  rfl

end Go.Proofs.Ytmiapolhklapnaa.Pure
