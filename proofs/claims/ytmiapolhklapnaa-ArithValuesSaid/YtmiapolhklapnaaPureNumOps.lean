/- Checked 64-bit arithmetic of the program, in plain numbers. -/
import Derived.Test.YtmiapolhklapnaaPx2
set_option linter.unusedVariables false
set_option linter.unusedSimpArgs false
namespace Go.Proofs.Ytmiapolhklapnaa.Pure
open Go Go.Own Go.RowKit Go.Proofs.Ytmiapolhklapnaa.P Go.Proofs.YtmiapolhklapnaaW.PrintWords Go.Proofs.YtmiapolhklapnaaW.PrintLast

theorem over_fit (n : Int) : num_over.f (wrap64 n) (decide (¬ In64 n)) = some (fit n) := by
  unfold num_over.f fit
  by_cases h : In64 n
  · simp [h, wrap64_id h]
  · simp [h]
theorem add_fit {a b : Int} (ha : In64 a) (hb : In64 b) : num_Add.f a b = some (fit (a + b)) := by
  unfold num_Add.f
  rw [add_flag ha hb, over_fit]
  rfl
theorem sub_fit {a b : Int} (ha : In64 a) (hb : In64 b) : num_Sub.f a b = some (fit (a - b)) := by
  unfold num_Sub.f
  rw [sub_flag ha hb, over_fit]
  rfl
theorem size_abs {a : Int} (ha : In64 a) : num_size.f a = some (a.natAbs : Int) := by
  unfold num_size.f
  unfold In64 at ha
  split
  · congr 1
    rw [IntKind.wrap_u64, IntKind.wrap_u64]
    omega
  · congr 1
    rw [IntKind.wrap_u64]
    omega
theorem mul64_eq {a b : Int} (ha : 0 ≤ a) (ha1 : a < 18446744073709551616) (hb : 0 ≤ b) (hb1 : b < 18446744073709551616) :
    bits_Mul64.f a b = some (a * b / 18446744073709551616, a * b % 18446744073709551616) := by
  unfold bits_Mul64.f
  rw [mul64_parts ha ha1 hb hb1, IntKind.wrap_u64]
theorem abs_mul_cases (a b : Int) : (a * b < 0 → (decide (a < 0) != decide (b < 0)) = true) ∧ ((decide (a < 0) != decide (b < 0)) = true → a * b ≤ 0) ∧ ((a.natAbs : Int) * (b.natAbs : Int) = a * b ∨ (a.natAbs : Int) * (b.natAbs : Int) = -(a * b)) := by
  refine ⟨?_, ?_, ?_⟩
  · intro h
    by_cases h1 : a < 0 <;> by_cases h2 : b < 0 <;> simp [h1, h2]
    · have := Int.mul_nonneg_of_nonpos_of_nonpos (Int.le_of_lt h1) (Int.le_of_lt h2); omega
    · have := Int.mul_nonneg (Int.not_lt.mp h1) (Int.not_lt.mp h2); omega
  · intro h
    by_cases h1 : a < 0 <;> by_cases h2 : b < 0 <;> simp [h1, h2] at h
    · exact Int.mul_nonpos_of_nonpos_of_nonneg (Int.le_of_lt h1) (Int.not_lt.mp h2)
    · exact Int.mul_nonpos_of_nonneg_of_nonpos (Int.not_lt.mp h1) (Int.le_of_lt h2)
  · rw [← Int.natCast_mul, ← Int.natAbs_mul]
    omega
theorem mul_fit {a b : Int} (ha : In64 a) (hb : In64 b) : num_Mul.f a b = some (fit (a * b)) := by
  unfold num_Mul.f
  obtain ⟨c1, c2, c3⟩ := abs_mul_cases a b
  have ha1 := ha
  have hb1 := hb
  unfold In64 at ha1 hb1
  rw [size_abs ha, size_abs hb]
  simp only [Option.bind_some]
  rw [mul64_eq (by omega) (by omega) (by omega) (by omega)]
  simp only [Option.bind_some]
  have hP0 : 0 ≤ (a.natAbs : Int) * (b.natAbs : Int) := by rw [← Int.natCast_mul]; omega
  generalize (a.natAbs : Int) * (b.natAbs : Int) = P at *
  have key : ∀ f : Bool, f = decide (¬ In64 (a * b)) → (num_over.f (wrap64 (a * b)) f).bind (fun bt => some (bt.1, bt.2)) = some (fit (a * b)) := by
    intro f hf
    subst hf
    rw [over_fit]
    rfl
  split
  · rename_i hs
    have := c2 hs
    split
    · apply key
      symm
      apply decide_eq_true
      unfold In64
      omega
    · apply key
      rw [decide_eq_decide]
      unfold In64
      omega
  · rename_i hs
    have : ¬ a * b < 0 := fun h => hs (c1 h)
    split
    · apply key
      symm
      apply decide_eq_true
      unfold In64
      omega
    · apply key
      rw [decide_eq_decide]
      unfold In64
      omega
theorem neg_fit {a : Int} (ha : In64 a) : num_Neg.f a = some (fit (-a)) := by
  unfold num_Neg.f
  have : (a == (-9223372036854775808)) = decide (¬ In64 (-a)) := by
    rw [Bool.eq_iff_iff]
    simp
    unfold In64 at *
    omega
  rw [this, over_fit]
  rfl

end Go.Proofs.Ytmiapolhklapnaa.Pure
