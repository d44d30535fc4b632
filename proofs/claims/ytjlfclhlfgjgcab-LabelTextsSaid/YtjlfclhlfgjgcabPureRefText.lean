/- A number's text, by the reference. -/
import Derived.Test.YtjlfclhlfgjgcabPx6
import Derived.Test.YtjlfclhlfgjgcabText
set_option linter.unusedVariables false
set_option linter.unusedSimpArgs false
namespace Go.Proofs.Ytjlfclhlfgjgcab.Pure
open Go Go.Own Go.RowKit Go.Proofs.Ytjlfclhlfgjgcab.P Go.Proofs.YtjlfclhlfgjgcabW.PrintWords Go.Proofs.YtjlfclhlfgjgcabW.PrintLast

/-- the reference's digits, of a number that is not above 0 -/
theorem refdigits (n : Nat) : ∀ (m : Nat), m < 10 ^ (n + 1) → m ≤ 9223372036854775808 → ∀ k, n < k → spinneyref01_digits.f k (-(m : Int)) = some ⟨(digs m).toArray⟩ := by
  induction n with
  | zero =>
    intro m hm h63 k hk
    obtain ⟨k, rfl⟩ : ∃ j, k = j + 1 := ⟨k - 1, by omega⟩
    have h10 : m < 10 := by simpa using hm
    have e : (-(m : Int)).tmod 10 = -(m : Int) := by rw [Int.neg_tmod]; congr 1; exact Int.tmod_eq_of_lt (by omega) (by omega)
    simp only [spinneyref01_digits.f, e, Option.bind_some]
    rw [if_pos (by omega), digs, if_pos h10]
    have e2 : wrap64 (48 - -(m : Int)) = 48 + m := by unfold wrap64; omega
    have h256 : ((48 : Int) + (m : Int)) % 256 = ((48 + m : Nat) : Int) := by omega
    rw [e2, h256]
    simp only [strOfNums, List.map_cons, List.map_nil, Int.toNat_natCast]
  | succ n ih =>
    intro m hm h63 k hk
    obtain ⟨k, rfl⟩ : ∃ j, k = j + 1 := ⟨k - 1, by omega⟩
    have e : (-(m : Int)).tmod 10 = -((m % 10 : Nat) : Int) := by
      rw [Int.neg_tmod]; congr 1
    have e2 : wrap64 (48 - -((m % 10 : Nat) : Int)) = 48 + (m % 10 : Nat) := by unfold wrap64; omega
    simp only [spinneyref01_digits.f, e, e2, Option.bind_some]
    have es : strOfNums [(48 + ((m % 10 : Nat) : Int)) % 256] = ⟨[UInt8.ofNat (48 + m % 10)].toArray⟩ := by
      have h256 : ((48 : Int) + ((m % 10 : Nat) : Int)) % 256 = ((48 + m % 10 : Nat) : Int) := by omega
      rw [h256]
      simp only [strOfNums, List.map_cons, List.map_nil, Int.toNat_natCast]
    rw [es]
    by_cases h10 : m < 10
    · rw [if_pos (by omega), digs, if_pos h10]
      have : m % 10 = m := by omega
      rw [this]
    · rw [if_neg (by omega)]
      have e3 : wrap64 ((-(m : Int)).tdiv 10) = -((m / 10 : Nat) : Int) := by
        rw [Int.neg_tdiv, Int.tdiv_eq_ediv_of_nonneg (by omega)]
        unfold wrap64; omega
      rw [e3, ih (m / 10) (by rw [Nat.pow_succ] at hm; omega) (by omega) k (by omega)]
      simp only [Option.bind_some]
      have hl := digs_size (m / 10) (by omega)
      rw [if_pos (by simp [ByteArray.size]; omega)]
      rw [digs.eq_def m, if_neg h10]
      congr 1
theorem reftext {a : Int} (ha : In64 a) (k : Nat) : spinneyref01_Text.f (k + 19) a = some ⟨(textB a).toArray⟩ := by
  unfold spinneyref01_Text.f textB
  unfold In64 at ha
  by_cases h : a < 0
  · rw [if_pos h, if_pos h]
    have e : a = -((a.natAbs : Nat) : Int) := by omega
    have := refdigits 18 a.natAbs (by omega) (by omega) (k + 19) (by omega)
    rw [← e] at this
    rw [this]
    simp only [Option.bind_some]
    have hl := digs_size a.natAbs (by omega)
    rw [if_pos (by simp [ByteArray.size]; omega)]
    congr 1
  · rw [if_neg h, if_neg h]
    have e : wrap64 (-a) = -((a.natAbs : Nat) : Int) := by unfold wrap64; omega
    rw [e, refdigits 18 a.natAbs (by omega) (by omega) (k + 19) (by omega)]
    rfl


end Go.Proofs.Ytjlfclhlfgjgcab.Pure
