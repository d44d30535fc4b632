/- Plain words: places (lists of numbers), their common beginning. -- ONLYIF spinney/label.Compare -/
import Derived.WalkKit
set_option linter.unusedVariables false
set_option linter.unusedSimpArgs false
namespace Go.Own
/-- how many numbers two places have in common at their beginning -/
def partsL : List Int → List Int → Nat
  | x :: l, y :: m => if x = y then partsL l m + 1 else 0
  | _, _ => 0
theorem partsL_step (l0 l1 : List Int) (i : Nat) (h0 : i < l0.length) (h1 : i < l1.length) (he : l0[i] = l1[i]) : partsL (l0.drop i) (l1.drop i) = partsL (l0.drop (i + 1)) (l1.drop (i + 1)) + 1 := by
  rw [List.drop_eq_getElem_cons h0, List.drop_eq_getElem_cons h1, partsL, if_pos he]
theorem partsL_stop (l0 l1 : List Int) (i : Nat) (h0 : i < l0.length) (h1 : i < l1.length) (he : l0[i] ≠ l1[i]) : partsL (l0.drop i) (l1.drop i) = 0 := by
  rw [List.drop_eq_getElem_cons h0, List.drop_eq_getElem_cons h1, partsL, if_neg he]
theorem partsL_end (l0 l1 : List Int) (i : Nat) (h : l0.length ≤ i ∨ l1.length ≤ i) : partsL (l0.drop i) (l1.drop i) = 0 := by
  rcases h with h | h
  · rw [List.drop_eq_nil_of_le h]; cases l1.drop i <;> rfl
  · rw [List.drop_eq_nil_of_le h]; cases l0.drop i <;> rfl
end Go.Own
