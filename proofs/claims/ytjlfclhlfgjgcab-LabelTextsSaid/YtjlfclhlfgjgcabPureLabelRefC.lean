/- How two places compare, by the reference. -/
import Derived.Test.YtjlfclhlfgjgcabPx5
import Derived.Test.YtjlfclhlfgjgcabPureLabel
set_option linter.unusedVariables false
set_option linter.unusedSimpArgs false
namespace Go.Proofs.Ytjlfclhlfgjgcab.Pure
open Go Go.Own Go.RowKit Go.Proofs.Ytjlfclhlfgjgcab.P Go.Proofs.YtjlfclhlfgjgcabW.PrintWords Go.Proofs.YtjlfclhlfgjgcabW.PrintLast

theorem rd_cons (x : Int) (l : List Int) : rd (x :: l) 0 = x := rfl
theorem ref_Compare_eq (a : List Int) : ∀ (b : List Int) (k : Nat), 2 * a.length + 2 ≤ k → spinneyref19_Compare.f k a b = some (cmpL a b) := by
  induction a with
  | nil =>
    intro b k hk
    obtain ⟨k, rfl⟩ : ∃ j, k = j + 1 + 1 := ⟨k - 2, by simp at hk; omega⟩
    unfold spinneyref19_Compare.f
    rw [if_pos (by simp)]
    unfold spinneyref19_Compare.j0
    cases b with
    | nil => rfl
    | cons y m =>
      rw [if_neg (by simp <;> omega), if_pos (by simp)]
      rfl
  | cons x l ih =>
    intro b k hk
    obtain ⟨k, rfl⟩ : ∃ j, k = j + 1 + 1 := ⟨k - 2, by simp at hk; omega⟩
    unfold spinneyref19_Compare.f
    have n0 : ¬ ((x :: l).length : Int) = 0 := by simp <;> omega
    have n1 : (0 : Int) < ((x :: l).length : Int) := by simp <;> omega
    have n2 : (1 : Int) ≤ ((x :: l).length : Int) := by simp <;> omega
    rw [if_neg n0]
    unfold spinneyref19_Compare.j0
    cases b with
    | nil =>
      rw [if_neg (by simp), if_neg n0, if_pos (by simp)]
      rfl
    | cons y m =>
      have m0 : ¬ ((y :: m).length : Int) = 0 := by simp <;> omega
      have m1 : (0 : Int) < ((y :: m).length : Int) := by simp <;> omega
      have m2 : (1 : Int) ≤ ((y :: m).length : Int) := by simp <;> omega
      rw [if_neg (by simp), if_neg n0, if_neg m0, if_pos n1, if_pos m1, rd_cons, rd_cons, if_pos n2, if_pos m2]
      rw [List.drop_one, List.drop_one, List.tail_cons, List.tail_cons, ih m k (by simp at hk; omega)]
      rw [show cmpL (x :: l) (y :: m) = if x < y then -1 else if x > y then 1 else cmpL l m from rfl]
      split
      · rfl
      · split
        · rfl
        · rfl

end Go.Proofs.Ytjlfclhlfgjgcab.Pure
