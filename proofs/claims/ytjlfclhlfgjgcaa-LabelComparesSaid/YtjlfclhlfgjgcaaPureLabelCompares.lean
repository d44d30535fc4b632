/- How any two places compare, and what any cut prunes, as the document says. No condition but the statement's own. -/
import Derived.Test.YtjlfclhlfgjgcaaPx1
import Derived.Test.YtjlfclhlfgjgcaaPx6
import Derived.Test.YtjlfclhlfgjgcaaPx7
import Derived.Test.YtjlfclhlfgjgcaaPx8
import Derived.Test.YtjlfclhlfgjgcaaPureLabel
set_option linter.unusedVariables false
set_option linter.unusedSimpArgs false
namespace Go.Proofs.Ytjlfclhlfgjgcaa.Pure
open Go Go.Own Go.RowKit Go.Proofs.Ytjlfclhlfgjgcaa.P Go.Proofs.YtjlfclhlfgjgcaaW.PrintWords Go.Proofs.YtjlfclhlfgjgcaaW.PrintLast

theorem rd_cons (x : Int) (l : List Int) : rd (x :: l) 0 = x := rfl
theorem ref_Compare_eq (a : List Int) : ∀ (b : List Int) (k : Nat), 2 * a.length + 2 ≤ k → spinneyref19_Compare.f k a b = some (cmpL a b) := by
  induction a with
  | nil =>
    intro b k hk
    obtain ⟨k, rfl⟩ : ∃ j, k = j + 1 + 1 := ⟨k - 2, by simp at hk; omega⟩
    unfold spinneyref19_Compare.f
    rw [if_pos (by simp)]
    unfold spinneyref19_Compare.j0
    cases b with
    | nil => rfl
    | cons y m =>
      rw [if_neg (by simp <;> omega), if_pos (by simp)]
      rfl
  | cons x l ih =>
    intro b k hk
    obtain ⟨k, rfl⟩ : ∃ j, k = j + 1 + 1 := ⟨k - 2, by simp at hk; omega⟩
    unfold spinneyref19_Compare.f
    have n0 : ¬ ((x :: l).length : Int) = 0 := by simp <;> omega
    have n1 : (0 : Int) < ((x :: l).length : Int) := by simp <;> omega
    have n2 : (1 : Int) ≤ ((x :: l).length : Int) := by simp <;> omega
    rw [if_neg n0]
    unfold spinneyref19_Compare.j0
    cases b with
    | nil =>
      rw [if_neg (by simp), if_neg n0, if_pos (by simp)]
      rfl
    | cons y m =>
      have m0 : ¬ ((y :: m).length : Int) = 0 := by simp <;> omega
      have m1 : (0 : Int) < ((y :: m).length : Int) := by simp <;> omega
      have m2 : (1 : Int) ≤ ((y :: m).length : Int) := by simp <;> omega
      rw [if_neg (by simp), if_neg n0, if_neg m0, if_pos n1, if_pos m1, rd_cons, rd_cons, if_pos n2, if_pos m2]
      rw [List.drop_one, List.drop_one, List.tail_cons, List.tail_cons, ih m k (by simp at hk; omega)]
      rw [show cmpL (x :: l) (y :: m) = if x < y then -1 else if x > y then 1 else cmpL l m from rfl]
      split
      · rfl
      · split
        · rfl
        · rfl
theorem ref_Under_eq (a : List Int) : ∀ (b : List Int) (k : Nat), a.length + 1 ≤ k → spinneyref19_Under.f k a b = some (underL a b) := by
  induction a with
  | nil =>
    intro b k hk
    obtain ⟨k, rfl⟩ : ∃ j, k = j + 1 := ⟨k - 1, by simp at hk; omega⟩
    unfold spinneyref19_Under.f
    cases b with
    | nil => rw [under_nil]; rfl
    | cons y m =>
      rw [nil_under, if_neg (by simp <;> omega), if_neg (by simp)]
  | cons x l ih =>
    intro b k hk
    obtain ⟨k, rfl⟩ : ∃ j, k = j + 1 := ⟨k - 1, by simp at hk; omega⟩
    unfold spinneyref19_Under.f
    cases b with
    | nil => rw [under_nil]; rfl
    | cons y m =>
      have n1 : (0 : Int) < ((x :: l).length : Int) := by simp <;> omega
      have n2 : (1 : Int) ≤ ((x :: l).length : Int) := by simp <;> omega
      have m0 : ¬ ((y :: m).length : Int) = 0 := by simp <;> omega
      have m1 : (0 : Int) < ((y :: m).length : Int) := by simp <;> omega
      have m2 : (1 : Int) ≤ ((y :: m).length : Int) := by simp <;> omega
      rw [if_neg m0, if_pos (show ((x :: l).length : Int) > 0 from n1), if_pos n1, if_pos m1, rd_cons, rd_cons, if_pos n2, if_pos m2]
      rw [List.drop_one, List.drop_one, List.tail_cons, List.tail_cons, ih m k (by simp at hk; omega), under_cons]
      split
      · rename_i h; simp [h]
      · rename_i h; simp [h]
theorem ref_Left_eq (a : List Int) : ∀ (b : List Int) (k : Nat), 2 * a.length + 2 ≤ k → spinneyref19_Left.f k a b = some (leftL a b) := by
  induction a with
  | nil =>
    intro b k hk
    obtain ⟨k, rfl⟩ : ∃ j, k = j + 1 + 1 := ⟨k - 2, by simp at hk; omega⟩
    unfold spinneyref19_Left.f
    rw [if_pos (by simp)]
    unfold spinneyref19_Left.j0
    rfl
  | cons x l ih =>
    intro b k hk
    obtain ⟨k, rfl⟩ : ∃ j, k = j + 1 + 1 := ⟨k - 2, by simp at hk; omega⟩
    unfold spinneyref19_Left.f
    have n0 : ¬ ((x :: l).length : Int) = 0 := by simp <;> omega
    have n1 : (0 : Int) < ((x :: l).length : Int) := by simp <;> omega
    have n2 : (1 : Int) ≤ ((x :: l).length : Int) := by simp <;> omega
    rw [if_neg n0]
    unfold spinneyref19_Left.j0
    cases b with
    | nil => rfl
    | cons y m =>
      have m1 : (0 : Int) < ((y :: m).length : Int) := by simp <;> omega
      have m2 : (1 : Int) ≤ ((y :: m).length : Int) := by simp <;> omega
      rw [if_neg (by simp <;> omega), if_pos n1, if_pos m1, rd_cons, rd_cons, if_pos n2, if_pos m2]
      rw [List.drop_one, List.drop_one, List.tail_cons, List.tail_cons, ih m k (by simp at hk; omega)]
      rw [show leftL (x :: l) (y :: m) = if x = y then leftL l m else decide (x < y) from rfl]
      split
      · rfl
      · rfl
theorem parts_take (a b : List Int) : ∀ n : Nat, underL a (b.take n) = decide (min n b.length ≤ partsL a b) := by
  induction a generalizing b with
  | nil =>
    intro n
    cases b with
    | nil => simp [under_nil]
    | cons y m =>
      cases n with
      | zero => simp [under_nil]
      | succ n => rw [List.take_succ_cons, nil_under]; simp [partsL] <;> omega
  | cons x l ih =>
    intro n
    cases b with
    | nil => simp [under_nil]
    | cons y m =>
      cases n with
      | zero => simp [under_nil]
      | succ n =>
        rw [List.take_succ_cons, under_cons, ih m n]
        rw [show partsL (x :: l) (y :: m) = if x = y then partsL l m + 1 else 0 from rfl]
        by_cases h : x = y
        · rw [if_pos h]; simp only [h, decide_true, Bool.true_and, List.length_cons]; rw [decide_eq_decide]; omega
        · rw [if_neg h]; simp only [h, decide_false, Bool.false_and, List.length_cons]; symm; rw [decide_eq_false_iff_not]; omega
theorem ref_Pruned_eq (a b : List Int) (d : Int) (k : Nat) (hk : 2 * a.length + 2 * b.length + 2 ≤ k) : spinneyref19_Pruned.f k a b d = some (prunedL a b d) := by
  unfold spinneyref19_Pruned.f
  have e : mn (mx d 0) (b.length : Int) = ((min d.toNat b.length : Nat) : Int) := by unfold mn mx; omega
  rw [e, if_pos (by omega), if_pos (by omega), Int.toNat_natCast, ref_Under_eq a _ k (by omega), ref_Left_eq b a k (by omega), parts_take]
  unfold prunedL
  simp only [Option.bind_some]
  have e2 : decide (min (min d.toNat b.length) b.length ≤ partsL a b) = decide ((partsL a b : Int) ≥ min d (b.length : Int)) := by rw [decide_eq_decide]; omega
  rw [e2]
  by_cases h : (partsL a b : Int) ≥ min d (b.length : Int)
  · simp [h]
  · simp [h]
theorem LabelCompares : spinneylaw19_LabelCompares.Pure := by
  intro a b d _ _ _ _ _ _ _
  refine ⟨2 * a.length + 2 * b.length + 9 + 1, ?_⟩
  unfold spinneylaw19_LabelCompares.f
  rw [live19 _ (by omega), big_eq [a, b] (by simp) _ (by simp <;> omega)]
  simp only [Option.bind_some]
  split
  · rfl
  · rw [label_Compare_eq, ref_Compare_eq a b _ (by omega), ref_Under_eq a b _ (by omega), ref_Left_eq a b _ (by omega), ref_Pruned_eq a b d _ (by omega)]
    simp only [Option.bind_some, label_Under_eq, label_Left_eq, label_Pruned_eq]
    simp

end Go.Proofs.Ytjlfclhlfgjgcaa.Pure
