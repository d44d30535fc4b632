/- The chapter's examples hold; a rune's class. -/
import Derived.Test.YtkniiinpkchjoaaDoorPx3
import Derived.Test.YtkniiinpkchjoaaDoorPx9
import Derived.Test.YtkniiinpkchjoaaDoorPx10
set_option linter.unusedVariables false
set_option linter.unusedSimpArgs false
namespace Go.Proofs.YtkniiinpkchjoaaDoor.Pure
open Go Go.Own Go.RowKit Go.Proofs.YtkniiinpkchjoaaDoor.P Go.Proofs.YtkniiinpkchjoaaDoorW.PrintWords Go.Proofs.YtkniiinpkchjoaaDoorW.PrintLast

theorem leO_up {α : Type} {f : Nat → Option α} (hm : ∀ k, LeO (f k) (f (k + 1))) {k k' : Nat} (h : k ≤ k') {r : α} (hr : f k = some r) : f k' = some r := by
  obtain ⟨d, rfl⟩ : ∃ d, k' = k + d := ⟨k' - k, by omega⟩
  clear h
  induction d with
  | zero => exact hr
  | succ d ih => exact hm _ _ ih
theorem live02 (k : Nat) (hk : 10 ≤ k) : spinneylaw02_live.f k = some true :=
  leO_up (f := fun k => spinneylaw02_live.f k) (fun k => spinneylaw02_live.mono k) hk (by decide +kernel)
theorem bt_drop {s : ByteArray} {i : Nat} (h : i < s.size) : s.data.toList.drop i = (s[i]'h) :: s.data.toList.drop (i + 1) := by
  have h' : i < s.data.toList.length := by rw [Array.length_toList]; exact h
  rw [List.drop_eq_getElem_cons h']
  rfl
theorem among_all (s : ByteArray) (hs : s.size ≤ 9223372036854775806) (c : Int) : ∀ (k i : Nat), i ≤ s.size → s.size < k + i → spinneyref02_among.l0 k c s i = some ((s.data.toList.drop i).any fun b => decide (c = (b.toNat : Int)))
  | 0, i, h1, h2 => by omega
  | k + 1, i, h1, h2 => by
    unfold spinneyref02_among.l0
    by_cases hi : i < s.size
    · have hb := bt_at s i (by simpa using hi)
      have hr := bt_range s i
      rw [if_pos (by omega), if_pos (by omega), bt_drop hi]
      have hw : wrap32 (bt s i) = ((s[i]'hi).toNat : Int) := by
        rw [← hb] at hr ⊢
        simp only [Int.toNat_natCast] at hr ⊢
        unfold wrap32
        omega
      rw [hw, List.any_cons]
      by_cases hc : c = ((s[i]'hi).toNat : Int)
      · rw [if_pos hc]; simp [hc]
      · rw [if_neg hc]
        have hw2 : wrap64 ((i : Int) + 1) = ((i + 1 : Nat) : Int) := by unfold wrap64; omega
        rw [hw2, among_all s hs c k (i + 1) (by omega) (by omega)]
        simp [hc]
    · rw [if_neg (by omega)]
      have : i = s.size := by omega
      subst this
      rw [List.drop_eq_nil_of_le (by rw [Array.length_toList]; exact Nat.le_refl _)]
      rfl
theorem among_f (s : ByteArray) (hs : s.size ≤ 9223372036854775806) (c : Int) (k : Nat) (h : s.size < k) : spinneyref02_among.f k c s = some (s.data.toList.any fun b => decide (c = (b.toNat : Int))) := by
  unfold spinneyref02_among.f
  exact among_all s hs c k 0 (by omega) (by omega)
theorem ref_class_in : ∀ c : Fin 128, spinneyref02_Class.f 30 ((c.val : Nat) : Int) = some (classN ((c.val : Nat) : Int)) := by decide +kernel
theorem classN_out (c : Int) (h : c < 0 ∨ 127 < c) : classN c = 0 := by
  unfold classN classN.c0 classN.c1 classN.c2 classN.c3 classN.c4 classN.c5
  repeat rw [if_neg (by omega)]
theorem ref_class_out (c : Int) (h : c < 0 ∨ 127 < c) : spinneyref02_Class.f 30 c = some 0 := by
  have a1 : spinneyref02_among.f 27 c (⟨#[43, 45, 42, 47, 92, 94, 60, 62, 61, 126, 58, 46, 63, 64, 35, 38, 36]⟩ : ByteArray) = some false := by
    rw [among_f _ (by decide) c _ (by decide)]
    simp
    omega
  have a2 : spinneyref02_among.f 26 c (⟨#[33, 59, 44, 124]⟩ : ByteArray) = some false := by
    rw [among_f _ (by decide) c _ (by decide)]
    simp
    omega
  have a3 : spinneyref02_among.f 26 c (⟨#[40, 41, 91, 93, 123, 125]⟩ : ByteArray) = some false := by
    rw [among_f _ (by decide) c _ (by decide)]
    simp
    omega
  have e0 : (decide (c ≤ 122) = true) → c < 0 := by simp; omega
  have x1 : ¬ c = 9 := by omega
  have x2 : ¬ c = 10 := by omega
  have x3 : ¬ c = 13 := by omega
  have x4 : (c == 32) = false := by simp; omega
  have x5 : ¬ c = 39 := by omega
  have x6 : (c == 95) = false := by simp; omega
  have j3 : spinneyref02_Class.j3 27 c false = some 0 := by
    unfold spinneyref02_Class.j3
    simp [a2, a3, x5]
  have j2 : spinneyref02_Class.j2 28 c false = some 0 := by
    unfold spinneyref02_Class.j2
    simp only [a1, Option.bind_some, x1, x2, x3, x4, j3, if_false, Bool.false_eq_true]
  have j1 : spinneyref02_Class.j1 29 c false = some 0 := by
    unfold spinneyref02_Class.j1
    rcases h with h | h
    · have : ¬ c ≥ 48 := by omega
      simp [this, j2]
    · have h1 : c ≥ 48 := by omega
      have h2 : decide (c ≤ 57) = false := by simp; omega
      simp only [h1, if_true, h2, j2, Bool.false_eq_true, if_false]
  have j0 : spinneyref02_Class.j0 30 c false = some 0 := by
    unfold spinneyref02_Class.j0
    rcases h with h | h
    · have : ¬ c ≥ 65 := by omega
      simp only [this, x6, j1, Bool.false_eq_true, if_false]
    · have h1 : c ≥ 65 := by omega
      have h2 : ¬ c ≤ 90 := by omega
      simp only [h1, if_true, h2, x6, j1, Bool.false_eq_true, if_false]
  unfold spinneyref02_Class.f
  rcases h with h | h
  · have : ¬ c ≥ 97 := by omega
    rw [if_neg this, j0]
  · have h1 : c ≥ 97 := by omega
    have h2 : decide (c ≤ 122) = false := by simp; omega
    rw [if_pos h1, h2, j0]
theorem ref_class (c : Int) (k : Nat) (hk : 30 ≤ k) : spinneyref02_Class.f k c = some (classN c) := by
  refine leO_up (f := fun k => spinneyref02_Class.f k c) (fun k => spinneyref02_Class.mono _ k) hk ?_
  by_cases h : 0 ≤ c ∧ c ≤ 127
  · have := ref_class_in ⟨c.toNat, by omega⟩
    have e : ((c.toNat : Nat) : Int) = c := by omega
    simp only [e] at this
    exact this
  · show spinneyref02_Class.f 30 c = _
    rw [ref_class_out c (by omega), classN_out c (by omega)]

end Go.Proofs.YtkniiinpkchjoaaDoor.Pure
