/- Plain words: a number's text and back. -/ -- NOIMPORT
import Derived.Test.YtjlfclhlfgjgcabArr
import Derived.Test.YtjlfclhlfgjgcabScan
import Derived.Test.YtjlfclhlfgjgcabNumP
set_option linter.unusedVariables false
set_option linter.unusedSimpArgs false
namespace Go.Own
open Go Go.RowKit
theorem digs_size (m : Nat) (h : m ≤ 9223372036854775808) : (digs m).length ≤ 19 := digs_len 18 m (by omega)
/-- the number that digits tell, behind another one -/
def val (l : List UInt8) (n : Nat) : Nat := l.foldl (fun n c => 10 * n + (c.toNat - 48)) n
def digits (l : List UInt8) : Bool := l.all fun c => decide (48 ≤ c.toNat) && decide (c.toNat ≤ 57)
theorem val_ge (l : List UInt8) : ∀ n, n ≤ val l n := by
  induction l with
  | nil => intro n; exact Nat.le_refl _
  | cons c l ih => intro n; have := ih (10 * n + (c.toNat - 48)); unfold val at *; simp only [List.foldl_cons]; omega
theorem scan_far (l : List UInt8) : ∀ n, digits l = true → ∃ m, scan l n true = some (m, true) := by
  induction l with
  | nil => intro n _; exact ⟨n, rfl⟩
  | cons c l ih =>
    intro n h
    simp only [digits, List.all_cons, Bool.and_eq_true, decide_eq_true_eq] at h
    unfold scan
    rw [if_neg (by omega), if_neg (by omega)]
    exact ih _ h.2
theorem scan_no (l : List UInt8) : ∀ n far, digits l = false → scan l n far = none := by
  induction l with
  | nil => intro n far h; simp [digits] at h
  | cons c l ih =>
    intro n far h
    unfold scan
    split
    · rfl
    · split
      · rfl
      · apply ih
        simp only [digits, List.all_cons] at h ⊢
        have e : (decide (48 ≤ c.toNat) && decide (c.toNat ≤ 57)) = true := by simp; omega
        rw [e] at h
        simpa using h
theorem scan_val (l : List UInt8) : ∀ n : Nat, n ≤ 9223372036854775808 → digits l = true →
    (val l n ≤ 9223372036854775808 → scan l n false = some (((val l n : Nat) : Int), false)) ∧ (9223372036854775808 < val l n → ∃ m, scan l n false = some (m, true)) := by
  induction l with
  | nil => intro n hn _; exact ⟨fun _ => rfl, fun h => by unfold val at h; simp at h; omega⟩
  | cons c l ih =>
    intro n hn h
    simp only [digits, List.all_cons, Bool.and_eq_true, decide_eq_true_eq] at h
    have hv : val (c :: l) n = val l (10 * n + (c.toNat - 48)) := rfl
    have hc : ((c.toNat : Int) - 48) = ((c.toNat - 48 : Nat) : Int) := by omega
    have hscan : scan (c :: l) n false = scan l ((10 * (n : Int) + ((c.toNat : Int) - 48)) % 18446744073709551616) (false || decide ((n : Int) > (9223372036854775808 - ((c.toNat : Int) - 48)) / 10)) := by
      rw [scan, if_neg (by omega), if_neg (by omega)]
    rw [hv, hscan]
    by_cases hf : 10 * n + (c.toNat - 48) ≤ 9223372036854775808
    · have e1 : (10 * (n : Int) + ((c.toNat : Int) - 48)) % 18446744073709551616 = ((10 * n + (c.toNat - 48) : Nat) : Int) := by omega
      have e2 : (false || decide ((n : Int) > (9223372036854775808 - ((c.toNat : Int) - 48)) / 10)) = false := by simp; omega
      rw [e1, e2]
      exact ih _ hf h.2
    · have e2 : (false || decide ((n : Int) > (9223372036854775808 - ((c.toNat : Int) - 48)) / 10)) = true := by simp; omega
      rw [e2]
      have := val_ge l (10 * n + (c.toNat - 48))
      exact ⟨fun h => by omega, fun _ => scan_far l _ h.2⟩

theorem digits_digs (m : Nat) : digits (digs m) = true ∧ ∀ n, val (digs m) n = n * 10 ^ (digs m).length + m := by
  induction m using Nat.strongRecOn with
  | _ m ih =>
    rw [digs]
    split
    · rename_i h
      have e : (UInt8.ofNat (48 + m)).toNat = 48 + m := by rw [UInt8.toNat_ofNat']; omega
      refine ⟨by simp [digits, e]; omega, fun n => ?_⟩
      simp [val, e]
      omega
    · rename_i h
      obtain ⟨h1, h2⟩ := ih (m / 10) (by omega)
      have e : (UInt8.ofNat (48 + m % 10)).toNat = 48 + m % 10 := by rw [UInt8.toNat_ofNat']; omega
      refine ⟨?_, fun n => ?_⟩
      · unfold digits at *
        rw [List.all_append, h1]
        simp [e]
        omega
      · have hv : val (digs (m / 10) ++ [UInt8.ofNat (48 + m % 10)]) n = 10 * val (digs (m / 10)) n + (48 + m % 10 - 48) := by
          unfold val
          rw [List.foldl_append]
          simp only [List.foldl_cons, List.foldl_nil, e]
        rw [hv, h2, List.length_append, List.length_singleton, Nat.pow_succ]
        have : 10 * (n * 10 ^ (digs (m / 10)).length + m / 10) = n * (10 ^ (digs (m / 10)).length * 10) + 10 * (m / 10) := by
          rw [Nat.mul_add, Nat.mul_left_comm, Nat.mul_comm 10 (10 ^ _)]
        omega
/-- noughts ahead tell nothing -/
theorem val_noughts (j : Nat) (l : List UInt8) : val (List.replicate j 48 ++ l) 0 = val l 0 ∧ (digits l = true → digits (List.replicate j 48 ++ l) = true) := by
  induction j with
  | zero => simp
  | succ j ih =>
    rw [List.replicate_succ, List.cons_append]
    refine ⟨?_, fun h => ?_⟩
    · have : val (48 :: (List.replicate j 48 ++ l)) 0 = val (List.replicate j 48 ++ l) 0 := rfl
      rw [this, ih.1]
    · have := ih.2 h
      unfold digits at *
      rw [List.all_cons, this]
      decide
theorem readL_back {a : Int} (ha : In64 a) (j : Nat) (l : List UInt8) (hl : l = (if a < 0 then 45 :: (List.replicate j 48 ++ digs a.natAbs) else List.replicate j 48 ++ digs a.natAbs)) : readL l = (a, 0) := by
  have hne : List.replicate j 48 ++ digs a.natAbs ≠ [] := by
    have := digs_pos a.natAbs
    intro h
    rw [List.append_eq_nil_iff] at h
    rw [h.2] at this
    simp at this
  obtain ⟨h1, h2⟩ := digits_digs a.natAbs
  obtain ⟨h3, h4⟩ := val_noughts j (digs a.natAbs)
  have hv : val (List.replicate j 48 ++ digs a.natAbs) 0 = a.natAbs := by rw [h3, h2]; omega
  have hsc := (scan_val (List.replicate j 48 ++ digs a.natAbs) 0 (by omega) (h4 h1)).1
  rw [hv] at hsc
  unfold In64 at ha
  have hsc := hsc (by omega)
  have hz : scan (List.replicate j 48 ++ digs a.natAbs) ((0 : Nat) : Int) false = scan (List.replicate j 48 ++ digs a.natAbs) 0 false := rfl
  rw [hz] at hsc
  by_cases h : a < 0
  · rw [if_pos h] at hl
    subst hl
    unfold readL
    simp only [List.head?_cons, if_true, List.drop_succ_cons, List.drop_zero]
    rw [if_neg hne, hsc]
    simp
    unfold wrap64
    omega
  · rw [if_neg h] at hl
    subst hl
    have hh : ¬ ((List.replicate j 48 ++ digs a.natAbs).head? = some 45) := by
      intro hc
      have hd := h4 h1
      cases hL : List.replicate j 48 ++ digs a.natAbs with
      | nil => exact hne hL
      | cons c r =>
        rw [hL] at hc hd
        simp at hc
        subst hc
        simp [digits] at hd
    unfold readL
    rw [if_neg hh, if_neg hne, hsc]
    simp only [Bool.false_or]
    rw [if_neg (by simp; omega)]
    congr 1
    unfold wrap64
    omega

/-- two numbers of one text are one -/
theorem textB_inj {a b : Int} (ha : In64 a) (hb : In64 b) (h : textB a = textB b) : a = b := by
  have h1 := readL_back ha 0 (textB a) (by simp [textB])
  have h2 := readL_back hb 0 (textB b) (by simp [textB])
  rw [h, h2] at h1
  exact (Prod.mk.inj h1).1.symm
theorem textB_dot (a : Int) : (46 : UInt8) ∉ textB a := by
  have h := (digits_digs a.natAbs).1
  intro hm
  have hd : (46 : UInt8) ∈ digs a.natAbs := by
    unfold textB at hm
    split at hm
    · rcases List.mem_cons.1 hm with h0 | h0
      · exact absurd h0 (by decide)
      · exact h0
    · exact hm
  unfold digits at h
  have := List.all_eq_true.1 h 46 hd
  simp at this
theorem textB_ne (a : Int) : textB a ≠ [] ∧ textB a ≠ [45] := by
  have h := digs_pos a.natAbs
  have hd := (digits_digs a.natAbs).1
  unfold textB
  split
  · refine ⟨by simp, fun e => ?_⟩
    injection e with _ e
    rw [e] at h
    simp at h
  · refine ⟨fun e => by rw [e] at h; simp at h, fun e => ?_⟩
    rw [e] at hd
    simp [digits] at hd
/-- what stands ahead of a sign is told by it -/
theorem split_inj {c : UInt8} {x y r s : List UInt8} (hx : c ∉ x) (hy : c ∉ y) (hr : r = [] ∨ ∃ t, r = c :: t) (hs : s = [] ∨ ∃ t, s = c :: t) (h : x ++ r = y ++ s) : x = y ∧ r = s := by
  induction x generalizing y with
  | nil =>
    cases y with
    | nil => exact ⟨rfl, h⟩
    | cons b y =>
      simp only [List.nil_append, List.cons_append] at h
      rcases hr with rfl | ⟨t, rfl⟩
      · cases h
      · injection h with h1 _
        subst h1
        exact absurd List.mem_cons_self hy
  | cons a x ih =>
    cases y with
    | nil =>
      simp only [List.nil_append, List.cons_append] at h
      rcases hs with rfl | ⟨t, rfl⟩
      · cases h
      · injection h with h1 _
        subst h1
        exact absurd List.mem_cons_self hx
    | cons b y =>
      simp only [List.cons_append] at h
      injection h with h1 h2
      subst h1
      obtain ⟨e1, e2⟩ := ih (fun hm => hx (List.mem_cons_of_mem _ hm)) (fun hm => hy (List.mem_cons_of_mem _ hm)) h2
      exact ⟨by rw [e1], e2⟩
end Go.Own
