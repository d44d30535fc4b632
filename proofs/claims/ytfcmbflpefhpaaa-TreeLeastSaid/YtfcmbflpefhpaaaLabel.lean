/- Plain words: places, how they compare. -- ONLYIF spinney/label.Compare -/
import Derived.Test.YtfcmbflpefhpaaaParts
set_option linter.unusedVariables false
set_option linter.unusedSimpArgs false
namespace Go.Own
def cmpI (a b : Int) : Int := if a < b then -1 else if a > b then 1 else 0
def cmpL : List Int → List Int → Int
  | [], [] => 0
  | [], _ :: _ => -1
  | _ :: _, [] => 1
  | x :: l, y :: m => if x < y then -1 else if x > y then 1 else cmpL l m
def leftL : List Int → List Int → Bool
  | x :: l, y :: m => if x = y then leftL l m else decide (x < y)
  | _, _ => false
def underL (a top : List Int) : Bool := decide (partsL a top = top.length)
def prunedL (a by_ : List Int) (d : Int) : Bool := leftL by_ a && decide ((partsL a by_ : Int) ≥ min d (by_.length : Int))

theorem partsL_le (a b : List Int) : partsL a b ≤ a.length ∧ partsL a b ≤ b.length := by
  induction a generalizing b with
  | nil => cases b <;> simp [partsL]
  | cons x l ih =>
    cases b with
    | nil => simp [partsL]
    | cons y m =>
      unfold partsL
      split
      · have := ih m; simp; omega
      · simp
theorem partsL_comm (a b : List Int) : partsL a b = partsL b a := by
  induction a generalizing b with
  | nil => cases b <;> rfl
  | cons x l ih =>
    cases b with
    | nil => rfl
    | cons y m =>
      unfold partsL
      by_cases h : x = y
      · rw [if_pos h, if_pos h.symm, ih]
      · rw [if_neg h, if_neg (fun e => h e.symm)]
theorem cmp_parts (a b : List Int) : cmpL a b = if partsL a b < a.length ∧ partsL a b < b.length then cmpI (a.getD (partsL a b) 0) (b.getD (partsL a b) 0) else cmpI a.length b.length := by
  induction a generalizing b with
  | nil => cases b <;> simp [partsL, cmpL, cmpI] <;> omega
  | cons x l ih =>
    cases b with
    | nil => simp [partsL, cmpL, cmpI]; omega
    | cons y m =>
      unfold partsL cmpL
      by_cases h : x = y
      · subst h
        rw [if_neg (by omega), if_neg (by omega), if_pos rfl, ih]
        simp only [List.length_cons, List.getD_cons_succ]
        by_cases hc : partsL l m < l.length ∧ partsL l m < m.length
        · rw [if_pos hc, if_pos (by omega)]
        · rw [if_neg hc, if_neg (by omega)]
          unfold cmpI
          by_cases h1 : l.length < m.length
          · rw [if_pos (by omega), if_pos (by omega)]
          · by_cases h2 : l.length > m.length
            · rw [if_neg (by omega), if_pos (by omega), if_neg (by omega), if_pos (by omega)]
            · rw [if_neg (by omega), if_neg (by omega), if_neg (by omega), if_neg (by omega)]
      · rw [if_neg h]
        simp only [List.length_cons, List.getD_cons_zero]
        rw [if_pos (show 0 < l.length + 1 ∧ 0 < m.length + 1 by omega)]
        unfold cmpI
        by_cases h1 : x < y
        · rw [if_pos h1, if_pos h1]
        · have h2 : x > y := by omega
          rw [if_neg h1, if_neg h1, if_pos h2]
          simp [h2]
theorem left_parts (a b : List Int) : leftL a b = if partsL a b < a.length ∧ partsL a b < b.length then decide (a.getD (partsL a b) 0 < b.getD (partsL a b) 0) else false := by
  induction a generalizing b with
  | nil => cases b <;> simp [partsL, leftL]
  | cons x l ih =>
    cases b with
    | nil => simp [partsL, leftL]
    | cons y m =>
      unfold partsL leftL
      by_cases h : x = y
      · subst h
        rw [if_pos rfl, if_pos rfl, ih]
        simp only [List.length_cons, List.getD_cons_succ]
        by_cases hc : partsL l m < l.length ∧ partsL l m < m.length
        · rw [if_pos hc, if_pos (by omega)]
        · rw [if_neg hc, if_neg (by omega)]
      · rw [if_neg h, if_neg h]
        simp only [List.length_cons, List.getD_cons_zero]
        rw [if_pos (by omega)]

theorem cmp_vals (a b : List Int) : cmpL a b = -1 ∨ cmpL a b = 0 ∨ cmpL a b = 1 := by
  induction a generalizing b with
  | nil => cases b <;> simp [cmpL]
  | cons x l ih =>
    cases b with
    | nil => simp [cmpL]
    | cons y m =>
      unfold cmpL
      split
      · simp
      · split
        · simp
        · exact ih m
theorem cmp_anti (a b : List Int) : cmpL b a = -cmpL a b := by
  induction a generalizing b with
  | nil => cases b <;> simp [cmpL]
  | cons x l ih =>
    cases b with
    | nil => simp [cmpL]
    | cons y m =>
      unfold cmpL
      by_cases h1 : x < y
      · rw [if_pos h1, if_neg (by omega), if_pos (by omega)]; rfl
      · by_cases h2 : x > y
        · rw [if_pos (show y < x from h2), if_neg h1, if_pos h2]
        · rw [if_neg h1, if_neg h2, if_neg (show ¬ y < x from h2), if_neg (show ¬ y > x from h1), ih]
theorem cmp_eq (a b : List Int) : cmpL a b = 0 ↔ a = b := by
  induction a generalizing b with
  | nil => cases b <;> simp [cmpL]
  | cons x l ih =>
    cases b with
    | nil => simp [cmpL]
    | cons y m =>
      unfold cmpL
      by_cases h1 : x < y
      · rw [if_pos h1]; simp; omega
      · by_cases h2 : x > y
        · rw [if_neg h1, if_pos h2]; simp; omega
        · rw [if_neg h1, if_neg h2, ih]
          have : x = y := by omega
          simp [this]
theorem under_cons (x y : Int) (l m : List Int) : underL (x :: l) (y :: m) = (decide (x = y) && underL l m) := by
  have e : partsL (x :: l) (y :: m) = if x = y then partsL l m + 1 else 0 := rfl
  unfold underL
  rw [e]
  by_cases h : x = y
  · rw [if_pos h]; simp [h]
  · rw [if_neg h]; simp [h]
theorem under_nil (a : List Int) : underL a [] = true := by unfold underL; cases a <;> rfl
theorem nil_under (y : Int) (m : List Int) : underL [] (y :: m) = false := by unfold underL partsL; simp
/-- of two places just one of four holds -/
theorem four (a b : List Int) : (leftL a b = true ∧ leftL b a = false ∧ underL a b = false ∧ underL b a = false ∧ cmpL a b = -1) ∨ (leftL a b = false ∧ leftL b a = true ∧ underL a b = false ∧ underL b a = false ∧ cmpL a b = 1) ∨
    (leftL a b = false ∧ leftL b a = false ∧ underL a b = true ∧ underL b a = false ∧ cmpL a b = 1) ∨ (leftL a b = false ∧ leftL b a = false ∧ underL a b = false ∧ underL b a = true ∧ cmpL a b = -1) ∨ (leftL a b = false ∧ leftL b a = false ∧ underL a b = true ∧ underL b a = true ∧ cmpL a b = 0) := by
  induction a generalizing b with
  | nil => cases b <;> simp [leftL, cmpL, under_nil, nil_under]
  | cons x l ih =>
    cases b with
    | nil => simp [leftL, cmpL, under_nil, nil_under]
    | cons y m =>
      rw [under_cons, under_cons]
      unfold leftL cmpL
      by_cases h : x = y
      · subst h
        simpa using ih m
      · have h' : ¬ y = x := fun e => h e.symm
        rw [if_neg h, if_neg h']
        by_cases h1 : x < y
        · have h2 : ¬ y < x := by omega
          simp [h, h', h1, h2]
        · have h2 : y < x := by omega
          simp [h, h', h1, h2]
theorem left_under (a b c : List Int) : leftL a b = true → underL c b = true → leftL a c = true := by
  induction b generalizing a c with
  | nil => cases a <;> simp [leftL]
  | cons y m ih =>
    cases a with
    | nil => simp [leftL]
    | cons x l =>
      cases c with
      | nil => rw [nil_under]; simp
      | cons z n =>
        rw [under_cons]
        unfold leftL
        intro h1 h2
        simp only [Bool.and_eq_true, decide_eq_true_eq] at h2
        obtain ⟨rfl, h2⟩ := h2
        by_cases h : x = z
        · rw [if_pos h] at h1 ⊢; exact ih l n h1 h2
        · rw [if_neg h] at h1 ⊢; exact h1
theorem under_left (a b c : List Int) : leftL a b = true → underL c a = true → leftL c b = true := by
  induction a generalizing b c with
  | nil => cases b <;> simp [leftL]
  | cons y m ih =>
    cases b with
    | nil => simp [leftL]
    | cons x l =>
      cases c with
      | nil => rw [nil_under]; simp
      | cons z n =>
        rw [under_cons]
        unfold leftL
        intro h1 h2
        simp only [Bool.and_eq_true, decide_eq_true_eq] at h2
        obtain ⟨rfl, h2⟩ := h2
        by_cases h : z = x
        · rw [if_pos h] at h1 ⊢; exact ih l n h1 h2
        · rw [if_neg h] at h1 ⊢; exact h1
theorem cmp_trans (a b c : List Int) : cmpL a b ≤ 0 → cmpL b c ≤ 0 → cmpL a c ≤ 0 := by
  induction a generalizing b c with
  | nil => intro _ _; cases c <;> simp [cmpL]
  | cons x l ih =>
    cases b with
    | nil => simp [cmpL]
    | cons y m =>
      cases c with
      | nil => simp [cmpL]
      | cons z n =>
        unfold cmpL
        intro h1 h2
        by_cases a1 : x < z
        · rw [if_pos a1]; omega
        · rw [if_neg a1]
          by_cases a2 : x > z
          · exfalso
            split at h1
            · split at h2
              · omega
              · split at h2 <;> omega
            · split at h1
              · omega
              · split at h2
                · omega
                · split at h2 <;> omega
          · rw [if_neg a2]
            have : x = z := by omega
            subst this
            by_cases b1 : x < y
            · rw [if_neg (by omega), if_pos (by omega)] at h2; omega
            · by_cases b2 : x > y
              · rw [if_neg b1, if_pos b2] at h1; omega
              · rw [if_neg b1, if_neg b2] at h1
                rw [if_neg (by omega), if_neg (by omega)] at h2
                exact ih m n h1 h2
theorem under_snoc (a : List Int) (i : Int) : underL (a ++ [i]) a = true := by
  induction a with
  | nil => exact under_nil _
  | cons x l ih => rw [List.cons_append, under_cons]; simp [ih]
theorem cmp_snoc (a : List Int) (i : Int) : cmpL a (a ++ [i]) = -1 := by
  induction a with
  | nil => rfl
  | cons x l ih => rw [List.cons_append]; unfold cmpL; rw [if_neg (by omega), if_neg (by omega), ih]
theorem left_snoc (a : List Int) (i k : Int) : leftL (a ++ [i]) (a ++ [k]) = decide (i < k) := by
  induction a with
  | nil =>
    simp only [List.nil_append]
    unfold leftL
    by_cases h : i = k
    · rw [if_pos h]; simp [leftL, h]
    · rw [if_neg h]
  | cons x l ih => rw [List.cons_append, List.cons_append]; unfold leftL; rw [if_pos rfl, ih]
theorem left_irrefl (a : List Int) : leftL a a = false := by
  induction a with
  | nil => rfl
  | cons x l ih => unfold leftL; rw [if_pos rfl, ih]
theorem left_not_snoc (a : List Int) (i : Int) : leftL a (a ++ [i]) = false := by
  induction a with
  | nil => rfl
  | cons x l ih => rw [List.cons_append]; unfold leftL; rw [if_pos rfl, ih]
theorem left_snoc_r (b a : List Int) (i : Int) : leftL b a = true → leftL b (a ++ [i]) = true ∧ partsL (a ++ [i]) b = partsL a b := by
  induction b generalizing a with
  | nil => simp [leftL]
  | cons x l ih =>
    cases a with
    | nil => simp [leftL]
    | cons y m =>
      rw [List.cons_append]
      unfold leftL partsL
      by_cases h : x = y
      · subst h
        intro h1
        rw [if_pos rfl] at h1 ⊢
        have := ih m h1
        rw [if_pos rfl, if_pos rfl, this.2]
        exact ⟨this.1, rfl⟩
      · intro h1
        rw [if_neg h] at h1 ⊢
        rw [if_neg (fun e => h e.symm), if_neg (fun e => h e.symm)]
        exact ⟨h1, rfl⟩
end Go.Own
