/- Two places have the same text, just if they are the same. No condition but the statement's own. -/
import Derived.Test.YtjlfclhlfgjgcabPx6
import Derived.Test.YtjlfclhlfgjgcabPureLabel
import Derived.Test.YtjlfclhlfgjgcabText
set_option linter.unusedVariables false
set_option linter.unusedSimpArgs false
namespace Go.Proofs.Ytjlfclhlfgjgcab.Pure
open Go Go.Own Go.RowKit Go.Proofs.Ytjlfclhlfgjgcab.P Go.Proofs.YtjlfclhlfgjgcabW.PrintWords Go.Proofs.YtjlfclhlfgjgcabW.PrintLast

theorem join_cons (x : List UInt8) (m : List (List UInt8)) : Lib.join (x :: m) [46] = x ++ (if m = [] then [] else 46 :: Lib.join m [46]) := by
  unfold Lib.join
  cases m with
  | nil => simp [List.intercalate, List.intersperse]
  | cons y n => simp [List.intercalate, List.intersperse]
theorem tail_form (m : List (List UInt8)) : (if m = [] then ([] : List UInt8) else 46 :: Lib.join m [46]) = [] ∨ ∃ t, (if m = [] then ([] : List UInt8) else 46 :: Lib.join m [46]) = 46 :: t := by
  split
  · exact .inl rfl
  · exact .inr ⟨_, rfl⟩
theorem join_inj (a : List Int) : ∀ (b : List Int), (∀ x ∈ a, In64 x) → (∀ x ∈ b, In64 x) → a ≠ [] → b ≠ [] → Lib.join (a.map textB) [46] = Lib.join (b.map textB) [46] → a = b := by
  induction a with
  | nil => intro b _ _ h; exact absurd rfl h
  | cons x l ih =>
    intro b ha hb _ hne h
    cases b with
    | nil => exact absurd rfl hne
    | cons y m =>
      rw [List.map_cons, List.map_cons, join_cons, join_cons] at h
      obtain ⟨e1, e2⟩ := split_inj (textB_dot x) (textB_dot y) (tail_form _) (tail_form _) h
      have exy := textB_inj (ha x List.mem_cons_self) (hb y List.mem_cons_self) e1
      subst exy
      congr 1
      by_cases h1 : l = []
      · subst h1
        by_cases h2 : m = []
        · exact h2.symm
        · rw [List.map_nil, if_pos rfl, if_neg (by simpa using h2)] at e2
          cases e2
      · by_cases h2 : m = []
        · subst h2
          rw [List.map_nil, if_pos rfl, if_neg (by simpa using h1)] at e2
          cases e2
        · rw [if_neg (by simpa using h1), if_neg (by simpa using h2)] at e2
          injection e2 with _ e2
          exact ih m (fun z hz => ha z (List.mem_cons_of_mem _ hz)) (fun z hz => hb z (List.mem_cons_of_mem _ hz)) h1 h2 e2
theorem join_ne_minus (x : Int) (l : List Int) : Lib.join ((x :: l).map textB) [46] ≠ [45] := by
  rw [List.map_cons, join_cons]
  intro h
  have hx := textB_ne x
  cases e : textB x with
  | nil => exact hx.1 e
  | cons c r =>
    rw [e] at h
    rw [List.cons_append] at h
    injection h with h1 h2
    rw [List.append_eq_nil_iff] at h2
    exact hx.2 (by rw [e, h1, h2.1])
theorem dots_inj {a b : List Int} (ha : ∀ x ∈ a, In64 x) (hb : ∀ x ∈ b, In64 x) (h : dotsL a = dotsL b) : a = b := by
  unfold dotsL at h
  cases a with
  | nil =>
    cases b with
    | nil => rfl
    | cons y m =>
      rw [if_pos rfl, if_neg (by simp)] at h
      exact absurd h.symm (join_ne_minus y m)
  | cons x l =>
    cases b with
    | nil =>
      rw [if_neg (by simp), if_pos rfl] at h
      exact absurd h (join_ne_minus x l)
    | cons y m =>
      rw [if_neg (by simp), if_neg (by simp)] at h
      exact join_inj _ _ ha hb (by simp) (by simp) h
theorem LabelTold : spinneylaw19_LabelTold.Pure := by
  intro a b _ _ ha _ _ hb
  refine ⟨2001, ?_⟩
  unfold spinneylaw19_LabelTold.f
  rw [live19 2001 (by omega), big_eq [a, b] (by simp) 2001 (by simp)]
  simp only [Option.bind_some]
  split
  · rfl
  · rename_i hbig
    have hl : a.length ≤ 2000 ∧ b.length ≤ 2000 := by simpa [Nat.not_lt] using hbig
    rw [label_Text_eq a hl.1 ha 2001 (by omega), label_Text_eq b hl.2 hb 2001 (by omega), label_Compare_eq 2000]
    simp only [if_true, Option.bind_some, ByteArray.toList_eq]
    congr 1
    rw [beq_iff_eq, Bool.eq_iff_iff, beq_iff_eq, beq_iff_eq, cmp_eq]
    exact ⟨fun h => dots_inj (fun x hx => in64_of_wf (ha x hx)) (fun x hx => in64_of_wf (hb x hx)) h, fun h => by rw [h]⟩

end Go.Proofs.Ytjlfclhlfgjgcab.Pure
