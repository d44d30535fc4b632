/- Places: what the program's functions come to, in plain lists. -/
import Derived.Test.YtjlfclhlfgjgcabPx1
import Derived.Test.YtjlfclhlfgjgcabPx2
import Derived.Test.YtjlfclhlfgjgcabPx3
import Derived.Laws.NewBlocks
set_option linter.unusedVariables false
set_option linter.unusedSimpArgs false
namespace Go.Proofs.Ytjlfclhlfgjgcab.Pure
open Go Go.Own Go.RowKit Go.Proofs.Ytjlfclhlfgjgcab.P Go.Proofs.YtjlfclhlfgjgcabW.PrintWords Go.Proofs.YtjlfclhlfgjgcabW.PrintLast

theorem cmpint_eq (a b : Int) : cmp_Compare_int.f a b = some (cmpI a b) := by
  unfold cmp_Compare_int.f cmp_isNaN_int.f cmpI
  simp
  split
  · rfl
  · split <;> rfl
theorem label_Compare_eq (k : Nat) (a b : List Int) : label_Compare.f (k + 1) a b = some (cmpL a b) := by
  unfold label_Compare.f label_parts.f
  simp only [Option.bind_some, label_Compare.j0, cmpint_eq, rd, Int.toNat_natCast]
  rw [cmp_parts]
  have c0 : (0 : Int) ≤ (partsL a b : Nat) := by omega
  by_cases h1 : partsL a b < a.length
  · have c1 : ((partsL a b : Nat) : Int) < (a.length : Int) := by omega
    by_cases h2 : partsL a b < b.length
    · have c2 : ((partsL a b : Nat) : Int) < (b.length : Int) := by omega
      simp only [c0, c1, c2, h1, h2, and_self, if_true, decide_true]
    · have c2 : ¬ ((partsL a b : Nat) : Int) < (b.length : Int) := by omega
      simp only [c1, c2, h1, h2, and_false, if_true, if_false, decide_false, Bool.false_eq_true]
  · have c1 : ¬ ((partsL a b : Nat) : Int) < (a.length : Int) := by omega
    simp only [c1, h1, false_and, if_false, Bool.false_eq_true]
theorem label_Left_eq (a b : List Int) : label_Left.f a b = some (leftL a b) := by
  unfold label_Left.f label_parts.f
  simp only [Option.bind_some, rd, Int.toNat_natCast]
  rw [left_parts]
  have c0 : (0 : Int) ≤ (partsL a b : Nat) := by omega
  by_cases h1 : partsL a b < a.length
  · have c1 : ((partsL a b : Nat) : Int) < (a.length : Int) := by omega
    by_cases h2 : partsL a b < b.length
    · have c2 : ((partsL a b : Nat) : Int) < (b.length : Int) := by omega
      simp only [c0, c1, c2, h1, h2, and_self, if_true]
      first | rfl | (congr 1; simp)
    · have c2 : ¬ ((partsL a b : Nat) : Int) < (b.length : Int) := by omega
      simp only [c1, c2, h1, h2, and_false, if_true, if_false]
  · have c1 : ¬ ((partsL a b : Nat) : Int) < (a.length : Int) := by omega
    simp only [c1, h1, false_and, if_false]
theorem label_Under_eq (a b : List Int) : label_Under.f a b = some (underL a b) := by
  unfold label_Under.f label_parts.f underL
  simp only [Option.bind_some]
  congr 1
  rw [Bool.eq_iff_iff]
  simp
  omega
theorem label_Pruned_eq (a b : List Int) (d : Int) : label_Pruned.f a b d = some (prunedL a b d) := by
  unfold label_Pruned.f label_parts.f prunedL
  rw [label_Left_eq]
  simp only [Option.bind_some]
  have : mn d (b.length : Int) = min d (b.length : Int) := by unfold mn; omega
  rw [this]
  by_cases h : leftL b a = true
  · rw [if_pos h, h]; simp
  · rw [if_neg h]; simp at h; simp [h]
theorem big_loop (ls : List (List Int)) (hl : ls.length < 1000) (d : Nat) : ∀ (k i : Nat), ls.length - i = d → d < k → i ≤ ls.length → spinneylaw19_big.l0 k ls (ls.length : Int) (i : Int) = some ((ls.drop i).any (fun a => decide (a.length > 2000))) := by
  induction d with
  | zero =>
    intro k i hd hk hi
    obtain ⟨k, rfl⟩ : ∃ j, k = j + 1 := ⟨k - 1, by omega⟩
    simp only [spinneylaw19_big.l0]
    rw [if_neg (by omega), List.drop_eq_nil_of_le (by omega)]
    rfl
  | succ d ih =>
    intro k i hd hk hi
    obtain ⟨k, rfl⟩ : ∃ j, k = j + 1 := ⟨k - 1, by omega⟩
    simp only [spinneylaw19_big.l0]
    have hlt : i < ls.length := by omega
    have e : wrap64 ((i : Int) + 1) = ((i + 1 : Nat) : Int) := by unfold wrap64; omega
    rw [if_pos (by omega), if_pos (by omega), if_pos (by omega), e, ih k (i + 1) (by omega) (by omega) (by omega)]
    rw [List.drop_eq_getElem_cons hlt, List.any_cons]
    have hr : rd_L2 ls (i : Int) = ls[i] := by
      unfold rd_L2
      simp [List.getD, hlt]
    rw [hr]
    by_cases h : ls[i].length > 2000
    · rw [if_pos (by omega)]; simp [h]
    · rw [if_neg (by omega)]; simp [h]
theorem big_eq (ls : List (List Int)) (hl : ls.length < 1000) (k : Nat) (hk : ls.length < k) : spinneylaw19_big.f k ls = some (ls.any (fun a => decide (a.length > 2000))) := by
  unfold spinneylaw19_big.f
  have := big_loop ls hl ls.length k 0 (by omega) hk (by omega)
  simpa using this

/-- a place's text -/
def dotsL (l : List Int) : List UInt8 := if l = [] then [45] else Lib.join (l.map textB) [46]
theorem textB_len {n : Int} (h : (Lit.int .i64 n).wf = true) : (textB n).length ≤ 20 := by
  have h1 := bounds_i64 h
  have h2 : (digs n.natAbs).length ≤ 19 := digs_len 18 _ (by omega)
  unfold textB
  split <;> simp <;> omega
theorem join_len (l : List (List UInt8)) (h : ∀ x ∈ l, x.length ≤ 20) : (Lib.join l [46]).length ≤ 21 * l.length := by
  unfold Lib.join
  induction l with
  | nil => simp
  | cons a l ih =>
    have ih := ih (fun x hx => h x (List.mem_cons_of_mem _ hx))
    have ha := h a List.mem_cons_self
    cases l with
    | nil => simp [List.intercalate, List.intersperse]; omega
    | cons b m =>
      simp only [List.intercalate] at ih ⊢
      rw [List.intersperse_cons_cons]
      simp only [List.flatten_cons, List.length_append, List.length_cons, List.length_nil] at ih ⊢
      omega
theorem text_loop (l : List Int) (hl : l.length ≤ 2000) (hw : ∀ x ∈ l, (Lit.int .i64 x).wf = true) (d : Nat) : ∀ (k i : Nat), l.length - i = d → d < k → i ≤ l.length →
    label_Text.l0 k ((l.take i).map (fun n => (⟨(textB n).toArray⟩ : ByteArray)) ++ List.replicate (l.length - i) (⟨#[]⟩ : ByteArray)) l (l.length : Int) (i : Int) = some ⟨(Lib.join (l.map textB) [46]).toArray⟩ := by
  induction d with
  | zero =>
    intro k i hd hk hi
    obtain ⟨k, rfl⟩ : ∃ j, k = j + 1 := ⟨k - 1, by omega⟩
    simp only [label_Text.l0]
    rw [if_neg (by omega)]
    have hi2 : i = l.length := by omega
    subst hi2
    simp only [List.take_length, Nat.sub_self, List.replicate_zero, List.append_nil]
    unfold strings_Join.f
    have e : (l.map (fun n => (⟨(textB n).toArray⟩ : ByteArray))).map (fun x => x.data.toList) = l.map textB := by simp
    rw [e]
    have hj := join_len (l.map textB) (by
      intro x hx
      obtain ⟨n, hn, rfl⟩ := List.mem_map.1 hx
      exact textB_len (hw n hn))
    rw [List.length_map] at hj
    have hsep : (⟨#[46]⟩ : ByteArray).data.toList = [46] := rfl
    rw [hsep, if_pos ⟨by simp; omega, by omega⟩]
    rfl
  | succ d ih =>
    intro k i hd hk hi
    obtain ⟨k, rfl⟩ : ∃ j, k = j + 1 := ⟨k - 1, by omega⟩
    have hlt : i < l.length := by omega
    simp only [label_Text.l0]
    have e : wrap64 ((i : Int) + 1) = ((i + 1 : Nat) : Int) := by unfold wrap64; omega
    have hr : rd l (i : Int) = l[i] := by simp [rd, List.getD, hlt]
    have hb := bounds_i64 (hw l[i] (List.getElem_mem hlt))
    have ht : num_Text.f l[i] = some ⟨(textB l[i]).toArray⟩ := by unfold num_Text.f; rw [if_pos hb]
    rw [if_pos (by omega), if_pos (by omega), if_pos (by omega), hr, ht]
    simp only [Option.bind_some]
    rw [if_pos (by simp; omega), e]
    have es : ((l.take i).map (fun n => (⟨(textB n).toArray⟩ : ByteArray)) ++ List.replicate (l.length - i) (⟨#[]⟩ : ByteArray)).set ((i : Int)).toNat ⟨(textB l[i]).toArray⟩ = (l.take (i + 1)).map (fun n => (⟨(textB n).toArray⟩ : ByteArray)) ++ List.replicate (l.length - (i + 1)) (⟨#[]⟩ : ByteArray) := by
      have h1 : l.length - i = (l.length - (i + 1)) + 1 := by omega
      rw [h1, List.replicate_succ, Int.toNat_natCast, List.set_append_right _ _ (by simp; omega)]
      have h2 : i - ((l.take i).map (fun n => (⟨(textB n).toArray⟩ : ByteArray))).length = 0 := by simp; omega
      rw [h2, List.set_cons_zero, List.take_succ_eq_append_getElem hlt, List.map_append]
      simp
    rw [es]
    exact ih k (i + 1) (by omega) (by omega) (by omega)
theorem label_Text_eq (l : List Int) (hl : l.length ≤ 2000) (hw : ∀ x ∈ l, (Lit.int .i64 x).wf = true) (k : Nat) (hk : l.length < k) : label_Text.f k l = some ⟨(dotsL l).toArray⟩ := by
  unfold label_Text.f dotsL
  by_cases h : l = []
  · subst h; rfl
  · have hp : 0 < l.length := List.length_pos_iff.mpr h
    rw [if_neg (by omega), if_neg h, if_pos (by omega), if_pos (by omega)]
    have := text_loop l hl hw l.length k 0 (by omega) hk (by omega)
    simpa using this
theorem live19 (k : Nat) (hk : 3 ≤ k) : spinneylaw19_live.f k = some true := by
  obtain ⟨k, rfl⟩ : ∃ j, k = j + 1 := ⟨k - 1, by omega⟩
  unfold spinneylaw19_live.f
  have ht : label_Text.f (k + 1) [1, 20] = some ⟨#[49, 46, 50, 48]⟩ := by
    rw [label_Text_eq [1, 20] (by simp) (by intro x hx; simp at hx; rcases hx with rfl | rfl <;> rfl) _ (by simp; omega)]
    simp [dotsL, Lib.join, textB, digs, List.intercalate, List.intersperse]
  simp only [label_Left_eq, label_Under_eq, label_Pruned_eq, Option.bind_some, label_Compare_eq, ht]
  decide +kernel

end Go.Proofs.Ytjlfclhlfgjgcab.Pure
