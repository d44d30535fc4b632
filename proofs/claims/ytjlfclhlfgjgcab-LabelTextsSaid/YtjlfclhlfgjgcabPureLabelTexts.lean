/- Any place's text, and the place behind it. No condition but that places of more than 2000 numbers are not looked at (the statement's own). -/
import Derived.Test.YtjlfclhlfgjgcabPx6
import Derived.Test.YtjlfclhlfgjgcabPx7
import Derived.Test.YtjlfclhlfgjgcabPureLabel
import Derived.Test.YtjlfclhlfgjgcabPureLabelNext
import Derived.Test.YtjlfclhlfgjgcabPureLabelRefC
import Derived.Test.YtjlfclhlfgjgcabPureRefText
import Derived.Test.YtjlfclhlfgjgcabText
set_option linter.unusedVariables false
set_option linter.unusedSimpArgs false
namespace Go.Proofs.Ytjlfclhlfgjgcab.Pure
open Go Go.Own Go.RowKit Go.Proofs.Ytjlfclhlfgjgcab.P Go.Proofs.YtjlfclhlfgjgcabW.PrintWords Go.Proofs.YtjlfclhlfgjgcabW.PrintLast

theorem join_flat (x : List UInt8) (m : List (List UInt8)) : Lib.join (x :: m) [46] = x ++ m.flatMap (fun t => 46 :: t) := by
  induction m generalizing x with
  | nil => simp [Lib.join, List.intercalate, List.intersperse]
  | cons y n ih =>
    have h := ih y
    unfold Lib.join at h ⊢
    rw [List.flatMap_cons]
    simp only [List.intercalate, List.intersperse_cons_cons, List.flatten_cons] at h ⊢
    rw [h]
    simp
theorem ba_app (a b : List UInt8) : (⟨a.toArray⟩ : ByteArray) ++ (⟨b.toArray⟩ : ByteArray) = ⟨(a ++ b).toArray⟩ := by
  apply ByteArray.ext
  simp [ByteArray.append]
theorem g_true (k : Nat) (l : List Int) : ∀ (s : List UInt8), (∀ x ∈ l, (Lit.int .i64 x).wf = true) → s.length + 21 * l.length ≤ 140737488355328 →
    spinneyref19_Text.g (k + 19) l true ⟨s.toArray⟩ = some ⟨(s ++ (l.map textB).flatMap (fun t => 46 :: t)).toArray⟩ := by
  induction l with
  | nil => intro s _ _; unfold spinneyref19_Text.g; simp
  | cons n l ih =>
    intro s hw hs
    have hn := hw n List.mem_cons_self
    have hb := bounds_i64 hn
    have hl := textB_len hn
    simp only [List.length_cons] at hs
    unfold spinneyref19_Text.g
    have z1 : (⟨s.toArray⟩ : ByteArray).size = s.length := by simp [ByteArray.size]
    rw [if_pos rfl, z1, if_pos (by omega), reftext (show In64 n from hb) k]
    simp only [Option.bind_some]
    rw [ba_app, ba_app]
    have z2 : (⟨(s ++ [46]).toArray⟩ : ByteArray).size = s.length + 1 := by simp [ByteArray.size]
    have z3 : (⟨(textB n).toArray⟩ : ByteArray).size = (textB n).length := by simp [ByteArray.size]
    rw [z2, z3, if_pos (by omega), ih _ (fun x hx => hw x (List.mem_cons_of_mem _ hx)) (by simp; omega)]
    simp
theorem ref_Text_eq (l : List Int) (hl : l.length ≤ 2000) (hw : ∀ x ∈ l, (Lit.int .i64 x).wf = true) (k : Nat) : spinneyref19_Text.f (k + 19) l = some ⟨(dotsL l).toArray⟩ := by
  unfold spinneyref19_Text.f dotsL
  cases l with
  | nil => rfl
  | cons n l =>
    rw [if_neg (by simp), if_neg (by simp)]
    have hn := hw n List.mem_cons_self
    have hb := bounds_i64 hn
    have hn2 := textB_len hn
    simp only [List.length_cons] at hl
    unfold spinneyref19_Text.g
    rw [if_neg (by simp), reftext (show In64 n from hb) k]
    simp only [Option.bind_some]
    have e0 : (⟨#[]⟩ : ByteArray) ++ (⟨(textB n).toArray⟩ : ByteArray) = ⟨(textB n).toArray⟩ := by
      have := ba_app [] (textB n)
      simpa using this
    have z1 : (⟨#[]⟩ : ByteArray).size = 0 := rfl
    have z3 : (⟨(textB n).toArray⟩ : ByteArray).size = (textB n).length := by simp [ByteArray.size]
    rw [e0, z1, z3, if_pos (by omega), g_true k l _ (fun x hx => hw x (List.mem_cons_of_mem _ hx)) (by omega), List.map_cons, join_flat]
theorem ref_Next_eq {a : List Int} (i : Int) (h : a.length ≤ 2000) : spinneyref19_Next.f a i = some (a ++ [i]) := by
  unfold spinneyref19_Next.f
  simp only [List.length_nil, Nat.zero_add, List.nil_append, Option.bind_some]
  rw [if_pos (by omega), if_pos (by omega)]
theorem LabelTexts : spinneylaw19_LabelTexts.Pure := by
  intro a i _ _ ha _
  refine ⟨2 * a.length + 4 + 19, ?_⟩
  unfold spinneylaw19_LabelTexts.f
  rw [live19 _ (by omega), big_eq [a] (by simp) _ (by simp)]
  simp only [Option.bind_some]
  split
  · rfl
  · rename_i hbig
    have hl : a.length ≤ 2000 := by simpa [Nat.not_lt] using hbig
    have e : wrap64 ((a.length : Int) + 5) = ((a.length + 5 : Nat) : Int) := by unfold wrap64; omega
    rw [e, if_pos (by omega), if_pos (by omega)]
    simp only [List.replicate_zero, List.length_nil, Nat.zero_add, List.nil_append]
    rw [if_pos (by omega)]
    simp only [label_Next_eq _ hl, ref_Next_eq _ hl, Option.bind_some]
    rw [ref_Compare_eq _ _ _ (by simp; omega), ref_Compare_eq _ _ _ (by simp; omega)]
    simp only [Option.bind_some, (cmp_eq _ _).2]
    rw [label_Text_eq a hl ha _ (by omega), ref_Text_eq a hl ha]
    simp

end Go.Proofs.Ytjlfclhlfgjgcab.Pure
