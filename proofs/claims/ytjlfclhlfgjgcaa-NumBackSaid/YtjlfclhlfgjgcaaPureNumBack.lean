/- Read of Text is the number, with noughts ahead too. No condition. -/
import Derived.Test.YtjlfclhlfgjgcaaPx1
import Derived.Test.YtjlfclhlfgjgcaaPx2
import Derived.Test.YtjlfclhlfgjgcaaPx5
import Derived.Test.YtjlfclhlfgjgcaaPureNum
import Derived.Test.YtjlfclhlfgjgcaaPureNumSigns
import Derived.Test.YtjlfclhlfgjgcaaPureNumAdds
import Derived.Test.YtjlfclhlfgjgcaaPureNumTexts
set_option linter.unusedVariables false
set_option linter.unusedSimpArgs false
namespace Go.Proofs.Ytjlfclhlfgjgcaa.Pure
open Go Go.Own Go.RowKit Go.Proofs.Ytjlfclhlfgjgcaa.P Go.Proofs.YtjlfclhlfgjgcaaW.PrintWords Go.Proofs.YtjlfclhlfgjgcaaW.PrintLast

theorem digits_digs (m : Nat) : digits (digs m) = true ∧ ∀ n, val (digs m) n = n * 10 ^ (digs m).length + m := by
  induction m using Nat.strongRecOn with
  | _ m ih =>
    rw [digs]
    split
    · rename_i h
      have e : (UInt8.ofNat (48 + m)).toNat = 48 + m := by rw [UInt8.toNat_ofNat']; omega
      refine ⟨by simp [digits, e]; omega, fun n => ?_⟩
      simp [val, e]
      omega
    · rename_i h
      obtain ⟨h1, h2⟩ := ih (m / 10) (by omega)
      have e : (UInt8.ofNat (48 + m % 10)).toNat = 48 + m % 10 := by rw [UInt8.toNat_ofNat']; omega
      refine ⟨?_, fun n => ?_⟩
      · unfold digits at *
        rw [List.all_append, h1]
        simp [e]
        omega
      · have hv : val (digs (m / 10) ++ [UInt8.ofNat (48 + m % 10)]) n = 10 * val (digs (m / 10)) n + (48 + m % 10 - 48) := by
          unfold val
          rw [List.foldl_append]
          simp only [List.foldl_cons, List.foldl_nil, e]
        rw [hv, h2, List.length_append, List.length_singleton, Nat.pow_succ]
        have : 10 * (n * 10 ^ (digs (m / 10)).length + m / 10) = n * (10 ^ (digs (m / 10)).length * 10) + 10 * (m / 10) := by
          rw [Nat.mul_add, Nat.mul_left_comm, Nat.mul_comm 10 (10 ^ _)]
        omega
/-- noughts ahead tell nothing -/
theorem val_noughts (j : Nat) (l : List UInt8) : val (List.replicate j 48 ++ l) 0 = val l 0 ∧ (digits l = true → digits (List.replicate j 48 ++ l) = true) := by
  induction j with
  | zero => simp
  | succ j ih =>
    rw [List.replicate_succ, List.cons_append]
    refine ⟨?_, fun h => ?_⟩
    · have : val (48 :: (List.replicate j 48 ++ l)) 0 = val (List.replicate j 48 ++ l) 0 := rfl
      rw [this, ih.1]
    · have := ih.2 h
      unfold digits at *
      rw [List.all_cons, this]
      decide
theorem readL_back {a : Int} (ha : In64 a) (j : Nat) (l : List UInt8) (hl : l = (if a < 0 then 45 :: (List.replicate j 48 ++ digs a.natAbs) else List.replicate j 48 ++ digs a.natAbs)) : readL l = (a, 0) := by
  have hne : List.replicate j 48 ++ digs a.natAbs ≠ [] := by
    have := digs_pos a.natAbs
    intro h
    rw [List.append_eq_nil_iff] at h
    rw [h.2] at this
    simp at this
  obtain ⟨h1, h2⟩ := digits_digs a.natAbs
  obtain ⟨h3, h4⟩ := val_noughts j (digs a.natAbs)
  have hv : val (List.replicate j 48 ++ digs a.natAbs) 0 = a.natAbs := by rw [h3, h2]; omega
  have hsc := (scan_val (List.replicate j 48 ++ digs a.natAbs) 0 (by omega) (h4 h1)).1
  rw [hv] at hsc
  unfold In64 at ha
  have hsc := hsc (by omega)
  have hz : scan (List.replicate j 48 ++ digs a.natAbs) ((0 : Nat) : Int) false = scan (List.replicate j 48 ++ digs a.natAbs) 0 false := rfl
  rw [hz] at hsc
  by_cases h : a < 0
  · rw [if_pos h] at hl
    subst hl
    unfold readL
    simp only [List.head?_cons, if_true, List.drop_succ_cons, List.drop_zero]
    rw [if_neg hne, hsc]
    simp
    unfold wrap64
    omega
  · rw [if_neg h] at hl
    subst hl
    have hh : ¬ ((List.replicate j 48 ++ digs a.natAbs).head? = some 45) := by
      intro hc
      have hd := h4 h1
      cases hL : List.replicate j 48 ++ digs a.natAbs with
      | nil => exact hne hL
      | cons c r =>
        rw [hL] at hc hd
        simp at hc
        subst hc
        simp [digits] at hd
    unfold readL
    rw [if_neg hh, if_neg hne, hsc]
    simp only [Bool.false_or]
    rw [if_neg (by simp; omega)]
    congr 1
    unfold wrap64
    omega
theorem NumBack : spinneylaw01_NumBack.Pure := by
  intro a ha
  replace ha := in64_of_wf ha
  have ha' := ha
  unfold In64 at ha'
  have h2 : num_Text.f a = some ⟨(textB a).toArray⟩ := by unfold num_Text.f; rw [if_pos ha']
  have hlen : (textB a).length ≤ 20 := by
    have := digs_size a.natAbs (by omega)
    unfold textB
    split <;> simp <;> omega
  have hsz : (⟨(textB a).toArray⟩ : ByteArray).size = (textB a).length := by simp [ByteArray.size]
  have rd : ∀ (s : ByteArray) j, s.size ≤ 100 → s.data.toList = (if a < 0 then 45 :: (List.replicate j 48 ++ digs a.natAbs) else List.replicate j 48 ++ digs a.natAbs) → num_Read.f s = some (a, 0) := by
    intro s j hs hl
    unfold num_Read.f
    rw [if_pos (by omega), readL_back ha j _ hl]
  have r0 := rd ⟨(textB a).toArray⟩ 0 (by omega) (by simp [textB])
  unfold spinneylaw01_NumBack.f
  rw [h2]
  simp only [Option.bind_some]
  rw [r0, live]
  simp only [Option.bind_some]
  have hpos : 1 ≤ (textB a).length := by
    have := digs_pos a.natAbs
    unfold textB
    split <;> simp <;> omega
  have hne : ¬ ((⟨(textB a).toArray⟩ : ByteArray).toList = ([] : List UInt8)) := by
    rw [ByteArray.toList_eq]
    intro h
    have h3 := congrArg List.length h
    simp only [List.length_nil] at h3
    omega
  rw [if_neg hne, if_pos (by omega)]
  by_cases h : a < 0
  · rw [if_pos h]
    rw [if_pos (by omega), if_pos (by simp; omega)]
    have r1 := rd ((⟨#[45, 48, 48]⟩ : ByteArray) ++ ((⟨(textB a).toArray⟩ : ByteArray).extract 1 (⟨(textB a).toArray⟩ : ByteArray).size)) 2 (by
      have : (⟨#[45, 48, 48]⟩ : ByteArray).size = 3 := rfl
      simp [ByteArray.size_append]; omega) (by
      rw [if_pos h]
      have e : ((⟨(textB a).toArray⟩ : ByteArray).extract 1 (⟨(textB a).toArray⟩ : ByteArray).size).data.toList = digs a.natAbs := by
        have := data_cons (⟨(textB a).toArray⟩ : ByteArray) (by omega)
        have h5 : (⟨(textB a).toArray⟩ : ByteArray).data.toList = 45 :: digs a.natAbs := by simp [textB, h]
        rw [h5] at this
        injection this with _ h6
        exact h6.symm
      rw [ByteArray.data_append, Array.toList_append, e]
      rfl)
    rw [r1]
    simp
  · rw [if_neg h]
    have r1 := rd ((⟨#[48, 48]⟩ : ByteArray) ++ (⟨(textB a).toArray⟩ : ByteArray)) 2 (by
      have : (⟨#[48, 48]⟩ : ByteArray).size = 2 := rfl
      simp [ByteArray.size_append]; omega) (by
      rw [if_neg h]
      simp [textB, h, List.replicate])
    rw [r1]
    simp

end Go.Proofs.Ytjlfclhlfgjgcaa.Pure
