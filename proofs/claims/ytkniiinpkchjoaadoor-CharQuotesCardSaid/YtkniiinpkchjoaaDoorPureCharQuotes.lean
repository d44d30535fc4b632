/- An atom's text: as itself, or between quotes. -/
import Derived.Test.YtkniiinpkchjoaaDoorPx3
import Derived.Test.YtkniiinpkchjoaaDoorPx4
import Derived.Test.YtkniiinpkchjoaaDoorPx12
import Derived.Test.YtkniiinpkchjoaaDoorPx2
import Derived.Test.YtkniiinpkchjoaaDoorPx13
import Derived.Test.YtkniiinpkchjoaaDoorPx9
import Derived.Test.YtkniiinpkchjoaaDoorPx10
set_option linter.unusedVariables false
set_option linter.unusedSimpArgs false
namespace Go.Proofs.YtkniiinpkchjoaaDoor.Pure
open Go Go.Own Go.RowKit Go.Proofs.YtkniiinpkchjoaaDoor.P Go.Proofs.YtkniiinpkchjoaaDoorW.PrintWords Go.Proofs.YtkniiinpkchjoaaDoorW.PrintLast

theorem leO_up {α : Type} {f : Nat → Option α} (hm : ∀ k, LeO (f k) (f (k + 1))) {k k' : Nat} (h : k ≤ k') {r : α} (hr : f k = some r) : f k' = some r := by
  obtain ⟨d, rfl⟩ : ∃ d, k' = k + d := ⟨k' - k, by omega⟩
  clear h
  induction d with
  | zero => exact hr
  | succ d ih => exact hm _ _ ih
theorem live02 (k : Nat) (hk : 10 ≤ k) : spinneylaw02_live.f k = some true :=
  leO_up (f := fun k => spinneylaw02_live.f k) (fun k => spinneylaw02_live.mono k) hk (by decide +kernel)
theorem bt_drop {s : ByteArray} {i : Nat} (h : i < s.size) : s.data.toList.drop i = (s[i]'h) :: s.data.toList.drop (i + 1) := by
  have h' : i < s.data.toList.length := by rw [Array.length_toList]; exact h
  rw [List.drop_eq_getElem_cons h']
  rfl
theorem among_all (s : ByteArray) (hs : s.size ≤ 9223372036854775806) (c : Int) : ∀ (k i : Nat), i ≤ s.size → s.size < k + i → spinneyref02_among.l0 k c s i = some ((s.data.toList.drop i).any fun b => decide (c = (b.toNat : Int)))
  | 0, i, h1, h2 => by omega
  | k + 1, i, h1, h2 => by
    unfold spinneyref02_among.l0
    by_cases hi : i < s.size
    · have hb := bt_at s i (by simpa using hi)
      have hr := bt_range s i
      rw [if_pos (by omega), if_pos (by omega), bt_drop hi]
      have hw : wrap32 (bt s i) = ((s[i]'hi).toNat : Int) := by
        rw [← hb] at hr ⊢
        simp only [Int.toNat_natCast] at hr ⊢
        unfold wrap32
        omega
      rw [hw, List.any_cons]
      by_cases hc : c = ((s[i]'hi).toNat : Int)
      · rw [if_pos hc]; simp [hc]
      · rw [if_neg hc]
        have hw2 : wrap64 ((i : Int) + 1) = ((i + 1 : Nat) : Int) := by unfold wrap64; omega
        rw [hw2, among_all s hs c k (i + 1) (by omega) (by omega)]
        simp [hc]
    · rw [if_neg (by omega)]
      have : i = s.size := by omega
      subst this
      rw [List.drop_eq_nil_of_le (by rw [Array.length_toList]; exact Nat.le_refl _)]
      rfl
theorem among_f (s : ByteArray) (hs : s.size ≤ 9223372036854775806) (c : Int) (k : Nat) (h : s.size < k) : spinneyref02_among.f k c s = some (s.data.toList.any fun b => decide (c = (b.toNat : Int))) := by
  unfold spinneyref02_among.f
  exact among_all s hs c k 0 (by omega) (by omega)
theorem ref_class_in : ∀ c : Fin 128, spinneyref02_Class.f 30 ((c.val : Nat) : Int) = some (classN ((c.val : Nat) : Int)) := by decide +kernel
theorem classN_out (c : Int) (h : c < 0 ∨ 127 < c) : classN c = 0 := by
  unfold classN classN.c0 classN.c1 classN.c2 classN.c3 classN.c4 classN.c5
  repeat rw [if_neg (by omega)]
theorem ref_class_out (c : Int) (h : c < 0 ∨ 127 < c) : spinneyref02_Class.f 30 c = some 0 := by
  have a1 : spinneyref02_among.f 27 c (⟨#[43, 45, 42, 47, 92, 94, 60, 62, 61, 126, 58, 46, 63, 64, 35, 38, 36]⟩ : ByteArray) = some false := by
    rw [among_f _ (by decide) c _ (by decide)]
    simp
    omega
  have a2 : spinneyref02_among.f 26 c (⟨#[33, 59, 44, 124]⟩ : ByteArray) = some false := by
    rw [among_f _ (by decide) c _ (by decide)]
    simp
    omega
  have a3 : spinneyref02_among.f 26 c (⟨#[40, 41, 91, 93, 123, 125]⟩ : ByteArray) = some false := by
    rw [among_f _ (by decide) c _ (by decide)]
    simp
    omega
  have e0 : (decide (c ≤ 122) = true) → c < 0 := by simp; omega
  have x1 : ¬ c = 9 := by omega
  have x2 : ¬ c = 10 := by omega
  have x3 : ¬ c = 13 := by omega
  have x4 : (c == 32) = false := by simp; omega
  have x5 : ¬ c = 39 := by omega
  have x6 : (c == 95) = false := by simp; omega
  have j3 : spinneyref02_Class.j3 27 c false = some 0 := by
    unfold spinneyref02_Class.j3
    simp [a2, a3, x5]
  have j2 : spinneyref02_Class.j2 28 c false = some 0 := by
    unfold spinneyref02_Class.j2
    simp only [a1, Option.bind_some, x1, x2, x3, x4, j3, if_false, Bool.false_eq_true]
  have j1 : spinneyref02_Class.j1 29 c false = some 0 := by
    unfold spinneyref02_Class.j1
    rcases h with h | h
    · have : ¬ c ≥ 48 := by omega
      simp [this, j2]
    · have h1 : c ≥ 48 := by omega
      have h2 : decide (c ≤ 57) = false := by simp; omega
      simp only [h1, if_true, h2, j2, Bool.false_eq_true, if_false]
  have j0 : spinneyref02_Class.j0 30 c false = some 0 := by
    unfold spinneyref02_Class.j0
    rcases h with h | h
    · have : ¬ c ≥ 65 := by omega
      simp only [this, x6, j1, Bool.false_eq_true, if_false]
    · have h1 : c ≥ 65 := by omega
      have h2 : ¬ c ≤ 90 := by omega
      simp only [h1, if_true, h2, x6, j1, Bool.false_eq_true, if_false]
  unfold spinneyref02_Class.f
  rcases h with h | h
  · have : ¬ c ≥ 97 := by omega
    rw [if_neg this, j0]
  · have h1 : c ≥ 97 := by omega
    have h2 : decide (c ≤ 122) = false := by simp; omega
    rw [if_pos h1, h2, j0]
theorem ref_class (c : Int) (k : Nat) (hk : 30 ≤ k) : spinneyref02_Class.f k c = some (classN c) := by
  refine leO_up (f := fun k => spinneyref02_Class.f k c) (fun k => spinneyref02_Class.mono _ k) hk ?_
  by_cases h : 0 ≤ c ∧ c ≤ 127
  · have := ref_class_in ⟨c.toNat, by omega⟩
    have e : ((c.toNat : Nat) : Int) = c := by omega
    simp only [e] at this
    exact this
  · show spinneyref02_Class.f 30 c = _
    rw [ref_class_out c (by omega), classN_out c (by omega)]

end Go.Proofs.YtkniiinpkchjoaaDoor.Pure
set_option linter.unusedVariables false
set_option linter.unusedSimpArgs false
namespace Go.Proofs.YtkniiinpkchjoaaDoor.Pure
open Go Go.Own Go.RowKit Go.Proofs.YtkniiinpkchjoaaDoor.P Go.Proofs.YtkniiinpkchjoaaDoorW.PrintWords Go.Proofs.YtkniiinpkchjoaaDoorW.PrintLast

def checkB (a : ByteArray) : Bool := decide (a.size ≤ 255) && Lib.validD a.data.toList
theorem check_val (a : ByteArray) : char_Check.f a = some (checkB a) := by
  unfold char_Check.f checkB utf8_ValidString.f
  by_cases h : a.size ≤ 255
  · rw [if_pos (by omega), if_pos (by omega), decide_eq_true h]; rfl
  · rw [if_neg (by omega), decide_eq_false h]; rfl
theorem ref_check_val (a : ByteArray) : spinneyref02_Check.f a = some (checkB a) := by
  unfold spinneyref02_Check.f checkB utf8_ValidString.f
  by_cases h : a.size ≤ 255
  · rw [if_pos (by omega), if_pos (by omega), decide_eq_true h]; rfl
  · rw [if_neg (by omega), decide_eq_false h]; rfl
theorem bare_val (a : ByteArray) (h : a.size ≤ 9223372036854775807) : char_Bare.f a = some (char_Bare.val a) := by
  unfold char_Bare.f
  rw [if_pos h]
theorem checkB_small {a : ByteArray} (h : checkB a = true) : a.size ≤ 255 := by
  unfold checkB at h
  simp at h
  exact h.1
def writeV (a : ByteArray) : ByteArray := if checkB a = true then (if char_Bare.val a = true then a else char_Write.quoted a) else ⟨#[]⟩
theorem write_val (a : ByteArray) : char_Write.f a = some (writeV a) := by
  unfold char_Write.f writeV
  rw [check_val, Option.bind_some]
  by_cases h : checkB a = true
  · rw [if_pos h, if_pos h, bare_val a (by have := checkB_small h; omega), Option.bind_some]
    split <;> rfl
  · rw [if_neg h, if_neg h]
theorem hexD_ge : ∀ n : Fin 16, 48 ≤ (hexD (n.val : Int)).toNat := by decide
theorem hexL_ge {c : Int} (h0 : 0 ≤ c) (h1 : c < 32) : ∀ b ∈ hexL c, 32 ≤ b.toNat := by
  intro b hb
  unfold hexL at hb
  split at hb
  · simp at hb
    subst hb
    have := hexD_ge ⟨c.toNat, by omega⟩
    have e : ((c.toNat : Nat) : Int) = c := by omega
    simp only [e] at this
    omega
  · simp at hb
    rcases hb with rfl | rfl
    · decide
    · have := hexD_ge ⟨(c - 16).toNat, by omega⟩
      have e : (((c - 16).toNat : Nat) : Int) = c - 16 := by omega
      simp only [e] at this
      omega
theorem encode_ge {c : Int} (h : 32 ≤ c) : ∀ b ∈ Lib.encodeRune c, 32 ≤ b.toNat := by
  have key : ∀ z ∈ Lib.encodeRuneZ c, 32 ≤ z ∧ z ≤ 255 := by
    unfold Lib.encodeRuneZ
    intro z hz
    split at hz
    · simp at hz; omega
    · split at hz
      · simp at hz; omega
      · split at hz
        · simp at hz; omega
        · split at hz
          · simp at hz; omega
          · simp at hz; omega
  intro b hb
  unfold Lib.encodeRune at hb
  obtain ⟨z, hz, rfl⟩ := List.mem_map.1 hb
  have := key z hz
  have : z.toNat.toUInt8.toNat = z.toNat := by
    show (UInt8.ofNat z.toNat).toNat = _
    rw [UInt8.toNat_ofNat']
    omega
  omega
theorem one_ge {c : Int} (h0 : 0 ≤ c) : ∀ b ∈ char_Write.one c, 32 ≤ b.toNat := by
  intro b hb
  unfold char_Write.one at hb
  split at hb
  · rename_i h
    rcases List.mem_cons.1 hb with rfl | hb
    · decide
    · exact encode_ge (by omega) b hb
  · split at hb
    · rename_i h
      rcases List.mem_cons.1 hb with rfl | hb
      · decide
      · exact encode_ge (by omega) b hb
    · split at hb
      · simp at hb
        rcases hb with rfl | rfl <;> decide
      · split at hb
        · simp at hb
          rcases hb with rfl | rfl <;> decide
        · split at hb
          · rename_i h
            rcases List.mem_append.1 hb with hb | hb
            · rcases List.mem_append.1 hb with hb | hb
              · simp at hb
                rcases hb with rfl | rfl <;> decide
              · exact hexL_ge h0 h b hb
            · simp at hb
              subst hb
              decide
          · exact encode_ge (by omega) b hb
theorem write_go_ge : ∀ l : List (Nat × Nat), ∀ b ∈ char_Write.go l, 32 ≤ b.toNat
  | [], b, hb => by
    unfold char_Write.go at hb
    simp at hb
    subst hb
    decide
  | x :: l, b, hb => by
    unfold char_Write.go at hb
    rcases List.mem_append.1 hb with hb | hb
    · exact one_ge (by omega) b hb
    · exact write_go_ge l b hb
theorem write_go_last : ∀ l : List (Nat × Nat), ∃ m, char_Write.go l = m ++ [39]
  | [] => ⟨[], by unfold char_Write.go; rfl⟩
  | x :: l => by
    obtain ⟨m, h⟩ := write_go_last l
    unfold char_Write.go
    exact ⟨_ ++ m, by rw [h, List.append_assoc]⟩
theorem writeV_small (a : ByteArray) (x : Nat) (hx : 255 ≤ x) (h : checkB a = true) (h2 : char_Bare.val a = true) : (writeV a).size ≤ x := by
  unfold writeV
  rw [if_pos h, if_pos h2]
  have := checkB_small h
  omega

end Go.Proofs.YtkniiinpkchjoaaDoor.Pure
set_option linter.unusedVariables false
set_option linter.unusedSimpArgs false
namespace Go.Proofs.YtkniiinpkchjoaaDoor.Pure
open Go Go.Own Go.RowKit Go.Proofs.YtkniiinpkchjoaaDoor.P Go.Proofs.YtkniiinpkchjoaaDoorW.PrintWords Go.Proofs.YtkniiinpkchjoaaDoorW.PrintLast

theorem quotes_loop (q : ByteArray) (hq : ∀ (i : Nat) (h : i < q.size), 32 ≤ (q[i]'h).toNat) (h2 : 2 ≤ q.size) (hs : q.size ≤ 100000000) (h0 : bt q 0 = 39) (h1 : bt q ((q.size : Int) - 1) = 39) :
    ∀ (k i : Nat), i ≤ q.size → q.size < k + i → spinneylaw02_CharQuotes.l0 k true q i = some true
  | 0, i, a, b => by omega
  | k + 1, i, a, b => by
    unfold spinneylaw02_CharQuotes.l0
    by_cases hi : i < q.size
    · have hb := bt_at q i (by simpa using hi)
      have := hq i hi
      simp only [Int.toNat_natCast] at hb
      rw [if_pos (by omega), if_pos (by omega), if_neg (by omega)]
      have hw2 : wrap64 ((i : Int) + 1) = ((i + 1 : Nat) : Int) := by unfold wrap64; omega
      rw [hw2]
      exact quotes_loop q hq h2 hs h0 h1 k (i + 1) (by omega) (by omega)
    · have hw : wrap64 ((q.size : Int) - 1) = (q.size : Int) - 1 := by unfold wrap64; omega
      rw [if_neg (by omega), if_pos rfl, if_pos (by omega), if_pos (by omega), if_pos h0, hw, if_pos (by omega), if_pos (by omega), h1]
      rfl
theorem quoted_len (l : List (Nat × Nat)) : (char_Write.go l).length ≤ 5 * l.length + 1 := by
  induction l with
  | nil => unfold char_Write.go; simp
  | cons x l ih =>
    unfold char_Write.go
    have : (char_Write.one (x.2 : Int)).length ≤ 5 := by
      have h4 := encode_len4 (x.2 : Int)
      have hh := hexL_len (x.2 : Int)
      unfold char_Write.one
      repeat' split
      all_goals ((try simp only [List.length_cons, List.length_append, List.length_nil]); omega)
    rw [List.length_append, List.length_cons]
    omega
theorem runes_len (s : ByteArray) : ∀ (f pos : Nat), (runesAt s f pos).length ≤ f
  | 0, _ => by simp [runesAt]
  | f + 1, pos => by
    unfold runesAt
    split
    · rw [List.length_cons]; have := runes_len s f (pos + (Utf8.decode s pos).2); omega
    · simp
theorem quoted_size (a : ByteArray) (h : a.size ≤ 255) : (char_Write.quoted a).size ≤ 1277 := by
  unfold char_Write.quoted
  rw [bsz, List.length_append]
  have h1 := quoted_len (runesOf a)
  have h2 := runes_len a a.size 0
  unfold runesOf at h1 ⊢
  simp only [List.length_cons, List.length_nil]
  omega
theorem CharQuotes : spinneylaw02_CharQuotes.Pure := by
  intro a hs
  refine ⟨1400, ?_⟩
  unfold spinneylaw02_CharQuotes.f
  rw [live02 _ (by omega), write_val, check_val]
  simp only [Option.bind_some]
  by_cases hc : checkB a = true
  · rw [if_pos hc, bare_val a (by omega)]
    simp only [Option.bind_some]
    by_cases hb : char_Bare.val a = true
    · have e : writeV a = a := by unfold writeV; rw [if_pos hc, if_pos hb]
      rw [if_pos hb, e]
      simp
    · have e : writeV a = char_Write.quoted a := by unfold writeV; rw [if_pos hc, if_neg hb]
      rw [if_neg hb, e]
      have hz := quoted_size a (checkB_small hc)
      have hqd : (char_Write.quoted a).data.toList = [39] ++ char_Write.go (runesOf a) := rfl
      obtain ⟨m, hm⟩ := write_go_last (runesOf a)
      have hlen : (char_Write.quoted a).size = m.length + 2 := by
        show (char_Write.quoted a).data.size = _
        rw [← Array.length_toList, hqd, hm]
        simp only [List.length_append, List.length_cons, List.length_nil]
        omega
      have hget : ∀ (i : Nat) (h : i < (char_Write.quoted a).size), (char_Write.quoted a)[i]'h = ([39] ++ m ++ [39])[i]'(by simp only [List.length_append, List.length_cons, List.length_nil]; omega) := by
        intro i h
        have : (char_Write.quoted a)[i]'h = (char_Write.quoted a).data.toList[i]'(by rw [Array.length_toList]; exact h) := rfl
        rw [this]
        congr 1
        rw [hqd, hm, List.append_assoc]
      refine quotes_loop _ ?_ (by omega) (by omega) ?_ ?_ 1400 0 (by omega) (by omega)
      · intro i h
        have : (char_Write.quoted a)[i]'h ∈ [39] ++ char_Write.go (runesOf a) := by
          have e2 : (char_Write.quoted a)[i]'h = (char_Write.quoted a).data.toList[i]'(by rw [Array.length_toList]; exact h) := rfl
          rw [e2, ← hqd]
          exact List.getElem_mem _
        rcases List.mem_append.1 this with h3 | h3
        · simp at h3
          rw [h3]
          decide
        · exact write_go_ge _ _ h3
      · rw [← bt_at _ 0 (by show 0 < _; omega)]
        have := hget 0 (by omega)
        show (((char_Write.quoted a)[0]'_).toNat : Int) = 39
        rw [this]
        rfl
      · have h5 : (((char_Write.quoted a).size : Int) - 1).toNat = m.length + 1 := by omega
        rw [← bt_at _ _ (by rw [h5]; omega)]
        simp only [h5]
        rw [hget (m.length + 1) (by omega)]
        rw [List.getElem_append_right (by simp)]
        simp
  · rw [if_neg hc]
    have e : writeV a = ⟨#[]⟩ := by unfold writeV; rw [if_neg hc]
    rw [e]
    simp only [if_true]
    decide +kernel

end Go.Proofs.YtkniiinpkchjoaaDoor.Pure
