/- What may stand behind a bare atom. -/
import Derived.Test.YtkniiinpkchjoaaDoorPx2
import Derived.Test.YtkniiinpkchjoaaDoorPx6
import Derived.Test.YtkniiinpkchjoaaDoorPx3
import Derived.Test.YtkniiinpkchjoaaDoorPx4
import Derived.Test.YtkniiinpkchjoaaDoorPx7
import Derived.Test.YtkniiinpkchjoaaDoorPx5
import Derived.Lib.MapLaws
import Derived.Lib.ValidLaws
import Derived.Lib.TrimUEq
import Derived.Lib.TrimAscii
import Derived.WideShapes
import Derived.Test.YtkniiinpkchjoaaDoorPx8
set_option linter.unusedVariables false
set_option linter.unusedSimpArgs false
namespace Go.Proofs.YtkniiinpkchjoaaDoor.Pure
open Go Go.Own Go.RowKit Go.Proofs.YtkniiinpkchjoaaDoor.P Go.Proofs.YtkniiinpkchjoaaDoorW.PrintWords Go.Proofs.YtkniiinpkchjoaaDoorW.PrintLast

theorem leO_up {α : Type} {f : Nat → Option α} (hm : ∀ k, LeO (f k) (f (k + 1))) {k k' : Nat} (h : k ≤ k') {r : α} (hr : f k = some r) : f k' = some r := by
  obtain ⟨d, rfl⟩ : ∃ d, k' = k + d := ⟨k' - k, by omega⟩
  clear h
  induction d with
  | zero => exact hr
  | succ d ih => exact hm _ _ ih
theorem live02 (k : Nat) (hk : 10 ≤ k) : spinneylaw02_live.f k = some true :=
  leO_up (f := fun k => spinneylaw02_live.f k) (fun k => spinneylaw02_live.mono k) hk (by decide +kernel)
theorem bt_drop {s : ByteArray} {i : Nat} (h : i < s.size) : s.data.toList.drop i = (s[i]'h) :: s.data.toList.drop (i + 1) := by
  have h' : i < s.data.toList.length := by rw [Array.length_toList]; exact h
  rw [List.drop_eq_getElem_cons h']
  rfl
theorem among_all (s : ByteArray) (hs : s.size ≤ 9223372036854775806) (c : Int) : ∀ (k i : Nat), i ≤ s.size → s.size < k + i → spinneyref02_among.l0 k c s i = some ((s.data.toList.drop i).any fun b => decide (c = (b.toNat : Int)))
  | 0, i, h1, h2 => by omega
  | k + 1, i, h1, h2 => by
    unfold spinneyref02_among.l0
    by_cases hi : i < s.size
    · have hb := bt_at s i (by simpa using hi)
      have hr := bt_range s i
      rw [if_pos (by omega), if_pos (by omega), bt_drop hi]
      have hw : wrap32 (bt s i) = ((s[i]'hi).toNat : Int) := by
        rw [← hb] at hr ⊢
        simp only [Int.toNat_natCast] at hr ⊢
        unfold wrap32
        omega
      rw [hw, List.any_cons]
      by_cases hc : c = ((s[i]'hi).toNat : Int)
      · rw [if_pos hc]; simp [hc]
      · rw [if_neg hc]
        have hw2 : wrap64 ((i : Int) + 1) = ((i + 1 : Nat) : Int) := by unfold wrap64; omega
        rw [hw2, among_all s hs c k (i + 1) (by omega) (by omega)]
        simp [hc]
    · rw [if_neg (by omega)]
      have : i = s.size := by omega
      subst this
      rw [List.drop_eq_nil_of_le (by rw [Array.length_toList]; exact Nat.le_refl _)]
      rfl
theorem among_f (s : ByteArray) (hs : s.size ≤ 9223372036854775806) (c : Int) (k : Nat) (h : s.size < k) : spinneyref02_among.f k c s = some (s.data.toList.any fun b => decide (c = (b.toNat : Int))) := by
  unfold spinneyref02_among.f
  exact among_all s hs c k 0 (by omega) (by omega)
theorem ref_class_in : ∀ c : Fin 128, spinneyref02_Class.f 30 ((c.val : Nat) : Int) = some (classN ((c.val : Nat) : Int)) := by decide +kernel
theorem classN_out (c : Int) (h : c < 0 ∨ 127 < c) : classN c = 0 := by
  unfold classN classN.c0 classN.c1 classN.c2 classN.c3 classN.c4 classN.c5
  repeat rw [if_neg (by omega)]
theorem ref_class_out (c : Int) (h : c < 0 ∨ 127 < c) : spinneyref02_Class.f 30 c = some 0 := by
  have a1 : spinneyref02_among.f 27 c (⟨#[43, 45, 42, 47, 92, 94, 60, 62, 61, 126, 58, 46, 63, 64, 35, 38, 36]⟩ : ByteArray) = some false := by
    rw [among_f _ (by decide) c _ (by decide)]
    simp
    omega
  have a2 : spinneyref02_among.f 26 c (⟨#[33, 59, 44, 124]⟩ : ByteArray) = some false := by
    rw [among_f _ (by decide) c _ (by decide)]
    simp
    omega
  have a3 : spinneyref02_among.f 26 c (⟨#[40, 41, 91, 93, 123, 125]⟩ : ByteArray) = some false := by
    rw [among_f _ (by decide) c _ (by decide)]
    simp
    omega
  have e0 : (decide (c ≤ 122) = true) → c < 0 := by simp; omega
  have x1 : ¬ c = 9 := by omega
  have x2 : ¬ c = 10 := by omega
  have x3 : ¬ c = 13 := by omega
  have x4 : (c == 32) = false := by simp; omega
  have x5 : ¬ c = 39 := by omega
  have x6 : (c == 95) = false := by simp; omega
  have j3 : spinneyref02_Class.j3 27 c false = some 0 := by
    unfold spinneyref02_Class.j3
    simp [a2, a3, x5]
  have j2 : spinneyref02_Class.j2 28 c false = some 0 := by
    unfold spinneyref02_Class.j2
    simp only [a1, Option.bind_some, x1, x2, x3, x4, j3, if_false, Bool.false_eq_true]
  have j1 : spinneyref02_Class.j1 29 c false = some 0 := by
    unfold spinneyref02_Class.j1
    rcases h with h | h
    · have : ¬ c ≥ 48 := by omega
      simp [this, j2]
    · have h1 : c ≥ 48 := by omega
      have h2 : decide (c ≤ 57) = false := by simp; omega
      simp only [h1, if_true, h2, j2, Bool.false_eq_true, if_false]
  have j0 : spinneyref02_Class.j0 30 c false = some 0 := by
    unfold spinneyref02_Class.j0
    rcases h with h | h
    · have : ¬ c ≥ 65 := by omega
      simp only [this, x6, j1, Bool.false_eq_true, if_false]
    · have h1 : c ≥ 65 := by omega
      have h2 : ¬ c ≤ 90 := by omega
      simp only [h1, if_true, h2, x6, j1, Bool.false_eq_true, if_false]
  unfold spinneyref02_Class.f
  rcases h with h | h
  · have : ¬ c ≥ 97 := by omega
    rw [if_neg this, j0]
  · have h1 : c ≥ 97 := by omega
    have h2 : decide (c ≤ 122) = false := by simp; omega
    rw [if_pos h1, h2, j0]
theorem ref_class (c : Int) (k : Nat) (hk : 30 ≤ k) : spinneyref02_Class.f k c = some (classN c) := by
  refine leO_up (f := fun k => spinneyref02_Class.f k c) (fun k => spinneyref02_Class.mono _ k) hk ?_
  by_cases h : 0 ≤ c ∧ c ≤ 127
  · have := ref_class_in ⟨c.toNat, by omega⟩
    have e : ((c.toNat : Nat) : Int) = c := by omega
    simp only [e] at this
    exact this
  · show spinneyref02_Class.f 30 c = _
    rw [ref_class_out c (by omega), classN_out c (by omega)]

end Go.Proofs.YtkniiinpkchjoaaDoor.Pure
set_option linter.unusedVariables false
set_option linter.unusedSimpArgs false
namespace Go.Proofs.YtkniiinpkchjoaaDoor.Pure
open Go Go.Own Go.RowKit Go.Proofs.YtkniiinpkchjoaaDoor.P Go.Proofs.YtkniiinpkchjoaaDoorW.PrintWords Go.Proofs.YtkniiinpkchjoaaDoorW.PrintLast

def checkB (a : ByteArray) : Bool := decide (a.size ≤ 255) && Lib.validD a.data.toList
theorem check_val (a : ByteArray) : char_Check.f a = some (checkB a) := by
  unfold char_Check.f checkB utf8_ValidString.f
  by_cases h : a.size ≤ 255
  · rw [if_pos (by omega), if_pos (by omega), decide_eq_true h]; rfl
  · rw [if_neg (by omega), decide_eq_false h]; rfl
theorem ref_check_val (a : ByteArray) : spinneyref02_Check.f a = some (checkB a) := by
  unfold spinneyref02_Check.f checkB utf8_ValidString.f
  by_cases h : a.size ≤ 255
  · rw [if_pos (by omega), if_pos (by omega), decide_eq_true h]; rfl
  · rw [if_neg (by omega), decide_eq_false h]; rfl
theorem bare_val (a : ByteArray) (h : a.size ≤ 9223372036854775807) : char_Bare.f a = some (char_Bare.val a) := by
  unfold char_Bare.f
  rw [if_pos h]
theorem checkB_small {a : ByteArray} (h : checkB a = true) : a.size ≤ 255 := by
  unfold checkB at h
  simp at h
  exact h.1
def writeV (a : ByteArray) : ByteArray := if checkB a = true then (if char_Bare.val a = true then a else char_Write.quoted a) else ⟨#[]⟩
theorem write_val (a : ByteArray) : char_Write.f a = some (writeV a) := by
  unfold char_Write.f writeV
  rw [check_val, Option.bind_some]
  by_cases h : checkB a = true
  · rw [if_pos h, if_pos h, bare_val a (by have := checkB_small h; omega), Option.bind_some]
    split <;> rfl
  · rw [if_neg h, if_neg h]
theorem hexD_ge : ∀ n : Fin 16, 48 ≤ (hexD (n.val : Int)).toNat := by decide
theorem hexL_ge {c : Int} (h0 : 0 ≤ c) (h1 : c < 32) : ∀ b ∈ hexL c, 32 ≤ b.toNat := by
  intro b hb
  unfold hexL at hb
  split at hb
  · simp at hb
    subst hb
    have := hexD_ge ⟨c.toNat, by omega⟩
    have e : ((c.toNat : Nat) : Int) = c := by omega
    simp only [e] at this
    omega
  · simp at hb
    rcases hb with rfl | rfl
    · decide
    · have := hexD_ge ⟨(c - 16).toNat, by omega⟩
      have e : (((c - 16).toNat : Nat) : Int) = c - 16 := by omega
      simp only [e] at this
      omega
theorem encode_ge {c : Int} (h : 32 ≤ c) : ∀ b ∈ Lib.encodeRune c, 32 ≤ b.toNat := by
  have key : ∀ z ∈ Lib.encodeRuneZ c, 32 ≤ z ∧ z ≤ 255 := by
    unfold Lib.encodeRuneZ
    intro z hz
    split at hz
    · simp at hz; omega
    · split at hz
      · simp at hz; omega
      · split at hz
        · simp at hz; omega
        · split at hz
          · simp at hz; omega
          · simp at hz; omega
  intro b hb
  unfold Lib.encodeRune at hb
  obtain ⟨z, hz, rfl⟩ := List.mem_map.1 hb
  have := key z hz
  have : z.toNat.toUInt8.toNat = z.toNat := by
    show (UInt8.ofNat z.toNat).toNat = _
    rw [UInt8.toNat_ofNat']
    omega
  omega
theorem one_ge {c : Int} (h0 : 0 ≤ c) : ∀ b ∈ char_Write.one c, 32 ≤ b.toNat := by
  intro b hb
  unfold char_Write.one at hb
  split at hb
  · rename_i h
    rcases List.mem_cons.1 hb with rfl | hb
    · decide
    · exact encode_ge (by omega) b hb
  · split at hb
    · rename_i h
      rcases List.mem_cons.1 hb with rfl | hb
      · decide
      · exact encode_ge (by omega) b hb
    · split at hb
      · simp at hb
        rcases hb with rfl | rfl <;> decide
      · split at hb
        · simp at hb
          rcases hb with rfl | rfl <;> decide
        · split at hb
          · rename_i h
            rcases List.mem_append.1 hb with hb | hb
            · rcases List.mem_append.1 hb with hb | hb
              · simp at hb
                rcases hb with rfl | rfl <;> decide
              · exact hexL_ge h0 h b hb
            · simp at hb
              subst hb
              decide
          · exact encode_ge (by omega) b hb
theorem write_go_ge : ∀ l : List (Nat × Nat), ∀ b ∈ char_Write.go l, 32 ≤ b.toNat
  | [], b, hb => by
    unfold char_Write.go at hb
    simp at hb
    subst hb
    decide
  | x :: l, b, hb => by
    unfold char_Write.go at hb
    rcases List.mem_append.1 hb with hb | hb
    · exact one_ge (by omega) b hb
    · exact write_go_ge l b hb
theorem write_go_last : ∀ l : List (Nat × Nat), ∃ m, char_Write.go l = m ++ [39]
  | [] => ⟨[], by unfold char_Write.go; rfl⟩
  | x :: l => by
    obtain ⟨m, h⟩ := write_go_last l
    unfold char_Write.go
    exact ⟨_ ++ m, by rw [h, List.append_assoc]⟩
theorem writeV_small (a : ByteArray) (x : Nat) (hx : 255 ≤ x) (h : checkB a = true) (h2 : char_Bare.val a = true) : (writeV a).size ≤ x := by
  unfold writeV
  rw [if_pos h, if_pos h2]
  have := checkB_small h
  omega

end Go.Proofs.YtkniiinpkchjoaaDoor.Pure
set_option linter.unusedVariables false
set_option linter.unusedSimpArgs false
namespace Go.Proofs.YtkniiinpkchjoaaDoor.Pure
open Go Go.Own Go.RowKit Go.Proofs.YtkniiinpkchjoaaDoor.P Go.Proofs.YtkniiinpkchjoaaDoorW.PrintWords Go.Proofs.YtkniiinpkchjoaaDoorW.PrintLast

open Go.Lib
def chop : Nat → List UInt8 → List (Nat × Nat)
  | 0, _ => []
  | f + 1, l => if l = [] then [] else decodeL l :: chop f (l.drop (decodeL l).2)
def tag : Nat → List (Nat × Nat) → List (Nat × Nat)
  | _, [] => []
  | p, x :: t => (p, x.1) :: tag (p + x.2) t
def chopA (l : List UInt8) : List (Nat × Nat) := chop l.length l
theorem chop_nil (f : Nat) : chop f [] = [] := by cases f <;> rfl
theorem chop_fuel : ∀ (f g : Nat) (l : List UInt8), l.length ≤ f → l.length ≤ g → chop f l = chop g l
  | 0, g, l, h, _ => by
    have : l = [] := List.length_eq_zero_iff.1 (by omega)
    subst this
    rw [chop_nil, chop_nil]
  | f + 1, 0, l, _, h => by
    have : l = [] := List.length_eq_zero_iff.1 (by omega)
    subst this
    rw [chop_nil, chop_nil]
  | f + 1, g + 1, l, h1, h2 => by
    unfold chop
    split
    · rfl
    · have := decodeL_width l
      rw [chop_fuel f g (l.drop (decodeL l).2) (by rw [List.length_drop]; omega) (by rw [List.length_drop]; omega)]
theorem chopA_step {l : List UInt8} (h : l ≠ []) : chopA l = decodeL l :: chopA (l.drop (decodeL l).2) := by
  have hl : 0 < l.length := List.length_pos_iff.2 h
  have hw := decodeL_width l
  obtain ⟨n, hn⟩ : ∃ n, l.length = n + 1 := ⟨l.length - 1, by omega⟩
  unfold chopA
  rw [hn]
  conv => lhs; unfold chop
  rw [if_neg h]
  congr 1
  exact chop_fuel _ _ _ (by rw [List.length_drop]; omega) (Nat.le_refl _)
theorem chopA_nil : chopA [] = [] := rfl
theorem runesAt_tag (s : ByteArray) : ∀ f pos, pos ≤ s.size → runesAt s f pos = tag pos (chop f (s.data.toList.drop pos))
  | 0, pos, _ => rfl
  | f + 1, pos, hp => by
    have hlen : s.data.toList.length = s.size := data_length s
    unfold runesAt chop
    by_cases h : pos < s.size
    · have hne : s.data.toList.drop pos ≠ [] := by
        intro e
        have := congrArg List.length e
        simp only [List.length_drop, List.length_nil] at this
        omega
      have he := decode_end s pos h
      rw [if_pos h, if_neg hne, decodeL_drop, tag, runesAt_tag s f _ he, List.drop_drop]
    · have hne : s.data.toList.drop pos = [] := List.drop_eq_nil_of_le (by omega)
      rw [if_neg h, if_pos hne, tag]
theorem runesOf_tag (s : ByteArray) : runesOf s = tag 0 (chopA s.data.toList) := by
  unfold runesOf chopA
  rw [runesAt_tag s _ 0 (by omega), List.drop_zero, data_length]
theorem write_go_tag : ∀ (cs : List (Nat × Nat)) (p : Nat), char_Write.go (tag p cs) = (cs.flatMap fun x => char_Write.one (x.1 : Int)) ++ [39]
  | [], p => by unfold tag char_Write.go; rfl
  | x :: cs, p => by
    unfold tag char_Write.go
    rw [write_go_tag cs, List.flatMap_cons, List.append_assoc]
theorem validD_chop : ∀ (n : Nat) (l : List UInt8), l.length ≤ n → (validD l = true ↔ ∀ x ∈ chopA l, ¬ (x.1 = 65533 ∧ x.2 = 1))
  | 0, l, h => by
    have : l = [] := List.length_eq_zero_iff.1 (by omega)
    subst this
    rw [chopA_nil, validD_nil]
    simp
  | n + 1, l, h => by
    by_cases hl : l = []
    · subst hl
      rw [chopA_nil, validD_nil]
      simp
    · have hw := decodeL_width l
      have ih := validD_chop n (l.drop (decodeL l).2) (by rw [List.length_drop]; omega)
      rw [validD_step l hl, chopA_step hl]
      by_cases hb : (decodeL l).1 = 65533 ∧ (decodeL l).2 = 1
      · rw [if_pos hb]
        constructor
        · intro x; cases x
        · intro x
          exact absurd hb (x _ (List.mem_cons_self ..))
      · rw [if_neg hb, ih]
        constructor
        · intro x y hy
          rcases List.mem_cons.1 hy with rfl | hy
          · exact hb
          · exact x y hy
        · intro x y hy
          exact x y (List.mem_cons_of_mem _ hy)
theorem chop_encode : ∀ (n : Nat) (l : List UInt8), l.length ≤ n → (∀ x ∈ chopA l, ¬ (x.1 = 65533 ∧ x.2 = 1)) → ((chopA l).flatMap fun x => encodeRune (x.1 : Int)) = l
  | 0, l, h, _ => by
    have : l = [] := List.length_eq_zero_iff.1 (by omega)
    subst this
    rfl
  | n + 1, l, h, hv => by
    by_cases hl : l = []
    · subst hl; rfl
    · have hw := decodeL_width l
      rw [chopA_step hl] at hv ⊢
      rw [List.flatMap_cons, encode_decode l hl (hv _ (List.mem_cons_self ..)), chop_encode n _ (by rw [List.length_drop]; omega) (fun x hx => hv x (List.mem_cons_of_mem _ hx)), List.take_append_drop]
theorem chopA_runes (l : List UInt8) : ∀ (n : Nat), l.length ≤ n → ∀ x ∈ chopA l, x.1 ≤ 1114111 ∧ 1 ≤ x.2 := by
  intro n
  induction n generalizing l with
  | zero =>
    intro h x hx
    have : l = [] := List.length_eq_zero_iff.1 (by omega)
    subst this
    cases hx
  | succ n ih =>
    intro h x hx
    by_cases hl : l = []
    · subst hl; cases hx
    · have hw := decodeL_width l
      rw [chopA_step hl] at hx
      rcases List.mem_cons.1 hx with rfl | hx
      · exact ⟨decodeL_rune l, hw⟩
      · exact ih _ (by rw [List.length_drop]; omega) x hx

end Go.Proofs.YtkniiinpkchjoaaDoor.Pure
set_option linter.unusedVariables false
set_option linter.unusedSimpArgs false
namespace Go.Proofs.YtkniiinpkchjoaaDoor.Pure
open Go Go.Own Go.RowKit Go.Proofs.YtkniiinpkchjoaaDoor.P Go.Proofs.YtkniiinpkchjoaaDoorW.PrintWords Go.Proofs.YtkniiinpkchjoaaDoorW.PrintLast

open Go.Lib
def small1 (x : Nat × Nat) : Bool := decide (1 ≤ classN (x.1 : Int)) && decide (classN (x.1 : Int) ≤ 3)
def sign4 (x : Nat × Nat) : Bool := decide (classN (x.1 : Int) = 4)
theorem bare_go1 (n : Int) : ∀ (cs : List (Nat × Nat)) (p : Nat), 0 < p → char_Bare.go n 1 (tag p cs) = (decide (n ≤ 255) && cs.all small1)
  | [], p, _ => by unfold tag char_Bare.go; simp
  | x :: cs, p, hp => by
    unfold tag char_Bare.go
    dsimp only
    rw [if_neg (show ¬ p = 0 by omega), if_pos rfl, bare_go1 n cs (p + x.2) (by omega), List.all_cons]
    unfold small1
    by_cases h1 : classN (x.1 : Int) < 1
    · rw [if_pos h1, decide_eq_false (by omega : ¬ 1 ≤ classN (x.1 : Int))]; simp
    · rw [if_neg h1, decide_eq_true (by omega : 1 ≤ classN (x.1 : Int))]
      by_cases h2 : classN (x.1 : Int) > 3
      · rw [if_pos h2, decide_eq_false (by omega : ¬ classN (x.1 : Int) ≤ 3)]; simp
      · rw [if_neg h2, decide_eq_true (by omega : classN (x.1 : Int) ≤ 3)]; simp
theorem bare_go4 (n : Int) : ∀ (cs : List (Nat × Nat)) (p : Nat), 0 < p → char_Bare.go n 4 (tag p cs) = (decide (n ≤ 255) && cs.all sign4)
  | [], p, _ => by unfold tag char_Bare.go; simp
  | x :: cs, p, hp => by
    unfold tag char_Bare.go
    dsimp only
    rw [if_neg (show ¬ p = 0 by omega), if_neg (show ¬ (4 : Int) = 1 by decide), if_pos rfl, bare_go4 n cs (p + x.2) (by omega), List.all_cons]
    unfold sign4
    by_cases h1 : classN (x.1 : Int) = 4
    · rw [if_pos h1, decide_eq_true h1]; simp
    · rw [if_neg h1, decide_eq_false h1]; simp
/-- bare by its runes -/
def bareR (n : Int) : List (Nat × Nat) → Bool
  | [] => decide (n ≤ 255)
  | x :: cs => if classN (x.1 : Int) = 1 then decide (n ≤ 255) && cs.all small1 else if classN (x.1 : Int) = 4 then decide (n ≤ 255) && cs.all sign4 else false
theorem bare_go0 (n : Int) (cs : List (Nat × Nat)) (hw : ∀ x ∈ cs, 1 ≤ x.2) : char_Bare.go n 0 (tag 0 cs) = bareR n cs := by
  cases cs with
  | nil => unfold tag char_Bare.go bareR; rfl
  | cons x cs =>
    have hx := hw x (List.mem_cons_self ..)
    unfold tag char_Bare.go bareR
    dsimp only
    rw [if_pos rfl]
    by_cases h1 : classN (x.1 : Int) = 1
    · rw [h1, if_pos rfl, if_pos rfl, if_neg (by decide), if_neg (by decide), bare_go1 n cs _ (by omega)]
    · rw [if_neg h1, if_neg h1]
      by_cases h4 : classN (x.1 : Int) = 4
      · rw [h4, if_pos rfl, if_pos rfl, if_pos rfl, bare_go4 n cs _ (by omega)]
      · rw [if_neg h4, if_neg h4]
theorem small1_ne {x : Nat × Nat} (h : small1 x = true) : x.1 ≠ 65533 := by
  intro e
  unfold small1 at h
  rw [e] at h
  exact absurd h (by decide)
theorem sign4_ne {x : Nat × Nat} (h : sign4 x = true) : x.1 ≠ 65533 := by
  intro e
  unfold sign4 at h
  rw [e] at h
  exact absurd h (by decide)
theorem bareR_valid {n : Int} {cs : List (Nat × Nat)} (h : bareR n cs = true) : n ≤ 255 ∧ ∀ x ∈ cs, x.1 ≠ 65533 := by
  cases cs with
  | nil => unfold bareR at h; exact ⟨of_decide_eq_true h, fun x hx => by cases hx⟩
  | cons y cs =>
    simp only [bareR] at h
    split at h
    · rename_i h1
      rw [Bool.and_eq_true] at h
      refine ⟨of_decide_eq_true h.1, fun x hx => ?_⟩
      rcases List.mem_cons.1 hx with rfl | hx
      · intro e; rw [e] at h1; exact absurd h1 (by decide)
      · exact small1_ne (List.all_eq_true.1 h.2 x hx)
    · split at h
      · rename_i h1
        rw [Bool.and_eq_true] at h
        refine ⟨of_decide_eq_true h.1, fun x hx => ?_⟩
        rcases List.mem_cons.1 hx with rfl | hx
        · intro e; rw [e] at h1; exact absurd h1 (by decide)
        · exact sign4_ne (List.all_eq_true.1 h.2 x hx)
      · cases h
theorem ref_runes (s : ByteArray) (h : s.size ≤ 255) : ∀ (k : Nat) (t : ByteArray) (acc : List Int), t.size < k → t.size ≤ 255 → acc.length + t.size ≤ 255 → spinneyref02_Runes.l0 k t acc = some (acc ++ (chopA t.data.toList).map fun x => (x.1 : Int))
  | 0, t, acc, a, _, _ => by omega
  | k + 1, t, acc, a, b, c => by
    unfold spinneyref02_Runes.l0
    by_cases ht : t.size = 0
    · rw [if_neg (by omega)]
      have : t.data.toList = [] := List.length_eq_zero_iff.1 (by rw [data_length]; exact ht)
      rw [this, chopA_nil]
      simp
    · have hd : decodeGo t = decodeL t.data.toList := by
        unfold decodeGo
        rw [if_neg ht]
        have := decodeL_drop t 0
        rw [List.drop_zero] at this
        exact this.symm
      have hne : t.data.toList ≠ [] := by
        intro e
        have := data_length t
        rw [e] at this
        simp at this
        omega
      have hl := decodeL_le t.data.toList hne
      have hw := decodeL_width t.data.toList
      rw [data_length] at hl
      rw [if_pos (by omega)]
      unfold utf8_DecodeRuneInString.f
      rw [hd]
      simp only [Option.bind_some]
      rw [if_pos (by omega), if_pos (by omega), if_pos (by omega)]
      have hx : (t.extract ((((decodeL t.data.toList).2 : Nat) : Int)).toNat t.size).data.toList = t.data.toList.drop (decodeL t.data.toList).2 := by
        simp only [Int.toNat_natCast]
        rw [ByteArray.data_extract, Array.toList_extract]
        have := data_length t
        rw [List.extract_eq_take_drop]
        rw [← data_length t]
        exact List.take_of_length_le (by rw [List.length_drop]; omega)
      rw [ref_runes s h k _ _ (by rw [ByteArray.size_extract]; omega) (by rw [ByteArray.size_extract]; omega) (by rw [List.length_append, ByteArray.size_extract]; simp only [List.length_cons, List.length_nil]; omega), hx, chopA_step hne]
      simp
theorem ref_bare_loop (L : List Int) (hL : L.length ≤ 255) : ∀ (k i : Nat) (nm sg : Bool), i ≤ L.length → 30 + L.length < k + i → spinneyref02_Bare.l0 k nm sg L (L.length : Int) i = some ((nm && (L.drop i).all fun c => decide (classN c = 1) || decide (classN c = 2) || decide (classN c = 3)) || (sg && (L.drop i).all fun c => decide (classN c = 4)))
  | 0, i, nm, sg, a, b => by omega
  | k + 1, i, nm, sg, a, b => by
    unfold spinneyref02_Bare.l0
    by_cases hi : i < L.length
    · have hr : rd L (i : Int) = L[i] := by
        unfold rd
        simp [hi]
      have hw2 : wrap64 ((i : Int) + 1) = ((i + 1 : Nat) : Int) := by unfold wrap64; omega
      rw [if_pos (by omega), if_pos (by omega), if_pos (by omega), ref_class _ k (by omega), Option.bind_some, hr, hw2, List.drop_eq_getElem_cons hi, List.all_cons, List.all_cons]
      have ih := fun nm sg => ref_bare_loop L hL k (i + 1) nm sg (by omega) (by omega)
      simp only [ih]
      generalize (List.drop (i + 1) L).all _ = A
      generalize (List.drop (i + 1) L).all _ = B
      generalize classN L[i] = t
      have e3 : ∀ z : Int, (t == z) = decide (t = z) := fun z => by by_cases h : t = z <;> simp [h]
      simp only [e3]
      by_cases t1 : t = 1
      · subst t1; cases nm <;> cases sg <;> simp
      · by_cases t2 : t = 2
        · subst t2; cases nm <;> cases sg <;> simp
        · cases nm <;> cases sg <;> simp [t1, t2]
    · have : i = L.length := by omega
      subst this
      rw [if_neg (by omega), List.drop_eq_nil_of_le (Nat.le_refl _)]
      cases nm <;> cases sg <;> rfl
theorem data_ext (a : ByteArray) (n : Nat) : (a.extract 0 n).data.toList = a.data.toList.take n := by
  rw [ByteArray.data_extract, Array.toList_extract, List.extract_eq_take_drop, List.drop_zero, Nat.sub_zero]
theorem preB_iff (a b : ByteArray) : preB a b = true ↔ a.data.toList.take b.size = b.data.toList := by
  unfold preB strings_HasPrefix.f stringslite_HasPrefix.f
  have la := data_length a
  have lb := data_length b
  by_cases h : b.size ≤ a.size
  · rw [if_pos (by omega), if_pos (by omega), if_pos (by omega)]
    simp only [Option.bind_some, Option.getD_some, Int.toNat_natCast, ByteArray.toList_eq, data_ext]
    exact beq_iff_eq
  · rw [if_neg (by omega)]
    simp only [Option.bind_some, Option.getD_some]
    constructor
    · intro x; cases x
    · intro x
      have := congrArg List.length x
      rw [List.length_take] at this
      omega
theorem val_eq (a : ByteArray) : char_Bare.val a = (if a.data.toList = [91, 93] then true else if a.data.toList = [123, 125] then true else if a.data.toList = [33] then true else if a.data.toList = [59] then true
    else if a.data.toList = [] then false else if a.data.toList = [46] then false else if a.data.toList.take 2 = [47, 42] then false else bareR a.size (chopA a.data.toList)) := by
  unfold char_Bare.val
  have hp := preB_iff a (⟨#[47, 42]⟩ : ByteArray)
  rw [runesOf_tag, bare_go0 _ _ (fun x hx => (chopA_runes _ _ (Nat.le_refl _) x hx).2)]
  simp only [ByteArray.toList_eq]
  have e : (preB a (⟨#[47, 42]⟩ : ByteArray) = true) = (a.data.toList.take 2 = [47, 42]) := propext hp
  simp only [e]
theorem bare_check {a : ByteArray} (h : char_Bare.val a = true) : checkB a = true := by
  have hl := data_length a
  rw [val_eq] at h
  unfold checkB
  split at h
  · rename_i e; rw [e] at hl ⊢; rw [← hl]; decide +kernel
  split at h
  · rename_i e; rw [e] at hl ⊢; rw [← hl]; decide +kernel
  split at h
  · rename_i e; rw [e] at hl ⊢; rw [← hl]; decide +kernel
  split at h
  · rename_i e; rw [e] at hl ⊢; rw [← hl]; decide +kernel
  split at h
  · cases h
  split at h
  · cases h
  split at h
  · cases h
  have h2 := bareR_valid h
  rw [Bool.and_eq_true]
  exact ⟨decide_eq_true (by omega), (validD_chop _ _ (Nat.le_refl _)).2 (fun x hx hb => h2.2 x hx hb.1)⟩
theorem bareR_ref {n : Int} (hn : n ≤ 255) (x : Nat × Nat) (cs : List (Nat × Nat)) :
    ((decide (classN (x.1 : Int) = 1) && (((x :: cs).map fun y => (y.1 : Int)).all fun c => decide (classN c = 1) || decide (classN c = 2) || decide (classN c = 3))) || (true && ((x :: cs).map fun y => (y.1 : Int)).all fun c => decide (classN c = 4))) = bareR n (x :: cs) := by
  have e1 : ((cs.map fun y => (y.1 : Int)).all fun c => decide (classN c = 1) || decide (classN c = 2) || decide (classN c = 3)) = cs.all small1 := by
    rw [List.all_map]
    congr 1
    funext y
    unfold small1
    simp only [Function.comp]
    by_cases h1 : classN (y.1 : Int) = 1
    · rw [h1]; rfl
    · by_cases h2 : classN (y.1 : Int) = 2
      · rw [h2]; rfl
      · by_cases h3 : classN (y.1 : Int) = 3
        · rw [h3]; rfl
        · rw [decide_eq_false h1, decide_eq_false h2, decide_eq_false h3]
          by_cases h4 : 1 ≤ classN (y.1 : Int)
          · rw [decide_eq_false (by omega : ¬ classN (y.1 : Int) ≤ 3)]; simp
          · rw [decide_eq_false h4]; simp
  have e2 : ((cs.map fun y => (y.1 : Int)).all fun c => decide (classN c = 4)) = cs.all sign4 := by
    rw [List.all_map]
    rfl
  simp only [bareR, List.map_cons, List.all_cons, e1, e2]
  by_cases h1 : classN (x.1 : Int) = 1
  · rw [if_pos h1, h1, decide_eq_true hn]
    cases cs.all small1 <;> cases cs.all sign4 <;> rfl
  · rw [if_neg h1, decide_eq_false h1]
    by_cases h4 : classN (x.1 : Int) = 4
    · rw [if_pos h4, decide_eq_true h4, decide_eq_true hn]
      simp
    · rw [if_neg h4, decide_eq_false h4]
      simp
theorem ref_bare (a : ByteArray) (k : Nat) (hk : 400 ≤ k) : spinneyref02_Bare.f k a = some (char_Bare.val a) := by
  refine leO_up (f := fun k => spinneyref02_Bare.f k a) (fun k => spinneyref02_Bare.mono _ k) hk ?_
  show spinneyref02_Bare.f 400 a = _
  unfold spinneyref02_Bare.f
  rw [ref_check_val, Option.bind_some]
  by_cases hc : checkB a = true
  · rw [if_pos hc]
    have ha := checkB_small hc
    have hl := data_length a
    have hv := val_eq a
    simp only [ByteArray.toList_eq, data_ext]
    generalize hL : a.data.toList = l at hl hv
    have j1t : ∀ k, spinneyref02_Bare.j1 (k + 1) a true = some true := fun k => by rw [spinneyref02_Bare.j1, if_pos rfl]
    have j0t : ∀ k, spinneyref02_Bare.j0 (k + 1) a true = some false := fun k => by rw [spinneyref02_Bare.j0, if_pos rfl]
    by_cases h0 : l = []
    · subst h0
      rw [if_pos rfl, j0t 399, hv]
      rfl
    rw [if_neg h0]
    by_cases h1 : l = [46]
    · subst h1
      rw [if_pos rfl, j0t 399, hv]
      rfl
    rw [if_neg h1]
    have key : spinneyref02_Bare.j0 400 a false = some (if l = [91, 93] then true else if l = [123, 125] then true else if l = [33] then true else if l = [59] then true else bareR a.size (chopA l)) := by
      rw [spinneyref02_Bare.j0]
      simp only [ByteArray.toList_eq, hL]
      rw [if_neg (by decide)]
      by_cases g1 : l = [91, 93]
      · rw [if_pos g1, if_pos g1, j1t 398]
      rw [if_neg g1, if_neg g1]
      by_cases g2 : l = [123, 125]
      · rw [if_pos g2, if_pos g2, j1t 398]
      rw [if_neg g2, if_neg g2]
      by_cases g3 : l = [33]
      · rw [if_pos g3, if_pos g3, j1t 398]
      rw [if_neg g3, if_neg g3]
      by_cases g4 : l = [59]
      · rw [if_pos g4, beq_iff_eq.mpr g4, j1t 398]
      rw [if_neg g4, beq_eq_false_iff_ne.mpr g4]
      rw [spinneyref02_Bare.j1, if_neg (by decide)]
      have hr : spinneyref02_Runes.f 398 a = some ((chopA l).map fun x => (x.1 : Int)) := by
        unfold spinneyref02_Runes.f
        rw [ref_runes a ha 398 a [] (by omega) ha (by simp; exact ha), hL, List.nil_append]
      rw [hr, Option.bind_some, chopA_step h0]
      generalize hx : decodeL l = x
      generalize hcs : chopA (l.drop x.2) = cs
      have hcl : (x :: cs).length ≤ 255 := by
        have h5 : chopA l = x :: cs := by rw [chopA_step h0, hx, hcs]
        have h6 : (chopA l).length ≤ l.length := by
          have : ∀ (f : Nat) (l : List UInt8), (chop f l).length ≤ f := by
            intro f
            induction f with
            | zero => intro l; simp [chop]
            | succ f ih => intro l; unfold chop; split
                           · simp
                           · rw [List.length_cons]; have := ih (l.drop (decodeL l).2); omega
          exact this _ _
        rw [← h5]
        omega
      have hr0 : rd ((x :: cs).map fun y => (y.1 : Int)) 0 = (x.1 : Int) := rfl
      rw [if_pos (by rw [List.length_map, List.length_cons]; omega), hr0, ref_class _ 398 (by omega), Option.bind_some]
      have hb := ref_bare_loop ((x :: cs).map fun y => (y.1 : Int)) (by rw [List.length_map]; exact hcl) 398 0 (classN (x.1 : Int) == 1) true (by omega) (by rw [List.length_map]; omega)
      rw [List.drop_zero] at hb
      have e3 : (classN (x.1 : Int) == 1) = decide (classN (x.1 : Int) = 1) := by by_cases h : classN (x.1 : Int) = 1 <;> simp [h]
      rw [e3] at hb ⊢
      rw [bareR_ref (n := (a.size : Int)) (by omega) x cs] at hb
      exact hb
    by_cases h2 : a.size ≤ 1
    · rw [if_neg (by omega), key, hv]
      have : ¬ l.take 2 = [47, 42] := by
        intro e
        have := congrArg List.length e
        rw [List.length_take] at this
        simp at this
        omega
      rw [if_neg h0, if_neg h1, if_neg this]
    · rw [if_pos (by omega), if_pos (by omega), if_pos (by omega)]
      by_cases hp : l.take 2 = [47, 42]
      · rw [beq_iff_eq.mpr hp, j0t 399, hv, if_neg h0, if_neg h1, if_pos hp]
        have n1 : l ≠ [91, 93] := by intro e; rw [e] at hp; exact absurd hp (by decide)
        have n2 : l ≠ [123, 125] := by intro e; rw [e] at hp; exact absurd hp (by decide)
        have n3 : l ≠ [33] := by intro e; rw [e] at hp; exact absurd hp (by decide)
        have n4 : l ≠ [59] := by intro e; rw [e] at hp; exact absurd hp (by decide)
        rw [if_neg n1, if_neg n2, if_neg n3, if_neg n4]
      · rw [beq_eq_false_iff_ne.mpr hp, key, hv, if_neg h0, if_neg h1, if_neg hp]
  · rw [if_neg hc]
    have : char_Bare.val a = false := by
      cases h : char_Bare.val a with
      | false => rfl
      | true => exact absurd (bare_check h) hc
    rw [this]
    rw [spinneyref02_Bare.j0, if_pos rfl]

end Go.Proofs.YtkniiinpkchjoaaDoor.Pure
set_option linter.unusedVariables false
set_option linter.unusedSimpArgs false
namespace Go.Proofs.YtkniiinpkchjoaaDoor.Pure
open Go Go.Own Go.RowKit Go.Proofs.YtkniiinpkchjoaaDoor.P Go.Proofs.YtkniiinpkchjoaaDoorW.PrintWords Go.Proofs.YtkniiinpkchjoaaDoorW.PrintLast

open Go.Lib
theorem tbR (z : Int) (m : Nat) (h : z = (m : Int)) (h2 : m < 256) : (z.toNat.toUInt8).toNat = m := by
  subst h
  show (UInt8.ofNat m).toNat = m
  rw [UInt8.toNat_ofNat']
  omega
theorem decode_encode {c : Int} (h : validRune c = true) (t : List UInt8) : decodeL (encodeRune c ++ t) = (c.toNat, (encodeRune c).length) := by
  unfold validRune at h
  have h := of_decide_eq_true h
  obtain ⟨r, rfl⟩ : ∃ r : Nat, c = (r : Int) := ⟨c.toNat, by omega⟩
  rw [decodeL_N]
  unfold encodeRune
  by_cases c1 : r < 128
  · rw [encodeRuneZ_one (by omega) (by omega)]
    have e0 := tbR (r : Int) r rfl (by omega)
    simp only [List.map_cons, List.map_nil, List.cons_append, List.nil_append, List.getD_cons_zero, e0]
    unfold decodeN
    rw [if_pos c1]
    simp
  by_cases c2 : r < 2048
  · rw [encodeRuneZ_two (by omega) (by omega)]
    have e0 := tbR (192 + (r : Int) / 64) (192 + r / 64) (by omega) (by omega)
    have e1 := tbR (128 + (r : Int) % 64) (128 + r % 64) (by omega) (by omega)
    simp only [List.map_cons, List.map_nil, List.cons_append, List.nil_append, List.getD_cons_zero, List.getD_cons_succ, e0, e1]
    unfold decodeN
    rw [if_neg (by omega), if_pos ⟨by omega, by simp, by omega⟩, if_pos (by omega)]
    refine Prod.ext ?_ rfl
    show _ = r
    dsimp only
    omega
  by_cases c3 : r < 65536
  · rw [encodeRuneZ_three (by omega)]
    have e0 := tbR (224 + (r : Int) / 4096) (224 + r / 4096) (by omega) (by omega)
    have e1 := tbR (128 + (r : Int) / 64 % 64) (128 + r / 64 % 64) (by omega) (by omega)
    have e2 := tbR (128 + (r : Int) % 64) (128 + r % 64) (by omega) (by omega)
    simp only [List.map_cons, List.map_nil, List.cons_append, List.nil_append, List.getD_cons_zero, List.getD_cons_succ, e0, e1, e2]
    unfold decodeN
    rw [if_neg (by omega), if_neg (by omega), if_pos ⟨by omega, ⟨by simp, by omega⟩, by simp, by omega⟩, if_pos ⟨by omega, by omega⟩]
    refine Prod.ext ?_ rfl
    show _ = r
    dsimp only
    omega
  · rw [encodeRuneZ_four (by omega) (by omega)]
    have e0 := tbR (240 + (r : Int) / 262144) (240 + r / 262144) (by omega) (by omega)
    have e1 := tbR (128 + (r : Int) / 4096 % 64) (128 + r / 4096 % 64) (by omega) (by omega)
    have e2 := tbR (128 + (r : Int) / 64 % 64) (128 + r / 64 % 64) (by omega) (by omega)
    have e3 := tbR (128 + (r : Int) % 64) (128 + r % 64) (by omega) (by omega)
    simp only [List.map_cons, List.map_nil, List.cons_append, List.nil_append, List.getD_cons_zero, List.getD_cons_succ, e0, e1, e2, e3]
    unfold decodeN
    rw [if_neg (by omega), if_neg (by omega), if_neg (by omega), if_pos ⟨by omega, ⟨by simp, by omega⟩, ⟨by simp, by omega⟩, by simp, by omega⟩, if_pos ⟨by omega, by omega⟩]
    refine Prod.ext ?_ rfl
    show _ = r
    dsimp only
    omega
theorem encode_ne (c : Int) : encodeRune c ≠ [] := by
  unfold encodeRune encodeRuneZ
  repeat' split
  all_goals simp
theorem encode_ascii {c : Int} (h0 : 0 ≤ c) (h1 : c < 128) : encodeRune c = [c.toNat.toUInt8] := by
  unfold encodeRune
  rw [encodeRuneZ_one h0 (by omega)]
  rfl
theorem encode_width {c : Int} (h : validRune c = true) (h2 : (encodeRune c).length = 1) : c < 128 := by
  unfold validRune at h
  have h := of_decide_eq_true h
  by_cases h3 : c < 128
  · exact h3
  · exfalso
    unfold encodeRune encodeRuneZ at h2
    rw [if_neg (by omega)] at h2
    split at h2
    · simp at h2
    · split at h2
      · simp at h2
      · split at h2 <;> simp at h2
/-- a decoded rune that is no fault is one -/
theorem decode_valid (l : List UInt8) (h : ¬ ((decodeL l).1 = 65533 ∧ (decodeL l).2 = 1)) : validRune ((decodeL l).1 : Int) = true := by
  rw [decodeL_N] at h ⊢
  unfold validRune
  apply decide_eq_true
  have k0 := (l.getD 0 0).toNat_lt
  rcases decodeN_shape l.length (l.getD 0 0).toNat (l.getD 1 0).toNat (l.getD 2 0).toNat (l.getD 3 0).toNat with ⟨c, e⟩ | ⟨c1, c2, c3, cv, e⟩ | ⟨c1, c2, c3, c4, cv, cs, e⟩ | ⟨c1, c2, c3, c4, c5, cv, cw, e⟩ | e
  · rw [e]; dsimp only; omega
  · rw [e]; dsimp only; omega
  · rw [e]; dsimp only; omega
  · rw [e]; dsimp only; omega
  · rw [e]; dsimp only; omega
/-- the runes of what valid runes are written as -/
theorem chopA_encode : ∀ cs : List Int, (∀ c ∈ cs, validRune c = true) → chopA (cs.flatMap encodeRune) = cs.map fun c => (c.toNat, (encodeRune c).length)
  | [], _ => rfl
  | c :: cs, h => by
    have hc := h c (List.mem_cons_self ..)
    have hne : (c :: cs).flatMap encodeRune ≠ [] := by
      rw [List.flatMap_cons]
      intro e
      exact encode_ne c (List.append_eq_nil_iff.1 e).1
    rw [chopA_step hne, List.flatMap_cons, decode_encode hc, List.map_cons]
    dsimp only
    rw [List.drop_left, chopA_encode cs (fun x hx => h x (List.mem_cons_of_mem _ hx))]
theorem valid_encode (cs : List Int) (h : ∀ c ∈ cs, validRune c = true) : validD (cs.flatMap encodeRune) = true := by
  rw [validD_chop _ _ (Nat.le_refl _), chopA_encode cs h]
  intro x hx hb
  obtain ⟨c, hc, rfl⟩ := List.mem_map.1 hx
  dsimp only at hb
  have := encode_width (h c hc) hb.2
  omega
/-- what stands behind a \\, by bytes -/
def codeL (l : List UInt8) : Int × Int :=
  if indexByte l 92 < 1 then (0, 0) else if 6 < indexByte l 92 then (0, 0)
  else match hexGo 0 (l.take (indexByte l 92).toNat) with
    | none => (0, 0)
    | some v => if validRune v = true then ((v : Int), indexByte l 92 + 1) else (0, 0)
def escL : List UInt8 → Int × Int
  | [] => (0, 0)
  | b :: t => if b.toNat = 92 ∨ b.toNat = 39 then ((b.toNat : Int), 1) else if b.toNat = 110 then (10, 1) else if b.toNat = 116 then (9, 1)
    else if b.toNat = 120 then (if (codeL t).2 > 0 then ((codeL t).1, (codeL t).2 + 1) else (0, 0)) else (0, 0)
theorem codeL_le (l : List UInt8) : 0 ≤ (codeL l).2 ∧ (codeL l).2 ≤ 7 := by
  unfold codeL
  split
  · simp
  · split
    · simp
    · split
      · simp
      · split
        · dsimp only; omega
        · simp
theorem esc_eq (s : ByteArray) (hs : s.size ≤ 9223372036854775807) : escN s = escL s.data.toList := by
  have hl := data_length s
  unfold escN char_escape.f
  rw [ByteArray.toList_eq]
  cases h : s.data.toList with
  | nil => rfl
  | cons b t =>
    rw [h] at hl
    have hsz : 0 < s.size := by rw [← hl]; simp
    have hb : bt s 0 = (b.toNat : Int) := by
      rw [← bt_at s 0 hsz]
      have : s[0]'hsz = s.data.toList[0]'(by rw [h]; simp) := rfl
      show (((s[0]'hsz).toNat : Nat) : Int) = _
      rw [this]
      simp [h]
    have hx : (s.extract 1 s.size).data.toList = t := by
      have := data_cons s hsz
      rw [h] at this
      injection this with _ this
      exact this.symm
    have hcv : char_code.f (s.extract 1 s.size) = some (codeL t) := by
      unfold char_code.f
      rw [if_pos (by rw [ByteArray.size_extract]; omega)]
      unfold char_code.val codeL
      rw [hx]
      rfl
    have hc := codeL_le t
    have hbl := b.toNat_lt
    rw [if_neg (by simp), if_pos (by omega), hb]
    have hj : ∀ x : Bool, char_escape.j0 2 s (b.toNat : Int) (b.toNat : Int) x = some (if x = true then ((b.toNat : Int), 1) else if b.toNat = 110 then (10, 1) else if b.toNat = 116 then (9, 1)
      else if b.toNat = 120 then (if (codeL t).2 > 0 then ((codeL t).1, (codeL t).2 + 1) else (0, 0)) else (0, 0)) := by
      intro x
      rw [char_escape.j0]
      cases x with
      | true =>
        rw [if_pos rfl, if_pos rfl]
        have : wrap32 (b.toNat : Int) = (b.toNat : Int) := by unfold wrap32; omega
        rw [this]
      | false =>
        simp only [Bool.false_eq_true, if_false, hcv, Option.bind_some]
        by_cases c1 : b.toNat = 110
        · rw [if_pos c1, if_pos (by omega)]
        rw [if_neg c1, if_neg (by omega)]
        by_cases c2 : b.toNat = 116
        · rw [if_pos c2, if_pos (by omega)]
        rw [if_neg c2, if_neg (by omega)]
        by_cases c3 : b.toNat = 120
        · rw [if_pos c3, if_pos (by omega), if_pos (by omega)]
          by_cases c4 : (codeL t).2 > 0
          · rw [if_pos c4, if_pos c4]
            have : wrap64 ((codeL t).2 + 1) = (codeL t).2 + 1 := by unfold wrap64; omega
            rw [this]
          · rw [if_neg c4, if_neg c4]
        · rw [if_neg c3, if_neg (by omega)]
    rw [escL]
    by_cases c92 : b.toNat = 92
    · rw [if_pos (by omega), hj, Option.getD_some, if_pos (by rw [c92]; rfl), if_pos (Or.inl c92)]
    · rw [if_neg (by omega), hj, Option.getD_some]
      by_cases c39 : b.toNat = 39
      · rw [if_pos (by rw [c39]; rfl), if_pos (Or.inr c39)]
      · rw [if_neg (show ¬ ((b.toNat : Int) == 39) = true from fun e => by have := beq_iff_eq.1 e; omega), if_neg (show ¬ (b.toNat = 92 ∨ b.toNat = 39) by omega)]

end Go.Proofs.YtkniiinpkchjoaaDoor.Pure
set_option linter.unusedVariables false
set_option linter.unusedSimpArgs false
namespace Go.Proofs.YtkniiinpkchjoaaDoor.Pure
open Go Go.Own Go.RowKit Go.Proofs.YtkniiinpkchjoaaDoor.P Go.Proofs.YtkniiinpkchjoaaDoorW.PrintWords Go.Proofs.YtkniiinpkchjoaaDoorW.PrintLast

open Go.Lib
theorem tb (z : Int) (m : Nat) (h : z = (m : Int)) : z.toNat.toUInt8 = UInt8.ofNat m := by
  subst h
  rfl
theorem encode_data (c : Int) : (Utf8.encode c).data.toList = encodeRune c := by
  unfold encodeRune
  by_cases h0 : 0 ≤ c
  · obtain ⟨r, rfl⟩ : ∃ r : Nat, c = (r : Int) := ⟨c.toNat, by omega⟩
    by_cases c1 : r < 128
    · have v : Utf8.valid (r : Int) = true := by simp [Utf8.valid]; omega
      rw [encodeRuneZ_one (by omega) (by omega)]
      simp only [List.map_cons, List.map_nil]
      rw [tb _ r rfl]
      simp [Utf8.encode, v, c1]
    by_cases c2 : r < 2048
    · have v : Utf8.valid (r : Int) = true := by simp [Utf8.valid]; omega
      rw [encodeRuneZ_two (by omega) (by omega)]
      simp only [List.map_cons, List.map_nil]
      rw [tb _ (192 + r / 64) (by omega), tb _ (128 + r % 64) (by omega)]
      simp [Utf8.encode, v, c1, c2]
    by_cases hv : (55296 ≤ r ∧ r ≤ 57343) ∨ 1114111 < r
    · have v : Utf8.valid (r : Int) = false := by simp [Utf8.valid]; omega
      unfold encodeRuneZ
      rw [if_neg (by omega), if_neg (by omega), if_neg (by omega), if_neg (by omega)]
      simp [Utf8.encode, v, Utf8.runeError]
    by_cases c3 : r < 65536
    · have v : Utf8.valid (r : Int) = true := by simp [Utf8.valid]; omega
      rw [encodeRuneZ_three (by omega)]
      simp only [List.map_cons, List.map_nil]
      rw [tb _ (224 + r / 4096) (by omega), tb _ (128 + r / 64 % 64) (by omega), tb _ (128 + r % 64) (by omega)]
      simp [Utf8.encode, v, c1, c2, c3]
    · have v : Utf8.valid (r : Int) = true := by simp [Utf8.valid]; omega
      rw [encodeRuneZ_four (by omega) (by omega)]
      simp only [List.map_cons, List.map_nil]
      rw [tb _ (240 + r / 262144) (by omega), tb _ (128 + r / 4096 % 64) (by omega), tb _ (128 + r / 64 % 64) (by omega), tb _ (128 + r % 64) (by omega)]
      simp [Utf8.encode, v, c1, c2, c3]
  · have v : Utf8.valid c = false := by simp [Utf8.valid]; omega
    unfold encodeRuneZ
    rw [if_neg (by omega), if_neg (by omega), if_neg (by omega), if_neg (by omega)]
    simp [Utf8.encode, v, Utf8.runeError]
theorem hex_all : ∀ n : Fin 32, (spinneyref02_hex.f 3 (n.val : Int)).map (fun b => b.data.toList) = some (hexL (n.val : Int)) := by decide +kernel
theorem hex_val {c : Int} (h0 : 0 ≤ c) (h1 : c < 32) (k : Nat) (hk : 3 ≤ k) : ∃ r, spinneyref02_hex.f k c = some r ∧ r.data.toList = hexL c := by
  have := hex_all ⟨c.toNat, by omega⟩
  have e : ((c.toNat : Nat) : Int) = c := by omega
  simp only [e] at this
  obtain ⟨r, hr, hd⟩ := Option.map_eq_some_iff.1 this
  exact ⟨r, leO_up (f := fun k => spinneyref02_hex.f k c) (fun k => spinneyref02_hex.mono _ k) hk hr, hd⟩
theorem one_len (c : Int) : (char_Write.one c).length ≤ 5 := by
  have h4 := encode_len4 c
  have hh := hexL_len c
  unfold char_Write.one
  repeat' split
  all_goals ((try simp only [List.length_cons, List.length_append, List.length_nil]); omega)
theorem app_data (a b : ByteArray) : (a ++ b).data.toList = a.data.toList ++ b.data.toList := by
  rw [ByteArray.data_append, Array.toList_append]
theorem ref_write_loop (L : List Int) (hL : L.length ≤ 255) (hp : ∀ c ∈ L, 0 ≤ c) : ∀ (n k i : Nat) (out : ByteArray), L.length = n + i → 2 * n + 6 ≤ k → out.data.toList.length ≤ 5 * i + 5 →
    ∃ r, spinneyref02_Write.l0 k out L (L.length : Int) i = some r ∧ r.data.toList = out.data.toList ++ ((L.drop i).flatMap char_Write.one ++ [39])
  | 0, k, i, out, hn, hk, ho => by
    obtain ⟨k, rfl⟩ : ∃ j, k = j + 1 := ⟨k - 1, by omega⟩
    have hs := data_length out
    rw [spinneyref02_Write.l0, if_neg (by omega), if_pos (by omega)]
    refine ⟨_, rfl, ?_⟩
    rw [app_data, List.drop_eq_nil_of_le (by omega)]
    rfl
  | n + 1, k, i, out, hn, hk, ho => by
    obtain ⟨k, rfl⟩ : ∃ j, k = j + 2 := ⟨k - 2, by omega⟩
    have hi : i < L.length := by omega
    have hs := data_length out
    have hr : rd L (i : Int) = L[i] := by
      unfold rd
      simp [hi]
    have hw2 : wrap64 ((i : Int) + 1) = ((i + 1 : Nat) : Int) := by unfold wrap64; omega
    have hc := hp L[i] (List.getElem_mem hi)
    have ih := ref_write_loop L hL hp n k (i + 1)
    rw [List.drop_eq_getElem_cons hi, List.flatMap_cons]
    have h4 := encode_len4 L[i]
    have hed := encode_data L[i]
    have hes : (Utf8.encode L[i]).size = (encodeRune L[i]).length := by rw [← hed]; exact (data_length _).symm
    have h1l := one_len L[i]
    rw [spinneyref02_Write.l0, if_pos (by omega), if_pos (by omega), if_pos (by omega), hr]
    have fin : ∀ (x : ByteArray), x.data.toList = char_Write.one L[i] → ∃ r, spinneyref02_Write.l0 k (out ++ x) L (L.length : Int) ((i + 1 : Nat) : Int) = some r ∧ r.data.toList = out.data.toList ++ ((char_Write.one L[i] ++ (L.drop (i + 1)).flatMap char_Write.one) ++ [39]) := by
      intro x hx
      obtain ⟨r, h1, h2⟩ := ih (out ++ x) (by omega) (by omega) (by rw [app_data, hx, List.length_append]; omega)
      refine ⟨r, h1, ?_⟩
      rw [h2, app_data, hx]
      simp only [List.append_assoc]
    generalize L[i] = c at *
    have hj : ∀ b : Bool, (b = true → char_Write.one c = 92 :: encodeRune c) → (b = false → c ≠ 39 ∧ c ≠ 92) → ∃ r, spinneyref02_Write.j1 (k + 1) out c L (L.length : Int) i b = some r ∧ r.data.toList = out.data.toList ++ ((char_Write.one c ++ (L.drop (i + 1)).flatMap char_Write.one) ++ [39]) := by
      intro b hb1 hb2
      rw [spinneyref02_Write.j1, hw2]
      cases b with
      | true =>
        rw [if_pos rfl, if_pos (by omega), if_pos (by rw [ByteArray.size_append]; show out.size + (1 + _) ≤ _; omega)]
        exact fin _ (by rw [app_data, hb1 rfl, hed]; rfl)
      | false =>
        obtain ⟨n1, n2⟩ := hb2 rfl
        rw [if_neg (by decide)]
        unfold char_Write.one at fin ⊢
        rw [if_neg n1, if_neg n2] at fin ⊢
        by_cases c10 : c = 10
        · rw [if_pos c10, if_pos (by omega)]
          rw [if_pos c10] at fin ⊢
          exact fin _ rfl
        rw [if_neg c10] at fin ⊢
        rw [if_neg c10]
        by_cases c9 : c = 9
        · rw [if_pos c9, if_pos (by omega)]
          rw [if_pos c9] at fin ⊢
          exact fin _ rfl
        rw [if_neg c9] at fin ⊢
        rw [if_neg c9]
        by_cases c32 : c < 32
        · rw [if_pos c32]
          rw [if_pos c32] at fin ⊢
          obtain ⟨t, ht, hd⟩ := hex_val hc c32 k (by omega)
          have hts : t.size = (hexL c).length := by rw [← hd]; exact (data_length _).symm
          have hh := hexL_len c
          rw [ht, Option.bind_some, if_pos (by omega), if_pos (by rw [ByteArray.size_append]; show 2 + _ + 1 ≤ _; omega), if_pos (by rw [ByteArray.size_append, ByteArray.size_append]; show out.size + (2 + _ + 1) ≤ _; omega)]
          exact fin _ (by rw [app_data, app_data, hd])
        · rw [if_neg c32]
          rw [if_neg c32] at fin ⊢
          rw [if_pos (by omega)]
          exact fin _ hed
    by_cases c39 : c = 39
    · rw [if_pos c39]
      exact hj true (fun _ => by unfold char_Write.one; rw [if_pos c39]) (fun h => by cases h)
    · rw [if_neg c39]
      by_cases c92 : c = 92
      · rw [beq_iff_eq.mpr c92]
        exact hj true (fun _ => by unfold char_Write.one; rw [if_neg c39, if_pos c92]) (fun h => by cases h)
      · rw [beq_eq_false_iff_ne.mpr c92]
        exact hj false (fun h => by cases h) (fun _ => ⟨c39, c92⟩)
theorem quoted_data (a : ByteArray) : (char_Write.quoted a).data.toList = [39] ++ (((chopA a.data.toList).flatMap fun x => char_Write.one (x.1 : Int)) ++ [39]) := by
  have : (char_Write.quoted a).data.toList = [39] ++ char_Write.go (runesOf a) := rfl
  rw [this, runesOf_tag, write_go_tag]
theorem chop_len : ∀ (f : Nat) (l : List UInt8), (chop f l).length ≤ f
  | 0, l => by simp [chop]
  | f + 1, l => by
    unfold chop
    split
    · simp
    · rw [List.length_cons]; have := chop_len f (l.drop (decodeL l).2); omega
theorem ref_write (a : ByteArray) (k : Nat) (hk : 1000 ≤ k) : ∃ r, spinneyref02_Write.f k a = some r ∧ r.toList = (writeV a).toList := by
  unfold spinneyref02_Write.f writeV
  rw [ref_check_val, Option.bind_some]
  by_cases hc : checkB a = true
  · rw [if_pos hc, if_pos hc, ref_bare a k (by omega), Option.bind_some]
    by_cases hb : char_Bare.val a = true
    · rw [if_pos hb, if_pos hb]
      exact ⟨a, rfl, rfl⟩
    · rw [if_neg hb, if_neg hb]
      have ha := checkB_small hc
      have hr : spinneyref02_Runes.f k a = some ((chopA a.data.toList).map fun x => (x.1 : Int)) := by
        unfold spinneyref02_Runes.f
        rw [ref_runes a ha k a [] (by omega) ha (by simp; exact ha), List.nil_append]
      have hln : (chopA a.data.toList).length ≤ 255 := by
        have := chop_len a.data.toList.length a.data.toList
        have h2 := data_length a
        unfold chopA
        omega
      rw [hr, Option.bind_some]
      obtain ⟨r, h1, h2⟩ := ref_write_loop ((chopA a.data.toList).map fun x => (x.1 : Int)) (by rw [List.length_map]; exact hln) (by
        intro c hc
        obtain ⟨x, _, rfl⟩ := List.mem_map.1 hc
        omega) (chopA a.data.toList).length k 0 (⟨#[39]⟩ : ByteArray) (by rw [List.length_map]; omega) (by omega) (by show 1 ≤ _; omega)
      refine ⟨r, h1, ?_⟩
      rw [ByteArray.toList_eq, ByteArray.toList_eq, h2, quoted_data, List.drop_zero, List.flatMap_map]
  · rw [if_neg hc, if_neg hc]
    exact ⟨_, rfl, rfl⟩

end Go.Proofs.YtkniiinpkchjoaaDoor.Pure
set_option linter.unusedVariables false
set_option linter.unusedSimpArgs false
namespace Go.Proofs.YtkniiinpkchjoaaDoor.Pure
open Go Go.Own Go.RowKit Go.Proofs.YtkniiinpkchjoaaDoor.P Go.Proofs.YtkniiinpkchjoaaDoorW.PrintWords Go.Proofs.YtkniiinpkchjoaaDoorW.PrintLast

open Go.Lib
def valL (l : List UInt8) : Bool := if l = [91, 93] then true else if l = [123, 125] then true else if l = [33] then true else if l = [59] then true
    else if l = [] then false else if l = [46] then false else if l.take 2 = [47, 42] then false else bareR l.length (chopA l)
theorem val_L (a : ByteArray) : char_Bare.val a = valL a.data.toList := by
  rw [val_eq]
  unfold valL
  rw [data_length]
theorem class_inv {c : Int} (h : ¬ validRune c = true) : classN c = classN 65533 ∧ encodeRune c = encodeRune 65533 := by
  have hn : ¬ ((0 ≤ c ∧ c < 0xD800) ∨ (0xDFFF < c ∧ c ≤ 0x10FFFF)) := by
    intro x
    apply h
    unfold validRune
    exact decide_eq_true x
  refine ⟨by rw [classN_out c (by omega), classN_out 65533 (by omega)], ?_⟩
  have e : encodeRuneZ c = encodeRuneZ 65533 := by
    unfold encodeRuneZ
    rw [if_neg (by omega), if_neg (by omega), if_neg (by omega), if_neg (by omega)]
    decide
  unfold encodeRune
  rw [e]
/-- the runes of a text and one rune more -/
theorem chop_more (l : List UInt8) (hv : validD l = true) (c : Int) (hc : validRune c = true) : chopA (l ++ encodeRune c) = (((chopA l).map fun x => (x.1 : Int)) ++ [c]).map fun c => (c.toNat, (encodeRune c).length) := by
  have hvc := (validD_chop _ _ (Nat.le_refl _)).1 hv
  have e : l ++ encodeRune c = (((chopA l).map fun x => (x.1 : Int)) ++ [c]).flatMap encodeRune := by
    rw [List.flatMap_append, List.flatMap_map, chop_encode _ _ (Nat.le_refl _) hvc]
    simp
  have hall : ∀ y ∈ ((chopA l).map fun x => (x.1 : Int)) ++ [c], validRune y = true := by
    intro y hy
    rcases List.mem_append.1 hy with hy | hy
    · obtain ⟨x, hx, rfl⟩ := List.mem_map.1 hy
      have key : ∀ (n : Nat) (l : List UInt8), l.length ≤ n → (∀ x ∈ chopA l, ¬ (x.1 = 65533 ∧ x.2 = 1)) → ∀ x ∈ chopA l, validRune (x.1 : Int) = true := by
        intro n
        induction n with
        | zero =>
          intro l h _ x hx
          have : l = [] := List.length_eq_zero_iff.1 (by omega)
          subst this
          cases hx
        | succ n ih =>
          intro l h hv x hx
          by_cases hl : l = []
          · subst hl; cases hx
          · have hw := decodeL_width l
            rw [chopA_step hl] at hv hx
            rcases List.mem_cons.1 hx with rfl | hx
            · exact decode_valid l (hv _ (List.mem_cons_self ..))
            · exact ih _ (by rw [List.length_drop]; omega) (fun y hy => hv y (List.mem_cons_of_mem _ hy)) x hx
      exact key _ l (Nat.le_refl _) hvc x hx
    · simp at hy
      rw [hy]
      exact hc
  rw [e, chopA_encode _ hall]
theorem parts_true (s : ByteArray) (c : Int) : partsV s c = true := by
  unfold partsV
  by_cases hb : char_Bare.val s = true
  · rw [if_pos hb]
    by_cases h250 : (s.size : Int) > 250
    · rw [if_pos h250]
    rw [if_neg h250]
    have hlen := data_length s
    have hck := bare_check hb
    have hv : validD s.data.toList = true := by unfold checkB at hck; rw [Bool.and_eq_true] at hck; exact hck.2
    rw [val_L] at hb
    obtain ⟨c', hc', hk, henc, h42⟩ : ∃ c', validRune c' = true ∧ classN c = classN c' ∧ encodeRune c = encodeRune c' ∧ (c = 42 ↔ c' = 42) := by
      by_cases h : validRune c = true
      · exact ⟨c, h, rfl, rfl, Iff.rfl⟩
      · refine ⟨65533, by decide, (class_inv h).1, (class_inv h).2, ?_⟩
        constructor
        · intro e; subst e; exact absurd (by decide) h
        · intro e; exact absurd e (by decide)
    have hF : partsF s = classN ((decodeL s.data.toList).1 : Int) := by
      unfold partsF
      have := decodeL_drop s 0
      rw [List.drop_zero] at this
      rw [this]
    rw [val_L, hF, hk, ByteArray.toList_eq, app_data, encode_data, henc]
    have h4 := encode_len4 c'
    have hen := encode_ne c'
    have hmore := chop_more s.data.toList hv c' hc'
    generalize s.data.toList = l at *
    have hne : l ≠ [] := by intro e; rw [e] at hb; exact absurd hb (by decide +kernel)
    have hl0 : 0 < l.length := List.length_pos_iff.2 hne
    have he0 : 0 < (encodeRune c').length := List.length_pos_iff.2 hen
    by_cases hsp : l = [47] ∧ c = 42
    · rw [if_pos hsp, hsp.1, h42.1 hsp.2]
      decide +kernel
    rw [if_neg hsp]
    have long : ∀ m : List UInt8, m.length ≤ 1 → l ++ encodeRune c' ≠ m := by
      intro m hm e
      have := congrArg List.length e
      rw [List.length_append] at this
      omega
    have two : ∀ a b : UInt8, l ++ encodeRune c' = [a, b] → l = [a] := by
      intro a b e
      have h1 := congrArg List.length e
      rw [List.length_append] at h1
      simp only [List.length_cons, List.length_nil] at h1
      have h2 := congrArg (List.take 1) e
      rw [List.take_append_of_le_length (by omega), List.take_of_length_le (by omega)] at h2
      exact h2
    have n1 : l ++ encodeRune c' ≠ [91, 93] := by
      intro e
      rw [two _ _ e] at hb
      exact absurd hb (by decide +kernel)
    have n2 : l ++ encodeRune c' ≠ [123, 125] := by
      intro e
      rw [two _ _ e] at hb
      exact absurd hb (by decide +kernel)
    have n3 : (l ++ encodeRune c').take 2 ≠ [47, 42] := by
      intro e
      by_cases h2 : 2 ≤ l.length
      · rw [List.take_append_of_le_length h2] at e
        unfold valL at hb
        rw [e] at hb
        have m1 : l ≠ [91, 93] := by intro x; rw [x] at e; exact absurd e (by decide)
        have m2 : l ≠ [123, 125] := by intro x; rw [x] at e; exact absurd e (by decide)
        have m3 : l ≠ [33] := by intro x; rw [x] at e; exact absurd e (by decide)
        have m4 : l ≠ [59] := by intro x; rw [x] at e; exact absurd e (by decide)
        have m5 : l ≠ [46] := by intro x; rw [x] at e; exact absurd e (by decide)
        rw [if_neg m1, if_neg m2, if_neg m3, if_neg m4, if_neg hne, if_neg m5, if_pos rfl] at hb
        cases hb
      · have h1 : l.length = 1 := by omega
        cases l with
        | nil => exact hne rfl
        | cons a t =>
          have ht : t = [] := List.length_eq_zero_iff.1 (by rw [List.length_cons] at h1; omega)
          subst ht
          cases hx : encodeRune c' with
          | nil => exact hen hx
          | cons b r =>
            rw [hx] at e
            simp at e
            apply hsp
            refine ⟨by rw [e.1], h42.2 ?_⟩
            have hd := decode_encode hc' []
            rw [List.append_nil, hx, e.2, decodeL_ascii 42 r (by decide)] at hd
            have := congrArg Prod.fst hd
            have hvv : (0 ≤ c' ∧ c' < 0xD800) ∨ (0xDFFF < c' ∧ c' ≤ 0x10FFFF) := by unfold validRune at hc'; exact of_decide_eq_true hc'
            have e42 : (42 : Nat) = c'.toNat := this
            omega
    have hB : valL (l ++ encodeRune c') = bareR (l ++ encodeRune c').length (chopA (l ++ encodeRune c')) := by
      unfold valL
      rw [if_neg n1, if_neg n2, if_neg (long _ (by simp)), if_neg (long _ (by simp)), if_neg (long _ (by simp)), if_neg (long _ (by simp)), if_neg n3]
    have hn : (((l ++ encodeRune c').length : Nat) : Int) ≤ 255 := by rw [List.length_append]; omega
    rw [hB, hmore, chopA_step hne]
    have hb2 : (classN ((decodeL l).1 : Int) = 1 ∨ classN ((decodeL l).1 : Int) = 4) → bareR l.length (decodeL l :: chopA (l.drop (decodeL l).2)) = true := by
      intro hx
      have q1 : l ≠ [91, 93] := by intro e; rw [e] at hx; exact absurd hx (by decide +kernel)
      have q2 : l ≠ [123, 125] := by intro e; rw [e] at hx; exact absurd hx (by decide +kernel)
      have q3 : l ≠ [33] := by intro e; rw [e] at hx; exact absurd hx (by decide +kernel)
      have q4 : l ≠ [59] := by intro e; rw [e] at hx; exact absurd hx (by decide +kernel)
      rw [← chopA_step hne]
      unfold valL at hb
      rw [if_neg q1, if_neg q2, if_neg q3, if_neg q4, if_neg hne] at hb
      split at hb
      · cases hb
      · split at hb
        · cases hb
        · exact hb
    generalize decodeL l = x at hb2 ⊢
    generalize chopA (l.drop x.2) = xs at hb2 ⊢
    have hmap : ∀ (P : Nat × Nat → Bool), (∀ y z : Nat × Nat, y.1 = z.1 → P y = P z) → ((((xs.map fun x => (x.1 : Int)) ++ [c']).map fun c => (c.toNat, (encodeRune c).length)).all P) = (xs.all P && P (c'.toNat, (encodeRune c').length)) := by
      intro P hP
      rw [List.map_append, List.all_append, List.map_map, List.all_map]
      have : (P ∘ ((fun c : Int => (c.toNat, (encodeRune c).length)) ∘ fun x : Nat × Nat => (x.1 : Int))) = P := by
        funext y
        exact hP _ _ (by simp)
      rw [this]
      simp
    have hs1 := hmap small1 (fun y z h => by unfold small1; rw [h])
    have hs4 := hmap sign4 (fun y z h => by unfold sign4; rw [h])
    have hcn : ((c'.toNat : Nat) : Int) = c' := by
      have hvv : (0 ≤ c' ∧ c' < 0xD800) ∨ (0xDFFF < c' ∧ c' ≤ 0x10FFFF) := by unfold validRune at hc'; exact of_decide_eq_true hc'
      omega
    have hr : ∀ n : Int, bareR n ((((x :: xs).map fun x => (x.1 : Int)) ++ [c']).map fun c => (c.toNat, (encodeRune c).length)) = (if classN (x.1 : Int) = 1 then decide (n ≤ 255) && (xs.all small1 && small1 (c'.toNat, (encodeRune c').length)) else if classN (x.1 : Int) = 4 then decide (n ≤ 255) && (xs.all sign4 && sign4 (c'.toNat, (encodeRune c').length)) else false) := by
      intro n
      rw [← hs1, ← hs4]
      rfl
    rw [hr, decide_eq_true hn]
    by_cases f1 : classN (x.1 : Int) = 1
    · have h := hb2 (Or.inl f1)
      simp only [bareR] at h
      rw [if_pos f1, Bool.and_eq_true] at h
      rw [if_pos f1, if_pos f1, h.2]
      unfold small1
      dsimp only
      rw [hcn]
      generalize classN c' = k
      by_cases k1 : k = 1
      · subst k1; decide
      by_cases k2 : k = 2
      · subst k2; decide
      by_cases k3 : k = 3
      · subst k3; decide
      rw [beq_eq_false_iff_ne.mpr k1, beq_eq_false_iff_ne.mpr k2, beq_eq_false_iff_ne.mpr k3]
      by_cases k4 : 1 ≤ k
      · rw [decide_eq_false (by omega : ¬ k ≤ 3)]; simp
      · rw [decide_eq_false k4]; simp
    rw [if_neg f1, if_neg f1]
    by_cases f4 : classN (x.1 : Int) = 4
    · have h := hb2 (Or.inr f4)
      simp only [bareR] at h
      rw [if_neg f1, if_pos f4, Bool.and_eq_true] at h
      rw [if_pos f4, if_pos f4, h.2]
      unfold sign4
      dsimp only
      rw [hcn]
      by_cases k4 : classN c' = 4
      · rw [k4]; decide
      · rw [beq_eq_false_iff_ne.mpr k4, decide_eq_false k4]; decide
    · rw [if_neg f4, if_neg f4]
      rfl
  · rw [if_neg hb]
theorem CharParts : spinneylaw02_CharParts.Pure := by
  intro a c _ _
  refine ⟨live02 20 (by omega), parts_true a c, fun hb => ?_⟩
  rw [val_L] at hb
  have hlen := data_length a
  rcases Nat.eq_zero_or_pos a.size with h | h
  · have : a.data.toList = [] := List.length_eq_zero_iff.1 (by omega)
    rw [this] at hb
    exact absurd hb (by decide +kernel)
  · exact h

end Go.Proofs.YtkniiinpkchjoaaDoor.Pure
