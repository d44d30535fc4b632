/- Plain words: a text of digits, read. -/
import Derived.Laws.RangeAny
import Derived.Laws.Strings
import Derived.WalkKit
import Derived.Below
set_option linter.unusedVariables false
set_option linter.unusedSimpArgs false
namespace Go.Own
open Go Go.RowKit

theorem below_iter (w : World) (t : ByteArray) (pos : Nat) : Below w.heap.size w (w.iter t pos) := (Below.refl _ _).alloc (Nat.le_refl _) _

/-- the digits of a text: the number (modulo 2^64), and whether it was ever beyond 2^63; none: another byte -/
def scan : List UInt8 → Int → Bool → Option (Int × Bool)
  | [], n, far => some (n, far)
  | c :: l, n, far => if c.toNat < 48 then none else if 57 < c.toNat then none else scan l ((10 * n + ((c.toNat : Int) - 48)) % 18446744073709551616) (far || decide (n > (9223372036854775808 - ((c.toNat : Int) - 48)) / 10))

/-- what Read tells of a text -/
def readL (l : List UInt8) : Int × Int :=
  if l.head? = some 45 then
    (if l.drop 1 = [] then (0, 20) else
    match scan (l.drop 1) 0 false with
    | none => (0, 20)
    | some (n, far) => if far = true then (0, 10) else (wrap64 (-(wrap64 n)), 0))
  else if l = [] then (0, 20) else
    match scan l 0 false with
    | none => (0, 20)
    | some (n, far) => if (far || decide (n > 9223372036854775807)) = true then (0, 10) else (wrap64 n, 0)

theorem scan_drop (t : ByteArray) (pos : Nat) (h : pos < t.size) : t.data.toList.drop pos = t[pos] :: t.data.toList.drop (pos + 1) := by
  rw [List.drop_eq_getElem_cons (by simpa using h)]
  rfl


theorem size_len (s : ByteArray) : s.size = s.data.toList.length := by simp
theorem isEmpty_size (s : ByteArray) : s.toList.isEmpty = decide (s.size = 0) := by
  rw [ByteArray.toList_eq, size_len]
  cases h : s.data.toList <;> simp
theorem toList_ne (s : ByteArray) (h : 0 < s.size) : s.toList.isEmpty = false := by
  rw [isEmpty_size, decide_eq_false (by omega)]
theorem toList_nil (s : ByteArray) (h : ¬ 0 < s.size) : s.toList.isEmpty = true := by
  rw [isEmpty_size, decide_eq_true (by omega)]
theorem data_cons (s : ByteArray) (h : 0 < s.size) : s.data.toList = s[0] :: (s.extract 1 s.size).data.toList := by
  have := scan_drop s 0 h
  simp only [List.drop_zero, Nat.zero_add] at this
  rw [this]
  simp [ByteArray.data_extract, Array.toList_extract]
  rw [List.take_of_length_le (by simp)]
theorem readL_nil (s : ByteArray) (h : ¬ 0 < s.size) : readL s.data.toList = (0, 20) := by
  have : s.data.toList = [] := by
    apply List.eq_nil_of_length_eq_zero
    rw [← size_len]; omega
  simp [readL, this]
theorem readL_minus (s t : ByteArray) (h : 0 < s.size) (hm : ((s[0].toNat : Int) == 45) = true) (ht : s.extract 1 s.size = t) (he : t.toList.isEmpty = false) :
    readL s.data.toList = match scan t.data.toList 0 false with
    | none => (0, 20)
    | some (n, far) => if far = true then (0, 10) else (wrap64 (-(wrap64 n)), 0) := by
  have h45 : s[0] = 45 := by
    have : (s[0].toNat : Int) = 45 := by simpa using hm
    exact UInt8.toNat_inj.mp (by simpa using (by omega : s[0].toNat = 45))
  rw [data_cons s h, ht, h45]
  rw [isEmpty_size] at he
  have hne : t.data.toList ≠ [] := by
    intro e
    have h1 := congrArg List.length e
    have h2 := size_len t
    simp only [List.length_nil] at h1
    exact of_decide_eq_false he (by omega)
  simp only [readL, List.head?_cons, if_true, List.drop_succ_cons, List.drop_zero, if_neg hne]
theorem readL_minus_nil (s : ByteArray) (h : 0 < s.size) (hm : ((s[0].toNat : Int) == 45) = true) (he : (s.extract 1 s.size).toList.isEmpty = true) : readL s.data.toList = (0, 20) := by
  have h45 : s[0] = 45 := by
    have : (s[0].toNat : Int) = 45 := by simpa using hm
    exact UInt8.toNat_inj.mp (by simpa using (by omega : s[0].toNat = 45))
  rw [data_cons s h, h45]
  rw [isEmpty_size] at he
  have hne : (s.extract 1 s.size).data.toList = [] := by
    apply List.eq_nil_of_length_eq_zero
    simpa using he
  simp only [readL, List.head?_cons, if_true, List.drop_succ_cons, List.drop_zero, if_pos hne]
theorem readL_plain (s : ByteArray) (h : 0 < s.size) (hm : ((s[0].toNat : Int) == 45) = false) :
    readL s.data.toList = match scan s.data.toList 0 false with
    | none => (0, 20)
    | some (n, far) => if (far || decide (n > 9223372036854775807)) = true then (0, 10) else (wrap64 n, 0) := by
  have h45 : ¬ (some s[0] = some 45) := by
    intro e
    injection e with e
    rw [e] at hm
    simp at hm
  have hne : s.data.toList ≠ [] := by rw [data_cons s h]; simp
  unfold readL
  rw [if_neg (by rw [data_cons s h]; simpa using h45), if_neg hne]
theorem scan_lo (t : ByteArray) {pos : Nat} {n : Int} {far : Bool} {X : Option (Int × Bool)} (hp : pos < t.size) (h : scan (t.data.toList.drop pos) n far = X) (hc : (t[pos]'hp).toNat < 48) : X = none := by
  rw [scan_drop t pos hp, scan, if_pos hc] at h
  exact h.symm
theorem scan_hi (t : ByteArray) {pos : Nat} {n : Int} {far : Bool} {X : Option (Int × Bool)} (hp : pos < t.size) (h : scan (t.data.toList.drop pos) n far = X) (hc : 57 < (t[pos]'hp).toNat) : X = none := by
  rw [scan_drop t pos hp, scan, if_neg (by omega), if_pos hc] at h
  exact h.symm
theorem scan_step (t : ByteArray) {pos : Nat} {n : Int} {far : Bool} {X : Option (Int × Bool)} (hp : pos < t.size) (h : scan (t.data.toList.drop pos) n far = X) (h1 : ¬ (t[pos]'hp).toNat < 48) (h2 : ¬ 57 < (t[pos]'hp).toNat) :
    scan (t.data.toList.drop (pos + 1)) ((10 * n + (((t[pos]'hp).toNat : Int) - 48)) % 18446744073709551616) (far || decide (n > (9223372036854775808 - (((t[pos]'hp).toNat : Int) - 48)) / 10)) = X := by
  rw [scan_drop t pos hp, scan, if_neg h1, if_neg h2] at h
  exact h
theorem scan_end (t : ByteArray) {pos : Nat} {n : Int} {far : Bool} {X : Option (Int × Bool)} (hp : ¬ pos < t.size) (h : scan (t.data.toList.drop pos) n far = X) : X = some (n, far) := by
  rw [List.drop_eq_nil_of_le (by simpa using Nat.le_of_not_lt hp), scan] at h
  exact h.symm
end Go.Own
