/- A text's runes; what a class is. -- ONLYIF unicode/utf8.DecodeRuneInString -/
import Derived.Lib.OthersKept
import Derived.Lib.RuneBytes
import Derived.Lib.RuneCount
import Derived.Lib.ValidU
import Derived.Lib.DecodeN
import Derived.Shelf.Unicode.DecodeSlow
import Derived.Lib.Strings
import Derived.Below
set_option linter.unusedVariables false
namespace Go.Own
open Go Go.RowKit Go.Proofs Go.Shelf
/-- the runes from a place on: the place, the rune -/
def runesAt (s : ByteArray) : Nat → Nat → List (Nat × Nat)
  | 0, _ => []
  | f + 1, pos => if pos < s.size then (pos, (Utf8.decode s pos).1) :: runesAt s f (pos + (Utf8.decode s pos).2) else []
def runesOf (s : ByteArray) : List (Nat × Nat) := runesAt s s.size 0
theorem runesAt_end {s : ByteArray} {f pos : Nat} (h : ¬ pos < s.size) : runesAt s f pos = [] := by
  cases f with
  | zero => rfl
  | succ f => simp [runesAt, h]
theorem runesAt_step {s : ByteArray} {f pos : Nat} (h : pos < s.size) (hf : s.size ≤ pos + f) : ∃ f', f = f' + 1 ∧ s.size ≤ pos + (Utf8.decode s pos).2 + f' ∧ runesAt s f pos = (pos, (Utf8.decode s pos).1) :: runesAt s f' (pos + (Utf8.decode s pos).2) := by
  obtain ⟨f, rfl⟩ : ∃ j, f = j + 1 := ⟨f - 1, by omega⟩
  have := Lib.decode_width_pos s pos h
  exact ⟨f, rfl, by omega, by simp [runesAt, h]⟩
theorem decode_end (s : ByteArray) (pos : Nat) (h : pos < s.size) : pos + (Utf8.decode s pos).2 ≤ s.size := by
  rw [Lib.decode_at]
  unfold Lib.decodeN
  split
  · dsimp only; omega
  · split
    · split <;> (dsimp only; omega)
    · split
      · split <;> (dsimp only; omega)
      · split
        · split <;> (dsimp only; omega)
        · dsimp only; omega
/-- the tables that the library's decoder reads, and two other variables' cells -/
def TabB (w : World) : Prop := w.cell? ⟨7, 15, none⟩ = some (.int .u8 4)
def TabE (w : World) : Prop := ∃ t a, w.cell? ⟨3, 0, none⟩ = some (.iface t (.pointer (some a)))
def TabM (w : World) : Prop := ∃ m : Int, w.cell? ⟨2, 0, none⟩ = some (.int .i64 m)
def Tabs (w : World) : Prop := Lib.Utf8Tabs 0 1 w ∧ TabB w ∧ TabE w ∧ TabM w
theorem cell_lt_size {w : World} {b o : Nat} {v : Value} (h : w.cell? ⟨b, o, none⟩ = some v) : b < w.heap.size := by
  rcases Nat.lt_or_ge b w.heap.size with h2 | h2
  · exact h2
  · simp [World.cell?, Array.getElem?_eq_none h2] at h
theorem Tabs.below {w w' : World} (h : Tabs w) (hb : Below w.heap.size w w') : Tabs w' := by
  refine ⟨Utf8Tabs_below h.1 hb, ?_, ?_, ?_⟩
  · have h2 := h.2.1
    unfold TabB at h2 ⊢
    first | trivial | exact (hb.cell (p := ⟨_, _, none⟩) (cell_lt_size h2)).trans h2
  · have h3 := h.2.2.1
    unfold TabE at h3 ⊢
    first
      | trivial
      | (obtain ⟨t, a, h3⟩ := h3
         exact ⟨t, a, (hb.cell (p := ⟨_, _, none⟩) (cell_lt_size h3)).trans h3⟩)
  · have h4 := h.2.2.2
    unfold TabM at h4 ⊢
    first
      | trivial
      | (obtain ⟨m, h4⟩ := h4
         exact ⟨m, (hb.cell (p := ⟨_, _, none⟩) (cell_lt_size h4)).trans h4⟩)
end Go.Own
