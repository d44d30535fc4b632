/- Plain words: decimal digits; an array variable of the call's own as one block. -/
import Derived.WalkKit
import Derived.Below
import Derived.Deep.Draws
import Derived.Laws.BytesArg
import Derived.Laws.Slices
import Derived.Laws.CopyOwn
set_option linter.unusedVariables false
set_option linter.unusedSimpArgs false
namespace Go.Own
open Go Go.RowKit

/-- the decimal digits of a number, as bytes -/
def digs (n : Nat) : List UInt8 := if n < 10 then [UInt8.ofNat (48 + n)] else digs (n / 10) ++ [UInt8.ofNat (48 + n % 10)]
termination_by n
decreasing_by omega

theorem digs_len (k : Nat) : ∀ n, n < 10 ^ (k + 1) → (digs n).length ≤ k + 1 := by
  induction k with
  | zero => intro n h; unfold digs; simp at h; simp [h]
  | succ k ih =>
    intro n h
    unfold digs
    split
    · simp
    · have := ih (n / 10) (by rw [Nat.pow_succ] at h; omega)
      simp
      omega
theorem digs_pos (n : Nat) : 1 ≤ (digs n).length := by unfold digs; split <;> simp

/-- a number's text -/
def textB (a : Int) : List UInt8 := if a < 0 then 45 :: digs a.natAbs else digs a.natAbs

/-- block b holds just these cells, and may be written -/
structure ArrAt (W : World) (b : Nat) (cs : Array Value) : Prop where
  cell : ∀ i, W.cell? ⟨b, i, none⟩ = cs[i]?
  free : ∀ i, W.frozen? ⟨b, i, none⟩ = false

theorem ArrAt.set {W : World} {b : Nat} {cs : Array Value} (h : ArrAt W b cs) (q : Nat) (v : Value) (hq : q < cs.size) : ArrAt (W.setCell ⟨b, q, none⟩ v) b (cs.setIfInBounds q v) := by
  refine ⟨fun i => ?_, fun i => by rw [World.frozen?_setCell]; exact h.free i⟩
  by_cases e : q = i
  · subst e
    rw [World.cell?_setCell_same W _ v (u := cs[q]) (by rw [h.cell]; simp [hq])]
    simp [hq]
  · rw [World.cell?_setCell_other _ _ _ _ (by simp [e]), h.cell]
    exact (Array.getElem?_setIfInBounds_ne e).symm
theorem ArrAt.drewN {W : World} {b : Nat} {cs : Array Value} (h : ArrAt W b cs) (n : Nat) : ArrAt (W.drewN n) b cs := ⟨h.cell, h.free⟩
theorem ArrAt.alloc (W : World) (cs : Array Value) (t : Nat) : ArrAt (W.alloc (.cells cs t)) W.heap.size cs := ⟨fun i => World.cell?_alloc_at cs t _ i rfl, fun i => World.frozen?_alloc_at cs t _ i rfl⟩

/-- a run of bytes of such a block, as a string -/
theorem conv_arr {P : Program} {W : World} {b q : Nat} {cs : Array Value} (h : ArrAt W b cs) (src e dst : Nat) (hs : P.underlying src = some (.slice e)) (he : P.underlying e = some (.int .u8)) (hd : P.underlying dst = some .string)
    (l : List UInt8) (n c : Nat) (hl : ∀ i, i < n → cs[q + i]? = (l[i]?).map (fun (b : UInt8) => Value.int .u8 b.toNat)) (hn : n = l.length) :
    (convert src dst (.slice (some ⟨b, q, none⟩) n c)).run P W = .ok (.string ⟨l.toArray⟩) W := by
  have := run_convert_bytes_arg (P := P) W src e hs he b q n c (l.map fun b => (b.toNat : Int)) (by simp [hn]) (fun i hi => by
    rw [h.cell, hl i hi]
    subst hn
    simp [hi]) dst hd
  rw [this]
  simp [strOfNums, Function.comp_def]

end Go.Own
