/- An element of an array of constant strings; a box apart from a row. -- ONLYIF spinney/spinneylaw05.TokenBlanks -/
import Derived.Test.YtjichkjnodabiaaDoorWWords
set_option linter.unusedVariables false
namespace Go.Own
open Go Go.RowKit Go.Proofs.YtjichkjnodabiaaDoorW.PrintWords
def selB (l : List ByteArray) (j : Int) : ByteArray := l.getD j.toNat ⟨#[]⟩
/-- a block that is laid anew is none of a row's -/
theorem box_ne {α : Type} {d : Kd α} {e : Nat} {W : World} {base : Nat} {ok : Nat → Prop} {v : Value} {xs : List α} {g : Nat} (h : Kd.R d e W base ok v xs) (hg : g = W.heap.size) : some g ≠ v.ownBlock :=
  fun e2 => absurd ((Kd.R_bound h).1 g e2.symm).2.2.1 (by omega)
theorem cell_lt {w : World} {p : Addr} {v : Value} (h : w.cell? p = some v) : p.block < w.heap.size := by
  rcases Nat.lt_or_ge p.block w.heap.size with h2 | h2
  · exact h2
  · simp [World.cell?, Array.getElem?_eq_none h2] at h
/-- an element's cell is apart from a block that is laid anew -/
theorem box_far {w : World} {ad : Addr} {k : Nat} {v : Value} {g : Nat} (h : w.cell? (ad.add k) = some v) (hg : g = w.heap.size) : ad.block ≠ g := by
  have h1 := cell_lt h
  have h2 : (ad.add k).block = ad.block := by unfold Addr.add; split <;> rfl
  omega
/-- a store turns no cell into none -/
@[go_sem] theorem isSome_setCell (w : World) (a b : Addr) (v : Value) : ((w.setCell a v).cell? b).isSome = (w.cell? b).isSome := by
  by_cases e : a = b
  · subst e
    cases h : w.cell? a with
    | some u => rw [World.cell?_setCell_same w a v h]; rfl
    | none =>
      simp only [World.cell?] at h ⊢
      simp only [World.setCell, Array.getElem?_modify, if_true]
      cases hh : w.heap[a.block]? with
      | none => simp
      | some x =>
        rw [hh] at h
        cases x <;> simp_all
  · rw [World.cell?_setCell_other w a b v e]
end Go.Own
