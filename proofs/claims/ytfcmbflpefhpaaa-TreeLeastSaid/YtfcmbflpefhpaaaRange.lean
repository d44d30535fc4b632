/- The kit's words for a range over a function. -/
import Derived.RangeFuncNested
import Derived.RangeFuncBound
import Derived.RangeFuncCalls
import Derived.RangeFuncLeaves
import Derived.Shelf.Abstract
import Derived.Shelf.RegionOpen
import Derived.WalkKit
import Derived.OwnWalkIn
import Derived.TacticsInMore
import Derived.LoopNIn
import Derived.LoopIn
import Derived.Deep.RegionWith
set_option linter.unusedVariables false
namespace Go.Own
open Go Go.RowKit
/-- a block of cells -/
def BoxN (W : World) (B : Nat) (t : TypeId) (cs : Array Value) : Prop := W.heap[B]? = some (.cells cs t (0, 0))
theorem BoxN.lt {W : World} {B : Nat} {t : TypeId} {cs : Array Value} (h : BoxN W B t cs) : B < W.heap.size := (Array.getElem?_eq_some_iff.1 h).1
theorem BoxN.cell {W : World} {B : Nat} {t : TypeId} {cs : Array Value} (h : BoxN W B t cs) (j : Nat) : W.cell? ⟨B, j, none⟩ = cs[j]? := by
  simp [World.cell?, show W.heap[B]? = _ from h]
theorem BoxN.frozen {W : World} {B : Nat} {t : TypeId} {cs : Array Value} (h : BoxN W B t cs) (j : Nat) : W.frozen? ⟨B, j, none⟩ = false := by simp [World.frozen?, show W.heap[B]? = _ from h]
theorem BoxN.new (W : World) (t : TypeId) (cs : Array Value) : BoxN (W.alloc (.cells cs t)) W.heap.size t cs := World.alloc_heap_new W _
theorem BoxN.kept {W W' : World} {row : Option Nat} {B : Nat} {t : TypeId} {cs : Array Value} (h : BoxN W B t cs) (hg : W.grownBy W' row) (hne : some B ≠ row) : BoxN W' B t cs := (hg.block B h.lt hne).trans h
theorem BoxN.alloc {W : World} {B : Nat} {t : TypeId} {cs : Array Value} (h : BoxN W B t cs) (o : Obj) : BoxN (W.alloc o) B t cs := h.kept (World.grownBy_alloc W o none) (by simp)
theorem BoxN.below {W W' : World} {B n : Nat} {t : TypeId} {cs : Array Value} (h : BoxN W B t cs) (hb : Below n W W') (hn : B < n) : BoxN W' B t cs := (hb.block B hn).trans h
theorem boxN_own {β : Type} (B : Nat) (t : TypeId) (f : β → Array Value) : Own (fun s W => BoxN W B t (f s)) := fun s X Y row hs hg hrow =>
  hs.kept hg (fun e => by obtain ⟨o, ho, hc⟩ := hrow B e.symm; rw [show X.heap[B]? = _ from hs] at ho; cases ho; cases hc)
end Go.Own
