/- An element of an array of constant strings; a box apart from a row. -- ONLYIF spinney/spinneylaw05.TokenBlanks -/
import Derived.Test.YtjichkjnodabiaaDoorWWords
set_option linter.unusedVariables false
namespace Go.Own
open Go Go.RowKit Go.Proofs.YtjichkjnodabiaaDoorW.PrintWords
def selB (l : List ByteArray) (j : Int) : ByteArray := l.getD j.toNat ⟨#[]⟩
/-- a block that is laid anew is none of a row's -/
theorem box_ne {α : Type} {d : Kd α} {e : Nat} {W : World} {base : Nat} {ok : Nat → Prop} {v : Value} {xs : List α} {g : Nat} (h : Kd.R d e W base ok v xs) (hg : g = W.heap.size) : some g ≠ v.ownBlock :=
  fun e2 => absurd ((Kd.R_bound h).1 g e2.symm).2.2.1 (by omega)
end Go.Own
