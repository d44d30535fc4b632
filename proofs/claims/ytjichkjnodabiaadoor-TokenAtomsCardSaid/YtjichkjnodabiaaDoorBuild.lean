/- A Builder of the call's own beside a text's iterator. -- ONLYIF (*strings.Builder).WriteRune -/
import Derived.Lib.OthersKept
import Derived.Lib.RuneBytes
import Derived.Lib.UnsafeStr
import Derived.Lib.AppendStr
import Derived.Below
set_option linter.unusedVariables false
namespace Go.Own
open Go Go.RowKit
theorem bldAt_below {T e : TypeId} {B b : Nat} {p : Value} {bs : List Value} {W W1 : World} (h : Lib.BuilderAtF T e B b p bs W) (hb : Below W.heap.size W W1) : Lib.BuilderAtF T e B b p bs W1 := by
  have hlt := h.lt
  obtain ⟨h1, v, h2, h3, h4⟩ := h
  refine ⟨h1, v, (hb.block b hlt).trans h2, ?_, h4⟩
  exact h3.kept (row := none) ⟨hb.os, hb.tape, hb.output, hb.size, fun k hk _ => hb.block k hk⟩ (Classical.em _)
theorem bld_below {T e : TypeId} {B b : Nat} {bs : List Value} {W W1 : World} (h : Lib.IsBuilderF T e B b bs W) (hb : Below W.heap.size W W1) : Lib.IsBuilderF T e B b bs W1 :=
  h.elim (fun x => .inl (bldAt_below x hb)) (fun x => .inr (bldAt_below x hb))
/-- block b is a Builder that holds acc; block k the iterator of s at pos; below B all is as in W0 -/
structure BIt (B b k : Nat) (s : ByteArray) (pos : Nat) (acc : List UInt8) (W0 wr : World) : Prop where
  bld : Lib.IsBuilderF 75 5 B b (Lib.byteCells acc) wr
  iter : wr.heap[k]? = some (.stringIter s pos)
  low : Below B W0 wr
  kb : k ≠ b
  Bk : B ≤ k
theorem BIt.hB {B b k : Nat} {s : ByteArray} {pos : Nat} {acc : List UInt8} {W0 wr : World} (h : BIt B b k s pos acc W0 wr) : B ≤ wr.heap.size := by
  have := (Array.getElem?_eq_some_iff.1 h.iter).1
  have := h.Bk
  omega
theorem BIt.next {B b k : Nat} {s : ByteArray} {pos : Nat} {acc : List UInt8} {W0 wr : World} (h : BIt B b k s pos acc W0 wr) (p2 : Nat) : BIt B b k s p2 acc W0 (wr.iterAt k s p2) :=
  ⟨h.bld.iterAt h.iter p2, Lib.iterAt_heap wr k s pos p2 h.iter, Lib.below_iterAt h.low h.Bk s p2, h.kb, h.Bk⟩
theorem BIt.wrote {B b k : Nat} {s : ByteArray} {pos : Nat} {acc : List UInt8} {W0 wr W1 : World} (h : BIt B b k s pos acc W0 wr) (x : List UInt8) (h1 : Lib.BuilderAtF 75 5 B b (.pointer (some ⟨b, 0, none⟩)) (Lib.byteCells acc ++ Lib.byteCells x) W1) (h2 : Below B wr W1) (h3 : Lib.OthersKept 5 (some b) wr W1) :
    BIt B b k s pos (acc ++ x) W0 W1 :=
  ⟨by rw [Lib.byteCells_append]; exact .inr h1, h3.iter h.iter h.kb, h.low.trans h2, h.kb, h.Bk⟩
theorem BIt.below {B b k : Nat} {s : ByteArray} {pos : Nat} {acc : List UInt8} {W0 wr W1 : World} (h : BIt B b k s pos acc W0 wr) (hb : Below wr.heap.size wr W1) : BIt B b k s pos acc W0 W1 :=
  ⟨bld_below h.bld hb, (hb.block k (Array.getElem?_eq_some_iff.1 h.iter).1).trans h.iter, h.low.trans (hb.mono h.hB), h.kb, h.Bk⟩
end Go.Own
