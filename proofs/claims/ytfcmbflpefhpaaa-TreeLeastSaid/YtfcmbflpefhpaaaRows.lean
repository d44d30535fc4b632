/-
  NARROWER THAN 'FOR EVERY INPUT', by the rows' own cells (each row's printed sentence says how): TreeOpens: loops · TreePrunes: loops · TreeLeast: loops.
  DERIVED. THE GIVEN ROWS OF THIS SEAT. 3 by the template 'for every input the law returns true; each argument reads behind the call as it read before'; 0 by the template 'total and deterministic' (their statements: YtfcmbflpefhpaaaTotals.lean).
  GIVEN WITH THE SEED: the statements are not yours to turn. If you find one false, say at which input.
  Laid BY PROGRAM, IN A SANDBOX (cutbox-rows.mjs): the forced cells as the released guide's own fill.sh prints them over the translation 46f051d466517663… (all of the seat's roots in one cut). By AI agents, Wed Nov 11 2026. No macro, syntax, notation, axiom, sorry.
-/
import Derived.Test.YtfcmbflpefhpaaaChecked
import GoSem.Claim
import GoSem.ClaimJoined
import GoSem.ClaimMapViews
import Derived.JoinedTies
import Derived.KernelRfl
namespace Go.Proofs.Ytfcmbflpefhpaaa
/- THE CELL 'sum', in the pinned program and in every row, IS THE sha256 OF THE DUMP (.gsa) THAT YtfcmbflpefhpaaaProg.lean LOADS. Nothing in Lean hashes anything: it is a label: what it is worth is what the hold of that sum in a sandbox is worth. -/
noncomputable def Try.pinned : Pinned := { name := "ytfcmbflpefhpaaa", sum := "46f051d466517663a91d3f3b04cecbafe03a8dac8dcb84f3f1570eca39955bd9", checked := Try.checked }
namespace Rows
def none {H : Type} : Left H := { results := [], args := [] }

/-- 'spinneylaw21.TreeOpens': WHATEVER THE INPUT: true; the input reads as it did. -/
def treeOpensSpec : ChangeSpec := { name := "treeOpens", fn := fun _ => fun
  | [d] => { results := [.lit (.bool true)], args := [d] }
  | _ => none }
def treeOpensRow : OpenClaim := { program := "ytfcmbflpefhpaaa", sum := "46f051d466517663a91d3f3b04cecbafe03a8dac8dcb84f3f1570eca39955bd9", func := "spinney/spinneylaw21.TreeOpens", spec := "treeOpens", unfollowed := true, recurses := true, loops := true, apart := false }
def TreeOpensSaid : Prop := treeOpensRow.holds Try.pinned (OpenSpec.ofChange treeOpensSpec)

/-- ITS FALSE NEIGHBOUR: 'it returns false'. Refute it at one input. -/
def treeOpensWrong : ChangeSpec := { name := "treeOpens", fn := fun _ => fun
  | [d] => { results := [.lit (.bool false)], args := [d] }
  | _ => none }
def TreeOpensWrongFalsely : Prop := treeOpensRow.holds Try.pinned (OpenSpec.ofChange treeOpensWrong)

/-- 'spinneylaw21.TreePrunes': WHATEVER THE INPUT: true; the input reads as it did. -/
def treePrunesSpec : ChangeSpec := { name := "treePrunes", fn := fun _ => fun
  | [d1, d2, d3] => { results := [.lit (.bool true)], args := [d1, d2, d3] }
  | _ => none }
def treePrunesRow : OpenClaim := { program := "ytfcmbflpefhpaaa", sum := "46f051d466517663a91d3f3b04cecbafe03a8dac8dcb84f3f1570eca39955bd9", func := "spinney/spinneylaw21.TreePrunes", spec := "treePrunes", unfollowed := true, recurses := true, loops := true, apart := false }
def TreePrunesSaid : Prop := treePrunesRow.holds Try.pinned (OpenSpec.ofChange treePrunesSpec)

/-- ITS FALSE NEIGHBOUR: 'it returns false'. Refute it at one input. -/
def treePrunesWrong : ChangeSpec := { name := "treePrunes", fn := fun _ => fun
  | [d1, d2, d3] => { results := [.lit (.bool false)], args := [d1, d2, d3] }
  | _ => none }
def TreePrunesWrongFalsely : Prop := treePrunesRow.holds Try.pinned (OpenSpec.ofChange treePrunesWrong)

/-- 'spinneylaw21.TreeLeast': WHATEVER THE INPUT: true; the input reads as it did. -/
def treeLeastSpec : ChangeSpec := { name := "treeLeast", fn := fun _ => fun
  | [d] => { results := [.lit (.bool true)], args := [d] }
  | _ => none }
def treeLeastRow : OpenClaim := { program := "ytfcmbflpefhpaaa", sum := "46f051d466517663a91d3f3b04cecbafe03a8dac8dcb84f3f1570eca39955bd9", func := "spinney/spinneylaw21.TreeLeast", spec := "treeLeast", unfollowed := true, recurses := true, loops := true, apart := false }
def TreeLeastSaid : Prop := treeLeastRow.holds Try.pinned (OpenSpec.ofChange treeLeastSpec)

/-- ITS FALSE NEIGHBOUR: 'it returns false'. Refute it at one input. -/
def treeLeastWrong : ChangeSpec := { name := "treeLeast", fn := fun _ => fun
  | [d] => { results := [.lit (.bool false)], args := [d] }
  | _ => none }
def TreeLeastWrongFalsely : Prop := treeLeastRow.holds Try.pinned (OpenSpec.ofChange treeLeastWrong)

/- THE SECOND FORM. 'bulk': how many values and letters a reading holds, each counted each time it is reached (what is shared counts as often as it is met; a slice's spare places count too). A statement '..UptoSaid' is the law's where the arguments, and the package variables that the reading takes, are together of bulk at most 1048576: NARROWER than '..Said'. Prove '..Said' where nothing that the law and all that it calls make is longer than what came in: it says more and counts as full. Else prove '..UptoSaid'. A law counts once. -/
mutual
def uptoBulk {H : Type} : DataW H → Nat
  | .lit (.string bytes) => bytes.length + 1
  | .lit _ => 1
  | .nil => 1
  | .ptr d => uptoBulk d + 1
  | .slice elems spare => uptoBulkAll elems + uptoBulkAll spare + 1
  | .agg parts => uptoBulkAll parts + 1
  | .iface _ d => uptoBulk d + 1
  | .map entries => uptoBulkEntries entries + 1
  | .held _ => 1
def uptoBulkAll {H : Type} : List (DataW H) → Nat
  | [] => 0
  | d :: r => uptoBulk d + uptoBulkAll r
def uptoBulkEntries {H : Type} : List (Lit × DataW H) → Nat
  | [] => 0
  | x :: r => uptoBulkEntry x + uptoBulkEntries r
def uptoBulkEntry {H : Type} : Lit × DataW H → Nat
  | (.string bytes, d) => bytes.length + uptoBulk d + 1
  | (_, d) => uptoBulk d + 1
 end
def uptoSmall : (H : Type) → List (DataW H) → Bool := fun _ ds => decide (uptoBulkAll ds ≤ 1048576)
def OpenSpec.upto (s : _root_.Go.ChangeSpec) : _root_.Go.OpenSpec := { _root_.Go.OpenSpec.ofChange s with cond := some uptoSmall }

/-- 'spinneylaw21.TreeOpens', WHERE WHAT IT READS IS OF BULK AT MOST 1048576: true; the input reads as it did. -/
def treeOpensUptoRow : OpenClaim := { program := "ytfcmbflpefhpaaa", sum := "46f051d466517663a91d3f3b04cecbafe03a8dac8dcb84f3f1570eca39955bd9", func := "spinney/spinneylaw21.TreeOpens", spec := "treeOpens", unfollowed := true, recurses := true, loops := true, apart := false, narrowed := true }
def TreeOpensUptoSaid : Prop := treeOpensUptoRow.holds Try.pinned (OpenSpec.upto treeOpensSpec)

/-- 'spinneylaw21.TreePrunes', WHERE WHAT IT READS IS OF BULK AT MOST 1048576: true; the input reads as it did. -/
def treePrunesUptoRow : OpenClaim := { program := "ytfcmbflpefhpaaa", sum := "46f051d466517663a91d3f3b04cecbafe03a8dac8dcb84f3f1570eca39955bd9", func := "spinney/spinneylaw21.TreePrunes", spec := "treePrunes", unfollowed := true, recurses := true, loops := true, apart := false, narrowed := true }
def TreePrunesUptoSaid : Prop := treePrunesUptoRow.holds Try.pinned (OpenSpec.upto treePrunesSpec)

/-- 'spinneylaw21.TreeLeast', WHERE WHAT IT READS IS OF BULK AT MOST 1048576: true; the input reads as it did. -/
def treeLeastUptoRow : OpenClaim := { program := "ytfcmbflpefhpaaa", sum := "46f051d466517663a91d3f3b04cecbafe03a8dac8dcb84f3f1570eca39955bd9", func := "spinney/spinneylaw21.TreeLeast", spec := "treeLeast", unfollowed := true, recurses := true, loops := true, apart := false, narrowed := true }
def TreeLeastUptoSaid : Prop := treeLeastUptoRow.holds Try.pinned (OpenSpec.upto treeLeastSpec)

end Rows
end Go.Proofs.Ytfcmbflpefhpaaa
