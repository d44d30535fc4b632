/-
  NARROWER THAN 'FOR EVERY INPUT', by the rows' own cells (each row's printed sentence says how): TreeOpens: loops · TreePrunes: loops · TreeLeast: loops.
  DERIVED. THE GIVEN ROWS OF THIS SEAT. 12 by the template 'for every input the law returns true; each argument reads behind the call as it read before'; 0 by the template 'total and deterministic' (their statements: YtjlfclhlfgjgcaaTotals.lean).
  GIVEN WITH THE SEED: the statements are not yours to turn. If you find one false, say at which input.
  Laid BY PROGRAM, IN A SANDBOX (cutbox-rows.mjs): the forced cells as the released guide's own fill.sh prints them over the translation b71314f6db133531… (all of the seat's roots in one cut). By AI agents, Wed Nov 11 2026. No macro, syntax, notation, axiom, sorry.
-/
import Derived.Test.YtjlfclhlfgjgcaaChecked
import GoSem.Claim
import GoSem.ClaimJoined
import GoSem.ClaimMapViews
import Derived.JoinedTies
import Derived.KernelRfl
namespace Go.Proofs.Ytjlfclhlfgjgcaa
/- THE CELL 'sum', in the pinned program and in every row, IS THE sha256 OF THE DUMP (.gsa) THAT YtjlfclhlfgjgcaaProg.lean LOADS. Nothing in Lean hashes anything: it is a label: what it is worth is what the hold of that sum in a sandbox is worth. -/
noncomputable def Try.pinned : Pinned := { name := "ytjlfclhlfgjgcaa", sum := "b71314f6db13353126cd3518d6254a2aea57f8d7ccc7220dd39f1db0b792b294", checked := Try.checked }
namespace Rows
def none {H : Type} : Left H := { results := [], args := [] }

/-- 'spinneylaw01.NumDivides': WHATEVER THE INPUT: true; the input reads as it did. -/
def numDividesSpec : ChangeSpec := { name := "numDivides", fn := fun _ => fun
  | [d1, d2] => { results := [.lit (.bool true)], args := [d1, d2] }
  | _ => none }
def numDividesRow : OpenClaim := { program := "ytjlfclhlfgjgcaa", sum := "b71314f6db13353126cd3518d6254a2aea57f8d7ccc7220dd39f1db0b792b294", func := "spinney/spinneylaw01.NumDivides", spec := "numDivides", apart := false }
def NumDividesSaid : Prop := numDividesRow.holds Try.pinned (OpenSpec.ofChange numDividesSpec)

/-- ITS FALSE NEIGHBOUR: 'it returns false'. Refute it at one input. -/
def numDividesWrong : ChangeSpec := { name := "numDivides", fn := fun _ => fun
  | [d1, d2] => { results := [.lit (.bool false)], args := [d1, d2] }
  | _ => none }
def NumDividesWrongFalsely : Prop := numDividesRow.holds Try.pinned (OpenSpec.ofChange numDividesWrong)

/-- 'spinneylaw01.NumTexts': WHATEVER THE INPUT: true; the input reads as it did. -/
def numTextsSpec : ChangeSpec := { name := "numTexts", fn := fun _ => fun
  | [d1, d2] => { results := [.lit (.bool true)], args := [d1, d2] }
  | _ => none }
def numTextsRow : OpenClaim := { program := "ytjlfclhlfgjgcaa", sum := "b71314f6db13353126cd3518d6254a2aea57f8d7ccc7220dd39f1db0b792b294", func := "spinney/spinneylaw01.NumTexts", spec := "numTexts", recurses := true, apart := false }
def NumTextsSaid : Prop := numTextsRow.holds Try.pinned (OpenSpec.ofChange numTextsSpec)

/-- ITS FALSE NEIGHBOUR: 'it returns false'. Refute it at one input. -/
def numTextsWrong : ChangeSpec := { name := "numTexts", fn := fun _ => fun
  | [d1, d2] => { results := [.lit (.bool false)], args := [d1, d2] }
  | _ => none }
def NumTextsWrongFalsely : Prop := numTextsRow.holds Try.pinned (OpenSpec.ofChange numTextsWrong)

/-- 'spinneylaw01.NumBack': WHATEVER THE INPUT: true; the input reads as it did. -/
def numBackSpec : ChangeSpec := { name := "numBack", fn := fun _ => fun
  | [d] => { results := [.lit (.bool true)], args := [d] }
  | _ => none }
def numBackRow : OpenClaim := { program := "ytjlfclhlfgjgcaa", sum := "b71314f6db13353126cd3518d6254a2aea57f8d7ccc7220dd39f1db0b792b294", func := "spinney/spinneylaw01.NumBack", spec := "numBack", apart := false }
def NumBackSaid : Prop := numBackRow.holds Try.pinned (OpenSpec.ofChange numBackSpec)

/-- ITS FALSE NEIGHBOUR: 'it returns false'. Refute it at one input. -/
def numBackWrong : ChangeSpec := { name := "numBack", fn := fun _ => fun
  | [d] => { results := [.lit (.bool false)], args := [d] }
  | _ => none }
def NumBackWrongFalsely : Prop := numBackRow.holds Try.pinned (OpenSpec.ofChange numBackWrong)

/-- 'spinneylaw01.NumSpreads': WHATEVER THE INPUT: true; the input reads as it did. -/
def numSpreadsSpec : ChangeSpec := { name := "numSpreads", fn := fun _ => fun
  | [d1, d2, d3] => { results := [.lit (.bool true)], args := [d1, d2, d3] }
  | _ => none }
def numSpreadsRow : OpenClaim := { program := "ytjlfclhlfgjgcaa", sum := "b71314f6db13353126cd3518d6254a2aea57f8d7ccc7220dd39f1db0b792b294", func := "spinney/spinneylaw01.NumSpreads", spec := "numSpreads", apart := false }
def NumSpreadsSaid : Prop := numSpreadsRow.holds Try.pinned (OpenSpec.ofChange numSpreadsSpec)

/-- ITS FALSE NEIGHBOUR: 'it returns false'. Refute it at one input. -/
def numSpreadsWrong : ChangeSpec := { name := "numSpreads", fn := fun _ => fun
  | [d1, d2, d3] => { results := [.lit (.bool false)], args := [d1, d2, d3] }
  | _ => none }
def NumSpreadsWrongFalsely : Prop := numSpreadsRow.holds Try.pinned (OpenSpec.ofChange numSpreadsWrong)

/-- 'spinneylaw01.NumSigns': WHATEVER THE INPUT: true; the input reads as it did. -/
def numSignsSpec : ChangeSpec := { name := "numSigns", fn := fun _ => fun
  | [d1, d2] => { results := [.lit (.bool true)], args := [d1, d2] }
  | _ => none }
def numSignsRow : OpenClaim := { program := "ytjlfclhlfgjgcaa", sum := "b71314f6db13353126cd3518d6254a2aea57f8d7ccc7220dd39f1db0b792b294", func := "spinney/spinneylaw01.NumSigns", spec := "numSigns", apart := false }
def NumSignsSaid : Prop := numSignsRow.holds Try.pinned (OpenSpec.ofChange numSignsSpec)

/-- ITS FALSE NEIGHBOUR: 'it returns false'. Refute it at one input. -/
def numSignsWrong : ChangeSpec := { name := "numSigns", fn := fun _ => fun
  | [d1, d2] => { results := [.lit (.bool false)], args := [d1, d2] }
  | _ => none }
def NumSignsWrongFalsely : Prop := numSignsRow.holds Try.pinned (OpenSpec.ofChange numSignsWrong)

/-- 'spinneylaw01.NumTurns': WHATEVER THE INPUT: true; the input reads as it did. -/
def numTurnsSpec : ChangeSpec := { name := "numTurns", fn := fun _ => fun
  | [d1, d2] => { results := [.lit (.bool true)], args := [d1, d2] }
  | _ => none }
def numTurnsRow : OpenClaim := { program := "ytjlfclhlfgjgcaa", sum := "b71314f6db13353126cd3518d6254a2aea57f8d7ccc7220dd39f1db0b792b294", func := "spinney/spinneylaw01.NumTurns", spec := "numTurns", apart := false }
def NumTurnsSaid : Prop := numTurnsRow.holds Try.pinned (OpenSpec.ofChange numTurnsSpec)

/-- ITS FALSE NEIGHBOUR: 'it returns false'. Refute it at one input. -/
def numTurnsWrong : ChangeSpec := { name := "numTurns", fn := fun _ => fun
  | [d1, d2] => { results := [.lit (.bool false)], args := [d1, d2] }
  | _ => none }
def NumTurnsWrongFalsely : Prop := numTurnsRow.holds Try.pinned (OpenSpec.ofChange numTurnsWrong)

/-- 'spinneylaw01.NumAdds': WHATEVER THE INPUT: true; the input reads as it did. -/
def numAddsSpec : ChangeSpec := { name := "numAdds", fn := fun _ => fun
  | [d1, d2] => { results := [.lit (.bool true)], args := [d1, d2] }
  | _ => none }
def numAddsRow : OpenClaim := { program := "ytjlfclhlfgjgcaa", sum := "b71314f6db13353126cd3518d6254a2aea57f8d7ccc7220dd39f1db0b792b294", func := "spinney/spinneylaw01.NumAdds", spec := "numAdds", apart := false }
def NumAddsSaid : Prop := numAddsRow.holds Try.pinned (OpenSpec.ofChange numAddsSpec)

/-- ITS FALSE NEIGHBOUR: 'it returns false'. Refute it at one input. -/
def numAddsWrong : ChangeSpec := { name := "numAdds", fn := fun _ => fun
  | [d1, d2] => { results := [.lit (.bool false)], args := [d1, d2] }
  | _ => none }
def NumAddsWrongFalsely : Prop := numAddsRow.holds Try.pinned (OpenSpec.ofChange numAddsWrong)

/-- 'spinneylaw01.NumUndoes': WHATEVER THE INPUT: true; the input reads as it did. -/
def numUndoesSpec : ChangeSpec := { name := "numUndoes", fn := fun _ => fun
  | [d1, d2] => { results := [.lit (.bool true)], args := [d1, d2] }
  | _ => none }
def numUndoesRow : OpenClaim := { program := "ytjlfclhlfgjgcaa", sum := "b71314f6db13353126cd3518d6254a2aea57f8d7ccc7220dd39f1db0b792b294", func := "spinney/spinneylaw01.NumUndoes", spec := "numUndoes", apart := false }
def NumUndoesSaid : Prop := numUndoesRow.holds Try.pinned (OpenSpec.ofChange numUndoesSpec)

/-- ITS FALSE NEIGHBOUR: 'it returns false'. Refute it at one input. -/
def numUndoesWrong : ChangeSpec := { name := "numUndoes", fn := fun _ => fun
  | [d1, d2] => { results := [.lit (.bool false)], args := [d1, d2] }
  | _ => none }
def NumUndoesWrongFalsely : Prop := numUndoesRow.holds Try.pinned (OpenSpec.ofChange numUndoesWrong)

/-- 'spinneylaw21.TreeOpens': WHATEVER THE INPUT: true; the input reads as it did. -/
def treeOpensSpec : ChangeSpec := { name := "treeOpens", fn := fun _ => fun
  | [d] => { results := [.lit (.bool true)], args := [d] }
  | _ => none }
def treeOpensRow : OpenClaim := { program := "ytjlfclhlfgjgcaa", sum := "b71314f6db13353126cd3518d6254a2aea57f8d7ccc7220dd39f1db0b792b294", func := "spinney/spinneylaw21.TreeOpens", spec := "treeOpens", unfollowed := true, recurses := true, loops := true, apart := false }
def TreeOpensSaid : Prop := treeOpensRow.holds Try.pinned (OpenSpec.ofChange treeOpensSpec)

/-- ITS FALSE NEIGHBOUR: 'it returns false'. Refute it at one input. -/
def treeOpensWrong : ChangeSpec := { name := "treeOpens", fn := fun _ => fun
  | [d] => { results := [.lit (.bool false)], args := [d] }
  | _ => none }
def TreeOpensWrongFalsely : Prop := treeOpensRow.holds Try.pinned (OpenSpec.ofChange treeOpensWrong)

/-- 'spinneylaw21.TreePrunes': WHATEVER THE INPUT: true; the input reads as it did. -/
def treePrunesSpec : ChangeSpec := { name := "treePrunes", fn := fun _ => fun
  | [d1, d2, d3] => { results := [.lit (.bool true)], args := [d1, d2, d3] }
  | _ => none }
def treePrunesRow : OpenClaim := { program := "ytjlfclhlfgjgcaa", sum := "b71314f6db13353126cd3518d6254a2aea57f8d7ccc7220dd39f1db0b792b294", func := "spinney/spinneylaw21.TreePrunes", spec := "treePrunes", unfollowed := true, recurses := true, loops := true, apart := false }
def TreePrunesSaid : Prop := treePrunesRow.holds Try.pinned (OpenSpec.ofChange treePrunesSpec)

/-- ITS FALSE NEIGHBOUR: 'it returns false'. Refute it at one input. -/
def treePrunesWrong : ChangeSpec := { name := "treePrunes", fn := fun _ => fun
  | [d1, d2, d3] => { results := [.lit (.bool false)], args := [d1, d2, d3] }
  | _ => none }
def TreePrunesWrongFalsely : Prop := treePrunesRow.holds Try.pinned (OpenSpec.ofChange treePrunesWrong)

/-- 'spinneylaw21.TreeLeast': WHATEVER THE INPUT: true; the input reads as it did. -/
def treeLeastSpec : ChangeSpec := { name := "treeLeast", fn := fun _ => fun
  | [d] => { results := [.lit (.bool true)], args := [d] }
  | _ => none }
def treeLeastRow : OpenClaim := { program := "ytjlfclhlfgjgcaa", sum := "b71314f6db13353126cd3518d6254a2aea57f8d7ccc7220dd39f1db0b792b294", func := "spinney/spinneylaw21.TreeLeast", spec := "treeLeast", unfollowed := true, recurses := true, loops := true, apart := false }
def TreeLeastSaid : Prop := treeLeastRow.holds Try.pinned (OpenSpec.ofChange treeLeastSpec)

/-- ITS FALSE NEIGHBOUR: 'it returns false'. Refute it at one input. -/
def treeLeastWrong : ChangeSpec := { name := "treeLeast", fn := fun _ => fun
  | [d] => { results := [.lit (.bool false)], args := [d] }
  | _ => none }
def TreeLeastWrongFalsely : Prop := treeLeastRow.holds Try.pinned (OpenSpec.ofChange treeLeastWrong)

/-- 'spinneylaw19.LabelCompares': WHATEVER THE INPUT: true; the input reads as it did. -/
def labelComparesSpec : ChangeSpec := { name := "labelCompares", fn := fun _ => fun
  | [d1, d2, d3] => { results := [.lit (.bool true)], args := [d1, d2, d3] }
  | _ => none }
def labelComparesRow : OpenClaim := { program := "ytjlfclhlfgjgcaa", sum := "b71314f6db13353126cd3518d6254a2aea57f8d7ccc7220dd39f1db0b792b294", func := "spinney/spinneylaw19.LabelCompares", spec := "labelCompares", inPlace := ["internal/abi.NoEscape", "internal/bytealg.MakeNoZero"], recurses := true, apart := false }
def LabelComparesSaid : Prop := labelComparesRow.holds Try.pinned (OpenSpec.ofChange labelComparesSpec)

/-- ITS FALSE NEIGHBOUR: 'it returns false'. Refute it at one input. -/
def labelComparesWrong : ChangeSpec := { name := "labelCompares", fn := fun _ => fun
  | [d1, d2, d3] => { results := [.lit (.bool false)], args := [d1, d2, d3] }
  | _ => none }
def LabelComparesWrongFalsely : Prop := labelComparesRow.holds Try.pinned (OpenSpec.ofChange labelComparesWrong)

/- THE SECOND FORM. 'bulk': how many values and letters a reading holds, each counted each time it is reached (what is shared counts as often as it is met; a slice's spare places count too). A statement '..UptoSaid' is the law's where the arguments, and the package variables that the reading takes, are together of bulk at most 1048576: NARROWER than '..Said'. Prove '..Said' where nothing that the law and all that it calls make is longer than what came in: it says more and counts as full. Else prove '..UptoSaid'. A law counts once. -/
mutual
def uptoBulk {H : Type} : DataW H → Nat
  | .lit (.string bytes) => bytes.length + 1
  | .lit _ => 1
  | .nil => 1
  | .ptr d => uptoBulk d + 1
  | .slice elems spare => uptoBulkAll elems + uptoBulkAll spare + 1
  | .agg parts => uptoBulkAll parts + 1
  | .iface _ d => uptoBulk d + 1
  | .map entries => uptoBulkEntries entries + 1
  | .held _ => 1
def uptoBulkAll {H : Type} : List (DataW H) → Nat
  | [] => 0
  | d :: r => uptoBulk d + uptoBulkAll r
def uptoBulkEntries {H : Type} : List (Lit × DataW H) → Nat
  | [] => 0
  | x :: r => uptoBulkEntry x + uptoBulkEntries r
def uptoBulkEntry {H : Type} : Lit × DataW H → Nat
  | (.string bytes, d) => bytes.length + uptoBulk d + 1
  | (_, d) => uptoBulk d + 1
 end
def uptoSmall : (H : Type) → List (DataW H) → Bool := fun _ ds => decide (uptoBulkAll ds ≤ 1048576)
def OpenSpec.upto (s : _root_.Go.ChangeSpec) : _root_.Go.OpenSpec := { _root_.Go.OpenSpec.ofChange s with cond := some uptoSmall }

/-- 'spinneylaw01.NumDivides', WHERE WHAT IT READS IS OF BULK AT MOST 1048576: true; the input reads as it did. -/
def numDividesUptoRow : OpenClaim := { program := "ytjlfclhlfgjgcaa", sum := "b71314f6db13353126cd3518d6254a2aea57f8d7ccc7220dd39f1db0b792b294", func := "spinney/spinneylaw01.NumDivides", spec := "numDivides", apart := false, narrowed := true }
def NumDividesUptoSaid : Prop := numDividesUptoRow.holds Try.pinned (OpenSpec.upto numDividesSpec)

/-- 'spinneylaw01.NumTexts', WHERE WHAT IT READS IS OF BULK AT MOST 1048576: true; the input reads as it did. -/
def numTextsUptoRow : OpenClaim := { program := "ytjlfclhlfgjgcaa", sum := "b71314f6db13353126cd3518d6254a2aea57f8d7ccc7220dd39f1db0b792b294", func := "spinney/spinneylaw01.NumTexts", spec := "numTexts", recurses := true, apart := false, narrowed := true }
def NumTextsUptoSaid : Prop := numTextsUptoRow.holds Try.pinned (OpenSpec.upto numTextsSpec)

/-- 'spinneylaw01.NumBack', WHERE WHAT IT READS IS OF BULK AT MOST 1048576: true; the input reads as it did. -/
def numBackUptoRow : OpenClaim := { program := "ytjlfclhlfgjgcaa", sum := "b71314f6db13353126cd3518d6254a2aea57f8d7ccc7220dd39f1db0b792b294", func := "spinney/spinneylaw01.NumBack", spec := "numBack", apart := false, narrowed := true }
def NumBackUptoSaid : Prop := numBackUptoRow.holds Try.pinned (OpenSpec.upto numBackSpec)

/-- 'spinneylaw01.NumSpreads', WHERE WHAT IT READS IS OF BULK AT MOST 1048576: true; the input reads as it did. -/
def numSpreadsUptoRow : OpenClaim := { program := "ytjlfclhlfgjgcaa", sum := "b71314f6db13353126cd3518d6254a2aea57f8d7ccc7220dd39f1db0b792b294", func := "spinney/spinneylaw01.NumSpreads", spec := "numSpreads", apart := false, narrowed := true }
def NumSpreadsUptoSaid : Prop := numSpreadsUptoRow.holds Try.pinned (OpenSpec.upto numSpreadsSpec)

/-- 'spinneylaw01.NumSigns', WHERE WHAT IT READS IS OF BULK AT MOST 1048576: true; the input reads as it did. -/
def numSignsUptoRow : OpenClaim := { program := "ytjlfclhlfgjgcaa", sum := "b71314f6db13353126cd3518d6254a2aea57f8d7ccc7220dd39f1db0b792b294", func := "spinney/spinneylaw01.NumSigns", spec := "numSigns", apart := false, narrowed := true }
def NumSignsUptoSaid : Prop := numSignsUptoRow.holds Try.pinned (OpenSpec.upto numSignsSpec)

/-- 'spinneylaw01.NumTurns', WHERE WHAT IT READS IS OF BULK AT MOST 1048576: true; the input reads as it did. -/
def numTurnsUptoRow : OpenClaim := { program := "ytjlfclhlfgjgcaa", sum := "b71314f6db13353126cd3518d6254a2aea57f8d7ccc7220dd39f1db0b792b294", func := "spinney/spinneylaw01.NumTurns", spec := "numTurns", apart := false, narrowed := true }
def NumTurnsUptoSaid : Prop := numTurnsUptoRow.holds Try.pinned (OpenSpec.upto numTurnsSpec)

/-- 'spinneylaw01.NumAdds', WHERE WHAT IT READS IS OF BULK AT MOST 1048576: true; the input reads as it did. -/
def numAddsUptoRow : OpenClaim := { program := "ytjlfclhlfgjgcaa", sum := "b71314f6db13353126cd3518d6254a2aea57f8d7ccc7220dd39f1db0b792b294", func := "spinney/spinneylaw01.NumAdds", spec := "numAdds", apart := false, narrowed := true }
def NumAddsUptoSaid : Prop := numAddsUptoRow.holds Try.pinned (OpenSpec.upto numAddsSpec)

/-- 'spinneylaw01.NumUndoes', WHERE WHAT IT READS IS OF BULK AT MOST 1048576: true; the input reads as it did. -/
def numUndoesUptoRow : OpenClaim := { program := "ytjlfclhlfgjgcaa", sum := "b71314f6db13353126cd3518d6254a2aea57f8d7ccc7220dd39f1db0b792b294", func := "spinney/spinneylaw01.NumUndoes", spec := "numUndoes", apart := false, narrowed := true }
def NumUndoesUptoSaid : Prop := numUndoesUptoRow.holds Try.pinned (OpenSpec.upto numUndoesSpec)

/-- 'spinneylaw21.TreeOpens', WHERE WHAT IT READS IS OF BULK AT MOST 1048576: true; the input reads as it did. -/
def treeOpensUptoRow : OpenClaim := { program := "ytjlfclhlfgjgcaa", sum := "b71314f6db13353126cd3518d6254a2aea57f8d7ccc7220dd39f1db0b792b294", func := "spinney/spinneylaw21.TreeOpens", spec := "treeOpens", unfollowed := true, recurses := true, loops := true, apart := false, narrowed := true }
def TreeOpensUptoSaid : Prop := treeOpensUptoRow.holds Try.pinned (OpenSpec.upto treeOpensSpec)

/-- 'spinneylaw21.TreePrunes', WHERE WHAT IT READS IS OF BULK AT MOST 1048576: true; the input reads as it did. -/
def treePrunesUptoRow : OpenClaim := { program := "ytjlfclhlfgjgcaa", sum := "b71314f6db13353126cd3518d6254a2aea57f8d7ccc7220dd39f1db0b792b294", func := "spinney/spinneylaw21.TreePrunes", spec := "treePrunes", unfollowed := true, recurses := true, loops := true, apart := false, narrowed := true }
def TreePrunesUptoSaid : Prop := treePrunesUptoRow.holds Try.pinned (OpenSpec.upto treePrunesSpec)

/-- 'spinneylaw21.TreeLeast', WHERE WHAT IT READS IS OF BULK AT MOST 1048576: true; the input reads as it did. -/
def treeLeastUptoRow : OpenClaim := { program := "ytjlfclhlfgjgcaa", sum := "b71314f6db13353126cd3518d6254a2aea57f8d7ccc7220dd39f1db0b792b294", func := "spinney/spinneylaw21.TreeLeast", spec := "treeLeast", unfollowed := true, recurses := true, loops := true, apart := false, narrowed := true }
def TreeLeastUptoSaid : Prop := treeLeastUptoRow.holds Try.pinned (OpenSpec.upto treeLeastSpec)

/-- 'spinneylaw19.LabelCompares', WHERE WHAT IT READS IS OF BULK AT MOST 1048576: true; the input reads as it did. -/
def labelComparesUptoRow : OpenClaim := { program := "ytjlfclhlfgjgcaa", sum := "b71314f6db13353126cd3518d6254a2aea57f8d7ccc7220dd39f1db0b792b294", func := "spinney/spinneylaw19.LabelCompares", spec := "labelCompares", inPlace := ["internal/abi.NoEscape", "internal/bytealg.MakeNoZero"], recurses := true, apart := false, narrowed := true }
def LabelComparesUptoSaid : Prop := labelComparesUptoRow.holds Try.pinned (OpenSpec.upto labelComparesSpec)

end Rows
end Go.Proofs.Ytjlfclhlfgjgcaa
