/-
  No cell of these rows narrows 'for every input' (looked for: loops, veiled, ifaces, maps, wideKeys, modest, calm, conditions, laid).
  DERIVED. THE GIVEN ROWS OF THIS SEAT. 6 by the template 'for every input the law returns true; each argument reads behind the call as it read before'; 0 by the template 'total and deterministic' (their statements: YtjlfclhlfgjgcabTotals.lean).
  GIVEN WITH THE SEED: the statements are not yours to turn. If you find one false, say at which input.
  Laid BY PROGRAM, IN A SANDBOX (cutbox-rows.mjs): the forced cells as the released guide's own fill.sh prints them over the translation 04254d604163e9f9… (all of the seat's roots in one cut). By AI agents, Wed Nov 11 2026. No macro, syntax, notation, axiom, sorry.
-/
import Derived.Test.YtjlfclhlfgjgcabChecked
import GoSem.Claim
import GoSem.ClaimJoined
import GoSem.ClaimMapViews
import Derived.JoinedTies
import Derived.KernelRfl
namespace Go.Proofs.Ytjlfclhlfgjgcab
/- THE CELL 'sum', in the pinned program and in every row, IS THE sha256 OF THE DUMP (.gsa) THAT YtjlfclhlfgjgcabProg.lean LOADS. Nothing in Lean hashes anything: it is a label: what it is worth is what the hold of that sum in a sandbox is worth. -/
noncomputable def Try.pinned : Pinned := { name := "ytjlfclhlfgjgcab", sum := "04254d604163e9f9553fceee92b870675f554ea2033ef2f0349f09456564283f", checked := Try.checked }
namespace Rows
def none {H : Type} : Left H := { results := [], args := [] }

/-- 'spinneylaw19.LabelFour': WHATEVER THE INPUT: true; the input reads as it did. -/
def labelFourSpec : ChangeSpec := { name := "labelFour", fn := fun _ => fun
  | [d1, d2] => { results := [.lit (.bool true)], args := [d1, d2] }
  | _ => none }
def labelFourRow : OpenClaim := { program := "ytjlfclhlfgjgcab", sum := "04254d604163e9f9553fceee92b870675f554ea2033ef2f0349f09456564283f", func := "spinney/spinneylaw19.LabelFour", spec := "labelFour", inPlace := ["internal/abi.NoEscape", "internal/bytealg.MakeNoZero"], apart := false }
def LabelFourSaid : Prop := labelFourRow.holds Try.pinned (OpenSpec.ofChange labelFourSpec)

/-- ITS FALSE NEIGHBOUR: 'it returns false'. Refute it at one input. -/
def labelFourWrong : ChangeSpec := { name := "labelFour", fn := fun _ => fun
  | [d1, d2] => { results := [.lit (.bool false)], args := [d1, d2] }
  | _ => none }
def LabelFourWrongFalsely : Prop := labelFourRow.holds Try.pinned (OpenSpec.ofChange labelFourWrong)

/-- 'spinneylaw19.LabelOrders': WHATEVER THE INPUT: true; the input reads as it did. -/
def labelOrdersSpec : ChangeSpec := { name := "labelOrders", fn := fun _ => fun
  | [d1, d2, d3] => { results := [.lit (.bool true)], args := [d1, d2, d3] }
  | _ => none }
def labelOrdersRow : OpenClaim := { program := "ytjlfclhlfgjgcab", sum := "04254d604163e9f9553fceee92b870675f554ea2033ef2f0349f09456564283f", func := "spinney/spinneylaw19.LabelOrders", spec := "labelOrders", inPlace := ["internal/abi.NoEscape", "internal/bytealg.MakeNoZero"], apart := false }
def LabelOrdersSaid : Prop := labelOrdersRow.holds Try.pinned (OpenSpec.ofChange labelOrdersSpec)

/-- ITS FALSE NEIGHBOUR: 'it returns false'. Refute it at one input. -/
def labelOrdersWrong : ChangeSpec := { name := "labelOrders", fn := fun _ => fun
  | [d1, d2, d3] => { results := [.lit (.bool false)], args := [d1, d2, d3] }
  | _ => none }
def LabelOrdersWrongFalsely : Prop := labelOrdersRow.holds Try.pinned (OpenSpec.ofChange labelOrdersWrong)

/-- 'spinneylaw19.LabelTold': WHATEVER THE INPUT: true; the input reads as it did. -/
def labelToldSpec : ChangeSpec := { name := "labelTold", fn := fun _ => fun
  | [d1, d2] => { results := [.lit (.bool true)], args := [d1, d2] }
  | _ => none }
def labelToldRow : OpenClaim := { program := "ytjlfclhlfgjgcab", sum := "04254d604163e9f9553fceee92b870675f554ea2033ef2f0349f09456564283f", func := "spinney/spinneylaw19.LabelTold", spec := "labelTold", inPlace := ["internal/abi.NoEscape", "internal/bytealg.MakeNoZero"], apart := false }
def LabelToldSaid : Prop := labelToldRow.holds Try.pinned (OpenSpec.ofChange labelToldSpec)

/-- ITS FALSE NEIGHBOUR: 'it returns false'. Refute it at one input. -/
def labelToldWrong : ChangeSpec := { name := "labelTold", fn := fun _ => fun
  | [d1, d2] => { results := [.lit (.bool false)], args := [d1, d2] }
  | _ => none }
def LabelToldWrongFalsely : Prop := labelToldRow.holds Try.pinned (OpenSpec.ofChange labelToldWrong)

/-- 'spinneylaw19.LabelTexts': WHATEVER THE INPUT: true; the input reads as it did. -/
def labelTextsSpec : ChangeSpec := { name := "labelTexts", fn := fun _ => fun
  | [d1, d2] => { results := [.lit (.bool true)], args := [d1, d2] }
  | _ => none }
def labelTextsRow : OpenClaim := { program := "ytjlfclhlfgjgcab", sum := "04254d604163e9f9553fceee92b870675f554ea2033ef2f0349f09456564283f", func := "spinney/spinneylaw19.LabelTexts", spec := "labelTexts", inPlace := ["internal/abi.NoEscape", "internal/bytealg.MakeNoZero"], recurses := true, apart := false }
def LabelTextsSaid : Prop := labelTextsRow.holds Try.pinned (OpenSpec.ofChange labelTextsSpec)

/-- ITS FALSE NEIGHBOUR: 'it returns false'. Refute it at one input. -/
def labelTextsWrong : ChangeSpec := { name := "labelTexts", fn := fun _ => fun
  | [d1, d2] => { results := [.lit (.bool false)], args := [d1, d2] }
  | _ => none }
def LabelTextsWrongFalsely : Prop := labelTextsRow.holds Try.pinned (OpenSpec.ofChange labelTextsWrong)

/-- 'spinneylaw19.LabelPrunes': WHATEVER THE INPUT: true; the input reads as it did. -/
def labelPrunesSpec : ChangeSpec := { name := "labelPrunes", fn := fun _ => fun
  | [d1, d2, d3, d4] => { results := [.lit (.bool true)], args := [d1, d2, d3, d4] }
  | _ => none }
def labelPrunesRow : OpenClaim := { program := "ytjlfclhlfgjgcab", sum := "04254d604163e9f9553fceee92b870675f554ea2033ef2f0349f09456564283f", func := "spinney/spinneylaw19.LabelPrunes", spec := "labelPrunes", inPlace := ["internal/abi.NoEscape", "internal/bytealg.MakeNoZero"], apart := false }
def LabelPrunesSaid : Prop := labelPrunesRow.holds Try.pinned (OpenSpec.ofChange labelPrunesSpec)

/-- ITS FALSE NEIGHBOUR: 'it returns false'. Refute it at one input. -/
def labelPrunesWrong : ChangeSpec := { name := "labelPrunes", fn := fun _ => fun
  | [d1, d2, d3, d4] => { results := [.lit (.bool false)], args := [d1, d2, d3, d4] }
  | _ => none }
def LabelPrunesWrongFalsely : Prop := labelPrunesRow.holds Try.pinned (OpenSpec.ofChange labelPrunesWrong)

/-- 'spinneylaw19.LabelSteps': WHATEVER THE INPUT: true; the input reads as it did. -/
def labelStepsSpec : ChangeSpec := { name := "labelSteps", fn := fun _ => fun
  | [d1, d2, d3] => { results := [.lit (.bool true)], args := [d1, d2, d3] }
  | _ => none }
def labelStepsRow : OpenClaim := { program := "ytjlfclhlfgjgcab", sum := "04254d604163e9f9553fceee92b870675f554ea2033ef2f0349f09456564283f", func := "spinney/spinneylaw19.LabelSteps", spec := "labelSteps", inPlace := ["internal/abi.NoEscape", "internal/bytealg.MakeNoZero"], apart := false }
def LabelStepsSaid : Prop := labelStepsRow.holds Try.pinned (OpenSpec.ofChange labelStepsSpec)

/-- ITS FALSE NEIGHBOUR: 'it returns false'. Refute it at one input. -/
def labelStepsWrong : ChangeSpec := { name := "labelSteps", fn := fun _ => fun
  | [d1, d2, d3] => { results := [.lit (.bool false)], args := [d1, d2, d3] }
  | _ => none }
def LabelStepsWrongFalsely : Prop := labelStepsRow.holds Try.pinned (OpenSpec.ofChange labelStepsWrong)

/- THE SECOND FORM. 'bulk': how many values and letters a reading holds, each counted each time it is reached (what is shared counts as often as it is met; a slice's spare places count too). A statement '..UptoSaid' is the law's where the arguments, and the package variables that the reading takes, are together of bulk at most 1048576: NARROWER than '..Said'. Prove '..Said' where nothing that the law and all that it calls make is longer than what came in: it says more and counts as full. Else prove '..UptoSaid'. A law counts once. -/
mutual
def uptoBulk {H : Type} : DataW H → Nat
  | .lit (.string bytes) => bytes.length + 1
  | .lit _ => 1
  | .nil => 1
  | .ptr d => uptoBulk d + 1
  | .slice elems spare => uptoBulkAll elems + uptoBulkAll spare + 1
  | .agg parts => uptoBulkAll parts + 1
  | .iface _ d => uptoBulk d + 1
  | .map entries => uptoBulkEntries entries + 1
  | .held _ => 1
def uptoBulkAll {H : Type} : List (DataW H) → Nat
  | [] => 0
  | d :: r => uptoBulk d + uptoBulkAll r
def uptoBulkEntries {H : Type} : List (Lit × DataW H) → Nat
  | [] => 0
  | x :: r => uptoBulkEntry x + uptoBulkEntries r
def uptoBulkEntry {H : Type} : Lit × DataW H → Nat
  | (.string bytes, d) => bytes.length + uptoBulk d + 1
  | (_, d) => uptoBulk d + 1
 end
def uptoSmall : (H : Type) → List (DataW H) → Bool := fun _ ds => decide (uptoBulkAll ds ≤ 1048576)
def OpenSpec.upto (s : _root_.Go.ChangeSpec) : _root_.Go.OpenSpec := { _root_.Go.OpenSpec.ofChange s with cond := some uptoSmall }

/-- 'spinneylaw19.LabelFour', WHERE WHAT IT READS IS OF BULK AT MOST 1048576: true; the input reads as it did. -/
def labelFourUptoRow : OpenClaim := { program := "ytjlfclhlfgjgcab", sum := "04254d604163e9f9553fceee92b870675f554ea2033ef2f0349f09456564283f", func := "spinney/spinneylaw19.LabelFour", spec := "labelFour", inPlace := ["internal/abi.NoEscape", "internal/bytealg.MakeNoZero"], apart := false, narrowed := true }
def LabelFourUptoSaid : Prop := labelFourUptoRow.holds Try.pinned (OpenSpec.upto labelFourSpec)

/-- 'spinneylaw19.LabelOrders', WHERE WHAT IT READS IS OF BULK AT MOST 1048576: true; the input reads as it did. -/
def labelOrdersUptoRow : OpenClaim := { program := "ytjlfclhlfgjgcab", sum := "04254d604163e9f9553fceee92b870675f554ea2033ef2f0349f09456564283f", func := "spinney/spinneylaw19.LabelOrders", spec := "labelOrders", inPlace := ["internal/abi.NoEscape", "internal/bytealg.MakeNoZero"], apart := false, narrowed := true }
def LabelOrdersUptoSaid : Prop := labelOrdersUptoRow.holds Try.pinned (OpenSpec.upto labelOrdersSpec)

/-- 'spinneylaw19.LabelTold', WHERE WHAT IT READS IS OF BULK AT MOST 1048576: true; the input reads as it did. -/
def labelToldUptoRow : OpenClaim := { program := "ytjlfclhlfgjgcab", sum := "04254d604163e9f9553fceee92b870675f554ea2033ef2f0349f09456564283f", func := "spinney/spinneylaw19.LabelTold", spec := "labelTold", inPlace := ["internal/abi.NoEscape", "internal/bytealg.MakeNoZero"], apart := false, narrowed := true }
def LabelToldUptoSaid : Prop := labelToldUptoRow.holds Try.pinned (OpenSpec.upto labelToldSpec)

/-- 'spinneylaw19.LabelTexts', WHERE WHAT IT READS IS OF BULK AT MOST 1048576: true; the input reads as it did. -/
def labelTextsUptoRow : OpenClaim := { program := "ytjlfclhlfgjgcab", sum := "04254d604163e9f9553fceee92b870675f554ea2033ef2f0349f09456564283f", func := "spinney/spinneylaw19.LabelTexts", spec := "labelTexts", inPlace := ["internal/abi.NoEscape", "internal/bytealg.MakeNoZero"], recurses := true, apart := false, narrowed := true }
def LabelTextsUptoSaid : Prop := labelTextsUptoRow.holds Try.pinned (OpenSpec.upto labelTextsSpec)

/-- 'spinneylaw19.LabelPrunes', WHERE WHAT IT READS IS OF BULK AT MOST 1048576: true; the input reads as it did. -/
def labelPrunesUptoRow : OpenClaim := { program := "ytjlfclhlfgjgcab", sum := "04254d604163e9f9553fceee92b870675f554ea2033ef2f0349f09456564283f", func := "spinney/spinneylaw19.LabelPrunes", spec := "labelPrunes", inPlace := ["internal/abi.NoEscape", "internal/bytealg.MakeNoZero"], apart := false, narrowed := true }
def LabelPrunesUptoSaid : Prop := labelPrunesUptoRow.holds Try.pinned (OpenSpec.upto labelPrunesSpec)

/-- 'spinneylaw19.LabelSteps', WHERE WHAT IT READS IS OF BULK AT MOST 1048576: true; the input reads as it did. -/
def labelStepsUptoRow : OpenClaim := { program := "ytjlfclhlfgjgcab", sum := "04254d604163e9f9553fceee92b870675f554ea2033ef2f0349f09456564283f", func := "spinney/spinneylaw19.LabelSteps", spec := "labelSteps", inPlace := ["internal/abi.NoEscape", "internal/bytealg.MakeNoZero"], apart := false, narrowed := true }
def LabelStepsUptoSaid : Prop := labelStepsUptoRow.holds Try.pinned (OpenSpec.upto labelStepsSpec)

end Rows
end Go.Proofs.Ytjlfclhlfgjgcab
