/- A rune's class is the document's. -/
import Derived.Test.YtkniiinpkchjoaaDoorPx1
import Derived.Test.YtkniiinpkchjoaaDoorPx3
import Derived.Test.YtkniiinpkchjoaaDoorPx11
import Derived.Test.YtkniiinpkchjoaaDoorPureCharLive
set_option linter.unusedVariables false
set_option linter.unusedSimpArgs false
namespace Go.Proofs.YtkniiinpkchjoaaDoor.Pure
open Go Go.Own Go.RowKit Go.Proofs.YtkniiinpkchjoaaDoor.P Go.Proofs.YtkniiinpkchjoaaDoorW.PrintWords Go.Proofs.YtkniiinpkchjoaaDoorW.PrintLast

theorem CharClasses : spinneylaw02_CharClasses.Pure := by
  intro c _
  refine ⟨40, ?_⟩
  unfold spinneylaw02_CharClasses.f
  rw [live02 _ (by omega), ref_class c 40 (by omega), show char_Class.f 40 c = some (classN c) from class_all 34 c]
  simp

end Go.Proofs.YtkniiinpkchjoaaDoor.Pure
