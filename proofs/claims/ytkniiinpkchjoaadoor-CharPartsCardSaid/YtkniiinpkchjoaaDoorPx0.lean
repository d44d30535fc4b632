-- PRINTED by a program of this session over the kit's print.py.
import Derived.Test.YtkniiinpkchjoaaDoorProg
import Derived.Below
import Derived.Deep.Draws
import Derived.Deep.AppendLies
import Derived.Maps.AppendAt
import Derived.OwnWalk
import Derived.Laws.BytesArg
import Derived.Laws.MakeOwn
import Derived.Laws.OwnMore
import Derived.Deep.OwnRows
import Derived.Tactics
import Derived.Lib.ConvBytes
import Derived.Laws.Slices
import Derived.WalkKit
import Derived.KernelRfl
import Derived.RowKit3
import Derived.Deep.LoopGhost
import Derived.Deep.QuietTactic
import Derived.BigQuiet
import Derived.WideLaws
import Derived.Deep.DeepCutAuto
import Derived.Deep.CutBlock
import Derived.Deep.RegionHeld3
import Derived.Laws.Rows
import Derived.Lib.AppendStr
import Derived.ArgAppend
import Derived.Laws.IdiomCopy
import Derived.OrdersHeld
import Derived.Laws.BitsLemmas
import Derived.RowKit
import Derived.Test.YtkniiinpkchjoaaDoorArr
import Derived.Test.YtkniiinpkchjoaaDoorBuild
import Derived.Test.YtkniiinpkchjoaaDoorChar
import Derived.Test.YtkniiinpkchjoaaDoorMake0
import Derived.Test.YtkniiinpkchjoaaDoorMem
import Derived.Test.YtkniiinpkchjoaaDoorRange
import Derived.Test.YtkniiinpkchjoaaDoorScan
import Derived.Test.YtkniiinpkchjoaaDoorShelf
import Derived.Test.YtkniiinpkchjoaaDoorWWords
import Derived.Test.YtkniiinpkchjoaaDoorWLast
import Derived.Test.YtkniiinpkchjoaaDoorWTab
import Derived.Test.YtkniiinpkchjoaaDoorWFour
import Derived.Test.YtkniiinpkchjoaaDoorWQPut
import Derived.Test.YtkniiinpkchjoaaDoorWApart
import Derived.Test.YtkniiinpkchjoaaDoorWArr
import Derived.Test.YtkniiinpkchjoaaDoorWZeros
import Derived.Test.YtkniiinpkchjoaaDoorWFoot
import Derived.Test.YtkniiinpkchjoaaDoorWKept
import Derived.Test.YtkniiinpkchjoaaDoorWShare
import Derived.Test.YtkniiinpkchjoaaDoorWN
import Derived.Test.YtkniiinpkchjoaaDoorWFootNe
import Derived.Test.YtkniiinpkchjoaaDoorWAt
import Derived.Test.YtkniiinpkchjoaaDoorWEqStruct
import Derived.Test.YtkniiinpkchjoaaDoorWRepsOne
import Derived.Test.YtkniiinpkchjoaaDoorWInv
import Derived.Test.YtkniiinpkchjoaaDoorWInvWords
import Derived.Test.YtkniiinpkchjoaaDoorWGuard
import Derived.Test.YtkniiinpkchjoaaDoorWNEv
import Derived.Test.YtkniiinpkchjoaaDoorWMore
namespace Go.Proofs.YtkniiinpkchjoaaDoor.P
open Go.Own Go.RowKit Go.Proofs.YtkniiinpkchjoaaDoorW.PrintWords Go.Proofs.YtkniiinpkchjoaaDoorW.PrintLast Go.Proofs.YtkniiinpkchjoaaDoorW.PrintMore
attribute [local go_sem] max2_int min2_int max_two min_two max_three min_three max_four min_four   -- for this text's walks alone
set_option linter.unusedVariables false
set_option linter.unusedSimpArgs false



def errW : Option Int → Value
  | none => .nilIface
  | some c => .iface 80 (.int .i64 c)
theorem errW_none : errW none = .nilIface := rfl
theorem errW_some (c : Int) : errW (some c) = .iface 80 (.int .i64 c) := rfl

theorem info21 : (Tryd.prog.info? 21).map (fun i => (i.zero, i.size, i.bytes)) = some (some (.int .i32 0), 1, 4) := by kernel_rfl
-- the values' own types


end Go.Proofs.YtkniiinpkchjoaaDoor.P
