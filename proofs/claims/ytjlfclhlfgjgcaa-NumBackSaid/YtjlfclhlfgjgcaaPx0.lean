-- PRINTED by a program of this session over the kit's print.py.
import Derived.Test.YtjlfclhlfgjgcaaProg
import Derived.Below
import Derived.Deep.Draws
import Derived.Deep.AppendLies
import Derived.Maps.AppendAt
import Derived.OwnWalk
import Derived.Laws.BytesArg
import Derived.Laws.MakeOwn
import Derived.Laws.OwnMore
import Derived.Deep.OwnRows
import Derived.Tactics
import Derived.Lib.ConvBytes
import Derived.Laws.Slices
import Derived.WalkKit
import Derived.KernelRfl
import Derived.RowKit3
import Derived.Deep.LoopGhost
import Derived.Deep.QuietTactic
import Derived.BigQuiet
import Derived.WideLaws
import Derived.Deep.DeepCutAuto
import Derived.Deep.CutBlock
import Derived.Deep.RegionHeld3
import Derived.Laws.Rows
import Derived.Lib.AppendStr
import Derived.ArgAppend
import Derived.Laws.IdiomCopy
import Derived.OrdersHeld
import Derived.Laws.BitsLemmas
import Derived.RowKit
import Derived.Test.YtjlfclhlfgjgcaaArr
import Derived.Test.YtjlfclhlfgjgcaaNumP
import Derived.Test.YtjlfclhlfgjgcaaScan
import Derived.Test.YtjlfclhlfgjgcaaWWords
import Derived.Test.YtjlfclhlfgjgcaaWLast
import Derived.Test.YtjlfclhlfgjgcaaWTab
import Derived.Test.YtjlfclhlfgjgcaaWFour
import Derived.Test.YtjlfclhlfgjgcaaWQPut
import Derived.Test.YtjlfclhlfgjgcaaWApart
import Derived.Test.YtjlfclhlfgjgcaaWArr
import Derived.Test.YtjlfclhlfgjgcaaWZeros
import Derived.Test.YtjlfclhlfgjgcaaWFoot
import Derived.Test.YtjlfclhlfgjgcaaWKept
import Derived.Test.YtjlfclhlfgjgcaaWShare
import Derived.Test.YtjlfclhlfgjgcaaWN
import Derived.Test.YtjlfclhlfgjgcaaWFootNe
import Derived.Test.YtjlfclhlfgjgcaaWAt
import Derived.Test.YtjlfclhlfgjgcaaWEqStruct
import Derived.Test.YtjlfclhlfgjgcaaWRepsOne
import Derived.Test.YtjlfclhlfgjgcaaWInv
import Derived.Test.YtjlfclhlfgjgcaaWInvWords
import Derived.Test.YtjlfclhlfgjgcaaWGuard
import Derived.Test.YtjlfclhlfgjgcaaWNEv
import Derived.Test.YtjlfclhlfgjgcaaWMore
namespace Go.Proofs.Ytjlfclhlfgjgcaa.P
open Go.Own Go.RowKit Go.Proofs.YtjlfclhlfgjgcaaW.PrintWords Go.Proofs.YtjlfclhlfgjgcaaW.PrintLast Go.Proofs.YtjlfclhlfgjgcaaW.PrintMore
attribute [local go_sem] max2_int min2_int max_two min_two max_three min_three max_four min_four   -- for this text's walks alone
set_option linter.unusedVariables false
set_option linter.unusedSimpArgs false



def errW : Option Int → Value
  | none => .nilIface
  | some c => .iface 0 (.int .i64 c)
theorem errW_none : errW none = .nilIface := rfl
theorem errW_some (c : Int) : errW (some c) = .iface 0 (.int .i64 c) := rfl

theorem info5 : (Try.prog.info? 5).map (fun i => (i.zero, i.size, i.bytes)) = some (some (.int .u8 0), 1, 1) := by kernel_rfl
-- the values' own types

end Go.Proofs.Ytjlfclhlfgjgcaa.P
