/- The chapter's examples hold. -/
import Derived.Test.YtmiapolhklapnaaPx5
import Derived.Test.YtmiapolhklapnaaPureArith
set_option linter.unusedVariables false
set_option linter.unusedSimpArgs false
namespace Go.Proofs.Ytmiapolhklapnaa.Pure
open Go Go.Own Go.RowKit Go.Proofs.Ytmiapolhklapnaa.P Go.Proofs.YtmiapolhklapnaaW.PrintWords Go.Proofs.YtmiapolhklapnaaW.PrintLast

theorem live11 (k : Nat) (hk : 30 ≤ k) : spinneylaw11_live.f k = some true :=
  leO_up (f := fun k => spinneylaw11_live.f k) (fun k => spinneylaw11_live.mono k) hk (by decide +kernel)

end Go.Proofs.Ytmiapolhklapnaa.Pure
