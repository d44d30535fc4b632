/- Any term's value, or why it has none, is as the document says. No condition but the statement's own. -/
import Derived.Test.YtmiapolhklapnaaPx3
import Derived.Test.YtmiapolhklapnaaPx13
import Derived.Test.YtmiapolhklapnaaPureArith
import Derived.Test.YtmiapolhklapnaaPureArithOps
import Derived.Test.YtmiapolhklapnaaPureArithEval
import Derived.Test.YtmiapolhklapnaaPureArithBig
import Derived.Test.YtmiapolhklapnaaPureArithLive
set_option linter.unusedVariables false
set_option linter.unusedSimpArgs false
namespace Go.Proofs.Ytmiapolhklapnaa.Pure
open Go Go.Own Go.RowKit Go.Proofs.Ytmiapolhklapnaa.P Go.Proofs.YtmiapolhklapnaaW.PrintWords Go.Proofs.YtmiapolhklapnaaW.PrintLast

theorem ArithValues : spinneylaw11_ArithValues.Pure := by
  intro l a0 a1 a2 a3 hl hok ht
  have hl : l.length ≤ 9223372036854775807 := Nat.le_trans hl (by decide)
  obtain ⟨k, b, hb⟩ := big_total [⟨a0, a1, a2, a3⟩] (by simp) (by simpa using ht) l hl hok
  obtain ⟨n, e, d', s', h1, h2, _⟩ := eval_eq l hl hok 60 ⟨a0, a1, a2, a3⟩ 0 0 (k + l.length + 3000) (k + l.length + 3000) (by omega) (by omega) (by omega) (by omega) ht (by omega) (by omega)
  refine ⟨k + l.length + 3000, ?_⟩
  unfold spinneylaw11_ArithValues.f arith_Eval.f spinneyref11_Eval.f
  rw [live11 _ (by omega), hb _ (by omega), h1, h2]
  simp only [Option.bind_some]
  split
  · rfl
  · simp

end Go.Proofs.Ytmiapolhklapnaa.Pure
