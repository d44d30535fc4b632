/- Plain words: a place's text. -/
import Derived.Test.YtjlfclhlfgjgcabArr
import Derived.Lib.Join
set_option linter.unusedVariables false
set_option linter.unusedSimpArgs false
namespace Go.Own
open Go
/-- a place's text: numbers with dots between -/
def dotsL (l : List Int) : List UInt8 := Lib.join (l.map textB) [46]
end Go.Own
