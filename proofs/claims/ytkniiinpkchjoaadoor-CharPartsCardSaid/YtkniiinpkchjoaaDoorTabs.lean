/- What the listed variables give a walk. -- ONLYIF unicode/utf8.DecodeRuneInString NOIMPORT -/
import Derived.Test.YtkniiinpkchjoaaDoorRows
import Derived.Test.YtkniiinpkchjoaaDoorShelf
import Derived.Test.YtkniiinpkchjoaaDoorChar
import Derived.Lib.LaidU8
import Derived.PinnedBridge
import Derived.LaidMore
import Derived.LaidLaws
import Derived.ProofKit
import Derived.OpenShut
import Derived.Stop.LaidErr
set_option linter.unusedVariables false
namespace Go.Own
open Go Go.RowKit Go.Proofs Go.Shelf Go.Lib Go.Proofs.YtkniiinpkchjoaaDoor
set_option maxRecDepth 100000
theorem accept_eq : Rows.laid_unicode_utf8_acceptRanges (H := Unit) = acceptData := by kernel_rfl
theorem utf8_of {W : World} {l : List (String × DataW Unit)} (h : laidMet Tryd.prog l W) (h1 : ("unicode/utf8.first", Pinned.utf8First) ∈ l) (h2 : ("unicode/utf8.acceptRanges", Rows.laid_unicode_utf8_acceptRanges) ∈ l) : Lib.Utf8Tabs 0 1 W :=
  utf8Tabs_of_reads Tryd.lays260 ⟨by kernel_rfl, by kernel_rfl, by kernel_rfl, by kernel_rfl, by kernel_rfl, by kernel_rfl, by kernel_rfl⟩ (Pinned.utf8First_eq ▸ Lib.laidMet.reads h h1) (accept_eq ▸ Lib.laidMet.reads h h2)
theorem tabB_of {W : World} {l : List (String × DataW Unit)} (h : laidMet Tryd.prog l W) (h1 : ("math/bits.deBruijn64tab", Rows.laid_math_bits_deBruijn64tab) ∈ l) : TabB W := by
  unfold TabB
  obtain ⟨g, t, cs, fuel, p, hg, hty, hvar, hd⟩ := Lib.laidMet.reads h h1
  obtain rfl := Option.some.inj ((show Tryd.prog.globalNamed "math/bits.deBruijn64tab" = some 4 by kernel_rfl).symm.trans hg)
  obtain rfl := Option.some.inj ((show (Tryd.prog.globals[4]?).map (·.type) = some 86 by kernel_rfl).symm.trans hty)
  obtain ⟨fuel', d, q, hdi, he⟩ := array_elem Tryd.underlying86 hd 15 (by decide)
  rw [show Tryd.prog.cellsOf 5 = 1 by kernel_rfl] at he
  have hd15 : d = .lit (.int .u8 4) := (Option.some.inj hdi).symm
  clear hdi hd
  subst hd15
  obtain ⟨z, e1, e2, _⟩ := DataW.trod_int Tryd.underlying5 he
  obtain rfl : (4 : Int) = z := by
    cases e2
    rfl
  rw [World.var?_cell hg hvar 15]
  have h0 : ((cs.toList.drop (15 * 1)).take 1)[0]? = some (.int .u8 4) := by rw [e1]; rfl
  simpa using h0
theorem tabE_row (u : TypeId) (h : Tryd.prog.typeName? 3 u = some "*errors.errorString") : u = 90 :=
  typeName_ptr_named (nm := "errors.errorString") (by rw [show "*" ++ "errors.errorString" = "*errors.errorString" by decide]; kernel_rfl) (by kernel_rfl) (by decide) u (by rw [show "*" ++ "errors.errorString" = "*errors.errorString" by decide]; exact h)
theorem tabE_of {W : World} {r : List (String × DataW Unit)} {t : List UInt8} (h : laidMet Tryd.prog (("strconv.ErrSyntax", .iface "*errors.errorString" (.ptr (.agg [.lit (.string t)]))) :: r) W) : TabE W := by
  obtain ⟨a1, t1, hv1, hc1, ht1, _⟩ := Go.laid_sentinel (g := 6) h (by kernel_rfl) (by kernel_rfl) Tryd.underlying38 tabE_row Tryd.underlying90 Tryd.underlying92 rfl rfl Tryd.underlying9 (by kernel_rfl) (by kernel_rfl)
  unfold TabE
  refine ⟨90, a1, ?_⟩
  rw [World.var?_cell (g := 6) (by kernel_rfl) hv1 0]
  rfl
end Go.Own
