/- What the listed variables give a walk. -- ONLYIF unicode/utf8.DecodeRuneInString NOIMPORT -/
import Derived.Test.YtjichkjnodabiaaDoorRows
import Derived.Test.YtjichkjnodabiaaDoorShelf
import Derived.Test.YtjichkjnodabiaaDoorChar
import Derived.Lib.LaidU8
import Derived.PinnedBridge
import Derived.LaidMore
import Derived.LaidLaws
import Derived.ProofKit
import Derived.OpenShut
import Derived.Stop.LaidErr
set_option linter.unusedVariables false
namespace Go.Own
open Go Go.RowKit Go.Proofs Go.Shelf Go.Lib Go.Proofs.YtjichkjnodabiaaDoor
set_option maxRecDepth 100000
theorem accept_eq : Rows.laid_unicode_utf8_acceptRanges (H := Unit) = acceptData := by kernel_rfl
theorem utf8_of {W : World} {l : List (String × DataW Unit)} (h : laidMet Tryd.prog l W) (h1 : ("unicode/utf8.first", Pinned.utf8First) ∈ l) (h2 : ("unicode/utf8.acceptRanges", Rows.laid_unicode_utf8_acceptRanges) ∈ l) : Lib.Utf8Tabs 0 1 W :=
  utf8Tabs_of_reads Tryd.lays260 ⟨by kernel_rfl, by kernel_rfl, by kernel_rfl, by kernel_rfl, by kernel_rfl, by kernel_rfl, by kernel_rfl⟩ (Pinned.utf8First_eq ▸ Lib.laidMet.reads h h1) (accept_eq ▸ Lib.laidMet.reads h h2)
theorem tabB_of {W : World} {l : List (String × DataW Unit)} (h : laidMet Tryd.prog l W) (h1 : ("math/bits.deBruijn64tab", Rows.laid_math_bits_deBruijn64tab) ∈ l) : TabB W := by
  unfold TabB
  obtain ⟨g, t, cs, fuel, p, hg, hty, hvar, hd⟩ := Lib.laidMet.reads h h1
  obtain rfl := Option.some.inj ((show Tryd.prog.globalNamed "math/bits.deBruijn64tab" = some 7 by kernel_rfl).symm.trans hg)
  obtain rfl := Option.some.inj ((show (Tryd.prog.globals[7]?).map (·.type) = some 124 by kernel_rfl).symm.trans hty)
  obtain ⟨fuel', d, q, hdi, he⟩ := array_elem Tryd.underlying124 hd 15 (by decide)
  rw [show Tryd.prog.cellsOf 5 = 1 by kernel_rfl] at he
  have hd15 : d = .lit (.int .u8 4) := (Option.some.inj hdi).symm
  clear hdi hd
  subst hd15
  obtain ⟨z, e1, e2, _⟩ := DataW.trod_int Tryd.underlying5 he
  obtain rfl : (4 : Int) = z := by
    cases e2
    rfl
  rw [World.var?_cell hg hvar 15]
  have h0 : ((cs.toList.drop (15 * 1)).take 1)[0]? = some (.int .u8 4) := by rw [e1]; rfl
  simpa using h0
theorem tabE_row (u : TypeId) (h : Tryd.prog.typeName? 3 u = some "*errors.errorString") : u = 109 :=
  typeName_ptr_named (nm := "errors.errorString") (by rw [show "*" ++ "errors.errorString" = "*errors.errorString" by decide]; kernel_rfl) (by kernel_rfl) (by decide) u (by rw [show "*" ++ "errors.errorString" = "*errors.errorString" by decide]; exact h)
theorem tabE_of {W : World} {r : List (String × DataW Unit)} {t : List UInt8} (h : laidMet Tryd.prog (("strconv.ErrSyntax", .iface "*errors.errorString" (.ptr (.agg [.lit (.string t)]))) :: r) W) : TabE W := by
  obtain ⟨a1, t1, hv1, hc1, ht1, _⟩ := Go.laid_sentinel (g := 3) h (by kernel_rfl) (by kernel_rfl) Tryd.underlying78 tabE_row Tryd.underlying109 Tryd.underlying111 rfl rfl Tryd.underlying9 (by kernel_rfl) (by kernel_rfl)
  unfold TabE
  refine ⟨109, a1, ?_⟩
  rw [World.var?_cell (g := 3) (by kernel_rfl) hv1 0]
  rfl
theorem tabM_of {W : World} (h : W.ShapedOpen Tryd.prog) : TabM W := Tryd.laysM143.s1_3 W h
/-- the wrap of a row over listed variables, the world's shape handed to the contract -/
theorem handed_and_shaped {H : Type} {enc : TypeId × Value → H} {a : Assume} {C : Checked} {os : Os} {f : FuncId} {fn : Func} {s : ChangeSpec} {conds : List PathCond} {apart fresh handsOn again : Bool} {X : World → Array Value → Prop}
    (hX : ∀ (w w' : World) (args : Array Value), w.heap = w'.heap → X w args → X w' args)
    (own : ownKnob C.prog.godebug = none) (started : os.Started) (noInit : C.prog.inits.idxOf? f = none) (hfn : C.prog.funcs[f]? = some fn)
    (witness : ∃ (w : World) (tape : Tape) (i : Input), w.os = os ∧ (w.forCall tape i).Shaped C.prog ∧ i.vars = [] ∧ Input.okWide C.prog (w.forCall tape i) .any w.heap.size f i ∧
      ((s.pre enc C.prog fn conds apart (w.forCall tape i).memory i.args ∧ X (w.forCall tape i).memory i.args) ∧ sizedMet enc C.prog fn (OpenSpec.ofChange s) apart (w.forCall tape i).memory i.args) ∧ a.holds C.prog (lone (Frame.enter C.prog f i.args .normal) [] (w.forCall tape i)))
    (contract : ∀ (W : World) (base : Nat) (args : Array Value) (ds gs : List (DataW H)) (before : List MemPlace),
      (∀ (j : Nat) t v, fn.params[j]? = some t → args[j]? = some v → Value.okWide C.prog W .any base t v) →
      DataW.Whole enc C.prog fn.params.toList s.vars apart W args.toList ds gs before →
      conds.all (PathCond.test C.prog ⟨fn.params.toList, ds, s.plain.varTypes C.prog, gs⟩) = true →
      (DataW.weightsEach C.prog (fn.params.toList ++ s.plain.varTypes C.prog) (ds ++ gs)).all (· ≤ reachBytes) = true → X W args → W.ShapedOpen C.prog →
      a.holds C.prog (lone (Frame.enter C.prog f args .normal) [] W) →
      Calls C.prog f args W fun e W' => ∃ v, e = .returned v ∧ s.post enc C.prog fn apart fresh handsOn again W args v W') :
    ReturnsInHanded a C os f .any (fun w args => (s.pre enc C.prog fn conds apart w args ∧ X w args) ∧ sizedMet enc C.prog fn (OpenSpec.ofChange s) apart w args) (s.post enc C.prog fn apart fresh handsOn again) := by
  refine returnsInHanded_of_calls own started noInit witness (fun w tape i _ hsh _ hok hpre hh => ?_)
  obtain ⟨_, _, _, fn2, hf2, _, _, _, _, hval⟩ := hok
  obtain rfl : fn2 = fn := Option.some.inj (hf2.symm.trans hfn)
  obtain ⟨⟨⟨ds, gs, before, hw, hc⟩, hx⟩, hz⟩ := hpre
  exact (contract _ w.heap.size i.args ds gs before hval (DataW.Whole.of_heap (w' := w.forCall tape i) (by rfl) hw) hc (hz.weights hw) (hX _ _ _ (by rfl) hx) hsh hh).mono fun e W' ⟨v, he, hp⟩ => he ▸ ChangeSpec.post_blind hp
end Go.Own
