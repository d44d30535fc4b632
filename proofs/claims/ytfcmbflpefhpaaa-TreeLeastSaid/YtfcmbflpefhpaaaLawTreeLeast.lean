-- PRINTED by a program of this session over the kit's print.py.
import Derived.Test.YtfcmbflpefhpaaaRows
import Derived.Test.YtfcmbflpefhpaaaPx15
import Derived.Test.YtfcmbflpefhpaaaPureTreeLeast
import Derived.Test.YtfcmbflpefhpaaaOpens
import Derived.WalkKit
import Derived.ProofKit
import Derived.OpenShut
import Derived.ShutString
import Derived.ChangeOld
import Derived.Below
import Derived.SizedLaws
import Derived.Test.YtfcmbflpefhpaaaWSized
namespace Go.Proofs.Ytfcmbflpefhpaaa.treeLeast
open Go.ChangeShapes Go.WideShapes Go.ChangeAt Go.RowKit Go.Own Go.Proofs.Ytfcmbflpefhpaaa.P Go.Proofs.YtfcmbflpefhpaaaW.PrintWords Go.Proofs.YtfcmbflpefhpaaaW.PrintLast
open Go.ChangeMaps (open_string shut_string)
set_option linter.unusedVariables false
theorem own : ownKnob Try.prog.godebug = none := by kernel_rfl
theorem laidOut : laidOutB Try.prog = true := by kernel_rfl
theorem opens61u {H : Type} {enc : TypeId × Value → H} {W : World} : ∀ n : Nat, Opens enc Try.prog W 61 (Kd.upto F61 4 [61] n) Ok61 n
  | 0 => fun f hf cs x h => by
    obtain rfl : f = 0 := by omega
    simp [DataW.trod] at h
  | n + 1 => by
    intro f hf cs x h
    obtain ⟨xs, m, rfl, _, hl, hxl, hg⟩ := DataW.trod_struct Try.underlying61 h
    have hl : cs.length = 4 := hl.trans (by kernel_rfl)
    have hm : m ≤ n := by omega
    obtain ⟨a0, K0, o0⟩ := field_at hxl hg 0 _ rfl 1 (by kernel_rfl) (opens_int Try.underlying3) hm
    obtain ⟨a1, K1, o1⟩ := field_at hxl hg 1 _ rfl 1 (by kernel_rfl) (opens_string Try.underlying9) hm
    obtain ⟨a2, K2, o2⟩ := field_at hxl hg 2 _ rfl 1 (by kernel_rfl) (opens_int Try.underlying2) hm
    obtain ⟨a3, K3, o3⟩ := field_at hxl hg 3 _ rfl 1 (by kernel_rfl) (opens_slice Try.underlying59 ((by kernel_rfl : Try.prog.cellsOf 61 = 4).trans (sz61 n).symm) (opens61u n)) hm
    exact ⟨⟨a0, a1, a2, a3⟩, (show (F61 (Kd.upto F61 4 [61] n)).K W _ (cs.drop 0) from (cut_pair 0 1 K0 (cut_pair 1 1 K1 (cut_pair 2 1 K2 (cut_last 3 1 K3 (by omega)))))), Ok61.mk _ o0 o1 o2 o3.1 o3.2⟩
theorem opens61 {H : Type} {enc : TypeId × Value → H} {W : World} (n : Nat) : Opens enc Try.prog W 61 k61 Ok61 n := fun f hf cs x h => by
  obtain ⟨a, h1, h2⟩ := opens61u n f hf cs x h
  exact ⟨a, ⟨n, h1⟩, h2⟩
theorem opens63 {H : Type} {enc : TypeId × Value → H} {W : World} (n : Nat) : Opens enc Try.prog W 63 k63 Ok63 n := by
  intro f hf cs x h
  obtain ⟨xs, m, rfl, _, hl, hxl, hg⟩ := DataW.trod_struct Try.underlying63 h
  have hl : cs.length = 5 := hl.trans (by kernel_rfl)
  have hm : m ≤ n := by omega
  obtain ⟨a0, K0, o0⟩ := field_at hxl hg 0 _ rfl 4 (by kernel_rfl) (opens61 _) hm
  obtain ⟨a1, K1, o1⟩ := field_at hxl hg 1 _ rfl 1 (by kernel_rfl) (opens_int Try.underlying3) hm
  exact ⟨⟨a0, a1⟩, (show k63.K W _ (cs.drop 0) from (cut_pair 0 4 K0 (cut_last 4 1 K1 (by omega)))), Ok63.mk _ o0 o1⟩
theorem opens66 {H : Type} {enc : TypeId × Value → H} {W : World} (n : Nat) : Opens enc Try.prog W 66 k66 Ok66 n := by
  intro f hf cs x h
  obtain ⟨xs, m, rfl, _, hl, hxl, hg⟩ := DataW.trod_struct Try.underlying66 h
  have hl : cs.length = 5 := hl.trans (by kernel_rfl)
  have hm : m ≤ n := by omega
  obtain ⟨a0, K0, o0⟩ := field_at hxl hg 0 _ rfl 1 (by kernel_rfl) (opens_int Try.underlying2) hm
  obtain ⟨a1, K1, o1⟩ := field_at hxl hg 1 _ rfl 4 (by kernel_rfl) (opens61 _) hm
  exact ⟨⟨a0, a1⟩, (show k66.K W _ (cs.drop 0) from (cut_pair 0 1 K0 (cut_last 1 4 K1 (by omega)))), Ok66.mk _ o0 o1⟩
theorem opens37 {H : Type} {enc : TypeId × Value → H} {W : World} (n : Nat) : Opens enc Try.prog W 37 k37 Ok37 n := by
  intro f hf cs x h
  obtain ⟨xs, m, rfl, _, hl, hxl, hg⟩ := DataW.trod_struct Try.underlying37 h
  have hl : cs.length = 3 := hl.trans (by kernel_rfl)
  have hm : m ≤ n := by omega
  obtain ⟨a0, K0, o0⟩ := field_at hxl hg 0 _ rfl 1 (by kernel_rfl) (opens_slice Try.underlying34 (by kernel_rfl) (opens63 _)) hm
  obtain ⟨a1, K1, o1⟩ := field_at hxl hg 1 _ rfl 1 (by kernel_rfl) (opens_slice Try.underlying35 (by kernel_rfl) (opens66 _)) hm
  obtain ⟨a2, K2, o2⟩ := field_at hxl hg 2 _ rfl 1 (by kernel_rfl) (opens_int Try.underlying2) hm
  exact ⟨⟨a0, a1, a2⟩, (show k37.K W _ (cs.drop 0) from (cut_pair 0 1 K0 (cut_pair 1 1 K1 (cut_last 2 1 K2 (by omega))))), Ok37.mk _ o0.1 o0.2 o1.1 o1.2 o2⟩
theorem opens39 {H : Type} {enc : TypeId × Value → H} {W : World} (n : Nat) : Opens enc Try.prog W 39 k39 Ok39 n := by
  intro f hf cs x h
  obtain ⟨xs, m, rfl, _, hl, hxl, hg⟩ := DataW.trod_struct Try.underlying39 h
  have hl : cs.length = 5 := hl.trans (by kernel_rfl)
  have hm : m ≤ n := by omega
  obtain ⟨a0, K0, o0⟩ := field_at hxl hg 0 _ rfl 1 (by kernel_rfl) (opens_slice Try.underlying30 (by kernel_rfl) (opens_int Try.underlying3)) hm
  obtain ⟨a1, K1, o1⟩ := field_at hxl hg 1 _ rfl 3 (by kernel_rfl) (opens37 _) hm
  obtain ⟨a2, K2, o2⟩ := field_at hxl hg 2 _ rfl 1 (by kernel_rfl) (opens_slice Try.underlying30 (by kernel_rfl) (opens_int Try.underlying3)) hm
  exact ⟨⟨a0, a1, a2⟩, (show k39.K W _ (cs.drop 0) from (cut_pair 0 1 K0 (cut_pair 1 3 K1 (cut_last 4 1 K2 (by omega))))), Ok39.mk _ o0.1 o0.2 o1 o2.1 o2.2⟩
set_option maxRecDepth 100000 in
theorem lifted (os : Os) (started : os.Started) (H : Type) (enc : TypeId × Value → H) :
    ReturnsInHanded {} Try.checked os 5 .any (Rows.treeLeastSpec.pre6 enc Try.prog Try.f5 Rows.treeLeastRow.domain false) (Rows.treeLeastSpec.post enc Try.prog Try.f5 false true false false) := by
  refine returnsInHanded_of_change_sized (C := Try.checked) own started (by kernel_rfl) Try.func5
    (ChangeSpec.witness6 (enc := enc) (C := Try.checked) false ⟨#[], #[.slice none 0 0], []⟩ 8 (by kernel_rfl) (by kernel_rfl) (by kernel_rfl) (by kernel_rfl)) ?_
  intro W base args ds gs before hval0 hW hcnd hsz0 _
  have hsz : (DataW.weightsEach Try.prog (Try.f5.params.toList ++ Rows.treeLeastSpec.plain.varTypes Try.prog) (ds ++ gs)).all (· ≤ reachBytes) = true := hsz0
  have hval : ∀ (j : Nat) t v, Try.f5.params[j]? = some t → args[j]? = some v → Value.okWide Try.prog W .any base t v := hval0
  have hW' := hW
  obtain ⟨p, q, hA0, hV, rfl, hfz, hnd⟩ := hW
  have hA : DataW.TrodAll enc Try.prog W 0 (fun _ => true) true Try.f5.params.toList args.toList ds p := hA0
  rw [Try.params5] at hA hval hsz
  obtain ⟨v0, vs0, d0, ds0, p0, q0, hargs, rfl, rfl, h0, r0⟩ := trodAll_cons hA
  obtain ⟨rfl, rfl, rfl⟩ := trodAll_nil r0
  obtain rfl : args = #[v0] := by cases args; simp_all
  obtain ⟨rfl, rfl⟩ := trodVars_none hV
  obtain ⟨A0, len0, c0, rfl⟩ := okWide_slice Try.underlying22 (hval 0 22 v0 rfl rfl)
  have k0 := h0
  have lt0 : ∀ x ∈ p0, x.block < W.heap.size := by obtain ⟨m, hm⟩ := k0; exact DataW.trod_lt m _ _ _ hm
  obtain ⟨fuel0, hf0⟩ := h0
  obtain ⟨l0, ⟨A0_, c0_, he0, hc0, hC0⟩, ok0⟩ := (show Opens enc Try.prog W 22 (Kd.slice 39 k39) _ fuel0 from (opens_slice Try.underlying22 (by kernel_rfl) (opens39 _))) fuel0 (Nat.le_refl _) _ _ hf0
  simp only [Value.cells, List.cons.injEq, Value.slice.injEq, and_true] at he0
  obtain ⟨rfl, rfl, rfl⟩ := he0
  clear hA0 hval0 hsz0 hsz
  refine (P.spinneylaw21_TreeLeast.walk Pure.TreeLeast W A0 c0 l0 hC0 hc0 ok0.1 ok0.2).mono fun e W' ⟨he, bel⟩ => ?_
  subst he
  exact ⟨_, rfl, _, _, _, [], _, [], hW', trodAll_mk1 (shut_bool Try.underlying4 _), (trodAll_cons_mk (Below.trod laidOut (by kernel_rfl) (of_decide_eq_true (by kernel_rfl)) k0 bel lt0) trodAll_mk0), rfl, bel.frame _, fun h => by cases h⟩
theorem over : Rows.treeLeastRow.holds Try.pinned (OpenSpec.ofChange Rows.treeLeastSpec) :=
  OpenClaim.holds_of_wide 5 Try.f5 rfl rfl rfl rfl rfl rfl rfl ⟨rfl, rfl, rfl, rfl, rfl⟩ rfl rfl rfl rfl rfl (by kernel_rfl) Try.func5 (by kernel_rfl)
    (of_decide_eq_true (by kernel_rfl)) (by unfold Func.isWrapper; first | (rw [if_pos (by decide +kernel)]; kernel_rfl) | (rw [if_neg (by decide +kernel)]; exact ⟨rfl, rfl⟩))
    (fun os started H enc _ => lifted os started H enc)
theorem proved : Rows.TreeLeastSaid := over
#print axioms proved
end Go.Proofs.Ytfcmbflpefhpaaa.treeLeast
namespace Go.Proofs.Ytfcmbflpefhpaaa
/-- The row, under a short name, for the claim. -/
theorem treeLeast_holds : Rows.TreeLeastSaid := treeLeast.proved
end Go.Proofs.Ytfcmbflpefhpaaa
