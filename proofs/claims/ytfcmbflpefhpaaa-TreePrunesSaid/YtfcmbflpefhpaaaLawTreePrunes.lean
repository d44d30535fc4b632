-- PRINTED by a program of this session over the kit's print.py.
import Derived.Test.YtfcmbflpefhpaaaRows
import Derived.Test.YtfcmbflpefhpaaaPx14
import Derived.Test.YtfcmbflpefhpaaaPureTreePrunes
import Derived.Test.YtfcmbflpefhpaaaOpens
import Derived.WalkKit
import Derived.ProofKit
import Derived.OpenShut
import Derived.ShutString
import Derived.ChangeOld
import Derived.Below
import Derived.SizedLaws
import Derived.Test.YtfcmbflpefhpaaaWSized
namespace Go.Proofs.Ytfcmbflpefhpaaa.treePrunes
open Go.ChangeShapes Go.WideShapes Go.ChangeAt Go.RowKit Go.Own Go.Proofs.Ytfcmbflpefhpaaa.P Go.Proofs.YtfcmbflpefhpaaaW.PrintWords Go.Proofs.YtfcmbflpefhpaaaW.PrintLast
open Go.ChangeMaps (open_string shut_string)
set_option linter.unusedVariables false
theorem own : ownKnob Try.prog.godebug = none := by kernel_rfl
theorem laidOut : laidOutB Try.prog = true := by kernel_rfl
theorem opens61u {H : Type} {enc : TypeId × Value → H} {W : World} : ∀ n : Nat, Opens enc Try.prog W 61 (Kd.upto F61 4 [61] n) Ok61 n
  | 0 => fun f hf cs x h => by
    obtain rfl : f = 0 := by omega
    simp [DataW.trod] at h
  | n + 1 => by
    intro f hf cs x h
    obtain ⟨xs, m, rfl, _, hl, hxl, hg⟩ := DataW.trod_struct Try.underlying61 h
    have hl : cs.length = 4 := hl.trans (by kernel_rfl)
    have hm : m ≤ n := by omega
    obtain ⟨a0, K0, o0⟩ := field_at hxl hg 0 _ rfl 1 (by kernel_rfl) (opens_int Try.underlying3) hm
    obtain ⟨a1, K1, o1⟩ := field_at hxl hg 1 _ rfl 1 (by kernel_rfl) (opens_string Try.underlying9) hm
    obtain ⟨a2, K2, o2⟩ := field_at hxl hg 2 _ rfl 1 (by kernel_rfl) (opens_int Try.underlying2) hm
    obtain ⟨a3, K3, o3⟩ := field_at hxl hg 3 _ rfl 1 (by kernel_rfl) (opens_slice Try.underlying59 ((by kernel_rfl : Try.prog.cellsOf 61 = 4).trans (sz61 n).symm) (opens61u n)) hm
    exact ⟨⟨a0, a1, a2, a3⟩, (show (F61 (Kd.upto F61 4 [61] n)).K W _ (cs.drop 0) from (cut_pair 0 1 K0 (cut_pair 1 1 K1 (cut_pair 2 1 K2 (cut_last 3 1 K3 (by omega)))))), Ok61.mk _ o0 o1 o2 o3.1 o3.2⟩
theorem opens61 {H : Type} {enc : TypeId × Value → H} {W : World} (n : Nat) : Opens enc Try.prog W 61 k61 Ok61 n := fun f hf cs x h => by
  obtain ⟨a, h1, h2⟩ := opens61u n f hf cs x h
  exact ⟨a, ⟨n, h1⟩, h2⟩
theorem opens63 {H : Type} {enc : TypeId × Value → H} {W : World} (n : Nat) : Opens enc Try.prog W 63 k63 Ok63 n := by
  intro f hf cs x h
  obtain ⟨xs, m, rfl, _, hl, hxl, hg⟩ := DataW.trod_struct Try.underlying63 h
  have hl : cs.length = 5 := hl.trans (by kernel_rfl)
  have hm : m ≤ n := by omega
  obtain ⟨a0, K0, o0⟩ := field_at hxl hg 0 _ rfl 4 (by kernel_rfl) (opens61 _) hm
  obtain ⟨a1, K1, o1⟩ := field_at hxl hg 1 _ rfl 1 (by kernel_rfl) (opens_int Try.underlying3) hm
  exact ⟨⟨a0, a1⟩, (show k63.K W _ (cs.drop 0) from (cut_pair 0 4 K0 (cut_last 4 1 K1 (by omega)))), Ok63.mk _ o0 o1⟩
theorem opens66 {H : Type} {enc : TypeId × Value → H} {W : World} (n : Nat) : Opens enc Try.prog W 66 k66 Ok66 n := by
  intro f hf cs x h
  obtain ⟨xs, m, rfl, _, hl, hxl, hg⟩ := DataW.trod_struct Try.underlying66 h
  have hl : cs.length = 5 := hl.trans (by kernel_rfl)
  have hm : m ≤ n := by omega
  obtain ⟨a0, K0, o0⟩ := field_at hxl hg 0 _ rfl 1 (by kernel_rfl) (opens_int Try.underlying2) hm
  obtain ⟨a1, K1, o1⟩ := field_at hxl hg 1 _ rfl 4 (by kernel_rfl) (opens61 _) hm
  exact ⟨⟨a0, a1⟩, (show k66.K W _ (cs.drop 0) from (cut_pair 0 1 K0 (cut_last 1 4 K1 (by omega)))), Ok66.mk _ o0 o1⟩
theorem opens37 {H : Type} {enc : TypeId × Value → H} {W : World} (n : Nat) : Opens enc Try.prog W 37 k37 Ok37 n := by
  intro f hf cs x h
  obtain ⟨xs, m, rfl, _, hl, hxl, hg⟩ := DataW.trod_struct Try.underlying37 h
  have hl : cs.length = 3 := hl.trans (by kernel_rfl)
  have hm : m ≤ n := by omega
  obtain ⟨a0, K0, o0⟩ := field_at hxl hg 0 _ rfl 1 (by kernel_rfl) (opens_slice Try.underlying34 (by kernel_rfl) (opens63 _)) hm
  obtain ⟨a1, K1, o1⟩ := field_at hxl hg 1 _ rfl 1 (by kernel_rfl) (opens_slice Try.underlying35 (by kernel_rfl) (opens66 _)) hm
  obtain ⟨a2, K2, o2⟩ := field_at hxl hg 2 _ rfl 1 (by kernel_rfl) (opens_int Try.underlying2) hm
  exact ⟨⟨a0, a1, a2⟩, (show k37.K W _ (cs.drop 0) from (cut_pair 0 1 K0 (cut_pair 1 1 K1 (cut_last 2 1 K2 (by omega))))), Ok37.mk _ o0.1 o0.2 o1.1 o1.2 o2⟩
theorem opens39 {H : Type} {enc : TypeId × Value → H} {W : World} (n : Nat) : Opens enc Try.prog W 39 k39 Ok39 n := by
  intro f hf cs x h
  obtain ⟨xs, m, rfl, _, hl, hxl, hg⟩ := DataW.trod_struct Try.underlying39 h
  have hl : cs.length = 5 := hl.trans (by kernel_rfl)
  have hm : m ≤ n := by omega
  obtain ⟨a0, K0, o0⟩ := field_at hxl hg 0 _ rfl 1 (by kernel_rfl) (opens_slice Try.underlying30 (by kernel_rfl) (opens_int Try.underlying3)) hm
  obtain ⟨a1, K1, o1⟩ := field_at hxl hg 1 _ rfl 3 (by kernel_rfl) (opens37 _) hm
  obtain ⟨a2, K2, o2⟩ := field_at hxl hg 2 _ rfl 1 (by kernel_rfl) (opens_slice Try.underlying30 (by kernel_rfl) (opens_int Try.underlying3)) hm
  exact ⟨⟨a0, a1, a2⟩, (show k39.K W _ (cs.drop 0) from (cut_pair 0 1 K0 (cut_pair 1 3 K1 (cut_last 4 1 K2 (by omega))))), Ok39.mk _ o0.1 o0.2 o1 o2.1 o2.2⟩
set_option maxRecDepth 100000 in
theorem lifted (os : Os) (started : os.Started) (H : Type) (enc : TypeId × Value → H) :
    ReturnsInHanded {} Try.checked os 4 .any (Rows.treePrunesSpec.pre6 enc Try.prog Try.f4 Rows.treePrunesRow.domain false) (Rows.treePrunesSpec.post enc Try.prog Try.f4 false true false false) := by
  refine returnsInHanded_of_change_sized (C := Try.checked) own started (by kernel_rfl) Try.func4
    (ChangeSpec.witness6 (enc := enc) (C := Try.checked) false ⟨#[], #[.slice none 0 0, .slice none 0 0, .int .i64 0], []⟩ 8 (by kernel_rfl) (by kernel_rfl) (by kernel_rfl) (by kernel_rfl)) ?_
  intro W base args ds gs before hval0 hW hcnd hsz0 _
  have hsz : (DataW.weightsEach Try.prog (Try.f4.params.toList ++ Rows.treePrunesSpec.plain.varTypes Try.prog) (ds ++ gs)).all (· ≤ reachBytes) = true := hsz0
  have hval : ∀ (j : Nat) t v, Try.f4.params[j]? = some t → args[j]? = some v → Value.okWide Try.prog W .any base t v := hval0
  have hW' := hW
  obtain ⟨p, q, hA0, hV, rfl, hfz, hnd⟩ := hW
  have hA : DataW.TrodAll enc Try.prog W 0 (fun _ => true) true Try.f4.params.toList args.toList ds p := hA0
  rw [Try.params4] at hA hval hsz
  obtain ⟨v0, vs0, d0, ds0, p0, q0, hargs, rfl, rfl, h0, r0⟩ := trodAll_cons hA
  obtain ⟨v1, vs1, d1, ds1, p1, q1, rfl, rfl, rfl, h1, r1⟩ := trodAll_cons r0
  obtain ⟨v2, vs2, d2, ds2, p2, q2, rfl, rfl, rfl, h2, r2⟩ := trodAll_cons r1
  obtain ⟨rfl, rfl, rfl⟩ := trodAll_nil r2
  obtain rfl : args = #[v0, v1, v2] := by cases args; simp_all
  obtain ⟨rfl, rfl⟩ := trodVars_none hV
  obtain ⟨A0, len0, c0, rfl⟩ := okWide_slice Try.underlying22 (hval 0 22 v0 rfl rfl)
  have k0 := h0
  have lt0 : ∀ x ∈ p0, x.block < W.heap.size := by obtain ⟨m, hm⟩ := k0; exact DataW.trod_lt m _ _ _ hm
  obtain ⟨fuel0, hf0⟩ := h0
  obtain ⟨l0, ⟨A0_, c0_, he0, hc0, hC0⟩, ok0⟩ := (show Opens enc Try.prog W 22 (Kd.slice 39 k39) _ fuel0 from (opens_slice Try.underlying22 (by kernel_rfl) (opens39 _))) fuel0 (Nat.le_refl _) _ _ hf0
  simp only [Value.cells, List.cons.injEq, Value.slice.injEq, and_true] at he0
  obtain ⟨rfl, rfl, rfl⟩ := he0
  obtain ⟨A1, len1, c1, rfl⟩ := okWide_slice Try.underlying30 (hval 1 30 v1 rfl rfl)
  have k1 := h1
  have lt1 : ∀ x ∈ p1, x.block < W.heap.size := by obtain ⟨m, hm⟩ := k1; exact DataW.trod_lt m _ _ _ hm
  have y1 : len1 * 8 ≤ 140737488351232 := sized_ints hsz (j := 1) (t := 30) rfl rfl Try.underlying30 Try.underlying3 (by kernel_rfl) (by kernel_rfl) h1
  obtain ⟨fuel1, hf1⟩ := h1
  obtain ⟨l1, ⟨A1_, c1_, he1, hc1, hC1⟩, ok1⟩ := (show Opens enc Try.prog W 30 (Kd.slice 3 (Kd.int .i64)) _ fuel1 from (opens_slice Try.underlying30 (by kernel_rfl) (opens_int Try.underlying3))) fuel1 (Nat.le_refl _) _ _ hf1
  simp only [Value.cells, List.cons.injEq, Value.slice.injEq, and_true] at he1
  obtain ⟨rfl, rfl, rfl⟩ := he1
  obtain ⟨a2, rfl, rfl, rfl, w2⟩ := open_int Try.underlying3 (hval 2 3 v2 rfl rfl) h2
  clear hA0 hval0 hsz0 hsz
  refine (P.spinneylaw21_TreePrunes.walk Pure.TreePrunes W A0 c0 l0 hC0 hc0 A1 c1 l1 hC1 hc1 a2 ok0.1 ok0.2 ok1.1 y1 ok1.2 w2).mono fun e W' ⟨he, bel⟩ => ?_
  subst he
  exact ⟨_, rfl, _, _, _, [], _, [], hW', trodAll_mk1 (shut_bool Try.underlying4 _), (trodAll_cons_mk (Below.trod laidOut (by kernel_rfl) (of_decide_eq_true (by kernel_rfl)) k0 bel lt0) (trodAll_cons_mk (Below.trod laidOut (by kernel_rfl) (of_decide_eq_true (by kernel_rfl)) k1 bel lt1) (trodAll_cons_mk (shut_int Try.underlying3 w2) trodAll_mk0))), rfl, bel.frame _, fun h => by cases h⟩
theorem over : Rows.treePrunesRow.holds Try.pinned (OpenSpec.ofChange Rows.treePrunesSpec) :=
  OpenClaim.holds_of_wide 4 Try.f4 rfl rfl rfl rfl rfl rfl rfl ⟨rfl, rfl, rfl, rfl, rfl⟩ rfl rfl rfl rfl rfl (by kernel_rfl) Try.func4 (by kernel_rfl)
    (of_decide_eq_true (by kernel_rfl)) (by unfold Func.isWrapper; first | (rw [if_pos (by decide +kernel)]; kernel_rfl) | (rw [if_neg (by decide +kernel)]; exact ⟨rfl, rfl⟩))
    (fun os started H enc _ => lifted os started H enc)
theorem proved : Rows.TreePrunesSaid := over
#print axioms proved
end Go.Proofs.Ytfcmbflpefhpaaa.treePrunes
namespace Go.Proofs.Ytfcmbflpefhpaaa
/-- The row, under a short name, for the claim. -/
theorem treePrunes_holds : Rows.TreePrunesSaid := treePrunes.proved
end Go.Proofs.Ytfcmbflpefhpaaa
