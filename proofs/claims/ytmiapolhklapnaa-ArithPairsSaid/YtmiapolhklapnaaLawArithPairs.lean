-- PRINTED by a program of this session over the kit's print.py.
import Derived.Test.YtmiapolhklapnaaRows
import Derived.Test.YtmiapolhklapnaaPx7
import Derived.Test.YtmiapolhklapnaaPureArithPairs
import Derived.Test.YtmiapolhklapnaaOpens
import Derived.WalkKit
import Derived.ProofKit
import Derived.OpenShut
import Derived.ShutString
import Derived.ChangeOld
import Derived.Below
import Derived.SizedLaws
import Derived.Test.YtmiapolhklapnaaWSized
namespace Go.Proofs.Ytmiapolhklapnaa.arithPairs
open Go.ChangeShapes Go.WideShapes Go.ChangeAt Go.RowKit Go.Own Go.Proofs.Ytmiapolhklapnaa.P Go.Proofs.YtmiapolhklapnaaW.PrintWords Go.Proofs.YtmiapolhklapnaaW.PrintLast
open Go.ChangeMaps (open_string shut_string)
set_option linter.unusedVariables false
theorem own : ownKnob Try.prog.godebug = none := by kernel_rfl
theorem laidOut : laidOutB Try.prog = true := by kernel_rfl
theorem opens25u {H : Type} {enc : TypeId × Value → H} {W : World} : ∀ n : Nat, Opens enc Try.prog W 25 (Kd.upto F25 4 [25] n) Ok25 n
  | 0 => fun f hf cs x h => by
    obtain rfl : f = 0 := by omega
    simp [DataW.trod] at h
  | n + 1 => by
    intro f hf cs x h
    obtain ⟨xs, m, rfl, _, hl, hxl, hg⟩ := DataW.trod_struct Try.underlying25 h
    have hl : cs.length = 4 := hl.trans (by kernel_rfl)
    have hm : m ≤ n := by omega
    obtain ⟨a0, K0, o0⟩ := field_at hxl hg 0 _ rfl 1 (by kernel_rfl) (opens_int Try.underlying3) hm
    obtain ⟨a1, K1, o1⟩ := field_at hxl hg 1 _ rfl 1 (by kernel_rfl) (opens_string Try.underlying9) hm
    obtain ⟨a2, K2, o2⟩ := field_at hxl hg 2 _ rfl 1 (by kernel_rfl) (opens_int Try.underlying2) hm
    obtain ⟨a3, K3, o3⟩ := field_at hxl hg 3 _ rfl 1 (by kernel_rfl) (opens_slice Try.underlying23 ((by kernel_rfl : Try.prog.cellsOf 25 = 4).trans (sz25 n).symm) (opens25u n)) hm
    exact ⟨⟨a0, a1, a2, a3⟩, (show (F25 (Kd.upto F25 4 [25] n)).K W _ (cs.drop 0) from (cut_pair 0 1 K0 (cut_pair 1 1 K1 (cut_pair 2 1 K2 (cut_last 3 1 K3 (by omega)))))), Ok25.mk _ o0 o1 o2 o3.1 o3.2⟩
theorem opens25 {H : Type} {enc : TypeId × Value → H} {W : World} (n : Nat) : Opens enc Try.prog W 25 k25 Ok25 n := fun f hf cs x h => by
  obtain ⟨a, h1, h2⟩ := opens25u n f hf cs x h
  exact ⟨a, ⟨n, h1⟩, h2⟩
theorem opens45 {H : Type} {enc : TypeId × Value → H} {W : World} (n : Nat) : Opens enc Try.prog W 45 k45 Ok45 n := by
  intro f hf cs x h
  obtain ⟨xs, m, rfl, _, hl, hxl, hg⟩ := DataW.trod_struct Try.underlying45 h
  have hl : cs.length = 5 := hl.trans (by kernel_rfl)
  have hm : m ≤ n := by omega
  obtain ⟨a0, K0, o0⟩ := field_at hxl hg 0 _ rfl 1 (by kernel_rfl) (opens_int Try.underlying2) hm
  obtain ⟨a1, K1, o1⟩ := field_at hxl hg 1 _ rfl 4 (by kernel_rfl) (opens25 _) hm
  exact ⟨⟨a0, a1⟩, (show k45.K W _ (cs.drop 0) from (cut_pair 0 1 K0 (cut_last 1 4 K1 (by omega)))), Ok45.mk _ o0 o1⟩
set_option maxRecDepth 100000 in
theorem lifted (os : Os) (started : os.Started) (H : Type) (enc : TypeId × Value → H) :
    ReturnsInHanded {} Try.checked os 5 .any (Rows.arithPairsSpec.pre6 enc Try.prog Try.f5 Rows.arithPairsRow.domain false) (Rows.arithPairsSpec.post enc Try.prog Try.f5 false true false false) := by
  refine returnsInHanded_of_change_sized (C := Try.checked) own started (by kernel_rfl) Try.func5
    (ChangeSpec.witness6 (enc := enc) (C := Try.checked) false ⟨#[], #[.slice none 0 0, .agg #[.int .i64 0, .string ByteArray.empty, .int .i64 0, .slice none 0 0], .agg #[.int .i64 0, .string ByteArray.empty, .int .i64 0, .slice none 0 0]], []⟩ 8 (by kernel_rfl) (by kernel_rfl) (by kernel_rfl) (by kernel_rfl)) ?_
  intro W base args ds gs before hval0 hW hcnd hsz0 _
  have hsz : (DataW.weightsEach Try.prog (Try.f5.params.toList ++ Rows.arithPairsSpec.plain.varTypes Try.prog) (ds ++ gs)).all (· ≤ reachBytes) = true := hsz0
  have hval : ∀ (j : Nat) t v, Try.f5.params[j]? = some t → args[j]? = some v → Value.okWide Try.prog W .any base t v := hval0
  have hW' := hW
  obtain ⟨p, q, hA0, hV, rfl, hfz, hnd⟩ := hW
  have hA : DataW.TrodAll enc Try.prog W 0 (fun _ => true) true Try.f5.params.toList args.toList ds p := hA0
  rw [Try.params5] at hA hval hsz
  obtain ⟨v0, vs0, d0, ds0, p0, q0, hargs, rfl, rfl, h0, r0⟩ := trodAll_cons hA
  obtain ⟨v1, vs1, d1, ds1, p1, q1, rfl, rfl, rfl, h1, r1⟩ := trodAll_cons r0
  obtain ⟨v2, vs2, d2, ds2, p2, q2, rfl, rfl, rfl, h2, r2⟩ := trodAll_cons r1
  obtain ⟨rfl, rfl, rfl⟩ := trodAll_nil r2
  obtain rfl : args = #[v0, v1, v2] := by cases args; simp_all
  obtain ⟨rfl, rfl⟩ := trodVars_none hV
  obtain ⟨A0, len0, c0, rfl⟩ := okWide_slice Try.underlying22 (hval 0 22 v0 rfl rfl)
  have k0 := h0
  have lt0 : ∀ x ∈ p0, x.block < W.heap.size := by obtain ⟨m, hm⟩ := k0; exact DataW.trod_lt m _ _ _ hm
  obtain ⟨fuel0, hf0⟩ := h0
  obtain ⟨l0, ⟨A0_, c0_, he0, hc0, hC0⟩, ok0⟩ := (show Opens enc Try.prog W 22 (Kd.slice 45 k45) _ fuel0 from (opens_slice Try.underlying22 (by kernel_rfl) (opens45 _))) fuel0 (Nat.le_refl _) _ _ hf0
  simp only [Value.cells, List.cons.injEq, Value.slice.injEq, and_true] at he0
  obtain ⟨rfl, rfl, rfl⟩ := he0
  obtain ⟨cs1, rfl, _⟩ := okWide_struct Try.underlying25 (hval 1 25 v1 rfl rfl)
  have k1 := h1
  have lt1 : ∀ x ∈ p1, x.block < W.heap.size := by obtain ⟨m, hm⟩ := k1; exact DataW.trod_lt m _ _ _ hm
  obtain ⟨fuel1, hf1⟩ := h1
  obtain ⟨x1, hK1, ok1⟩ := opens25 fuel1 fuel1 (Nat.le_refl _) _ _ hf1
  obtain ⟨A1_3, c1_3, he1, hc1_3, hC1_3⟩ := k25_open hK1
  obtain rfl : cs1 = #[.int .i64 x1.f0, .string x1.f1, .int .i64 x1.f2, .slice A1_3 x1.f3.length c1_3] := Array.ext' (by simpa [Value.cells] using he1)
  obtain ⟨cs2, rfl, _⟩ := okWide_struct Try.underlying25 (hval 2 25 v2 rfl rfl)
  have k2 := h2
  have lt2 : ∀ x ∈ p2, x.block < W.heap.size := by obtain ⟨m, hm⟩ := k2; exact DataW.trod_lt m _ _ _ hm
  obtain ⟨fuel2, hf2⟩ := h2
  obtain ⟨x2, hK2, ok2⟩ := opens25 fuel2 fuel2 (Nat.le_refl _) _ _ hf2
  obtain ⟨A2_3, c2_3, he2, hc2_3, hC2_3⟩ := k25_open hK2
  obtain rfl : cs2 = #[.int .i64 x2.f0, .string x2.f1, .int .i64 x2.f2, .slice A2_3 x2.f3.length c2_3] := Array.ext' (by simpa [Value.cells] using he2)
  clear hA0 hval0 hsz0 hsz
  refine (P.spinneylaw11_ArithPairs.walk Pure.ArithPairs W A0 c0 l0 hC0 hc0 x1.f0 x1.f1 x1.f2 A1_3 c1_3 x1.f3 hC1_3 hc1_3 x2.f0 x2.f1 x2.f2 A2_3 c2_3 x2.f3 hC2_3 hc2_3 ok0.1 ok0.2 (by first | exact ok1 | (cases x1; exact ok1)) (by first | exact ok2 | (cases x2; exact ok2))).mono fun e W' ⟨he, bel⟩ => ?_
  subst he
  exact ⟨_, rfl, _, _, _, [], _, [], hW', trodAll_mk1 (shut_bool Try.underlying4 _), (trodAll_cons_mk (Below.trod laidOut (by kernel_rfl) (of_decide_eq_true (by kernel_rfl)) k0 bel lt0) (trodAll_cons_mk (Below.trod laidOut (by kernel_rfl) (of_decide_eq_true (by kernel_rfl)) k1 bel lt1) (trodAll_cons_mk (Below.trod laidOut (by kernel_rfl) (of_decide_eq_true (by kernel_rfl)) k2 bel lt2) trodAll_mk0))), rfl, bel.frame _, fun h => by cases h⟩
theorem over : Rows.arithPairsRow.holds Try.pinned (OpenSpec.ofChange Rows.arithPairsSpec) :=
  OpenClaim.holds_of_wide 5 Try.f5 rfl rfl rfl rfl rfl rfl rfl ⟨rfl, rfl, rfl, rfl, rfl⟩ rfl rfl rfl rfl rfl (by kernel_rfl) Try.func5 (by kernel_rfl)
    (of_decide_eq_true (by kernel_rfl)) (by unfold Func.isWrapper; first | (rw [if_pos (by decide +kernel)]; kernel_rfl) | (rw [if_neg (by decide +kernel)]; exact ⟨rfl, rfl⟩))
    (fun os started H enc _ => lifted os started H enc)
theorem proved : Rows.ArithPairsSaid := over
#print axioms proved
end Go.Proofs.Ytmiapolhklapnaa.arithPairs
namespace Go.Proofs.Ytmiapolhklapnaa
/-- The row, under a short name, for the claim. -/
theorem arithPairs_holds : Rows.ArithPairsSaid := arithPairs.proved
end Go.Proofs.Ytmiapolhklapnaa
