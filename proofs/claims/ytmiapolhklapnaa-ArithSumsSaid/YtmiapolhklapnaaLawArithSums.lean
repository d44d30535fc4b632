-- PRINTED by a program of this session over the kit's print.py.
import Derived.Test.YtmiapolhklapnaaRows
import Derived.Test.YtmiapolhklapnaaPx7
import Derived.Test.YtmiapolhklapnaaPureArithSums
import Derived.Test.YtmiapolhklapnaaOpens
import Derived.WalkKit
import Derived.ProofKit
import Derived.OpenShut
import Derived.ShutString
import Derived.ChangeOld
import Derived.Below
import Derived.SizedLaws
import Derived.Test.YtmiapolhklapnaaWSized
namespace Go.Proofs.Ytmiapolhklapnaa.arithSums
open Go.ChangeShapes Go.WideShapes Go.ChangeAt Go.RowKit Go.Own Go.Proofs.Ytmiapolhklapnaa.P Go.Proofs.YtmiapolhklapnaaW.PrintWords Go.Proofs.YtmiapolhklapnaaW.PrintLast
open Go.ChangeMaps (open_string shut_string)
set_option linter.unusedVariables false
theorem own : ownKnob Try.prog.godebug = none := by kernel_rfl
theorem laidOut : laidOutB Try.prog = true := by kernel_rfl
theorem opens25u {H : Type} {enc : TypeId × Value → H} {W : World} : ∀ n : Nat, Opens enc Try.prog W 25 (Kd.upto F25 4 [25] n) Ok25 n
  | 0 => fun f hf cs x h => by
    obtain rfl : f = 0 := by omega
    simp [DataW.trod] at h
  | n + 1 => by
    intro f hf cs x h
    obtain ⟨xs, m, rfl, _, hl, hxl, hg⟩ := DataW.trod_struct Try.underlying25 h
    have hl : cs.length = 4 := hl.trans (by kernel_rfl)
    have hm : m ≤ n := by omega
    obtain ⟨a0, K0, o0⟩ := field_at hxl hg 0 _ rfl 1 (by kernel_rfl) (opens_int Try.underlying3) hm
    obtain ⟨a1, K1, o1⟩ := field_at hxl hg 1 _ rfl 1 (by kernel_rfl) (opens_string Try.underlying9) hm
    obtain ⟨a2, K2, o2⟩ := field_at hxl hg 2 _ rfl 1 (by kernel_rfl) (opens_int Try.underlying2) hm
    obtain ⟨a3, K3, o3⟩ := field_at hxl hg 3 _ rfl 1 (by kernel_rfl) (opens_slice Try.underlying23 ((by kernel_rfl : Try.prog.cellsOf 25 = 4).trans (sz25 n).symm) (opens25u n)) hm
    exact ⟨⟨a0, a1, a2, a3⟩, (show (F25 (Kd.upto F25 4 [25] n)).K W _ (cs.drop 0) from (cut_pair 0 1 K0 (cut_pair 1 1 K1 (cut_pair 2 1 K2 (cut_last 3 1 K3 (by omega)))))), Ok25.mk _ o0 o1 o2 o3.1 o3.2⟩
theorem opens25 {H : Type} {enc : TypeId × Value → H} {W : World} (n : Nat) : Opens enc Try.prog W 25 k25 Ok25 n := fun f hf cs x h => by
  obtain ⟨a, h1, h2⟩ := opens25u n f hf cs x h
  exact ⟨a, ⟨n, h1⟩, h2⟩
theorem opens45 {H : Type} {enc : TypeId × Value → H} {W : World} (n : Nat) : Opens enc Try.prog W 45 k45 Ok45 n := by
  intro f hf cs x h
  obtain ⟨xs, m, rfl, _, hl, hxl, hg⟩ := DataW.trod_struct Try.underlying45 h
  have hl : cs.length = 5 := hl.trans (by kernel_rfl)
  have hm : m ≤ n := by omega
  obtain ⟨a0, K0, o0⟩ := field_at hxl hg 0 _ rfl 1 (by kernel_rfl) (opens_int Try.underlying2) hm
  obtain ⟨a1, K1, o1⟩ := field_at hxl hg 1 _ rfl 4 (by kernel_rfl) (opens25 _) hm
  exact ⟨⟨a0, a1⟩, (show k45.K W _ (cs.drop 0) from (cut_pair 0 1 K0 (cut_last 1 4 K1 (by omega)))), Ok45.mk _ o0 o1⟩
set_option maxRecDepth 100000 in
theorem lifted (os : Os) (started : os.Started) (H : Type) (enc : TypeId × Value → H) :
    ReturnsInHanded {} Try.checked os 6 .any (Rows.arithSumsSpec.pre6 enc Try.prog Try.f6 Rows.arithSumsRow.domain false) (Rows.arithSumsSpec.post enc Try.prog Try.f6 false true false false) := by
  refine returnsInHanded_of_change_sized (C := Try.checked) own started (by kernel_rfl) Try.func6
    (ChangeSpec.witness6 (enc := enc) (C := Try.checked) false ⟨#[], #[.int .i64 0, .int .i64 0], []⟩ 8 (by kernel_rfl) (by kernel_rfl) (by kernel_rfl) (by kernel_rfl)) ?_
  intro W base args ds gs before hval0 hW hcnd hsz0 _
  have hsz : (DataW.weightsEach Try.prog (Try.f6.params.toList ++ Rows.arithSumsSpec.plain.varTypes Try.prog) (ds ++ gs)).all (· ≤ reachBytes) = true := hsz0
  have hval : ∀ (j : Nat) t v, Try.f6.params[j]? = some t → args[j]? = some v → Value.okWide Try.prog W .any base t v := hval0
  have hW' := hW
  obtain ⟨p, q, hA0, hV, rfl, hfz, hnd⟩ := hW
  have hA : DataW.TrodAll enc Try.prog W 0 (fun _ => true) true Try.f6.params.toList args.toList ds p := hA0
  rw [Try.params6] at hA hval hsz
  obtain ⟨v0, vs0, d0, ds0, p0, q0, hargs, rfl, rfl, h0, r0⟩ := trodAll_cons hA
  obtain ⟨v1, vs1, d1, ds1, p1, q1, rfl, rfl, rfl, h1, r1⟩ := trodAll_cons r0
  obtain ⟨rfl, rfl, rfl⟩ := trodAll_nil r1
  obtain rfl : args = #[v0, v1] := by cases args; simp_all
  obtain ⟨rfl, rfl⟩ := trodVars_none hV
  obtain ⟨a0, rfl, rfl, rfl, w0⟩ := open_int Try.underlying2 (hval 0 2 v0 rfl rfl) h0
  obtain ⟨a1, rfl, rfl, rfl, w1⟩ := open_int Try.underlying2 (hval 1 2 v1 rfl rfl) h1
  clear hA0 hval0 hsz0 hsz
  refine (P.spinneylaw11_ArithSums.walk Pure.ArithSums W a0 a1 w0 w1).mono fun e W' ⟨he, bel⟩ => ?_
  subst he
  exact ⟨_, rfl, _, _, _, [], _, [], hW', trodAll_mk1 (shut_bool Try.underlying4 _), (trodAll_cons_mk (shut_int Try.underlying2 w0) (trodAll_cons_mk (shut_int Try.underlying2 w1) trodAll_mk0)), rfl, bel.frame _, fun h => by cases h⟩
theorem over : Rows.arithSumsRow.holds Try.pinned (OpenSpec.ofChange Rows.arithSumsSpec) :=
  OpenClaim.holds_of_wide 6 Try.f6 rfl rfl rfl rfl rfl rfl rfl ⟨rfl, rfl, rfl, rfl, rfl⟩ rfl rfl rfl rfl rfl (by kernel_rfl) Try.func6 (by kernel_rfl)
    (of_decide_eq_true (by kernel_rfl)) (by unfold Func.isWrapper; first | (rw [if_pos (by decide +kernel)]; kernel_rfl) | (rw [if_neg (by decide +kernel)]; exact ⟨rfl, rfl⟩))
    (fun os started H enc _ => lifted os started H enc)
theorem proved : Rows.ArithSumsSaid := over
#print axioms proved
end Go.Proofs.Ytmiapolhklapnaa.arithSums
namespace Go.Proofs.Ytmiapolhklapnaa
/-- The row, under a short name, for the claim. -/
theorem arithSums_holds : Rows.ArithSumsSaid := arithSums.proved
end Go.Proofs.Ytmiapolhklapnaa
