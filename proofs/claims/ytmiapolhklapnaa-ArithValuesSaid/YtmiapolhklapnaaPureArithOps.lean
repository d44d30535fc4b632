/- What operators come to: the program's and the reference's. -/
import Derived.Test.YtmiapolhklapnaaPx3
import Derived.Test.YtmiapolhklapnaaPx9
import Derived.Test.YtmiapolhklapnaaPx10
import Derived.Test.YtmiapolhklapnaaPx11
import Derived.Test.YtmiapolhklapnaaPureNumOps
import Derived.Test.YtmiapolhklapnaaPureNumRefS
import Derived.Test.YtmiapolhklapnaaPureNumRefA
import Derived.Test.YtmiapolhklapnaaPureNumDivs
set_option linter.unusedVariables false
set_option linter.unusedSimpArgs false
namespace Go.Proofs.Ytmiapolhklapnaa.Pure
open Go Go.Own Go.RowKit Go.Proofs.Ytmiapolhklapnaa.P Go.Proofs.YtmiapolhklapnaaW.PrintWords Go.Proofs.YtmiapolhklapnaaW.PrintLast

theorem fit_range {n : Int} : (fit n).2 = 0 → In64 (fit n).1 := by
  unfold fit
  split
  · intro _; assumption
  · intro h; simp at h
theorem wrap_range (n : Int) : In64 (wrap64 n) := by unfold wrap64 In64; omega
theorem tmod_range {a b : Int} (ha : In64 a) (hb : In64 b) (h : b ≠ 0) : In64 (a.tmod b) := by
  unfold In64 at *
  have h1 : (a.tmod b).natAbs ≤ a.natAbs := by rw [Int.natAbs_tmod]; exact Nat.mod_le _ _
  by_cases h2 : 0 ≤ a
  · omega
  · have h3 := Int.tmod_nonneg b (show 0 ≤ -a by omega)
    rw [Int.neg_tmod] at h3
    omega
theorem refquo_total {a b : Int} (ha : In64 a) (hb : In64 b) : ∃ n e, spinneyref01_Quo.f a b = some (n, e) ∧ (e = 0 → In64 n) := by
  unfold spinneyref01_Quo.f
  by_cases h0 : b = 0
  · rw [if_pos h0]; exact ⟨_, _, rfl, fun h => by simp at h⟩
  · rw [if_neg h0]
    by_cases h1 : a = -9223372036854775808
    · rw [if_pos h1]
      by_cases h2 : b = -1
      · rw [if_pos h2]; exact ⟨_, _, rfl, fun h => by simp at h⟩
      · rw [if_neg h2]; exact ⟨_, _, rfl, fun _ => wrap_range _⟩
    · rw [if_neg h1]; exact ⟨_, _, rfl, fun _ => wrap_range _⟩
theorem refrem_total {a b : Int} (ha : In64 a) (hb : In64 b) : ∃ n e, spinneyref01_Rem.f a b = some (n, e) ∧ (e = 0 → In64 n) := by
  unfold spinneyref01_Rem.f
  by_cases h0 : b = 0
  · rw [if_pos h0]; exact ⟨_, _, rfl, fun h => by simp at h⟩
  · rw [if_neg h0]
    by_cases h2 : b = -1
    · rw [if_pos h2]; exact ⟨_, _, rfl, fun _ => by unfold In64; omega⟩
    · rw [if_neg h2]; exact ⟨_, _, rfl, fun _ => tmod_range ha hb h0⟩
theorem refmod_total {a b : Int} (ha : In64 a) (hb : In64 b) : ∃ n e, spinneyref01_Mod.f a b = some (n, e) ∧ (e = 0 → In64 n) := by
  obtain ⟨n, e, h, hr⟩ := refrem_total ha hb
  unfold spinneyref01_Mod.f
  rw [h]
  simp only [Option.bind_some]
  by_cases he : e = 0
  · rw [if_pos he]
    by_cases hn : n = 0
    · rw [if_pos hn]; exact ⟨_, _, rfl, hr⟩
    · rw [if_neg hn]
      split
      · exact ⟨_, _, rfl, fun _ => wrap_range _⟩
      · exact ⟨_, _, rfl, hr⟩
  · rw [if_neg he]; exact ⟨_, _, rfl, hr⟩
theorem two_eq (a : ByteArray) {x y : Int} (hx : In64 x) (hy : In64 y) (h : (arith_Eval.two a).isSome = true) (k : Nat) (hk : 2 ≤ k) :
    ∃ n e, arith_Eval.ap2 a x y = some (n, e) ∧ spinneyref11_two.f k a x y = some (n, e) ∧ (e = 0 → In64 n) := by
  obtain ⟨k, rfl⟩ : ∃ j, k = j + 2 := ⟨k - 2, by omega⟩
  unfold arith_Eval.two at h
  unfold arith_Eval.ap2 spinneyref11_two.f
  by_cases c1 : a.toList = ([43] : List UInt8)
  · rw [if_pos c1, if_pos c1, add_fit hx hy, refadd_fit hx hy]
    exact ⟨_, _, rfl, rfl, fit_range⟩
  rw [if_neg c1] at h
  rw [if_neg c1, if_neg c1]
  by_cases c2 : a.toList = ([45] : List UInt8)
  · rw [if_pos c2, if_pos c2, sub_fit hx hy, refsub_fit hx hy]
    exact ⟨_, _, rfl, rfl, fit_range⟩
  rw [if_neg c2] at h
  rw [if_neg c2, if_neg c2]
  by_cases c3 : a.toList = ([42] : List UInt8)
  · rw [if_pos c3, if_pos c3, mul_fit hx hy, refmul_fit hx hy]
    exact ⟨_, _, rfl, rfl, fit_range⟩
  rw [if_neg c3] at h
  rw [if_neg c3, if_neg c3]
  by_cases c4 : a.toList = ([47, 47] : List UInt8)
  · obtain ⟨n, e, hq, hr⟩ := refquo_total hx hy
    rw [if_pos c4, if_pos c4, quo_eq hx hy, hq]
    exact ⟨_, _, rfl, rfl, hr⟩
  rw [if_neg c4] at h
  rw [if_neg c4, if_neg c4]
  by_cases c5 : a.toList = ([114, 101, 109] : List UInt8)
  · obtain ⟨n, e, hq, hr⟩ := refrem_total hx hy
    rw [if_pos c5, if_pos c5, rem_eq, hq]
    exact ⟨_, _, rfl, rfl, hr⟩
  rw [if_neg c5] at h
  rw [if_neg c5, if_neg c5]
  by_cases c6 : a.toList = ([109, 111, 100] : List UInt8)
  · obtain ⟨n, e, hq, hr⟩ := refmod_total hx hy
    rw [if_pos c6, mod_eq hx hy, hq]
    exact ⟨_, _, rfl, rfl, hr⟩
  rw [if_neg c6] at h
  cases h
theorem one_eq (a : ByteArray) {x : Int} (hx : In64 x) (h : (arith_Eval.one a).isSome = true) :
    ∃ n e, arith_Eval.ap1 a x = some (n, e) ∧ spinneyref11_one.f a x = some (n, e) ∧ (e = 0 → In64 n) := by
  unfold arith_Eval.one at h
  unfold arith_Eval.ap1 spinneyref11_one.f
  by_cases c1 : a.toList = ([45] : List UInt8)
  · rw [if_pos c1, if_pos c1, neg_fit hx, refneg_fit hx]
    exact ⟨_, _, rfl, rfl, fit_range⟩
  rw [if_neg c1] at h
  rw [if_neg c1, if_neg c1]
  by_cases c2 : a.toList = ([97, 98, 115] : List UInt8)
  · rw [if_pos c2, if_pos c2, abs_fit hx, refabs_fit hx]
    by_cases hx0 : x < 0
    · rw [if_pos hx0]; exact ⟨_, _, rfl, rfl, fit_range⟩
    · rw [if_neg hx0]; exact ⟨_, _, rfl, rfl, fun _ => hx⟩
  rw [if_neg c2] at h
  rw [if_neg c2, if_neg c2]
  by_cases c3 : a.toList = ([115, 105, 103, 110] : List UInt8)
  · rw [if_pos c3, refsign_eq]
    refine ⟨arith_Eval.sg x, 0, rfl, ?_, ?_⟩
    · simp only [Option.bind_some]
      congr 1
    · intro _
      unfold arith_Eval.sg In64
      split
      · omega
      · split <;> omega
  rw [if_neg c3] at h
  cases h

end Go.Proofs.Ytmiapolhklapnaa.Pure
