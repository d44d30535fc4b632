/- Evaluation: the program's is the reference's. -/
import Derived.Test.YtmiapolhklapnaaPx3
import Derived.Test.YtmiapolhklapnaaPx8
import Derived.Test.YtmiapolhklapnaaPx12
import Derived.Test.YtmiapolhklapnaaPureArith
import Derived.Test.YtmiapolhklapnaaPureArithOps
set_option linter.unusedVariables false
set_option linter.unusedSimpArgs false
namespace Go.Proofs.Ytmiapolhklapnaa.Pure
open Go Go.Own Go.RowKit Go.Proofs.Ytmiapolhklapnaa.P Go.Proofs.YtmiapolhklapnaaW.PrintWords Go.Proofs.YtmiapolhklapnaaW.PrintLast

theorem j0_eq (k : Nat) (l : List S45) (d s f0 f2 : Int) (f1 : ByteArray) (a : S25) (h1 : (arith_Eval.one f1).isSome = true) {n e s' : Int} (he : spinneyref11_eval.f k s l a.f0 a.f1 a.f2 a.f3 (wrap64 (d + 1)) = some (n, e, s')) (hr : e = 0 → In64 n) :
    ∃ n' e', spinneyref11_eval.j0 (k + 1) l d false s f0 f1 f2 [a] = some (n', e', s') ∧ (e ≠ 0 → n' = 0 ∧ e' = e) ∧ (e = 0 → ∃ x y, arith_Eval.ap1 f1 n = some (x, y) ∧ (y = 0 → In64 x) ∧ (n', e') = (if y = 0 then (x, 0) else (0, 112))) := by
  unfold spinneyref11_eval.j0
  rw [if_neg (by simp), if_pos (by simp)]
  have er : rd_T25 [a] 0 = a := rfl
  rw [er, he]
  simp only [Option.bind_some]
  by_cases h0 : e = 0
  · rw [if_pos h0]
    obtain ⟨x, y, h2, h3, h4⟩ := one_eq f1 (hr h0) h1
    rw [h3]
    simp only [Option.bind_some]
    unfold spinneyref11_told.f
    by_cases hy : y = 0
    · rw [if_pos hy]
      exact ⟨x, 0, rfl, fun h => absurd h0 h, fun _ => ⟨x, y, h2, h4, by rw [if_pos hy]⟩⟩
    · rw [if_neg hy]
      exact ⟨0, 112, rfl, fun h => absurd h0 h, fun _ => ⟨x, y, h2, h4, by rw [if_neg hy]⟩⟩
  · rw [if_neg h0]
    exact ⟨0, e, rfl, fun _ => ⟨rfl, rfl⟩, fun h => absurd h h0⟩
theorem eval_eq (l : List S45) (hl : l.length ≤ 9223372036854775807) (hok : ∀ y ∈ l, Ok45 y) : ∀ (m : Nat) (t : S25) (d s : Int) (k1 k2 : Nat), d = 60 - (m : Int) → m ≤ 60 → 0 ≤ s → s ≤ 2000 → Ok25 t → 2003 + m ≤ k1 → l.length + 2010 + 2 * m ≤ k2 →
    ∃ n e d' s', arith_Eval.val l k1 t d s = some (n, e, d', s') ∧ spinneyref11_eval.f k2 s l t.f0 t.f1 t.f2 t.f3 d = some (n, e, s') ∧ (e = 0 → d' = d ∧ 0 ≤ s' ∧ s' ≤ 2000 ∧ In64 n) := by
  intro m
  induction m with
  | zero =>
    intro t d s k1 k2 hd hm h0 h1 ht hk1 hk2
    obtain ⟨k1, rfl⟩ : ∃ j, k1 = j + 1 := ⟨k1 - 1, by omega⟩
    obtain ⟨k2, rfl⟩ : ∃ j, k2 = j + 1 := ⟨k2 - 1, by omega⟩
    refine ⟨0, 3, d, s, ?_, ?_, fun h => by simp at h⟩
    · simp only [arith_Eval.val]
      rw [if_pos (by omega)]
    · unfold spinneyref11_eval.f
      rw [if_pos (by omega)]
  | succ m ih =>
    intro t d s k1 k2 hd hm h0 h1 ht hk1 hk2
    obtain ⟨k1, rfl⟩ : ∃ j, k1 = j + 1 := ⟨k1 - 1, by omega⟩
    obtain ⟨k2, rfl⟩ : ∃ j, k2 = j + 1 + 1 := ⟨k2 - 2, by omega⟩
    obtain ⟨⟨q, e, s1⟩, hv, hm2, hq⟩ := meet_eq l hl hok t ht s h0 h1 k1 (k2 + 1) (by omega) (by omega)
    dsimp only at hm2 hq
    simp only [arith_Eval.val]
    unfold spinneyref11_eval.f
    rw [if_neg (show ¬ d = 60 by omega), if_neg (show ¬ d ≥ 60 by omega), hv, hm2]
    simp only [Option.bind_some]
    by_cases he : e = 0
    case neg =>
      rw [if_neg he, if_neg he]
      exact ⟨0, e, d, s1, rfl, rfl, fun h => absurd h he⟩
    rw [if_pos he, if_pos he]
    obtain ⟨hqo, hs0, hs1⟩ := hq he
    by_cases f1 : q.f0 = 1
    · rw [if_pos f1, if_pos f1]
      exact ⟨0, 110, d, s1, rfl, rfl, fun h => by simp at h⟩
    rw [if_neg f1, if_neg f1]
    by_cases f3 : q.f0 = 3
    · rw [if_pos f3, if_pos f3]
      refine ⟨q.f2, 0, d, s1, rfl, rfl, fun _ => ⟨rfl, hs0, hs1, ?_⟩⟩
      cases hqo with
      | mk _ _ _ h2 _ _ => exact in64_of_wf h2
    rw [if_neg f3, if_neg f3]
    by_cases f4 : q.f0 = 4
    case neg =>
      rw [if_neg f4, if_neg f4]
      exact ⟨0, 111, d, s1, rfl, rfl, fun h => by simp at h⟩
    rw [if_pos f4, if_pos f4]
    have ew : wrap64 (d + 1) = d + 1 := by unfold wrap64; omega
    have ew2 : wrap64 (d + 1 - 1) = d := by unfold wrap64; omega
    have hall : ∀ y ∈ q.f3, Ok25 y := by
      cases hqo with
      | mk _ _ _ _ _ h => exact h
    by_cases n2 : q.f3.length = 2
    · rw [if_pos n2, if_neg (show ¬ ((q.f3.length : Int) = 1) by omega), if_pos (show ((q.f3.length : Int) = 2) by omega)]
      obtain ⟨a, b, hab⟩ : ∃ a b, q.f3 = [a, b] := by
        match h : q.f3, n2 with
        | [a, b], _ => exact ⟨a, b, rfl⟩
      rw [hab] at hall ⊢
      obtain ⟨na, ea, da, sa, hva, hra, hga⟩ := ih a (d + 1) s1 k1 k2 (by omega) (by omega) hs0 hs1 (hall a (by simp)) (by omega) (by omega)
      -- the reference, where the name is an operator's
      have href : (arith_Eval.two q.f1).isSome = true → ∃ n' e' s', spinneyref11_eval.j1 (k2 + 1) l d s1 q.f0 q.f1 q.f2 [a, b] = some (n', e', s') ∧
          ∃ d', ((arith_Eval.argsf (arith_Eval.val l k1) [a, b] d s1).bind fun a => if a.2.2.1 = 0 then (arith_Eval.ap2 q.f1 a.1 a.2.1).bind fun n => (if n.2 = 0 then some (n.1, 0, a.2.2.2.1, a.2.2.2.2) else some (0, 112, a.2.2.2.1, a.2.2.2.2)) else some (0, a.2.2.1, a.2.2.2.1, a.2.2.2.2)) = some (n', e', d', s') ∧ (e' = 0 → d' = d ∧ 0 ≤ s' ∧ s' ≤ 2000 ∧ In64 n') := by
        intro htwo
        unfold spinneyref11_eval.j1 arith_Eval.argsf
        simp only [arith_Eval.al]
        rw [if_pos (by simp)]
        have er : rd_T25 [a, b] 0 = a := rfl
        have er1 : rd_T25 [a, b] 1 = b := rfl
        rw [er, er1, ew, hra, hva]
        simp only [Option.bind_some]
        by_cases hea : ea = 0
        case neg =>
          rw [if_neg hea, if_neg hea]
          refine ⟨0, ea, sa, rfl, da, ?_, fun h => absurd h hea⟩
          simp [hea]
        rw [if_pos hea, if_pos hea, if_pos (by simp)]
        obtain ⟨hda, hsa0, hsa1, hna⟩ := hga hea
        subst hda
        obtain ⟨nb, eb, db, sb, hvb, hrb, hgb⟩ := ih b (d + 1) sa k1 k2 (by omega) (by omega) hsa0 hsa1 (hall b (by simp)) (by omega) (by omega)
        rw [hrb, hvb]
        simp only [Option.bind_some]
        by_cases heb : eb = 0
        case neg =>
          rw [if_neg heb, if_neg heb]
          refine ⟨0, eb, sb, rfl, db, ?_, fun h => absurd h heb⟩
          simp [heb]
        rw [if_pos heb, if_pos heb]
        obtain ⟨hdb, hsb0, hsb1, hnb⟩ := hgb heb
        subst hdb
        obtain ⟨x, y, h2, h3, h4⟩ := two_eq q.f1 hna hnb htwo k2 (by omega)
        simp only [Option.bind_some, if_true, ew2]
        rw [h3]
        simp only [Option.bind_some]
        unfold spinneyref11_told.f
        by_cases hy : y = 0
        · refine ⟨x, 0, sb, by rw [if_pos hy]; rfl, d, ?_, fun _ => ⟨rfl, hsb0, hsb1, h4 hy⟩⟩
          simp [h2, hy]
        · refine ⟨0, 112, sb, by rw [if_neg hy]; rfl, d, ?_, fun h => by simp at h⟩
          simp [h2, hy]
      by_cases ht2 : (arith_Eval.two q.f1).isSome = true
      · obtain ⟨n', e', s', hj, d', hm', hg'⟩ := href ht2
        refine ⟨n', e', d', s', ?_, ?_, hg'⟩
        · rw [if_pos ht2]; exact hm'
        · rw [hj]
          unfold arith_Eval.two at ht2
          by_cases c1 : q.f1.toList = ([43] : List UInt8)
          · rw [if_pos c1]
          by_cases c2 : q.f1.toList = ([45] : List UInt8)
          · rw [if_neg c1, if_pos c2]
          by_cases c3 : q.f1.toList = ([42] : List UInt8)
          · rw [if_neg c1, if_neg c2, if_pos c3]
          by_cases c4 : q.f1.toList = ([47, 47] : List UInt8)
          · rw [if_neg c1, if_neg c2, if_neg c3, if_pos c4]
          by_cases c5 : q.f1.toList = ([114, 101, 109] : List UInt8)
          · rw [if_neg c1, if_neg c2, if_neg c3, if_neg c4, if_pos c5]
          by_cases c6 : q.f1.toList = ([109, 111, 100] : List UInt8)
          · rw [if_neg c1, if_neg c2, if_neg c3, if_neg c4, if_neg c5, if_pos c6]
          · rw [if_neg c1, if_neg c2, if_neg c3, if_neg c4, if_neg c5, if_neg c6] at ht2
            cases ht2
      · refine ⟨0, 111, d, s1, ?_, ?_, fun h => by simp at h⟩
        · rw [if_neg ht2]
        · unfold arith_Eval.two at ht2
          by_cases c1 : q.f1.toList = ([43] : List UInt8)
          · rw [if_pos c1] at ht2; simp at ht2
          rw [if_neg c1] at ht2
          by_cases c2 : q.f1.toList = ([45] : List UInt8)
          · rw [if_pos c2] at ht2; simp at ht2
          rw [if_neg c2] at ht2
          by_cases c3 : q.f1.toList = ([42] : List UInt8)
          · rw [if_pos c3] at ht2; simp at ht2
          rw [if_neg c3] at ht2
          by_cases c4 : q.f1.toList = ([47, 47] : List UInt8)
          · rw [if_pos c4] at ht2; simp at ht2
          rw [if_neg c4] at ht2
          by_cases c5 : q.f1.toList = ([114, 101, 109] : List UInt8)
          · rw [if_pos c5] at ht2; simp at ht2
          rw [if_neg c5] at ht2
          by_cases c6 : q.f1.toList = ([109, 111, 100] : List UInt8)
          · rw [if_pos c6] at ht2; simp at ht2
          rw [if_neg c1, if_neg c2, if_neg c3, if_neg c4, if_neg c5, if_neg c6]
    rw [if_neg n2]
    by_cases n1 : q.f3.length = 1
    case neg =>
      rw [if_neg n1, if_neg (show ¬ ((q.f3.length : Int) = 1) by omega), if_neg (show ¬ ((q.f3.length : Int) = 2) by omega)]
      exact ⟨0, 111, d, s1, rfl, rfl, fun h => by simp at h⟩
    rw [if_pos n1, if_pos (show ((q.f3.length : Int) = 1) by omega)]
    obtain ⟨a, hab⟩ := List.length_eq_one_iff.1 n1
    rw [hab] at hall ⊢
    obtain ⟨na, ea, da, sa, hva, hra, hga⟩ := ih a (d + 1) s1 k1 k2 (by omega) (by omega) hs0 hs1 (hall a (by simp)) (by omega) (by omega)
    by_cases ht1 : (arith_Eval.one q.f1).isSome = true
    · rw [if_pos ht1]
      obtain ⟨n', e', hj, hj1, hj2⟩ := j0_eq k2 l d s1 q.f0 q.f2 q.f1 a ht1 (by rw [ew]; exact hra) (fun h => (hga h).2.2.2)
      have hbr : spinneyref11_eval.j0 (k2 + 1) l d false s1 q.f0 q.f1 q.f2 [a] = some (n', e', sa) := hj
      have hval : ∃ d', ((arith_Eval.argsf (arith_Eval.val l k1) [a] d s1).bind fun a => if a.2.2.1 = 0 then (arith_Eval.ap1 q.f1 a.1).bind fun n => (if n.2 = 0 then some (n.1, 0, a.2.2.2.1, a.2.2.2.2) else some (0, 112, a.2.2.2.1, a.2.2.2.2)) else some (0, a.2.2.1, a.2.2.2.1, a.2.2.2.2)) = some (n', e', d', sa) ∧ (e' = 0 → d' = d ∧ 0 ≤ sa ∧ sa ≤ 2000 ∧ In64 n') := by
        unfold arith_Eval.argsf
        simp only [arith_Eval.al]
        rw [ew, hva]
        simp only [Option.bind_some]
        by_cases hea : ea = 0
        · obtain ⟨hda, hsa0, hsa1, hna⟩ := hga hea
          obtain ⟨x, y, hx1, hx2, hx3⟩ := hj2 hea
          rw [if_pos hea]
          simp only [Option.bind_some, if_true]
          rw [hda, ew2, hx1]
          simp only [Option.bind_some]
          by_cases hy : y = 0
          · rw [if_pos hy] at hx3
            obtain ⟨rfl, rfl⟩ := Prod.mk.inj hx3
            rw [if_pos hy]
            exact ⟨d, rfl, fun _ => ⟨rfl, hsa0, hsa1, hx2 hy⟩⟩
          · rw [if_neg hy] at hx3
            obtain ⟨rfl, rfl⟩ := Prod.mk.inj hx3
            rw [if_neg hy]
            exact ⟨d, rfl, fun h => by simp at h⟩
        · obtain ⟨rfl, rfl⟩ := hj1 hea
          rw [if_neg hea]
          refine ⟨da, ?_, fun h => absurd h hea⟩
          simp [hea]
      obtain ⟨d', hm', hg'⟩ := hval
      refine ⟨n', e', d', sa, hm', ?_, hg'⟩
      unfold arith_Eval.one at ht1
      by_cases c1 : q.f1.toList = ([45] : List UInt8)
      · rw [if_pos c1]; exact hbr
      by_cases c2 : q.f1.toList = ([97, 98, 115] : List UInt8)
      · rw [if_neg c1, if_pos c2]; exact hbr
      by_cases c3 : q.f1.toList = ([115, 105, 103, 110] : List UInt8)
      · rw [if_neg c1, if_neg c2, show (q.f1.toList != ([115, 105, 103, 110] : List UInt8)) = false from bne_eq_false_iff_eq.mpr c3]
        exact hbr
      · rw [if_neg c1, if_neg c2, if_neg c3] at ht1
        cases ht1
    · rw [if_neg ht1]
      refine ⟨0, 111, d, s1, rfl, ?_, fun h => by simp at h⟩
      unfold arith_Eval.one at ht1
      by_cases c1 : q.f1.toList = ([45] : List UInt8)
      · rw [if_pos c1] at ht1; simp at ht1
      rw [if_neg c1] at ht1
      by_cases c2 : q.f1.toList = ([97, 98, 115] : List UInt8)
      · rw [if_pos c2] at ht1; simp at ht1
      rw [if_neg c2] at ht1
      by_cases c3 : q.f1.toList = ([115, 105, 103, 110] : List UInt8)
      · rw [if_pos c3] at ht1; simp at ht1
      rw [if_neg c1, if_neg c2, bne_iff_ne.mpr c3]
      unfold spinneyref11_eval.j0
      rw [if_pos rfl]

end Go.Proofs.Ytmiapolhklapnaa.Pure
