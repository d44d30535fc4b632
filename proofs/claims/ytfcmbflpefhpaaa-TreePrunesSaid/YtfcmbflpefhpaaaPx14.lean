-- PRINTED by a program of this session over the kit's print.py.
import Derived.Test.YtfcmbflpefhpaaaPx0
import Derived.Test.YtfcmbflpefhpaaaPx4
import Derived.Test.YtfcmbflpefhpaaaPx5
import Derived.Test.YtfcmbflpefhpaaaPx11
import Derived.Test.YtfcmbflpefhpaaaPx13
namespace Go.Proofs.Ytfcmbflpefhpaaa.P
open Go.Own Go.RowKit Go.Proofs.YtfcmbflpefhpaaaW.PrintWords Go.Proofs.YtfcmbflpefhpaaaW.PrintLast Go.Proofs.YtfcmbflpefhpaaaW.PrintMore
attribute [local go_sem] max2_int min2_int max_two min_two max_three min_three max_four min_four   -- for this text's walks alone
set_option linter.unusedVariables false
set_option linter.unusedSimpArgs false

/-! ### spinneylaw21_TreePrunes: function 4 (given) -/
section
open Go.Shelf
open Classical in
/-- what the law computes -/
noncomputable def spinneylaw21_TreePrunes.f (k : Nat) (l0 : List S39) (l1 : List Int) (a2 : Int) : Option Bool :=
  (spinneylaw21_big.f k l0 l1).bind fun b => if b = true then some true else
    if tree_Prune.fits l0 l1 a2 ∧ spinneyref21_Prune.fits k l0 l1 a2 then spinneyref21_Same.f k (tree_Prune.all l0 l1 a2) (spinneyref21_Prune.all k l0 l1 a2) else none
/-- THE ONE PURE STATEMENT of spinneylaw21_TreePrunes. -/
def spinneylaw21_TreePrunes.Pure : Prop := ∀ (l0 : List (S39)) (l1 : List Int) (a2 : Int), (l0.length ≤ maxLen) → (∀ y_ ∈ l0, Ok39 y_) → l1.length ≤ maxLen → l1.length * 8 ≤ 140737488351232 → (∀ x ∈ l1, (Lit.int .i64 x).wf = true) → ((Lit.int .i64 a2).wf = true) → ∃ k, spinneylaw21_TreePrunes.f k l0 l1 a2 = some true
set_option maxRecDepth 100000 in
set_option maxHeartbeats 4000000 in
theorem spinneylaw21_TreePrunes.walk (P : spinneylaw21_TreePrunes.Pure) (w : World) (A0 : Option Addr) (c0 : Nat) (l0 : List (S39)) (hC0 : Kd.C k39 w A0 l0.length l0) (hc0 : l0.length ≤ c0) (A1 : Option Addr) (c1 : Nat) (l1 : List Int) (hC1 : Kd.C (Kd.int .i64) w A1 l1.length l1) (hc1 : l1.length ≤ c1) (a2 : Int) (w0_ : (l0.length ≤ maxLen)) (w1_ : (∀ y_ ∈ l0, Ok39 y_)) (w2_ : l1.length ≤ maxLen) (w3_ : l1.length * 8 ≤ 140737488351232) (w4_ : (∀ x ∈ l1, (Lit.int .i64 x).wf = true)) (w5_ : ((Lit.int .i64 a2).wf = true)) :
    Calls Try.prog 4 #[.slice A0 l0.length c0, .slice A1 l1.length c1, .int .i64 a2] w fun e w' => e = .returned (.bool true) ∧ Below w.heap.size w w' := by
  obtain ⟨k, h⟩ := P l0 l1 a2 w0_ w1_ w2_ w3_ w4_ w5_
  clear w0_ w1_ w2_ w3_ w4_ w5_ P
  unfold spinneylaw21_TreePrunes.f at h
  obtain ⟨b, hb, h⟩ := Option.bind_eq_some_iff.1 h
  have HR0 := Aside0.mk hC0
  have HR1 := Aside0.mk hC1
  clear hC0 hC1
  replace hb := Aside0.mk hb
  cases b with
  | true =>
    clear h
    go_enter Try.func4, Try.ntmps4
    go_wp2_with (first | (go_at_call 6; (with_reducible refine (spinneylaw21_live.calls true _ rfl).mono ?_); rintro e w1 ⟨rfl, hb1⟩; replace hb1 := Aside0.mk hb1) | (go_at_call 7; (with_reducible refine (spinneylaw21_big.calls k A0 c0 l0 A1 c1 l1 true w1 (Kd.C_below HR0.out hb1.out) hc0 (Kd.C_below HR1.out hb1.out) hc1 hb.out).mono ?_); rintro e w2 ⟨rfl, hb2⟩; replace hb2 := Aside0.mk hb2))
    go_ret
    exact ⟨rfl, hb1.out.trans (hb2.out.mono hb1.out.size)⟩
  | false =>
    rw [if_neg (by decide)] at h
    split at h
    · rename_i hf
      replace h := Aside0.mk h
      replace hf := Aside0.mk hf
      go_enter Try.func4, Try.ntmps4
      go_wp2_with (first | (go_at_call 6; (with_reducible refine (spinneylaw21_live.calls true _ rfl).mono ?_); rintro e w1 ⟨rfl, hb1⟩; replace hb1 := Aside0.mk hb1) | (go_at_call 7; (with_reducible refine (spinneylaw21_big.calls k A0 c0 l0 A1 c1 l1 false w1 (Kd.C_below HR0.out hb1.out) hc0 (Kd.C_below HR1.out hb1.out) hc1 hb.out).mono ?_); rintro e w2 ⟨rfl, hb2⟩; have hb02 := Aside0.mk (hb1.out.trans (hb2.mono hb1.out.size)); replace hb2 := Aside0.mk hb2) | (go_at_call 16; (with_reducible refine (tree_Prune.calls A0 c0 l0 A1 c1 l1 a2 w2 (Kd.C_below HR0.out hb02.out) hc0 (Kd.C_below HR1.out hb02.out) hc1 hf.out.1).mono ?_); rintro e w3 ⟨v3, rfl, hN3, hb3⟩; obtain ⟨A3, c3, e3⟩ := Kd.N_slice hN3; subst e3; have hb03 := Aside0.mk (hb02.out.trans (hb3.mono hb02.out.size)); have hC3 := Aside0.mk (Kd.N_reads' hN3).2; clear hN3; replace hb3 := Aside0.mk hb3) | (go_at_call 17; (with_reducible refine (spinneyref21_Prune.calls k A0 c0 l0 A1 c1 l1 a2 w3 (Kd.C_below HR0.out hb03.out) hc0 (Kd.C_below HR1.out hb03.out) hc1 hf.out.2).mono ?_); rintro e w4 ⟨v4, rfl, hN4, hb4⟩; obtain ⟨A4, c4, e4⟩ := Kd.N_slice hN4; subst e4; have hb04 := Aside0.mk (hb03.out.trans (hb4.mono hb03.out.size)); have hC4 := Aside0.mk (Kd.N_reads' hN4).2; have hC34 := Aside0.mk (Kd.C_below hC3.out.2 hb4); clear hN4; replace hb4 := Aside0.mk hb4) | (go_at_call 15; (with_reducible refine (spinneyref21_Same.calls k A3 c3 (tree_Prune.all l0 l1 a2) A4 c4 (spinneyref21_Prune.all k l0 l1 a2) true w4 hC34.out hC3.out.1 hC4.out.2 hC4.out.1 h.out).mono ?_); rintro e w5 ⟨rfl, hb5⟩; have hb05 := Aside0.mk (hb04.out.trans (hb5.mono hb04.out.size)); replace hb5 := Aside0.mk hb5))
      go_ret
      exact ⟨rfl, hb05.out⟩
    · cases h
theorem spinneylaw21_TreePrunes.calls (A0 : Option Addr) (c0 : Nat) (l0 : List (S39)) (A1 : Option Addr) (c1 : Nat) (l1 : List Int) (a2 : Int) (w : World) (P : spinneylaw21_TreePrunes.Pure) (hC0 : Kd.C k39 w A0 l0.length l0) (hc0 : l0.length ≤ c0) (hC1 : Kd.C (Kd.int .i64) w A1 l1.length l1) (hc1 : l1.length ≤ c1) (w0_ : (l0.length ≤ maxLen)) (w1_ : (∀ y_ ∈ l0, Ok39 y_)) (w2_ : l1.length ≤ maxLen) (w3_ : l1.length * 8 ≤ 140737488351232) (w4_ : (∀ x ∈ l1, (Lit.int .i64 x).wf = true)) (w5_ : ((Lit.int .i64 a2).wf = true)) :
    Calls Try.prog 4 #[.slice A0 l0.length c0, .slice A1 l1.length c1, .int .i64 a2] w fun e w' => e = .returned (.bool true) ∧ Below w.heap.size w w' :=
  spinneylaw21_TreePrunes.walk P w A0 c0 l0 hC0 hc0 A1 c1 l1 hC1 hc1 a2 w0_ w1_ w2_ w3_ w4_ w5_
end

end Go.Proofs.Ytfcmbflpefhpaaa.P
