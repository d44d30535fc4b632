-- PRINTED by a program of this session over the kit's print.py.
import Derived.Test.YtjichkjnodabiaaDoorPx0
import Derived.Test.YtjichkjnodabiaaDoorPx1
import Derived.Test.YtjichkjnodabiaaDoorPx5
namespace Go.Proofs.YtjichkjnodabiaaDoor.P
open Go.Own Go.RowKit Go.Proofs.YtjichkjnodabiaaDoorW.PrintWords Go.Proofs.YtjichkjnodabiaaDoorW.PrintLast Go.Proofs.YtjichkjnodabiaaDoorW.PrintMore
attribute [local go_sem] max2_int min2_int max_two min_two max_three min_three max_four min_four   -- for this text's walks alone
set_option linter.unusedVariables false
set_option linter.unusedSimpArgs false

attribute [local go_sem high] eqA30
/-! ### spinneylaw05_live: function 9 -/
def spinneylaw05_live.f  : Option (Bool) := (token_Cut.f (⟨#[102, 111, 111, 40, 88, 44, 32, 39, 97, 32, 98, 39, 41, 46]⟩ : ByteArray)).bind fun bt116 => ((token_Cut.f (⟨#[88, 32, 61, 32, 34]⟩ : ByteArray)).bind fun bt121 => (if bt116.2.2 = 0 then (if bt116.2.1 = 0 then (if (bt116.1.length : Int) = 8 then (if 1 < (bt116.1.length : Int) then (if ((rd_T30 bt116.1 1).f0) = 7 then (if 4 < (bt116.1.length : Int) then (if (((rd_T30 bt116.1 4).f0) == 2 && ((((rd_T30 bt116.1 4).f1).toList) == ([97, 32, 98] : List UInt8) && (((rd_T30 bt116.1 4).f2) == 0 && (((rd_T30 bt116.1 4).f3) == 7)))) = true then (if 6 < (bt116.1.length : Int) then (if ((rd_T30 bt116.1 6).f0) = 8 then (if bt121.2.2 = 50 then (some (bt121.2.1 == 4)) else (none)) else (none)) else (none)) else (none)) else (none)) else (none)) else (none)) else (none)) else (none)) else (none)))
set_option maxHeartbeats 8000000 in
set_option maxRecDepth 100000 in
theorem spinneylaw05_live.calls  (r : Bool) (w : World) (h : spinneylaw05_live.f  = some r) (hT : Tabs w) :
    Calls Tryd.prog 9 #[] w fun e w' => e = .returned (.bool r) ∧ Below w.heap.size w w' := by
  have HT := Aside0.mk hT
  clear hT
  have hu30 := Tryd.underlying30
  have HB := Aside0.mk (Below.refl w.heap.size w)
  have H : ((token_Cut.f (⟨#[102, 111, 111, 40, 88, 44, 32, 39, 97, 32, 98, 39, 41, 46]⟩ : ByteArray)).bind fun bt116 => ((token_Cut.f (⟨#[88, 32, 61, 32, 34]⟩ : ByteArray)).bind fun bt121 => (if bt116.2.2 = 0 then (if bt116.2.1 = 0 then (if (bt116.1.length : Int) = 8 then (if 1 < (bt116.1.length : Int) then (if ((rd_T30 bt116.1 1).f0) = 7 then (if 4 < (bt116.1.length : Int) then (if (((rd_T30 bt116.1 4).f0) == 2 && ((((rd_T30 bt116.1 4).f1).toList) == ([97, 32, 98] : List UInt8) && (((rd_T30 bt116.1 4).f2) == 0 && (((rd_T30 bt116.1 4).f3) == 7)))) = true then (if 6 < (bt116.1.length : Int) then (if ((rd_T30 bt116.1 6).f0) = 8 then (if bt121.2.2 = 50 then (some (bt121.2.1 == 4)) else (none)) else (none)) else (none)) else (none)) else (none)) else (none)) else (none)) else (none)) else (none)) else (none)))) = some r := h
  clear h
  replace H := Option.bind_eq_some_iff.mp H
  obtain ⟨⟨t116, t117, t118⟩, A10, H⟩ := H
  replace H : ((token_Cut.f (⟨#[88, 32, 61, 32, 34]⟩ : ByteArray)).bind fun bt121 => (if t118 = 0 then (if t117 = 0 then (if (t116.length : Int) = 8 then (if 1 < (t116.length : Int) then (if ((rd_T30 t116 1).f0) = 7 then (if 4 < (t116.length : Int) then (if (((rd_T30 t116 4).f0) == 2 && ((((rd_T30 t116 4).f1).toList) == ([97, 32, 98] : List UInt8) && (((rd_T30 t116 4).f2) == 0 && (((rd_T30 t116 4).f3) == 7)))) = true then (if 6 < (t116.length : Int) then (if ((rd_T30 t116 6).f0) = 8 then (if bt121.2.2 = 50 then (some (bt121.2.1 == 4)) else (none)) else (none)) else (none)) else (none)) else (none)) else (none)) else (none)) else (none)) else (none)) else (none))) = some r := H
  have A1 := Aside0.mk A10
  clear A10
  replace H := Option.bind_eq_some_iff.mp H
  obtain ⟨⟨t121, t122, t123⟩, A20, H⟩ := H
  replace H : (if t118 = 0 then (if t117 = 0 then (if (t116.length : Int) = 8 then (if 1 < (t116.length : Int) then (if ((rd_T30 t116 1).f0) = 7 then (if 4 < (t116.length : Int) then (if (((rd_T30 t116 4).f0) == 2 && ((((rd_T30 t116 4).f1).toList) == ([97, 32, 98] : List UInt8) && (((rd_T30 t116 4).f2) == 0 && (((rd_T30 t116 4).f3) == 7)))) = true then (if 6 < (t116.length : Int) then (if ((rd_T30 t116 6).f0) = 8 then (if t123 = 50 then (some (t122 == 4)) else (none)) else (none)) else (none)) else (none)) else (none)) else (none)) else (none)) else (none)) else (none)) else (none)) = some r := H
  have A2 := Aside0.mk A20
  clear A20
  by_cases c3 : t118 = 0
  · rw [if_pos c3] at H
    have c3b0 : (t118 == 0) = true := beq_iff_eq.mpr c3
    have c3b1 : (t118 != 0) = false := bne_eq_false_iff_eq.mpr c3
    clear c3
    by_cases c4 : t117 = 0
    · rw [if_pos c4] at H
      have c4b0 : (t117 == 0) = true := beq_iff_eq.mpr c4
      have c4b1 : (t117 != 0) = false := bne_eq_false_iff_eq.mpr c4
      clear c4
      by_cases c5 : (t116.length : Int) = 8
      · rw [if_pos c5] at H
        have c5b0 : ((t116.length : Int) == 8) = true := beq_iff_eq.mpr c5
        have c5b1 : ((t116.length : Int) != 8) = false := bne_eq_false_iff_eq.mpr c5
        clear c5
        by_cases c6 : 1 < (t116.length : Int)
        · rw [if_pos c6] at H
          have c6b0 : decide (1 < (t116.length : Int)) = true := decide_eq_true c6
          have c6b1 : decide (1 < t116.length) = true := decide_eq_true (by omega)
          clear c6
          by_cases c7 : ((rd_T30 t116 1).f0) = 7
          · rw [if_pos c7] at H
            have c7b0 : (((rd_T30 t116 1).f0) == 7) = true := beq_iff_eq.mpr c7
            have c7b1 : (((rd_T30 t116 1).f0) != 7) = false := bne_eq_false_iff_eq.mpr c7
            clear c7
            by_cases c8 : 4 < (t116.length : Int)
            · rw [if_pos c8] at H
              have c8b0 : decide (4 < (t116.length : Int)) = true := decide_eq_true c8
              have c8b1 : decide (4 < t116.length) = true := decide_eq_true (by omega)
              clear c8
              by_cases c9 : (((rd_T30 t116 4).f0) == 2 && ((((rd_T30 t116 4).f1).toList) == ([97, 32, 98] : List UInt8) && (((rd_T30 t116 4).f2) == 0 && (((rd_T30 t116 4).f3) == 7)))) = true
              · rw [if_pos c9] at H
                have c9b0 : (((rd_T30 t116 4).f0) == 2 && ((((rd_T30 t116 4).f1).toList) == ([97, 32, 98] : List UInt8) && (((rd_T30 t116 4).f2) == 0 && (((rd_T30 t116 4).f3) == 7)))) = true := c9
                (try (have c9b1 : decide (((rd_T30 t116 4).f0) = 2 && ((((rd_T30 t116 4).f1).toList) == ([97, 32, 98] : List UInt8) && (((rd_T30 t116 4).f2) == 0 && (((rd_T30 t116 4).f3) == 7)))) = true := by simpa using c9))
                (try (have c9b2 : (((rd_T30 t116 4).f0) == 2 && ((((rd_T30 t116 4).f1).toList) == ([97, 32, 98] : List UInt8) && (((rd_T30 t116 4).f2) == 0 && (((rd_T30 t116 4).f3) == 7)))) = true := by simpa using c9))
                clear c9
                by_cases c10 : 6 < (t116.length : Int)
                · rw [if_pos c10] at H
                  have c10b0 : decide (6 < (t116.length : Int)) = true := decide_eq_true c10
                  have c10b1 : decide (6 < t116.length) = true := decide_eq_true (by omega)
                  clear c10
                  by_cases c11 : ((rd_T30 t116 6).f0) = 8
                  · rw [if_pos c11] at H
                    have c11b0 : (((rd_T30 t116 6).f0) == 8) = true := beq_iff_eq.mpr c11
                    have c11b1 : (((rd_T30 t116 6).f0) != 8) = false := bne_eq_false_iff_eq.mpr c11
                    clear c11
                    by_cases c12 : t123 = 50
                    · rw [if_pos c12] at H
                      have c12b0 : (t123 == 50) = true := beq_iff_eq.mpr c12
                      have c12b1 : (t123 != 50) = false := bne_eq_false_iff_eq.mpr c12
                      clear c12
                      obtain rfl := Option.some.inj H
                      go_enter Tryd.func9, Tryd.ntmps9
                      go_wp2_with (first | ((with_reducible refine gate_callee (f := 10) rfl ?_); refine goesL_ (some 8) rfl rfl Tryd.func10 (by kernel_rfl) rfl #[.string (⟨#[102, 111, 111, 40, 88, 44, 32, 39, 97, 32, 98, 39, 41, 46]⟩ : ByteArray)] rfl (by (try simp only [List.map_toArray, List.map_cons, List.map_nil]); first | done | rfl | (simp only [List.length_drop, List.length_take]; rfl)) ?_; (with_reducible refine (token_Cut.calls (⟨#[102, 111, 111, 40, 88, 44, 32, 39, 97, 32, 98, 39, 41, 46]⟩ : ByteArray) t116 t117 t118 _ A1.out (HT.out.below (by first | exact Below.refl _ _ | (repeat (first | (with_reducible first | exact HB.out | apply below_alloc | apply pw_below_drewN | apply below_drew1) | exact HB.out))))).mono ?_); rintro e w13 ⟨v119, rfl, ho0, hb⟩; refine ⟨_, rfl, ?_⟩; have n0_ := Aside0.mk (Kd.R_lower ho0 (below_size (by repeat (first | (with_reducible first | exact HB.out | apply below_alloc | apply pw_below_drewN | apply below_drew1) | exact HB.out)))); have n1_ := Aside0.mk (below_step (by repeat (first | (with_reducible first | exact HB.out | apply below_alloc | apply pw_below_drewN | apply below_drew1) | exact HB.out)) hb); clear HB; have HO120 := n0_; have HB := n1_; clear n0_ n1_; (try clear hb); (try clear hb2); (try clear hk); (try clear hi); (try clear ho0)) | ((with_reducible refine gate_callee (f := 10) rfl ?_); refine goesL_ (some 13) rfl rfl Tryd.func10 (by kernel_rfl) rfl #[.string (⟨#[88, 32, 61, 32, 34]⟩ : ByteArray)] rfl (by (try simp only [List.map_toArray, List.map_cons, List.map_nil]); first | done | rfl | (simp only [List.length_drop, List.length_take]; rfl)) ?_; (with_reducible refine (token_Cut.calls (⟨#[88, 32, 61, 32, 34]⟩ : ByteArray) t121 t122 t123 _ A2.out (HT.out.below (by first | exact Below.refl _ _ | (repeat (first | (with_reducible first | exact HB.out | apply below_alloc | apply pw_below_drewN | apply below_drew1) | exact HB.out))))).mono ?_); rintro e w14 ⟨v124, rfl, ho0, hb⟩; refine ⟨_, rfl, ?_⟩; have n0_ := Aside0.mk (Kd.R_elder' (by (with_reducible repeat (first | apply Kd.R_alloc | apply Kd.R_drewN | apply Kd.R_drew)); exact HO120.out) (Kd.R_base ho0) hb); have n1_ := Aside0.mk (Kd.R_lower (Kd.R_new' ho0 (Kd.R_lt (by (with_reducible repeat (first | apply Kd.R_alloc | apply Kd.R_drewN | apply Kd.R_drew)); exact HO120.out))) (below_size (by repeat (first | (with_reducible first | exact HB.out | apply below_alloc | apply pw_below_drewN | apply below_drew1) | exact HB.out)))); have n2_ := Aside0.mk (below_step (by repeat (first | (with_reducible first | exact HB.out | apply below_alloc | apply pw_below_drewN | apply below_drew1) | exact HB.out)) hb); clear HO120; clear HB; have HO120 := n0_; have HO125 := n1_; have HB := n2_; clear n0_ n1_ n2_; (try clear hb); (try clear hb2); (try clear hk); (try clear hi); (try clear ho0); obtain ⟨Ao15, co15, eo15⟩ := Kd.R_slice HO120.out; subst eo15; have p126 : 0 ≤ (1 : Int) := (by omega); have q126 : 1 < (t116.length : Int) := of_decide_eq_true (by first | (with_reducible assumption) | assumption); obtain ⟨ad126, e126, hx126_0, hx126_1, hx126_2, hx126_3⟩ := at_T30 (Kd.R_reads' HO120.out).2.2 1 p126 q126; cases e126; (try simp only [show (1 : Int).toNat = 1 from rfl, Nat.reduceMul, Nat.reduceEqDiff, Go.Addr.add, ↓reduceIte] at hx126_0); (try simp only [show (1 : Int).toNat = 1 from rfl, Nat.reduceMul, Nat.reduceEqDiff, Go.Addr.add, ↓reduceIte] at hx126_1); (try simp only [show (1 : Int).toNat = 1 from rfl, Nat.reduceMul, Nat.reduceEqDiff, Go.Addr.add, ↓reduceIte] at hx126_2); (try simp only [show (1 : Int).toNat = 1 from rfl, Nat.reduceMul, Nat.reduceEqDiff, Go.Addr.add, ↓reduceIte] at hx126_3); have qi126 : (1 < t116.length) = True := eq_true (by omega); (try rw [show ((1 : Int)).toNat = 1 from rfl] at hx126_0); (try rw [show 1 * 4 = 4 from rfl] at hx126_0); (try rw [show ((1 : Int)).toNat = 1 from rfl] at hx126_1); (try rw [show 1 * 4 = 4 from rfl] at hx126_1); (try rw [show ((1 : Int)).toNat = 1 from rfl] at hx126_2); (try rw [show 1 * 4 = 4 from rfl] at hx126_2); (try rw [show ((1 : Int)).toNat = 1 from rfl] at hx126_3); (try rw [show 1 * 4 = 4 from rfl] at hx126_3); replace p126 := eq_true p126; replace q126 := eq_true q126; have p127 : 0 ≤ (4 : Int) := (by omega); have q127 : 4 < (t116.length : Int) := of_decide_eq_true (by first | (with_reducible assumption) | assumption); obtain ⟨ad127, e127, hx127_0, hx127_1, hx127_2, hx127_3⟩ := at_T30 (Kd.R_reads' HO120.out).2.2 4 p127 q127; obtain rfl : ad126 = ad127 := (by injection e127); (try simp only [show (4 : Int).toNat = 4 from rfl, Nat.reduceMul, Nat.reduceEqDiff, Go.Addr.add, ↓reduceIte] at hx127_0); (try simp only [show (4 : Int).toNat = 4 from rfl, Nat.reduceMul, Nat.reduceEqDiff, Go.Addr.add, ↓reduceIte] at hx127_1); (try simp only [show (4 : Int).toNat = 4 from rfl, Nat.reduceMul, Nat.reduceEqDiff, Go.Addr.add, ↓reduceIte] at hx127_2); (try simp only [show (4 : Int).toNat = 4 from rfl, Nat.reduceMul, Nat.reduceEqDiff, Go.Addr.add, ↓reduceIte] at hx127_3); have qi127 : (4 < t116.length) = True := eq_true (by omega); (try rw [show ((4 : Int)).toNat = 4 from rfl] at hx127_0); (try rw [show 4 * 4 = 16 from rfl] at hx127_0); (try rw [show ((4 : Int)).toNat = 4 from rfl] at hx127_1); (try rw [show 4 * 4 = 16 from rfl] at hx127_1); (try rw [show ((4 : Int)).toNat = 4 from rfl] at hx127_2); (try rw [show 4 * 4 = 16 from rfl] at hx127_2); (try rw [show ((4 : Int)).toNat = 4 from rfl] at hx127_3); (try rw [show 4 * 4 = 16 from rfl] at hx127_3); replace p127 := eq_true p127; replace q127 := eq_true q127; have p128 : 0 ≤ (6 : Int) := (by omega); have q128 : 6 < (t116.length : Int) := of_decide_eq_true (by first | (with_reducible assumption) | assumption); obtain ⟨ad128, e128, hx128_0, hx128_1, hx128_2, hx128_3⟩ := at_T30 (Kd.R_reads' HO120.out).2.2 6 p128 q128; obtain rfl : ad126 = ad128 := (by injection e128); (try simp only [show (6 : Int).toNat = 6 from rfl, Nat.reduceMul, Nat.reduceEqDiff, Go.Addr.add, ↓reduceIte] at hx128_0); (try simp only [show (6 : Int).toNat = 6 from rfl, Nat.reduceMul, Nat.reduceEqDiff, Go.Addr.add, ↓reduceIte] at hx128_1); (try simp only [show (6 : Int).toNat = 6 from rfl, Nat.reduceMul, Nat.reduceEqDiff, Go.Addr.add, ↓reduceIte] at hx128_2); (try simp only [show (6 : Int).toNat = 6 from rfl, Nat.reduceMul, Nat.reduceEqDiff, Go.Addr.add, ↓reduceIte] at hx128_3); have qi128 : (6 < t116.length) = True := eq_true (by omega); (try rw [show ((6 : Int)).toNat = 6 from rfl] at hx128_0); (try rw [show 6 * 4 = 24 from rfl] at hx128_0); (try rw [show ((6 : Int)).toNat = 6 from rfl] at hx128_1); (try rw [show 6 * 4 = 24 from rfl] at hx128_1); (try rw [show ((6 : Int)).toNat = 6 from rfl] at hx128_2); (try rw [show 6 * 4 = 24 from rfl] at hx128_2); (try rw [show ((6 : Int)).toNat = 6 from rfl] at hx128_3); (try rw [show 6 * 4 = 24 from rfl] at hx128_3); replace p128 := eq_true p128; replace q128 := eq_true q128))
                      go_ret
                      exact ⟨by first | rfl | (simp [errW_none, errW_some] <;> rfl) | (simp [*, errW_none, errW_some] <;> rfl), by repeat (first | (with_reducible first | exact HB.out | apply below_alloc | apply pw_below_drewN | apply below_drew1) | exact HB.out)⟩
                    · rw [if_neg c12] at H
                      exact absurd H (by simp)
                  · rw [if_neg c11] at H
                    exact absurd H (by simp)
                · rw [if_neg c10] at H
                  exact absurd H (by simp)
              · rw [if_neg c9] at H
                exact absurd H (by simp)
            · rw [if_neg c8] at H
              exact absurd H (by simp)
          · rw [if_neg c7] at H
            exact absurd H (by simp)
        · rw [if_neg c6] at H
          exact absurd H (by simp)
      · rw [if_neg c5] at H
        exact absurd H (by simp)
    · rw [if_neg c4] at H
      exact absurd H (by simp)
  · rw [if_neg c3] at H
    exact absurd H (by simp)

/-! ### spinneylaw05_TokenOwn: function 6 -/
mutual
def spinneylaw05_TokenOwn.l0 : Nat → ByteArray → Bool → List (S30) → List (S30) → Int → Int → Option (Bool)
  | 0, _, _, _, _, _, _ => none
  | k + 1, x0, x3, x4, x34, x35, x36 => if x36 < x35 then (if 0 ≤ x36 then (if x36 < (x34.length : Int) then (if ((rd_T30 x34 x36).f0) = 2 then (spinneylaw05_TokenOwn.j1 k x0 x3 x4 x34 x35 x36 (((rd_T30 x34 x36).f0) == 2) ((rd_T30 x34 x36).f0) ((rd_T30 x34 x36).f1) ((rd_T30 x34 x36).f2) ((rd_T30 x34 x36).f3)) else (if ((rd_T30 x34 x36).f0) = 5 then (spinneylaw05_TokenOwn.j1 k x0 x3 x4 x34 x35 x36 (((rd_T30 x34 x36).f0) == 5) ((rd_T30 x34 x36).f0) ((rd_T30 x34 x36).f1) ((rd_T30 x34 x36).f2) ((rd_T30 x34 x36).f3)) else (spinneylaw05_TokenOwn.j1 k x0 x3 x4 x34 x35 x36 (((rd_T30 x34 x36).f0) == 9) ((rd_T30 x34 x36).f0) ((rd_T30 x34 x36).f1) ((rd_T30 x34 x36).f2) ((rd_T30 x34 x36).f3)))) else (none)) else (none)) else (if x3 = true then (some (decide ((x4.length : Int) ≤ (wrap64 ((x0.size : Int) + 1))))) else (none))
def spinneylaw05_TokenOwn.j1 : Nat → ByteArray → Bool → List (S30) → List (S30) → Int → Int → Bool → Int → ByteArray → Int → Int → Option (Bool)
  | 0, _, _, _, _, _, _, _, _, _, _, _ => none
  | k + 1, x0, x3, x4, x34, x35, x36, x42, x137000, x137001, x137002, x137003 => if x42 = true then (spinneylaw05_TokenOwn.l0 k x0 x3 x4 x34 x35 (wrap64 (x36 + 1))) else (if x137001.toList = ([] : List UInt8) then (none) else (if x137003 < 0 then (none) else (if (wrap64 (x137003 + (x137001.size : Int))) > (x0.size : Int) then (none) else (if 0 ≤ x137003 then (if x137003 ≤ (wrap64 (x137003 + (x137001.size : Int))) then (if (wrap64 (x137003 + (x137001.size : Int))) ≤ (x0.size : Int) then (if (x0.extract (x137003 : Int).toNat ((wrap64 (x137003 + (x137001.size : Int))) : Int).toNat).toList = x137001.toList then (spinneylaw05_TokenOwn.l0 k x0 x3 x4 x34 x35 (wrap64 (x36 + 1))) else (none)) else (none)) else (none)) else (none)))))
end
def spinneylaw05_TokenOwn.f (k : Nat) (a0 : ByteArray) : Option (Bool) := (spinneylaw05_live.f).bind fun t129 => ((token_Cut.f a0).bind fun bt130 => (if bt130.2.2 = 0 then (spinneylaw05_TokenOwn.l0 k a0 t129 bt130.1 bt130.1 (bt130.1.length : Int) 0) else (if t129 = true then (if (bt130.1.length : Int) = 0 then (if bt130.2.1 ≥ 0 then (some (decide (bt130.2.1 ≤ (a0.size : Int)))) else (none)) else (none)) else (none))))
theorem spinneylaw05_TokenOwn.mono_l : ∀ k, (∀ y0 y1 y2 y3 y4 y5, LeO (spinneylaw05_TokenOwn.l0 k y0 y1 y2 y3 y4 y5) (spinneylaw05_TokenOwn.l0 (k + 1) y0 y1 y2 y3 y4 y5)) ∧ (∀ y0 y1 y2 y3 y4 y5 y6 y7 y8 y9 y10, LeO (spinneylaw05_TokenOwn.j1 k y0 y1 y2 y3 y4 y5 y6 y7 y8 y9 y10) (spinneylaw05_TokenOwn.j1 (k + 1) y0 y1 y2 y3 y4 y5 y6 y7 y8 y9 y10))
  | 0 => ⟨fun _ _ _ _ _ _ r h => by simp [spinneylaw05_TokenOwn.l0] at h, fun _ _ _ _ _ _ _ _ _ _ _ r h => by simp [spinneylaw05_TokenOwn.j1] at h⟩
  | k + 1 => by
    obtain ⟨ih0, ih1⟩ := spinneylaw05_TokenOwn.mono_l k
    refine ⟨?_, ?_⟩
    · intro y0 y1 y2 y3 y4 y5
      unfold spinneylaw05_TokenOwn.l0
      repeat' first
      | (with_reducible exact ih0 _ _ _ _ _ _)
      | (with_reducible exact ih1 _ _ _ _ _ _ _ _ _ _ _)
      | (with_reducible exact LeO.refl _)
      | (with_reducible exact LeO.none _)
      | (with_reducible refine LeO.ite ?_ ?_)
      | (with_reducible refine LeO.bind ?_ (fun _ => ?_))
      | exact ih0 _ _ _ _ _ _
      | exact ih1 _ _ _ _ _ _ _ _ _ _ _
      | exact LeO.none _
      | refine LeO.ite ?_ ?_
      | refine LeO.bind ?_ (fun _ => ?_)
    · intro y0 y1 y2 y3 y4 y5 y6 y7 y8 y9 y10
      unfold spinneylaw05_TokenOwn.j1
      repeat' first
      | (with_reducible exact ih0 _ _ _ _ _ _)
      | (with_reducible exact ih1 _ _ _ _ _ _ _ _ _ _ _)
      | (with_reducible exact LeO.refl _)
      | (with_reducible exact LeO.none _)
      | (with_reducible refine LeO.ite ?_ ?_)
      | (with_reducible refine LeO.bind ?_ (fun _ => ?_))
      | exact ih0 _ _ _ _ _ _
      | exact ih1 _ _ _ _ _ _ _ _ _ _ _
      | exact LeO.none _
      | refine LeO.ite ?_ ?_
      | refine LeO.bind ?_ (fun _ => ?_)
theorem spinneylaw05_TokenOwn.mono : ∀ a0 k, LeO (spinneylaw05_TokenOwn.f k a0) (spinneylaw05_TokenOwn.f (k + 1) a0) := by
  intro a0 k
  obtain ⟨ih0, ih1⟩ := spinneylaw05_TokenOwn.mono_l k
  unfold spinneylaw05_TokenOwn.f
  repeat' first
      | (with_reducible exact ih0 _ _ _ _ _ _)
      | (with_reducible exact ih1 _ _ _ _ _ _ _ _ _ _ _)
      | (with_reducible exact LeO.refl _)
      | (with_reducible exact LeO.none _)
      | (with_reducible refine LeO.ite ?_ ?_)
      | (with_reducible refine LeO.bind ?_ (fun _ => ?_))
      | exact ih0 _ _ _ _ _ _
      | exact ih1 _ _ _ _ _ _ _ _ _ _ _
      | exact LeO.none _
      | refine LeO.ite ?_ ?_
      | refine LeO.bind ?_ (fun _ => ?_)
set_option maxHeartbeats 8000000 in
set_option maxRecDepth 100000 in
theorem spinneylaw05_TokenOwn.calls (k : Nat) (a0 : ByteArray) (r : Bool) (w : World) (h : spinneylaw05_TokenOwn.f k a0 = some r) (hT : Tabs w) :
    Calls Tryd.prog 6 #[.string a0] w fun e w' => e = .returned (.bool r) ∧ Below w.heap.size w w' := by
  have HT := Aside0.mk hT
  clear hT
  have hu30 := Tryd.underlying30
  have HB := Aside0.mk (Below.refl w.heap.size w)
  have H : ((spinneylaw05_live.f).bind fun t129 => ((token_Cut.f a0).bind fun bt130 => (if bt130.2.2 = 0 then (spinneylaw05_TokenOwn.l0 k a0 t129 bt130.1 bt130.1 (bt130.1.length : Int) 0) else (if t129 = true then (if (bt130.1.length : Int) = 0 then (if bt130.2.1 ≥ 0 then (some (decide (bt130.2.1 ≤ (a0.size : Int)))) else (none)) else (none)) else (none))))) = some r := h
  clear h
  replace H := Option.bind_eq_some_iff.mp H
  obtain ⟨t129, A20, H⟩ := H
  replace H : ((token_Cut.f a0).bind fun bt130 => (if bt130.2.2 = 0 then (spinneylaw05_TokenOwn.l0 k a0 t129 bt130.1 bt130.1 (bt130.1.length : Int) 0) else (if t129 = true then (if (bt130.1.length : Int) = 0 then (if bt130.2.1 ≥ 0 then (some (decide (bt130.2.1 ≤ (a0.size : Int)))) else (none)) else (none)) else (none)))) = some r := H
  have A2 := Aside0.mk A20
  clear A20
  replace H := Option.bind_eq_some_iff.mp H
  obtain ⟨⟨t130, t131, t132⟩, A30, H⟩ := H
  replace H : (if t132 = 0 then (spinneylaw05_TokenOwn.l0 k a0 t129 t130 t130 (t130.length : Int) 0) else (if t129 = true then (if (t130.length : Int) = 0 then (if t131 ≥ 0 then (some (decide (t131 ≤ (a0.size : Int)))) else (none)) else (none)) else (none))) = some r := H
  have A3 := Aside0.mk A30
  clear A30
  by_cases c4 : t132 = 0
  · rw [if_pos c4] at H
    have c4b0 : (t132 == 0) = true := beq_iff_eq.mpr c4
    have c4b1 : (t132 != 0) = false := bne_eq_false_iff_eq.mpr c4
    clear c4
    have H' := Aside0.mk H
    clear H
    go_enter Tryd.func6, Tryd.ntmps6
    go_wp2_with (first | (go_at_call 9; (with_reducible refine (spinneylaw05_live.calls  t129 _ A2.out (HT.out.below (by first | exact Below.refl _ _ | (repeat (first | (with_reducible first | exact HB.out | apply below_alloc | apply pw_below_drewN | apply below_drew1 | refine below_set ?_ GE136.out) | exact HB.out))))).mono ?_); rintro e w5 ⟨rfl, hb⟩; have n0_ := Aside0.mk (below_step (by repeat (first | (with_reducible first | exact HB.out | apply below_alloc | apply pw_below_drewN | apply below_drew1) | exact HB.out)) hb); clear HB; have HB := n0_; clear n0_; (try clear hb); (try clear hb2); (try clear hk); (try clear hi)) | (go_at_call 10; (with_reducible refine (token_Cut.calls a0 t130 t131 t132 _ A3.out (HT.out.below (by first | exact Below.refl _ _ | (repeat (first | (with_reducible first | exact HB.out | apply below_alloc | apply pw_below_drewN | apply below_drew1 | refine below_set ?_ GE136.out) | exact HB.out))))).mono ?_); rintro e w6 ⟨v133, rfl, ho0, hb⟩; have n0_ := Aside0.mk (Kd.R_lower ho0 (below_size (by repeat (first | (with_reducible first | exact HB.out | apply below_alloc | apply pw_below_drewN | apply below_drew1) | exact HB.out)))); have n1_ := Aside0.mk (below_step (by repeat (first | (with_reducible first | exact HB.out | apply below_alloc | apply pw_below_drewN | apply below_drew1) | exact HB.out)) hb); clear HB; have HO134 := n0_; have HB := n1_; clear n0_ n1_; (try clear hb); (try clear hb2); (try clear hk); (try clear hi); (try clear ho0); obtain ⟨Ao7, co7, eo7⟩ := Kd.R_slice HO134.out; subst eo7))
    repeat (go_quiet (first | (go_at_call 9; (with_reducible refine (spinneylaw05_live.calls  t129 _ A2.out (HT.out.below (by first | exact Below.refl _ _ | (repeat (first | (with_reducible first | exact HB.out | apply below_alloc | apply pw_below_drewN | apply below_drew1 | refine below_set ?_ GE136.out) | exact HB.out))))).mono ?_); rintro e w5 ⟨rfl, hb⟩; have n0_ := Aside0.mk (below_step (by repeat (first | (with_reducible first | exact HB.out | apply below_alloc | apply pw_below_drewN | apply below_drew1) | exact HB.out)) hb); clear HB; have HB := n0_; clear n0_; (try clear hb); (try clear hb2); (try clear hk); (try clear hi)) | (go_at_call 10; (with_reducible refine (token_Cut.calls a0 t130 t131 t132 _ A3.out (HT.out.below (by first | exact Below.refl _ _ | (repeat (first | (with_reducible first | exact HB.out | apply below_alloc | apply pw_below_drewN | apply below_drew1 | refine below_set ?_ GE136.out) | exact HB.out))))).mono ?_); rintro e w6 ⟨v133, rfl, ho0, hb⟩; have n0_ := Aside0.mk (Kd.R_lower ho0 (below_size (by repeat (first | (with_reducible first | exact HB.out | apply below_alloc | apply pw_below_drewN | apply below_drew1) | exact HB.out)))); have n1_ := Aside0.mk (below_step (by repeat (first | (with_reducible first | exact HB.out | apply below_alloc | apply pw_below_drewN | apply below_drew1) | exact HB.out)) hb); clear HB; have HO134 := n0_; have HB := n1_; clear n0_ n1_; (try clear hb); (try clear hb2); (try clear hk); (try clear hi); (try clear ho0); obtain ⟨Ao7, co7, eo7⟩ := Kd.R_slice HO134.out; subst eo7)); try go_wp2_with (first | (go_at_call 9; (with_reducible refine (spinneylaw05_live.calls  t129 _ A2.out (HT.out.below (by first | exact Below.refl _ _ | (repeat (first | (with_reducible first | exact HB.out | apply below_alloc | apply pw_below_drewN | apply below_drew1 | refine below_set ?_ GE136.out) | exact HB.out))))).mono ?_); rintro e w5 ⟨rfl, hb⟩; have n0_ := Aside0.mk (below_step (by repeat (first | (with_reducible first | exact HB.out | apply below_alloc | apply pw_below_drewN | apply below_drew1) | exact HB.out)) hb); clear HB; have HB := n0_; clear n0_; (try clear hb); (try clear hb2); (try clear hk); (try clear hi)) | (go_at_call 10; (with_reducible refine (token_Cut.calls a0 t130 t131 t132 _ A3.out (HT.out.below (by first | exact Below.refl _ _ | (repeat (first | (with_reducible first | exact HB.out | apply below_alloc | apply pw_below_drewN | apply below_drew1 | refine below_set ?_ GE136.out) | exact HB.out))))).mono ?_); rintro e w6 ⟨v133, rfl, ho0, hb⟩; have n0_ := Aside0.mk (Kd.R_lower ho0 (below_size (by repeat (first | (with_reducible first | exact HB.out | apply below_alloc | apply pw_below_drewN | apply below_drew1) | exact HB.out)))); have n1_ := Aside0.mk (below_step (by repeat (first | (with_reducible first | exact HB.out | apply below_alloc | apply pw_below_drewN | apply below_drew1) | exact HB.out)) hb); clear HB; have HO134 := n0_; have HB := n1_; clear n0_ n1_; (try clear hb); (try clear hb2); (try clear hk); (try clear hi); (try clear ho0); obtain ⟨Ao7, co7, eo7⟩ := Kd.R_slice HO134.out; subst eo7)))
    go_loopg [36] k (fun kq v36 w' => ∃ (x36_1 : Int), v36 = .int .i64 x36_1 ∧ Aside0 (spinneylaw05_TokenOwn.l0 kq a0 t129 t130 t130 (t130.length : Int) x36_1 = some r) ∧ Aside0 (kq ≤ k) ∧ Aside0 (Kd.R k30 30 w' w.heap.size (fun _ => True) (.slice Ao7 t130.length co7) t130) ∧ Aside0 (Kd.R k30 30 w' w.heap.size (fun _ => True) (.slice Ao7 t130.length co7) t130) ∧ Aside0 (Below w.heap.size w w'))
    case atStart => exact ⟨(0), (by first | rfl | (simp; done) | (simp [*]; done)), H', ⟨Nat.le_refl _⟩, ⟨by (with_reducible repeat (first | apply Kd.R_alloc | apply Kd.R_drewN | apply Kd.R_drew)); exact HO134.out⟩, ⟨by (with_reducible repeat (first | apply Kd.R_alloc | apply Kd.R_drewN | apply Kd.R_drew)); exact HO134.out⟩, ⟨by repeat (first | (with_reducible first | exact HB.out | apply below_alloc | apply pw_below_drewN | apply below_drew1) | exact HB.out)⟩⟩
    case round =>
      clear H'
      try clear p2
      try clear c4
      try clear c4b0
      try clear c4b1
      try clear c6
      obtain ⟨x36_1, rfl, HA, HK1, HO_4, HO_34, HB⟩ := hrel
      cases gk with
      | zero => exact absurd HA.out (by simp [spinneylaw05_TokenOwn.l0])
      | succ k1 =>
        have H := HA.out
        clear HA
        simp only [spinneylaw05_TokenOwn.l0] at H
        by_cases c8 : x36_1 < (t130.length : Int)
        · rw [if_pos c8] at H
          have c8b0 : decide (x36_1 < (t130.length : Int)) = true := decide_eq_true c8
          clear c8
          by_cases c9 : 0 ≤ x36_1
          · rw [if_pos c9] at H
            have c9b0 : decide (0 ≤ x36_1) = true := decide_eq_true c9
            clear c9
            by_cases c10 : x36_1 < (t130.length : Int)
            · rw [if_pos c10] at H
              have c10b0 : decide (x36_1 < (t130.length : Int)) = true := decide_eq_true c10
              clear c10
              have HC11 := Aside0.mk H
              clear H
              have p135 : 0 ≤ (x36_1 : Int) := of_decide_eq_true (by first | (with_reducible assumption) | assumption)
              have q135 : x36_1 < (t130.length : Int) := of_decide_eq_true (by first | (with_reducible assumption) | assumption)
              obtain ⟨ad135, e135, hx135_0, hx135_1, hx135_2, hx135_3⟩ := at_T30 (Kd.R_reads' HO_34.out).2.2 x36_1 p135 q135
              cases e135
              replace p135 := eq_true p135
              replace q135 := eq_true q135
              go_upto_if 42 with (first | ((with_reducible refine gate_dst (N := 8) rfl ?_); (try (refine gate_guard (by rfl) ?_; dsimp only)); refine box_event ?hg (N := 8) ?hd (cs := #[.int .i64 0, .string (⟨#[]⟩ : ByteArray), .int .i64 0, .int .i64 0]) (t := 30) ?hr ?_; (case hd => rfl); (case hg => rfl); (case hr => first | (go_simp; done) | (go_simp; rfl)); intro gb136 hg w12 hbox hb; (try have hnb135 := box_far hx135_0 hg); (try have hx135_0b := (Below.cell hb (cell_lt hx135_0)).trans hx135_0); (try have hx135_1b := (Below.cell hb (cell_lt hx135_1)).trans hx135_1); (try have hx135_2b := (Below.cell hb (cell_lt hx135_2)).trans hx135_2); (try have hx135_3b := (Below.cell hb (cell_lt hx135_3)).trans hx135_3); have n0_ := Aside0.mk (Kd.R_below (Kd.R_elderB (by (with_reducible repeat (first | apply Kd.R_alloc | apply Kd.R_drewN | apply Kd.R_drew)); exact HO_4.out) gb136 (Nat.le_of_eq hg.symm)) hb); have n1_ := Aside0.mk (Kd.R_below (Kd.R_elderB (by (with_reducible repeat (first | apply Kd.R_alloc | apply Kd.R_drewN | apply Kd.R_drew)); exact HO_34.out) gb136 (Nat.le_of_eq hg.symm)) hb); have n2_ := Aside0.mk (below_step (by repeat (first | (with_reducible first | exact HB.out | apply below_alloc | apply pw_below_drewN | apply below_drew1) | exact HB.out)) hb); have n3_ := Aside0.mk (hbox); have n4_ := Aside0.mk ((by rw [hg]; exact (below_size (by repeat (first | (with_reducible first | exact HB.out | apply below_alloc | apply pw_below_drewN | apply below_drew1) | exact HB.out))) : w.heap.size ≤ gb136)); have n5_ := Aside0.mk ((by rw [hg]; exact (below_size (by repeat (first | (with_reducible first | exact HB.out | apply below_alloc | apply pw_below_drewN | apply below_drew1) | exact HB.out))) : w.heap.size ≤ gb136)); clear HO_4; clear HO_34; clear HB; have HO_4 := n0_; have HO_34 := n1_; have HB := n2_; have BK136 := n3_; have GW136 := n4_; have GE136 := n5_; clear n0_ n1_ n2_ n3_ n4_ n5_; clear hb hbox hg; have hcz13_0 : w12.cell? ⟨gb136, 0, none⟩ = some (.int .i64 0) := (blk_cell BK136.out 0).trans rfl; have hcz13_1 : w12.cell? ⟨gb136, 1, none⟩ = some (.string (⟨#[]⟩ : ByteArray)) := (blk_cell BK136.out 1).trans rfl; have hcz13_2 : w12.cell? ⟨gb136, 2, none⟩ = some (.int .i64 0) := (blk_cell BK136.out 2).trans rfl; have hcz13_3 : w12.cell? ⟨gb136, 3, none⟩ = some (.int .i64 0) := (blk_cell BK136.out 3).trans rfl; have hfz13_0 := blk_frozen BK136.out 0; have hfz13_1 := blk_frozen BK136.out 1; have hfz13_2 := blk_frozen BK136.out 2; have hfz13_3 := blk_frozen BK136.out 3))
              repeat (go_quiet (first | ((with_reducible refine gate_dst (N := 8) rfl ?_); (try (refine gate_guard (by rfl) ?_; dsimp only)); refine box_event ?hg (N := 8) ?hd (cs := #[.int .i64 0, .string (⟨#[]⟩ : ByteArray), .int .i64 0, .int .i64 0]) (t := 30) ?hr ?_; (case hd => rfl); (case hg => rfl); (case hr => first | (go_simp; done) | (go_simp; rfl)); intro gb136 hg w12 hbox hb; have n0_ := Aside0.mk (Kd.R_below (Kd.R_elderB (by (with_reducible repeat (first | apply Kd.R_alloc | apply Kd.R_drewN | apply Kd.R_drew)); exact HO_4.out) gb136 (Nat.le_of_eq hg.symm)) hb); have n1_ := Aside0.mk (Kd.R_below (Kd.R_elderB (by (with_reducible repeat (first | apply Kd.R_alloc | apply Kd.R_drewN | apply Kd.R_drew)); exact HO_34.out) gb136 (Nat.le_of_eq hg.symm)) hb); have n2_ := Aside0.mk (below_step (by repeat (first | (with_reducible first | exact HB.out | apply below_alloc | apply pw_below_drewN | apply below_drew1) | exact HB.out)) hb); have n3_ := Aside0.mk (hbox); have n4_ := Aside0.mk ((by rw [hg]; exact (below_size (by repeat (first | (with_reducible first | exact HB.out | apply below_alloc | apply pw_below_drewN | apply below_drew1) | exact HB.out))) : w.heap.size ≤ gb136)); have n5_ := Aside0.mk ((by rw [hg]; exact (below_size (by repeat (first | (with_reducible first | exact HB.out | apply below_alloc | apply pw_below_drewN | apply below_drew1) | exact HB.out))) : w.heap.size ≤ gb136)); clear HO_4; clear HO_34; clear HB; have HO_4 := n0_; have HO_34 := n1_; have HB := n2_; have BK136 := n3_; have GW136 := n4_; have GE136 := n5_; clear n0_ n1_ n2_ n3_ n4_ n5_; clear hb hbox hg; have hcz13_0 : w12.cell? ⟨gb136, 0, none⟩ = some (.int .i64 0) := (blk_cell BK136.out 0).trans rfl; have hcz13_1 : w12.cell? ⟨gb136, 1, none⟩ = some (.string (⟨#[]⟩ : ByteArray)) := (blk_cell BK136.out 1).trans rfl; have hcz13_2 : w12.cell? ⟨gb136, 2, none⟩ = some (.int .i64 0) := (blk_cell BK136.out 2).trans rfl; have hcz13_3 : w12.cell? ⟨gb136, 3, none⟩ = some (.int .i64 0) := (blk_cell BK136.out 3).trans rfl; have hfz13_0 := blk_frozen BK136.out 0; have hfz13_1 := blk_frozen BK136.out 1; have hfz13_2 := blk_frozen BK136.out 2; have hfz13_3 := blk_frozen BK136.out 3)); go_upto_if 42 with (first | ((with_reducible refine gate_dst (N := 8) rfl ?_); (try (refine gate_guard (by rfl) ?_; dsimp only)); refine box_event ?hg (N := 8) ?hd (cs := #[.int .i64 0, .string (⟨#[]⟩ : ByteArray), .int .i64 0, .int .i64 0]) (t := 30) ?hr ?_; (case hd => rfl); (case hg => rfl); (case hr => first | (go_simp; done) | (go_simp; rfl)); intro gb136 hg w12 hbox hb; have n0_ := Aside0.mk (Kd.R_below (Kd.R_elderB (by (with_reducible repeat (first | apply Kd.R_alloc | apply Kd.R_drewN | apply Kd.R_drew)); exact HO_4.out) gb136 (Nat.le_of_eq hg.symm)) hb); have n1_ := Aside0.mk (Kd.R_below (Kd.R_elderB (by (with_reducible repeat (first | apply Kd.R_alloc | apply Kd.R_drewN | apply Kd.R_drew)); exact HO_34.out) gb136 (Nat.le_of_eq hg.symm)) hb); have n2_ := Aside0.mk (below_step (by repeat (first | (with_reducible first | exact HB.out | apply below_alloc | apply pw_below_drewN | apply below_drew1) | exact HB.out)) hb); have n3_ := Aside0.mk (hbox); have n4_ := Aside0.mk ((by rw [hg]; exact (below_size (by repeat (first | (with_reducible first | exact HB.out | apply below_alloc | apply pw_below_drewN | apply below_drew1) | exact HB.out))) : w.heap.size ≤ gb136)); have n5_ := Aside0.mk ((by rw [hg]; exact (below_size (by repeat (first | (with_reducible first | exact HB.out | apply below_alloc | apply pw_below_drewN | apply below_drew1) | exact HB.out))) : w.heap.size ≤ gb136)); clear HO_4; clear HO_34; clear HB; have HO_4 := n0_; have HO_34 := n1_; have HB := n2_; have BK136 := n3_; have GW136 := n4_; have GE136 := n5_; clear n0_ n1_ n2_ n3_ n4_ n5_; clear hb hbox hg; have hcz13_0 : w12.cell? ⟨gb136, 0, none⟩ = some (.int .i64 0) := (blk_cell BK136.out 0).trans rfl; have hcz13_1 : w12.cell? ⟨gb136, 1, none⟩ = some (.string (⟨#[]⟩ : ByteArray)) := (blk_cell BK136.out 1).trans rfl; have hcz13_2 : w12.cell? ⟨gb136, 2, none⟩ = some (.int .i64 0) := (blk_cell BK136.out 2).trans rfl; have hcz13_3 : w12.cell? ⟨gb136, 3, none⟩ = some (.int .i64 0) := (blk_cell BK136.out 3).trans rfl; have hfz13_0 := blk_frozen BK136.out 0; have hfz13_1 := blk_frozen BK136.out 1; have hfz13_2 := blk_frozen BK136.out 2; have hfz13_3 := blk_frozen BK136.out 3)))
              (try simp only [Act.put, List.setIfInBounds_toArray, List.set_cons_zero, List.set_cons_succ])
              go_cut [42] (fun v42 wc => ∃ (kq : Nat) (x42_10 : Bool), v42 = .bool x42_10 ∧ Aside0 (spinneylaw05_TokenOwn.j1 kq a0 t129 t130 t130 (t130.length : Int) x36_1 x42_10 ((rd_T30 t130 x36_1).f0) ((rd_T30 t130 x36_1).f1) ((rd_T30 t130 x36_1).f2) ((rd_T30 t130 x36_1).f3) = some r) ∧ Aside0 (kq ≤ k1) ∧ Aside0 (Kd.R k30 30 wc w.heap.size (fun k_ => k_ ≠ gb136) (.slice (some ad135) t130.length co7) t130) ∧ Aside0 (Kd.R k30 30 wc w.heap.size (fun k_ => k_ ≠ gb136) (.slice (some ad135) t130.length co7) t130) ∧ Aside0 (wc.heap[gb136]? = some (.cells #[.int .i64 ((rd_T30 t130 x36_1).f0), .string ((rd_T30 t130 x36_1).f1), .int .i64 ((rd_T30 t130 x36_1).f2), .int .i64 ((rd_T30 t130 x36_1).f3)] 30 (0, 0))) ∧ Aside0 (Below w.heap.size w wc))
              case first =>
                have H := HC11.out
                clear HC11
                by_cases c14 : ((rd_T30 t130 x36_1).f0) = 2
                · rw [if_pos c14] at H
                  have c14b0 : (((rd_T30 t130 x36_1).f0) == 2) = true := beq_iff_eq.mpr c14
                  have c14b1 : (((rd_T30 t130 x36_1).f0) != 2) = false := bne_eq_false_iff_eq.mpr c14
                  clear c14
                  (first | rw [c14b0] | (simp only [i64_w, i32_w]; rw [c14b0]) | skip)
                  have H' := Aside0.mk H
                  clear H
                  go_wp2
                  repeat (go_quiet (fail); try go_wp2)
                  go_meet
                  case rel => exact ⟨_, ((((rd_T30 t130 x36_1).f0) == 2)), (by first | rfl | (simp; done) | (simp [*]; done)), H', ⟨by have := HK1.out; first | omega | exact Nat.le_refl _⟩, ⟨by (with_reducible repeat (first | apply Kd.R_alloc | apply Kd.R_drewN | apply Kd.R_drew)); exact Kd.R_mono (Kd.R_far (p := ⟨gb136, 3, none⟩) (Kd.R_far (p := ⟨gb136, 2, none⟩) (Kd.R_far (p := ⟨gb136, 1, none⟩) (Kd.R_far (p := ⟨gb136, 0, none⟩) (Kd.R_mono HO_4.out (fun k_ hk => (⟨hk, hk.2⟩ : _ ∧ k_ ≠ gb136))) (fun _ hk => hk.2) (.int .i64 ((rd_T30 t130 x36_1).f0))) (fun _ hk => hk.2) (.string ((rd_T30 t130 x36_1).f1))) (fun _ hk => hk.2) (.int .i64 ((rd_T30 t130 x36_1).f2))) (fun _ hk => hk.2) (.int .i64 ((rd_T30 t130 x36_1).f3))) (fun _ hk => hk.1.2)⟩, ⟨by (with_reducible repeat (first | apply Kd.R_alloc | apply Kd.R_drewN | apply Kd.R_drew)); exact Kd.R_mono (Kd.R_far (p := ⟨gb136, 3, none⟩) (Kd.R_far (p := ⟨gb136, 2, none⟩) (Kd.R_far (p := ⟨gb136, 1, none⟩) (Kd.R_far (p := ⟨gb136, 0, none⟩) (Kd.R_mono HO_34.out (fun k_ hk => (⟨hk, hk.2⟩ : _ ∧ k_ ≠ gb136))) (fun _ hk => hk.2) (.int .i64 ((rd_T30 t130 x36_1).f0))) (fun _ hk => hk.2) (.string ((rd_T30 t130 x36_1).f1))) (fun _ hk => hk.2) (.int .i64 ((rd_T30 t130 x36_1).f2))) (fun _ hk => hk.2) (.int .i64 ((rd_T30 t130 x36_1).f3))) (fun _ hk => hk.1.2)⟩, ⟨by (with_reducible repeat (first | refine blk_drewN ?_ _ | refine blk_drew ?_ | refine blk_alloc ?_ _)); refine blk_put (cs := #[.int .i64 ((rd_T30 t130 x36_1).f0), .string ((rd_T30 t130 x36_1).f1), .int .i64 ((rd_T30 t130 x36_1).f2), .int .i64 0]) ?_ 3 _ rfl; (with_reducible repeat (first | refine blk_drewN ?_ _ | refine blk_drew ?_ | refine blk_alloc ?_ _)); refine blk_put (cs := #[.int .i64 ((rd_T30 t130 x36_1).f0), .string ((rd_T30 t130 x36_1).f1), .int .i64 0, .int .i64 0]) ?_ 2 _ rfl; (with_reducible repeat (first | refine blk_drewN ?_ _ | refine blk_drew ?_ | refine blk_alloc ?_ _)); refine blk_put (cs := #[.int .i64 ((rd_T30 t130 x36_1).f0), .string (⟨#[]⟩ : ByteArray), .int .i64 0, .int .i64 0]) ?_ 1 _ rfl; (with_reducible repeat (first | refine blk_drewN ?_ _ | refine blk_drew ?_ | refine blk_alloc ?_ _)); refine blk_put (cs := #[.int .i64 0, .string (⟨#[]⟩ : ByteArray), .int .i64 0, .int .i64 0]) ?_ 0 _ rfl; (with_reducible repeat (first | refine blk_drewN ?_ _ | refine blk_drew ?_ | refine blk_alloc ?_ _)); exact BK136.out⟩, ⟨by repeat (first | (with_reducible first | exact HB.out | apply below_alloc | apply pw_below_drewN | apply below_drew1 | refine below_set ?_ GE136.out) | exact HB.out)⟩⟩
                · rw [if_neg c14] at H
                  have c14b0 : (((rd_T30 t130 x36_1).f0) == 2) = false := beq_eq_false_iff_ne.mpr c14
                  have c14b1 : (((rd_T30 t130 x36_1).f0) != 2) = true := bne_iff_ne.mpr c14
                  (first | rw [c14b0] | (simp only [i64_w, i32_w]; rw [c14b0]) | skip)
                  by_cases c15 : ((rd_T30 t130 x36_1).f0) = 5
                  · rw [if_pos c15] at H
                    have c15b0 : (((rd_T30 t130 x36_1).f0) == 5) = true := beq_iff_eq.mpr c15
                    have c15b1 : (((rd_T30 t130 x36_1).f0) != 5) = false := bne_eq_false_iff_eq.mpr c15
                    clear c15
                    have H' := Aside0.mk H
                    clear H
                    go_wp2
                    repeat (go_quiet (fail); try go_wp2)
                    go_meet
                    case rel => exact ⟨_, ((((rd_T30 t130 x36_1).f0) == 5)), (by first | rfl | (simp; done) | (simp [*]; done)), H', ⟨by have := HK1.out; first | omega | exact Nat.le_refl _⟩, ⟨by (with_reducible repeat (first | apply Kd.R_alloc | apply Kd.R_drewN | apply Kd.R_drew)); exact Kd.R_mono (Kd.R_far (p := ⟨gb136, 3, none⟩) (Kd.R_far (p := ⟨gb136, 2, none⟩) (Kd.R_far (p := ⟨gb136, 1, none⟩) (Kd.R_far (p := ⟨gb136, 0, none⟩) (Kd.R_mono HO_4.out (fun k_ hk => (⟨hk, hk.2⟩ : _ ∧ k_ ≠ gb136))) (fun _ hk => hk.2) (.int .i64 ((rd_T30 t130 x36_1).f0))) (fun _ hk => hk.2) (.string ((rd_T30 t130 x36_1).f1))) (fun _ hk => hk.2) (.int .i64 ((rd_T30 t130 x36_1).f2))) (fun _ hk => hk.2) (.int .i64 ((rd_T30 t130 x36_1).f3))) (fun _ hk => hk.1.2)⟩, ⟨by (with_reducible repeat (first | apply Kd.R_alloc | apply Kd.R_drewN | apply Kd.R_drew)); exact Kd.R_mono (Kd.R_far (p := ⟨gb136, 3, none⟩) (Kd.R_far (p := ⟨gb136, 2, none⟩) (Kd.R_far (p := ⟨gb136, 1, none⟩) (Kd.R_far (p := ⟨gb136, 0, none⟩) (Kd.R_mono HO_34.out (fun k_ hk => (⟨hk, hk.2⟩ : _ ∧ k_ ≠ gb136))) (fun _ hk => hk.2) (.int .i64 ((rd_T30 t130 x36_1).f0))) (fun _ hk => hk.2) (.string ((rd_T30 t130 x36_1).f1))) (fun _ hk => hk.2) (.int .i64 ((rd_T30 t130 x36_1).f2))) (fun _ hk => hk.2) (.int .i64 ((rd_T30 t130 x36_1).f3))) (fun _ hk => hk.1.2)⟩, ⟨by (with_reducible repeat (first | refine blk_drewN ?_ _ | refine blk_drew ?_ | refine blk_alloc ?_ _)); refine blk_put (cs := #[.int .i64 ((rd_T30 t130 x36_1).f0), .string ((rd_T30 t130 x36_1).f1), .int .i64 ((rd_T30 t130 x36_1).f2), .int .i64 0]) ?_ 3 _ rfl; (with_reducible repeat (first | refine blk_drewN ?_ _ | refine blk_drew ?_ | refine blk_alloc ?_ _)); refine blk_put (cs := #[.int .i64 ((rd_T30 t130 x36_1).f0), .string ((rd_T30 t130 x36_1).f1), .int .i64 0, .int .i64 0]) ?_ 2 _ rfl; (with_reducible repeat (first | refine blk_drewN ?_ _ | refine blk_drew ?_ | refine blk_alloc ?_ _)); refine blk_put (cs := #[.int .i64 ((rd_T30 t130 x36_1).f0), .string (⟨#[]⟩ : ByteArray), .int .i64 0, .int .i64 0]) ?_ 1 _ rfl; (with_reducible repeat (first | refine blk_drewN ?_ _ | refine blk_drew ?_ | refine blk_alloc ?_ _)); refine blk_put (cs := #[.int .i64 0, .string (⟨#[]⟩ : ByteArray), .int .i64 0, .int .i64 0]) ?_ 0 _ rfl; (with_reducible repeat (first | refine blk_drewN ?_ _ | refine blk_drew ?_ | refine blk_alloc ?_ _)); exact BK136.out⟩, ⟨by repeat (first | (with_reducible first | exact HB.out | apply below_alloc | apply pw_below_drewN | apply below_drew1 | refine below_set ?_ GE136.out) | exact HB.out)⟩⟩
                  · rw [if_neg c15] at H
                    have c15b0 : (((rd_T30 t130 x36_1).f0) == 5) = false := beq_eq_false_iff_ne.mpr c15
                    have c15b1 : (((rd_T30 t130 x36_1).f0) != 5) = true := bne_iff_ne.mpr c15
                    have H' := Aside0.mk H
                    clear H
                    go_wp2
                    repeat (go_quiet (fail); try go_wp2)
                    go_meet
                    case rel => exact ⟨_, ((((rd_T30 t130 x36_1).f0) == 9)), (by first | rfl | (simp; done) | (simp [*]; done)), H', ⟨by have := HK1.out; first | omega | exact Nat.le_refl _⟩, ⟨by (with_reducible repeat (first | apply Kd.R_alloc | apply Kd.R_drewN | apply Kd.R_drew)); exact Kd.R_mono (Kd.R_far (p := ⟨gb136, 3, none⟩) (Kd.R_far (p := ⟨gb136, 2, none⟩) (Kd.R_far (p := ⟨gb136, 1, none⟩) (Kd.R_far (p := ⟨gb136, 0, none⟩) (Kd.R_mono HO_4.out (fun k_ hk => (⟨hk, hk.2⟩ : _ ∧ k_ ≠ gb136))) (fun _ hk => hk.2) (.int .i64 ((rd_T30 t130 x36_1).f0))) (fun _ hk => hk.2) (.string ((rd_T30 t130 x36_1).f1))) (fun _ hk => hk.2) (.int .i64 ((rd_T30 t130 x36_1).f2))) (fun _ hk => hk.2) (.int .i64 ((rd_T30 t130 x36_1).f3))) (fun _ hk => hk.1.2)⟩, ⟨by (with_reducible repeat (first | apply Kd.R_alloc | apply Kd.R_drewN | apply Kd.R_drew)); exact Kd.R_mono (Kd.R_far (p := ⟨gb136, 3, none⟩) (Kd.R_far (p := ⟨gb136, 2, none⟩) (Kd.R_far (p := ⟨gb136, 1, none⟩) (Kd.R_far (p := ⟨gb136, 0, none⟩) (Kd.R_mono HO_34.out (fun k_ hk => (⟨hk, hk.2⟩ : _ ∧ k_ ≠ gb136))) (fun _ hk => hk.2) (.int .i64 ((rd_T30 t130 x36_1).f0))) (fun _ hk => hk.2) (.string ((rd_T30 t130 x36_1).f1))) (fun _ hk => hk.2) (.int .i64 ((rd_T30 t130 x36_1).f2))) (fun _ hk => hk.2) (.int .i64 ((rd_T30 t130 x36_1).f3))) (fun _ hk => hk.1.2)⟩, ⟨by (with_reducible repeat (first | refine blk_drewN ?_ _ | refine blk_drew ?_ | refine blk_alloc ?_ _)); refine blk_put (cs := #[.int .i64 ((rd_T30 t130 x36_1).f0), .string ((rd_T30 t130 x36_1).f1), .int .i64 ((rd_T30 t130 x36_1).f2), .int .i64 0]) ?_ 3 _ rfl; (with_reducible repeat (first | refine blk_drewN ?_ _ | refine blk_drew ?_ | refine blk_alloc ?_ _)); refine blk_put (cs := #[.int .i64 ((rd_T30 t130 x36_1).f0), .string ((rd_T30 t130 x36_1).f1), .int .i64 0, .int .i64 0]) ?_ 2 _ rfl; (with_reducible repeat (first | refine blk_drewN ?_ _ | refine blk_drew ?_ | refine blk_alloc ?_ _)); refine blk_put (cs := #[.int .i64 ((rd_T30 t130 x36_1).f0), .string (⟨#[]⟩ : ByteArray), .int .i64 0, .int .i64 0]) ?_ 1 _ rfl; (with_reducible repeat (first | refine blk_drewN ?_ _ | refine blk_drew ?_ | refine blk_alloc ?_ _)); refine blk_put (cs := #[.int .i64 0, .string (⟨#[]⟩ : ByteArray), .int .i64 0, .int .i64 0]) ?_ 0 _ rfl; (with_reducible repeat (first | refine blk_drewN ?_ _ | refine blk_drew ?_ | refine blk_alloc ?_ _)); exact BK136.out⟩, ⟨by repeat (first | (with_reducible first | exact HB.out | apply below_alloc | apply pw_below_drewN | apply below_drew1 | refine below_set ?_ GE136.out) | exact HB.out)⟩⟩
              case rest =>
                clear HC11
                try clear c1
                try clear p1
                try clear q1
                try clear hx1
                try clear p2
                try clear c4
                try clear c4b0
                try clear c4b1
                try clear c6
                try clear c8
                try clear c8b0
                try clear c9
                try clear c9b0
                try clear c10
                try clear c10b0
                try clear p13
                try clear q13
                try clear hx13
                try clear c14
                try clear c14b0
                try clear c14b1
                try clear c15
                try clear c15b0
                try clear c15b1
                try clear hcz13_0
                try clear hcz13_1
                try clear hcz13_2
                try clear hcz13_3
                try clear hfz13_0
                try clear hfz13_1
                try clear hfz13_2
                try clear hfz13_3
                try clear hx135_0
                try clear hx135_1
                try clear hx135_2
                try clear hx135_3
                try clear p135
                try clear p2
                try clear q135
                obtain ⟨kq, x42_10, rfl, HA, HJ10, HO_4, HO_34, BK136, HB⟩ := hcut
                cases kq with
                | zero => exact absurd HA.out (by simp [spinneylaw05_TokenOwn.j1])
                | succ kj10 =>
                  have H := HA.out
                  clear HA
                  simp only [spinneylaw05_TokenOwn.j1] at H
                  by_cases c16 : x42_10 = true
                  · subst c16
                    have H1 : (spinneylaw05_TokenOwn.l0 kj10 a0 t129 t130 t130 (t130.length : Int) (wrap64 (x36_1 + 1))) = some r := by rw [if_pos rfl] at H; exact H
                    clear H
                    have H := H1
                    clear H1
                    have H' := Aside0.mk H
                    clear H
                    go_wp2
                    repeat (go_quiet (fail); try go_wp2)
                    go_roundg kj10
                    case measure => have := HK1.out; have := HJ10.out; omega
                    case rel => exact ⟨(wrap64 (x36_1 + 1)), (by first | rfl | (simp; done) | (simp [*]; done)), H', ⟨by have := HK1.out; have := HJ10.out; omega⟩, ⟨by (with_reducible repeat (first | apply Kd.R_alloc | apply Kd.R_drewN | apply Kd.R_drew)); exact Kd.R_mono HO_4.out (fun _ hk => trivial)⟩, ⟨by (with_reducible repeat (first | apply Kd.R_alloc | apply Kd.R_drewN | apply Kd.R_drew)); exact Kd.R_mono HO_34.out (fun _ hk => trivial)⟩, ⟨by repeat (first | (with_reducible first | exact HB.out | apply below_alloc | apply pw_below_drewN | apply below_drew1 | refine below_set ?_ GE136.out) | exact HB.out)⟩⟩
                  · replace c16 := Bool.eq_false_iff.mpr c16
                    subst c16
                    have H1 : (if ((rd_T30 t130 x36_1).f1).toList = ([] : List UInt8) then (none) else (if ((rd_T30 t130 x36_1).f3) < 0 then (none) else (if (wrap64 (((rd_T30 t130 x36_1).f3) + (((rd_T30 t130 x36_1).f1).size : Int))) > (a0.size : Int) then (none) else (if 0 ≤ ((rd_T30 t130 x36_1).f3) then (if ((rd_T30 t130 x36_1).f3) ≤ (wrap64 (((rd_T30 t130 x36_1).f3) + (((rd_T30 t130 x36_1).f1).size : Int))) then (if (wrap64 (((rd_T30 t130 x36_1).f3) + (((rd_T30 t130 x36_1).f1).size : Int))) ≤ (a0.size : Int) then (if (a0.extract (((rd_T30 t130 x36_1).f3) : Int).toNat ((wrap64 (((rd_T30 t130 x36_1).f3) + (((rd_T30 t130 x36_1).f1).size : Int))) : Int).toNat).toList = ((rd_T30 t130 x36_1).f1).toList then (spinneylaw05_TokenOwn.l0 kj10 a0 t129 t130 t130 (t130.length : Int) (wrap64 (x36_1 + 1))) else (none)) else (none)) else (none)) else (none))))) = some r := by rw [if_neg (show ¬ (false = true) by decide)] at H; exact H
                    clear H
                    have H := H1
                    clear H1
                    by_cases c17 : ((rd_T30 t130 x36_1).f1).toList = ([] : List UInt8)
                    · rw [if_pos c17] at H
                      exact absurd H (by simp)
                    · rw [if_neg c17] at H
                      have c17b0 : (((rd_T30 t130 x36_1).f1).toList == ([] : List UInt8)) = false := beq_eq_false_iff_ne.mpr c17
                      have c17b1 : (((rd_T30 t130 x36_1).f1).toList != ([] : List UInt8)) = true := bne_iff_ne.mpr c17
                      by_cases c18 : ((rd_T30 t130 x36_1).f3) < 0
                      · rw [if_pos c18] at H
                        exact absurd H (by simp)
                      · rw [if_neg c18] at H
                        have c18b0 : decide (((rd_T30 t130 x36_1).f3) < 0) = false := decide_eq_false c18
                        clear c18
                        by_cases c19 : (wrap64 (((rd_T30 t130 x36_1).f3) + (((rd_T30 t130 x36_1).f1).size : Int))) > (a0.size : Int)
                        · rw [if_pos c19] at H
                          exact absurd H (by simp)
                        · rw [if_neg c19] at H
                          have c19b0 : decide ((a0.size : Int) < (wrap64 (((rd_T30 t130 x36_1).f3) + (((rd_T30 t130 x36_1).f1).size : Int)))) = false := decide_eq_false c19
                          clear c19
                          by_cases c20 : 0 ≤ ((rd_T30 t130 x36_1).f3)
                          · rw [if_pos c20] at H
                            have c20b0 := eq_true c20
                            have c20b1 : decide (0 ≤ ((rd_T30 t130 x36_1).f3)) = true := decide_eq_true c20
                            clear c20
                            by_cases c21 : ((rd_T30 t130 x36_1).f3) ≤ (wrap64 (((rd_T30 t130 x36_1).f3) + (((rd_T30 t130 x36_1).f1).size : Int)))
                            · rw [if_pos c21] at H
                              have c21b0 := eq_true c21
                              have c21b1 : decide (((rd_T30 t130 x36_1).f3) ≤ (wrap64 (((rd_T30 t130 x36_1).f3) + (((rd_T30 t130 x36_1).f1).size : Int)))) = true := decide_eq_true c21
                              by_cases c22 : (wrap64 (((rd_T30 t130 x36_1).f3) + (((rd_T30 t130 x36_1).f1).size : Int))) ≤ (a0.size : Int)
                              · rw [if_pos c22] at H
                                have c22b0 := eq_true c22
                                have c22b1 : decide ((wrap64 (((rd_T30 t130 x36_1).f3) + (((rd_T30 t130 x36_1).f1).size : Int))) ≤ (a0.size : Int)) = true := decide_eq_true c22
                                by_cases c23 : (a0.extract (((rd_T30 t130 x36_1).f3) : Int).toNat ((wrap64 (((rd_T30 t130 x36_1).f3) + (((rd_T30 t130 x36_1).f1).size : Int))) : Int).toNat).toList = ((rd_T30 t130 x36_1).f1).toList
                                · rw [if_pos c23] at H
                                  have c23b0 : ((a0.extract (((rd_T30 t130 x36_1).f3) : Int).toNat ((wrap64 (((rd_T30 t130 x36_1).f3) + (((rd_T30 t130 x36_1).f1).size : Int))) : Int).toNat).toList == ((rd_T30 t130 x36_1).f1).toList) = true := beq_iff_eq.mpr c23
                                  have c23b1 : ((a0.extract (((rd_T30 t130 x36_1).f3) : Int).toNat ((wrap64 (((rd_T30 t130 x36_1).f3) + (((rd_T30 t130 x36_1).f1).size : Int))) : Int).toNat).toList != ((rd_T30 t130 x36_1).f1).toList) = false := bne_eq_false_iff_eq.mpr c23
                                  clear c23
                                  have H' := Aside0.mk H
                                  clear H
                                  have hcz24_0 : wc.cell? ⟨gb136, 0, none⟩ = some (.int .i64 ((rd_T30 t130 x36_1).f0)) := (blk_cell BK136.out 0).trans rfl
                                  have hcz24_1 : wc.cell? ⟨gb136, 1, none⟩ = some (.string ((rd_T30 t130 x36_1).f1)) := (blk_cell BK136.out 1).trans rfl
                                  have hcz24_2 : wc.cell? ⟨gb136, 2, none⟩ = some (.int .i64 ((rd_T30 t130 x36_1).f2)) := (blk_cell BK136.out 2).trans rfl
                                  have hcz24_3 : wc.cell? ⟨gb136, 3, none⟩ = some (.int .i64 ((rd_T30 t130 x36_1).f3)) := (blk_cell BK136.out 3).trans rfl
                                  have hfz24_0 := blk_frozen BK136.out 0
                                  have hfz24_1 := blk_frozen BK136.out 1
                                  have hfz24_2 := blk_frozen BK136.out 2
                                  have hfz24_3 := blk_frozen BK136.out 3
                                  go_wp2
                                  repeat (go_quiet (fail); try go_wp2)
                                  go_roundg kj10
                                  case measure => have := HK1.out; have := HJ10.out; omega
                                  case rel => exact ⟨(wrap64 (x36_1 + 1)), (by first | rfl | (simp; done) | (simp [*]; done)), H', ⟨by have := HK1.out; have := HJ10.out; omega⟩, ⟨by (with_reducible repeat (first | apply Kd.R_alloc | apply Kd.R_drewN | apply Kd.R_drew)); exact Kd.R_mono HO_4.out (fun _ hk => trivial)⟩, ⟨by (with_reducible repeat (first | apply Kd.R_alloc | apply Kd.R_drewN | apply Kd.R_drew)); exact Kd.R_mono HO_34.out (fun _ hk => trivial)⟩, ⟨by repeat (first | (with_reducible first | exact HB.out | apply below_alloc | apply pw_below_drewN | apply below_drew1 | refine below_set ?_ GE136.out) | exact HB.out)⟩⟩
                                · rw [if_neg c23] at H
                                  exact absurd H (by simp)
                              · rw [if_neg c22] at H
                                exact absurd H (by simp)
                            · rw [if_neg c21] at H
                              exact absurd H (by simp)
                          · rw [if_neg c20] at H
                            exact absurd H (by simp)
            · rw [if_neg c10] at H
              exact absurd H (by simp)
          · rw [if_neg c9] at H
            exact absurd H (by simp)
        · rw [if_neg c8] at H
          have c8b0 : decide (x36_1 < (t130.length : Int)) = false := decide_eq_false c8
          clear c8
          by_cases c25 : t129 = true
          · subst c25
            have H1 : (some (decide ((t130.length : Int) ≤ (wrap64 ((a0.size : Int) + 1))))) = some r := by rw [if_pos rfl] at H; exact H
            clear H
            have H := H1
            clear H1
            obtain rfl := Option.some.inj H
            go_wp2
            repeat (go_quiet (fail); try go_wp2)
            go_ret
            exact ⟨by first | rfl | (simp [errW_none, errW_some] <;> rfl) | (simp [*, errW_none, errW_some] <;> rfl), by repeat (first | (with_reducible first | exact HB.out | apply below_alloc | apply pw_below_drewN | apply below_drew1) | exact HB.out)⟩
          · replace c25 := Bool.eq_false_iff.mpr c25
            subst c25
            have H1 : (none) = some r := by rw [if_neg (show ¬ (false = true) by decide)] at H; exact H
            clear H
            have H := H1
            clear H1
            exact absurd H (by simp)
  · rw [if_neg c4] at H
    have c4b0 : (t132 == 0) = false := beq_eq_false_iff_ne.mpr c4
    have c4b1 : (t132 != 0) = true := bne_iff_ne.mpr c4
    by_cases c26 : t129 = true
    · subst c26
      have H1 : (if (t130.length : Int) = 0 then (if t131 ≥ 0 then (some (decide (t131 ≤ (a0.size : Int)))) else (none)) else (none)) = some r := by rw [if_pos rfl] at H; exact H
      clear H
      have H := H1
      clear H1
      by_cases c27 : (t130.length : Int) = 0
      · rw [if_pos c27] at H
        have c27b0 : ((t130.length : Int) == 0) = true := beq_iff_eq.mpr c27
        have c27b1 : ((t130.length : Int) != 0) = false := bne_eq_false_iff_eq.mpr c27
        clear c27
        by_cases c28 : t131 ≥ 0
        · rw [if_pos c28] at H
          have c28b0 : decide (0 ≤ t131) = true := decide_eq_true c28
          clear c28
          obtain rfl := Option.some.inj H
          go_enter Tryd.func6, Tryd.ntmps6
          go_wp2_with (first | (go_at_call 9; (with_reducible refine (spinneylaw05_live.calls  true _ A2.out (HT.out.below (by first | exact Below.refl _ _ | (repeat (first | (with_reducible first | exact HB.out | apply below_alloc | apply pw_below_drewN | apply below_drew1 | refine below_set ?_ GE136.out) | exact HB.out))))).mono ?_); rintro e w29 ⟨rfl, hb⟩; have n0_ := Aside0.mk (below_step (by repeat (first | (with_reducible first | exact HB.out | apply below_alloc | apply pw_below_drewN | apply below_drew1) | exact HB.out)) hb); clear HB; have HB := n0_; clear n0_; (try clear hb); (try clear hb2); (try clear hk); (try clear hi)) | (go_at_call 10; (with_reducible refine (token_Cut.calls a0 t130 t131 t132 _ A3.out (HT.out.below (by first | exact Below.refl _ _ | (repeat (first | (with_reducible first | exact HB.out | apply below_alloc | apply pw_below_drewN | apply below_drew1 | refine below_set ?_ GE136.out) | exact HB.out))))).mono ?_); rintro e w30 ⟨v133, rfl, ho0, hb⟩; have n0_ := Aside0.mk (Kd.R_lower ho0 (below_size (by repeat (first | (with_reducible first | exact HB.out | apply below_alloc | apply pw_below_drewN | apply below_drew1) | exact HB.out)))); have n1_ := Aside0.mk (below_step (by repeat (first | (with_reducible first | exact HB.out | apply below_alloc | apply pw_below_drewN | apply below_drew1) | exact HB.out)) hb); clear HB; have HO134 := n0_; have HB := n1_; clear n0_ n1_; (try clear hb); (try clear hb2); (try clear hk); (try clear hi); (try clear ho0); obtain ⟨Ao31, co31, eo31⟩ := Kd.R_slice HO134.out; subst eo31))
          repeat (go_quiet (first | (go_at_call 9; (with_reducible refine (spinneylaw05_live.calls  true _ A2.out (HT.out.below (by first | exact Below.refl _ _ | (repeat (first | (with_reducible first | exact HB.out | apply below_alloc | apply pw_below_drewN | apply below_drew1 | refine below_set ?_ GE136.out) | exact HB.out))))).mono ?_); rintro e w29 ⟨rfl, hb⟩; have n0_ := Aside0.mk (below_step (by repeat (first | (with_reducible first | exact HB.out | apply below_alloc | apply pw_below_drewN | apply below_drew1) | exact HB.out)) hb); clear HB; have HB := n0_; clear n0_; (try clear hb); (try clear hb2); (try clear hk); (try clear hi)) | (go_at_call 10; (with_reducible refine (token_Cut.calls a0 t130 t131 t132 _ A3.out (HT.out.below (by first | exact Below.refl _ _ | (repeat (first | (with_reducible first | exact HB.out | apply below_alloc | apply pw_below_drewN | apply below_drew1 | refine below_set ?_ GE136.out) | exact HB.out))))).mono ?_); rintro e w30 ⟨v133, rfl, ho0, hb⟩; have n0_ := Aside0.mk (Kd.R_lower ho0 (below_size (by repeat (first | (with_reducible first | exact HB.out | apply below_alloc | apply pw_below_drewN | apply below_drew1) | exact HB.out)))); have n1_ := Aside0.mk (below_step (by repeat (first | (with_reducible first | exact HB.out | apply below_alloc | apply pw_below_drewN | apply below_drew1) | exact HB.out)) hb); clear HB; have HO134 := n0_; have HB := n1_; clear n0_ n1_; (try clear hb); (try clear hb2); (try clear hk); (try clear hi); (try clear ho0); obtain ⟨Ao31, co31, eo31⟩ := Kd.R_slice HO134.out; subst eo31)); try go_wp2_with (first | (go_at_call 9; (with_reducible refine (spinneylaw05_live.calls  true _ A2.out (HT.out.below (by first | exact Below.refl _ _ | (repeat (first | (with_reducible first | exact HB.out | apply below_alloc | apply pw_below_drewN | apply below_drew1 | refine below_set ?_ GE136.out) | exact HB.out))))).mono ?_); rintro e w29 ⟨rfl, hb⟩; have n0_ := Aside0.mk (below_step (by repeat (first | (with_reducible first | exact HB.out | apply below_alloc | apply pw_below_drewN | apply below_drew1) | exact HB.out)) hb); clear HB; have HB := n0_; clear n0_; (try clear hb); (try clear hb2); (try clear hk); (try clear hi)) | (go_at_call 10; (with_reducible refine (token_Cut.calls a0 t130 t131 t132 _ A3.out (HT.out.below (by first | exact Below.refl _ _ | (repeat (first | (with_reducible first | exact HB.out | apply below_alloc | apply pw_below_drewN | apply below_drew1 | refine below_set ?_ GE136.out) | exact HB.out))))).mono ?_); rintro e w30 ⟨v133, rfl, ho0, hb⟩; have n0_ := Aside0.mk (Kd.R_lower ho0 (below_size (by repeat (first | (with_reducible first | exact HB.out | apply below_alloc | apply pw_below_drewN | apply below_drew1) | exact HB.out)))); have n1_ := Aside0.mk (below_step (by repeat (first | (with_reducible first | exact HB.out | apply below_alloc | apply pw_below_drewN | apply below_drew1) | exact HB.out)) hb); clear HB; have HO134 := n0_; have HB := n1_; clear n0_ n1_; (try clear hb); (try clear hb2); (try clear hk); (try clear hi); (try clear ho0); obtain ⟨Ao31, co31, eo31⟩ := Kd.R_slice HO134.out; subst eo31)))
          go_ret
          exact ⟨by first | rfl | (simp [errW_none, errW_some] <;> rfl) | (simp [*, errW_none, errW_some] <;> rfl), by repeat (first | (with_reducible first | exact HB.out | apply below_alloc | apply pw_below_drewN | apply below_drew1) | exact HB.out)⟩
        · rw [if_neg c28] at H
          exact absurd H (by simp)
      · rw [if_neg c27] at H
        exact absurd H (by simp)
    · replace c26 := Bool.eq_false_iff.mpr c26
      subst c26
      have H1 : (none) = some r := by rw [if_neg (show ¬ (false = true) by decide)] at H; exact H
      clear H
      have H := H1
      clear H1
      exact absurd H (by simp)

/-- THE ONE PURE STATEMENT of spinneylaw05_TokenOwn: yours. -/
def spinneylaw05_TokenOwn.Pure : Prop := ∀ (a0 : ByteArray), a0.size ≤ 140737488351232 → ∃ k, spinneylaw05_TokenOwn.f k a0 = some true
theorem spinneylaw05_TokenOwn.walk (P : spinneylaw05_TokenOwn.Pure) (a0 : ByteArray) (w : World) (w0 : a0.size ≤ 140737488351232) (hT : Tabs w) :
    Calls Tryd.prog 6 #[.string a0] w fun e w' => e = .returned (.bool true) ∧ Below w.heap.size w w' := by
  have HT := Aside0.mk hT
  clear hT
  obtain ⟨k, h⟩ := P a0 w0
  refine (spinneylaw05_TokenOwn.calls k a0 true w h (HT.out.below (by first | exact Below.refl _ _ | (repeat (first | (with_reducible first | exact HB.out | apply below_alloc | apply pw_below_drewN | apply below_drew1 | refine below_set ?_ GE136.out) | exact HB.out))))).mono ?_
  rintro e w' ⟨rfl, hd⟩
  exact ⟨rfl, hd⟩

end Go.Proofs.YtjichkjnodabiaaDoor.P
