-- PRINTED by a program of this session over the kit's print.py.
import Derived.Test.YtjichkjnodabiaaDoorPx0
import Derived.Test.YtjichkjnodabiaaDoorPx1
import Derived.Test.YtjichkjnodabiaaDoorPx3
import Derived.Test.YtjichkjnodabiaaDoorPx5
namespace Go.Proofs.YtjichkjnodabiaaDoor.P
open Go.Own Go.RowKit Go.Proofs.YtjichkjnodabiaaDoorW.PrintWords Go.Proofs.YtjichkjnodabiaaDoorW.PrintLast Go.Proofs.YtjichkjnodabiaaDoorW.PrintMore
attribute [local go_sem] max2_int min2_int max_two min_two max_three min_three max_four min_four   -- for this text's walks alone
set_option linter.unusedVariables false
set_option linter.unusedSimpArgs false

attribute [local go_sem high] eqA30
/-! ### spinneylaw05_live: function 9 -/
def spinneylaw05_live.f  : Option (Bool) := (token_Cut.f (⟨#[102, 111, 111, 40, 88, 44, 32, 39, 97, 32, 98, 39, 41, 46]⟩ : ByteArray)).bind fun bt116 => ((token_Cut.f (⟨#[88, 32, 61, 32, 34]⟩ : ByteArray)).bind fun bt121 => (if bt116.2.2 = 0 then (if bt116.2.1 = 0 then (if (bt116.1.length : Int) = 8 then (if 1 < (bt116.1.length : Int) then (if ((rd_T30 bt116.1 1).f0) = 7 then (if 4 < (bt116.1.length : Int) then (if (((rd_T30 bt116.1 4).f0) == 2 && ((((rd_T30 bt116.1 4).f1).toList) == ([97, 32, 98] : List UInt8) && (((rd_T30 bt116.1 4).f2) == 0 && (((rd_T30 bt116.1 4).f3) == 7)))) = true then (if 6 < (bt116.1.length : Int) then (if ((rd_T30 bt116.1 6).f0) = 8 then (if bt121.2.2 = 50 then (some (bt121.2.1 == 4)) else (none)) else (none)) else (none)) else (none)) else (none)) else (none)) else (none)) else (none)) else (none)) else (none)))
set_option maxHeartbeats 8000000 in
set_option maxRecDepth 100000 in
theorem spinneylaw05_live.calls  (r : Bool) (w : World) (h : spinneylaw05_live.f  = some r) (hT : Tabs w) :
    Calls Tryd.prog 9 #[] w fun e w' => e = .returned (.bool r) ∧ Below w.heap.size w w' := by
  have HT := Aside0.mk hT
  clear hT
  have hu30 := Tryd.underlying30
  have HB := Aside0.mk (Below.refl w.heap.size w)
  have H : ((token_Cut.f (⟨#[102, 111, 111, 40, 88, 44, 32, 39, 97, 32, 98, 39, 41, 46]⟩ : ByteArray)).bind fun bt116 => ((token_Cut.f (⟨#[88, 32, 61, 32, 34]⟩ : ByteArray)).bind fun bt121 => (if bt116.2.2 = 0 then (if bt116.2.1 = 0 then (if (bt116.1.length : Int) = 8 then (if 1 < (bt116.1.length : Int) then (if ((rd_T30 bt116.1 1).f0) = 7 then (if 4 < (bt116.1.length : Int) then (if (((rd_T30 bt116.1 4).f0) == 2 && ((((rd_T30 bt116.1 4).f1).toList) == ([97, 32, 98] : List UInt8) && (((rd_T30 bt116.1 4).f2) == 0 && (((rd_T30 bt116.1 4).f3) == 7)))) = true then (if 6 < (bt116.1.length : Int) then (if ((rd_T30 bt116.1 6).f0) = 8 then (if bt121.2.2 = 50 then (some (bt121.2.1 == 4)) else (none)) else (none)) else (none)) else (none)) else (none)) else (none)) else (none)) else (none)) else (none)) else (none)))) = some r := h
  clear h
  replace H := Option.bind_eq_some_iff.mp H
  obtain ⟨⟨t116, t117, t118⟩, A10, H⟩ := H
  replace H : ((token_Cut.f (⟨#[88, 32, 61, 32, 34]⟩ : ByteArray)).bind fun bt121 => (if t118 = 0 then (if t117 = 0 then (if (t116.length : Int) = 8 then (if 1 < (t116.length : Int) then (if ((rd_T30 t116 1).f0) = 7 then (if 4 < (t116.length : Int) then (if (((rd_T30 t116 4).f0) == 2 && ((((rd_T30 t116 4).f1).toList) == ([97, 32, 98] : List UInt8) && (((rd_T30 t116 4).f2) == 0 && (((rd_T30 t116 4).f3) == 7)))) = true then (if 6 < (t116.length : Int) then (if ((rd_T30 t116 6).f0) = 8 then (if bt121.2.2 = 50 then (some (bt121.2.1 == 4)) else (none)) else (none)) else (none)) else (none)) else (none)) else (none)) else (none)) else (none)) else (none)) else (none))) = some r := H
  have A1 := Aside0.mk A10
  clear A10
  replace H := Option.bind_eq_some_iff.mp H
  obtain ⟨⟨t121, t122, t123⟩, A20, H⟩ := H
  replace H : (if t118 = 0 then (if t117 = 0 then (if (t116.length : Int) = 8 then (if 1 < (t116.length : Int) then (if ((rd_T30 t116 1).f0) = 7 then (if 4 < (t116.length : Int) then (if (((rd_T30 t116 4).f0) == 2 && ((((rd_T30 t116 4).f1).toList) == ([97, 32, 98] : List UInt8) && (((rd_T30 t116 4).f2) == 0 && (((rd_T30 t116 4).f3) == 7)))) = true then (if 6 < (t116.length : Int) then (if ((rd_T30 t116 6).f0) = 8 then (if t123 = 50 then (some (t122 == 4)) else (none)) else (none)) else (none)) else (none)) else (none)) else (none)) else (none)) else (none)) else (none)) else (none)) = some r := H
  have A2 := Aside0.mk A20
  clear A20
  by_cases c3 : t118 = 0
  · rw [if_pos c3] at H
    have c3b0 : (t118 == 0) = true := beq_iff_eq.mpr c3
    have c3b1 : (t118 != 0) = false := bne_eq_false_iff_eq.mpr c3
    clear c3
    by_cases c4 : t117 = 0
    · rw [if_pos c4] at H
      have c4b0 : (t117 == 0) = true := beq_iff_eq.mpr c4
      have c4b1 : (t117 != 0) = false := bne_eq_false_iff_eq.mpr c4
      clear c4
      by_cases c5 : (t116.length : Int) = 8
      · rw [if_pos c5] at H
        have c5b0 : ((t116.length : Int) == 8) = true := beq_iff_eq.mpr c5
        have c5b1 : ((t116.length : Int) != 8) = false := bne_eq_false_iff_eq.mpr c5
        clear c5
        by_cases c6 : 1 < (t116.length : Int)
        · rw [if_pos c6] at H
          have c6b0 : decide (1 < (t116.length : Int)) = true := decide_eq_true c6
          have c6b1 : decide (1 < t116.length) = true := decide_eq_true (by omega)
          clear c6
          by_cases c7 : ((rd_T30 t116 1).f0) = 7
          · rw [if_pos c7] at H
            have c7b0 : (((rd_T30 t116 1).f0) == 7) = true := beq_iff_eq.mpr c7
            have c7b1 : (((rd_T30 t116 1).f0) != 7) = false := bne_eq_false_iff_eq.mpr c7
            clear c7
            by_cases c8 : 4 < (t116.length : Int)
            · rw [if_pos c8] at H
              have c8b0 : decide (4 < (t116.length : Int)) = true := decide_eq_true c8
              have c8b1 : decide (4 < t116.length) = true := decide_eq_true (by omega)
              clear c8
              by_cases c9 : (((rd_T30 t116 4).f0) == 2 && ((((rd_T30 t116 4).f1).toList) == ([97, 32, 98] : List UInt8) && (((rd_T30 t116 4).f2) == 0 && (((rd_T30 t116 4).f3) == 7)))) = true
              · rw [if_pos c9] at H
                have c9b0 : (((rd_T30 t116 4).f0) == 2 && ((((rd_T30 t116 4).f1).toList) == ([97, 32, 98] : List UInt8) && (((rd_T30 t116 4).f2) == 0 && (((rd_T30 t116 4).f3) == 7)))) = true := c9
                (try (have c9b1 : decide (((rd_T30 t116 4).f0) = 2 && ((((rd_T30 t116 4).f1).toList) == ([97, 32, 98] : List UInt8) && (((rd_T30 t116 4).f2) == 0 && (((rd_T30 t116 4).f3) == 7)))) = true := by simpa using c9))
                (try (have c9b2 : (((rd_T30 t116 4).f0) == 2 && ((((rd_T30 t116 4).f1).toList) == ([97, 32, 98] : List UInt8) && (((rd_T30 t116 4).f2) == 0 && (((rd_T30 t116 4).f3) == 7)))) = true := by simpa using c9))
                clear c9
                by_cases c10 : 6 < (t116.length : Int)
                · rw [if_pos c10] at H
                  have c10b0 : decide (6 < (t116.length : Int)) = true := decide_eq_true c10
                  have c10b1 : decide (6 < t116.length) = true := decide_eq_true (by omega)
                  clear c10
                  by_cases c11 : ((rd_T30 t116 6).f0) = 8
                  · rw [if_pos c11] at H
                    have c11b0 : (((rd_T30 t116 6).f0) == 8) = true := beq_iff_eq.mpr c11
                    have c11b1 : (((rd_T30 t116 6).f0) != 8) = false := bne_eq_false_iff_eq.mpr c11
                    clear c11
                    by_cases c12 : t123 = 50
                    · rw [if_pos c12] at H
                      have c12b0 : (t123 == 50) = true := beq_iff_eq.mpr c12
                      have c12b1 : (t123 != 50) = false := bne_eq_false_iff_eq.mpr c12
                      clear c12
                      obtain rfl := Option.some.inj H
                      go_enter Tryd.func9, Tryd.ntmps9
                      go_wp2_with (first | ((with_reducible refine gate_callee (f := 10) rfl ?_); refine goesL_ (some 8) rfl rfl Tryd.func10 (by kernel_rfl) rfl #[.string (⟨#[102, 111, 111, 40, 88, 44, 32, 39, 97, 32, 98, 39, 41, 46]⟩ : ByteArray)] rfl (by (try simp only [List.map_toArray, List.map_cons, List.map_nil]); first | done | rfl | (simp only [List.length_drop, List.length_take]; rfl)) ?_; (with_reducible refine (token_Cut.calls (⟨#[102, 111, 111, 40, 88, 44, 32, 39, 97, 32, 98, 39, 41, 46]⟩ : ByteArray) t116 t117 t118 _ A1.out (HT.out.below (by first | exact Below.refl _ _ | (repeat (first | (with_reducible first | exact HB.out | apply below_alloc | apply pw_below_drewN | apply below_drew1) | exact HB.out))))).mono ?_); rintro e w13 ⟨v119, rfl, ho0, hb⟩; refine ⟨_, rfl, ?_⟩; have n0_ := Aside0.mk (Kd.R_lower ho0 (below_size (by repeat (first | (with_reducible first | exact HB.out | apply below_alloc | apply pw_below_drewN | apply below_drew1) | exact HB.out)))); have n1_ := Aside0.mk (below_step (by repeat (first | (with_reducible first | exact HB.out | apply below_alloc | apply pw_below_drewN | apply below_drew1) | exact HB.out)) hb); clear HB; have HO120 := n0_; have HB := n1_; clear n0_ n1_; (try clear hb); (try clear hb2); (try clear hk); (try clear hi); (try clear ho0)) | ((with_reducible refine gate_callee (f := 10) rfl ?_); refine goesL_ (some 13) rfl rfl Tryd.func10 (by kernel_rfl) rfl #[.string (⟨#[88, 32, 61, 32, 34]⟩ : ByteArray)] rfl (by (try simp only [List.map_toArray, List.map_cons, List.map_nil]); first | done | rfl | (simp only [List.length_drop, List.length_take]; rfl)) ?_; (with_reducible refine (token_Cut.calls (⟨#[88, 32, 61, 32, 34]⟩ : ByteArray) t121 t122 t123 _ A2.out (HT.out.below (by first | exact Below.refl _ _ | (repeat (first | (with_reducible first | exact HB.out | apply below_alloc | apply pw_below_drewN | apply below_drew1) | exact HB.out))))).mono ?_); rintro e w14 ⟨v124, rfl, ho0, hb⟩; refine ⟨_, rfl, ?_⟩; have n0_ := Aside0.mk (Kd.R_elder' (by (with_reducible repeat (first | apply Kd.R_alloc | apply Kd.R_drewN | apply Kd.R_drew)); exact HO120.out) (Kd.R_base ho0) hb); have n1_ := Aside0.mk (Kd.R_lower (Kd.R_new' ho0 (Kd.R_lt (by (with_reducible repeat (first | apply Kd.R_alloc | apply Kd.R_drewN | apply Kd.R_drew)); exact HO120.out))) (below_size (by repeat (first | (with_reducible first | exact HB.out | apply below_alloc | apply pw_below_drewN | apply below_drew1) | exact HB.out)))); have n2_ := Aside0.mk (below_step (by repeat (first | (with_reducible first | exact HB.out | apply below_alloc | apply pw_below_drewN | apply below_drew1) | exact HB.out)) hb); clear HO120; clear HB; have HO120 := n0_; have HO125 := n1_; have HB := n2_; clear n0_ n1_ n2_; (try clear hb); (try clear hb2); (try clear hk); (try clear hi); (try clear ho0); obtain ⟨Ao15, co15, eo15⟩ := Kd.R_slice HO120.out; subst eo15; have p126 : 0 ≤ (1 : Int) := (by omega); have q126 : 1 < (t116.length : Int) := of_decide_eq_true (by first | (with_reducible assumption) | assumption); obtain ⟨ad126, e126, hx126_0, hx126_1, hx126_2, hx126_3⟩ := at_T30 (Kd.R_reads' HO120.out).2.2 1 p126 q126; cases e126; (try simp only [show (1 : Int).toNat = 1 from rfl, Nat.reduceMul, Nat.reduceEqDiff, Go.Addr.add, ↓reduceIte] at hx126_0); (try simp only [show (1 : Int).toNat = 1 from rfl, Nat.reduceMul, Nat.reduceEqDiff, Go.Addr.add, ↓reduceIte] at hx126_1); (try simp only [show (1 : Int).toNat = 1 from rfl, Nat.reduceMul, Nat.reduceEqDiff, Go.Addr.add, ↓reduceIte] at hx126_2); (try simp only [show (1 : Int).toNat = 1 from rfl, Nat.reduceMul, Nat.reduceEqDiff, Go.Addr.add, ↓reduceIte] at hx126_3); have qi126 : (1 < t116.length) = True := eq_true (by omega); (try rw [show ((1 : Int)).toNat = 1 from rfl] at hx126_0); (try rw [show 1 * 4 = 4 from rfl] at hx126_0); (try rw [show ((1 : Int)).toNat = 1 from rfl] at hx126_1); (try rw [show 1 * 4 = 4 from rfl] at hx126_1); (try rw [show ((1 : Int)).toNat = 1 from rfl] at hx126_2); (try rw [show 1 * 4 = 4 from rfl] at hx126_2); (try rw [show ((1 : Int)).toNat = 1 from rfl] at hx126_3); (try rw [show 1 * 4 = 4 from rfl] at hx126_3); replace p126 := eq_true p126; replace q126 := eq_true q126; have p127 : 0 ≤ (4 : Int) := (by omega); have q127 : 4 < (t116.length : Int) := of_decide_eq_true (by first | (with_reducible assumption) | assumption); obtain ⟨ad127, e127, hx127_0, hx127_1, hx127_2, hx127_3⟩ := at_T30 (Kd.R_reads' HO120.out).2.2 4 p127 q127; obtain rfl : ad126 = ad127 := (by injection e127); (try simp only [show (4 : Int).toNat = 4 from rfl, Nat.reduceMul, Nat.reduceEqDiff, Go.Addr.add, ↓reduceIte] at hx127_0); (try simp only [show (4 : Int).toNat = 4 from rfl, Nat.reduceMul, Nat.reduceEqDiff, Go.Addr.add, ↓reduceIte] at hx127_1); (try simp only [show (4 : Int).toNat = 4 from rfl, Nat.reduceMul, Nat.reduceEqDiff, Go.Addr.add, ↓reduceIte] at hx127_2); (try simp only [show (4 : Int).toNat = 4 from rfl, Nat.reduceMul, Nat.reduceEqDiff, Go.Addr.add, ↓reduceIte] at hx127_3); have qi127 : (4 < t116.length) = True := eq_true (by omega); (try rw [show ((4 : Int)).toNat = 4 from rfl] at hx127_0); (try rw [show 4 * 4 = 16 from rfl] at hx127_0); (try rw [show ((4 : Int)).toNat = 4 from rfl] at hx127_1); (try rw [show 4 * 4 = 16 from rfl] at hx127_1); (try rw [show ((4 : Int)).toNat = 4 from rfl] at hx127_2); (try rw [show 4 * 4 = 16 from rfl] at hx127_2); (try rw [show ((4 : Int)).toNat = 4 from rfl] at hx127_3); (try rw [show 4 * 4 = 16 from rfl] at hx127_3); replace p127 := eq_true p127; replace q127 := eq_true q127; have p128 : 0 ≤ (6 : Int) := (by omega); have q128 : 6 < (t116.length : Int) := of_decide_eq_true (by first | (with_reducible assumption) | assumption); obtain ⟨ad128, e128, hx128_0, hx128_1, hx128_2, hx128_3⟩ := at_T30 (Kd.R_reads' HO120.out).2.2 6 p128 q128; obtain rfl : ad126 = ad128 := (by injection e128); (try simp only [show (6 : Int).toNat = 6 from rfl, Nat.reduceMul, Nat.reduceEqDiff, Go.Addr.add, ↓reduceIte] at hx128_0); (try simp only [show (6 : Int).toNat = 6 from rfl, Nat.reduceMul, Nat.reduceEqDiff, Go.Addr.add, ↓reduceIte] at hx128_1); (try simp only [show (6 : Int).toNat = 6 from rfl, Nat.reduceMul, Nat.reduceEqDiff, Go.Addr.add, ↓reduceIte] at hx128_2); (try simp only [show (6 : Int).toNat = 6 from rfl, Nat.reduceMul, Nat.reduceEqDiff, Go.Addr.add, ↓reduceIte] at hx128_3); have qi128 : (6 < t116.length) = True := eq_true (by omega); (try rw [show ((6 : Int)).toNat = 6 from rfl] at hx128_0); (try rw [show 6 * 4 = 24 from rfl] at hx128_0); (try rw [show ((6 : Int)).toNat = 6 from rfl] at hx128_1); (try rw [show 6 * 4 = 24 from rfl] at hx128_1); (try rw [show ((6 : Int)).toNat = 6 from rfl] at hx128_2); (try rw [show 6 * 4 = 24 from rfl] at hx128_2); (try rw [show ((6 : Int)).toNat = 6 from rfl] at hx128_3); (try rw [show 6 * 4 = 24 from rfl] at hx128_3); replace p128 := eq_true p128; replace q128 := eq_true q128))
                      go_ret
                      exact ⟨by first | rfl | (simp [errW_none, errW_some] <;> rfl) | (simp [*, errW_none, errW_some] <;> rfl), by repeat (first | (with_reducible first | exact HB.out | apply below_alloc | apply pw_below_drewN | apply below_drew1) | exact HB.out)⟩
                    · rw [if_neg c12] at H
                      exact absurd H (by simp)
                  · rw [if_neg c11] at H
                    exact absurd H (by simp)
                · rw [if_neg c10] at H
                  exact absurd H (by simp)
              · rw [if_neg c9] at H
                exact absurd H (by simp)
            · rw [if_neg c8] at H
              exact absurd H (by simp)
          · rw [if_neg c7] at H
            exact absurd H (by simp)
        · rw [if_neg c6] at H
          exact absurd H (by simp)
      · rw [if_neg c5] at H
        exact absurd H (by simp)
    · rw [if_neg c4] at H
      exact absurd H (by simp)
  · rw [if_neg c3] at H
    exact absurd H (by simp)

-- NOT PRINTED: function 43 (utf8_word_string)

/-! ### utf8_ValidString: function 23 (given) -/
def utf8_ValidString.f (a0 : ByteArray) : Option Bool := if a0.size ≤ 9223372036854775807 then some (Lib.validD a0.data.toList) else none
theorem utf8_ValidString.calls (a0 : ByteArray) (r : Bool) (w : World) (h : utf8_ValidString.f a0 = some r) (hT : Tabs w) :
    Calls Tryd.prog 23 #[.string a0] w fun e w' => e = .returned (.bool r) ∧ Below w.heap.size w w' := by
  unfold utf8_ValidString.f at h
  split at h
  case isTrue hs => injection h with h; subst h; exact Tryd.utf8_ValidString a0 w hs hT.1
  case isFalse => exact absurd h (by simp)

/-! ### spinneyref02_Check: function 14 -/
def spinneyref02_Check.f (a0 : ByteArray) : Option (Bool) := if (a0.size : Int) ≤ 255 then ((utf8_ValidString.f a0).bind fun t129 => (some t129)) else (some false)
set_option maxHeartbeats 8000000 in
set_option maxRecDepth 100000 in
theorem spinneyref02_Check.calls (a0 : ByteArray) (r : Bool) (w : World) (h : spinneyref02_Check.f a0 = some r) (hT : Tabs w) :
    Calls Tryd.prog 14 #[.string a0] w fun e w' => e = .returned (.bool r) ∧ Below w.heap.size w w' := by
  have HT := Aside0.mk hT
  clear hT
  have HB := Aside0.mk (Below.refl w.heap.size w)
  have H : (if (a0.size : Int) ≤ 255 then ((utf8_ValidString.f a0).bind fun t129 => (some t129)) else (some false)) = some r := h
  clear h
  by_cases c2 : (a0.size : Int) ≤ 255
  · rw [if_pos c2] at H
    have c2b0 : decide ((a0.size : Int) ≤ 255) = true := decide_eq_true c2
    have c2b1 : decide (a0.size ≤ 255) = true := decide_eq_true (by omega)
    clear c2
    replace H := Option.bind_eq_some_iff.mp H
    obtain ⟨t129, A30, H⟩ := H
    replace H : (some t129) = some r := H
    have A3 := Aside0.mk A30
    clear A30
    obtain rfl := Option.some.inj H
    go_enter Tryd.func14, Tryd.ntmps14
    go_wp2_with (first | (go_at_call 23; (with_reducible refine (utf8_ValidString.calls a0 t129 _ A3.out (HT.out.below (by first | exact Below.refl _ _ | (repeat (first | (with_reducible first | exact HB.out | apply below_alloc | apply pw_below_drewN | apply below_drew1) | exact HB.out))))).mono ?_); rintro e w4 ⟨rfl, hb⟩; have n0_ := Aside0.mk (below_step (by repeat (first | (with_reducible first | exact HB.out | apply below_alloc | apply pw_below_drewN | apply below_drew1) | exact HB.out)) hb); clear HB; have HB := n0_; clear n0_; (try clear hb); (try clear hb2); (try clear hk); (try clear hi)))
    go_ret
    exact ⟨by first | rfl | (simp [errW_none, errW_some] <;> rfl) | (simp [*, errW_none, errW_some] <;> rfl), by repeat (first | (with_reducible first | exact HB.out | apply below_alloc | apply pw_below_drewN | apply below_drew1) | exact HB.out)⟩
  · rw [if_neg c2] at H
    have c2b0 : decide ((a0.size : Int) ≤ 255) = false := decide_eq_false c2
    have c2b1 : decide (a0.size ≤ 255) = false := decide_eq_false (by omega)
    clear c2
    obtain rfl := Option.some.inj H
    go_enter Tryd.func14, Tryd.ntmps14
    go_wp2
    go_ret
    exact ⟨by first | rfl | (simp [errW_none, errW_some] <;> rfl) | (simp [*, errW_none, errW_some] <;> rfl), by repeat (first | (with_reducible first | exact HB.out | apply below_alloc | apply pw_below_drewN | apply below_drew1) | exact HB.out)⟩

/-! ### spinneyref02_Runes: function 21 -/
def spinneyref02_Runes.l0 : Nat → ByteArray → List Int → Option (List Int)
  | 0, _, _ => none
  | k + 1, x0, x3 => if (x0.size : Int) > 0 then ((utf8_DecodeRuneInString.f x0).bind fun bt130 => (if x3.length < 35184372088832 then (if 0 ≤ bt130.2 then (if bt130.2 ≤ (x0.size : Int) then (spinneyref02_Runes.l0 k (x0.extract (bt130.2 : Int).toNat x0.size) (x3 ++ [bt130.1])) else (none)) else (none)) else (none))) else (some x3)
def spinneyref02_Runes.f (k : Nat) (a0 : ByteArray) : Option (List Int) := spinneyref02_Runes.l0 k a0 ([] : List Int)
theorem spinneyref02_Runes.mono_l : ∀ k, (∀ y0 y1, LeO (spinneyref02_Runes.l0 k y0 y1) (spinneyref02_Runes.l0 (k + 1) y0 y1))
  | 0 => fun _ _ r h => by simp [spinneyref02_Runes.l0] at h
  | k + 1 => by
    have ih0 := spinneyref02_Runes.mono_l k
    · intro y0 y1
      unfold spinneyref02_Runes.l0
      repeat' first
      | (with_reducible exact ih0 _ _)
      | (with_reducible exact LeO.refl _)
      | (with_reducible exact LeO.none _)
      | (with_reducible refine LeO.ite ?_ ?_)
      | (with_reducible refine LeO.bind ?_ (fun _ => ?_))
      | exact ih0 _ _
      | exact LeO.none _
      | refine LeO.ite ?_ ?_
      | refine LeO.bind ?_ (fun _ => ?_)
theorem spinneyref02_Runes.mono : ∀ a0 k, LeO (spinneyref02_Runes.f k a0) (spinneyref02_Runes.f (k + 1) a0) := by
  intro a0 k
  have ih0 := spinneyref02_Runes.mono_l k
  unfold spinneyref02_Runes.f
  repeat' first
      | (with_reducible exact ih0 _ _)
      | (with_reducible exact LeO.refl _)
      | (with_reducible exact LeO.none _)
      | (with_reducible refine LeO.ite ?_ ?_)
      | (with_reducible refine LeO.bind ?_ (fun _ => ?_))
      | exact ih0 _ _
      | exact LeO.none _
      | refine LeO.ite ?_ ?_
      | refine LeO.bind ?_ (fun _ => ?_)
set_option maxHeartbeats 8000000 in
set_option maxRecDepth 100000 in
theorem spinneyref02_Runes.calls (k : Nat) (a0 : ByteArray) (r : List Int) (w : World) (h : spinneyref02_Runes.f k a0 = some r) (hT : Tabs w) :
    Calls Tryd.prog 21 #[.string a0] w fun e w' => ∃ v0_ : Value, e = .returned (v0_) ∧ Kd.R (Kd.int .i32) 21 w' w.heap.size (fun _ => True) v0_ r ∧ Below w.heap.size w w' := by
  have HT := Aside0.mk hT
  clear hT
  have HB := Aside0.mk (Below.refl w.heap.size w)
  have H : (spinneyref02_Runes.l0 k a0 ([] : List Int)) = some r := h
  clear h
  have H' := Aside0.mk H
  clear H
  go_enter Tryd.func21, Tryd.ntmps21
  go_wp2
  go_loopg [0, 3] k (fun kq v0 v3 w' => ∃ (x0_1 : ByteArray) (x3_1 : List Int), v0 = .string x0_1 ∧ Aside0 (spinneyref02_Runes.l0 kq x0_1 x3_1 = some r) ∧ Aside0 (kq ≤ k) ∧ Aside0 (Kd.R (Kd.int .i32) 21 w' w.heap.size (fun _ => True) v3 x3_1) ∧ Aside0 (Below w.heap.size w w'))
  case atStart => exact ⟨(a0), (([] : List Int)), (by first | rfl | (simp; done) | (simp [*]; done)), H', ⟨Nat.le_refl _⟩, ⟨by first | exact Kd.R_nil _ _ _ _ _ | exact Kd.N_nil _ _ _ _ _ | exact Kd.V_nil _ _ _ _ _ | exact Kd.Q_nil _ _ _ _ _ | exact Kd.S_nil _ _ _ _ _⟩, ⟨by repeat (first | (with_reducible first | exact HB.out | apply below_alloc | apply pw_below_drewN | apply below_drew1) | exact HB.out)⟩⟩
  case round =>
    clear H'
    obtain ⟨x0_1, x3_1, rfl, HA, HK1, HO_3, HB⟩ := hrel
    cases gk with
    | zero => exact absurd HA.out (by simp [spinneyref02_Runes.l0])
    | succ k1 =>
      have H := HA.out
      clear HA
      simp only [spinneyref02_Runes.l0] at H
      by_cases c2 : (x0_1.size : Int) > 0
      · rw [if_pos c2] at H
        have c2b0 : decide (0 < (x0_1.size : Int)) = true := decide_eq_true c2
        have c2b1 : decide (0 < x0_1.size) = true := decide_eq_true (by omega)
        clear c2
        replace H := Option.bind_eq_some_iff.mp H
        obtain ⟨⟨t130, t131⟩, A30, H⟩ := H
        replace H : (if x3_1.length < 35184372088832 then (if 0 ≤ t131 then (if t131 ≤ (x0_1.size : Int) then (spinneyref02_Runes.l0 k1 (x0_1.extract (t131 : Int).toNat x0_1.size) (x3_1 ++ [t130])) else (none)) else (none)) else (none)) = some r := H
        have A3 := Aside0.mk A30
        clear A30
        by_cases c4 : x3_1.length < 35184372088832
        · rw [if_pos c4] at H
          have LMc4 := Aside0.mk c4
          clear c4
          obtain ⟨y132, hy132⟩ : ∃ y_ : List Int, y_ = (x3_1 ++ [t130]) := ⟨_, rfl⟩
          replace H : (if 0 ≤ t131 then (if t131 ≤ (x0_1.size : Int) then (spinneyref02_Runes.l0 k1 (x0_1.extract (t131 : Int).toNat x0_1.size) y132) else (none)) else (none)) = some r := by first | (rw [hy132]; with_reducible exact H) | (have H2_ := (Option.bind_some _ _).symm.trans H; rw [hy132]; with_reducible exact H2_) | (have H2_ := (Option.bind_some _ _).symm.trans H; with_reducible exact H2_) | with_reducible exact H | (rw [hy132]; exact H) | exact H
          have Ny132 := Aside0.mk hy132
          clear hy132
          by_cases c5 : 0 ≤ t131
          · rw [if_pos c5] at H
            have c5b0 := eq_true c5
            have c5b1 : decide (0 ≤ t131) = true := decide_eq_true c5
            clear c5
            by_cases c6 : t131 ≤ (x0_1.size : Int)
            · rw [if_pos c6] at H
              have c6b0 := eq_true c6
              have c6b1 : decide (t131 ≤ (x0_1.size : Int)) = true := decide_eq_true c6
              clear c6
              have H' := Aside0.mk H
              clear H
              go_wp2_with (first | ((with_reducible refine gate_callee (f := 31) rfl ?_); refine goesL_ (some 11) rfl rfl Tryd.func31 (by kernel_rfl) rfl #[.string x0_1] rfl (by (try simp only [List.map_toArray, List.map_cons, List.map_nil]); first | done | rfl | (simp only [List.length_drop, List.length_take]; rfl)) ?_; (with_reducible refine (utf8_DecodeRuneInString.calls x0_1 t130 t131 _ A3.out (HT.out.below (by first | exact Below.refl _ _ | (repeat (first | (with_reducible first | exact HB.out | apply below_alloc | apply pw_below_drewN | apply below_drew1) | exact HB.out))))).mono ?_); rintro e w7 ⟨rfl, hb⟩; refine ⟨_, rfl, ?_⟩; have n0_ := Aside0.mk (Kd.R_below (by (with_reducible repeat (first | apply Kd.R_alloc | apply Kd.R_drewN | apply Kd.R_drew)); exact HO_3.out) hb); have n1_ := Aside0.mk (below_step (by repeat (first | (with_reducible first | exact HB.out | apply below_alloc | apply pw_below_drewN | apply below_drew1) | exact HB.out)) hb); clear HO_3; clear HB; have HO_3 := n0_; have HB := n1_; clear n0_ n1_; (try clear hb); (try clear hb2); (try clear hk); (try clear hi)) | ((with_reducible refine gate_builtin (b := .append) (xs := #[.tmp 14, .tmp 16]) rfl ?_); at_builtin; refine Kd.R_append (Kd.int .i32) (w0 := w) w.heap.size rfl (.tmp 14) (.tmp 16) 43 21 (.int .i32 0) 4 rfl Tryd.underlying43 info21 rfl (by decide) (by omega) u3 x3_1 t130 [.int .i32 t130] (fun _ => True) (fun _ => False) rfl rfl ?aP (fun _ hk => hk.elim) ?aF ?aO ?aB ?aS ?aL ?_; (case aP => exact rfl); (case aB => exact (by repeat (first | (with_reducible first | exact HB.out | apply below_alloc | apply pw_below_drewN | apply below_drew1) | exact HB.out))); (case aF => exact (fun _ _ => trivial)); (case aO => exact (by (with_reducible repeat (first | apply Kd.R_alloc | apply Kd.R_drewN | apply Kd.R_drew)); exact HO_3.out)); (case aS => exact (below_size (by repeat (first | (with_reducible first | exact HB.out | apply below_alloc | apply pw_below_drewN | apply below_drew1) | exact HB.out)))); (case aL => have := LMc4.out; omega); intro v133 w8 ho hb hg hat; rw [← Ny132.out] at ho; have n0_ := Aside0.mk (hb); have n1_ := Aside0.mk (ho); clear HB; clear HO_3; have HB := n0_; have HO134 := n1_; clear n0_ n1_; clear ho hb hg hat))
              go_roundg k1
              case measure => have := HK1.out; omega
              case rel => exact ⟨(x0_1.extract (t131 : Int).toNat x0_1.size), (y132), (by first | rfl | (simp; done) | (simp [*]; done)), H', ⟨by have := HK1.out; omega⟩, ⟨by (with_reducible repeat (first | apply Kd.R_alloc | apply Kd.R_drewN | apply Kd.R_drew)); exact HO134.out⟩, ⟨by repeat (first | (with_reducible first | exact HB.out | apply below_alloc | apply pw_below_drewN | apply below_drew1) | exact HB.out)⟩⟩
            · rw [if_neg c6] at H
              exact absurd H (by simp)
          · rw [if_neg c5] at H
            exact absurd H (by simp)
        · rw [if_neg c4] at H
          exact absurd H (by simp)
      · rw [if_neg c2] at H
        have c2b0 : decide (0 < (x0_1.size : Int)) = false := decide_eq_false c2
        have c2b1 : decide (0 < x0_1.size) = false := decide_eq_false (by omega)
        clear c2
        obtain rfl := Option.some.inj H
        go_wp2
        go_ret
        exact ⟨_, by first | rfl | (simp [errW_none, errW_some] <;> rfl) | (simp [*, errW_none, errW_some] <;> rfl), by (with_reducible repeat (first | apply Kd.R_alloc | apply Kd.R_drewN | apply Kd.R_drew)); exact HO_3.out, by repeat (first | (with_reducible first | exact HB.out | apply below_alloc | apply pw_below_drewN | apply below_drew1) | exact HB.out)⟩

/-! ### spinneyref02_among: function 56 -/
def spinneyref02_among.l0 : Nat → Int → ByteArray → Int → Option (Bool)
  | 0, _, _, _ => none
  | k + 1, x0, x1, x5 => if x5 < (x1.size : Int) then (if 0 ≤ x5 then (if x0 = (wrap32 (bt x1 x5)) then (some true) else (spinneyref02_among.l0 k x0 x1 (wrap64 (x5 + 1)))) else (none)) else (some false)
def spinneyref02_among.f (k : Nat) (a0 : Int) (a1 : ByteArray) : Option (Bool) := spinneyref02_among.l0 k a0 a1 0
theorem spinneyref02_among.mono_l : ∀ k, (∀ y0 y1 y2, LeO (spinneyref02_among.l0 k y0 y1 y2) (spinneyref02_among.l0 (k + 1) y0 y1 y2))
  | 0 => fun _ _ _ r h => by simp [spinneyref02_among.l0] at h
  | k + 1 => by
    have ih0 := spinneyref02_among.mono_l k
    · intro y0 y1 y2
      unfold spinneyref02_among.l0
      repeat' first
      | (with_reducible exact ih0 _ _ _)
      | (with_reducible exact LeO.refl _)
      | (with_reducible exact LeO.none _)
      | (with_reducible refine LeO.ite ?_ ?_)
      | (with_reducible refine LeO.bind ?_ (fun _ => ?_))
      | exact ih0 _ _ _
      | exact LeO.none _
      | refine LeO.ite ?_ ?_
      | refine LeO.bind ?_ (fun _ => ?_)
theorem spinneyref02_among.mono : ∀ a0 a1 k, LeO (spinneyref02_among.f k a0 a1) (spinneyref02_among.f (k + 1) a0 a1) := by
  intro a0 a1 k
  have ih0 := spinneyref02_among.mono_l k
  unfold spinneyref02_among.f
  repeat' first
      | (with_reducible exact ih0 _ _ _)
      | (with_reducible exact LeO.refl _)
      | (with_reducible exact LeO.none _)
      | (with_reducible refine LeO.ite ?_ ?_)
      | (with_reducible refine LeO.bind ?_ (fun _ => ?_))
      | exact ih0 _ _ _
      | exact LeO.none _
      | refine LeO.ite ?_ ?_
      | refine LeO.bind ?_ (fun _ => ?_)
set_option maxHeartbeats 8000000 in
set_option maxRecDepth 100000 in
theorem spinneyref02_among.calls (k : Nat) (a0 : Int) (a1 : ByteArray) (r : Bool) (w : World) (h : spinneyref02_among.f k a0 a1 = some r) :
    Calls Tryd.prog 56 #[.int .i32 a0, .string a1] w fun e w' => e = .returned (.bool r) ∧ Drawn0 w w' := by
  have H : (spinneyref02_among.l0 k a0 a1 0) = some r := h
  clear h
  have H' := Aside0.mk H
  clear H
  go_enter Tryd.func56, Tryd.ntmps56
  go_wp2
  go_loopg [5] k (fun kq v5 w' => ∃ (x5_1 : Int), v5 = .int .i64 x5_1 ∧ Aside0 (spinneyref02_among.l0 kq a0 a1 x5_1 = some r) ∧ Aside0 (kq ≤ k) ∧ Drawn0 w w')
  case atStart => exact ⟨(0), (by first | rfl | (simp; done) | (simp [*]; done)), H', ⟨Nat.le_refl _⟩, by repeat (first | exact Drawn0.refl _ | apply Drawn0.step)⟩
  case round =>
    clear H'
    try clear p2
    obtain ⟨x5_1, rfl, HA, HK1, ⟨m1, rfl⟩⟩ := hrel
    cases gk with
    | zero => exact absurd HA.out (by simp [spinneyref02_among.l0])
    | succ k1 =>
      have H := HA.out
      clear HA
      simp only [spinneyref02_among.l0] at H
      by_cases c3 : x5_1 < (a1.size : Int)
      · rw [if_pos c3] at H
        have c3b0 : decide (x5_1 < (a1.size : Int)) = true := decide_eq_true c3
        clear c3
        by_cases c4 : 0 ≤ x5_1
        · rw [if_pos c4] at H
          have c4b0 : decide (0 ≤ x5_1) = true := decide_eq_true c4
          clear c4
          by_cases c6 : a0 = (wrap32 (bt a1 x5_1))
          · rw [if_pos c6] at H
            have c6b0 : (a0 == (wrap32 (bt a1 x5_1))) = true := beq_iff_eq.mpr c6
            have c6b1 : (a0 != (wrap32 (bt a1 x5_1))) = false := bne_eq_false_iff_eq.mpr c6
            clear c6
            obtain rfl := Option.some.inj H
            have p5 : 0 ≤ (x5_1 : Int) := of_decide_eq_true (by first | (with_reducible assumption) | assumption)
            have q5 : x5_1 < (a1.size : Int) := of_decide_eq_true (by first | (with_reducible assumption) | assumption)
            have hx5 := bt_at a1 x5_1
            replace p5 := eq_true p5
            replace q5 := eq_true q5
            go_wp2
            go_ret
            exact ⟨by first | rfl | (simp; done) | (simp [*]; done), by repeat (first | exact Drawn0.refl _ | apply Drawn0.step)⟩
          · rw [if_neg c6] at H
            have c6b0 : (a0 == (wrap32 (bt a1 x5_1))) = false := beq_eq_false_iff_ne.mpr c6
            have c6b1 : (a0 != (wrap32 (bt a1 x5_1))) = true := bne_iff_ne.mpr c6
            have H' := Aside0.mk H
            clear H
            have p5 : 0 ≤ (x5_1 : Int) := of_decide_eq_true (by first | (with_reducible assumption) | assumption)
            have q5 : x5_1 < (a1.size : Int) := of_decide_eq_true (by first | (with_reducible assumption) | assumption)
            have hx5 := bt_at a1 x5_1
            replace p5 := eq_true p5
            replace q5 := eq_true q5
            go_wp2
            go_roundg k1
            case measure => have := HK1.out; omega
            case rel => exact ⟨(wrap64 (x5_1 + 1)), (by first | rfl | (simp; done) | (simp [*]; done)), H', ⟨by have := HK1.out; omega⟩, by repeat (first | exact Drawn0.refl _ | apply Drawn0.step)⟩
        · rw [if_neg c4] at H
          exact absurd H (by simp)
      · rw [if_neg c3] at H
        have c3b0 : decide (x5_1 < (a1.size : Int)) = false := decide_eq_false c3
        clear c3
        obtain rfl := Option.some.inj H
        go_wp2
        go_ret
        exact ⟨by first | rfl | (simp; done) | (simp [*]; done), by repeat (first | exact Drawn0.refl _ | apply Drawn0.step)⟩

/-! ### spinneyref02_Class: function 42 -/
mutual
def spinneyref02_Class.j0 : Nat → Int → Bool → Option (Int)
  | 0, _, _ => none
  | k + 1, x0, x3 => if x3 = true then (some 1) else (if x0 ≥ 65 then (if x0 ≤ 90 then (spinneyref02_Class.j1 k x0 true) else (spinneyref02_Class.j1 k x0 (x0 == 95))) else (spinneyref02_Class.j1 k x0 (x0 == 95)))
def spinneyref02_Class.j1 : Nat → Int → Bool → Option (Int)
  | 0, _, _ => none
  | k + 1, x0, x10 => if x10 = true then (some 2) else (if x0 ≥ 48 then (spinneyref02_Class.j2 k x0 (decide (x0 ≤ 57))) else (spinneyref02_Class.j2 k x0 false))
def spinneyref02_Class.j2 : Nat → Int → Bool → Option (Int)
  | 0, _, _ => none
  | k + 1, x0, x21 => if x21 = true then (some 3) else ((spinneyref02_among.f k x0 (⟨#[43, 45, 42, 47, 92, 94, 60, 62, 61, 126, 58, 46, 63, 64, 35, 38, 36]⟩ : ByteArray)).bind fun t135 => (if t135 = true then (some 4) else (if x0 = 9 then (spinneyref02_Class.j3 k x0 true) else (if x0 = 10 then (spinneyref02_Class.j3 k x0 true) else (if x0 = 13 then (spinneyref02_Class.j3 k x0 true) else (spinneyref02_Class.j3 k x0 (x0 == 32)))))))
def spinneyref02_Class.j3 : Nat → Int → Bool → Option (Int)
  | 0, _, _ => none
  | k + 1, x0, x31 => if x31 = true then (some 5) else ((spinneyref02_among.f k x0 (⟨#[33, 59, 44, 124]⟩ : ByteArray)).bind fun t136 => (if t136 = true then (some 6) else ((spinneyref02_among.f k x0 (⟨#[40, 41, 91, 93, 123, 125]⟩ : ByteArray)).bind fun t137 => (if t137 = true then (some 7) else (if x0 = 39 then (some 8) else (some 0))))))
end
def spinneyref02_Class.f (k : Nat) (a0 : Int) : Option (Int) := if a0 ≥ 97 then (spinneyref02_Class.j0 k a0 (decide (a0 ≤ 122))) else (spinneyref02_Class.j0 k a0 false)
theorem spinneyref02_Class.mono_l : ∀ k, (∀ y0 y1, LeO (spinneyref02_Class.j0 k y0 y1) (spinneyref02_Class.j0 (k + 1) y0 y1)) ∧ (∀ y0 y1, LeO (spinneyref02_Class.j1 k y0 y1) (spinneyref02_Class.j1 (k + 1) y0 y1)) ∧ (∀ y0 y1, LeO (spinneyref02_Class.j2 k y0 y1) (spinneyref02_Class.j2 (k + 1) y0 y1)) ∧ (∀ y0 y1, LeO (spinneyref02_Class.j3 k y0 y1) (spinneyref02_Class.j3 (k + 1) y0 y1))
  | 0 => ⟨fun _ _ r h => by simp [spinneyref02_Class.j0] at h, fun _ _ r h => by simp [spinneyref02_Class.j1] at h, fun _ _ r h => by simp [spinneyref02_Class.j2] at h, fun _ _ r h => by simp [spinneyref02_Class.j3] at h⟩
  | k + 1 => by
    obtain ⟨ih0, ih1, ih2, ih3⟩ := spinneyref02_Class.mono_l k
    refine ⟨?_, ?_, ?_, ?_⟩
    · intro y0 y1
      unfold spinneyref02_Class.j0
      repeat' first
      | (with_reducible exact ih0 _ _)
      | (with_reducible exact ih1 _ _)
      | (with_reducible exact ih2 _ _)
      | (with_reducible exact ih3 _ _)
      | (with_reducible exact spinneyref02_among.mono _ _ _)
      | (with_reducible exact LeO.refl _)
      | (with_reducible exact LeO.none _)
      | (with_reducible refine LeO.ite ?_ ?_)
      | (with_reducible refine LeO.bind ?_ (fun _ => ?_))
      | exact ih0 _ _
      | exact ih1 _ _
      | exact ih2 _ _
      | exact ih3 _ _
      | exact spinneyref02_among.mono _ _ _
      | exact LeO.none _
      | refine LeO.ite ?_ ?_
      | refine LeO.bind ?_ (fun _ => ?_)
    · intro y0 y1
      unfold spinneyref02_Class.j1
      repeat' first
      | (with_reducible exact ih0 _ _)
      | (with_reducible exact ih1 _ _)
      | (with_reducible exact ih2 _ _)
      | (with_reducible exact ih3 _ _)
      | (with_reducible exact spinneyref02_among.mono _ _ _)
      | (with_reducible exact LeO.refl _)
      | (with_reducible exact LeO.none _)
      | (with_reducible refine LeO.ite ?_ ?_)
      | (with_reducible refine LeO.bind ?_ (fun _ => ?_))
      | exact ih0 _ _
      | exact ih1 _ _
      | exact ih2 _ _
      | exact ih3 _ _
      | exact spinneyref02_among.mono _ _ _
      | exact LeO.none _
      | refine LeO.ite ?_ ?_
      | refine LeO.bind ?_ (fun _ => ?_)
    · intro y0 y1
      unfold spinneyref02_Class.j2
      repeat' first
      | (with_reducible exact ih0 _ _)
      | (with_reducible exact ih1 _ _)
      | (with_reducible exact ih2 _ _)
      | (with_reducible exact ih3 _ _)
      | (with_reducible exact spinneyref02_among.mono _ _ _)
      | (with_reducible exact LeO.refl _)
      | (with_reducible exact LeO.none _)
      | (with_reducible refine LeO.ite ?_ ?_)
      | (with_reducible refine LeO.bind ?_ (fun _ => ?_))
      | exact ih0 _ _
      | exact ih1 _ _
      | exact ih2 _ _
      | exact ih3 _ _
      | exact spinneyref02_among.mono _ _ _
      | exact LeO.none _
      | refine LeO.ite ?_ ?_
      | refine LeO.bind ?_ (fun _ => ?_)
    · intro y0 y1
      unfold spinneyref02_Class.j3
      repeat' first
      | (with_reducible exact ih0 _ _)
      | (with_reducible exact ih1 _ _)
      | (with_reducible exact ih2 _ _)
      | (with_reducible exact ih3 _ _)
      | (with_reducible exact spinneyref02_among.mono _ _ _)
      | (with_reducible exact LeO.refl _)
      | (with_reducible exact LeO.none _)
      | (with_reducible refine LeO.ite ?_ ?_)
      | (with_reducible refine LeO.bind ?_ (fun _ => ?_))
      | exact ih0 _ _
      | exact ih1 _ _
      | exact ih2 _ _
      | exact ih3 _ _
      | exact spinneyref02_among.mono _ _ _
      | exact LeO.none _
      | refine LeO.ite ?_ ?_
      | refine LeO.bind ?_ (fun _ => ?_)
theorem spinneyref02_Class.mono : ∀ a0 k, LeO (spinneyref02_Class.f k a0) (spinneyref02_Class.f (k + 1) a0) := by
  intro a0 k
  obtain ⟨ih0, ih1, ih2, ih3⟩ := spinneyref02_Class.mono_l k
  unfold spinneyref02_Class.f
  repeat' first
      | (with_reducible exact ih0 _ _)
      | (with_reducible exact ih1 _ _)
      | (with_reducible exact ih2 _ _)
      | (with_reducible exact ih3 _ _)
      | (with_reducible exact spinneyref02_among.mono _ _ _)
      | (with_reducible exact LeO.refl _)
      | (with_reducible exact LeO.none _)
      | (with_reducible refine LeO.ite ?_ ?_)
      | (with_reducible refine LeO.bind ?_ (fun _ => ?_))
      | exact ih0 _ _
      | exact ih1 _ _
      | exact ih2 _ _
      | exact ih3 _ _
      | exact spinneyref02_among.mono _ _ _
      | exact LeO.none _
      | refine LeO.ite ?_ ?_
      | refine LeO.bind ?_ (fun _ => ?_)
set_option maxHeartbeats 8000000 in
set_option maxRecDepth 100000 in
theorem spinneyref02_Class.calls (k : Nat) (a0 : Int) (r : Int) (w : World) (h : spinneyref02_Class.f k a0 = some r) :
    Calls Tryd.prog 42 #[.int .i32 a0] w fun e w' => e = .returned (.int .i64 r) ∧ Drawn0 w w' := by
  have H : (if a0 ≥ 97 then (spinneyref02_Class.j0 k a0 (decide (a0 ≤ 122))) else (spinneyref02_Class.j0 k a0 false)) = some r := h
  clear h
  have HC2 := Aside0.mk H
  clear H
  go_enter Tryd.func42, Tryd.ntmps42
  go_upto_region 1 with (fail)
  go_cut [3] (fun v3 wc => ∃ (kq : Nat) (x3_1 : Bool), v3 = .bool x3_1 ∧ Aside0 (spinneyref02_Class.j0 kq a0 x3_1 = some r) ∧ Aside0 (kq ≤ k) ∧ Drawn0 w wc)
  case first =>
    have H := HC2.out
    clear HC2
    by_cases c3 : a0 ≥ 97
    · rw [if_pos c3] at H
      have c3b0 : decide (97 ≤ a0) = true := decide_eq_true c3
      clear c3
      (first | rw [c3b0] | (simp only [i64_w, i32_w]; rw [c3b0]) | skip)
      have H' := Aside0.mk H
      clear H
      go_wp2
      go_meet
      case rel => exact ⟨_, (decide (a0 ≤ 122)), (by first | rfl | (simp; done) | (simp [*]; done)), H', ⟨by first | omega | exact Nat.le_refl _⟩, by repeat (first | exact Drawn0.refl _ | apply Drawn0.step)⟩
    · rw [if_neg c3] at H
      have c3b0 : decide (97 ≤ a0) = false := decide_eq_false c3
      clear c3
      (first | rw [c3b0] | (simp only [i64_w, i32_w]; rw [c3b0]) | skip)
      have H' := Aside0.mk H
      clear H
      go_wp2
      go_meet
      case rel => exact ⟨_, (false), (by first | rfl | (simp; done) | (simp [*]; done)), H', ⟨by first | omega | exact Nat.le_refl _⟩, by repeat (first | exact Drawn0.refl _ | apply Drawn0.step)⟩
  case rest =>
    clear HC2
    try clear p2
    try clear c3
    try clear c3b0
    obtain ⟨kq, x3_1, rfl, HA, HJ1, ⟨mc1, rfl⟩⟩ := hcut
    cases kq with
    | zero => exact absurd HA.out (by simp [spinneyref02_Class.j0])
    | succ kj1 =>
      have H := HA.out
      clear HA
      simp only [spinneyref02_Class.j0] at H
      by_cases c4 : x3_1 = true
      · subst c4
        have H1 : (some 1) = some r := by rw [if_pos rfl] at H; exact H
        clear H
        have H := H1
        clear H1
        obtain rfl := Option.some.inj H
        go_wp2
        go_ret
        exact ⟨by first | rfl | (simp; done) | (simp [*]; done), by repeat (first | exact Drawn0.refl _ | apply Drawn0.step)⟩
      · replace c4 := Bool.eq_false_iff.mpr c4
        subst c4
        have H1 : (if a0 ≥ 65 then (if a0 ≤ 90 then (spinneyref02_Class.j1 kj1 a0 true) else (spinneyref02_Class.j1 kj1 a0 (a0 == 95))) else (spinneyref02_Class.j1 kj1 a0 (a0 == 95))) = some r := by rw [if_neg (show ¬ (false = true) by decide)] at H; exact H
        clear H
        have H := H1
        clear H1
        have HC5 := Aside0.mk H
        clear H
        go_upto_region 3 with (fail)
        go_cut [10] (fun v10 wc => ∃ (kq : Nat) (x10_4 : Bool), v10 = .bool x10_4 ∧ Aside0 (spinneyref02_Class.j1 kq a0 x10_4 = some r) ∧ Aside0 (kq ≤ kj1) ∧ Drawn0 w wc)
        case first =>
          have H := HC5.out
          clear HC5
          by_cases c6 : a0 ≥ 65
          · rw [if_pos c6] at H
            have c6b0 : decide (65 ≤ a0) = true := decide_eq_true c6
            clear c6
            (first | rw [c6b0] | (simp only [i64_w, i32_w]; rw [c6b0]) | skip)
            by_cases c7 : a0 ≤ 90
            · rw [if_pos c7] at H
              have c7b0 : decide (a0 ≤ 90) = true := decide_eq_true c7
              clear c7
              have H' := Aside0.mk H
              clear H
              go_wp2
              go_meet
              case rel => exact ⟨_, (true), (by first | rfl | (simp; done) | (simp [*]; done)), H', ⟨by have := HJ1.out; first | omega | exact Nat.le_refl _⟩, by repeat (first | exact Drawn0.refl _ | apply Drawn0.step)⟩
            · rw [if_neg c7] at H
              have c7b0 : decide (a0 ≤ 90) = false := decide_eq_false c7
              clear c7
              have H' := Aside0.mk H
              clear H
              go_wp2
              go_meet
              case rel => exact ⟨_, ((a0 == 95)), (by first | rfl | (simp; done) | (simp [*]; done)), H', ⟨by have := HJ1.out; first | omega | exact Nat.le_refl _⟩, by repeat (first | exact Drawn0.refl _ | apply Drawn0.step)⟩
          · rw [if_neg c6] at H
            have c6b0 : decide (65 ≤ a0) = false := decide_eq_false c6
            clear c6
            (first | rw [c6b0] | (simp only [i64_w, i32_w]; rw [c6b0]) | skip)
            have H' := Aside0.mk H
            clear H
            go_wp2
            go_meet
            case rel => exact ⟨_, ((a0 == 95)), (by first | rfl | (simp; done) | (simp [*]; done)), H', ⟨by have := HJ1.out; first | omega | exact Nat.le_refl _⟩, by repeat (first | exact Drawn0.refl _ | apply Drawn0.step)⟩
        case rest =>
          clear HC5
          try clear c1
          try clear p2
          try clear c3
          try clear c3b0
          try clear c4
          try clear c6
          try clear c6b0
          try clear c7
          try clear c7b0
          try clear p2
          obtain ⟨kq, x10_4, rfl, HA, HJ4, ⟨mc4, rfl⟩⟩ := hcut
          cases kq with
          | zero => exact absurd HA.out (by simp [spinneyref02_Class.j1])
          | succ kj4 =>
            have H := HA.out
            clear HA
            simp only [spinneyref02_Class.j1] at H
            by_cases c8 : x10_4 = true
            · subst c8
              have H1 : (some 2) = some r := by rw [if_pos rfl] at H; exact H
              clear H
              have H := H1
              clear H1
              obtain rfl := Option.some.inj H
              go_wp2
              go_ret
              exact ⟨by first | rfl | (simp; done) | (simp [*]; done), by repeat (first | exact Drawn0.refl _ | apply Drawn0.step)⟩
            · replace c8 := Bool.eq_false_iff.mpr c8
              subst c8
              have H1 : (if a0 ≥ 48 then (spinneyref02_Class.j2 kj4 a0 (decide (a0 ≤ 57))) else (spinneyref02_Class.j2 kj4 a0 false)) = some r := by rw [if_neg (show ¬ (false = true) by decide)] at H; exact H
              clear H
              have H := H1
              clear H1
              have HC9 := Aside0.mk H
              clear H
              go_upto_region 5 with (fail)
              go_cut [21] (fun v21 wc => ∃ (kq : Nat) (x21_8 : Bool), v21 = .bool x21_8 ∧ Aside0 (spinneyref02_Class.j2 kq a0 x21_8 = some r) ∧ Aside0 (kq ≤ kj4) ∧ Drawn0 w wc)
              case first =>
                have H := HC9.out
                clear HC9
                by_cases c10 : a0 ≥ 48
                · rw [if_pos c10] at H
                  have c10b0 : decide (48 ≤ a0) = true := decide_eq_true c10
                  clear c10
                  (first | rw [c10b0] | (simp only [i64_w, i32_w]; rw [c10b0]) | skip)
                  have H' := Aside0.mk H
                  clear H
                  go_wp2
                  go_meet
                  case rel => exact ⟨_, (decide (a0 ≤ 57)), (by first | rfl | (simp; done) | (simp [*]; done)), H', ⟨by have := HJ1.out; have := HJ4.out; first | omega | exact Nat.le_refl _⟩, by repeat (first | exact Drawn0.refl _ | apply Drawn0.step)⟩
                · rw [if_neg c10] at H
                  have c10b0 : decide (48 ≤ a0) = false := decide_eq_false c10
                  clear c10
                  (first | rw [c10b0] | (simp only [i64_w, i32_w]; rw [c10b0]) | skip)
                  have H' := Aside0.mk H
                  clear H
                  go_wp2
                  go_meet
                  case rel => exact ⟨_, (false), (by first | rfl | (simp; done) | (simp [*]; done)), H', ⟨by have := HJ1.out; have := HJ4.out; first | omega | exact Nat.le_refl _⟩, by repeat (first | exact Drawn0.refl _ | apply Drawn0.step)⟩
              case rest =>
                clear HC9
                try clear c1
                try clear p2
                try clear c3
                try clear c3b0
                try clear c4
                try clear c6
                try clear c6b0
                try clear c7
                try clear c7b0
                try clear c8
                try clear c10
                try clear c10b0
                try clear p2
                obtain ⟨kq, x21_8, rfl, HA, HJ8, ⟨mc8, rfl⟩⟩ := hcut
                cases kq with
                | zero => exact absurd HA.out (by simp [spinneyref02_Class.j2])
                | succ kj8 =>
                  have H := HA.out
                  clear HA
                  simp only [spinneyref02_Class.j2] at H
                  by_cases c11 : x21_8 = true
                  · subst c11
                    have H1 : (some 3) = some r := by rw [if_pos rfl] at H; exact H
                    clear H
                    have H := H1
                    clear H1
                    obtain rfl := Option.some.inj H
                    go_wp2
                    go_ret
                    exact ⟨by first | rfl | (simp; done) | (simp [*]; done), by repeat (first | exact Drawn0.refl _ | apply Drawn0.step)⟩
                  · replace c11 := Bool.eq_false_iff.mpr c11
                    subst c11
                    have H1 : ((spinneyref02_among.f kj8 a0 (⟨#[43, 45, 42, 47, 92, 94, 60, 62, 61, 126, 58, 46, 63, 64, 35, 38, 36]⟩ : ByteArray)).bind fun t135 => (if t135 = true then (some 4) else (if a0 = 9 then (spinneyref02_Class.j3 kj8 a0 true) else (if a0 = 10 then (spinneyref02_Class.j3 kj8 a0 true) else (if a0 = 13 then (spinneyref02_Class.j3 kj8 a0 true) else (spinneyref02_Class.j3 kj8 a0 (a0 == 32))))))) = some r := by rw [if_neg (show ¬ (false = true) by decide)] at H; exact H
                    clear H
                    have H := H1
                    clear H1
                    replace H := Option.bind_eq_some_iff.mp H
                    obtain ⟨t135, A120, H⟩ := H
                    replace H : (if t135 = true then (some 4) else (if a0 = 9 then (spinneyref02_Class.j3 kj8 a0 true) else (if a0 = 10 then (spinneyref02_Class.j3 kj8 a0 true) else (if a0 = 13 then (spinneyref02_Class.j3 kj8 a0 true) else (spinneyref02_Class.j3 kj8 a0 (a0 == 32)))))) = some r := H
                    have A12 := Aside0.mk A120
                    clear A120
                    by_cases c13 : t135 = true
                    · subst c13
                      have H1 : (some 4) = some r := by rw [if_pos rfl] at H; exact H
                      clear H
                      have H := H1
                      clear H1
                      obtain rfl := Option.some.inj H
                      go_wp2_with (first | ((with_reducible refine gate_callee (f := 56) rfl ?_); refine goesL_ (some 30) rfl rfl Tryd.func56 (by kernel_rfl) rfl #[.int .i32 a0, .string (⟨#[43, 45, 42, 47, 92, 94, 60, 62, 61, 126, 58, 46, 63, 64, 35, 38, 36]⟩ : ByteArray)] rfl (by (try simp only [List.map_toArray, List.map_cons, List.map_nil]); first | done | rfl | (simp only [List.length_drop, List.length_take]; rfl)) ?_; (with_reducible refine (spinneyref02_among.calls kj8 a0 (⟨#[43, 45, 42, 47, 92, 94, 60, 62, 61, 126, 58, 46, 63, 64, 35, 38, 36]⟩ : ByteArray) true _ A12.out).mono ?_); rintro e w' ⟨rfl, ⟨nd, rfl⟩⟩; refine ⟨_, rfl, ?_⟩))
                      go_ret
                      exact ⟨by first | rfl | (simp; done) | (simp [*]; done), by repeat (first | exact Drawn0.refl _ | apply Drawn0.step)⟩
                    · replace c13 := Bool.eq_false_iff.mpr c13
                      subst c13
                      have H1 : (if a0 = 9 then (spinneyref02_Class.j3 kj8 a0 true) else (if a0 = 10 then (spinneyref02_Class.j3 kj8 a0 true) else (if a0 = 13 then (spinneyref02_Class.j3 kj8 a0 true) else (spinneyref02_Class.j3 kj8 a0 (a0 == 32))))) = some r := by rw [if_neg (show ¬ (false = true) by decide)] at H; exact H
                      clear H
                      have H := H1
                      clear H1
                      have HC14 := Aside0.mk H
                      clear H
                      go_upto_region 9 with (first | ((with_reducible refine gate_callee (f := 56) rfl ?_); refine goesL_ (some 30) rfl rfl Tryd.func56 (by kernel_rfl) rfl #[.int .i32 a0, .string (⟨#[43, 45, 42, 47, 92, 94, 60, 62, 61, 126, 58, 46, 63, 64, 35, 38, 36]⟩ : ByteArray)] rfl (by (try simp only [List.map_toArray, List.map_cons, List.map_nil]); first | done | rfl | (simp only [List.length_drop, List.length_take]; rfl)) ?_; (with_reducible refine (spinneyref02_among.calls kj8 a0 (⟨#[43, 45, 42, 47, 92, 94, 60, 62, 61, 126, 58, 46, 63, 64, 35, 38, 36]⟩ : ByteArray) false _ A12.out).mono ?_); rintro e w' ⟨rfl, ⟨nd, rfl⟩⟩; refine ⟨_, rfl, ?_⟩))
                      (try simp only [Act.put, List.setIfInBounds_toArray, List.set_cons_zero, List.set_cons_succ])
                      go_cut [31] (fun v31 wc => ∃ (kq : Nat) (x31_13 : Bool), v31 = .bool x31_13 ∧ Aside0 (spinneyref02_Class.j3 kq a0 x31_13 = some r) ∧ Aside0 (kq ≤ kj8) ∧ Drawn0 w wc)
                      case first =>
                        have H := HC14.out
                        clear HC14
                        by_cases c15 : a0 = 9
                        · rw [if_pos c15] at H
                          have c15b0 : (a0 == 9) = true := beq_iff_eq.mpr c15
                          have c15b1 : (a0 != 9) = false := bne_eq_false_iff_eq.mpr c15
                          clear c15
                          (first | rw [c15b0] | (simp only [i64_w, i32_w]; rw [c15b0]) | skip)
                          have H' := Aside0.mk H
                          clear H
                          go_wp2
                          go_meet
                          case rel => exact ⟨_, (true), (by first | rfl | (simp; done) | (simp [*]; done)), H', ⟨by have := HJ1.out; have := HJ4.out; have := HJ8.out; first | omega | exact Nat.le_refl _⟩, by repeat (first | exact Drawn0.refl _ | apply Drawn0.step)⟩
                        · rw [if_neg c15] at H
                          have c15b0 : (a0 == 9) = false := beq_eq_false_iff_ne.mpr c15
                          have c15b1 : (a0 != 9) = true := bne_iff_ne.mpr c15
                          (first | rw [c15b0] | (simp only [i64_w, i32_w]; rw [c15b0]) | skip)
                          by_cases c16 : a0 = 10
                          · rw [if_pos c16] at H
                            have c16b0 : (a0 == 10) = true := beq_iff_eq.mpr c16
                            have c16b1 : (a0 != 10) = false := bne_eq_false_iff_eq.mpr c16
                            clear c16
                            have H' := Aside0.mk H
                            clear H
                            go_wp2
                            go_meet
                            case rel => exact ⟨_, (true), (by first | rfl | (simp; done) | (simp [*]; done)), H', ⟨by have := HJ1.out; have := HJ4.out; have := HJ8.out; first | omega | exact Nat.le_refl _⟩, by repeat (first | exact Drawn0.refl _ | apply Drawn0.step)⟩
                          · rw [if_neg c16] at H
                            have c16b0 : (a0 == 10) = false := beq_eq_false_iff_ne.mpr c16
                            have c16b1 : (a0 != 10) = true := bne_iff_ne.mpr c16
                            by_cases c17 : a0 = 13
                            · rw [if_pos c17] at H
                              have c17b0 : (a0 == 13) = true := beq_iff_eq.mpr c17
                              have c17b1 : (a0 != 13) = false := bne_eq_false_iff_eq.mpr c17
                              clear c17
                              have H' := Aside0.mk H
                              clear H
                              go_wp2
                              go_meet
                              case rel => exact ⟨_, (true), (by first | rfl | (simp; done) | (simp [*]; done)), H', ⟨by have := HJ1.out; have := HJ4.out; have := HJ8.out; first | omega | exact Nat.le_refl _⟩, by repeat (first | exact Drawn0.refl _ | apply Drawn0.step)⟩
                            · rw [if_neg c17] at H
                              have c17b0 : (a0 == 13) = false := beq_eq_false_iff_ne.mpr c17
                              have c17b1 : (a0 != 13) = true := bne_iff_ne.mpr c17
                              have H' := Aside0.mk H
                              clear H
                              go_wp2
                              go_meet
                              case rel => exact ⟨_, ((a0 == 32)), (by first | rfl | (simp; done) | (simp [*]; done)), H', ⟨by have := HJ1.out; have := HJ4.out; have := HJ8.out; first | omega | exact Nat.le_refl _⟩, by repeat (first | exact Drawn0.refl _ | apply Drawn0.step)⟩
                      case rest =>
                        clear HC14
                        try clear c1
                        try clear p2
                        try clear c3
                        try clear c3b0
                        try clear c4
                        try clear c5
                        try clear c6
                        try clear c6b0
                        try clear c7
                        try clear c7b0
                        try clear c8
                        try clear c10
                        try clear c10b0
                        try clear c11
                        try clear c13
                        try clear c15
                        try clear c15b0
                        try clear c15b1
                        try clear c16
                        try clear c16b0
                        try clear c16b1
                        try clear c17
                        try clear c17b0
                        try clear c17b1
                        try clear p2
                        obtain ⟨kq, x31_13, rfl, HA, HJ13, ⟨mc13, rfl⟩⟩ := hcut
                        cases kq with
                        | zero => exact absurd HA.out (by simp [spinneyref02_Class.j3])
                        | succ kj13 =>
                          have H := HA.out
                          clear HA
                          simp only [spinneyref02_Class.j3] at H
                          by_cases c18 : x31_13 = true
                          · subst c18
                            have H1 : (some 5) = some r := by rw [if_pos rfl] at H; exact H
                            clear H
                            have H := H1
                            clear H1
                            obtain rfl := Option.some.inj H
                            go_wp2
                            go_ret
                            exact ⟨by first | rfl | (simp; done) | (simp [*]; done), by repeat (first | exact Drawn0.refl _ | apply Drawn0.step)⟩
                          · replace c18 := Bool.eq_false_iff.mpr c18
                            subst c18
                            have H1 : ((spinneyref02_among.f kj13 a0 (⟨#[33, 59, 44, 124]⟩ : ByteArray)).bind fun t136 => (if t136 = true then (some 6) else ((spinneyref02_among.f kj13 a0 (⟨#[40, 41, 91, 93, 123, 125]⟩ : ByteArray)).bind fun t137 => (if t137 = true then (some 7) else (if a0 = 39 then (some 8) else (some 0)))))) = some r := by rw [if_neg (show ¬ (false = true) by decide)] at H; exact H
                            clear H
                            have H := H1
                            clear H1
                            replace H := Option.bind_eq_some_iff.mp H
                            obtain ⟨t136, A190, H⟩ := H
                            replace H : (if t136 = true then (some 6) else ((spinneyref02_among.f kj13 a0 (⟨#[40, 41, 91, 93, 123, 125]⟩ : ByteArray)).bind fun t137 => (if t137 = true then (some 7) else (if a0 = 39 then (some 8) else (some 0))))) = some r := H
                            have A19 := Aside0.mk A190
                            clear A190
                            by_cases c20 : t136 = true
                            · subst c20
                              have H1 : (some 6) = some r := by rw [if_pos rfl] at H; exact H
                              clear H
                              have H := H1
                              clear H1
                              obtain rfl := Option.some.inj H
                              go_wp2_with (first | ((with_reducible refine gate_callee (f := 56) rfl ?_); refine goesL_ (some 48) rfl rfl Tryd.func56 (by kernel_rfl) rfl #[.int .i32 a0, .string (⟨#[33, 59, 44, 124]⟩ : ByteArray)] rfl (by (try simp only [List.map_toArray, List.map_cons, List.map_nil]); first | done | rfl | (simp only [List.length_drop, List.length_take]; rfl)) ?_; (with_reducible refine (spinneyref02_among.calls kj13 a0 (⟨#[33, 59, 44, 124]⟩ : ByteArray) true _ A19.out).mono ?_); rintro e w' ⟨rfl, ⟨nd, rfl⟩⟩; refine ⟨_, rfl, ?_⟩))
                              go_ret
                              exact ⟨by first | rfl | (simp; done) | (simp [*]; done), by repeat (first | exact Drawn0.refl _ | apply Drawn0.step)⟩
                            · replace c20 := Bool.eq_false_iff.mpr c20
                              subst c20
                              have H1 : ((spinneyref02_among.f kj13 a0 (⟨#[40, 41, 91, 93, 123, 125]⟩ : ByteArray)).bind fun t137 => (if t137 = true then (some 7) else (if a0 = 39 then (some 8) else (some 0)))) = some r := by rw [if_neg (show ¬ (false = true) by decide)] at H; exact H
                              clear H
                              have H := H1
                              clear H1
                              replace H := Option.bind_eq_some_iff.mp H
                              obtain ⟨t137, A210, H⟩ := H
                              replace H : (if t137 = true then (some 7) else (if a0 = 39 then (some 8) else (some 0))) = some r := H
                              have A21 := Aside0.mk A210
                              clear A210
                              by_cases c22 : t137 = true
                              · subst c22
                                have H1 : (some 7) = some r := by rw [if_pos rfl] at H; exact H
                                clear H
                                have H := H1
                                clear H1
                                obtain rfl := Option.some.inj H
                                go_wp2_with (first | ((with_reducible refine gate_callee (f := 56) rfl ?_); refine goesL_ (some 48) rfl rfl Tryd.func56 (by kernel_rfl) rfl #[.int .i32 a0, .string (⟨#[33, 59, 44, 124]⟩ : ByteArray)] rfl (by (try simp only [List.map_toArray, List.map_cons, List.map_nil]); first | done | rfl | (simp only [List.length_drop, List.length_take]; rfl)) ?_; (with_reducible refine (spinneyref02_among.calls kj13 a0 (⟨#[33, 59, 44, 124]⟩ : ByteArray) false _ A19.out).mono ?_); rintro e w' ⟨rfl, ⟨nd, rfl⟩⟩; refine ⟨_, rfl, ?_⟩) | ((with_reducible refine gate_callee (f := 56) rfl ?_); refine goesL_ (some 51) rfl rfl Tryd.func56 (by kernel_rfl) rfl #[.int .i32 a0, .string (⟨#[40, 41, 91, 93, 123, 125]⟩ : ByteArray)] rfl (by (try simp only [List.map_toArray, List.map_cons, List.map_nil]); first | done | rfl | (simp only [List.length_drop, List.length_take]; rfl)) ?_; (with_reducible refine (spinneyref02_among.calls kj13 a0 (⟨#[40, 41, 91, 93, 123, 125]⟩ : ByteArray) true _ A21.out).mono ?_); rintro e w' ⟨rfl, ⟨nd, rfl⟩⟩; refine ⟨_, rfl, ?_⟩))
                                go_ret
                                exact ⟨by first | rfl | (simp; done) | (simp [*]; done), by repeat (first | exact Drawn0.refl _ | apply Drawn0.step)⟩
                              · replace c22 := Bool.eq_false_iff.mpr c22
                                subst c22
                                have H1 : (if a0 = 39 then (some 8) else (some 0)) = some r := by rw [if_neg (show ¬ (false = true) by decide)] at H; exact H
                                clear H
                                have H := H1
                                clear H1
                                by_cases c23 : a0 = 39
                                · rw [if_pos c23] at H
                                  have c23b0 : (a0 == 39) = true := beq_iff_eq.mpr c23
                                  have c23b1 : (a0 != 39) = false := bne_eq_false_iff_eq.mpr c23
                                  clear c23
                                  obtain rfl := Option.some.inj H
                                  go_wp2_with (first | ((with_reducible refine gate_callee (f := 56) rfl ?_); refine goesL_ (some 48) rfl rfl Tryd.func56 (by kernel_rfl) rfl #[.int .i32 a0, .string (⟨#[33, 59, 44, 124]⟩ : ByteArray)] rfl (by (try simp only [List.map_toArray, List.map_cons, List.map_nil]); first | done | rfl | (simp only [List.length_drop, List.length_take]; rfl)) ?_; (with_reducible refine (spinneyref02_among.calls kj13 a0 (⟨#[33, 59, 44, 124]⟩ : ByteArray) false _ A19.out).mono ?_); rintro e w' ⟨rfl, ⟨nd, rfl⟩⟩; refine ⟨_, rfl, ?_⟩) | ((with_reducible refine gate_callee (f := 56) rfl ?_); refine goesL_ (some 51) rfl rfl Tryd.func56 (by kernel_rfl) rfl #[.int .i32 a0, .string (⟨#[40, 41, 91, 93, 123, 125]⟩ : ByteArray)] rfl (by (try simp only [List.map_toArray, List.map_cons, List.map_nil]); first | done | rfl | (simp only [List.length_drop, List.length_take]; rfl)) ?_; (with_reducible refine (spinneyref02_among.calls kj13 a0 (⟨#[40, 41, 91, 93, 123, 125]⟩ : ByteArray) false _ A21.out).mono ?_); rintro e w' ⟨rfl, ⟨nd, rfl⟩⟩; refine ⟨_, rfl, ?_⟩))
                                  go_ret
                                  exact ⟨by first | rfl | (simp; done) | (simp [*]; done), by repeat (first | exact Drawn0.refl _ | apply Drawn0.step)⟩
                                · rw [if_neg c23] at H
                                  have c23b0 : (a0 == 39) = false := beq_eq_false_iff_ne.mpr c23
                                  have c23b1 : (a0 != 39) = true := bne_iff_ne.mpr c23
                                  obtain rfl := Option.some.inj H
                                  go_wp2_with (first | ((with_reducible refine gate_callee (f := 56) rfl ?_); refine goesL_ (some 48) rfl rfl Tryd.func56 (by kernel_rfl) rfl #[.int .i32 a0, .string (⟨#[33, 59, 44, 124]⟩ : ByteArray)] rfl (by (try simp only [List.map_toArray, List.map_cons, List.map_nil]); first | done | rfl | (simp only [List.length_drop, List.length_take]; rfl)) ?_; (with_reducible refine (spinneyref02_among.calls kj13 a0 (⟨#[33, 59, 44, 124]⟩ : ByteArray) false _ A19.out).mono ?_); rintro e w' ⟨rfl, ⟨nd, rfl⟩⟩; refine ⟨_, rfl, ?_⟩) | ((with_reducible refine gate_callee (f := 56) rfl ?_); refine goesL_ (some 51) rfl rfl Tryd.func56 (by kernel_rfl) rfl #[.int .i32 a0, .string (⟨#[40, 41, 91, 93, 123, 125]⟩ : ByteArray)] rfl (by (try simp only [List.map_toArray, List.map_cons, List.map_nil]); first | done | rfl | (simp only [List.length_drop, List.length_take]; rfl)) ?_; (with_reducible refine (spinneyref02_among.calls kj13 a0 (⟨#[40, 41, 91, 93, 123, 125]⟩ : ByteArray) false _ A21.out).mono ?_); rintro e w' ⟨rfl, ⟨nd, rfl⟩⟩; refine ⟨_, rfl, ?_⟩))
                                  go_ret
                                  exact ⟨by first | rfl | (simp; done) | (simp [*]; done), by repeat (first | exact Drawn0.refl _ | apply Drawn0.step)⟩

end Go.Proofs.YtjichkjnodabiaaDoor.P
