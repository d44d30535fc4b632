-- PRINTED by a program of this session over the kit's print.py.
import Derived.Test.YtkniiinpkchjoaaDoorPx0
import Derived.Test.YtkniiinpkchjoaaDoorPx1
import Derived.Test.YtkniiinpkchjoaaDoorPx2
import Derived.Test.YtkniiinpkchjoaaDoorPx3
import Derived.Test.YtkniiinpkchjoaaDoorPx4
import Derived.Test.YtkniiinpkchjoaaDoorPx8
namespace Go.Proofs.YtkniiinpkchjoaaDoor.P
open Go.Own Go.RowKit Go.Proofs.YtkniiinpkchjoaaDoorW.PrintWords Go.Proofs.YtkniiinpkchjoaaDoorW.PrintLast Go.Proofs.YtkniiinpkchjoaaDoorW.PrintMore
attribute [local go_sem] max2_int min2_int max_two min_two max_three min_three max_four min_four   -- for this text's walks alone
set_option linter.unusedVariables false
set_option linter.unusedSimpArgs false

/-! ### spinneylaw02_live: function 11 -/
def spinneylaw02_live.f (k : Nat)  : Option (Bool) := (char_Read.f (⟨#[39, 97, 39, 39, 98, 39, 32, 120]⟩ : ByteArray)).bind fun bt109 => ((char_Write.f (⟨#[102, 111, 111]⟩ : ByteArray)).bind fun t112 => (if t112.toList = ([102, 111, 111] : List UInt8) then ((char_Write.f (⟨#[70, 111, 111]⟩ : ByteArray)).bind fun t113 => (if t113.toList = ([39, 70, 111, 111, 39] : List UInt8) then ((char_Write.f (⟨#[105, 116, 39, 115]⟩ : ByteArray)).bind fun t114 => (if t114.toList = ([39, 105, 116, 92, 39, 115, 39] : List UInt8) then ((char_Write.f (⟨#[]⟩ : ByteArray)).bind fun t115 => (if t115.toList = ([39, 39] : List UInt8) then (if bt109.1.toList = ([97, 39, 98] : List UInt8) then (if bt109.2.1 = 6 then (if bt109.2.2 = 0 then ((char_Class.f k 97).bind fun t116 => (if t116 = 1 then ((char_Bare.f (⟨#[61]⟩ : ByteArray)).bind fun t117 => (if t117 = true then ((char_Check.f (⟨#[]⟩ : ByteArray)).bind fun t118 => (some t118)) else (none))) else (none))) else (none)) else (none)) else (none)) else (none))) else (none))) else (none))) else (none)))
theorem spinneylaw02_live.mono : ∀ k, LeO (spinneylaw02_live.f k ) (spinneylaw02_live.f (k + 1) ) := by
  intro  k
  unfold spinneylaw02_live.f
  repeat' first
      | (with_reducible exact char_Class.mono _ _)
      | (with_reducible exact LeO.refl _)
      | (with_reducible exact LeO.none _)
      | (with_reducible refine LeO.ite ?_ ?_)
      | (with_reducible refine LeO.bind ?_ (fun _ => ?_))
      | exact char_Class.mono _ _
      | exact LeO.none _
      | refine LeO.ite ?_ ?_
      | refine LeO.bind ?_ (fun _ => ?_)
set_option maxHeartbeats 8000000 in
set_option maxRecDepth 100000 in
theorem spinneylaw02_live.calls (k : Nat)  (r : Bool) (w : World) (h : spinneylaw02_live.f k  = some r) (hT : Tabs w) :
    Calls Tryd.prog 11 #[] w fun e w' => e = .returned (.bool r) ∧ Below w.heap.size w w' := by
  have HT := Aside0.mk hT
  clear hT
  have HB := Aside0.mk (Below.refl w.heap.size w)
  have H : ((char_Read.f (⟨#[39, 97, 39, 39, 98, 39, 32, 120]⟩ : ByteArray)).bind fun bt109 => ((char_Write.f (⟨#[102, 111, 111]⟩ : ByteArray)).bind fun t112 => (if t112.toList = ([102, 111, 111] : List UInt8) then ((char_Write.f (⟨#[70, 111, 111]⟩ : ByteArray)).bind fun t113 => (if t113.toList = ([39, 70, 111, 111, 39] : List UInt8) then ((char_Write.f (⟨#[105, 116, 39, 115]⟩ : ByteArray)).bind fun t114 => (if t114.toList = ([39, 105, 116, 92, 39, 115, 39] : List UInt8) then ((char_Write.f (⟨#[]⟩ : ByteArray)).bind fun t115 => (if t115.toList = ([39, 39] : List UInt8) then (if bt109.1.toList = ([97, 39, 98] : List UInt8) then (if bt109.2.1 = 6 then (if bt109.2.2 = 0 then ((char_Class.f k 97).bind fun t116 => (if t116 = 1 then ((char_Bare.f (⟨#[61]⟩ : ByteArray)).bind fun t117 => (if t117 = true then ((char_Check.f (⟨#[]⟩ : ByteArray)).bind fun t118 => (some t118)) else (none))) else (none))) else (none)) else (none)) else (none)) else (none))) else (none))) else (none))) else (none)))) = some r := h
  clear h
  replace H := Option.bind_eq_some_iff.mp H
  obtain ⟨⟨t109, t110, t111⟩, A10, H⟩ := H
  replace H : ((char_Write.f (⟨#[102, 111, 111]⟩ : ByteArray)).bind fun t112 => (if t112.toList = ([102, 111, 111] : List UInt8) then ((char_Write.f (⟨#[70, 111, 111]⟩ : ByteArray)).bind fun t113 => (if t113.toList = ([39, 70, 111, 111, 39] : List UInt8) then ((char_Write.f (⟨#[105, 116, 39, 115]⟩ : ByteArray)).bind fun t114 => (if t114.toList = ([39, 105, 116, 92, 39, 115, 39] : List UInt8) then ((char_Write.f (⟨#[]⟩ : ByteArray)).bind fun t115 => (if t115.toList = ([39, 39] : List UInt8) then (if t109.toList = ([97, 39, 98] : List UInt8) then (if t110 = 6 then (if t111 = 0 then ((char_Class.f k 97).bind fun t116 => (if t116 = 1 then ((char_Bare.f (⟨#[61]⟩ : ByteArray)).bind fun t117 => (if t117 = true then ((char_Check.f (⟨#[]⟩ : ByteArray)).bind fun t118 => (some t118)) else (none))) else (none))) else (none)) else (none)) else (none)) else (none))) else (none))) else (none))) else (none))) = some r := H
  have A1 := Aside0.mk A10
  clear A10
  replace H := Option.bind_eq_some_iff.mp H
  obtain ⟨t112, A20, H⟩ := H
  replace H : (if t112.toList = ([102, 111, 111] : List UInt8) then ((char_Write.f (⟨#[70, 111, 111]⟩ : ByteArray)).bind fun t113 => (if t113.toList = ([39, 70, 111, 111, 39] : List UInt8) then ((char_Write.f (⟨#[105, 116, 39, 115]⟩ : ByteArray)).bind fun t114 => (if t114.toList = ([39, 105, 116, 92, 39, 115, 39] : List UInt8) then ((char_Write.f (⟨#[]⟩ : ByteArray)).bind fun t115 => (if t115.toList = ([39, 39] : List UInt8) then (if t109.toList = ([97, 39, 98] : List UInt8) then (if t110 = 6 then (if t111 = 0 then ((char_Class.f k 97).bind fun t116 => (if t116 = 1 then ((char_Bare.f (⟨#[61]⟩ : ByteArray)).bind fun t117 => (if t117 = true then ((char_Check.f (⟨#[]⟩ : ByteArray)).bind fun t118 => (some t118)) else (none))) else (none))) else (none)) else (none)) else (none)) else (none))) else (none))) else (none))) else (none)) = some r := H
  have A2 := Aside0.mk A20
  clear A20
  by_cases c3 : t112.toList = ([102, 111, 111] : List UInt8)
  · rw [if_pos c3] at H
    have c3b0 : (t112.toList == ([102, 111, 111] : List UInt8)) = true := beq_iff_eq.mpr c3
    have c3b1 : (t112.toList != ([102, 111, 111] : List UInt8)) = false := bne_eq_false_iff_eq.mpr c3
    clear c3
    replace H := Option.bind_eq_some_iff.mp H
    obtain ⟨t113, A40, H⟩ := H
    replace H : (if t113.toList = ([39, 70, 111, 111, 39] : List UInt8) then ((char_Write.f (⟨#[105, 116, 39, 115]⟩ : ByteArray)).bind fun t114 => (if t114.toList = ([39, 105, 116, 92, 39, 115, 39] : List UInt8) then ((char_Write.f (⟨#[]⟩ : ByteArray)).bind fun t115 => (if t115.toList = ([39, 39] : List UInt8) then (if t109.toList = ([97, 39, 98] : List UInt8) then (if t110 = 6 then (if t111 = 0 then ((char_Class.f k 97).bind fun t116 => (if t116 = 1 then ((char_Bare.f (⟨#[61]⟩ : ByteArray)).bind fun t117 => (if t117 = true then ((char_Check.f (⟨#[]⟩ : ByteArray)).bind fun t118 => (some t118)) else (none))) else (none))) else (none)) else (none)) else (none)) else (none))) else (none))) else (none)) = some r := H
    have A4 := Aside0.mk A40
    clear A40
    by_cases c5 : t113.toList = ([39, 70, 111, 111, 39] : List UInt8)
    · rw [if_pos c5] at H
      have c5b0 : (t113.toList == ([39, 70, 111, 111, 39] : List UInt8)) = true := beq_iff_eq.mpr c5
      have c5b1 : (t113.toList != ([39, 70, 111, 111, 39] : List UInt8)) = false := bne_eq_false_iff_eq.mpr c5
      clear c5
      replace H := Option.bind_eq_some_iff.mp H
      obtain ⟨t114, A60, H⟩ := H
      replace H : (if t114.toList = ([39, 105, 116, 92, 39, 115, 39] : List UInt8) then ((char_Write.f (⟨#[]⟩ : ByteArray)).bind fun t115 => (if t115.toList = ([39, 39] : List UInt8) then (if t109.toList = ([97, 39, 98] : List UInt8) then (if t110 = 6 then (if t111 = 0 then ((char_Class.f k 97).bind fun t116 => (if t116 = 1 then ((char_Bare.f (⟨#[61]⟩ : ByteArray)).bind fun t117 => (if t117 = true then ((char_Check.f (⟨#[]⟩ : ByteArray)).bind fun t118 => (some t118)) else (none))) else (none))) else (none)) else (none)) else (none)) else (none))) else (none)) = some r := H
      have A6 := Aside0.mk A60
      clear A60
      by_cases c7 : t114.toList = ([39, 105, 116, 92, 39, 115, 39] : List UInt8)
      · rw [if_pos c7] at H
        have c7b0 : (t114.toList == ([39, 105, 116, 92, 39, 115, 39] : List UInt8)) = true := beq_iff_eq.mpr c7
        have c7b1 : (t114.toList != ([39, 105, 116, 92, 39, 115, 39] : List UInt8)) = false := bne_eq_false_iff_eq.mpr c7
        clear c7
        replace H := Option.bind_eq_some_iff.mp H
        obtain ⟨t115, A80, H⟩ := H
        replace H : (if t115.toList = ([39, 39] : List UInt8) then (if t109.toList = ([97, 39, 98] : List UInt8) then (if t110 = 6 then (if t111 = 0 then ((char_Class.f k 97).bind fun t116 => (if t116 = 1 then ((char_Bare.f (⟨#[61]⟩ : ByteArray)).bind fun t117 => (if t117 = true then ((char_Check.f (⟨#[]⟩ : ByteArray)).bind fun t118 => (some t118)) else (none))) else (none))) else (none)) else (none)) else (none)) else (none)) = some r := H
        have A8 := Aside0.mk A80
        clear A80
        by_cases c9 : t115.toList = ([39, 39] : List UInt8)
        · rw [if_pos c9] at H
          have c9b0 : (t115.toList == ([39, 39] : List UInt8)) = true := beq_iff_eq.mpr c9
          have c9b1 : (t115.toList != ([39, 39] : List UInt8)) = false := bne_eq_false_iff_eq.mpr c9
          clear c9
          by_cases c10 : t109.toList = ([97, 39, 98] : List UInt8)
          · rw [if_pos c10] at H
            have c10b0 : (t109.toList == ([97, 39, 98] : List UInt8)) = true := beq_iff_eq.mpr c10
            have c10b1 : (t109.toList != ([97, 39, 98] : List UInt8)) = false := bne_eq_false_iff_eq.mpr c10
            clear c10
            by_cases c11 : t110 = 6
            · rw [if_pos c11] at H
              have c11b0 : (t110 == 6) = true := beq_iff_eq.mpr c11
              have c11b1 : (t110 != 6) = false := bne_eq_false_iff_eq.mpr c11
              clear c11
              by_cases c12 : t111 = 0
              · rw [if_pos c12] at H
                have c12b0 : (t111 == 0) = true := beq_iff_eq.mpr c12
                have c12b1 : (t111 != 0) = false := bne_eq_false_iff_eq.mpr c12
                clear c12
                replace H := Option.bind_eq_some_iff.mp H
                obtain ⟨t116, A130, H⟩ := H
                replace H : (if t116 = 1 then ((char_Bare.f (⟨#[61]⟩ : ByteArray)).bind fun t117 => (if t117 = true then ((char_Check.f (⟨#[]⟩ : ByteArray)).bind fun t118 => (some t118)) else (none))) else (none)) = some r := H
                have A13 := Aside0.mk A130
                clear A130
                by_cases c14 : t116 = 1
                · rw [if_pos c14] at H
                  have c14b0 : (t116 == 1) = true := beq_iff_eq.mpr c14
                  have c14b1 : (t116 != 1) = false := bne_eq_false_iff_eq.mpr c14
                  clear c14
                  replace H := Option.bind_eq_some_iff.mp H
                  obtain ⟨t117, A150, H⟩ := H
                  replace H : (if t117 = true then ((char_Check.f (⟨#[]⟩ : ByteArray)).bind fun t118 => (some t118)) else (none)) = some r := H
                  have A15 := Aside0.mk A150
                  clear A150
                  by_cases c16 : t117 = true
                  · subst c16
                    have H1 : ((char_Check.f (⟨#[]⟩ : ByteArray)).bind fun t118 => (some t118)) = some r := by rw [if_pos rfl] at H; exact H
                    clear H
                    have H := H1
                    clear H1
                    replace H := Option.bind_eq_some_iff.mp H
                    obtain ⟨t118, A170, H⟩ := H
                    replace H : (some t118) = some r := H
                    have A17 := Aside0.mk A170
                    clear A170
                    obtain rfl := Option.some.inj H
                    go_enter Tryd.func11, Tryd.ntmps11
                    go_wp2_with (first | ((with_reducible refine gate_callee (f := 17) rfl ?_); refine goesL_ (some 5) rfl rfl Tryd.func17 (by kernel_rfl) rfl #[.string (⟨#[39, 97, 39, 39, 98, 39, 32, 120]⟩ : ByteArray)] rfl (by (try simp only [List.map_toArray, List.map_cons, List.map_nil]); first | done | rfl | (simp only [List.length_drop, List.length_take]; rfl)) ?_; (with_reducible refine (char_Read.calls (⟨#[39, 97, 39, 39, 98, 39, 32, 120]⟩ : ByteArray) t109 t110 t111 _ A1.out (HT.out.below (by first | exact Below.refl _ _ | (repeat (first | (with_reducible first | exact HB.out | apply below_alloc | apply pw_below_drewN | apply below_drew1) | exact HB.out))))).mono ?_); rintro e w18 ⟨rfl, hb⟩; refine ⟨_, rfl, ?_⟩; have n0_ := Aside0.mk (below_step (by repeat (first | (with_reducible first | exact HB.out | apply below_alloc | apply pw_below_drewN | apply below_drew1) | exact HB.out)) hb); clear HB; have HB := n0_; clear n0_; (try clear hb); (try clear hb2); (try clear hk); (try clear hi)) | ((with_reducible refine gate_callee (f := 16) rfl ?_); refine goesL_ (some 9) rfl rfl Tryd.func16 (by kernel_rfl) rfl #[.string (⟨#[102, 111, 111]⟩ : ByteArray)] rfl (by (try simp only [List.map_toArray, List.map_cons, List.map_nil]); first | done | rfl | (simp only [List.length_drop, List.length_take]; rfl)) ?_; (with_reducible refine (char_Write.calls (⟨#[102, 111, 111]⟩ : ByteArray) t112 _ A2.out (HT.out.below (by first | exact Below.refl _ _ | (repeat (first | (with_reducible first | exact HB.out | apply below_alloc | apply pw_below_drewN | apply below_drew1) | exact HB.out))))).mono ?_); rintro e w19 ⟨rfl, hb⟩; refine ⟨_, rfl, ?_⟩; have n0_ := Aside0.mk (below_step (by repeat (first | (with_reducible first | exact HB.out | apply below_alloc | apply pw_below_drewN | apply below_drew1) | exact HB.out)) hb); clear HB; have HB := n0_; clear n0_; (try clear hb); (try clear hb2); (try clear hk); (try clear hi)) | (go_at_call 16; (with_reducible refine (char_Write.calls (⟨#[70, 111, 111]⟩ : ByteArray) t113 _ A4.out (HT.out.below (by first | exact Below.refl _ _ | (repeat (first | (with_reducible first | exact HB.out | apply below_alloc | apply pw_below_drewN | apply below_drew1) | exact HB.out))))).mono ?_); rintro e w20 ⟨rfl, hb⟩; have n0_ := Aside0.mk (below_step (by repeat (first | (with_reducible first | exact HB.out | apply below_alloc | apply pw_below_drewN | apply below_drew1) | exact HB.out)) hb); clear HB; have HB := n0_; clear n0_; (try clear hb); (try clear hb2); (try clear hk); (try clear hi)) | (go_at_call 16; (with_reducible refine (char_Write.calls (⟨#[105, 116, 39, 115]⟩ : ByteArray) t114 _ A6.out (HT.out.below (by first | exact Below.refl _ _ | (repeat (first | (with_reducible first | exact HB.out | apply below_alloc | apply pw_below_drewN | apply below_drew1) | exact HB.out))))).mono ?_); rintro e w21 ⟨rfl, hb⟩; have n0_ := Aside0.mk (below_step (by repeat (first | (with_reducible first | exact HB.out | apply below_alloc | apply pw_below_drewN | apply below_drew1) | exact HB.out)) hb); clear HB; have HB := n0_; clear n0_; (try clear hb); (try clear hb2); (try clear hk); (try clear hi)) | (go_at_call 16; (with_reducible refine (char_Write.calls (⟨#[]⟩ : ByteArray) t115 _ A8.out (HT.out.below (by first | exact Below.refl _ _ | (repeat (first | (with_reducible first | exact HB.out | apply below_alloc | apply pw_below_drewN | apply below_drew1) | exact HB.out))))).mono ?_); rintro e w22 ⟨rfl, hb⟩; have n0_ := Aside0.mk (below_step (by repeat (first | (with_reducible first | exact HB.out | apply below_alloc | apply pw_below_drewN | apply below_drew1) | exact HB.out)) hb); clear HB; have HB := n0_; clear n0_; (try clear hb); (try clear hb2); (try clear hk); (try clear hi)) | (go_at_call 12; (with_reducible refine (char_Class.calls k 97 t116 _ A13.out).mono ?_); rintro e w' ⟨rfl, ⟨nd, rfl⟩⟩) | (go_at_call 15; (with_reducible refine (char_Bare.calls (⟨#[61]⟩ : ByteArray) true _ A15.out).mono ?_); rintro e w23 ⟨rfl, hb⟩; have n0_ := Aside0.mk (below_step (by repeat (first | (with_reducible first | exact HB.out | apply below_alloc | apply pw_below_drewN | apply below_drew1) | exact HB.out)) hb); clear HB; have HB := n0_; clear n0_; (try clear hb); (try clear hb2); (try clear hk); (try clear hi)) | (go_at_call 14; (with_reducible refine (char_Check.calls (⟨#[]⟩ : ByteArray) t118 _ A17.out (HT.out.below (by first | exact Below.refl _ _ | (repeat (first | (with_reducible first | exact HB.out | apply below_alloc | apply pw_below_drewN | apply below_drew1) | exact HB.out))))).mono ?_); rintro e w24 ⟨rfl, hb⟩; have n0_ := Aside0.mk (below_step (by repeat (first | (with_reducible first | exact HB.out | apply below_alloc | apply pw_below_drewN | apply below_drew1) | exact HB.out)) hb); clear HB; have HB := n0_; clear n0_; (try clear hb); (try clear hb2); (try clear hk); (try clear hi)))
                    go_ret
                    exact ⟨by first | rfl | (simp [errW_none, errW_some] <;> rfl) | (simp [*, errW_none, errW_some] <;> rfl), by repeat (first | (with_reducible first | exact HB.out | apply below_alloc | apply pw_below_drewN | apply below_drew1) | exact HB.out)⟩
                  · replace c16 := Bool.eq_false_iff.mpr c16
                    subst c16
                    have H1 : (none) = some r := by rw [if_neg (show ¬ (false = true) by decide)] at H; exact H
                    clear H
                    have H := H1
                    clear H1
                    exact absurd H (by simp)
                · rw [if_neg c14] at H
                  exact absurd H (by simp)
              · rw [if_neg c12] at H
                exact absurd H (by simp)
            · rw [if_neg c11] at H
              exact absurd H (by simp)
          · rw [if_neg c10] at H
            exact absurd H (by simp)
        · rw [if_neg c9] at H
          exact absurd H (by simp)
      · rw [if_neg c7] at H
        exact absurd H (by simp)
    · rw [if_neg c5] at H
      exact absurd H (by simp)
  · rw [if_neg c3] at H
    exact absurd H (by simp)

/-! ### spinneyref02_among: function 22 -/
def spinneyref02_among.l0 : Nat → Int → ByteArray → Int → Option (Bool)
  | 0, _, _, _ => none
  | k + 1, x0, x1, x5 => if x5 < (x1.size : Int) then (if 0 ≤ x5 then (if x0 = (wrap32 (bt x1 x5)) then (some true) else (spinneyref02_among.l0 k x0 x1 (wrap64 (x5 + 1)))) else (none)) else (some false)
def spinneyref02_among.f (k : Nat) (a0 : Int) (a1 : ByteArray) : Option (Bool) := spinneyref02_among.l0 k a0 a1 0
theorem spinneyref02_among.mono_l : ∀ k, (∀ y0 y1 y2, LeO (spinneyref02_among.l0 k y0 y1 y2) (spinneyref02_among.l0 (k + 1) y0 y1 y2))
  | 0 => fun _ _ _ r h => by simp [spinneyref02_among.l0] at h
  | k + 1 => by
    have ih0 := spinneyref02_among.mono_l k
    · intro y0 y1 y2
      unfold spinneyref02_among.l0
      repeat' first
      | (with_reducible exact ih0 _ _ _)
      | (with_reducible exact LeO.refl _)
      | (with_reducible exact LeO.none _)
      | (with_reducible refine LeO.ite ?_ ?_)
      | (with_reducible refine LeO.bind ?_ (fun _ => ?_))
      | exact ih0 _ _ _
      | exact LeO.none _
      | refine LeO.ite ?_ ?_
      | refine LeO.bind ?_ (fun _ => ?_)
theorem spinneyref02_among.mono : ∀ a0 a1 k, LeO (spinneyref02_among.f k a0 a1) (spinneyref02_among.f (k + 1) a0 a1) := by
  intro a0 a1 k
  have ih0 := spinneyref02_among.mono_l k
  unfold spinneyref02_among.f
  repeat' first
      | (with_reducible exact ih0 _ _ _)
      | (with_reducible exact LeO.refl _)
      | (with_reducible exact LeO.none _)
      | (with_reducible refine LeO.ite ?_ ?_)
      | (with_reducible refine LeO.bind ?_ (fun _ => ?_))
      | exact ih0 _ _ _
      | exact LeO.none _
      | refine LeO.ite ?_ ?_
      | refine LeO.bind ?_ (fun _ => ?_)
set_option maxHeartbeats 8000000 in
set_option maxRecDepth 100000 in
theorem spinneyref02_among.calls (k : Nat) (a0 : Int) (a1 : ByteArray) (r : Bool) (w : World) (h : spinneyref02_among.f k a0 a1 = some r) :
    Calls Tryd.prog 22 #[.int .i32 a0, .string a1] w fun e w' => e = .returned (.bool r) ∧ Drawn0 w w' := by
  have H : (spinneyref02_among.l0 k a0 a1 0) = some r := h
  clear h
  have H' := Aside0.mk H
  clear H
  go_enter Tryd.func22, Tryd.ntmps22
  go_wp2
  go_loopg [5] k (fun kq v5 w' => ∃ (x5_1 : Int), v5 = .int .i64 x5_1 ∧ Aside0 (spinneyref02_among.l0 kq a0 a1 x5_1 = some r) ∧ Aside0 (kq ≤ k) ∧ Drawn0 w w')
  case atStart => exact ⟨(0), (by first | rfl | (simp; done) | (simp [*]; done)), H', ⟨Nat.le_refl _⟩, by repeat (first | exact Drawn0.refl _ | apply Drawn0.step)⟩
  case round =>
    clear H'
    try clear c2
    try clear p2
    obtain ⟨x5_1, rfl, HA, HK1, ⟨m1, rfl⟩⟩ := hrel
    cases gk with
    | zero => exact absurd HA.out (by simp [spinneyref02_among.l0])
    | succ k1 =>
      have H := HA.out
      clear HA
      simp only [spinneyref02_among.l0] at H
      by_cases c3 : x5_1 < (a1.size : Int)
      · rw [if_pos c3] at H
        have c3b0 : decide (x5_1 < (a1.size : Int)) = true := decide_eq_true c3
        clear c3
        by_cases c4 : 0 ≤ x5_1
        · rw [if_pos c4] at H
          have c4b0 : decide (0 ≤ x5_1) = true := decide_eq_true c4
          clear c4
          by_cases c6 : a0 = (wrap32 (bt a1 x5_1))
          · rw [if_pos c6] at H
            have c6b0 : (a0 == (wrap32 (bt a1 x5_1))) = true := beq_iff_eq.mpr c6
            have c6b1 : (a0 != (wrap32 (bt a1 x5_1))) = false := bne_eq_false_iff_eq.mpr c6
            clear c6
            obtain rfl := Option.some.inj H
            have p5 : 0 ≤ (x5_1 : Int) := of_decide_eq_true (by first | (with_reducible assumption) | assumption)
            have q5 : x5_1 < (a1.size : Int) := of_decide_eq_true (by first | (with_reducible assumption) | assumption)
            have hx5 := bt_at a1 x5_1
            replace p5 := eq_true p5
            replace q5 := eq_true q5
            go_wp2
            go_ret
            exact ⟨by first | rfl | (simp; done) | (simp [*]; done), by repeat (first | exact Drawn0.refl _ | apply Drawn0.step)⟩
          · rw [if_neg c6] at H
            have c6b0 : (a0 == (wrap32 (bt a1 x5_1))) = false := beq_eq_false_iff_ne.mpr c6
            have c6b1 : (a0 != (wrap32 (bt a1 x5_1))) = true := bne_iff_ne.mpr c6
            have H' := Aside0.mk H
            clear H
            have p5 : 0 ≤ (x5_1 : Int) := of_decide_eq_true (by first | (with_reducible assumption) | assumption)
            have q5 : x5_1 < (a1.size : Int) := of_decide_eq_true (by first | (with_reducible assumption) | assumption)
            have hx5 := bt_at a1 x5_1
            replace p5 := eq_true p5
            replace q5 := eq_true q5
            go_wp2
            go_roundg k1
            case measure => have := HK1.out; omega
            case rel => exact ⟨(wrap64 (x5_1 + 1)), (by first | rfl | (simp; done) | (simp [*]; done)), H', ⟨by have := HK1.out; omega⟩, by repeat (first | exact Drawn0.refl _ | apply Drawn0.step)⟩
        · rw [if_neg c4] at H
          exact absurd H (by simp)
      · rw [if_neg c3] at H
        have c3b0 : decide (x5_1 < (a1.size : Int)) = false := decide_eq_false c3
        clear c3
        obtain rfl := Option.some.inj H
        go_wp2
        go_ret
        exact ⟨by first | rfl | (simp; done) | (simp [*]; done), by repeat (first | exact Drawn0.refl _ | apply Drawn0.step)⟩

end Go.Proofs.YtkniiinpkchjoaaDoor.P
