-- PRINTED by a program of this session over the kit's print.py.
import Derived.Test.YtkniiinpkchjoaaDoorPx0
import Derived.Test.YtkniiinpkchjoaaDoorPx2
import Derived.Test.YtkniiinpkchjoaaDoorPx3
import Derived.Test.YtkniiinpkchjoaaDoorPx4
import Derived.Test.YtkniiinpkchjoaaDoorPx8
import Derived.Test.YtkniiinpkchjoaaDoorPx9
namespace Go.Proofs.YtkniiinpkchjoaaDoor.P
open Go.Own Go.RowKit Go.Proofs.YtkniiinpkchjoaaDoorW.PrintWords Go.Proofs.YtkniiinpkchjoaaDoorW.PrintLast Go.Proofs.YtkniiinpkchjoaaDoorW.PrintMore
attribute [local go_sem] max2_int min2_int max_two min_two max_three min_three max_four min_four   -- for this text's walks alone
set_option linter.unusedVariables false
set_option linter.unusedSimpArgs false

/-! ### spinneylaw02_CharAgain: function 7 -/
def spinneylaw02_CharAgain.j0 : Nat → Bool → ByteArray → Bool → Option (Bool)
  | 0, _, _, _ => none
  | k + 1, x3, x4, x39 => if x39 = true then (none) else ((char_Check.f x4).bind fun t143 => (if t143 = true then ((char_Bare.f x4).bind fun t144 => (if t144 = true then (some x3) else ((char_Write.f x4).bind fun t145 => ((char_Read.f t145).bind fun bt146 => (if x3 = true then (if bt146.2.2 = 0 then (if bt146.1.toList = x4.toList then (some (bt146.2.1 == (t145.size : Int))) else (none)) else (none)) else (none)))))) else (if x3 = true then (some (decide ((x4.size : Int) > 255))) else (none))))
def spinneylaw02_CharAgain.f (k : Nat) (a0 : ByteArray) : Option (Bool) := (spinneylaw02_live.f k).bind fun t139 => (if (a0.size : Int) > 100000 then (some t139) else ((char_Read.f a0).bind fun bt140 => (if bt140.2.2 = 0 then (if bt140.2.1 < 2 then (spinneylaw02_CharAgain.j0 k t139 bt140.1 true) else (spinneylaw02_CharAgain.j0 k t139 bt140.1 (decide (bt140.2.1 > (a0.size : Int))))) else (if t139 = true then (if bt140.1.toList = ([] : List UInt8) then (some (bt140.2.1 == 0)) else (none)) else (none)))))
theorem spinneylaw02_CharAgain.mono_l : ∀ k, (∀ y0 y1 y2, LeO (spinneylaw02_CharAgain.j0 k y0 y1 y2) (spinneylaw02_CharAgain.j0 (k + 1) y0 y1 y2))
  | 0 => fun _ _ _ r h => by simp [spinneylaw02_CharAgain.j0] at h
  | k + 1 => by
    have ih0 := spinneylaw02_CharAgain.mono_l k
    · intro y0 y1 y2
      unfold spinneylaw02_CharAgain.j0
      repeat' first
      | (with_reducible exact ih0 _ _ _)
      | (with_reducible exact spinneylaw02_live.mono _)
      | (with_reducible exact LeO.refl _)
      | (with_reducible exact LeO.none _)
      | (with_reducible refine LeO.ite ?_ ?_)
      | (with_reducible refine LeO.bind ?_ (fun _ => ?_))
      | exact ih0 _ _ _
      | exact spinneylaw02_live.mono _
      | exact LeO.none _
      | refine LeO.ite ?_ ?_
      | refine LeO.bind ?_ (fun _ => ?_)
theorem spinneylaw02_CharAgain.mono : ∀ a0 k, LeO (spinneylaw02_CharAgain.f k a0) (spinneylaw02_CharAgain.f (k + 1) a0) := by
  intro a0 k
  have ih0 := spinneylaw02_CharAgain.mono_l k
  unfold spinneylaw02_CharAgain.f
  repeat' first
      | (with_reducible exact ih0 _ _ _)
      | (with_reducible exact spinneylaw02_live.mono _)
      | (with_reducible exact LeO.refl _)
      | (with_reducible exact LeO.none _)
      | (with_reducible refine LeO.ite ?_ ?_)
      | (with_reducible refine LeO.bind ?_ (fun _ => ?_))
      | exact ih0 _ _ _
      | exact spinneylaw02_live.mono _
      | exact LeO.none _
      | refine LeO.ite ?_ ?_
      | refine LeO.bind ?_ (fun _ => ?_)
set_option maxHeartbeats 8000000 in
set_option maxRecDepth 100000 in
theorem spinneylaw02_CharAgain.calls (k : Nat) (a0 : ByteArray) (r : Bool) (w : World) (h : spinneylaw02_CharAgain.f k a0 = some r) (hT : Tabs w) :
    Calls Tryd.prog 7 #[.string a0] w fun e w' => e = .returned (.bool r) ∧ Below w.heap.size w w' := by
  have HT := Aside0.mk hT
  clear hT
  have HB := Aside0.mk (Below.refl w.heap.size w)
  have H : ((spinneylaw02_live.f k).bind fun t139 => (if (a0.size : Int) > 100000 then (some t139) else ((char_Read.f a0).bind fun bt140 => (if bt140.2.2 = 0 then (if bt140.2.1 < 2 then (spinneylaw02_CharAgain.j0 k t139 bt140.1 true) else (spinneylaw02_CharAgain.j0 k t139 bt140.1 (decide (bt140.2.1 > (a0.size : Int))))) else (if t139 = true then (if bt140.1.toList = ([] : List UInt8) then (some (bt140.2.1 == 0)) else (none)) else (none)))))) = some r := h
  clear h
  replace H := Option.bind_eq_some_iff.mp H
  obtain ⟨t139, A20, H⟩ := H
  replace H : (if (a0.size : Int) > 100000 then (some t139) else ((char_Read.f a0).bind fun bt140 => (if bt140.2.2 = 0 then (if bt140.2.1 < 2 then (spinneylaw02_CharAgain.j0 k t139 bt140.1 true) else (spinneylaw02_CharAgain.j0 k t139 bt140.1 (decide (bt140.2.1 > (a0.size : Int))))) else (if t139 = true then (if bt140.1.toList = ([] : List UInt8) then (some (bt140.2.1 == 0)) else (none)) else (none))))) = some r := H
  have A2 := Aside0.mk A20
  clear A20
  by_cases c3 : (a0.size : Int) > 100000
  · rw [if_pos c3] at H
    have c3b0 : decide (100000 < (a0.size : Int)) = true := decide_eq_true c3
    have c3b1 : decide (100000 < a0.size) = true := decide_eq_true (by omega)
    clear c3
    obtain rfl := Option.some.inj H
    go_enter Tryd.func7, Tryd.ntmps7
    go_wp2_with (first | ((with_reducible refine gate_callee (f := 11) rfl ?_); refine goesL_ (some 10) rfl rfl Tryd.func11 (by kernel_rfl) rfl #[] rfl (by (try simp only [List.map_toArray, List.map_cons, List.map_nil]); first | done | rfl | (simp only [List.length_drop, List.length_take]; rfl)) ?_; (with_reducible refine (spinneylaw02_live.calls k  t139 _ A2.out (HT.out.below (by first | exact Below.refl _ _ | (repeat (first | (with_reducible first | exact HB.out | apply below_alloc | apply pw_below_drewN | apply below_drew1) | exact HB.out))))).mono ?_); rintro e w4 ⟨rfl, hb⟩; refine ⟨_, rfl, ?_⟩; have n0_ := Aside0.mk (below_step (by repeat (first | (with_reducible first | exact HB.out | apply below_alloc | apply pw_below_drewN | apply below_drew1) | exact HB.out)) hb); clear HB; have HB := n0_; clear n0_; (try clear hb); (try clear hb2); (try clear hk); (try clear hi)) | (go_at_call 11; (with_reducible refine (spinneylaw02_live.calls k  t139 _ A2.out (HT.out.below (by first | exact Below.refl _ _ | (repeat (first | (with_reducible first | exact HB.out | apply below_alloc | apply pw_below_drewN | apply below_drew1) | exact HB.out))))).mono ?_); rintro e w4 ⟨rfl, hb⟩; have n0_ := Aside0.mk (below_step (by repeat (first | (with_reducible first | exact HB.out | apply below_alloc | apply pw_below_drewN | apply below_drew1) | exact HB.out)) hb); clear HB; have HB := n0_; clear n0_; (try clear hb); (try clear hb2); (try clear hk); (try clear hi)))
    go_ret
    exact ⟨by first | rfl | (simp [errW_none, errW_some] <;> rfl) | (simp [*, errW_none, errW_some] <;> rfl), by repeat (first | (with_reducible first | exact HB.out | apply below_alloc | apply pw_below_drewN | apply below_drew1) | exact HB.out)⟩
  · rw [if_neg c3] at H
    have c3b0 : decide (100000 < (a0.size : Int)) = false := decide_eq_false c3
    have c3b1 : decide (100000 < a0.size) = false := decide_eq_false (by omega)
    clear c3
    replace H := Option.bind_eq_some_iff.mp H
    obtain ⟨⟨t140, t141, t142⟩, A50, H⟩ := H
    replace H : (if t142 = 0 then (if t141 < 2 then (spinneylaw02_CharAgain.j0 k t139 t140 true) else (spinneylaw02_CharAgain.j0 k t139 t140 (decide (t141 > (a0.size : Int))))) else (if t139 = true then (if t140.toList = ([] : List UInt8) then (some (t141 == 0)) else (none)) else (none))) = some r := H
    have A5 := Aside0.mk A50
    clear A50
    by_cases c6 : t142 = 0
    · rw [if_pos c6] at H
      have c6b0 : (t142 == 0) = true := beq_iff_eq.mpr c6
      have c6b1 : (t142 != 0) = false := bne_eq_false_iff_eq.mpr c6
      clear c6
      have HC7 := Aside0.mk H
      clear H
      go_enter Tryd.func7, Tryd.ntmps7
      go_upto_region 7 with (first | ((with_reducible refine gate_callee (f := 11) rfl ?_); refine goesL_ (some 10) rfl rfl Tryd.func11 (by kernel_rfl) rfl #[] rfl (by (try simp only [List.map_toArray, List.map_cons, List.map_nil]); first | done | rfl | (simp only [List.length_drop, List.length_take]; rfl)) ?_; (with_reducible refine (spinneylaw02_live.calls k  t139 _ A2.out (HT.out.below (by first | exact Below.refl _ _ | (repeat (first | (with_reducible first | exact HB.out | apply below_alloc | apply pw_below_drewN | apply below_drew1) | exact HB.out))))).mono ?_); rintro e w8 ⟨rfl, hb⟩; refine ⟨_, rfl, ?_⟩; have n0_ := Aside0.mk (below_step (by repeat (first | (with_reducible first | exact HB.out | apply below_alloc | apply pw_below_drewN | apply below_drew1) | exact HB.out)) hb); clear HB; have HB := n0_; clear n0_; (try clear hb); (try clear hb2); (try clear hk); (try clear hi)) | ((with_reducible refine gate_callee (f := 17) rfl ?_); refine goesL_ (some 17) rfl rfl Tryd.func17 (by kernel_rfl) rfl #[.string a0] rfl (by (try simp only [List.map_toArray, List.map_cons, List.map_nil]); first | done | rfl | (simp only [List.length_drop, List.length_take]; rfl)) ?_; (with_reducible refine (char_Read.calls a0 t140 t141 t142 _ A5.out (HT.out.below (by first | exact Below.refl _ _ | (repeat (first | (with_reducible first | exact HB.out | apply below_alloc | apply pw_below_drewN | apply below_drew1) | exact HB.out))))).mono ?_); rintro e w9 ⟨rfl, hb⟩; refine ⟨_, rfl, ?_⟩; have n0_ := Aside0.mk (below_step (by repeat (first | (with_reducible first | exact HB.out | apply below_alloc | apply pw_below_drewN | apply below_drew1) | exact HB.out)) hb); clear HB; have HB := n0_; clear n0_; (try clear hb); (try clear hb2); (try clear hk); (try clear hi)))
      (try simp only [Act.put, List.setIfInBounds_toArray, List.set_cons_zero, List.set_cons_succ])
      go_cut [39] (fun v39 wc => ∃ (kq : Nat) (x39_6 : Bool), v39 = .bool x39_6 ∧ Aside0 (spinneylaw02_CharAgain.j0 kq t139 t140 x39_6 = some r) ∧ Aside0 (kq ≤ k) ∧ Aside0 (Below w.heap.size w wc))
      case first =>
        have H := HC7.out
        clear HC7
        by_cases c10 : t141 < 2
        · rw [if_pos c10] at H
          have c10b0 : decide (t141 < 2) = true := decide_eq_true c10
          clear c10
          (first | rw [c10b0] | (simp only [i64_w, i32_w]; rw [c10b0]) | skip)
          have H' := Aside0.mk H
          clear H
          go_wp2
          go_meet
          case rel => exact ⟨_, (true), (by first | rfl | (simp; done) | (simp [*]; done)), H', ⟨by first | omega | exact Nat.le_refl _⟩, ⟨by repeat (first | (with_reducible first | exact HB.out | apply below_alloc | apply pw_below_drewN | apply below_drew1) | exact HB.out)⟩⟩
        · rw [if_neg c10] at H
          have c10b0 : decide (t141 < 2) = false := decide_eq_false c10
          clear c10
          (first | rw [c10b0] | (simp only [i64_w, i32_w]; rw [c10b0]) | skip)
          have H' := Aside0.mk H
          clear H
          go_wp2
          go_meet
          case rel => exact ⟨_, (decide (t141 > (a0.size : Int))), (by first | rfl | (simp; done) | (simp [*]; done)), H', ⟨by first | omega | exact Nat.le_refl _⟩, ⟨by repeat (first | (with_reducible first | exact HB.out | apply below_alloc | apply pw_below_drewN | apply below_drew1) | exact HB.out)⟩⟩
      case rest =>
        clear HC7
        try clear c1
        try clear p2
        try clear c3
        try clear c3b0
        try clear c3b1
        try clear c6
        try clear c6b0
        try clear c6b1
        try clear c7
        try clear c10
        try clear c10b0
        obtain ⟨kq, x39_6, rfl, HA, HJ6, HB⟩ := hcut
        cases kq with
        | zero => exact absurd HA.out (by simp [spinneylaw02_CharAgain.j0])
        | succ kj6 =>
          have H := HA.out
          clear HA
          simp only [spinneylaw02_CharAgain.j0] at H
          by_cases c11 : x39_6 = true
          · subst c11
            have H1 : (none) = some r := by rw [if_pos rfl] at H; exact H
            clear H
            have H := H1
            clear H1
            exact absurd H (by simp)
          · replace c11 := Bool.eq_false_iff.mpr c11
            subst c11
            have H1 : ((char_Check.f t140).bind fun t143 => (if t143 = true then ((char_Bare.f t140).bind fun t144 => (if t144 = true then (some t139) else ((char_Write.f t140).bind fun t145 => ((char_Read.f t145).bind fun bt146 => (if t139 = true then (if bt146.2.2 = 0 then (if bt146.1.toList = t140.toList then (some (bt146.2.1 == (t145.size : Int))) else (none)) else (none)) else (none)))))) else (if t139 = true then (some (decide ((t140.size : Int) > 255))) else (none)))) = some r := by rw [if_neg (show ¬ (false = true) by decide)] at H; exact H
            clear H
            have H := H1
            clear H1
            replace H := Option.bind_eq_some_iff.mp H
            obtain ⟨t143, A120, H⟩ := H
            replace H : (if t143 = true then ((char_Bare.f t140).bind fun t144 => (if t144 = true then (some t139) else ((char_Write.f t140).bind fun t145 => ((char_Read.f t145).bind fun bt146 => (if t139 = true then (if bt146.2.2 = 0 then (if bt146.1.toList = t140.toList then (some (bt146.2.1 == (t145.size : Int))) else (none)) else (none)) else (none)))))) else (if t139 = true then (some (decide ((t140.size : Int) > 255))) else (none))) = some r := H
            have A12 := Aside0.mk A120
            clear A120
            by_cases c13 : t143 = true
            · subst c13
              have H1 : ((char_Bare.f t140).bind fun t144 => (if t144 = true then (some t139) else ((char_Write.f t140).bind fun t145 => ((char_Read.f t145).bind fun bt146 => (if t139 = true then (if bt146.2.2 = 0 then (if bt146.1.toList = t140.toList then (some (bt146.2.1 == (t145.size : Int))) else (none)) else (none)) else (none)))))) = some r := by rw [if_pos rfl] at H; exact H
              clear H
              have H := H1
              clear H1
              replace H := Option.bind_eq_some_iff.mp H
              obtain ⟨t144, A140, H⟩ := H
              replace H : (if t144 = true then (some t139) else ((char_Write.f t140).bind fun t145 => ((char_Read.f t145).bind fun bt146 => (if t139 = true then (if bt146.2.2 = 0 then (if bt146.1.toList = t140.toList then (some (bt146.2.1 == (t145.size : Int))) else (none)) else (none)) else (none))))) = some r := H
              have A14 := Aside0.mk A140
              clear A140
              by_cases c15 : t144 = true
              · subst c15
                have H1 : (some t139) = some r := by rw [if_pos rfl] at H; exact H
                clear H
                have H := H1
                clear H1
                obtain rfl := Option.some.inj H
                go_wp2_with (first | ((with_reducible refine gate_callee (f := 14) rfl ?_); refine goesL_ (some 41) rfl rfl Tryd.func14 (by kernel_rfl) rfl #[.string t140] rfl (by (try simp only [List.map_toArray, List.map_cons, List.map_nil]); first | done | rfl | (simp only [List.length_drop, List.length_take]; rfl)) ?_; (with_reducible refine (char_Check.calls t140 true _ A12.out (HT.out.below (by first | exact Below.refl _ _ | (repeat (first | (with_reducible first | exact HB.out | apply below_alloc | apply pw_below_drewN | apply below_drew1) | exact HB.out))))).mono ?_); rintro e w16 ⟨rfl, hb⟩; refine ⟨_, rfl, ?_⟩; have n0_ := Aside0.mk (below_step (by repeat (first | (with_reducible first | exact HB.out | apply below_alloc | apply pw_below_drewN | apply below_drew1) | exact HB.out)) hb); clear HB; have HB := n0_; clear n0_; (try clear hb); (try clear hb2); (try clear hk); (try clear hi)) | ((with_reducible refine gate_callee (f := 15) rfl ?_); refine goesL_ (some 50) rfl rfl Tryd.func15 (by kernel_rfl) rfl #[.string t140] rfl (by (try simp only [List.map_toArray, List.map_cons, List.map_nil]); first | done | rfl | (simp only [List.length_drop, List.length_take]; rfl)) ?_; (with_reducible refine (char_Bare.calls t140 true _ A14.out).mono ?_); rintro e w17 ⟨rfl, hb⟩; refine ⟨_, rfl, ?_⟩; have n0_ := Aside0.mk (below_step (by repeat (first | (with_reducible first | exact HB.out | apply below_alloc | apply pw_below_drewN | apply below_drew1) | exact HB.out)) hb); clear HB; have HB := n0_; clear n0_; (try clear hb); (try clear hb2); (try clear hk); (try clear hi)) | (go_at_call 14; (with_reducible refine (char_Check.calls t140 true _ A12.out (HT.out.below (by first | exact Below.refl _ _ | (repeat (first | (with_reducible first | exact HB.out | apply below_alloc | apply pw_below_drewN | apply below_drew1) | exact HB.out))))).mono ?_); rintro e w16 ⟨rfl, hb⟩; have n0_ := Aside0.mk (below_step (by repeat (first | (with_reducible first | exact HB.out | apply below_alloc | apply pw_below_drewN | apply below_drew1) | exact HB.out)) hb); clear HB; have HB := n0_; clear n0_; (try clear hb); (try clear hb2); (try clear hk); (try clear hi)) | (go_at_call 15; (with_reducible refine (char_Bare.calls t140 true _ A14.out).mono ?_); rintro e w17 ⟨rfl, hb⟩; have n0_ := Aside0.mk (below_step (by repeat (first | (with_reducible first | exact HB.out | apply below_alloc | apply pw_below_drewN | apply below_drew1) | exact HB.out)) hb); clear HB; have HB := n0_; clear n0_; (try clear hb); (try clear hb2); (try clear hk); (try clear hi)))
                go_ret
                exact ⟨by first | rfl | (simp [errW_none, errW_some] <;> rfl) | (simp [*, errW_none, errW_some] <;> rfl), by repeat (first | (with_reducible first | exact HB.out | apply below_alloc | apply pw_below_drewN | apply below_drew1) | exact HB.out)⟩
              · replace c15 := Bool.eq_false_iff.mpr c15
                subst c15
                have H1 : ((char_Write.f t140).bind fun t145 => ((char_Read.f t145).bind fun bt146 => (if t139 = true then (if bt146.2.2 = 0 then (if bt146.1.toList = t140.toList then (some (bt146.2.1 == (t145.size : Int))) else (none)) else (none)) else (none)))) = some r := by rw [if_neg (show ¬ (false = true) by decide)] at H; exact H
                clear H
                have H := H1
                clear H1
                replace H := Option.bind_eq_some_iff.mp H
                obtain ⟨t145, A180, H⟩ := H
                replace H : ((char_Read.f t145).bind fun bt146 => (if t139 = true then (if bt146.2.2 = 0 then (if bt146.1.toList = t140.toList then (some (bt146.2.1 == (t145.size : Int))) else (none)) else (none)) else (none))) = some r := H
                have A18 := Aside0.mk A180
                clear A180
                replace H := Option.bind_eq_some_iff.mp H
                obtain ⟨⟨t146, t147, t148⟩, A190, H⟩ := H
                replace H : (if t139 = true then (if t148 = 0 then (if t146.toList = t140.toList then (some (t147 == (t145.size : Int))) else (none)) else (none)) else (none)) = some r := H
                have A19 := Aside0.mk A190
                clear A190
                by_cases c20 : t139 = true
                · subst c20
                  have H1 : (if t148 = 0 then (if t146.toList = t140.toList then (some (t147 == (t145.size : Int))) else (none)) else (none)) = some r := by rw [if_pos rfl] at H; exact H
                  clear H
                  have H := H1
                  clear H1
                  by_cases c21 : t148 = 0
                  · rw [if_pos c21] at H
                    have c21b0 : (t148 == 0) = true := beq_iff_eq.mpr c21
                    have c21b1 : (t148 != 0) = false := bne_eq_false_iff_eq.mpr c21
                    clear c21
                    by_cases c22 : t146.toList = t140.toList
                    · rw [if_pos c22] at H
                      have c22b0 : (t146.toList == t140.toList) = true := beq_iff_eq.mpr c22
                      have c22b1 : (t146.toList != t140.toList) = false := bne_eq_false_iff_eq.mpr c22
                      clear c22
                      obtain rfl := Option.some.inj H
                      go_wp2_with (first | ((with_reducible refine gate_callee (f := 14) rfl ?_); refine goesL_ (some 41) rfl rfl Tryd.func14 (by kernel_rfl) rfl #[.string t140] rfl (by (try simp only [List.map_toArray, List.map_cons, List.map_nil]); first | done | rfl | (simp only [List.length_drop, List.length_take]; rfl)) ?_; (with_reducible refine (char_Check.calls t140 true _ A12.out (HT.out.below (by first | exact Below.refl _ _ | (repeat (first | (with_reducible first | exact HB.out | apply below_alloc | apply pw_below_drewN | apply below_drew1) | exact HB.out))))).mono ?_); rintro e w23 ⟨rfl, hb⟩; refine ⟨_, rfl, ?_⟩; have n0_ := Aside0.mk (below_step (by repeat (first | (with_reducible first | exact HB.out | apply below_alloc | apply pw_below_drewN | apply below_drew1) | exact HB.out)) hb); clear HB; have HB := n0_; clear n0_; (try clear hb); (try clear hb2); (try clear hk); (try clear hi)) | ((with_reducible refine gate_callee (f := 15) rfl ?_); refine goesL_ (some 50) rfl rfl Tryd.func15 (by kernel_rfl) rfl #[.string t140] rfl (by (try simp only [List.map_toArray, List.map_cons, List.map_nil]); first | done | rfl | (simp only [List.length_drop, List.length_take]; rfl)) ?_; (with_reducible refine (char_Bare.calls t140 false _ A14.out).mono ?_); rintro e w24 ⟨rfl, hb⟩; refine ⟨_, rfl, ?_⟩; have n0_ := Aside0.mk (below_step (by repeat (first | (with_reducible first | exact HB.out | apply below_alloc | apply pw_below_drewN | apply below_drew1) | exact HB.out)) hb); clear HB; have HB := n0_; clear n0_; (try clear hb); (try clear hb2); (try clear hk); (try clear hi)) | ((with_reducible refine gate_callee (f := 16) rfl ?_); refine goesL_ (some 54) rfl rfl Tryd.func16 (by kernel_rfl) rfl #[.string t140] rfl (by (try simp only [List.map_toArray, List.map_cons, List.map_nil]); first | done | rfl | (simp only [List.length_drop, List.length_take]; rfl)) ?_; (with_reducible refine (char_Write.calls t140 t145 _ A18.out (HT.out.below (by first | exact Below.refl _ _ | (repeat (first | (with_reducible first | exact HB.out | apply below_alloc | apply pw_below_drewN | apply below_drew1) | exact HB.out))))).mono ?_); rintro e w25 ⟨rfl, hb⟩; refine ⟨_, rfl, ?_⟩; have n0_ := Aside0.mk (below_step (by repeat (first | (with_reducible first | exact HB.out | apply below_alloc | apply pw_below_drewN | apply below_drew1) | exact HB.out)) hb); clear HB; have HB := n0_; clear n0_; (try clear hb); (try clear hb2); (try clear hk); (try clear hi)) | ((with_reducible refine gate_callee (f := 17) rfl ?_); refine goesL_ (some 55) rfl rfl Tryd.func17 (by kernel_rfl) rfl #[.string t145] rfl (by (try simp only [List.map_toArray, List.map_cons, List.map_nil]); first | done | rfl | (simp only [List.length_drop, List.length_take]; rfl)) ?_; (with_reducible refine (char_Read.calls t145 t146 t147 t148 _ A19.out (HT.out.below (by first | exact Below.refl _ _ | (repeat (first | (with_reducible first | exact HB.out | apply below_alloc | apply pw_below_drewN | apply below_drew1) | exact HB.out))))).mono ?_); rintro e w26 ⟨rfl, hb⟩; refine ⟨_, rfl, ?_⟩; have n0_ := Aside0.mk (below_step (by repeat (first | (with_reducible first | exact HB.out | apply below_alloc | apply pw_below_drewN | apply below_drew1) | exact HB.out)) hb); clear HB; have HB := n0_; clear n0_; (try clear hb); (try clear hb2); (try clear hk); (try clear hi)) | (go_at_call 14; (with_reducible refine (char_Check.calls t140 true _ A12.out (HT.out.below (by first | exact Below.refl _ _ | (repeat (first | (with_reducible first | exact HB.out | apply below_alloc | apply pw_below_drewN | apply below_drew1) | exact HB.out))))).mono ?_); rintro e w23 ⟨rfl, hb⟩; have n0_ := Aside0.mk (below_step (by repeat (first | (with_reducible first | exact HB.out | apply below_alloc | apply pw_below_drewN | apply below_drew1) | exact HB.out)) hb); clear HB; have HB := n0_; clear n0_; (try clear hb); (try clear hb2); (try clear hk); (try clear hi)) | (go_at_call 15; (with_reducible refine (char_Bare.calls t140 false _ A14.out).mono ?_); rintro e w24 ⟨rfl, hb⟩; have n0_ := Aside0.mk (below_step (by repeat (first | (with_reducible first | exact HB.out | apply below_alloc | apply pw_below_drewN | apply below_drew1) | exact HB.out)) hb); clear HB; have HB := n0_; clear n0_; (try clear hb); (try clear hb2); (try clear hk); (try clear hi)) | (go_at_call 16; (with_reducible refine (char_Write.calls t140 t145 _ A18.out (HT.out.below (by first | exact Below.refl _ _ | (repeat (first | (with_reducible first | exact HB.out | apply below_alloc | apply pw_below_drewN | apply below_drew1) | exact HB.out))))).mono ?_); rintro e w25 ⟨rfl, hb⟩; have n0_ := Aside0.mk (below_step (by repeat (first | (with_reducible first | exact HB.out | apply below_alloc | apply pw_below_drewN | apply below_drew1) | exact HB.out)) hb); clear HB; have HB := n0_; clear n0_; (try clear hb); (try clear hb2); (try clear hk); (try clear hi)) | (go_at_call 17; (with_reducible refine (char_Read.calls t145 t146 t147 t148 _ A19.out (HT.out.below (by first | exact Below.refl _ _ | (repeat (first | (with_reducible first | exact HB.out | apply below_alloc | apply pw_below_drewN | apply below_drew1) | exact HB.out))))).mono ?_); rintro e w26 ⟨rfl, hb⟩; have n0_ := Aside0.mk (below_step (by repeat (first | (with_reducible first | exact HB.out | apply below_alloc | apply pw_below_drewN | apply below_drew1) | exact HB.out)) hb); clear HB; have HB := n0_; clear n0_; (try clear hb); (try clear hb2); (try clear hk); (try clear hi)))
                      go_ret
                      exact ⟨by first | rfl | (simp [errW_none, errW_some] <;> rfl) | (simp [*, errW_none, errW_some] <;> rfl), by repeat (first | (with_reducible first | exact HB.out | apply below_alloc | apply pw_below_drewN | apply below_drew1) | exact HB.out)⟩
                    · rw [if_neg c22] at H
                      exact absurd H (by simp)
                  · rw [if_neg c21] at H
                    exact absurd H (by simp)
                · replace c20 := Bool.eq_false_iff.mpr c20
                  subst c20
                  have H1 : (none) = some r := by rw [if_neg (show ¬ (false = true) by decide)] at H; exact H
                  clear H
                  have H := H1
                  clear H1
                  exact absurd H (by simp)
            · replace c13 := Bool.eq_false_iff.mpr c13
              subst c13
              have H1 : (if t139 = true then (some (decide ((t140.size : Int) > 255))) else (none)) = some r := by rw [if_neg (show ¬ (false = true) by decide)] at H; exact H
              clear H
              have H := H1
              clear H1
              by_cases c27 : t139 = true
              · subst c27
                have H1 : (some (decide ((t140.size : Int) > 255))) = some r := by rw [if_pos rfl] at H; exact H
                clear H
                have H := H1
                clear H1
                obtain rfl := Option.some.inj H
                go_wp2_with (first | ((with_reducible refine gate_callee (f := 14) rfl ?_); refine goesL_ (some 41) rfl rfl Tryd.func14 (by kernel_rfl) rfl #[.string t140] rfl (by (try simp only [List.map_toArray, List.map_cons, List.map_nil]); first | done | rfl | (simp only [List.length_drop, List.length_take]; rfl)) ?_; (with_reducible refine (char_Check.calls t140 false _ A12.out (HT.out.below (by first | exact Below.refl _ _ | (repeat (first | (with_reducible first | exact HB.out | apply below_alloc | apply pw_below_drewN | apply below_drew1) | exact HB.out))))).mono ?_); rintro e w28 ⟨rfl, hb⟩; refine ⟨_, rfl, ?_⟩; have n0_ := Aside0.mk (below_step (by repeat (first | (with_reducible first | exact HB.out | apply below_alloc | apply pw_below_drewN | apply below_drew1) | exact HB.out)) hb); clear HB; have HB := n0_; clear n0_; (try clear hb); (try clear hb2); (try clear hk); (try clear hi)) | (go_at_call 14; (with_reducible refine (char_Check.calls t140 false _ A12.out (HT.out.below (by first | exact Below.refl _ _ | (repeat (first | (with_reducible first | exact HB.out | apply below_alloc | apply pw_below_drewN | apply below_drew1) | exact HB.out))))).mono ?_); rintro e w28 ⟨rfl, hb⟩; have n0_ := Aside0.mk (below_step (by repeat (first | (with_reducible first | exact HB.out | apply below_alloc | apply pw_below_drewN | apply below_drew1) | exact HB.out)) hb); clear HB; have HB := n0_; clear n0_; (try clear hb); (try clear hb2); (try clear hk); (try clear hi)))
                go_ret
                exact ⟨by first | rfl | (simp [errW_none, errW_some] <;> rfl) | (simp [*, errW_none, errW_some] <;> rfl), by repeat (first | (with_reducible first | exact HB.out | apply below_alloc | apply pw_below_drewN | apply below_drew1) | exact HB.out)⟩
              · replace c27 := Bool.eq_false_iff.mpr c27
                subst c27
                have H1 : (none) = some r := by rw [if_neg (show ¬ (false = true) by decide)] at H; exact H
                clear H
                have H := H1
                clear H1
                exact absurd H (by simp)
    · rw [if_neg c6] at H
      have c6b0 : (t142 == 0) = false := beq_eq_false_iff_ne.mpr c6
      have c6b1 : (t142 != 0) = true := bne_iff_ne.mpr c6
      by_cases c29 : t139 = true
      · subst c29
        have H1 : (if t140.toList = ([] : List UInt8) then (some (t141 == 0)) else (none)) = some r := by rw [if_pos rfl] at H; exact H
        clear H
        have H := H1
        clear H1
        by_cases c30 : t140.toList = ([] : List UInt8)
        · rw [if_pos c30] at H
          have c30b0 : (t140.toList == ([] : List UInt8)) = true := beq_iff_eq.mpr c30
          have c30b1 : (t140.toList != ([] : List UInt8)) = false := bne_eq_false_iff_eq.mpr c30
          clear c30
          obtain rfl := Option.some.inj H
          go_enter Tryd.func7, Tryd.ntmps7
          go_wp2_with (first | ((with_reducible refine gate_callee (f := 11) rfl ?_); refine goesL_ (some 10) rfl rfl Tryd.func11 (by kernel_rfl) rfl #[] rfl (by (try simp only [List.map_toArray, List.map_cons, List.map_nil]); first | done | rfl | (simp only [List.length_drop, List.length_take]; rfl)) ?_; (with_reducible refine (spinneylaw02_live.calls k  true _ A2.out (HT.out.below (by first | exact Below.refl _ _ | (repeat (first | (with_reducible first | exact HB.out | apply below_alloc | apply pw_below_drewN | apply below_drew1) | exact HB.out))))).mono ?_); rintro e w31 ⟨rfl, hb⟩; refine ⟨_, rfl, ?_⟩; have n0_ := Aside0.mk (below_step (by repeat (first | (with_reducible first | exact HB.out | apply below_alloc | apply pw_below_drewN | apply below_drew1) | exact HB.out)) hb); clear HB; have HB := n0_; clear n0_; (try clear hb); (try clear hb2); (try clear hk); (try clear hi)) | ((with_reducible refine gate_callee (f := 17) rfl ?_); refine goesL_ (some 17) rfl rfl Tryd.func17 (by kernel_rfl) rfl #[.string a0] rfl (by (try simp only [List.map_toArray, List.map_cons, List.map_nil]); first | done | rfl | (simp only [List.length_drop, List.length_take]; rfl)) ?_; (with_reducible refine (char_Read.calls a0 t140 t141 t142 _ A5.out (HT.out.below (by first | exact Below.refl _ _ | (repeat (first | (with_reducible first | exact HB.out | apply below_alloc | apply pw_below_drewN | apply below_drew1) | exact HB.out))))).mono ?_); rintro e w32 ⟨rfl, hb⟩; refine ⟨_, rfl, ?_⟩; have n0_ := Aside0.mk (below_step (by repeat (first | (with_reducible first | exact HB.out | apply below_alloc | apply pw_below_drewN | apply below_drew1) | exact HB.out)) hb); clear HB; have HB := n0_; clear n0_; (try clear hb); (try clear hb2); (try clear hk); (try clear hi)) | (go_at_call 11; (with_reducible refine (spinneylaw02_live.calls k  true _ A2.out (HT.out.below (by first | exact Below.refl _ _ | (repeat (first | (with_reducible first | exact HB.out | apply below_alloc | apply pw_below_drewN | apply below_drew1) | exact HB.out))))).mono ?_); rintro e w31 ⟨rfl, hb⟩; have n0_ := Aside0.mk (below_step (by repeat (first | (with_reducible first | exact HB.out | apply below_alloc | apply pw_below_drewN | apply below_drew1) | exact HB.out)) hb); clear HB; have HB := n0_; clear n0_; (try clear hb); (try clear hb2); (try clear hk); (try clear hi)) | (go_at_call 17; (with_reducible refine (char_Read.calls a0 t140 t141 t142 _ A5.out (HT.out.below (by first | exact Below.refl _ _ | (repeat (first | (with_reducible first | exact HB.out | apply below_alloc | apply pw_below_drewN | apply below_drew1) | exact HB.out))))).mono ?_); rintro e w32 ⟨rfl, hb⟩; have n0_ := Aside0.mk (below_step (by repeat (first | (with_reducible first | exact HB.out | apply below_alloc | apply pw_below_drewN | apply below_drew1) | exact HB.out)) hb); clear HB; have HB := n0_; clear n0_; (try clear hb); (try clear hb2); (try clear hk); (try clear hi)))
          go_ret
          exact ⟨by first | rfl | (simp [errW_none, errW_some] <;> rfl) | (simp [*, errW_none, errW_some] <;> rfl), by repeat (first | (with_reducible first | exact HB.out | apply below_alloc | apply pw_below_drewN | apply below_drew1) | exact HB.out)⟩
        · rw [if_neg c30] at H
          exact absurd H (by simp)
      · replace c29 := Bool.eq_false_iff.mpr c29
        subst c29
        have H1 : (none) = some r := by rw [if_neg (show ¬ (false = true) by decide)] at H; exact H
        clear H
        have H := H1
        clear H1
        exact absurd H (by simp)

/-- THE ONE PURE STATEMENT of spinneylaw02_CharAgain: yours. -/
def spinneylaw02_CharAgain.Pure : Prop := ∀ (a0 : ByteArray), a0.size ≤ 140737488351232 → ∃ k, spinneylaw02_CharAgain.f k a0 = some true
theorem spinneylaw02_CharAgain.walk (P : spinneylaw02_CharAgain.Pure) (a0 : ByteArray) (w : World) (w0 : a0.size ≤ 140737488351232) (hT : Tabs w) :
    Calls Tryd.prog 7 #[.string a0] w fun e w' => e = .returned (.bool true) ∧ Below w.heap.size w w' := by
  have HT := Aside0.mk hT
  clear hT
  obtain ⟨k, h⟩ := P a0 w0
  refine (spinneylaw02_CharAgain.calls k a0 true w h (HT.out.below (by first | exact Below.refl _ _ | (repeat (first | (with_reducible first | exact HB.out | apply below_alloc | apply pw_below_drewN | apply below_drew1) | exact HB.out))))).mono ?_
  rintro e w' ⟨rfl, hd⟩
  exact ⟨rfl, hd⟩

/-! ### spinneyref02_Check: function 18 -/
def spinneyref02_Check.f (a0 : ByteArray) : Option (Bool) := if (a0.size : Int) ≤ 255 then ((utf8_ValidString.f a0).bind fun t149 => (some t149)) else (some false)
set_option maxHeartbeats 8000000 in
set_option maxRecDepth 100000 in
theorem spinneyref02_Check.calls (a0 : ByteArray) (r : Bool) (w : World) (h : spinneyref02_Check.f a0 = some r) (hT : Tabs w) :
    Calls Tryd.prog 18 #[.string a0] w fun e w' => e = .returned (.bool r) ∧ Below w.heap.size w w' := by
  have HT := Aside0.mk hT
  clear hT
  have HB := Aside0.mk (Below.refl w.heap.size w)
  have H : (if (a0.size : Int) ≤ 255 then ((utf8_ValidString.f a0).bind fun t149 => (some t149)) else (some false)) = some r := h
  clear h
  by_cases c2 : (a0.size : Int) ≤ 255
  · rw [if_pos c2] at H
    have c2b0 : decide ((a0.size : Int) ≤ 255) = true := decide_eq_true c2
    have c2b1 : decide (a0.size ≤ 255) = true := decide_eq_true (by omega)
    clear c2
    replace H := Option.bind_eq_some_iff.mp H
    obtain ⟨t149, A30, H⟩ := H
    replace H : (some t149) = some r := H
    have A3 := Aside0.mk A30
    clear A30
    obtain rfl := Option.some.inj H
    go_enter Tryd.func18, Tryd.ntmps18
    go_wp2_with (first | (go_at_call 23; (with_reducible refine (utf8_ValidString.calls a0 t149 _ A3.out (HT.out.below (by first | exact Below.refl _ _ | (repeat (first | (with_reducible first | exact HB.out | apply below_alloc | apply pw_below_drewN | apply below_drew1) | exact HB.out))))).mono ?_); rintro e w4 ⟨rfl, hb⟩; have n0_ := Aside0.mk (below_step (by repeat (first | (with_reducible first | exact HB.out | apply below_alloc | apply pw_below_drewN | apply below_drew1) | exact HB.out)) hb); clear HB; have HB := n0_; clear n0_; (try clear hb); (try clear hb2); (try clear hk); (try clear hi)))
    go_ret
    exact ⟨by first | rfl | (simp [errW_none, errW_some] <;> rfl) | (simp [*, errW_none, errW_some] <;> rfl), by repeat (first | (with_reducible first | exact HB.out | apply below_alloc | apply pw_below_drewN | apply below_drew1) | exact HB.out)⟩
  · rw [if_neg c2] at H
    have c2b0 : decide ((a0.size : Int) ≤ 255) = false := decide_eq_false c2
    have c2b1 : decide (a0.size ≤ 255) = false := decide_eq_false (by omega)
    clear c2
    obtain rfl := Option.some.inj H
    go_enter Tryd.func18, Tryd.ntmps18
    go_wp2
    go_ret
    exact ⟨by first | rfl | (simp [errW_none, errW_some] <;> rfl) | (simp [*, errW_none, errW_some] <;> rfl), by repeat (first | (with_reducible first | exact HB.out | apply below_alloc | apply pw_below_drewN | apply below_drew1) | exact HB.out)⟩

-- NOT PRINTED: function 41 (utf8_decodeRuneInStringSlow)

/-! ### utf8_DecodeRuneInString: function 33 (given) -/
def utf8_DecodeRuneInString.f (a0 : ByteArray) : Option (Int × Int) := some (((Lib.decodeGo a0).1 : Int), ((Lib.decodeGo a0).2 : Int))
theorem utf8_DecodeRuneInString.calls (a0 : ByteArray) (r1 r2 : Int) (w : World) (h : utf8_DecodeRuneInString.f a0 = some (r1, r2)) (hT : Tabs w) :
    Calls Tryd.prog 33 #[.string a0] w fun e w' => e = .returned (.tuple #[.int .i32 r1, .int .i64 r2]) ∧ Below w.heap.size w w' := by
  unfold utf8_DecodeRuneInString.f at h
  injection h with h
  obtain ⟨rfl, rfl⟩ := Prod.mk.inj h
  exact Tryd.utf8_DecodeRuneInString a0 w hT.1

end Go.Proofs.YtkniiinpkchjoaaDoor.P
