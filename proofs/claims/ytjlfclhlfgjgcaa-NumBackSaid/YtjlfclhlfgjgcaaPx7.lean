-- PRINTED by a program of this session over the kit's print.py.
import Derived.Test.YtjlfclhlfgjgcaaPx0
import Derived.Test.YtjlfclhlfgjgcaaPx1
import Derived.Test.YtjlfclhlfgjgcaaPx2
import Derived.Test.YtjlfclhlfgjgcaaPx6
namespace Go.Proofs.Ytjlfclhlfgjgcaa.P
open Go.Own Go.RowKit Go.Proofs.YtjlfclhlfgjgcaaW.PrintWords Go.Proofs.YtjlfclhlfgjgcaaW.PrintLast Go.Proofs.YtjlfclhlfgjgcaaW.PrintMore
attribute [local go_sem] max2_int min2_int max_two min_two max_three min_three max_four min_four   -- for this text's walks alone
set_option linter.unusedVariables false
set_option linter.unusedSimpArgs false

/-! ### spinneylaw01_NumTurns: function 8 -/
mutual
def spinneylaw01_NumTurns.j0 : Nat → Int → Int → Bool → Int → Int → Option (Bool)
  | 0, _, _, _, _, _ => none
  | k + 1, x0, x1, x5, x6, x7 => (num_Abs.f x0).bind fun bt222 => (if bt222.2 = 0 then (if bt222.1 < 0 then (spinneylaw01_NumTurns.j1 k x0 x1 x5 true) else (if bt222.1 = x0 then (if x7 = 0 then (spinneylaw01_NumTurns.j1 k x0 x1 x5 ((bt222.2 == 0) != true)) else (spinneylaw01_NumTurns.j1 k x0 x1 x5 ((bt222.2 == 0) != (decide (x0 > 0))))) else (if bt222.1 = x6 then (if x7 = 0 then (spinneylaw01_NumTurns.j1 k x0 x1 x5 ((bt222.2 == 0) != true)) else (spinneylaw01_NumTurns.j1 k x0 x1 x5 ((bt222.2 == 0) != (decide (x0 > 0))))) else (spinneylaw01_NumTurns.j1 k x0 x1 x5 true)))) else (if x7 = 0 then (spinneylaw01_NumTurns.j1 k x0 x1 x5 ((bt222.2 == 0) != true)) else (spinneylaw01_NumTurns.j1 k x0 x1 x5 ((bt222.2 == 0) != (decide (x0 > 0))))))
def spinneylaw01_NumTurns.j1 : Nat → Int → Int → Bool → Bool → Option (Bool)
  | 0, _, _, _, _ => none
  | k + 1, x0, x1, x5, x71 => if x71 = true then (some false) else (if x5 = true then ((num_Cmp.f x0 x1).bind fun t224 => ((num_Cmp.f x1 x0).bind fun t225 => (if t224 = (wrap64 (-t225)) then (if ((t224 == 0) == (x0 == x1)) = true then ((num_Cmp.f x0 0).bind fun t226 => ((num_Sign.f x0).bind fun t227 => (some (t226 == t227)))) else (some false)) else (some false)))) else (some false))
end
def spinneylaw01_NumTurns.f (k : Nat) (a0 : Int) (a1 : Int) : Option (Bool) := (spinneylaw01_live.f).bind fun t215 => ((num_Neg.f a0).bind fun bt216 => (if bt216.2 = 0 then ((num_Neg.f bt216.1).bind fun bt218 => (if bt218.2 = 0 then (if bt218.1 = a0 then ((num_Sign.f bt216.1).bind fun t220 => ((num_Sign.f a0).bind fun t221 => (if t220 = (wrap64 (-t221)) then (spinneylaw01_NumTurns.j0 k a0 a1 t215 bt216.1 bt216.2) else (some false)))) else (some false)) else (some false))) else (spinneylaw01_NumTurns.j0 k a0 a1 t215 bt216.1 bt216.2)))
theorem spinneylaw01_NumTurns.mono_l : ∀ k, (∀ y0 y1 y2 y3 y4, LeO (spinneylaw01_NumTurns.j0 k y0 y1 y2 y3 y4) (spinneylaw01_NumTurns.j0 (k + 1) y0 y1 y2 y3 y4)) ∧ (∀ y0 y1 y2 y3, LeO (spinneylaw01_NumTurns.j1 k y0 y1 y2 y3) (spinneylaw01_NumTurns.j1 (k + 1) y0 y1 y2 y3))
  | 0 => ⟨fun _ _ _ _ _ r h => by simp [spinneylaw01_NumTurns.j0] at h, fun _ _ _ _ r h => by simp [spinneylaw01_NumTurns.j1] at h⟩
  | k + 1 => by
    obtain ⟨ih0, ih1⟩ := spinneylaw01_NumTurns.mono_l k
    refine ⟨?_, ?_⟩
    · intro y0 y1 y2 y3 y4
      unfold spinneylaw01_NumTurns.j0
      repeat' first
      | (with_reducible exact ih0 _ _ _ _ _)
      | (with_reducible exact ih1 _ _ _ _)
      | (with_reducible exact LeO.refl _)
      | (with_reducible exact LeO.none _)
      | (with_reducible refine LeO.ite ?_ ?_)
      | (with_reducible refine LeO.bind ?_ (fun _ => ?_))
      | exact ih0 _ _ _ _ _
      | exact ih1 _ _ _ _
      | exact LeO.none _
      | refine LeO.ite ?_ ?_
      | refine LeO.bind ?_ (fun _ => ?_)
    · intro y0 y1 y2 y3
      unfold spinneylaw01_NumTurns.j1
      repeat' first
      | (with_reducible exact ih0 _ _ _ _ _)
      | (with_reducible exact ih1 _ _ _ _)
      | (with_reducible exact LeO.refl _)
      | (with_reducible exact LeO.none _)
      | (with_reducible refine LeO.ite ?_ ?_)
      | (with_reducible refine LeO.bind ?_ (fun _ => ?_))
      | exact ih0 _ _ _ _ _
      | exact ih1 _ _ _ _
      | exact LeO.none _
      | refine LeO.ite ?_ ?_
      | refine LeO.bind ?_ (fun _ => ?_)
theorem spinneylaw01_NumTurns.mono : ∀ a0 a1 k, LeO (spinneylaw01_NumTurns.f k a0 a1) (spinneylaw01_NumTurns.f (k + 1) a0 a1) := by
  intro a0 a1 k
  obtain ⟨ih0, ih1⟩ := spinneylaw01_NumTurns.mono_l k
  unfold spinneylaw01_NumTurns.f
  repeat' first
      | (with_reducible exact ih0 _ _ _ _ _)
      | (with_reducible exact ih1 _ _ _ _)
      | (with_reducible exact LeO.refl _)
      | (with_reducible exact LeO.none _)
      | (with_reducible refine LeO.ite ?_ ?_)
      | (with_reducible refine LeO.bind ?_ (fun _ => ?_))
      | exact ih0 _ _ _ _ _
      | exact ih1 _ _ _ _
      | exact LeO.none _
      | refine LeO.ite ?_ ?_
      | refine LeO.bind ?_ (fun _ => ?_)
set_option maxHeartbeats 8000000 in
set_option maxRecDepth 100000 in
theorem spinneylaw01_NumTurns.calls (k : Nat) (a0 : Int) (a1 : Int) (r : Bool) (w : World) (h : spinneylaw01_NumTurns.f k a0 a1 = some r) :
    Calls Try.prog 8 #[.int .i64 a0, .int .i64 a1] w fun e w' => e = .returned (.bool r) ∧ Below w.heap.size w w' := by
  have HB := Aside0.mk (Below.refl w.heap.size w)
  have H : ((spinneylaw01_live.f).bind fun t215 => ((num_Neg.f a0).bind fun bt216 => (if bt216.2 = 0 then ((num_Neg.f bt216.1).bind fun bt218 => (if bt218.2 = 0 then (if bt218.1 = a0 then ((num_Sign.f bt216.1).bind fun t220 => ((num_Sign.f a0).bind fun t221 => (if t220 = (wrap64 (-t221)) then (spinneylaw01_NumTurns.j0 k a0 a1 t215 bt216.1 bt216.2) else (some false)))) else (some false)) else (some false))) else (spinneylaw01_NumTurns.j0 k a0 a1 t215 bt216.1 bt216.2)))) = some r := h
  clear h
  replace H := Option.bind_eq_some_iff.mp H
  obtain ⟨t215, A30, H⟩ := H
  replace H : ((num_Neg.f a0).bind fun bt216 => (if bt216.2 = 0 then ((num_Neg.f bt216.1).bind fun bt218 => (if bt218.2 = 0 then (if bt218.1 = a0 then ((num_Sign.f bt216.1).bind fun t220 => ((num_Sign.f a0).bind fun t221 => (if t220 = (wrap64 (-t221)) then (spinneylaw01_NumTurns.j0 k a0 a1 t215 bt216.1 bt216.2) else (some false)))) else (some false)) else (some false))) else (spinneylaw01_NumTurns.j0 k a0 a1 t215 bt216.1 bt216.2))) = some r := H
  have A3 := Aside0.mk A30
  clear A30
  replace H := Option.bind_eq_some_iff.mp H
  obtain ⟨⟨t216, t217⟩, A40, H⟩ := H
  replace H : (if t217 = 0 then ((num_Neg.f t216).bind fun bt218 => (if bt218.2 = 0 then (if bt218.1 = a0 then ((num_Sign.f t216).bind fun t220 => ((num_Sign.f a0).bind fun t221 => (if t220 = (wrap64 (-t221)) then (spinneylaw01_NumTurns.j0 k a0 a1 t215 t216 t217) else (some false)))) else (some false)) else (some false))) else (spinneylaw01_NumTurns.j0 k a0 a1 t215 t216 t217)) = some r := H
  have A4 := Aside0.mk A40
  clear A40
  have HC5 := Aside0.mk H
  clear H
  go_enter Try.func8, Try.ntmps8
  go_upto_if 19 with (first | ((with_reducible refine gate_callee (f := 22) rfl ?_); refine goesL_ (some 12) rfl rfl Try.func22 (by kernel_rfl) rfl #[] rfl (by (try simp only [List.map_toArray, List.map_cons, List.map_nil]); first | done | rfl | (simp only [List.length_drop, List.length_take]; rfl)) ?_; (with_reducible refine (spinneylaw01_live.calls  t215 _ A3.out).mono ?_); rintro e w6 ⟨rfl, hb⟩; refine ⟨_, rfl, ?_⟩; have n0_ := Aside0.mk (below_step (by repeat (first | (with_reducible first | exact HB.out | apply below_alloc | apply pw_below_drewN | apply below_drew1) | exact HB.out)) hb); clear HB; have HB := n0_; clear n0_; (try clear hb); (try clear hb2); (try clear hk); (try clear hi)) | ((with_reducible refine gate_callee (f := 29) rfl ?_); refine goesL_ (some 15) rfl rfl Try.func29 (by kernel_rfl) rfl #[.int .i64 a0] rfl (by (try simp only [List.map_toArray, List.map_cons, List.map_nil]); first | done | rfl | (simp only [List.length_drop, List.length_take]; rfl)) ?_; (with_reducible refine (num_Neg.calls a0 t216 t217 _ A4.out).mono ?_); rintro e w' ⟨rfl, ⟨nd, rfl⟩⟩; refine ⟨_, rfl, ?_⟩))
  (try simp only [Act.put, List.setIfInBounds_toArray, List.set_cons_zero, List.set_cons_succ])
  go_cut [] (fun wc => ∃ (kq : Nat), Aside0 (spinneylaw01_NumTurns.j0 kq a0 a1 t215 t216 t217 = some r) ∧ Aside0 (kq ≤ k) ∧ Aside0 (Below w.heap.size w wc))
  case first =>
    have H := HC5.out
    clear HC5
    by_cases c7 : t217 = 0
    · rw [if_pos c7] at H
      have c7b0 : (t217 == 0) = true := beq_iff_eq.mpr c7
      have c7b1 : (t217 != 0) = false := bne_eq_false_iff_eq.mpr c7
      clear c7
      (first | rw [c7b0] | (simp only [i64_w, i32_w]; rw [c7b0]) | skip)
      replace H := Option.bind_eq_some_iff.mp H
      obtain ⟨⟨t218, t219⟩, A80, H⟩ := H
      replace H : (if t219 = 0 then (if t218 = a0 then ((num_Sign.f t216).bind fun t220 => ((num_Sign.f a0).bind fun t221 => (if t220 = (wrap64 (-t221)) then (spinneylaw01_NumTurns.j0 k a0 a1 t215 t216 t217) else (some false)))) else (some false)) else (some false)) = some r := H
      have A8 := Aside0.mk A80
      clear A80
      by_cases c9 : t219 = 0
      · rw [if_pos c9] at H
        have c9b0 : (t219 == 0) = true := beq_iff_eq.mpr c9
        have c9b1 : (t219 != 0) = false := bne_eq_false_iff_eq.mpr c9
        clear c9
        by_cases c10 : t218 = a0
        · rw [if_pos c10] at H
          have c10b0 : (t218 == a0) = true := beq_iff_eq.mpr c10
          have c10b1 : (t218 != a0) = false := bne_eq_false_iff_eq.mpr c10
          clear c10
          replace H := Option.bind_eq_some_iff.mp H
          obtain ⟨t220, A110, H⟩ := H
          replace H : ((num_Sign.f a0).bind fun t221 => (if t220 = (wrap64 (-t221)) then (spinneylaw01_NumTurns.j0 k a0 a1 t215 t216 t217) else (some false))) = some r := H
          have A11 := Aside0.mk A110
          clear A110
          replace H := Option.bind_eq_some_iff.mp H
          obtain ⟨t221, A120, H⟩ := H
          replace H : (if t220 = (wrap64 (-t221)) then (spinneylaw01_NumTurns.j0 k a0 a1 t215 t216 t217) else (some false)) = some r := H
          have A12 := Aside0.mk A120
          clear A120
          by_cases c13 : t220 = (wrap64 (-t221))
          · rw [if_pos c13] at H
            have c13b0 : (t220 == (wrap64 (-t221))) = true := beq_iff_eq.mpr c13
            have c13b1 : (t220 != (wrap64 (-t221))) = false := bne_eq_false_iff_eq.mpr c13
            clear c13
            have H' := Aside0.mk H
            clear H
            go_wp2_with (first | ((with_reducible refine gate_callee (f := 29) rfl ?_); refine goesL_ (some 22) rfl rfl Try.func29 (by kernel_rfl) rfl #[.int .i64 t216] rfl (by (try simp only [List.map_toArray, List.map_cons, List.map_nil]); first | done | rfl | (simp only [List.length_drop, List.length_take]; rfl)) ?_; (with_reducible refine (num_Neg.calls t216 t218 t219 _ A8.out).mono ?_); rintro e w' ⟨rfl, ⟨nd, rfl⟩⟩; refine ⟨_, rfl, ?_⟩) | (go_at_call 33; (with_reducible refine (num_Sign.calls t216 t220 _ A11.out).mono ?_); rintro e w' ⟨rfl, ⟨nd, rfl⟩⟩) | (go_at_call 33; (with_reducible refine (num_Sign.calls a0 t221 _ A12.out).mono ?_); rintro e w' ⟨rfl, ⟨nd, rfl⟩⟩))
            go_meet
            case rel => exact ⟨_, H', ⟨by first | omega | exact Nat.le_refl _⟩, ⟨by repeat (first | (with_reducible first | exact HB.out | apply below_alloc | apply pw_below_drewN | apply below_drew1) | exact HB.out)⟩⟩
          · rw [if_neg c13] at H
            have c13b0 : (t220 == (wrap64 (-t221))) = false := beq_eq_false_iff_ne.mpr c13
            have c13b1 : (t220 != (wrap64 (-t221))) = true := bne_iff_ne.mpr c13
            obtain rfl := Option.some.inj H
            go_wp2_with (first | ((with_reducible refine gate_callee (f := 29) rfl ?_); refine goesL_ (some 22) rfl rfl Try.func29 (by kernel_rfl) rfl #[.int .i64 t216] rfl (by (try simp only [List.map_toArray, List.map_cons, List.map_nil]); first | done | rfl | (simp only [List.length_drop, List.length_take]; rfl)) ?_; (with_reducible refine (num_Neg.calls t216 t218 t219 _ A8.out).mono ?_); rintro e w' ⟨rfl, ⟨nd, rfl⟩⟩; refine ⟨_, rfl, ?_⟩) | (go_at_call 33; (with_reducible refine (num_Sign.calls t216 t220 _ A11.out).mono ?_); rintro e w' ⟨rfl, ⟨nd, rfl⟩⟩) | (go_at_call 33; (with_reducible refine (num_Sign.calls a0 t221 _ A12.out).mono ?_); rintro e w' ⟨rfl, ⟨nd, rfl⟩⟩))
            go_ret
            exact ⟨by first | rfl | (simp [errW_none, errW_some] <;> rfl) | (simp [*, errW_none, errW_some] <;> rfl), by repeat (first | (with_reducible first | exact HB.out | apply below_alloc | apply pw_below_drewN | apply below_drew1) | exact HB.out)⟩
        · rw [if_neg c10] at H
          have c10b0 : (t218 == a0) = false := beq_eq_false_iff_ne.mpr c10
          have c10b1 : (t218 != a0) = true := bne_iff_ne.mpr c10
          obtain rfl := Option.some.inj H
          go_wp2_with (first | ((with_reducible refine gate_callee (f := 29) rfl ?_); refine goesL_ (some 22) rfl rfl Try.func29 (by kernel_rfl) rfl #[.int .i64 t216] rfl (by (try simp only [List.map_toArray, List.map_cons, List.map_nil]); first | done | rfl | (simp only [List.length_drop, List.length_take]; rfl)) ?_; (with_reducible refine (num_Neg.calls t216 t218 t219 _ A8.out).mono ?_); rintro e w' ⟨rfl, ⟨nd, rfl⟩⟩; refine ⟨_, rfl, ?_⟩))
          go_ret
          exact ⟨by first | rfl | (simp [errW_none, errW_some] <;> rfl) | (simp [*, errW_none, errW_some] <;> rfl), by repeat (first | (with_reducible first | exact HB.out | apply below_alloc | apply pw_below_drewN | apply below_drew1) | exact HB.out)⟩
      · rw [if_neg c9] at H
        have c9b0 : (t219 == 0) = false := beq_eq_false_iff_ne.mpr c9
        have c9b1 : (t219 != 0) = true := bne_iff_ne.mpr c9
        obtain rfl := Option.some.inj H
        go_wp2_with (first | ((with_reducible refine gate_callee (f := 29) rfl ?_); refine goesL_ (some 22) rfl rfl Try.func29 (by kernel_rfl) rfl #[.int .i64 t216] rfl (by (try simp only [List.map_toArray, List.map_cons, List.map_nil]); first | done | rfl | (simp only [List.length_drop, List.length_take]; rfl)) ?_; (with_reducible refine (num_Neg.calls t216 t218 t219 _ A8.out).mono ?_); rintro e w' ⟨rfl, ⟨nd, rfl⟩⟩; refine ⟨_, rfl, ?_⟩))
        go_ret
        exact ⟨by first | rfl | (simp [errW_none, errW_some] <;> rfl) | (simp [*, errW_none, errW_some] <;> rfl), by repeat (first | (with_reducible first | exact HB.out | apply below_alloc | apply pw_below_drewN | apply below_drew1) | exact HB.out)⟩
    · rw [if_neg c7] at H
      have c7b0 : (t217 == 0) = false := beq_eq_false_iff_ne.mpr c7
      have c7b1 : (t217 != 0) = true := bne_iff_ne.mpr c7
      (first | rw [c7b0] | (simp only [i64_w, i32_w]; rw [c7b0]) | skip)
      have H' := Aside0.mk H
      clear H
      go_wp2
      go_meet
      case rel => exact ⟨_, H', ⟨by first | omega | exact Nat.le_refl _⟩, ⟨by repeat (first | (with_reducible first | exact HB.out | apply below_alloc | apply pw_below_drewN | apply below_drew1) | exact HB.out)⟩⟩
  case rest =>
    clear HC5
    try clear c1
    try clear c2
    try clear p2
    try clear p6
    try clear c7
    try clear c7b0
    try clear c7b1
    try clear c8
    try clear c9
    try clear c9b0
    try clear c9b1
    try clear c10
    try clear c10b0
    try clear c10b1
    try clear c13
    try clear c13b0
    try clear c13b1
    obtain ⟨kq, HA, HJ4, HB⟩ := hcut
    cases kq with
    | zero => exact absurd HA.out (by simp [spinneylaw01_NumTurns.j0])
    | succ kj4 =>
      have H := HA.out
      clear HA
      simp only [spinneylaw01_NumTurns.j0] at H
      replace H := Option.bind_eq_some_iff.mp H
      obtain ⟨⟨t222, t223⟩, A140, H⟩ := H
      replace H : (if t223 = 0 then (if t222 < 0 then (spinneylaw01_NumTurns.j1 kj4 a0 a1 t215 true) else (if t222 = a0 then (if t217 = 0 then (spinneylaw01_NumTurns.j1 kj4 a0 a1 t215 ((t223 == 0) != true)) else (spinneylaw01_NumTurns.j1 kj4 a0 a1 t215 ((t223 == 0) != (decide (a0 > 0))))) else (if t222 = t216 then (if t217 = 0 then (spinneylaw01_NumTurns.j1 kj4 a0 a1 t215 ((t223 == 0) != true)) else (spinneylaw01_NumTurns.j1 kj4 a0 a1 t215 ((t223 == 0) != (decide (a0 > 0))))) else (spinneylaw01_NumTurns.j1 kj4 a0 a1 t215 true)))) else (if t217 = 0 then (spinneylaw01_NumTurns.j1 kj4 a0 a1 t215 ((t223 == 0) != true)) else (spinneylaw01_NumTurns.j1 kj4 a0 a1 t215 ((t223 == 0) != (decide (a0 > 0)))))) = some r := H
      have A14 := Aside0.mk A140
      clear A140
      have HC15 := Aside0.mk H
      clear H
      go_upto_region 8 with (first | ((with_reducible refine gate_callee (f := 31) rfl ?_); refine goesL_ (some 42) rfl rfl Try.func31 (by kernel_rfl) rfl #[.int .i64 a0] rfl (by (try simp only [List.map_toArray, List.map_cons, List.map_nil]); first | done | rfl | (simp only [List.length_drop, List.length_take]; rfl)) ?_; (with_reducible refine (num_Abs.calls a0 t222 t223 _ A14.out).mono ?_); rintro e w' ⟨rfl, ⟨nd, rfl⟩⟩; refine ⟨_, rfl, ?_⟩))
      (try simp only [Act.put, List.setIfInBounds_toArray, List.set_cons_zero, List.set_cons_succ])
      go_cut [71] (fun v71 wc => ∃ (kq : Nat) (x71_14 : Bool), v71 = .bool x71_14 ∧ Aside0 (spinneylaw01_NumTurns.j1 kq a0 a1 t215 x71_14 = some r) ∧ Aside0 (kq ≤ kj4) ∧ Aside0 (Below w.heap.size w wc))
      case first =>
        have H := HC15.out
        clear HC15
        by_cases c16 : t223 = 0
        · rw [if_pos c16] at H
          have c16b0 : (t223 == 0) = true := beq_iff_eq.mpr c16
          have c16b1 : (t223 != 0) = false := bne_eq_false_iff_eq.mpr c16
          clear c16
          (first | rw [c16b0] | (simp only [i64_w, i32_w]; rw [c16b0]) | skip)
          by_cases c17 : t222 < 0
          · rw [if_pos c17] at H
            have c17b0 : decide (t222 < 0) = true := decide_eq_true c17
            clear c17
            have H' := Aside0.mk H
            clear H
            go_wp2
            go_meet
            case rel => exact ⟨_, (true), (by first | rfl | (simp; done) | (simp [*]; done)), H', ⟨by have := HJ4.out; first | omega | exact Nat.le_refl _⟩, ⟨by repeat (first | (with_reducible first | exact HB.out | apply below_alloc | apply pw_below_drewN | apply below_drew1) | exact HB.out)⟩⟩
          · rw [if_neg c17] at H
            have c17b0 : decide (t222 < 0) = false := decide_eq_false c17
            clear c17
            by_cases c18 : t222 = a0
            · rw [if_pos c18] at H
              have c18b0 : (t222 == a0) = true := beq_iff_eq.mpr c18
              have c18b1 : (t222 != a0) = false := bne_eq_false_iff_eq.mpr c18
              clear c18
              by_cases c19 : t217 = 0
              · rw [if_pos c19] at H
                have c19b0 : (t217 == 0) = true := beq_iff_eq.mpr c19
                have c19b1 : (t217 != 0) = false := bne_eq_false_iff_eq.mpr c19
                clear c19
                have H' := Aside0.mk H
                clear H
                go_wp2
                go_meet
                case rel => exact ⟨_, (((t223 == 0) != true)), (by first | rfl | (simp; done) | (simp [*]; done)), H', ⟨by have := HJ4.out; first | omega | exact Nat.le_refl _⟩, ⟨by repeat (first | (with_reducible first | exact HB.out | apply below_alloc | apply pw_below_drewN | apply below_drew1) | exact HB.out)⟩⟩
              · rw [if_neg c19] at H
                have c19b0 : (t217 == 0) = false := beq_eq_false_iff_ne.mpr c19
                have c19b1 : (t217 != 0) = true := bne_iff_ne.mpr c19
                have H' := Aside0.mk H
                clear H
                go_wp2
                go_meet
                case rel => exact ⟨_, (((t223 == 0) != (decide (a0 > 0)))), (by first | rfl | (simp; done) | (simp [*]; done)), H', ⟨by have := HJ4.out; first | omega | exact Nat.le_refl _⟩, ⟨by repeat (first | (with_reducible first | exact HB.out | apply below_alloc | apply pw_below_drewN | apply below_drew1) | exact HB.out)⟩⟩
            · rw [if_neg c18] at H
              have c18b0 : (t222 == a0) = false := beq_eq_false_iff_ne.mpr c18
              have c18b1 : (t222 != a0) = true := bne_iff_ne.mpr c18
              by_cases c20 : t222 = t216
              · rw [if_pos c20] at H
                have c20b0 : (t222 == t216) = true := beq_iff_eq.mpr c20
                have c20b1 : (t222 != t216) = false := bne_eq_false_iff_eq.mpr c20
                clear c20
                by_cases c21 : t217 = 0
                · rw [if_pos c21] at H
                  have c21b0 : (t217 == 0) = true := beq_iff_eq.mpr c21
                  have c21b1 : (t217 != 0) = false := bne_eq_false_iff_eq.mpr c21
                  clear c21
                  have H' := Aside0.mk H
                  clear H
                  go_wp2
                  go_meet
                  case rel => exact ⟨_, (((t223 == 0) != true)), (by first | rfl | (simp; done) | (simp [*]; done)), H', ⟨by have := HJ4.out; first | omega | exact Nat.le_refl _⟩, ⟨by repeat (first | (with_reducible first | exact HB.out | apply below_alloc | apply pw_below_drewN | apply below_drew1) | exact HB.out)⟩⟩
                · rw [if_neg c21] at H
                  have c21b0 : (t217 == 0) = false := beq_eq_false_iff_ne.mpr c21
                  have c21b1 : (t217 != 0) = true := bne_iff_ne.mpr c21
                  have H' := Aside0.mk H
                  clear H
                  go_wp2
                  go_meet
                  case rel => exact ⟨_, (((t223 == 0) != (decide (a0 > 0)))), (by first | rfl | (simp; done) | (simp [*]; done)), H', ⟨by have := HJ4.out; first | omega | exact Nat.le_refl _⟩, ⟨by repeat (first | (with_reducible first | exact HB.out | apply below_alloc | apply pw_below_drewN | apply below_drew1) | exact HB.out)⟩⟩
              · rw [if_neg c20] at H
                have c20b0 : (t222 == t216) = false := beq_eq_false_iff_ne.mpr c20
                have c20b1 : (t222 != t216) = true := bne_iff_ne.mpr c20
                have H' := Aside0.mk H
                clear H
                go_wp2
                go_meet
                case rel => exact ⟨_, (true), (by first | rfl | (simp; done) | (simp [*]; done)), H', ⟨by have := HJ4.out; first | omega | exact Nat.le_refl _⟩, ⟨by repeat (first | (with_reducible first | exact HB.out | apply below_alloc | apply pw_below_drewN | apply below_drew1) | exact HB.out)⟩⟩
        · rw [if_neg c16] at H
          have c16b0 : (t223 == 0) = false := beq_eq_false_iff_ne.mpr c16
          have c16b1 : (t223 != 0) = true := bne_iff_ne.mpr c16
          (first | rw [c16b0] | (simp only [i64_w, i32_w]; rw [c16b0]) | skip)
          by_cases c22 : t217 = 0
          · rw [if_pos c22] at H
            have c22b0 : (t217 == 0) = true := beq_iff_eq.mpr c22
            have c22b1 : (t217 != 0) = false := bne_eq_false_iff_eq.mpr c22
            clear c22
            have H' := Aside0.mk H
            clear H
            go_wp2
            go_meet
            case rel => exact ⟨_, (((t223 == 0) != true)), (by first | rfl | (simp; done) | (simp [*]; done)), H', ⟨by have := HJ4.out; first | omega | exact Nat.le_refl _⟩, ⟨by repeat (first | (with_reducible first | exact HB.out | apply below_alloc | apply pw_below_drewN | apply below_drew1) | exact HB.out)⟩⟩
          · rw [if_neg c22] at H
            have c22b0 : (t217 == 0) = false := beq_eq_false_iff_ne.mpr c22
            have c22b1 : (t217 != 0) = true := bne_iff_ne.mpr c22
            have H' := Aside0.mk H
            clear H
            go_wp2
            go_meet
            case rel => exact ⟨_, (((t223 == 0) != (decide (a0 > 0)))), (by first | rfl | (simp; done) | (simp [*]; done)), H', ⟨by have := HJ4.out; first | omega | exact Nat.le_refl _⟩, ⟨by repeat (first | (with_reducible first | exact HB.out | apply below_alloc | apply pw_below_drewN | apply below_drew1) | exact HB.out)⟩⟩
      case rest =>
        clear HC15
        try clear c1
        try clear c2
        try clear p2
        try clear c3
        try clear p6
        try clear c7
        try clear c7b0
        try clear c7b1
        try clear c8
        try clear c9
        try clear c9b0
        try clear c9b1
        try clear c10
        try clear c10b0
        try clear c10b1
        try clear c13
        try clear c13b0
        try clear c13b1
        try clear c16
        try clear c16b0
        try clear c16b1
        try clear c17
        try clear c17b0
        try clear c18
        try clear c18b0
        try clear c18b1
        try clear c19
        try clear c19b0
        try clear c19b1
        try clear c20
        try clear c20b0
        try clear c20b1
        try clear c21
        try clear c21b0
        try clear c21b1
        try clear c22
        try clear c22b0
        try clear c22b1
        try clear p2
        try clear p6
        obtain ⟨kq, x71_14, rfl, HA, HJ14, HB⟩ := hcut
        cases kq with
        | zero => exact absurd HA.out (by simp [spinneylaw01_NumTurns.j1])
        | succ kj14 =>
          have H := HA.out
          clear HA
          simp only [spinneylaw01_NumTurns.j1] at H
          by_cases c23 : x71_14 = true
          · subst c23
            have H1 : (some false) = some r := by rw [if_pos rfl] at H; exact H
            clear H
            have H := H1
            clear H1
            obtain rfl := Option.some.inj H
            go_wp2
            go_ret
            exact ⟨by first | rfl | (simp [errW_none, errW_some] <;> rfl) | (simp [*, errW_none, errW_some] <;> rfl), by repeat (first | (with_reducible first | exact HB.out | apply below_alloc | apply pw_below_drewN | apply below_drew1) | exact HB.out)⟩
          · replace c23 := Bool.eq_false_iff.mpr c23
            subst c23
            have H1 : (if t215 = true then ((num_Cmp.f a0 a1).bind fun t224 => ((num_Cmp.f a1 a0).bind fun t225 => (if t224 = (wrap64 (-t225)) then (if ((t224 == 0) == (a0 == a1)) = true then ((num_Cmp.f a0 0).bind fun t226 => ((num_Sign.f a0).bind fun t227 => (some (t226 == t227)))) else (some false)) else (some false)))) else (some false)) = some r := by rw [if_neg (show ¬ (false = true) by decide)] at H; exact H
            clear H
            have H := H1
            clear H1
            by_cases c24 : t215 = true
            · subst c24
              have H1 : ((num_Cmp.f a0 a1).bind fun t224 => ((num_Cmp.f a1 a0).bind fun t225 => (if t224 = (wrap64 (-t225)) then (if ((t224 == 0) == (a0 == a1)) = true then ((num_Cmp.f a0 0).bind fun t226 => ((num_Sign.f a0).bind fun t227 => (some (t226 == t227)))) else (some false)) else (some false)))) = some r := by rw [if_pos rfl] at H; exact H
              clear H
              have H := H1
              clear H1
              replace H := Option.bind_eq_some_iff.mp H
              obtain ⟨t224, A250, H⟩ := H
              replace H : ((num_Cmp.f a1 a0).bind fun t225 => (if t224 = (wrap64 (-t225)) then (if ((t224 == 0) == (a0 == a1)) = true then ((num_Cmp.f a0 0).bind fun t226 => ((num_Sign.f a0).bind fun t227 => (some (t226 == t227)))) else (some false)) else (some false))) = some r := H
              have A25 := Aside0.mk A250
              clear A250
              replace H := Option.bind_eq_some_iff.mp H
              obtain ⟨t225, A260, H⟩ := H
              replace H : (if t224 = (wrap64 (-t225)) then (if ((t224 == 0) == (a0 == a1)) = true then ((num_Cmp.f a0 0).bind fun t226 => ((num_Sign.f a0).bind fun t227 => (some (t226 == t227)))) else (some false)) else (some false)) = some r := H
              have A26 := Aside0.mk A260
              clear A260
              by_cases c27 : t224 = (wrap64 (-t225))
              · rw [if_pos c27] at H
                have c27b0 : (t224 == (wrap64 (-t225))) = true := beq_iff_eq.mpr c27
                have c27b1 : (t224 != (wrap64 (-t225))) = false := bne_eq_false_iff_eq.mpr c27
                clear c27
                by_cases c28 : ((t224 == 0) == (a0 == a1)) = true
                · rw [if_pos c28] at H
                  have c28b0 : ((t224 == 0) == (a0 == a1)) = true := c28
                  (try (have c28b1 : decide ((t224 == 0) = (a0 == a1)) = true := by simpa using c28))
                  (try (have c28b2 : ((t224 == 0) == (a0 == a1)) = true := by simpa using c28))
                  clear c28
                  replace H := Option.bind_eq_some_iff.mp H
                  obtain ⟨t226, A290, H⟩ := H
                  replace H : ((num_Sign.f a0).bind fun t227 => (some (t226 == t227))) = some r := H
                  have A29 := Aside0.mk A290
                  clear A290
                  replace H := Option.bind_eq_some_iff.mp H
                  obtain ⟨t227, A300, H⟩ := H
                  replace H : (some (t226 == t227)) = some r := H
                  have A30 := Aside0.mk A300
                  clear A300
                  obtain rfl := Option.some.inj H
                  go_wp2_with (first | (go_at_call 35; (with_reducible refine (num_Cmp.calls a0 a1 t224 _ A25.out).mono ?_); rintro e w' ⟨rfl, ⟨nd, rfl⟩⟩) | (go_at_call 35; (with_reducible refine (num_Cmp.calls a1 a0 t225 _ A26.out).mono ?_); rintro e w' ⟨rfl, ⟨nd, rfl⟩⟩) | (go_at_call 35; (with_reducible refine (num_Cmp.calls a0 0 t226 _ A29.out).mono ?_); rintro e w' ⟨rfl, ⟨nd, rfl⟩⟩) | (go_at_call 33; (with_reducible refine (num_Sign.calls a0 t227 _ A30.out).mono ?_); rintro e w' ⟨rfl, ⟨nd, rfl⟩⟩))
                  go_ret
                  exact ⟨by first | rfl | (simp [errW_none, errW_some] <;> rfl) | (simp [*, errW_none, errW_some] <;> rfl), by repeat (first | (with_reducible first | exact HB.out | apply below_alloc | apply pw_below_drewN | apply below_drew1) | exact HB.out)⟩
                · rw [if_neg c28] at H
                  have c28b0 : ((t224 == 0) == (a0 == a1)) = false := by simpa using c28
                  (try (have c28b1 : decide ((t224 == 0) = (a0 == a1)) = false := by simpa using c28))
                  (try (have c28b2 : ((t224 == 0) == (a0 == a1)) = false := by simpa using c28))
                  (try (have c28b3 : ¬ ((t224 == 0) = (a0 == a1)) := by simpa using c28))
                  clear c28
                  obtain rfl := Option.some.inj H
                  go_wp2_with (first | (go_at_call 35; (with_reducible refine (num_Cmp.calls a0 a1 t224 _ A25.out).mono ?_); rintro e w' ⟨rfl, ⟨nd, rfl⟩⟩) | (go_at_call 35; (with_reducible refine (num_Cmp.calls a1 a0 t225 _ A26.out).mono ?_); rintro e w' ⟨rfl, ⟨nd, rfl⟩⟩))
                  go_ret
                  exact ⟨by first | rfl | (simp [errW_none, errW_some] <;> rfl) | (simp [*, errW_none, errW_some] <;> rfl), by repeat (first | (with_reducible first | exact HB.out | apply below_alloc | apply pw_below_drewN | apply below_drew1) | exact HB.out)⟩
              · rw [if_neg c27] at H
                have c27b0 : (t224 == (wrap64 (-t225))) = false := beq_eq_false_iff_ne.mpr c27
                have c27b1 : (t224 != (wrap64 (-t225))) = true := bne_iff_ne.mpr c27
                obtain rfl := Option.some.inj H
                go_wp2_with (first | (go_at_call 35; (with_reducible refine (num_Cmp.calls a0 a1 t224 _ A25.out).mono ?_); rintro e w' ⟨rfl, ⟨nd, rfl⟩⟩) | (go_at_call 35; (with_reducible refine (num_Cmp.calls a1 a0 t225 _ A26.out).mono ?_); rintro e w' ⟨rfl, ⟨nd, rfl⟩⟩))
                go_ret
                exact ⟨by first | rfl | (simp [errW_none, errW_some] <;> rfl) | (simp [*, errW_none, errW_some] <;> rfl), by repeat (first | (with_reducible first | exact HB.out | apply below_alloc | apply pw_below_drewN | apply below_drew1) | exact HB.out)⟩
            · replace c24 := Bool.eq_false_iff.mpr c24
              subst c24
              have H1 : (some false) = some r := by rw [if_neg (show ¬ (false = true) by decide)] at H; exact H
              clear H
              have H := H1
              clear H1
              obtain rfl := Option.some.inj H
              go_wp2
              go_ret
              exact ⟨by first | rfl | (simp [errW_none, errW_some] <;> rfl) | (simp [*, errW_none, errW_some] <;> rfl), by repeat (first | (with_reducible first | exact HB.out | apply below_alloc | apply pw_below_drewN | apply below_drew1) | exact HB.out)⟩

/-- THE ONE PURE STATEMENT of spinneylaw01_NumTurns: yours. -/
def spinneylaw01_NumTurns.Pure : Prop := ∀ (a0 : Int) (a1 : Int), (Lit.int .i64 a0).wf = true → (Lit.int .i64 a1).wf = true → ∃ k, spinneylaw01_NumTurns.f k a0 a1 = some true
theorem spinneylaw01_NumTurns.walk (P : spinneylaw01_NumTurns.Pure) (a0 : Int) (a1 : Int) (w : World) (w0 : (Lit.int .i64 a0).wf = true) (w1 : (Lit.int .i64 a1).wf = true) :
    Calls Try.prog 8 #[.int .i64 a0, .int .i64 a1] w fun e w' => e = .returned (.bool true) ∧ Below w.heap.size w w' := by
  obtain ⟨k, h⟩ := P a0 a1 w0 w1
  refine (spinneylaw01_NumTurns.calls k a0 a1 true w h).mono ?_
  rintro e w' ⟨rfl, hd⟩
  exact ⟨rfl, hd⟩

/-! ### spinneyref01_Add: function 37 -/
def spinneyref01_Add.f (a0 : Int) (a1 : Int) : Option (Int × Int) := if a1 > 0 then (if a0 > (wrap64 (9223372036854775807 - a1)) then (some (0, 10)) else (if a1 < 0 then (if a0 < (wrap64 ((-9223372036854775808) - a1)) then (some (0, 10)) else (some (wrap64 (a0 + a1), 0))) else (some (wrap64 (a0 + a1), 0)))) else (if a1 < 0 then (if a0 < (wrap64 ((-9223372036854775808) - a1)) then (some (0, 10)) else (some (wrap64 (a0 + a1), 0))) else (some (wrap64 (a0 + a1), 0)))
set_option maxHeartbeats 8000000 in
set_option maxRecDepth 100000 in
theorem spinneyref01_Add.calls (a0 : Int) (a1 : Int) (r1 : Int) (r2 : Int) (w : World) (h : spinneyref01_Add.f a0 a1 = some (r1, r2)) :
    Calls Try.prog 37 #[.int .i64 a0, .int .i64 a1] w fun e w' => e = .returned (.tuple #[.int .i64 r1, .int .i64 r2]) ∧ Drawn0 w w' := by
  have H : (if a1 > 0 then (if a0 > (wrap64 (9223372036854775807 - a1)) then (some (0, 10)) else (if a1 < 0 then (if a0 < (wrap64 ((-9223372036854775808) - a1)) then (some (0, 10)) else (some (wrap64 (a0 + a1), 0))) else (some (wrap64 (a0 + a1), 0)))) else (if a1 < 0 then (if a0 < (wrap64 ((-9223372036854775808) - a1)) then (some (0, 10)) else (some (wrap64 (a0 + a1), 0))) else (some (wrap64 (a0 + a1), 0)))) = some (r1, r2) := h
  clear h
  by_cases c3 : a1 > 0
  · rw [if_pos c3] at H
    have c3b0 : decide (0 < a1) = true := decide_eq_true c3
    clear c3
    by_cases c4 : a0 > (wrap64 (9223372036854775807 - a1))
    · rw [if_pos c4] at H
      have c4b0 : decide ((wrap64 (9223372036854775807 - a1)) < a0) = true := decide_eq_true c4
      clear c4
      simp only [Option.some.injEq, Prod.mk.injEq] at H
      obtain ⟨rfl, rfl⟩ := H
      go_enter Try.func37, Try.ntmps37
      go_wp2
      go_ret2
      exact ⟨by first | rfl | (simp; done) | (simp [*]; done), by repeat (first | exact Drawn0.refl _ | apply Drawn0.step)⟩
    · rw [if_neg c4] at H
      have c4b0 : decide ((wrap64 (9223372036854775807 - a1)) < a0) = false := decide_eq_false c4
      clear c4
      by_cases c5 : a1 < 0
      · rw [if_pos c5] at H
        have c5b0 : decide (a1 < 0) = true := decide_eq_true c5
        clear c5
        by_cases c6 : a0 < (wrap64 ((-9223372036854775808) - a1))
        · rw [if_pos c6] at H
          have c6b0 : decide (a0 < (wrap64 ((-9223372036854775808) - a1))) = true := decide_eq_true c6
          clear c6
          simp only [Option.some.injEq, Prod.mk.injEq] at H
          obtain ⟨rfl, rfl⟩ := H
          go_enter Try.func37, Try.ntmps37
          go_wp2
          go_ret2
          exact ⟨by first | rfl | (simp; done) | (simp [*]; done), by repeat (first | exact Drawn0.refl _ | apply Drawn0.step)⟩
        · rw [if_neg c6] at H
          have c6b0 : decide (a0 < (wrap64 ((-9223372036854775808) - a1))) = false := decide_eq_false c6
          clear c6
          simp only [Option.some.injEq, Prod.mk.injEq] at H
          obtain ⟨rfl, rfl⟩ := H
          go_enter Try.func37, Try.ntmps37
          go_wp2
          go_ret2
          exact ⟨by first | rfl | (simp; done) | (simp [*]; done), by repeat (first | exact Drawn0.refl _ | apply Drawn0.step)⟩
      · rw [if_neg c5] at H
        have c5b0 : decide (a1 < 0) = false := decide_eq_false c5
        clear c5
        simp only [Option.some.injEq, Prod.mk.injEq] at H
        obtain ⟨rfl, rfl⟩ := H
        go_enter Try.func37, Try.ntmps37
        go_wp2
        go_ret2
        exact ⟨by first | rfl | (simp; done) | (simp [*]; done), by repeat (first | exact Drawn0.refl _ | apply Drawn0.step)⟩
  · rw [if_neg c3] at H
    have c3b0 : decide (0 < a1) = false := decide_eq_false c3
    clear c3
    by_cases c7 : a1 < 0
    · rw [if_pos c7] at H
      have c7b0 : decide (a1 < 0) = true := decide_eq_true c7
      clear c7
      by_cases c8 : a0 < (wrap64 ((-9223372036854775808) - a1))
      · rw [if_pos c8] at H
        have c8b0 : decide (a0 < (wrap64 ((-9223372036854775808) - a1))) = true := decide_eq_true c8
        clear c8
        simp only [Option.some.injEq, Prod.mk.injEq] at H
        obtain ⟨rfl, rfl⟩ := H
        go_enter Try.func37, Try.ntmps37
        go_wp2
        go_ret2
        exact ⟨by first | rfl | (simp; done) | (simp [*]; done), by repeat (first | exact Drawn0.refl _ | apply Drawn0.step)⟩
      · rw [if_neg c8] at H
        have c8b0 : decide (a0 < (wrap64 ((-9223372036854775808) - a1))) = false := decide_eq_false c8
        clear c8
        simp only [Option.some.injEq, Prod.mk.injEq] at H
        obtain ⟨rfl, rfl⟩ := H
        go_enter Try.func37, Try.ntmps37
        go_wp2
        go_ret2
        exact ⟨by first | rfl | (simp; done) | (simp [*]; done), by repeat (first | exact Drawn0.refl _ | apply Drawn0.step)⟩
    · rw [if_neg c7] at H
      have c7b0 : decide (a1 < 0) = false := decide_eq_false c7
      clear c7
      simp only [Option.some.injEq, Prod.mk.injEq] at H
      obtain ⟨rfl, rfl⟩ := H
      go_enter Try.func37, Try.ntmps37
      go_wp2
      go_ret2
      exact ⟨by first | rfl | (simp; done) | (simp [*]; done), by repeat (first | exact Drawn0.refl _ | apply Drawn0.step)⟩

/-! ### num_Sub: function 38 -/
def num_Sub.f (a0 : Int) (a1 : Int) : Option (Int × Int) := (num_over.f (wrap64 (a0 - a1)) (decide ((Go.bits .and .i64 (Go.bits .xor .i64 a0 a1) (Go.bits .xor .i64 a0 (wrap64 (a0 - a1)))) < 0))).bind fun bt228 => (some (bt228.1, bt228.2))
set_option maxHeartbeats 8000000 in
set_option maxRecDepth 100000 in
theorem num_Sub.calls (a0 : Int) (a1 : Int) (r1 : Int) (r2 : Int) (w : World) (h : num_Sub.f a0 a1 = some (r1, r2)) :
    Calls Try.prog 38 #[.int .i64 a0, .int .i64 a1] w fun e w' => e = .returned (.tuple #[.int .i64 r1, .int .i64 r2]) ∧ Drawn0 w w' := by
  have H : ((num_over.f (wrap64 (a0 - a1)) (decide ((Go.bits .and .i64 (Go.bits .xor .i64 a0 a1) (Go.bits .xor .i64 a0 (wrap64 (a0 - a1)))) < 0))).bind fun bt228 => (some (bt228.1, bt228.2))) = some (r1, r2) := h
  clear h
  replace H := Option.bind_eq_some_iff.mp H
  obtain ⟨⟨t228, t229⟩, A30, H⟩ := H
  replace H : (some (t228, t229)) = some (r1, r2) := H
  have A3 := Aside0.mk A30
  clear A30
  simp only [Option.some.injEq, Prod.mk.injEq] at H
  obtain ⟨rfl, rfl⟩ := H
  go_enter Try.func38, Try.ntmps38
  go_wp2_with (first | ((with_reducible refine gate_callee (f := 64) rfl ?_); refine goesL_ (some 19) rfl rfl Try.func64 (by kernel_rfl) rfl #[.int .i64 (wrap64 (a0 - a1)), .bool (decide ((Go.bits .and .i64 (Go.bits .xor .i64 a0 a1) (Go.bits .xor .i64 a0 (wrap64 (a0 - a1)))) < 0))] rfl (by (try simp only [List.map_toArray, List.map_cons, List.map_nil]); first | done | rfl | (simp only [List.length_drop, List.length_take]; rfl)) ?_; (with_reducible refine (num_over.calls (wrap64 (a0 - a1)) (decide ((Go.bits .and .i64 (Go.bits .xor .i64 a0 a1) (Go.bits .xor .i64 a0 (wrap64 (a0 - a1)))) < 0)) t228 t229 _ A3.out).mono ?_); rintro e w' ⟨rfl, ⟨nd, rfl⟩⟩; refine ⟨_, rfl, ?_⟩))
  go_ret2
  exact ⟨by first | rfl | (simp; done) | (simp [*]; done), by repeat (first | exact Drawn0.refl _ | apply Drawn0.step)⟩

end Go.Proofs.Ytjlfclhlfgjgcaa.P
