-- PRINTED by a program of this session over the kit's print.py.
import Derived.Test.YtjlfclhlfgjgcaaPx0
import Derived.Test.YtjlfclhlfgjgcaaPx1
import Derived.Test.YtjlfclhlfgjgcaaPx2
import Derived.Test.YtjlfclhlfgjgcaaPx5
import Derived.Test.YtjlfclhlfgjgcaaPx7
namespace Go.Proofs.Ytjlfclhlfgjgcaa.P
open Go.Own Go.RowKit Go.Proofs.YtjlfclhlfgjgcaaW.PrintWords Go.Proofs.YtjlfclhlfgjgcaaW.PrintLast Go.Proofs.YtjlfclhlfgjgcaaW.PrintMore
attribute [local go_sem] max2_int min2_int max_two min_two max_three min_three max_four min_four   -- for this text's walks alone
set_option linter.unusedVariables false
set_option linter.unusedSimpArgs false

/-! ### spinneylaw01_NumUndoes: function 10 -/
mutual
def spinneylaw01_NumUndoes.j0 : Nat → Int → Int → Bool → Option (Bool)
  | 0, _, _, _ => none
  | k + 1, x0, x1, x5 => (num_Quo.f x0 x1).bind fun bt251 => ((num_Rem.f x0 x1).bind fun bt253 => ((num_Mod.f x0 x1).bind fun bt255 => (if x1 = 0 then (if x5 = true then (if bt251.2 = 11 then (if bt253.2 = 11 then (some (bt255.2 == 11)) else (some false)) else (some false)) else (some false)) else (if bt253.2 = 0 then (if bt255.2 = 0 then (if bt255.1 = bt253.1 then (if bt255.1 = 0 then (spinneylaw01_NumUndoes.j1 k x0 x1 x5 bt251.1 bt251.2 bt253.1 false) else (spinneylaw01_NumUndoes.j1 k x0 x1 x5 bt251.1 bt251.2 bt253.1 ((decide (bt255.1 < 0)) != (decide (x1 < 0))))) else (if bt255.1 = (wrap64 (bt253.1 + x1)) then (if bt255.1 = 0 then (spinneylaw01_NumUndoes.j1 k x0 x1 x5 bt251.1 bt251.2 bt253.1 false) else (spinneylaw01_NumUndoes.j1 k x0 x1 x5 bt251.1 bt251.2 bt253.1 ((decide (bt255.1 < 0)) != (decide (x1 < 0))))) else (spinneylaw01_NumUndoes.j1 k x0 x1 x5 bt251.1 bt251.2 bt253.1 true))) else (spinneylaw01_NumUndoes.j1 k x0 x1 x5 bt251.1 bt251.2 bt253.1 true)) else (spinneylaw01_NumUndoes.j1 k x0 x1 x5 bt251.1 bt251.2 bt253.1 true)))))
def spinneylaw01_NumUndoes.j1 : Nat → Int → Int → Bool → Int → Int → Int → Bool → Option (Bool)
  | 0, _, _, _, _, _, _, _ => none
  | k + 1, x0, x1, x5, x10, x11, x12, x103 => if x103 = true then (some false) else (if x11 = 0 then ((num_Mul.f x10 x1).bind fun bt257 => ((num_Add.f bt257.1 x12).bind fun bt259 => (if x5 = true then (if bt257.2 = 0 then (if bt259.2 = 0 then (if bt259.1 = x0 then (if x12 = 0 then (some true) else (some ((decide (x12 < 0)) == (decide (x0 < 0))))) else (some false)) else (some false)) else (some false)) else (some false)))) else (if x5 = true then (if x11 = 10 then (some (x1 == (-1))) else (some false)) else (some false)))
end
def spinneylaw01_NumUndoes.f (k : Nat) (a0 : Int) (a1 : Int) : Option (Bool) := (spinneylaw01_live.f).bind fun t246 => ((num_Add.f a0 a1).bind fun bt247 => (if bt247.2 = 0 then ((num_Sub.f bt247.1 a1).bind fun bt249 => (if bt249.2 = 0 then (if bt249.1 = a0 then (spinneylaw01_NumUndoes.j0 k a0 a1 t246) else (some false)) else (some false))) else (spinneylaw01_NumUndoes.j0 k a0 a1 t246)))
theorem spinneylaw01_NumUndoes.mono_l : ∀ k, (∀ y0 y1 y2, LeO (spinneylaw01_NumUndoes.j0 k y0 y1 y2) (spinneylaw01_NumUndoes.j0 (k + 1) y0 y1 y2)) ∧ (∀ y0 y1 y2 y3 y4 y5 y6, LeO (spinneylaw01_NumUndoes.j1 k y0 y1 y2 y3 y4 y5 y6) (spinneylaw01_NumUndoes.j1 (k + 1) y0 y1 y2 y3 y4 y5 y6))
  | 0 => ⟨fun _ _ _ r h => by simp [spinneylaw01_NumUndoes.j0] at h, fun _ _ _ _ _ _ _ r h => by simp [spinneylaw01_NumUndoes.j1] at h⟩
  | k + 1 => by
    obtain ⟨ih0, ih1⟩ := spinneylaw01_NumUndoes.mono_l k
    refine ⟨?_, ?_⟩
    · intro y0 y1 y2
      unfold spinneylaw01_NumUndoes.j0
      repeat' first
      | (with_reducible exact ih0 _ _ _)
      | (with_reducible exact ih1 _ _ _ _ _ _ _)
      | (with_reducible exact LeO.refl _)
      | (with_reducible exact LeO.none _)
      | (with_reducible refine LeO.ite ?_ ?_)
      | (with_reducible refine LeO.bind ?_ (fun _ => ?_))
      | exact ih0 _ _ _
      | exact ih1 _ _ _ _ _ _ _
      | exact LeO.none _
      | refine LeO.ite ?_ ?_
      | refine LeO.bind ?_ (fun _ => ?_)
    · intro y0 y1 y2 y3 y4 y5 y6
      unfold spinneylaw01_NumUndoes.j1
      repeat' first
      | (with_reducible exact ih0 _ _ _)
      | (with_reducible exact ih1 _ _ _ _ _ _ _)
      | (with_reducible exact LeO.refl _)
      | (with_reducible exact LeO.none _)
      | (with_reducible refine LeO.ite ?_ ?_)
      | (with_reducible refine LeO.bind ?_ (fun _ => ?_))
      | exact ih0 _ _ _
      | exact ih1 _ _ _ _ _ _ _
      | exact LeO.none _
      | refine LeO.ite ?_ ?_
      | refine LeO.bind ?_ (fun _ => ?_)
theorem spinneylaw01_NumUndoes.mono : ∀ a0 a1 k, LeO (spinneylaw01_NumUndoes.f k a0 a1) (spinneylaw01_NumUndoes.f (k + 1) a0 a1) := by
  intro a0 a1 k
  obtain ⟨ih0, ih1⟩ := spinneylaw01_NumUndoes.mono_l k
  unfold spinneylaw01_NumUndoes.f
  repeat' first
      | (with_reducible exact ih0 _ _ _)
      | (with_reducible exact ih1 _ _ _ _ _ _ _)
      | (with_reducible exact LeO.refl _)
      | (with_reducible exact LeO.none _)
      | (with_reducible refine LeO.ite ?_ ?_)
      | (with_reducible refine LeO.bind ?_ (fun _ => ?_))
      | exact ih0 _ _ _
      | exact ih1 _ _ _ _ _ _ _
      | exact LeO.none _
      | refine LeO.ite ?_ ?_
      | refine LeO.bind ?_ (fun _ => ?_)
set_option maxHeartbeats 8000000 in
set_option maxRecDepth 100000 in
theorem spinneylaw01_NumUndoes.calls (k : Nat) (a0 : Int) (a1 : Int) (r : Bool) (w : World) (h : spinneylaw01_NumUndoes.f k a0 a1 = some r) :
    Calls Try.prog 10 #[.int .i64 a0, .int .i64 a1] w fun e w' => e = .returned (.bool r) ∧ Below w.heap.size w w' := by
  have HB := Aside0.mk (Below.refl w.heap.size w)
  have H : ((spinneylaw01_live.f).bind fun t246 => ((num_Add.f a0 a1).bind fun bt247 => (if bt247.2 = 0 then ((num_Sub.f bt247.1 a1).bind fun bt249 => (if bt249.2 = 0 then (if bt249.1 = a0 then (spinneylaw01_NumUndoes.j0 k a0 a1 t246) else (some false)) else (some false))) else (spinneylaw01_NumUndoes.j0 k a0 a1 t246)))) = some r := h
  clear h
  replace H := Option.bind_eq_some_iff.mp H
  obtain ⟨t246, A30, H⟩ := H
  replace H : ((num_Add.f a0 a1).bind fun bt247 => (if bt247.2 = 0 then ((num_Sub.f bt247.1 a1).bind fun bt249 => (if bt249.2 = 0 then (if bt249.1 = a0 then (spinneylaw01_NumUndoes.j0 k a0 a1 t246) else (some false)) else (some false))) else (spinneylaw01_NumUndoes.j0 k a0 a1 t246))) = some r := H
  have A3 := Aside0.mk A30
  clear A30
  replace H := Option.bind_eq_some_iff.mp H
  obtain ⟨⟨t247, t248⟩, A40, H⟩ := H
  replace H : (if t248 = 0 then ((num_Sub.f t247 a1).bind fun bt249 => (if bt249.2 = 0 then (if bt249.1 = a0 then (spinneylaw01_NumUndoes.j0 k a0 a1 t246) else (some false)) else (some false))) else (spinneylaw01_NumUndoes.j0 k a0 a1 t246)) = some r := H
  have A4 := Aside0.mk A40
  clear A40
  have HC5 := Aside0.mk H
  clear H
  go_enter Try.func10, Try.ntmps10
  go_upto_if 28 with (first | ((with_reducible refine gate_callee (f := 22) rfl ?_); refine goesL_ (some 20) rfl rfl Try.func22 (by kernel_rfl) rfl #[] rfl (by (try simp only [List.map_toArray, List.map_cons, List.map_nil]); first | done | rfl | (simp only [List.length_drop, List.length_take]; rfl)) ?_; (with_reducible refine (spinneylaw01_live.calls  t246 _ A3.out).mono ?_); rintro e w6 ⟨rfl, hb⟩; refine ⟨_, rfl, ?_⟩; have n0_ := Aside0.mk (below_step (by repeat (first | (with_reducible first | exact HB.out | apply below_alloc | apply pw_below_drewN | apply below_drew1) | exact HB.out)) hb); clear HB; have HB := n0_; clear n0_; (try clear hb); (try clear hb2); (try clear hk); (try clear hi)) | ((with_reducible refine gate_callee (f := 27) rfl ?_); refine goesL_ (some 24) rfl rfl Try.func27 (by kernel_rfl) rfl #[.int .i64 a0, .int .i64 a1] rfl (by (try simp only [List.map_toArray, List.map_cons, List.map_nil]); first | done | rfl | (simp only [List.length_drop, List.length_take]; rfl)) ?_; (with_reducible refine (num_Add.calls a0 a1 t247 t248 _ A4.out).mono ?_); rintro e w' ⟨rfl, ⟨nd, rfl⟩⟩; refine ⟨_, rfl, ?_⟩))
  (try simp only [Act.put, List.setIfInBounds_toArray, List.set_cons_zero, List.set_cons_succ])
  go_cut [] (fun wc => ∃ (kq : Nat), Aside0 (spinneylaw01_NumUndoes.j0 kq a0 a1 t246 = some r) ∧ Aside0 (kq ≤ k) ∧ Aside0 (Below w.heap.size w wc))
  case first =>
    have H := HC5.out
    clear HC5
    by_cases c7 : t248 = 0
    · rw [if_pos c7] at H
      have c7b0 : (t248 == 0) = true := beq_iff_eq.mpr c7
      have c7b1 : (t248 != 0) = false := bne_eq_false_iff_eq.mpr c7
      clear c7
      (first | rw [c7b0] | (simp only [i64_w, i32_w]; rw [c7b0]) | skip)
      replace H := Option.bind_eq_some_iff.mp H
      obtain ⟨⟨t249, t250⟩, A80, H⟩ := H
      replace H : (if t250 = 0 then (if t249 = a0 then (spinneylaw01_NumUndoes.j0 k a0 a1 t246) else (some false)) else (some false)) = some r := H
      have A8 := Aside0.mk A80
      clear A80
      by_cases c9 : t250 = 0
      · rw [if_pos c9] at H
        have c9b0 : (t250 == 0) = true := beq_iff_eq.mpr c9
        have c9b1 : (t250 != 0) = false := bne_eq_false_iff_eq.mpr c9
        clear c9
        by_cases c10 : t249 = a0
        · rw [if_pos c10] at H
          have c10b0 : (t249 == a0) = true := beq_iff_eq.mpr c10
          have c10b1 : (t249 != a0) = false := bne_eq_false_iff_eq.mpr c10
          clear c10
          have H' := Aside0.mk H
          clear H
          go_wp2_with (first | ((with_reducible refine gate_callee (f := 38) rfl ?_); refine goesL_ (some 32) rfl rfl Try.func38 (by kernel_rfl) rfl #[.int .i64 t247, .int .i64 a1] rfl (by (try simp only [List.map_toArray, List.map_cons, List.map_nil]); first | done | rfl | (simp only [List.length_drop, List.length_take]; rfl)) ?_; (with_reducible refine (num_Sub.calls t247 a1 t249 t250 _ A8.out).mono ?_); rintro e w' ⟨rfl, ⟨nd, rfl⟩⟩; refine ⟨_, rfl, ?_⟩))
          go_meet
          case rel => exact ⟨_, H', ⟨by first | omega | exact Nat.le_refl _⟩, ⟨by repeat (first | (with_reducible first | exact HB.out | apply below_alloc | apply pw_below_drewN | apply below_drew1) | exact HB.out)⟩⟩
        · rw [if_neg c10] at H
          have c10b0 : (t249 == a0) = false := beq_eq_false_iff_ne.mpr c10
          have c10b1 : (t249 != a0) = true := bne_iff_ne.mpr c10
          obtain rfl := Option.some.inj H
          go_wp2_with (first | ((with_reducible refine gate_callee (f := 38) rfl ?_); refine goesL_ (some 32) rfl rfl Try.func38 (by kernel_rfl) rfl #[.int .i64 t247, .int .i64 a1] rfl (by (try simp only [List.map_toArray, List.map_cons, List.map_nil]); first | done | rfl | (simp only [List.length_drop, List.length_take]; rfl)) ?_; (with_reducible refine (num_Sub.calls t247 a1 t249 t250 _ A8.out).mono ?_); rintro e w' ⟨rfl, ⟨nd, rfl⟩⟩; refine ⟨_, rfl, ?_⟩))
          go_ret
          exact ⟨by first | rfl | (simp [errW_none, errW_some] <;> rfl) | (simp [*, errW_none, errW_some] <;> rfl), by repeat (first | (with_reducible first | exact HB.out | apply below_alloc | apply pw_below_drewN | apply below_drew1) | exact HB.out)⟩
      · rw [if_neg c9] at H
        have c9b0 : (t250 == 0) = false := beq_eq_false_iff_ne.mpr c9
        have c9b1 : (t250 != 0) = true := bne_iff_ne.mpr c9
        obtain rfl := Option.some.inj H
        go_wp2_with (first | ((with_reducible refine gate_callee (f := 38) rfl ?_); refine goesL_ (some 32) rfl rfl Try.func38 (by kernel_rfl) rfl #[.int .i64 t247, .int .i64 a1] rfl (by (try simp only [List.map_toArray, List.map_cons, List.map_nil]); first | done | rfl | (simp only [List.length_drop, List.length_take]; rfl)) ?_; (with_reducible refine (num_Sub.calls t247 a1 t249 t250 _ A8.out).mono ?_); rintro e w' ⟨rfl, ⟨nd, rfl⟩⟩; refine ⟨_, rfl, ?_⟩))
        go_ret
        exact ⟨by first | rfl | (simp [errW_none, errW_some] <;> rfl) | (simp [*, errW_none, errW_some] <;> rfl), by repeat (first | (with_reducible first | exact HB.out | apply below_alloc | apply pw_below_drewN | apply below_drew1) | exact HB.out)⟩
    · rw [if_neg c7] at H
      have c7b0 : (t248 == 0) = false := beq_eq_false_iff_ne.mpr c7
      have c7b1 : (t248 != 0) = true := bne_iff_ne.mpr c7
      (first | rw [c7b0] | (simp only [i64_w, i32_w]; rw [c7b0]) | skip)
      have H' := Aside0.mk H
      clear H
      go_wp2
      go_meet
      case rel => exact ⟨_, H', ⟨by first | omega | exact Nat.le_refl _⟩, ⟨by repeat (first | (with_reducible first | exact HB.out | apply below_alloc | apply pw_below_drewN | apply below_drew1) | exact HB.out)⟩⟩
  case rest =>
    clear HC5
    try clear c1
    try clear c2
    try clear p2
    try clear c3
    try clear c7
    try clear c7b0
    try clear c7b1
    try clear c9
    try clear c9b0
    try clear c9b1
    try clear c10
    try clear c10b0
    try clear c10b1
    obtain ⟨kq, HA, HJ4, HB⟩ := hcut
    cases kq with
    | zero => exact absurd HA.out (by simp [spinneylaw01_NumUndoes.j0])
    | succ kj4 =>
      have H := HA.out
      clear HA
      simp only [spinneylaw01_NumUndoes.j0] at H
      replace H := Option.bind_eq_some_iff.mp H
      obtain ⟨⟨t251, t252⟩, A110, H⟩ := H
      replace H : ((num_Rem.f a0 a1).bind fun bt253 => ((num_Mod.f a0 a1).bind fun bt255 => (if a1 = 0 then (if t246 = true then (if t252 = 11 then (if bt253.2 = 11 then (some (bt255.2 == 11)) else (some false)) else (some false)) else (some false)) else (if bt253.2 = 0 then (if bt255.2 = 0 then (if bt255.1 = bt253.1 then (if bt255.1 = 0 then (spinneylaw01_NumUndoes.j1 kj4 a0 a1 t246 t251 t252 bt253.1 false) else (spinneylaw01_NumUndoes.j1 kj4 a0 a1 t246 t251 t252 bt253.1 ((decide (bt255.1 < 0)) != (decide (a1 < 0))))) else (if bt255.1 = (wrap64 (bt253.1 + a1)) then (if bt255.1 = 0 then (spinneylaw01_NumUndoes.j1 kj4 a0 a1 t246 t251 t252 bt253.1 false) else (spinneylaw01_NumUndoes.j1 kj4 a0 a1 t246 t251 t252 bt253.1 ((decide (bt255.1 < 0)) != (decide (a1 < 0))))) else (spinneylaw01_NumUndoes.j1 kj4 a0 a1 t246 t251 t252 bt253.1 true))) else (spinneylaw01_NumUndoes.j1 kj4 a0 a1 t246 t251 t252 bt253.1 true)) else (spinneylaw01_NumUndoes.j1 kj4 a0 a1 t246 t251 t252 bt253.1 true))))) = some r := H
      have A11 := Aside0.mk A110
      clear A110
      replace H := Option.bind_eq_some_iff.mp H
      obtain ⟨⟨t253, t254⟩, A120, H⟩ := H
      replace H : ((num_Mod.f a0 a1).bind fun bt255 => (if a1 = 0 then (if t246 = true then (if t252 = 11 then (if t254 = 11 then (some (bt255.2 == 11)) else (some false)) else (some false)) else (some false)) else (if t254 = 0 then (if bt255.2 = 0 then (if bt255.1 = t253 then (if bt255.1 = 0 then (spinneylaw01_NumUndoes.j1 kj4 a0 a1 t246 t251 t252 t253 false) else (spinneylaw01_NumUndoes.j1 kj4 a0 a1 t246 t251 t252 t253 ((decide (bt255.1 < 0)) != (decide (a1 < 0))))) else (if bt255.1 = (wrap64 (t253 + a1)) then (if bt255.1 = 0 then (spinneylaw01_NumUndoes.j1 kj4 a0 a1 t246 t251 t252 t253 false) else (spinneylaw01_NumUndoes.j1 kj4 a0 a1 t246 t251 t252 t253 ((decide (bt255.1 < 0)) != (decide (a1 < 0))))) else (spinneylaw01_NumUndoes.j1 kj4 a0 a1 t246 t251 t252 t253 true))) else (spinneylaw01_NumUndoes.j1 kj4 a0 a1 t246 t251 t252 t253 true)) else (spinneylaw01_NumUndoes.j1 kj4 a0 a1 t246 t251 t252 t253 true)))) = some r := H
      have A12 := Aside0.mk A120
      clear A120
      replace H := Option.bind_eq_some_iff.mp H
      obtain ⟨⟨t255, t256⟩, A130, H⟩ := H
      replace H : (if a1 = 0 then (if t246 = true then (if t252 = 11 then (if t254 = 11 then (some (t256 == 11)) else (some false)) else (some false)) else (some false)) else (if t254 = 0 then (if t256 = 0 then (if t255 = t253 then (if t255 = 0 then (spinneylaw01_NumUndoes.j1 kj4 a0 a1 t246 t251 t252 t253 false) else (spinneylaw01_NumUndoes.j1 kj4 a0 a1 t246 t251 t252 t253 ((decide (t255 < 0)) != (decide (a1 < 0))))) else (if t255 = (wrap64 (t253 + a1)) then (if t255 = 0 then (spinneylaw01_NumUndoes.j1 kj4 a0 a1 t246 t251 t252 t253 false) else (spinneylaw01_NumUndoes.j1 kj4 a0 a1 t246 t251 t252 t253 ((decide (t255 < 0)) != (decide (a1 < 0))))) else (spinneylaw01_NumUndoes.j1 kj4 a0 a1 t246 t251 t252 t253 true))) else (spinneylaw01_NumUndoes.j1 kj4 a0 a1 t246 t251 t252 t253 true)) else (spinneylaw01_NumUndoes.j1 kj4 a0 a1 t246 t251 t252 t253 true))) = some r := H
      have A13 := Aside0.mk A130
      clear A130
      by_cases c14 : a1 = 0
      · rw [if_pos c14] at H
        have c14b0 : (a1 == 0) = true := beq_iff_eq.mpr c14
        have c14b1 : (a1 != 0) = false := bne_eq_false_iff_eq.mpr c14
        clear c14
        by_cases c15 : t246 = true
        · subst c15
          have H1 : (if t252 = 11 then (if t254 = 11 then (some (t256 == 11)) else (some false)) else (some false)) = some r := by rw [if_pos rfl] at H; exact H
          clear H
          have H := H1
          clear H1
          by_cases c16 : t252 = 11
          · rw [if_pos c16] at H
            have c16b0 : (t252 == 11) = true := beq_iff_eq.mpr c16
            have c16b1 : (t252 != 11) = false := bne_eq_false_iff_eq.mpr c16
            clear c16
            by_cases c17 : t254 = 11
            · rw [if_pos c17] at H
              have c17b0 : (t254 == 11) = true := beq_iff_eq.mpr c17
              have c17b1 : (t254 != 11) = false := bne_eq_false_iff_eq.mpr c17
              clear c17
              obtain rfl := Option.some.inj H
              go_wp2_with (first | ((with_reducible refine gate_callee (f := 15) rfl ?_); refine goesL_ (some 45) rfl rfl Try.func15 (by kernel_rfl) rfl #[.int .i64 a0, .int .i64 a1] rfl (by (try simp only [List.map_toArray, List.map_cons, List.map_nil]); first | done | rfl | (simp only [List.length_drop, List.length_take]; rfl)) ?_; (with_reducible refine (num_Quo.calls a0 a1 t251 t252 _ A11.out).mono ?_); rintro e w' ⟨rfl, ⟨nd, rfl⟩⟩; refine ⟨_, rfl, ?_⟩) | ((with_reducible refine gate_callee (f := 18) rfl ?_); refine goesL_ (some 51) rfl rfl Try.func18 (by kernel_rfl) rfl #[.int .i64 a0, .int .i64 a1] rfl (by (try simp only [List.map_toArray, List.map_cons, List.map_nil]); first | done | rfl | (simp only [List.length_drop, List.length_take]; rfl)) ?_; (with_reducible refine (num_Rem.calls a0 a1 t253 t254 _ A12.out).mono ?_); rintro e w' ⟨rfl, ⟨nd, rfl⟩⟩; refine ⟨_, rfl, ?_⟩) | ((with_reducible refine gate_callee (f := 20) rfl ?_); refine goesL_ (some 57) rfl rfl Try.func20 (by kernel_rfl) rfl #[.int .i64 a0, .int .i64 a1] rfl (by (try simp only [List.map_toArray, List.map_cons, List.map_nil]); first | done | rfl | (simp only [List.length_drop, List.length_take]; rfl)) ?_; (with_reducible refine (num_Mod.calls a0 a1 t255 t256 _ A13.out).mono ?_); rintro e w' ⟨rfl, ⟨nd, rfl⟩⟩; refine ⟨_, rfl, ?_⟩))
              go_ret
              exact ⟨by first | rfl | (simp [errW_none, errW_some] <;> rfl) | (simp [*, errW_none, errW_some] <;> rfl), by repeat (first | (with_reducible first | exact HB.out | apply below_alloc | apply pw_below_drewN | apply below_drew1) | exact HB.out)⟩
            · rw [if_neg c17] at H
              have c17b0 : (t254 == 11) = false := beq_eq_false_iff_ne.mpr c17
              have c17b1 : (t254 != 11) = true := bne_iff_ne.mpr c17
              obtain rfl := Option.some.inj H
              go_wp2_with (first | ((with_reducible refine gate_callee (f := 15) rfl ?_); refine goesL_ (some 45) rfl rfl Try.func15 (by kernel_rfl) rfl #[.int .i64 a0, .int .i64 a1] rfl (by (try simp only [List.map_toArray, List.map_cons, List.map_nil]); first | done | rfl | (simp only [List.length_drop, List.length_take]; rfl)) ?_; (with_reducible refine (num_Quo.calls a0 a1 t251 t252 _ A11.out).mono ?_); rintro e w' ⟨rfl, ⟨nd, rfl⟩⟩; refine ⟨_, rfl, ?_⟩) | ((with_reducible refine gate_callee (f := 18) rfl ?_); refine goesL_ (some 51) rfl rfl Try.func18 (by kernel_rfl) rfl #[.int .i64 a0, .int .i64 a1] rfl (by (try simp only [List.map_toArray, List.map_cons, List.map_nil]); first | done | rfl | (simp only [List.length_drop, List.length_take]; rfl)) ?_; (with_reducible refine (num_Rem.calls a0 a1 t253 t254 _ A12.out).mono ?_); rintro e w' ⟨rfl, ⟨nd, rfl⟩⟩; refine ⟨_, rfl, ?_⟩) | ((with_reducible refine gate_callee (f := 20) rfl ?_); refine goesL_ (some 57) rfl rfl Try.func20 (by kernel_rfl) rfl #[.int .i64 a0, .int .i64 a1] rfl (by (try simp only [List.map_toArray, List.map_cons, List.map_nil]); first | done | rfl | (simp only [List.length_drop, List.length_take]; rfl)) ?_; (with_reducible refine (num_Mod.calls a0 a1 t255 t256 _ A13.out).mono ?_); rintro e w' ⟨rfl, ⟨nd, rfl⟩⟩; refine ⟨_, rfl, ?_⟩))
              go_ret
              exact ⟨by first | rfl | (simp [errW_none, errW_some] <;> rfl) | (simp [*, errW_none, errW_some] <;> rfl), by repeat (first | (with_reducible first | exact HB.out | apply below_alloc | apply pw_below_drewN | apply below_drew1) | exact HB.out)⟩
          · rw [if_neg c16] at H
            have c16b0 : (t252 == 11) = false := beq_eq_false_iff_ne.mpr c16
            have c16b1 : (t252 != 11) = true := bne_iff_ne.mpr c16
            obtain rfl := Option.some.inj H
            go_wp2_with (first | ((with_reducible refine gate_callee (f := 15) rfl ?_); refine goesL_ (some 45) rfl rfl Try.func15 (by kernel_rfl) rfl #[.int .i64 a0, .int .i64 a1] rfl (by (try simp only [List.map_toArray, List.map_cons, List.map_nil]); first | done | rfl | (simp only [List.length_drop, List.length_take]; rfl)) ?_; (with_reducible refine (num_Quo.calls a0 a1 t251 t252 _ A11.out).mono ?_); rintro e w' ⟨rfl, ⟨nd, rfl⟩⟩; refine ⟨_, rfl, ?_⟩) | ((with_reducible refine gate_callee (f := 18) rfl ?_); refine goesL_ (some 51) rfl rfl Try.func18 (by kernel_rfl) rfl #[.int .i64 a0, .int .i64 a1] rfl (by (try simp only [List.map_toArray, List.map_cons, List.map_nil]); first | done | rfl | (simp only [List.length_drop, List.length_take]; rfl)) ?_; (with_reducible refine (num_Rem.calls a0 a1 t253 t254 _ A12.out).mono ?_); rintro e w' ⟨rfl, ⟨nd, rfl⟩⟩; refine ⟨_, rfl, ?_⟩) | ((with_reducible refine gate_callee (f := 20) rfl ?_); refine goesL_ (some 57) rfl rfl Try.func20 (by kernel_rfl) rfl #[.int .i64 a0, .int .i64 a1] rfl (by (try simp only [List.map_toArray, List.map_cons, List.map_nil]); first | done | rfl | (simp only [List.length_drop, List.length_take]; rfl)) ?_; (with_reducible refine (num_Mod.calls a0 a1 t255 t256 _ A13.out).mono ?_); rintro e w' ⟨rfl, ⟨nd, rfl⟩⟩; refine ⟨_, rfl, ?_⟩))
            go_ret
            exact ⟨by first | rfl | (simp [errW_none, errW_some] <;> rfl) | (simp [*, errW_none, errW_some] <;> rfl), by repeat (first | (with_reducible first | exact HB.out | apply below_alloc | apply pw_below_drewN | apply below_drew1) | exact HB.out)⟩
        · replace c15 := Bool.eq_false_iff.mpr c15
          subst c15
          have H1 : (some false) = some r := by rw [if_neg (show ¬ (false = true) by decide)] at H; exact H
          clear H
          have H := H1
          clear H1
          obtain rfl := Option.some.inj H
          go_wp2_with (first | ((with_reducible refine gate_callee (f := 15) rfl ?_); refine goesL_ (some 45) rfl rfl Try.func15 (by kernel_rfl) rfl #[.int .i64 a0, .int .i64 a1] rfl (by (try simp only [List.map_toArray, List.map_cons, List.map_nil]); first | done | rfl | (simp only [List.length_drop, List.length_take]; rfl)) ?_; (with_reducible refine (num_Quo.calls a0 a1 t251 t252 _ A11.out).mono ?_); rintro e w' ⟨rfl, ⟨nd, rfl⟩⟩; refine ⟨_, rfl, ?_⟩) | ((with_reducible refine gate_callee (f := 18) rfl ?_); refine goesL_ (some 51) rfl rfl Try.func18 (by kernel_rfl) rfl #[.int .i64 a0, .int .i64 a1] rfl (by (try simp only [List.map_toArray, List.map_cons, List.map_nil]); first | done | rfl | (simp only [List.length_drop, List.length_take]; rfl)) ?_; (with_reducible refine (num_Rem.calls a0 a1 t253 t254 _ A12.out).mono ?_); rintro e w' ⟨rfl, ⟨nd, rfl⟩⟩; refine ⟨_, rfl, ?_⟩) | ((with_reducible refine gate_callee (f := 20) rfl ?_); refine goesL_ (some 57) rfl rfl Try.func20 (by kernel_rfl) rfl #[.int .i64 a0, .int .i64 a1] rfl (by (try simp only [List.map_toArray, List.map_cons, List.map_nil]); first | done | rfl | (simp only [List.length_drop, List.length_take]; rfl)) ?_; (with_reducible refine (num_Mod.calls a0 a1 t255 t256 _ A13.out).mono ?_); rintro e w' ⟨rfl, ⟨nd, rfl⟩⟩; refine ⟨_, rfl, ?_⟩))
          go_ret
          exact ⟨by first | rfl | (simp [errW_none, errW_some] <;> rfl) | (simp [*, errW_none, errW_some] <;> rfl), by repeat (first | (with_reducible first | exact HB.out | apply below_alloc | apply pw_below_drewN | apply below_drew1) | exact HB.out)⟩
      · rw [if_neg c14] at H
        have c14b0 : (a1 == 0) = false := beq_eq_false_iff_ne.mpr c14
        have c14b1 : (a1 != 0) = true := bne_iff_ne.mpr c14
        have HC18 := Aside0.mk H
        clear H
        go_upto_region 12 with (first | ((with_reducible refine gate_callee (f := 15) rfl ?_); refine goesL_ (some 45) rfl rfl Try.func15 (by kernel_rfl) rfl #[.int .i64 a0, .int .i64 a1] rfl (by (try simp only [List.map_toArray, List.map_cons, List.map_nil]); first | done | rfl | (simp only [List.length_drop, List.length_take]; rfl)) ?_; (with_reducible refine (num_Quo.calls a0 a1 t251 t252 _ A11.out).mono ?_); rintro e w' ⟨rfl, ⟨nd, rfl⟩⟩; refine ⟨_, rfl, ?_⟩) | ((with_reducible refine gate_callee (f := 18) rfl ?_); refine goesL_ (some 51) rfl rfl Try.func18 (by kernel_rfl) rfl #[.int .i64 a0, .int .i64 a1] rfl (by (try simp only [List.map_toArray, List.map_cons, List.map_nil]); first | done | rfl | (simp only [List.length_drop, List.length_take]; rfl)) ?_; (with_reducible refine (num_Rem.calls a0 a1 t253 t254 _ A12.out).mono ?_); rintro e w' ⟨rfl, ⟨nd, rfl⟩⟩; refine ⟨_, rfl, ?_⟩) | ((with_reducible refine gate_callee (f := 20) rfl ?_); refine goesL_ (some 57) rfl rfl Try.func20 (by kernel_rfl) rfl #[.int .i64 a0, .int .i64 a1] rfl (by (try simp only [List.map_toArray, List.map_cons, List.map_nil]); first | done | rfl | (simp only [List.length_drop, List.length_take]; rfl)) ?_; (with_reducible refine (num_Mod.calls a0 a1 t255 t256 _ A13.out).mono ?_); rintro e w' ⟨rfl, ⟨nd, rfl⟩⟩; refine ⟨_, rfl, ?_⟩))
        (try simp only [Act.put, List.setIfInBounds_toArray, List.set_cons_zero, List.set_cons_succ])
        go_cut [103] (fun v103 wc => ∃ (kq : Nat) (x103_17 : Bool), v103 = .bool x103_17 ∧ Aside0 (spinneylaw01_NumUndoes.j1 kq a0 a1 t246 t251 t252 t253 x103_17 = some r) ∧ Aside0 (kq ≤ kj4) ∧ Aside0 (Below w.heap.size w wc))
        case first =>
          have H := HC18.out
          clear HC18
          by_cases c19 : t254 = 0
          · rw [if_pos c19] at H
            have c19b0 : (t254 == 0) = true := beq_iff_eq.mpr c19
            have c19b1 : (t254 != 0) = false := bne_eq_false_iff_eq.mpr c19
            clear c19
            (first | rw [c19b0] | (simp only [i64_w, i32_w]; rw [c19b0]) | skip)
            by_cases c20 : t256 = 0
            · rw [if_pos c20] at H
              have c20b0 : (t256 == 0) = true := beq_iff_eq.mpr c20
              have c20b1 : (t256 != 0) = false := bne_eq_false_iff_eq.mpr c20
              clear c20
              by_cases c21 : t255 = t253
              · rw [if_pos c21] at H
                have c21b0 : (t255 == t253) = true := beq_iff_eq.mpr c21
                have c21b1 : (t255 != t253) = false := bne_eq_false_iff_eq.mpr c21
                clear c21
                by_cases c22 : t255 = 0
                · rw [if_pos c22] at H
                  have c22b0 : (t255 == 0) = true := beq_iff_eq.mpr c22
                  have c22b1 : (t255 != 0) = false := bne_eq_false_iff_eq.mpr c22
                  clear c22
                  have H' := Aside0.mk H
                  clear H
                  go_wp2
                  go_meet
                  case rel => exact ⟨_, (false), (by first | rfl | (simp; done) | (simp [*]; done)), H', ⟨by have := HJ4.out; first | omega | exact Nat.le_refl _⟩, ⟨by repeat (first | (with_reducible first | exact HB.out | apply below_alloc | apply pw_below_drewN | apply below_drew1) | exact HB.out)⟩⟩
                · rw [if_neg c22] at H
                  have c22b0 : (t255 == 0) = false := beq_eq_false_iff_ne.mpr c22
                  have c22b1 : (t255 != 0) = true := bne_iff_ne.mpr c22
                  have H' := Aside0.mk H
                  clear H
                  go_wp2
                  go_meet
                  case rel => exact ⟨_, (((decide (t255 < 0)) != (decide (a1 < 0)))), (by first | rfl | (simp; done) | (simp [*]; done)), H', ⟨by have := HJ4.out; first | omega | exact Nat.le_refl _⟩, ⟨by repeat (first | (with_reducible first | exact HB.out | apply below_alloc | apply pw_below_drewN | apply below_drew1) | exact HB.out)⟩⟩
              · rw [if_neg c21] at H
                have c21b0 : (t255 == t253) = false := beq_eq_false_iff_ne.mpr c21
                have c21b1 : (t255 != t253) = true := bne_iff_ne.mpr c21
                by_cases c23 : t255 = (wrap64 (t253 + a1))
                · rw [if_pos c23] at H
                  have c23b0 : (t255 == (wrap64 (t253 + a1))) = true := beq_iff_eq.mpr c23
                  have c23b1 : (t255 != (wrap64 (t253 + a1))) = false := bne_eq_false_iff_eq.mpr c23
                  clear c23
                  by_cases c24 : t255 = 0
                  · rw [if_pos c24] at H
                    have c24b0 : (t255 == 0) = true := beq_iff_eq.mpr c24
                    have c24b1 : (t255 != 0) = false := bne_eq_false_iff_eq.mpr c24
                    clear c24
                    have H' := Aside0.mk H
                    clear H
                    go_wp2
                    go_meet
                    case rel => exact ⟨_, (false), (by first | rfl | (simp; done) | (simp [*]; done)), H', ⟨by have := HJ4.out; first | omega | exact Nat.le_refl _⟩, ⟨by repeat (first | (with_reducible first | exact HB.out | apply below_alloc | apply pw_below_drewN | apply below_drew1) | exact HB.out)⟩⟩
                  · rw [if_neg c24] at H
                    have c24b0 : (t255 == 0) = false := beq_eq_false_iff_ne.mpr c24
                    have c24b1 : (t255 != 0) = true := bne_iff_ne.mpr c24
                    have H' := Aside0.mk H
                    clear H
                    go_wp2
                    go_meet
                    case rel => exact ⟨_, (((decide (t255 < 0)) != (decide (a1 < 0)))), (by first | rfl | (simp; done) | (simp [*]; done)), H', ⟨by have := HJ4.out; first | omega | exact Nat.le_refl _⟩, ⟨by repeat (first | (with_reducible first | exact HB.out | apply below_alloc | apply pw_below_drewN | apply below_drew1) | exact HB.out)⟩⟩
                · rw [if_neg c23] at H
                  have c23b0 : (t255 == (wrap64 (t253 + a1))) = false := beq_eq_false_iff_ne.mpr c23
                  have c23b1 : (t255 != (wrap64 (t253 + a1))) = true := bne_iff_ne.mpr c23
                  have H' := Aside0.mk H
                  clear H
                  go_wp2
                  go_meet
                  case rel => exact ⟨_, (true), (by first | rfl | (simp; done) | (simp [*]; done)), H', ⟨by have := HJ4.out; first | omega | exact Nat.le_refl _⟩, ⟨by repeat (first | (with_reducible first | exact HB.out | apply below_alloc | apply pw_below_drewN | apply below_drew1) | exact HB.out)⟩⟩
            · rw [if_neg c20] at H
              have c20b0 : (t256 == 0) = false := beq_eq_false_iff_ne.mpr c20
              have c20b1 : (t256 != 0) = true := bne_iff_ne.mpr c20
              have H' := Aside0.mk H
              clear H
              go_wp2
              go_meet
              case rel => exact ⟨_, (true), (by first | rfl | (simp; done) | (simp [*]; done)), H', ⟨by have := HJ4.out; first | omega | exact Nat.le_refl _⟩, ⟨by repeat (first | (with_reducible first | exact HB.out | apply below_alloc | apply pw_below_drewN | apply below_drew1) | exact HB.out)⟩⟩
          · rw [if_neg c19] at H
            have c19b0 : (t254 == 0) = false := beq_eq_false_iff_ne.mpr c19
            have c19b1 : (t254 != 0) = true := bne_iff_ne.mpr c19
            (first | rw [c19b0] | (simp only [i64_w, i32_w]; rw [c19b0]) | skip)
            have H' := Aside0.mk H
            clear H
            go_wp2
            go_meet
            case rel => exact ⟨_, (true), (by first | rfl | (simp; done) | (simp [*]; done)), H', ⟨by have := HJ4.out; first | omega | exact Nat.le_refl _⟩, ⟨by repeat (first | (with_reducible first | exact HB.out | apply below_alloc | apply pw_below_drewN | apply below_drew1) | exact HB.out)⟩⟩
        case rest =>
          clear HC18
          try clear c1
          try clear c2
          try clear p2
          try clear c3
          try clear p6
          try clear c7
          try clear c7b0
          try clear c7b1
          try clear c9
          try clear c9b0
          try clear c9b1
          try clear c10
          try clear c10b0
          try clear c10b1
          try clear c14
          try clear c14b0
          try clear c14b1
          try clear c15
          try clear c16
          try clear c16b0
          try clear c16b1
          try clear c17
          try clear c17b0
          try clear c17b1
          try clear c18
          try clear c19
          try clear c19b0
          try clear c19b1
          try clear c20
          try clear c20b0
          try clear c20b1
          try clear c21
          try clear c21b0
          try clear c21b1
          try clear c22
          try clear c22b0
          try clear c22b1
          try clear c23
          try clear c23b0
          try clear c23b1
          try clear c24
          try clear c24b0
          try clear c24b1
          try clear p2
          obtain ⟨kq, x103_17, rfl, HA, HJ17, HB⟩ := hcut
          cases kq with
          | zero => exact absurd HA.out (by simp [spinneylaw01_NumUndoes.j1])
          | succ kj17 =>
            have H := HA.out
            clear HA
            simp only [spinneylaw01_NumUndoes.j1] at H
            by_cases c25 : x103_17 = true
            · subst c25
              have H1 : (some false) = some r := by rw [if_pos rfl] at H; exact H
              clear H
              have H := H1
              clear H1
              obtain rfl := Option.some.inj H
              go_wp2
              go_ret
              exact ⟨by first | rfl | (simp [errW_none, errW_some] <;> rfl) | (simp [*, errW_none, errW_some] <;> rfl), by repeat (first | (with_reducible first | exact HB.out | apply below_alloc | apply pw_below_drewN | apply below_drew1) | exact HB.out)⟩
            · replace c25 := Bool.eq_false_iff.mpr c25
              subst c25
              have H1 : (if t252 = 0 then ((num_Mul.f t251 a1).bind fun bt257 => ((num_Add.f bt257.1 t253).bind fun bt259 => (if t246 = true then (if bt257.2 = 0 then (if bt259.2 = 0 then (if bt259.1 = a0 then (if t253 = 0 then (some true) else (some ((decide (t253 < 0)) == (decide (a0 < 0))))) else (some false)) else (some false)) else (some false)) else (some false)))) else (if t246 = true then (if t252 = 10 then (some (a1 == (-1))) else (some false)) else (some false))) = some r := by rw [if_neg (show ¬ (false = true) by decide)] at H; exact H
              clear H
              have H := H1
              clear H1
              by_cases c26 : t252 = 0
              · rw [if_pos c26] at H
                have c26b0 : (t252 == 0) = true := beq_iff_eq.mpr c26
                have c26b1 : (t252 != 0) = false := bne_eq_false_iff_eq.mpr c26
                clear c26
                replace H := Option.bind_eq_some_iff.mp H
                obtain ⟨⟨t257, t258⟩, A270, H⟩ := H
                replace H : ((num_Add.f t257 t253).bind fun bt259 => (if t246 = true then (if t258 = 0 then (if bt259.2 = 0 then (if bt259.1 = a0 then (if t253 = 0 then (some true) else (some ((decide (t253 < 0)) == (decide (a0 < 0))))) else (some false)) else (some false)) else (some false)) else (some false))) = some r := H
                have A27 := Aside0.mk A270
                clear A270
                replace H := Option.bind_eq_some_iff.mp H
                obtain ⟨⟨t259, t260⟩, A280, H⟩ := H
                replace H : (if t246 = true then (if t258 = 0 then (if t260 = 0 then (if t259 = a0 then (if t253 = 0 then (some true) else (some ((decide (t253 < 0)) == (decide (a0 < 0))))) else (some false)) else (some false)) else (some false)) else (some false)) = some r := H
                have A28 := Aside0.mk A280
                clear A280
                by_cases c29 : t246 = true
                · subst c29
                  have H1 : (if t258 = 0 then (if t260 = 0 then (if t259 = a0 then (if t253 = 0 then (some true) else (some ((decide (t253 < 0)) == (decide (a0 < 0))))) else (some false)) else (some false)) else (some false)) = some r := by rw [if_pos rfl] at H; exact H
                  clear H
                  have H := H1
                  clear H1
                  by_cases c30 : t258 = 0
                  · rw [if_pos c30] at H
                    have c30b0 : (t258 == 0) = true := beq_iff_eq.mpr c30
                    have c30b1 : (t258 != 0) = false := bne_eq_false_iff_eq.mpr c30
                    clear c30
                    by_cases c31 : t260 = 0
                    · rw [if_pos c31] at H
                      have c31b0 : (t260 == 0) = true := beq_iff_eq.mpr c31
                      have c31b1 : (t260 != 0) = false := bne_eq_false_iff_eq.mpr c31
                      clear c31
                      by_cases c32 : t259 = a0
                      · rw [if_pos c32] at H
                        have c32b0 : (t259 == a0) = true := beq_iff_eq.mpr c32
                        have c32b1 : (t259 != a0) = false := bne_eq_false_iff_eq.mpr c32
                        clear c32
                        by_cases c33 : t253 = 0
                        · rw [if_pos c33] at H
                          have c33b0 : (t253 == 0) = true := beq_iff_eq.mpr c33
                          have c33b1 : (t253 != 0) = false := bne_eq_false_iff_eq.mpr c33
                          clear c33
                          obtain rfl := Option.some.inj H
                          go_wp2_with (first | ((with_reducible refine gate_callee (f := 28) rfl ?_); refine goesL_ (some 118) rfl rfl Try.func28 (by kernel_rfl) rfl #[.int .i64 t251, .int .i64 a1] rfl (by (try simp only [List.map_toArray, List.map_cons, List.map_nil]); first | done | rfl | (simp only [List.length_drop, List.length_take]; rfl)) ?_; (with_reducible refine (num_Mul.calls t251 a1 t257 t258 _ A27.out).mono ?_); rintro e w' ⟨rfl, ⟨nd, rfl⟩⟩; refine ⟨_, rfl, ?_⟩) | ((with_reducible refine gate_callee (f := 27) rfl ?_); refine goesL_ (some 124) rfl rfl Try.func27 (by kernel_rfl) rfl #[.int .i64 t257, .int .i64 t253] rfl (by (try simp only [List.map_toArray, List.map_cons, List.map_nil]); first | done | rfl | (simp only [List.length_drop, List.length_take]; rfl)) ?_; (with_reducible refine (num_Add.calls t257 t253 t259 t260 _ A28.out).mono ?_); rintro e w' ⟨rfl, ⟨nd, rfl⟩⟩; refine ⟨_, rfl, ?_⟩))
                          go_ret
                          exact ⟨by first | rfl | (simp [errW_none, errW_some] <;> rfl) | (simp [*, errW_none, errW_some] <;> rfl), by repeat (first | (with_reducible first | exact HB.out | apply below_alloc | apply pw_below_drewN | apply below_drew1) | exact HB.out)⟩
                        · rw [if_neg c33] at H
                          have c33b0 : (t253 == 0) = false := beq_eq_false_iff_ne.mpr c33
                          have c33b1 : (t253 != 0) = true := bne_iff_ne.mpr c33
                          obtain rfl := Option.some.inj H
                          go_wp2_with (first | ((with_reducible refine gate_callee (f := 28) rfl ?_); refine goesL_ (some 118) rfl rfl Try.func28 (by kernel_rfl) rfl #[.int .i64 t251, .int .i64 a1] rfl (by (try simp only [List.map_toArray, List.map_cons, List.map_nil]); first | done | rfl | (simp only [List.length_drop, List.length_take]; rfl)) ?_; (with_reducible refine (num_Mul.calls t251 a1 t257 t258 _ A27.out).mono ?_); rintro e w' ⟨rfl, ⟨nd, rfl⟩⟩; refine ⟨_, rfl, ?_⟩) | ((with_reducible refine gate_callee (f := 27) rfl ?_); refine goesL_ (some 124) rfl rfl Try.func27 (by kernel_rfl) rfl #[.int .i64 t257, .int .i64 t253] rfl (by (try simp only [List.map_toArray, List.map_cons, List.map_nil]); first | done | rfl | (simp only [List.length_drop, List.length_take]; rfl)) ?_; (with_reducible refine (num_Add.calls t257 t253 t259 t260 _ A28.out).mono ?_); rintro e w' ⟨rfl, ⟨nd, rfl⟩⟩; refine ⟨_, rfl, ?_⟩))
                          go_ret
                          exact ⟨by first | rfl | (simp [errW_none, errW_some] <;> rfl) | (simp [*, errW_none, errW_some] <;> rfl), by repeat (first | (with_reducible first | exact HB.out | apply below_alloc | apply pw_below_drewN | apply below_drew1) | exact HB.out)⟩
                      · rw [if_neg c32] at H
                        have c32b0 : (t259 == a0) = false := beq_eq_false_iff_ne.mpr c32
                        have c32b1 : (t259 != a0) = true := bne_iff_ne.mpr c32
                        obtain rfl := Option.some.inj H
                        go_wp2_with (first | ((with_reducible refine gate_callee (f := 28) rfl ?_); refine goesL_ (some 118) rfl rfl Try.func28 (by kernel_rfl) rfl #[.int .i64 t251, .int .i64 a1] rfl (by (try simp only [List.map_toArray, List.map_cons, List.map_nil]); first | done | rfl | (simp only [List.length_drop, List.length_take]; rfl)) ?_; (with_reducible refine (num_Mul.calls t251 a1 t257 t258 _ A27.out).mono ?_); rintro e w' ⟨rfl, ⟨nd, rfl⟩⟩; refine ⟨_, rfl, ?_⟩) | ((with_reducible refine gate_callee (f := 27) rfl ?_); refine goesL_ (some 124) rfl rfl Try.func27 (by kernel_rfl) rfl #[.int .i64 t257, .int .i64 t253] rfl (by (try simp only [List.map_toArray, List.map_cons, List.map_nil]); first | done | rfl | (simp only [List.length_drop, List.length_take]; rfl)) ?_; (with_reducible refine (num_Add.calls t257 t253 t259 t260 _ A28.out).mono ?_); rintro e w' ⟨rfl, ⟨nd, rfl⟩⟩; refine ⟨_, rfl, ?_⟩))
                        go_ret
                        exact ⟨by first | rfl | (simp [errW_none, errW_some] <;> rfl) | (simp [*, errW_none, errW_some] <;> rfl), by repeat (first | (with_reducible first | exact HB.out | apply below_alloc | apply pw_below_drewN | apply below_drew1) | exact HB.out)⟩
                    · rw [if_neg c31] at H
                      have c31b0 : (t260 == 0) = false := beq_eq_false_iff_ne.mpr c31
                      have c31b1 : (t260 != 0) = true := bne_iff_ne.mpr c31
                      obtain rfl := Option.some.inj H
                      go_wp2_with (first | ((with_reducible refine gate_callee (f := 28) rfl ?_); refine goesL_ (some 118) rfl rfl Try.func28 (by kernel_rfl) rfl #[.int .i64 t251, .int .i64 a1] rfl (by (try simp only [List.map_toArray, List.map_cons, List.map_nil]); first | done | rfl | (simp only [List.length_drop, List.length_take]; rfl)) ?_; (with_reducible refine (num_Mul.calls t251 a1 t257 t258 _ A27.out).mono ?_); rintro e w' ⟨rfl, ⟨nd, rfl⟩⟩; refine ⟨_, rfl, ?_⟩) | ((with_reducible refine gate_callee (f := 27) rfl ?_); refine goesL_ (some 124) rfl rfl Try.func27 (by kernel_rfl) rfl #[.int .i64 t257, .int .i64 t253] rfl (by (try simp only [List.map_toArray, List.map_cons, List.map_nil]); first | done | rfl | (simp only [List.length_drop, List.length_take]; rfl)) ?_; (with_reducible refine (num_Add.calls t257 t253 t259 t260 _ A28.out).mono ?_); rintro e w' ⟨rfl, ⟨nd, rfl⟩⟩; refine ⟨_, rfl, ?_⟩))
                      go_ret
                      exact ⟨by first | rfl | (simp [errW_none, errW_some] <;> rfl) | (simp [*, errW_none, errW_some] <;> rfl), by repeat (first | (with_reducible first | exact HB.out | apply below_alloc | apply pw_below_drewN | apply below_drew1) | exact HB.out)⟩
                  · rw [if_neg c30] at H
                    have c30b0 : (t258 == 0) = false := beq_eq_false_iff_ne.mpr c30
                    have c30b1 : (t258 != 0) = true := bne_iff_ne.mpr c30
                    obtain rfl := Option.some.inj H
                    go_wp2_with (first | ((with_reducible refine gate_callee (f := 28) rfl ?_); refine goesL_ (some 118) rfl rfl Try.func28 (by kernel_rfl) rfl #[.int .i64 t251, .int .i64 a1] rfl (by (try simp only [List.map_toArray, List.map_cons, List.map_nil]); first | done | rfl | (simp only [List.length_drop, List.length_take]; rfl)) ?_; (with_reducible refine (num_Mul.calls t251 a1 t257 t258 _ A27.out).mono ?_); rintro e w' ⟨rfl, ⟨nd, rfl⟩⟩; refine ⟨_, rfl, ?_⟩) | ((with_reducible refine gate_callee (f := 27) rfl ?_); refine goesL_ (some 124) rfl rfl Try.func27 (by kernel_rfl) rfl #[.int .i64 t257, .int .i64 t253] rfl (by (try simp only [List.map_toArray, List.map_cons, List.map_nil]); first | done | rfl | (simp only [List.length_drop, List.length_take]; rfl)) ?_; (with_reducible refine (num_Add.calls t257 t253 t259 t260 _ A28.out).mono ?_); rintro e w' ⟨rfl, ⟨nd, rfl⟩⟩; refine ⟨_, rfl, ?_⟩))
                    go_ret
                    exact ⟨by first | rfl | (simp [errW_none, errW_some] <;> rfl) | (simp [*, errW_none, errW_some] <;> rfl), by repeat (first | (with_reducible first | exact HB.out | apply below_alloc | apply pw_below_drewN | apply below_drew1) | exact HB.out)⟩
                · replace c29 := Bool.eq_false_iff.mpr c29
                  subst c29
                  have H1 : (some false) = some r := by rw [if_neg (show ¬ (false = true) by decide)] at H; exact H
                  clear H
                  have H := H1
                  clear H1
                  obtain rfl := Option.some.inj H
                  go_wp2_with (first | ((with_reducible refine gate_callee (f := 28) rfl ?_); refine goesL_ (some 118) rfl rfl Try.func28 (by kernel_rfl) rfl #[.int .i64 t251, .int .i64 a1] rfl (by (try simp only [List.map_toArray, List.map_cons, List.map_nil]); first | done | rfl | (simp only [List.length_drop, List.length_take]; rfl)) ?_; (with_reducible refine (num_Mul.calls t251 a1 t257 t258 _ A27.out).mono ?_); rintro e w' ⟨rfl, ⟨nd, rfl⟩⟩; refine ⟨_, rfl, ?_⟩) | ((with_reducible refine gate_callee (f := 27) rfl ?_); refine goesL_ (some 124) rfl rfl Try.func27 (by kernel_rfl) rfl #[.int .i64 t257, .int .i64 t253] rfl (by (try simp only [List.map_toArray, List.map_cons, List.map_nil]); first | done | rfl | (simp only [List.length_drop, List.length_take]; rfl)) ?_; (with_reducible refine (num_Add.calls t257 t253 t259 t260 _ A28.out).mono ?_); rintro e w' ⟨rfl, ⟨nd, rfl⟩⟩; refine ⟨_, rfl, ?_⟩))
                  go_ret
                  exact ⟨by first | rfl | (simp [errW_none, errW_some] <;> rfl) | (simp [*, errW_none, errW_some] <;> rfl), by repeat (first | (with_reducible first | exact HB.out | apply below_alloc | apply pw_below_drewN | apply below_drew1) | exact HB.out)⟩
              · rw [if_neg c26] at H
                have c26b0 : (t252 == 0) = false := beq_eq_false_iff_ne.mpr c26
                have c26b1 : (t252 != 0) = true := bne_iff_ne.mpr c26
                by_cases c34 : t246 = true
                · subst c34
                  have H1 : (if t252 = 10 then (some (a1 == (-1))) else (some false)) = some r := by rw [if_pos rfl] at H; exact H
                  clear H
                  have H := H1
                  clear H1
                  by_cases c35 : t252 = 10
                  · rw [if_pos c35] at H
                    have c35b0 : (t252 == 10) = true := beq_iff_eq.mpr c35
                    have c35b1 : (t252 != 10) = false := bne_eq_false_iff_eq.mpr c35
                    clear c35
                    obtain rfl := Option.some.inj H
                    go_wp2
                    go_ret
                    exact ⟨by first | rfl | (simp [errW_none, errW_some] <;> rfl) | (simp [*, errW_none, errW_some] <;> rfl), by repeat (first | (with_reducible first | exact HB.out | apply below_alloc | apply pw_below_drewN | apply below_drew1) | exact HB.out)⟩
                  · rw [if_neg c35] at H
                    have c35b0 : (t252 == 10) = false := beq_eq_false_iff_ne.mpr c35
                    have c35b1 : (t252 != 10) = true := bne_iff_ne.mpr c35
                    obtain rfl := Option.some.inj H
                    go_wp2
                    go_ret
                    exact ⟨by first | rfl | (simp [errW_none, errW_some] <;> rfl) | (simp [*, errW_none, errW_some] <;> rfl), by repeat (first | (with_reducible first | exact HB.out | apply below_alloc | apply pw_below_drewN | apply below_drew1) | exact HB.out)⟩
                · replace c34 := Bool.eq_false_iff.mpr c34
                  subst c34
                  have H1 : (some false) = some r := by rw [if_neg (show ¬ (false = true) by decide)] at H; exact H
                  clear H
                  have H := H1
                  clear H1
                  obtain rfl := Option.some.inj H
                  go_wp2
                  go_ret
                  exact ⟨by first | rfl | (simp [errW_none, errW_some] <;> rfl) | (simp [*, errW_none, errW_some] <;> rfl), by repeat (first | (with_reducible first | exact HB.out | apply below_alloc | apply pw_below_drewN | apply below_drew1) | exact HB.out)⟩

/-- THE ONE PURE STATEMENT of spinneylaw01_NumUndoes: yours. -/
def spinneylaw01_NumUndoes.Pure : Prop := ∀ (a0 : Int) (a1 : Int), (Lit.int .i64 a0).wf = true → (Lit.int .i64 a1).wf = true → ∃ k, spinneylaw01_NumUndoes.f k a0 a1 = some true
theorem spinneylaw01_NumUndoes.walk (P : spinneylaw01_NumUndoes.Pure) (a0 : Int) (a1 : Int) (w : World) (w0 : (Lit.int .i64 a0).wf = true) (w1 : (Lit.int .i64 a1).wf = true) :
    Calls Try.prog 10 #[.int .i64 a0, .int .i64 a1] w fun e w' => e = .returned (.bool true) ∧ Below w.heap.size w w' := by
  obtain ⟨k, h⟩ := P a0 a1 w0 w1
  refine (spinneylaw01_NumUndoes.calls k a0 a1 true w h).mono ?_
  rintro e w' ⟨rfl, hd⟩
  exact ⟨rfl, hd⟩

end Go.Proofs.Ytjlfclhlfgjgcaa.P
