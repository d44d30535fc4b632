-- PRINTED by a program of this session over the kit's print.py.
import Derived.Test.YtfcmbflpefhpaaaPx0
import Derived.Test.YtfcmbflpefhpaaaPx1
import Derived.Test.YtfcmbflpefhpaaaPx2
import Derived.Test.YtfcmbflpefhpaaaPx3
import Derived.Test.YtfcmbflpefhpaaaPx5
namespace Go.Proofs.Ytfcmbflpefhpaaa.P
open Go.Own Go.RowKit Go.Proofs.YtfcmbflpefhpaaaW.PrintWords Go.Proofs.YtfcmbflpefhpaaaW.PrintLast Go.Proofs.YtfcmbflpefhpaaaW.PrintMore
attribute [local go_sem] max2_int min2_int max_two min_two max_three min_three max_four min_four   -- for this text's walks alone
set_option linter.unusedVariables false
set_option linter.unusedSimpArgs false

/-! ### spinneylaw21_TreeLeast: function 5 -/
mutual
def spinneylaw21_TreeLeast.j0 : Nat → List (S39) → Bool → Int → Bool → Option (Bool)
  | 0, _, _, _, _ => none
  | k + 1, x0, x3, x4, x40 => if x40 = true then (none) else (if 0 ≤ x4 then (if x4 < (x0.length : Int) then (if 0 < (((rd_T39 x0 x4).f2).length : Int) then ((spinneyref19_Next.f ((rd_T39 x0 x4).f0) (rd ((rd_T39 x0 x4).f2) 0)).bind fun t225 => (spinneylaw21_TreeLeast.l0 k x3 t225 x0 (x0.length : Int) 0)) else (none)) else (none)) else (none))
def spinneylaw21_TreeLeast.l0 : Nat → Bool → List Int → List (S39) → Int → Int → Option (Bool)
  | 0, _, _, _, _, _ => none
  | k + 1, x3, x5, x54, x55, x56 => if x56 < x55 then (if 0 ≤ x56 then (if x56 < (x54.length : Int) then (if (((rd_T39 x54 x56).f2).length : Int) > 0 then (if 0 < (((rd_T39 x54 x56).f2).length : Int) then ((spinneyref19_Next.f ((rd_T39 x54 x56).f0) (rd ((rd_T39 x54 x56).f2) 0)).bind fun t231 => ((spinneyref19_Compare.f k t231 x5).bind fun t234 => (if t234 < 0 then (none) else (spinneylaw21_TreeLeast.l0 k x3 x5 x54 x55 (wrap64 (x56 + 1)))))) else (none)) else (spinneylaw21_TreeLeast.l0 k x3 x5 x54 x55 (wrap64 (x56 + 1)))) else (none)) else (none)) else (some x3)
end
noncomputable def spinneylaw21_TreeLeast.f (k : Nat) (l0 : List (S39)) : Option (Bool) := (spinneylaw21_live.f).bind fun t214 => ((spinneylaw21_big.f k l0 ([] : List Int)).bind fun t215 => (if t215 = true then (some t214) else ((tree_Count.f k l0).bind fun t216 => ((tree_Open.f k l0).bind fun t217 => (if t216 = (t217.length : Int) then ((tree_Least.f k l0).bind fun t220 => (if t220 < 0 then (if t214 = true then (some (t216 == 0)) else (none)) else (if t220 ≥ (l0.length : Int) then (spinneylaw21_TreeLeast.j0 k l0 t214 t220 true) else (if 0 ≤ t220 then (if t220 < (l0.length : Int) then (spinneylaw21_TreeLeast.j0 k l0 t214 t220 ((((rd_T39 l0 t220).f2).length : Int) == 0)) else (none)) else (none))))) else (none))))))
theorem spinneylaw21_TreeLeast.mono_l : ∀ k, (∀ y0 y1 y2 y3, LeO (spinneylaw21_TreeLeast.j0 k y0 y1 y2 y3) (spinneylaw21_TreeLeast.j0 (k + 1) y0 y1 y2 y3)) ∧ (∀ y0 y1 y2 y3 y4, LeO (spinneylaw21_TreeLeast.l0 k y0 y1 y2 y3 y4) (spinneylaw21_TreeLeast.l0 (k + 1) y0 y1 y2 y3 y4))
  | 0 => ⟨fun _ _ _ _ r h => by simp [spinneylaw21_TreeLeast.j0] at h, fun _ _ _ _ _ r h => by simp [spinneylaw21_TreeLeast.l0] at h⟩
  | k + 1 => by
    obtain ⟨ih0, ih1⟩ := spinneylaw21_TreeLeast.mono_l k
    refine ⟨?_, ?_⟩
    · intro y0 y1 y2 y3
      unfold spinneylaw21_TreeLeast.j0
      repeat' first
      | (with_reducible exact ih0 _ _ _ _)
      | (with_reducible exact ih1 _ _ _ _ _)
      | (with_reducible exact spinneylaw21_big.mono _ _ _)
      | (with_reducible exact spinneyref19_Compare.mono _ _ _)
      | (with_reducible exact tree_Count.mono _ _)
      | (with_reducible exact tree_Least.mono _ _)
      | (with_reducible exact tree_Open.mono _ _)
      | (with_reducible exact LeO.refl _)
      | (with_reducible exact LeO.none _)
      | (with_reducible refine LeO.ite ?_ ?_)
      | (with_reducible refine LeO.bind ?_ (fun _ => ?_))
      | exact ih0 _ _ _ _
      | exact ih1 _ _ _ _ _
      | exact spinneylaw21_big.mono _ _ _
      | exact spinneyref19_Compare.mono _ _ _
      | exact tree_Count.mono _ _
      | exact tree_Least.mono _ _
      | exact tree_Open.mono _ _
      | exact LeO.none _
      | refine LeO.ite ?_ ?_
      | refine LeO.bind ?_ (fun _ => ?_)
    · intro y0 y1 y2 y3 y4
      unfold spinneylaw21_TreeLeast.l0
      repeat' first
      | (with_reducible exact ih0 _ _ _ _)
      | (with_reducible exact ih1 _ _ _ _ _)
      | (with_reducible exact spinneylaw21_big.mono _ _ _)
      | (with_reducible exact spinneyref19_Compare.mono _ _ _)
      | (with_reducible exact tree_Count.mono _ _)
      | (with_reducible exact tree_Least.mono _ _)
      | (with_reducible exact tree_Open.mono _ _)
      | (with_reducible exact LeO.refl _)
      | (with_reducible exact LeO.none _)
      | (with_reducible refine LeO.ite ?_ ?_)
      | (with_reducible refine LeO.bind ?_ (fun _ => ?_))
      | exact ih0 _ _ _ _
      | exact ih1 _ _ _ _ _
      | exact spinneylaw21_big.mono _ _ _
      | exact spinneyref19_Compare.mono _ _ _
      | exact tree_Count.mono _ _
      | exact tree_Least.mono _ _
      | exact tree_Open.mono _ _
      | exact LeO.none _
      | refine LeO.ite ?_ ?_
      | refine LeO.bind ?_ (fun _ => ?_)
theorem spinneylaw21_TreeLeast.mono : ∀ a0 k, LeO (spinneylaw21_TreeLeast.f k a0) (spinneylaw21_TreeLeast.f (k + 1) a0) := by
  intro a0 k
  obtain ⟨ih0, ih1⟩ := spinneylaw21_TreeLeast.mono_l k
  unfold spinneylaw21_TreeLeast.f
  repeat' first
      | (with_reducible exact ih0 _ _ _ _)
      | (with_reducible exact ih1 _ _ _ _ _)
      | (with_reducible exact spinneylaw21_big.mono _ _ _)
      | (with_reducible exact spinneyref19_Compare.mono _ _ _)
      | (with_reducible exact tree_Count.mono _ _)
      | (with_reducible exact tree_Least.mono _ _)
      | (with_reducible exact tree_Open.mono _ _)
      | (with_reducible exact LeO.refl _)
      | (with_reducible exact LeO.none _)
      | (with_reducible refine LeO.ite ?_ ?_)
      | (with_reducible refine LeO.bind ?_ (fun _ => ?_))
      | exact ih0 _ _ _ _
      | exact ih1 _ _ _ _ _
      | exact spinneylaw21_big.mono _ _ _
      | exact spinneyref19_Compare.mono _ _ _
      | exact tree_Count.mono _ _
      | exact tree_Least.mono _ _
      | exact tree_Open.mono _ _
      | exact LeO.none _
      | refine LeO.ite ?_ ?_
      | refine LeO.bind ?_ (fun _ => ?_)
def spinneylaw21_TreeLeast.T11 : Bool × List (List Nat × List Nat) := (true, [([], []), ([], []), ([0, 1], [0, 1]), ([2], [2]), ([3], [3]), ([], []), ([], []), ([5, 6], [5, 6]), ([7], [7]), ([8], [8]), ([9], [9]), ([10], [10]), ([4, 11], [4, 11]), ([12, 12, 0, 1, 2, 3, 4, 5, 6, 7, 8, 9, 10, 11, 12], [12])])
def spinneylaw21_TreeLeast.B11 : List Nat := [0, 0, 3, 7, 15, 0, 0, 96, 224, 480, 992, 2016, 4095, 8191]
theorem spinneylaw21_TreeLeast.tab11 : rtab .any (opsOf Try.f5 11) = spinneylaw21_TreeLeast.T11 := by kernel_rfl
theorem spinneylaw21_TreeLeast.bits11 : waitsOk spinneylaw21_TreeLeast.T11.2 spinneylaw21_TreeLeast.B11 = true := by kernel_rfl
def spinneylaw21_TreeLeast.T15 : Bool × List (List Nat × List Nat) := (true, [([], []), ([0], [0]), ([1], [1]), ([2], [2]), ([3], [3]), ([4], [4]), ([5, 4], [4, 5]), ([4], [4]), ([7, 4], [4, 7]), ([8, 4], [4, 8]), ([9, 4], [4, 9]), ([6, 10, 4, 4], [4, 6, 10]), ([4], [4]), ([11, 12, 11, 4], [4, 11, 12]), ([13, 4], [4, 13]), ([4, 14], [4, 14])])
def spinneylaw21_TreeLeast.B15 : List Nat := [0, 1, 3, 7, 15, 31, 63, 31, 159, 415, 927, 2047, 31, 8191, 16383, 32767]
theorem spinneylaw21_TreeLeast.tab15 : rtab .any (opsOf Try.f5 15) = spinneylaw21_TreeLeast.T15 := by kernel_rfl
theorem spinneylaw21_TreeLeast.bits15 : waitsOk spinneylaw21_TreeLeast.T15.2 spinneylaw21_TreeLeast.B15 = true := by kernel_rfl
set_option maxHeartbeats 8000000 in
set_option maxRecDepth 100000 in
theorem spinneylaw21_TreeLeast.calls (k : Nat) (A0 : Option Addr) (c0 : Nat) (l0 : List (S39)) (r : Bool) (w : World) (hr0 : Kd.C k39 w A0 l0.length l0) (hc0 : l0.length ≤ c0) (h : spinneylaw21_TreeLeast.f k l0 = some r) :
    Calls Try.prog 5 #[.slice A0 l0.length c0] w fun e w' => e = .returned (.bool r) ∧ Below w.heap.size w w' := by
  have hu39 := Try.underlying39
  have HR0 := Aside0.mk hr0
  have HC0 := Aside0.mk hc0
  clear hr0 hc0
  have HB := Aside0.mk (Below.refl w.heap.size w)
  have H : ((spinneylaw21_live.f).bind fun t214 => ((spinneylaw21_big.f k l0 ([] : List Int)).bind fun t215 => (if t215 = true then (some t214) else ((tree_Count.f k l0).bind fun t216 => ((tree_Open.f k l0).bind fun t217 => (if t216 = (t217.length : Int) then ((tree_Least.f k l0).bind fun t220 => (if t220 < 0 then (if t214 = true then (some (t216 == 0)) else (none)) else (if t220 ≥ (l0.length : Int) then (spinneylaw21_TreeLeast.j0 k l0 t214 t220 true) else (if 0 ≤ t220 then (if t220 < (l0.length : Int) then (spinneylaw21_TreeLeast.j0 k l0 t214 t220 ((((rd_T39 l0 t220).f2).length : Int) == 0)) else (none)) else (none))))) else (none))))))) = some r := h
  clear h
  replace H := Option.bind_eq_some_iff.mp H
  obtain ⟨t214, A20, H⟩ := H
  replace H : ((spinneylaw21_big.f k l0 ([] : List Int)).bind fun t215 => (if t215 = true then (some t214) else ((tree_Count.f k l0).bind fun t216 => ((tree_Open.f k l0).bind fun t217 => (if t216 = (t217.length : Int) then ((tree_Least.f k l0).bind fun t220 => (if t220 < 0 then (if t214 = true then (some (t216 == 0)) else (none)) else (if t220 ≥ (l0.length : Int) then (spinneylaw21_TreeLeast.j0 k l0 t214 t220 true) else (if 0 ≤ t220 then (if t220 < (l0.length : Int) then (spinneylaw21_TreeLeast.j0 k l0 t214 t220 ((((rd_T39 l0 t220).f2).length : Int) == 0)) else (none)) else (none))))) else (none)))))) = some r := H
  have A2 := Aside0.mk A20
  clear A20
  replace H := Option.bind_eq_some_iff.mp H
  obtain ⟨t215, A30, H⟩ := H
  replace H : (if t215 = true then (some t214) else ((tree_Count.f k l0).bind fun t216 => ((tree_Open.f k l0).bind fun t217 => (if t216 = (t217.length : Int) then ((tree_Least.f k l0).bind fun t220 => (if t220 < 0 then (if t214 = true then (some (t216 == 0)) else (none)) else (if t220 ≥ (l0.length : Int) then (spinneylaw21_TreeLeast.j0 k l0 t214 t220 true) else (if 0 ≤ t220 then (if t220 < (l0.length : Int) then (spinneylaw21_TreeLeast.j0 k l0 t214 t220 ((((rd_T39 l0 t220).f2).length : Int) == 0)) else (none)) else (none))))) else (none))))) = some r := H
  have A3 := Aside0.mk A30
  clear A30
  by_cases c4 : t215 = true
  · subst c4
    have H1 : (some t214) = some r := by rw [if_pos rfl] at H; exact H
    clear H
    have H := H1
    clear H1
    obtain rfl := Option.some.inj H
    go_enter Try.func5, Try.ntmps5
    go_wp2_with (first | ((with_reducible refine gate_callee (f := 6) rfl ?_); refine goesL_ (some 8) rfl rfl Try.func6 (by kernel_rfl) rfl #[] rfl (by (try simp only [List.map_toArray, List.map_cons, List.map_nil]); first | done | rfl | (simp only [List.length_drop, List.length_take]; rfl)) ?_; (with_reducible refine (spinneylaw21_live.calls  t214 _ A2.out).mono ?_); rintro e w5 ⟨rfl, hb⟩; refine ⟨_, rfl, ?_⟩; have n0_ := Aside0.mk (below_step (by repeat (first | (with_reducible first | exact HB.out | apply below_alloc | apply pw_below_drewN | apply below_drew1) | exact HB.out)) hb); clear HB; have HB := n0_; clear n0_; (try clear hb); (try clear hb2); (try clear hk); (try clear hi)) | ((with_reducible refine gate_callee (f := 7) rfl ?_); refine goesL_ (some 10) rfl rfl Try.func7 (by kernel_rfl) rfl #[.slice A0 l0.length c0, .slice none 0 0] rfl (by (try simp only [List.map_toArray, List.map_cons, List.map_nil]); first | done | rfl | (simp only [List.length_drop, List.length_take]; rfl)) ?_; (refine (spinneylaw21_big.calls k _ _ l0 _ _ ([] : List Int) true _ ?side1 ?side2 ?side3 ?side4 A3.out).mono ?_); (case side1 => repeat (first | exact (Kd.C_below HR0.out HB.out) | (with_reducible refine Kd.C_alloc ?_ _) | (with_reducible refine Kd.C_drewN ?_ _) | (with_reducible refine Kd.C_drew ?_))); (case side2 => exact HC0.out); (case side3 => exact Kd.C_nil _ _); (case side4 => exact Nat.le_refl _); rintro e w6 ⟨rfl, hb⟩; refine ⟨_, rfl, ?_⟩; have n0_ := Aside0.mk (below_step (by repeat (first | (with_reducible first | exact HB.out | apply below_alloc | apply pw_below_drewN | apply below_drew1) | exact HB.out)) hb); clear HB; have HB := n0_; clear n0_; (try clear hb); (try clear hb2); (try clear hk); (try clear hi)))
    go_ret
    exact ⟨by first | rfl | (simp [errW_none, errW_some] <;> rfl) | (simp [*, errW_none, errW_some] <;> rfl), by repeat (first | (with_reducible first | exact HB.out | apply below_alloc | apply pw_below_drewN | apply below_drew1) | exact HB.out)⟩
  · replace c4 := Bool.eq_false_iff.mpr c4
    subst c4
    have H1 : ((tree_Count.f k l0).bind fun t216 => ((tree_Open.f k l0).bind fun t217 => (if t216 = (t217.length : Int) then ((tree_Least.f k l0).bind fun t220 => (if t220 < 0 then (if t214 = true then (some (t216 == 0)) else (none)) else (if t220 ≥ (l0.length : Int) then (spinneylaw21_TreeLeast.j0 k l0 t214 t220 true) else (if 0 ≤ t220 then (if t220 < (l0.length : Int) then (spinneylaw21_TreeLeast.j0 k l0 t214 t220 ((((rd_T39 l0 t220).f2).length : Int) == 0)) else (none)) else (none))))) else (none)))) = some r := by rw [if_neg (show ¬ (false = true) by decide)] at H; exact H
    clear H
    have H := H1
    clear H1
    replace H := Option.bind_eq_some_iff.mp H
    obtain ⟨t216, A70, H⟩ := H
    replace H : ((tree_Open.f k l0).bind fun t217 => (if t216 = (t217.length : Int) then ((tree_Least.f k l0).bind fun t220 => (if t220 < 0 then (if t214 = true then (some (t216 == 0)) else (none)) else (if t220 ≥ (l0.length : Int) then (spinneylaw21_TreeLeast.j0 k l0 t214 t220 true) else (if 0 ≤ t220 then (if t220 < (l0.length : Int) then (spinneylaw21_TreeLeast.j0 k l0 t214 t220 ((((rd_T39 l0 t220).f2).length : Int) == 0)) else (none)) else (none))))) else (none))) = some r := H
    have A7 := Aside0.mk A70
    clear A70
    replace H := Option.bind_eq_some_iff.mp H
    obtain ⟨t217, A80, H⟩ := H
    replace H : (if t216 = (t217.length : Int) then ((tree_Least.f k l0).bind fun t220 => (if t220 < 0 then (if t214 = true then (some (t216 == 0)) else (none)) else (if t220 ≥ (l0.length : Int) then (spinneylaw21_TreeLeast.j0 k l0 t214 t220 true) else (if 0 ≤ t220 then (if t220 < (l0.length : Int) then (spinneylaw21_TreeLeast.j0 k l0 t214 t220 ((((rd_T39 l0 t220).f2).length : Int) == 0)) else (none)) else (none))))) else (none)) = some r := H
    have A8 := Aside0.mk A80
    clear A80
    by_cases c9 : t216 = (t217.length : Int)
    · rw [if_pos c9] at H
      have c9b0 : (t216 == (t217.length : Int)) = true := beq_iff_eq.mpr c9
      have c9b1 : (t216 != (t217.length : Int)) = false := bne_eq_false_iff_eq.mpr c9
      clear c9
      replace H := Option.bind_eq_some_iff.mp H
      obtain ⟨t220, A100, H⟩ := H
      replace H : (if t220 < 0 then (if t214 = true then (some (t216 == 0)) else (none)) else (if t220 ≥ (l0.length : Int) then (spinneylaw21_TreeLeast.j0 k l0 t214 t220 true) else (if 0 ≤ t220 then (if t220 < (l0.length : Int) then (spinneylaw21_TreeLeast.j0 k l0 t214 t220 ((((rd_T39 l0 t220).f2).length : Int) == 0)) else (none)) else (none)))) = some r := H
      have A10 := Aside0.mk A100
      clear A100
      by_cases c11 : t220 < 0
      · rw [if_pos c11] at H
        have c11b0 : decide (t220 < 0) = true := decide_eq_true c11
        clear c11
        by_cases c12 : t214 = true
        · subst c12
          have H1 : (some (t216 == 0)) = some r := by rw [if_pos rfl] at H; exact H
          clear H
          have H := H1
          clear H1
          obtain rfl := Option.some.inj H
          go_enter Try.func5, Try.ntmps5
          go_wp2_with (first | ((with_reducible refine gate_callee (f := 6) rfl ?_); refine goesL_ (some 8) rfl rfl Try.func6 (by kernel_rfl) rfl #[] rfl (by (try simp only [List.map_toArray, List.map_cons, List.map_nil]); first | done | rfl | (simp only [List.length_drop, List.length_take]; rfl)) ?_; (with_reducible refine (spinneylaw21_live.calls  true _ A2.out).mono ?_); rintro e w13 ⟨rfl, hb⟩; refine ⟨_, rfl, ?_⟩; have n0_ := Aside0.mk (below_step (by repeat (first | (with_reducible first | exact HB.out | apply below_alloc | apply pw_below_drewN | apply below_drew1) | exact HB.out)) hb); clear HB; have HB := n0_; clear n0_; (try clear hb); (try clear hb2); (try clear hk); (try clear hi)) | ((with_reducible refine gate_callee (f := 7) rfl ?_); refine goesL_ (some 10) rfl rfl Try.func7 (by kernel_rfl) rfl #[.slice A0 l0.length c0, .slice none 0 0] rfl (by (try simp only [List.map_toArray, List.map_cons, List.map_nil]); first | done | rfl | (simp only [List.length_drop, List.length_take]; rfl)) ?_; (refine (spinneylaw21_big.calls k _ _ l0 _ _ ([] : List Int) false _ ?side1 ?side2 ?side3 ?side4 A3.out).mono ?_); (case side1 => repeat (first | exact (Kd.C_below HR0.out HB.out) | (with_reducible refine Kd.C_alloc ?_ _) | (with_reducible refine Kd.C_drewN ?_ _) | (with_reducible refine Kd.C_drew ?_))); (case side2 => exact HC0.out); (case side3 => exact Kd.C_nil _ _); (case side4 => exact Nat.le_refl _); rintro e w14 ⟨rfl, hb⟩; refine ⟨_, rfl, ?_⟩; have n0_ := Aside0.mk (below_step (by repeat (first | (with_reducible first | exact HB.out | apply below_alloc | apply pw_below_drewN | apply below_drew1) | exact HB.out)) hb); clear HB; have HB := n0_; clear n0_; (try clear hb); (try clear hb2); (try clear hk); (try clear hi)) | ((with_reducible refine gate_callee (f := 11) rfl ?_); refine goesL_ (some 13) rfl rfl Try.func11 (by kernel_rfl) rfl #[.slice A0 l0.length c0] rfl (by (try simp only [List.map_toArray, List.map_cons, List.map_nil]); first | done | rfl | (simp only [List.length_drop, List.length_take]; rfl)) ?_; (with_reducible refine (tree_Count.calls k _ _ l0 t216 _ ?side1 ?side2 A7.out).mono ?_); (case side1 => repeat (first | exact (Kd.C_below HR0.out HB.out) | (with_reducible refine Kd.C_alloc ?_ _) | (with_reducible refine Kd.C_drewN ?_ _) | (with_reducible refine Kd.C_drew ?_))); (case side2 => exact HC0.out); rintro e w15 ⟨rfl, hb⟩; refine ⟨_, rfl, ?_⟩; have n0_ := Aside0.mk (below_step (by repeat (first | (with_reducible first | exact HB.out | apply below_alloc | apply pw_below_drewN | apply below_drew1) | exact HB.out)) hb); clear HB; have HB := n0_; clear n0_; (try clear hb); (try clear hb2); (try clear hk); (try clear hi)) | ((with_reducible refine gate_callee (f := 9) rfl ?_); refine goesL_ (some 15) rfl rfl Try.func9 (by kernel_rfl) rfl #[.slice A0 l0.length c0] rfl (by (try simp only [List.map_toArray, List.map_cons, List.map_nil]); first | done | rfl | (simp only [List.length_drop, List.length_take]; rfl)) ?_; (with_reducible refine (tree_Open.calls k _ _ l0 t217 _ ?side1 ?side2 A8.out).mono ?_); (case side1 => repeat (first | exact (Kd.C_below HR0.out HB.out) | (with_reducible refine Kd.C_alloc ?_ _) | (with_reducible refine Kd.C_drewN ?_ _) | (with_reducible refine Kd.C_drew ?_))); (case side2 => exact HC0.out); rintro e w16 ⟨v218, rfl, ho0, hb⟩; refine ⟨_, rfl, ?_⟩; have n0_ := Aside0.mk (Kd.S_lower ho0 (below_size (by repeat (first | (with_reducible first | exact HB.out | apply below_alloc | apply pw_below_drewN | apply below_drew1) | exact HB.out)))); have n1_ := Aside0.mk (below_step (by repeat (first | (with_reducible first | exact HB.out | apply below_alloc | apply pw_below_drewN | apply below_drew1) | exact HB.out)) hb); clear HB; have HO219 := n0_; have HB := n1_; clear n0_ n1_; (try clear hb); (try clear hb2); (try clear hk); (try clear hi); (try clear ho0); obtain ⟨Ao17, co17, eo17⟩ := Kd.S_slice HO219.out; subst eo17) | ((with_reducible refine gate_callee (f := 13) rfl ?_); refine goesL_ (some 19) rfl rfl Try.func13 (by kernel_rfl) rfl #[.slice A0 l0.length c0] rfl (by (try simp only [List.map_toArray, List.map_cons, List.map_nil]); first | done | rfl | (simp only [List.length_drop, List.length_take]; rfl)) ?_; (with_reducible refine (tree_Least.calls k _ _ l0 t220 _ ?side1 ?side2 A10.out).mono ?_); (case side1 => repeat (first | exact (Kd.C_below HR0.out HB.out) | (with_reducible refine Kd.C_alloc ?_ _) | (with_reducible refine Kd.C_drewN ?_ _) | (with_reducible refine Kd.C_drew ?_))); (case side2 => exact HC0.out); rintro e w18 ⟨rfl, hb⟩; refine ⟨_, rfl, ?_⟩; have n0_ := Aside0.mk (Kd.S_below (by (with_reducible repeat (first | apply Kd.S_alloc | apply Kd.S_drewN | apply Kd.S_drew)); exact HO219.out) hb); have n1_ := Aside0.mk (below_step (by repeat (first | (with_reducible first | exact HB.out | apply below_alloc | apply pw_below_drewN | apply below_drew1) | exact HB.out)) hb); clear HO219; clear HB; have HO219 := n0_; have HB := n1_; clear n0_ n1_; (try clear hb); (try clear hb2); (try clear hk); (try clear hi)) | (go_at_call 11; (with_reducible refine (tree_Count.calls k _ _ l0 t216 _ ?side1 ?side2 A7.out).mono ?_); (case side1 => exact Kd.C_below HR0.out HB.out); (case side2 => exact HC0.out); rintro e w99 ⟨rfl, hb⟩; have n0_ := Aside0.mk (below_step HB.out hb); clear HB; have HB := n0_; clear n0_))
          go_ret
          exact ⟨by first | rfl | (simp [errW_none, errW_some] <;> rfl) | (simp [*, errW_none, errW_some] <;> rfl), by repeat (first | (with_reducible first | exact HB.out | apply below_alloc | apply pw_below_drewN | apply below_drew1) | exact HB.out)⟩
        · replace c12 := Bool.eq_false_iff.mpr c12
          subst c12
          have H1 : (none) = some r := by rw [if_neg (show ¬ (false = true) by decide)] at H; exact H
          clear H
          have H := H1
          clear H1
          exact absurd H (by simp)
      · rw [if_neg c11] at H
        have c11b0 : decide (t220 < 0) = false := decide_eq_false c11
        clear c11
        have HC19 := Aside0.mk H
        clear H
        go_enter Try.func5, Try.ntmps5
        go_upto_region 9 with (first | ((with_reducible refine gate_callee (f := 6) rfl ?_); refine goesL_ (some 8) rfl rfl Try.func6 (by kernel_rfl) rfl #[] rfl (by (try simp only [List.map_toArray, List.map_cons, List.map_nil]); first | done | rfl | (simp only [List.length_drop, List.length_take]; rfl)) ?_; (with_reducible refine (spinneylaw21_live.calls  t214 _ A2.out).mono ?_); rintro e w20 ⟨rfl, hb⟩; refine ⟨_, rfl, ?_⟩; have n0_ := Aside0.mk (below_step (by repeat (first | (with_reducible first | exact HB.out | apply below_alloc | apply pw_below_drewN | apply below_drew1) | exact HB.out)) hb); clear HB; have HB := n0_; clear n0_; (try clear hb); (try clear hb2); (try clear hk); (try clear hi)) | ((with_reducible refine gate_callee (f := 7) rfl ?_); refine goesL_ (some 10) rfl rfl Try.func7 (by kernel_rfl) rfl #[.slice A0 l0.length c0, .slice none 0 0] rfl (by (try simp only [List.map_toArray, List.map_cons, List.map_nil]); first | done | rfl | (simp only [List.length_drop, List.length_take]; rfl)) ?_; (refine (spinneylaw21_big.calls k _ _ l0 _ _ ([] : List Int) false _ ?side1 ?side2 ?side3 ?side4 A3.out).mono ?_); (case side1 => repeat (first | exact (Kd.C_below HR0.out HB.out) | (with_reducible refine Kd.C_alloc ?_ _) | (with_reducible refine Kd.C_drewN ?_ _) | (with_reducible refine Kd.C_drew ?_))); (case side2 => exact HC0.out); (case side3 => exact Kd.C_nil _ _); (case side4 => exact Nat.le_refl _); rintro e w21 ⟨rfl, hb⟩; refine ⟨_, rfl, ?_⟩; have n0_ := Aside0.mk (below_step (by repeat (first | (with_reducible first | exact HB.out | apply below_alloc | apply pw_below_drewN | apply below_drew1) | exact HB.out)) hb); clear HB; have HB := n0_; clear n0_; (try clear hb); (try clear hb2); (try clear hk); (try clear hi)) | ((with_reducible refine gate_callee (f := 11) rfl ?_); refine goesL_ (some 13) rfl rfl Try.func11 (by kernel_rfl) rfl #[.slice A0 l0.length c0] rfl (by (try simp only [List.map_toArray, List.map_cons, List.map_nil]); first | done | rfl | (simp only [List.length_drop, List.length_take]; rfl)) ?_; (with_reducible refine (tree_Count.calls k _ _ l0 t216 _ ?side1 ?side2 A7.out).mono ?_); (case side1 => repeat (first | exact (Kd.C_below HR0.out HB.out) | (with_reducible refine Kd.C_alloc ?_ _) | (with_reducible refine Kd.C_drewN ?_ _) | (with_reducible refine Kd.C_drew ?_))); (case side2 => exact HC0.out); rintro e w22 ⟨rfl, hb⟩; refine ⟨_, rfl, ?_⟩; have n0_ := Aside0.mk (below_step (by repeat (first | (with_reducible first | exact HB.out | apply below_alloc | apply pw_below_drewN | apply below_drew1) | exact HB.out)) hb); clear HB; have HB := n0_; clear n0_; (try clear hb); (try clear hb2); (try clear hk); (try clear hi)) | ((with_reducible refine gate_callee (f := 9) rfl ?_); refine goesL_ (some 15) rfl rfl Try.func9 (by kernel_rfl) rfl #[.slice A0 l0.length c0] rfl (by (try simp only [List.map_toArray, List.map_cons, List.map_nil]); first | done | rfl | (simp only [List.length_drop, List.length_take]; rfl)) ?_; (with_reducible refine (tree_Open.calls k _ _ l0 t217 _ ?side1 ?side2 A8.out).mono ?_); (case side1 => repeat (first | exact (Kd.C_below HR0.out HB.out) | (with_reducible refine Kd.C_alloc ?_ _) | (with_reducible refine Kd.C_drewN ?_ _) | (with_reducible refine Kd.C_drew ?_))); (case side2 => exact HC0.out); rintro e w23 ⟨v218, rfl, ho0, hb⟩; refine ⟨_, rfl, ?_⟩; have n0_ := Aside0.mk (Kd.S_lower ho0 (below_size (by repeat (first | (with_reducible first | exact HB.out | apply below_alloc | apply pw_below_drewN | apply below_drew1) | exact HB.out)))); have n1_ := Aside0.mk (below_step (by repeat (first | (with_reducible first | exact HB.out | apply below_alloc | apply pw_below_drewN | apply below_drew1) | exact HB.out)) hb); clear HB; have HO219 := n0_; have HB := n1_; clear n0_ n1_; (try clear hb); (try clear hb2); (try clear hk); (try clear hi); (try clear ho0); obtain ⟨Ao24, co24, eo24⟩ := Kd.S_slice HO219.out; subst eo24) | ((with_reducible refine gate_callee (f := 13) rfl ?_); refine goesL_ (some 19) rfl rfl Try.func13 (by kernel_rfl) rfl #[.slice A0 l0.length c0] rfl (by (try simp only [List.map_toArray, List.map_cons, List.map_nil]); first | done | rfl | (simp only [List.length_drop, List.length_take]; rfl)) ?_; (with_reducible refine (tree_Least.calls k _ _ l0 t220 _ ?side1 ?side2 A10.out).mono ?_); (case side1 => repeat (first | exact (Kd.C_below HR0.out HB.out) | (with_reducible refine Kd.C_alloc ?_ _) | (with_reducible refine Kd.C_drewN ?_ _) | (with_reducible refine Kd.C_drew ?_))); (case side2 => exact HC0.out); rintro e w25 ⟨rfl, hb⟩; refine ⟨_, rfl, ?_⟩; have n0_ := Aside0.mk (Kd.S_below (by (with_reducible repeat (first | apply Kd.S_alloc | apply Kd.S_drewN | apply Kd.S_drew)); exact HO219.out) hb); have n1_ := Aside0.mk (below_step (by repeat (first | (with_reducible first | exact HB.out | apply below_alloc | apply pw_below_drewN | apply below_drew1) | exact HB.out)) hb); clear HO219; clear HB; have HO219 := n0_; have HB := n1_; clear n0_ n1_; (try clear hb); (try clear hb2); (try clear hk); (try clear hi)))
        (try simp only [Act.put, List.setIfInBounds_toArray, List.set_cons_zero, List.set_cons_succ])
        go_cut [40] (fun v40 wc => ∃ (kq : Nat) (x40_18 : Bool), v40 = .bool x40_18 ∧ Aside0 (spinneylaw21_TreeLeast.j0 kq l0 t214 t220 x40_18 = some r) ∧ Aside0 (kq ≤ k) ∧ Aside0 (Below w.heap.size w wc))
        case first =>
          have H := HC19.out
          clear HC19
          by_cases c26 : t220 ≥ (l0.length : Int)
          · rw [if_pos c26] at H
            have c26b0 : decide ((l0.length : Int) ≤ t220) = true := decide_eq_true c26
            clear c26
            (first | rw [c26b0] | (simp only [i64_w, i32_w]; rw [c26b0]) | skip)
            have H' := Aside0.mk H
            clear H
            go_wp2
            go_meet
            case rel => exact ⟨_, (true), (by first | rfl | (simp; done) | (simp [*]; done)), H', ⟨by first | omega | exact Nat.le_refl _⟩, ⟨by repeat (first | (with_reducible first | exact HB.out | apply below_alloc | apply pw_below_drewN | apply below_drew1) | exact HB.out)⟩⟩
          · rw [if_neg c26] at H
            have c26b0 : decide ((l0.length : Int) ≤ t220) = false := decide_eq_false c26
            clear c26
            (first | rw [c26b0] | (simp only [i64_w, i32_w]; rw [c26b0]) | skip)
            by_cases c27 : 0 ≤ t220
            · rw [if_pos c27] at H
              have c27b0 : decide (0 ≤ t220) = true := decide_eq_true c27
              clear c27
              by_cases c28 : t220 < (l0.length : Int)
              · rw [if_pos c28] at H
                have c28b0 : decide (t220 < (l0.length : Int)) = true := decide_eq_true c28
                clear c28
                have H' := Aside0.mk H
                clear H
                have p221 : 0 ≤ (t220 : Int) := of_decide_eq_true (by first | (with_reducible assumption) | assumption)
                have q221 : t220 < (l0.length : Int) := of_decide_eq_true (by first | (with_reducible assumption) | assumption)
                obtain ⟨ad221, A221_0, c221_0, A221_1, c221_1, A221_2, c221_2, A221_4, c221_4, e221, hx221_0, hx221_1, hx221_2, hx221_3, hx221_4, hl221_0, hi221_0, hl221_1, hi221_1, hl221_2, hi221_2, hl221_4, hi221_4⟩ := at_T39 HR0.out t220 p221 q221
                cases e221
                replace hx221_0 := (HB.out.cell (World.block_lt_of_cell? w _ hx221_0)).trans hx221_0
                replace hx221_1 := (HB.out.cell (World.block_lt_of_cell? w _ hx221_1)).trans hx221_1
                replace hx221_2 := (HB.out.cell (World.block_lt_of_cell? w _ hx221_2)).trans hx221_2
                replace hx221_3 := (HB.out.cell (World.block_lt_of_cell? w _ hx221_3)).trans hx221_3
                replace hx221_4 := (HB.out.cell (World.block_lt_of_cell? w _ hx221_4)).trans hx221_4
                have HR221_0 := Aside0.mk hi221_0
                have HC221_0 := Aside0.mk hl221_0
                clear hi221_0 hl221_0
                have HR221_1 := Aside0.mk hi221_1
                have HC221_1 := Aside0.mk hl221_1
                clear hi221_1 hl221_1
                have HR221_2 := Aside0.mk hi221_2
                have HC221_2 := Aside0.mk hl221_2
                clear hi221_2 hl221_2
                have HR221_4 := Aside0.mk hi221_4
                have HC221_4 := Aside0.mk hl221_4
                clear hi221_4 hl221_4
                replace p221 := eq_true p221
                replace q221 := eq_true q221
                go_wp2
                go_meet
                case rel => exact ⟨_, (((((rd_T39 l0 t220).f2).length : Int) == 0)), (by first | rfl | (simp; done) | (simp [*]; done)), H', ⟨by first | omega | exact Nat.le_refl _⟩, ⟨by repeat (first | (with_reducible first | exact HB.out | apply below_alloc | apply pw_below_drewN | apply below_drew1) | exact HB.out)⟩⟩
              · rw [if_neg c28] at H
                exact absurd H (by simp)
            · rw [if_neg c27] at H
              exact absurd H (by simp)
        case rest =>
          clear HC19
          try clear c1
          try clear c2
          try clear p2
          try clear q2
          try clear hx2
          try clear c4
          try clear c5
          try clear c6
          try clear c7
          try clear c9
          try clear c9b0
          try clear c9b1
          try clear c11
          try clear c11b0
          try clear c12
          try clear c13
          try clear c22
          try clear p22
          try clear q22
          try clear hx22
          try clear c26
          try clear c26b0
          try clear c27
          try clear c27b0
          try clear c28
          try clear c28b0
          try clear hx221_0
          try clear hx221_1
          try clear hx221_2
          try clear hx221_3
          try clear hx221_4
          try clear p221
          try clear q221
          obtain ⟨kq, x40_18, rfl, HA, HJ18, HB⟩ := hcut
          cases kq with
          | zero => exact absurd HA.out (by simp [spinneylaw21_TreeLeast.j0])
          | succ kj18 =>
            have H := HA.out
            clear HA
            simp only [spinneylaw21_TreeLeast.j0] at H
            by_cases c29 : x40_18 = true
            · subst c29
              have H1 : (none) = some r := by rw [if_pos rfl] at H; exact H
              clear H
              have H := H1
              clear H1
              exact absurd H (by simp)
            · replace c29 := Bool.eq_false_iff.mpr c29
              subst c29
              have H1 : (if 0 ≤ t220 then (if t220 < (l0.length : Int) then (if 0 < (((rd_T39 l0 t220).f2).length : Int) then ((spinneyref19_Next.f ((rd_T39 l0 t220).f0) (rd ((rd_T39 l0 t220).f2) 0)).bind fun t225 => (spinneylaw21_TreeLeast.l0 kj18 t214 t225 l0 (l0.length : Int) 0)) else (none)) else (none)) else (none)) = some r := by rw [if_neg (show ¬ (false = true) by decide)] at H; exact H
              clear H
              have H := H1
              clear H1
              by_cases c30 : 0 ≤ t220
              · rw [if_pos c30] at H
                have c30b0 : decide (0 ≤ t220) = true := decide_eq_true c30
                clear c30
                by_cases c31 : t220 < (l0.length : Int)
                · rw [if_pos c31] at H
                  have c31b0 : decide (t220 < (l0.length : Int)) = true := decide_eq_true c31
                  clear c31
                  by_cases c32 : 0 < (((rd_T39 l0 t220).f2).length : Int)
                  · rw [if_pos c32] at H
                    have c32b0 : decide (0 < (((rd_T39 l0 t220).f2).length : Int)) = true := decide_eq_true c32
                    have c32b1 : decide (0 < ((rd_T39 l0 t220).f2).length) = true := decide_eq_true (by omega)
                    clear c32
                    replace H := Option.bind_eq_some_iff.mp H
                    obtain ⟨t225, A330, H⟩ := H
                    replace H : (spinneylaw21_TreeLeast.l0 kj18 t214 t225 l0 (l0.length : Int) 0) = some r := H
                    have A33 := Aside0.mk A330
                    clear A330
                    have H' := Aside0.mk H
                    clear H
                    try go_wp2
                    have n0_ := Aside0.mk (below_drew1 HB.out)
                    clear HB
                    have HB := n0_
                    clear n0_
                    have p222 : 0 ≤ (t220 : Int) := of_decide_eq_true (by first | (with_reducible assumption) | assumption)
                    have q222 : t220 < (l0.length : Int) := of_decide_eq_true (by first | (with_reducible assumption) | assumption)
                    obtain ⟨ad222, A222_0, c222_0, A222_1, c222_1, A222_2, c222_2, A222_4, c222_4, e222, hx222_0, hx222_1, hx222_2, hx222_3, hx222_4, hl222_0, hi222_0, hl222_1, hi222_1, hl222_2, hi222_2, hl222_4, hi222_4⟩ := at_T39 HR0.out t220 p222 q222
                    have hw222_4 := hx222_4
                    have hw222_3 := hx222_3
                    have hw222_2 := hx222_2
                    have hw222_1 := hx222_1
                    have hw222_0 := hx222_0
                    cases e222
                    replace hx222_0 := (HB.out.cell (World.block_lt_of_cell? w _ hx222_0)).trans hx222_0
                    replace hx222_1 := (HB.out.cell (World.block_lt_of_cell? w _ hx222_1)).trans hx222_1
                    replace hx222_2 := (HB.out.cell (World.block_lt_of_cell? w _ hx222_2)).trans hx222_2
                    replace hx222_3 := (HB.out.cell (World.block_lt_of_cell? w _ hx222_3)).trans hx222_3
                    replace hx222_4 := (HB.out.cell (World.block_lt_of_cell? w _ hx222_4)).trans hx222_4
                    have HR222_0 := Aside0.mk hi222_0
                    have HC222_0 := Aside0.mk hl222_0
                    clear hi222_0 hl222_0
                    have HR222_1 := Aside0.mk hi222_1
                    have HC222_1 := Aside0.mk hl222_1
                    clear hi222_1 hl222_1
                    have HR222_2 := Aside0.mk hi222_2
                    have HC222_2 := Aside0.mk hl222_2
                    clear hi222_2 hl222_2
                    have HR222_4 := Aside0.mk hi222_4
                    have HC222_4 := Aside0.mk hl222_4
                    clear hi222_4 hl222_4
                    replace p222 := eq_true p222
                    replace q222 := eq_true q222
                    have p223 : 0 ≤ (t220 : Int) := of_decide_eq_true (by first | (with_reducible assumption) | assumption)
                    have q223 : t220 < (l0.length : Int) := of_decide_eq_true (by first | (with_reducible assumption) | assumption)
                    obtain ⟨ad223, A223_0, c223_0, A223_1, c223_1, A223_2, c223_2, A223_4, c223_4, e223, hx223_0, hx223_1, hx223_2, hx223_3, hx223_4, hl223_0, hi223_0, hl223_1, hi223_1, hl223_2, hi223_2, hl223_4, hi223_4⟩ := at_T39 HR0.out t220 p223 q223
                    have hw223_4 := hx223_4
                    have hw223_3 := hx223_3
                    have hw223_2 := hx223_2
                    have hw223_1 := hx223_1
                    have hw223_0 := hx223_0
                    obtain rfl : ad222 = ad223 := (by injection e223)
                    replace hx223_0 := (HB.out.cell (World.block_lt_of_cell? w _ hx223_0)).trans hx223_0
                    replace hx223_1 := (HB.out.cell (World.block_lt_of_cell? w _ hx223_1)).trans hx223_1
                    replace hx223_2 := (HB.out.cell (World.block_lt_of_cell? w _ hx223_2)).trans hx223_2
                    replace hx223_3 := (HB.out.cell (World.block_lt_of_cell? w _ hx223_3)).trans hx223_3
                    replace hx223_4 := (HB.out.cell (World.block_lt_of_cell? w _ hx223_4)).trans hx223_4
                    have HR223_0 := Aside0.mk hi223_0
                    have HC223_0 := Aside0.mk hl223_0
                    clear hi223_0 hl223_0
                    have HR223_1 := Aside0.mk hi223_1
                    have HC223_1 := Aside0.mk hl223_1
                    clear hi223_1 hl223_1
                    have HR223_2 := Aside0.mk hi223_2
                    have HC223_2 := Aside0.mk hl223_2
                    clear hi223_2 hl223_2
                    have HR223_4 := Aside0.mk hi223_4
                    have HC223_4 := Aside0.mk hl223_4
                    clear hi223_4 hl223_4
                    replace p223 := eq_true p223
                    replace q223 := eq_true q223
                    have ea_ := Option.some.inj (hx222_0.symm.trans hx223_0)
                    injection ea_ with ea_ en_ ec_
                    subst ea_
                    subst ec_
                    clear en_
                    have ea_ := Option.some.inj (hx222_1.symm.trans hx223_1)
                    injection ea_ with ea_ en_ ec_
                    subst ea_
                    subst ec_
                    clear en_
                    have ea_ := Option.some.inj (hx222_2.symm.trans hx223_2)
                    injection ea_ with ea_ en_ ec_
                    subst ea_
                    subst ec_
                    clear en_
                    have ea_ := Option.some.inj (hx222_4.symm.trans hx223_4)
                    injection ea_ with ea_ en_ ec_
                    subst ea_
                    subst ec_
                    clear en_
                    have p224 : 0 ≤ (0 : Int) := (by omega)
                    have q224 : 0 < (((rd_T39 l0 t220).f2).length : Int) := of_decide_eq_true (by first | (with_reducible assumption) | assumption)
                    obtain ⟨ad224, e224, hx224_0⟩ := Kd.at_int HR223_4.out 0 p224 q224
                    have hw224_0 := hx224_0
                    (try rw [show ((0 : Int)).toNat = 0 from rfl] at hw224_0)
                    (try rw [show 0 * 1 = 0 from rfl] at hw224_0)
                    (try rw [Addr.add_zero'] at hw224_0)
                    cases e224
                    have qi224 : (0 < ((rd_T39 l0 t220).f2).length) = True := eq_true (by omega)
                    (try rw [show ((0 : Int)).toNat = 0 from rfl] at hx224_0)
                    (try rw [Addr.add_zero'] at hx224_0)
                    replace hx224_0 := (HB.out.cell (World.block_lt_of_cell? w _ hx224_0)).trans hx224_0
                    replace p224 := eq_true p224
                    replace q224 := eq_true q224
                    refine start_ (n := 14) (S := fun w' => w'.cell? (ad222.add ((t220).toNat * 5)) = some (.slice A222_0 ((rd_T39 l0 t220).f0).length c222_0) ∧ w'.cell? ⟨(ad222.add ((t220).toNat * 5)).block, (ad222.add ((t220).toNat * 5)).off + 1, none⟩ = some (.slice A222_1 ((rd_T39 l0 t220).f1.f0).length c222_1) ∧ w'.cell? ⟨(ad222.add ((t220).toNat * 5)).block, (ad222.add ((t220).toNat * 5)).off + 2, none⟩ = some (.slice A222_2 ((rd_T39 l0 t220).f1.f1).length c222_2) ∧ w'.cell? ⟨(ad222.add ((t220).toNat * 5)).block, (ad222.add ((t220).toNat * 5)).off + 3, none⟩ = some (.int .i64 ((rd_T39 l0 t220).f1.f2)) ∧ w'.cell? ⟨(ad222.add ((t220).toNat * 5)).block, (ad222.add ((t220).toNat * 5)).off + 4, none⟩ = some (.slice (some ad224) ((rd_T39 l0 t220).f2).length c222_4) ∧ w'.cell? (ad222.add ((t220).toNat * 5)) = some (.slice A222_0 ((rd_T39 l0 t220).f0).length c222_0) ∧ w'.cell? ⟨(ad222.add ((t220).toNat * 5)).block, (ad222.add ((t220).toNat * 5)).off + 1, none⟩ = some (.slice A222_1 ((rd_T39 l0 t220).f1.f0).length c222_1) ∧ w'.cell? ⟨(ad222.add ((t220).toNat * 5)).block, (ad222.add ((t220).toNat * 5)).off + 2, none⟩ = some (.slice A222_2 ((rd_T39 l0 t220).f1.f1).length c222_2) ∧ w'.cell? ⟨(ad222.add ((t220).toNat * 5)).block, (ad222.add ((t220).toNat * 5)).off + 3, none⟩ = some (.int .i64 ((rd_T39 l0 t220).f1.f2)) ∧ w'.cell? ⟨(ad222.add ((t220).toNat * 5)).block, (ad222.add ((t220).toNat * 5)).off + 4, none⟩ = some (.slice (some ad224) ((rd_T39 l0 t220).f2).length c222_4) ∧ w'.cell? ad224 = some (.int .i64 (rd ((rd_T39 l0 t220).f2) 0))) (ds := []) #[false, false, false, false, false, false, false, false, false, false, false, false, false, false] (by kernel_rfl) rfl rfl ⟨((HB.out.cell (World.block_lt_of_cell? w _ hw222_0)).trans hw222_0), ((HB.out.cell (World.block_lt_of_cell? w _ hw222_1)).trans hw222_1), ((HB.out.cell (World.block_lt_of_cell? w _ hw222_2)).trans hw222_2), ((HB.out.cell (World.block_lt_of_cell? w _ hw222_3)).trans hw222_3), ((HB.out.cell (World.block_lt_of_cell? w _ hw222_4)).trans hw222_4), ((HB.out.cell (World.block_lt_of_cell? w _ hw223_0)).trans hw223_0), ((HB.out.cell (World.block_lt_of_cell? w _ hw223_1)).trans hw223_1), ((HB.out.cell (World.block_lt_of_cell? w _ hw223_2)).trans hw223_2), ((HB.out.cell (World.block_lt_of_cell? w _ hw223_3)).trans hw223_3), ((HB.out.cell (World.block_lt_of_cell? w _ hw223_4)).trans hw223_4), ((HB.out.cell (World.block_lt_of_cell? w _ hw224_0)).trans hw224_0)⟩ (fun hHeld => ?_); refine with_tabW spinneylaw21_TreeLeast.tab11 spinneylaw21_TreeLeast.bits11 (fun HT_ HW_ => ?_)
                    generalize wc.drew = w34 at HB HR222_0 HR222_1 HR222_2 HR222_4 HR223_0 HR223_1 HR223_2 HR223_4 hx222_0 hx222_1 hx222_2 hx222_3 hx222_4 hx223_0 hx223_1 hx223_2 hx223_3 hx223_4 hx224_0 hHeld ⊢
                    refine pure_ (i := 0) (N := some 41) (v := ?_) (a' := ?_) #[true, false, false, false, false, false, false, false, false, false, false, false, false, false] rfl rfl (any_of HT_.out (by kernel_rfl)) (fun _ _ _ h => h) (Or.inl ⟨by rfl, ?_⟩) ?_ ?_
                    rotate_left
                    · intro w'
                      go_simp
                      with_reducible rfl
                    rotate_left
                    · simp only [Act.put, List.setIfInBounds_toArray, List.set_cons_zero, List.set_cons_succ, i64_w, i32_w]
                      rfl
                    refine pure_ (i := 1) (N := some 42) (v := ?_) (a' := ?_) #[true, true, false, false, false, false, false, false, false, false, false, false, false, false] rfl rfl (any_of HT_.out (by kernel_rfl)) (fun _ _ _ h => h) (Or.inl ⟨by rfl, ?_⟩) ?_ ?_
                    rotate_left
                    · intro w'
                      go_simp
                      with_reducible rfl
                    rotate_left
                    · simp only [Act.put, List.setIfInBounds_toArray, List.set_cons_zero, List.set_cons_succ, i64_w, i32_w]
                      rfl
                    refine pure_ (i := 2) (N := some 43) (v := ?_) (a' := ?_) #[true, true, true, false, false, false, false, false, false, false, false, false, false, false] rfl rfl (any_of HT_.out (by kernel_rfl)) (fun _ _ _ h => h) (Or.inl ⟨by rfl, ?_⟩) ?_ ?_
                    rotate_left
                    · intro w'
                      go_simp
                      with_reducible rfl
                    rotate_left
                    · simp only [Act.put, List.setIfInBounds_toArray, List.set_cons_zero, List.set_cons_succ, i64_w, i32_w]
                      rfl
                    refine pure_ (i := 3) (N := some 44) (v := ?_) (a' := ?_) #[true, true, true, true, false, false, false, false, false, false, false, false, false, false] rfl rfl (any_of HT_.out (by kernel_rfl)) (fun _ _ _ h => h) (Or.inl ⟨by rfl, ?_⟩) ?_ ?_
                    rotate_left
                    · intro w'
                      go_simp
                      with_reducible rfl
                    rotate_left
                    · simp only [Act.put, List.setIfInBounds_toArray, List.set_cons_zero, List.set_cons_succ, i64_w, i32_w]
                      rfl
                    refine pure_ (i := 5) (N := some 46) (v := ?_) (a' := ?_) #[true, true, true, true, false, true, false, false, false, false, false, false, false, false] rfl rfl (any_of HT_.out (by kernel_rfl)) (fun _ _ _ h => h) (Or.inl ⟨by rfl, ?_⟩) ?_ ?_
                    rotate_left
                    · intro w'
                      go_simp
                      with_reducible rfl
                    rotate_left
                    · simp only [Act.put, List.setIfInBounds_toArray, List.set_cons_zero, List.set_cons_succ, i64_w, i32_w]
                      rfl
                    refine pure_ (i := 6) (N := some 47) (v := ?_) (a' := ?_) #[true, true, true, true, false, true, true, false, false, false, false, false, false, false] rfl rfl (any_of HT_.out (by kernel_rfl)) (fun _ _ _ h => h) (Or.inl ⟨by rfl, ?_⟩) ?_ ?_
                    rotate_left
                    · intro w'
                      go_simp
                      with_reducible rfl
                    rotate_left
                    · simp only [Act.put, List.setIfInBounds_toArray, List.set_cons_zero, List.set_cons_succ, i64_w, i32_w]
                      rfl
                    refine pure_ (i := 7) (N := some 48) (v := ?_) (a' := ?_) #[true, true, true, true, false, true, true, true, false, false, false, false, false, false] rfl rfl (any_of HT_.out (by kernel_rfl)) (fun _ _ _ h => h) (Or.inl ⟨by rfl, ?_⟩) ?_ ?_
                    rotate_left
                    · intro w'
                      go_simp
                      with_reducible rfl
                    rotate_left
                    · simp only [Act.put, List.setIfInBounds_toArray, List.set_cons_zero, List.set_cons_succ, i64_w, i32_w]
                      rfl
                    refine pure_ (i := 8) (N := some 49) (v := ?_) (a' := ?_) #[true, true, true, true, false, true, true, true, true, false, false, false, false, false] rfl rfl (any_of HT_.out (by kernel_rfl)) (fun _ _ _ h => h) (Or.inl ⟨by rfl, ?_⟩) ?_ ?_
                    rotate_left
                    · intro w'
                      go_simp
                      with_reducible rfl
                    rotate_left
                    · simp only [Act.put, List.setIfInBounds_toArray, List.set_cons_zero, List.set_cons_succ, i64_w, i32_w]
                      rfl
                    refine take_ (i := 4) (N := some 45) (v := ?_) (a' := ?_) #[true, true, true, true, true, true, true, true, true, false, false, false, false, false] rfl rfl (take_ofW HT_.out HW_.out (by kernel_rfl)) (fun _ _ _ h => h) (Or.inl ⟨by rfl, ?_⟩) hHeld ?_ ?_
                    rotate_left
                    · rintro w' ⟨s0, s1, s2, s3, s4, s5, s6, s7, s8, s9, s10⟩
                      go_simp
                      with_reducible rfl
                    rotate_left
                    · simp only [Act.put, List.setIfInBounds_toArray, List.set_cons_zero, List.set_cons_succ, i64_w, i32_w]
                      rfl
                    refine take_ (i := 9) (N := some 50) (v := ?_) (a' := ?_) #[true, true, true, true, true, true, true, true, true, true, false, false, false, false] rfl rfl (take_ofW HT_.out HW_.out (by kernel_rfl)) (fun _ _ _ h => h) (Or.inl ⟨by rfl, ?_⟩) hHeld ?_ ?_
                    rotate_left
                    · rintro w' ⟨s0, s1, s2, s3, s4, s5, s6, s7, s8, s9, s10⟩
                      go_simp
                      with_reducible rfl
                    rotate_left
                    · simp only [Act.put, List.setIfInBounds_toArray, List.set_cons_zero, List.set_cons_succ, i64_w, i32_w]
                      rfl
                    refine pure_ (i := 10) (N := some 51) (v := ?_) (a' := ?_) #[true, true, true, true, true, true, true, true, true, true, true, false, false, false] rfl rfl (any_of HT_.out (by kernel_rfl)) (fun _ _ _ h => h) (Or.inl ⟨by rfl, ?_⟩) ?_ ?_
                    rotate_left
                    · intro w'
                      go_simp
                      with_reducible rfl
                    rotate_left
                    · simp only [Act.put, List.setIfInBounds_toArray, List.set_cons_zero, List.set_cons_succ, i64_w, i32_w]
                      rfl
                    refine take_ (i := 11) (N := some 52) (v := ?_) (a' := ?_) #[true, true, true, true, true, true, true, true, true, true, true, true, false, false] rfl rfl (take_ofW HT_.out HW_.out (by kernel_rfl)) (fun _ _ _ h => h) (Or.inl ⟨by rfl, ?_⟩) hHeld ?_ ?_
                    rotate_left
                    · rintro w' ⟨s0, s1, s2, s3, s4, s5, s6, s7, s8, s9, s10⟩
                      go_simp
                      with_reducible rfl
                    rotate_left
                    · simp only [Act.put, List.setIfInBounds_toArray, List.set_cons_zero, List.set_cons_succ, i64_w, i32_w]
                      rfl
                    refine one_ (i := 12) (N := some 53) #[true, true, true, true, true, true, true, true, true, true, true, true, true, false] rfl rfl (one_of HT_.out (by kernel_rfl)) (by decide) (fun K hK => ?_)
                    refine goes_ Try.func18 (by kernel_rfl) rfl #[.slice A222_0 ((rd_T39 l0 t220).f0).length c222_0, .int .i64 (rd ((rd_T39 l0 t220).f2) 0)] (by rfl) rfl rfl (by (try simp only [List.map_toArray, List.map_cons, List.map_nil]); first | done | rfl | (simp only [List.length_drop, List.length_take]; rfl)) ?_
                    with_reducible refine (spinneyref19_Next.calls _ _ ((rd_T39 l0 t220).f0) (rd ((rd_T39 l0 t220).f2) 0) t225 _ ?side1 ?side2 A33.out).mono ?_
                    (case side1 => repeat (first | exact (Kd.C_below HR222_0.out HB.out) | (with_reducible refine Kd.C_alloc ?_ _) | (with_reducible refine Kd.C_drewN ?_ _) | (with_reducible refine Kd.C_drew ?_)))
                    (case side2 => exact HC222_0.out)
                    rintro e w35 ⟨v226, rfl, ho0, hb⟩
                    refine ⟨_, rfl, ?_⟩
                    have n0_ := Aside0.mk (Kd.R_lower ho0 (below_size (by repeat (first | (with_reducible first | exact HB.out | apply below_alloc | apply pw_below_drewN | apply below_drew1) | exact HB.out))))
                    have n1_ := Aside0.mk (below_step (by repeat (first | (with_reducible first | exact HB.out | apply below_alloc | apply pw_below_drewN | apply below_drew1) | exact HB.out)) hb)
                    clear HB
                    have HO227 := n0_
                    have HB := n1_
                    clear n0_ n1_
                    (try clear hb)
                    (try clear hb2)
                    (try clear hk)
                    (try clear hi)
                    (try clear ho0)
                    refine hK.out _ _ ⟨((HB.out.cell (World.block_lt_of_cell? w _ hw222_0)).trans hw222_0), ((HB.out.cell (World.block_lt_of_cell? w _ hw222_1)).trans hw222_1), ((HB.out.cell (World.block_lt_of_cell? w _ hw222_2)).trans hw222_2), ((HB.out.cell (World.block_lt_of_cell? w _ hw222_3)).trans hw222_3), ((HB.out.cell (World.block_lt_of_cell? w _ hw222_4)).trans hw222_4), ((HB.out.cell (World.block_lt_of_cell? w _ hw223_0)).trans hw223_0), ((HB.out.cell (World.block_lt_of_cell? w _ hw223_1)).trans hw223_1), ((HB.out.cell (World.block_lt_of_cell? w _ hw223_2)).trans hw223_2), ((HB.out.cell (World.block_lt_of_cell? w _ hw223_3)).trans hw223_3), ((HB.out.cell (World.block_lt_of_cell? w _ hw223_4)).trans hw223_4), ((HB.out.cell (World.block_lt_of_cell? w _ hw224_0)).trans hw224_0)⟩ (fun hHeld => ?_)
                    clear hK K
                    refine norm_ (a' := ?_) ?_ ?_
                    rotate_left
                    · show Act.put _ (some 53) _ = _
                      simp only [Act.put, List.setIfInBounds_toArray, List.set_cons_zero, List.set_cons_succ, i64_w, i32_w]
                      rfl
                    refine pure_ (i := 13) (N := some 5) (v := ?_) (a' := ?_) #[true, true, true, true, true, true, true, true, true, true, true, true, true, true] rfl rfl (any_of HT_.out (by kernel_rfl)) (fun _ _ _ h => h) (Or.inl ⟨by rfl, ?_⟩) ?_ ?_
                    rotate_left
                    · intro w'
                      go_simp
                      with_reducible rfl
                    rotate_left
                    · simp only [Act.put, List.setIfInBounds_toArray, List.set_cons_zero, List.set_cons_succ, i64_w, i32_w]
                      rfl
                    refine done_ (done_of HT_.out (by kernel_rfl)) ?_
                    try go_wp2
                    go_loopg [56] kj18 (fun kq v56 w' => ∃ (x56_2 : Int), v56 = .int .i64 x56_2 ∧ Aside0 (spinneylaw21_TreeLeast.l0 kq t214 t225 l0 (l0.length : Int) x56_2 = some r) ∧ Aside0 (kq ≤ kj18) ∧ Aside0 (Kd.R (Kd.int .i64) 3 w' w.heap.size (fun _ => True) v226 t225) ∧ Aside0 (Below w.heap.size w w'))
                    case atStart => exact ⟨(0), (by first | rfl | (simp; done) | (simp [*]; done)), H', ⟨Nat.le_refl _⟩, ⟨by (with_reducible repeat (first | apply Kd.R_alloc | apply Kd.R_drewN | apply Kd.R_drew)); exact HO227.out⟩, ⟨by repeat (first | (with_reducible first | exact HB.out | apply below_alloc | apply pw_below_drewN | apply below_drew1) | exact HB.out)⟩⟩
                    case round =>
                      clear H'
                      try clear c1
                      try clear c2
                      try clear p2
                      try clear q2
                      try clear hx2
                      try clear qi2
                      try clear c3
                      try clear c4
                      try clear c5
                      try clear c6
                      try clear c7
                      try clear c9
                      try clear c9b0
                      try clear c9b1
                      try clear c11
                      try clear c11b0
                      try clear c12
                      try clear c13
                      try clear c18
                      try clear c22
                      try clear p22
                      try clear q22
                      try clear hx22
                      try clear qi22
                      try clear c26
                      try clear c26b0
                      try clear c27
                      try clear c27b0
                      try clear c28
                      try clear c28b0
                      try clear c29
                      try clear c30
                      try clear c30b0
                      try clear c31
                      try clear c31b0
                      try clear c32
                      try clear c32b0
                      try clear c32b1
                      try clear hx221_0
                      try clear hx221_1
                      try clear hx221_2
                      try clear hx221_3
                      try clear hx221_4
                      try clear hx222_0
                      try clear hx222_1
                      try clear hx222_2
                      try clear hx222_3
                      try clear hx222_4
                      try clear hx223_0
                      try clear hx223_1
                      try clear hx223_2
                      try clear hx223_3
                      try clear hx223_4
                      try clear hx224_0
                      try clear p2
                      try clear p22
                      try clear p221
                      try clear p222
                      try clear p223
                      try clear p224
                      try clear q2
                      try clear q22
                      try clear q221
                      try clear q222
                      try clear q223
                      try clear q224
                      obtain ⟨x56_2, rfl, HA, HK2, HO_5, HB⟩ := hrel
                      cases gk with
                      | zero => exact absurd HA.out (by simp [spinneylaw21_TreeLeast.l0])
                      | succ k2 =>
                        have H := HA.out
                        clear HA
                        simp only [spinneylaw21_TreeLeast.l0] at H
                        by_cases c36 : x56_2 < (l0.length : Int)
                        · rw [if_pos c36] at H
                          have c36b0 : decide (x56_2 < (l0.length : Int)) = true := decide_eq_true c36
                          clear c36
                          by_cases c37 : 0 ≤ x56_2
                          · rw [if_pos c37] at H
                            have c37b0 : decide (0 ≤ x56_2) = true := decide_eq_true c37
                            clear c37
                            by_cases c38 : x56_2 < (l0.length : Int)
                            · rw [if_pos c38] at H
                              have c38b0 : decide (x56_2 < (l0.length : Int)) = true := decide_eq_true c38
                              clear c38
                              by_cases c39 : (((rd_T39 l0 x56_2).f2).length : Int) > 0
                              · rw [if_pos c39] at H
                                have c39b0 : decide (0 < (((rd_T39 l0 x56_2).f2).length : Int)) = true := decide_eq_true c39
                                have c39b1 : decide (0 < ((rd_T39 l0 x56_2).f2).length) = true := decide_eq_true (by omega)
                                clear c39
                                by_cases c40 : 0 < (((rd_T39 l0 x56_2).f2).length : Int)
                                · rw [if_pos c40] at H
                                  have c40b0 : decide (0 < (((rd_T39 l0 x56_2).f2).length : Int)) = true := decide_eq_true c40
                                  have c40b1 : decide (0 < ((rd_T39 l0 x56_2).f2).length) = true := decide_eq_true (by omega)
                                  clear c40
                                  replace H := Option.bind_eq_some_iff.mp H
                                  obtain ⟨t231, A410, H⟩ := H
                                  replace H : ((spinneyref19_Compare.f k2 t231 t225).bind fun t234 => (if t234 < 0 then (none) else (spinneylaw21_TreeLeast.l0 k2 t214 t225 l0 (l0.length : Int) (wrap64 (x56_2 + 1))))) = some r := H
                                  have A41 := Aside0.mk A410
                                  clear A410
                                  replace H := Option.bind_eq_some_iff.mp H
                                  obtain ⟨t234, A420, H⟩ := H
                                  replace H : (if t234 < 0 then (none) else (spinneylaw21_TreeLeast.l0 k2 t214 t225 l0 (l0.length : Int) (wrap64 (x56_2 + 1)))) = some r := H
                                  have A42 := Aside0.mk A420
                                  clear A420
                                  by_cases c43 : t234 < 0
                                  · rw [if_pos c43] at H
                                    exact absurd H (by simp)
                                  · rw [if_neg c43] at H
                                    have c43b0 : decide (t234 < 0) = false := decide_eq_false c43
                                    clear c43
                                    have H' := Aside0.mk H
                                    clear H
                                    have p228 : 0 ≤ (x56_2 : Int) := of_decide_eq_true (by first | (with_reducible assumption) | assumption)
                                    have q228 : x56_2 < (l0.length : Int) := of_decide_eq_true (by first | (with_reducible assumption) | assumption)
                                    obtain ⟨ad228, A228_0, c228_0, A228_1, c228_1, A228_2, c228_2, A228_4, c228_4, e228, hx228_0, hx228_1, hx228_2, hx228_3, hx228_4, hl228_0, hi228_0, hl228_1, hi228_1, hl228_2, hi228_2, hl228_4, hi228_4⟩ := at_T39 HR0.out x56_2 p228 q228
                                    obtain rfl : ad222 = ad228 := (by injection e228)
                                    replace hx228_0 := (HB.out.cell (World.block_lt_of_cell? w _ hx228_0)).trans hx228_0
                                    replace hx228_1 := (HB.out.cell (World.block_lt_of_cell? w _ hx228_1)).trans hx228_1
                                    replace hx228_2 := (HB.out.cell (World.block_lt_of_cell? w _ hx228_2)).trans hx228_2
                                    replace hx228_3 := (HB.out.cell (World.block_lt_of_cell? w _ hx228_3)).trans hx228_3
                                    replace hx228_4 := (HB.out.cell (World.block_lt_of_cell? w _ hx228_4)).trans hx228_4
                                    have HR228_0 := Aside0.mk hi228_0
                                    have HC228_0 := Aside0.mk hl228_0
                                    clear hi228_0 hl228_0
                                    have HR228_1 := Aside0.mk hi228_1
                                    have HC228_1 := Aside0.mk hl228_1
                                    clear hi228_1 hl228_1
                                    have HR228_2 := Aside0.mk hi228_2
                                    have HC228_2 := Aside0.mk hl228_2
                                    clear hi228_2 hl228_2
                                    have HR228_4 := Aside0.mk hi228_4
                                    have HC228_4 := Aside0.mk hl228_4
                                    clear hi228_4 hl228_4
                                    replace p228 := eq_true p228
                                    replace q228 := eq_true q228
                                    try go_wp2_with (first | ((with_reducible refine gate_dst (N := 7) rfl ?_); (try (refine gate_guard (by rfl) ?_; dsimp only)); refine box_event ?hg (N := 7) ?hd (cs := #[.slice none 0 0, .slice none 0 0, .slice none 0 0, .int .i64 0, .slice none 0 0]) (t := 39) ?hr ?_; (case hd => rfl); (case hg => rfl); (case hr => first | (go_simp; done) | (go_simp; rfl)); intro gb229 hg w44 hbox hb; have n0_ := Aside0.mk (Kd.R_below (by (with_reducible repeat (first | apply Kd.R_alloc | apply Kd.R_drewN | apply Kd.R_drew)); exact HO_5.out) hb); have n1_ := Aside0.mk (below_step (by repeat (first | (with_reducible first | exact HB.out | apply below_alloc | apply pw_below_drewN | apply below_drew1) | exact HB.out)) hb); have n2_ := Aside0.mk (hbox); have n3_ := Aside0.mk ((by rw [hg]; exact (below_size (by repeat (first | (with_reducible first | exact HB.out | apply below_alloc | apply pw_below_drewN | apply below_drew1) | exact HB.out))) : w.heap.size ≤ gb229)); have n4_ := Aside0.mk ((by rw [hg]; exact (below_size (by repeat (first | (with_reducible first | exact HB.out | apply below_alloc | apply pw_below_drewN | apply below_drew1) | exact HB.out))) : w.heap.size ≤ gb229)); clear HO_5; clear HB; have HO_5 := n0_; have HB := n1_; have BK229 := n2_; have GW229 := n3_; have GE229 := n4_; clear n0_ n1_ n2_ n3_ n4_; clear hb hbox hg; have hcz45_0 : w44.cell? ⟨gb229, 0, none⟩ = some (.slice none 0 0) := (blk_cell BK229.out 0).trans rfl; have hcz45_1 : w44.cell? ⟨gb229, 1, none⟩ = some (.slice none 0 0) := (blk_cell BK229.out 1).trans rfl; have hcz45_2 : w44.cell? ⟨gb229, 2, none⟩ = some (.slice none 0 0) := (blk_cell BK229.out 2).trans rfl; have hcz45_3 : w44.cell? ⟨gb229, 3, none⟩ = some (.int .i64 0) := (blk_cell BK229.out 3).trans rfl; have hcz45_4 : w44.cell? ⟨gb229, 4, none⟩ = some (.slice none 0 0) := (blk_cell BK229.out 4).trans rfl; have hfz45_0 := blk_frozen BK229.out 0; have hfz45_1 := blk_frozen BK229.out 1; have hfz45_2 := blk_frozen BK229.out 2; have hfz45_3 := blk_frozen BK229.out 3; have hfz45_4 := blk_frozen BK229.out 4))
                                    have n0_ : Aside0 (Kd.R (Kd.int .i64) 3 (((((w44.setCell ⟨gb229, 0, none⟩ (.slice A228_0 ((rd_T39 l0 x56_2).f0).length c228_0)).setCell ⟨gb229, 1, none⟩ (.slice A228_1 ((rd_T39 l0 x56_2).f1.f0).length c228_1)).setCell ⟨gb229, 2, none⟩ (.slice A228_2 ((rd_T39 l0 x56_2).f1.f1).length c228_2)).setCell ⟨gb229, 3, none⟩ (.int .i64 ((rd_T39 l0 x56_2).f1.f2))).setCell ⟨gb229, 4, none⟩ (.slice A228_4 ((rd_T39 l0 x56_2).f2).length c228_4)) w.heap.size (fun _ => True) v226 t225) := ⟨by (with_reducible repeat (first | apply Kd.R_alloc | apply Kd.R_drewN | apply Kd.R_drew)); exact Kd.R_mono (Kd.R_far (p := ⟨gb229, 4, none⟩) (Kd.R_far (p := ⟨gb229, 3, none⟩) (Kd.R_far (p := ⟨gb229, 2, none⟩) (Kd.R_far (p := ⟨gb229, 1, none⟩) (Kd.R_far (p := ⟨gb229, 0, none⟩) (Kd.R_types HO_5.out BK229.out (by decide)) (fun _ hk => hk.2) (.slice A228_0 ((rd_T39 l0 x56_2).f0).length c228_0)) (fun _ hk => hk.2) (.slice A228_1 ((rd_T39 l0 x56_2).f1.f0).length c228_1)) (fun _ hk => hk.2) (.slice A228_2 ((rd_T39 l0 x56_2).f1.f1).length c228_2)) (fun _ hk => hk.2) (.int .i64 ((rd_T39 l0 x56_2).f1.f2))) (fun _ hk => hk.2) (.slice A228_4 ((rd_T39 l0 x56_2).f2).length c228_4)) (fun _ hk => trivial)⟩
                                    have n1_ : Aside0 ((((((w44.setCell ⟨gb229, 0, none⟩ (.slice A228_0 ((rd_T39 l0 x56_2).f0).length c228_0)).setCell ⟨gb229, 1, none⟩ (.slice A228_1 ((rd_T39 l0 x56_2).f1.f0).length c228_1)).setCell ⟨gb229, 2, none⟩ (.slice A228_2 ((rd_T39 l0 x56_2).f1.f1).length c228_2)).setCell ⟨gb229, 3, none⟩ (.int .i64 ((rd_T39 l0 x56_2).f1.f2))).setCell ⟨gb229, 4, none⟩ (.slice A228_4 ((rd_T39 l0 x56_2).f2).length c228_4)).heap[gb229]? = some (.cells #[.slice A228_0 ((rd_T39 l0 x56_2).f0).length c228_0, .slice A228_1 ((rd_T39 l0 x56_2).f1.f0).length c228_1, .slice A228_2 ((rd_T39 l0 x56_2).f1.f1).length c228_2, .int .i64 ((rd_T39 l0 x56_2).f1.f2), .slice A228_4 ((rd_T39 l0 x56_2).f2).length c228_4] 39 (0, 0))) := ⟨by (with_reducible repeat (first | refine blk_drewN ?_ _ | refine blk_drew ?_ | refine blk_alloc ?_ _)); refine blk_put (cs := #[.slice A228_0 ((rd_T39 l0 x56_2).f0).length c228_0, .slice A228_1 ((rd_T39 l0 x56_2).f1.f0).length c228_1, .slice A228_2 ((rd_T39 l0 x56_2).f1.f1).length c228_2, .int .i64 ((rd_T39 l0 x56_2).f1.f2), .slice none 0 0]) ?_ 4 _ rfl; (with_reducible repeat (first | refine blk_drewN ?_ _ | refine blk_drew ?_ | refine blk_alloc ?_ _)); refine blk_put (cs := #[.slice A228_0 ((rd_T39 l0 x56_2).f0).length c228_0, .slice A228_1 ((rd_T39 l0 x56_2).f1.f0).length c228_1, .slice A228_2 ((rd_T39 l0 x56_2).f1.f1).length c228_2, .int .i64 0, .slice none 0 0]) ?_ 3 _ rfl; (with_reducible repeat (first | refine blk_drewN ?_ _ | refine blk_drew ?_ | refine blk_alloc ?_ _)); refine blk_put (cs := #[.slice A228_0 ((rd_T39 l0 x56_2).f0).length c228_0, .slice A228_1 ((rd_T39 l0 x56_2).f1.f0).length c228_1, .slice none 0 0, .int .i64 0, .slice none 0 0]) ?_ 2 _ rfl; (with_reducible repeat (first | refine blk_drewN ?_ _ | refine blk_drew ?_ | refine blk_alloc ?_ _)); refine blk_put (cs := #[.slice A228_0 ((rd_T39 l0 x56_2).f0).length c228_0, .slice none 0 0, .slice none 0 0, .int .i64 0, .slice none 0 0]) ?_ 1 _ rfl; (with_reducible repeat (first | refine blk_drewN ?_ _ | refine blk_drew ?_ | refine blk_alloc ?_ _)); refine blk_put (cs := #[.slice none 0 0, .slice none 0 0, .slice none 0 0, .int .i64 0, .slice none 0 0]) ?_ 0 _ rfl; (with_reducible repeat (first | refine blk_drewN ?_ _ | refine blk_drew ?_ | refine blk_alloc ?_ _)); exact BK229.out⟩
                                    have n2_ : Aside0 (Below w.heap.size w (((((w44.setCell ⟨gb229, 0, none⟩ (.slice A228_0 ((rd_T39 l0 x56_2).f0).length c228_0)).setCell ⟨gb229, 1, none⟩ (.slice A228_1 ((rd_T39 l0 x56_2).f1.f0).length c228_1)).setCell ⟨gb229, 2, none⟩ (.slice A228_2 ((rd_T39 l0 x56_2).f1.f1).length c228_2)).setCell ⟨gb229, 3, none⟩ (.int .i64 ((rd_T39 l0 x56_2).f1.f2))).setCell ⟨gb229, 4, none⟩ (.slice A228_4 ((rd_T39 l0 x56_2).f2).length c228_4))) := ⟨by repeat (first | (with_reducible first | exact HB.out | apply below_alloc | apply pw_below_drewN | apply below_drew1 | refine below_set ?_ GE229.out) | exact HB.out)⟩
                                    (try clear HO_5)
                                    (try clear BK229)
                                    (try clear HB)
                                    generalize (((((w44.setCell ⟨gb229, 0, none⟩ (.slice A228_0 ((rd_T39 l0 x56_2).f0).length c228_0)).setCell ⟨gb229, 1, none⟩ (.slice A228_1 ((rd_T39 l0 x56_2).f1.f0).length c228_1)).setCell ⟨gb229, 2, none⟩ (.slice A228_2 ((rd_T39 l0 x56_2).f1.f1).length c228_2)).setCell ⟨gb229, 3, none⟩ (.int .i64 ((rd_T39 l0 x56_2).f1.f2))).setCell ⟨gb229, 4, none⟩ (.slice A228_4 ((rd_T39 l0 x56_2).f2).length c228_4)) = w46 at n0_ n1_ n2_ ⊢
                                    have HO_5 := n0_
                                    have BK229 := n1_
                                    have HB := n2_
                                    clear n0_ n1_ n2_
                                    have n0_ := Aside0.mk (Kd.R_drew HO_5.out)
                                    have n1_ := Aside0.mk (blk_drew BK229.out)
                                    have n2_ := Aside0.mk (below_drew1 HB.out)
                                    clear HO_5
                                    clear BK229
                                    clear HB
                                    have HO_5 := n0_
                                    have BK229 := n1_
                                    have HB := n2_
                                    clear n0_ n1_ n2_
                                    have p230 : 0 ≤ (0 : Int) := (by omega)
                                    have q230 : 0 < (((rd_T39 l0 x56_2).f2).length : Int) := of_decide_eq_true (by first | (with_reducible assumption) | assumption)
                                    obtain ⟨ad230, e230, hx230_0⟩ := Kd.at_int HR228_4.out 0 p230 q230
                                    have hw230_0 := hx230_0
                                    (try rw [show ((0 : Int)).toNat = 0 from rfl] at hw230_0)
                                    (try rw [show 0 * 1 = 0 from rfl] at hw230_0)
                                    (try rw [Addr.add_zero'] at hw230_0)
                                    cases e230
                                    have qi230 : (0 < ((rd_T39 l0 x56_2).f2).length) = True := eq_true (by omega)
                                    (try rw [show ((0 : Int)).toNat = 0 from rfl] at hx230_0)
                                    (try rw [Addr.add_zero'] at hx230_0)
                                    replace hx230_0 := (HB.out.cell (World.block_lt_of_cell? w _ hx230_0)).trans hx230_0
                                    replace p230 := eq_true p230
                                    replace q230 := eq_true q230
                                    refine start_ (n := 16) (S := fun w' => w'.cell? ⟨gb229, 0, none⟩ = some (.slice A228_0 ((rd_T39 l0 x56_2).f0).length c228_0) ∧ w'.cell? ⟨gb229, 1, none⟩ = some (.slice A228_1 ((rd_T39 l0 x56_2).f1.f0).length c228_1) ∧ w'.cell? ⟨gb229, 2, none⟩ = some (.slice A228_2 ((rd_T39 l0 x56_2).f1.f1).length c228_2) ∧ w'.cell? ⟨gb229, 3, none⟩ = some (.int .i64 ((rd_T39 l0 x56_2).f1.f2)) ∧ w'.cell? ⟨gb229, 4, none⟩ = some (.slice (some ad230) ((rd_T39 l0 x56_2).f2).length c228_4) ∧ w'.cell? ad230 = some (.int .i64 (rd ((rd_T39 l0 x56_2).f2) 0))) (ds := []) #[false, false, false, false, false, false, false, false, false, false, false, false, false, false, false, false] (by kernel_rfl) rfl rfl ⟨(blk_cell BK229.out 0).trans rfl, (blk_cell BK229.out 1).trans rfl, (blk_cell BK229.out 2).trans rfl, (blk_cell BK229.out 3).trans rfl, (blk_cell BK229.out 4).trans rfl, ((HB.out.cell (World.block_lt_of_cell? w _ hw230_0)).trans hw230_0)⟩ (fun hHeld => ?_); refine with_tabW spinneylaw21_TreeLeast.tab15 spinneylaw21_TreeLeast.bits15 (fun HT_ HW_ => ?_)
                                    generalize w46.drew = w47 at HO_5 BK229 HB hx230_0 hHeld ⊢
                                    refine pure_ (i := 0) (N := some 60) (v := ?_) (a' := ?_) #[true, false, false, false, false, false, false, false, false, false, false, false, false, false, false, false] rfl rfl (any_of HT_.out (by kernel_rfl)) (fun _ _ _ h => h) (Or.inl ⟨by rfl, ?_⟩) ?_ ?_
                                    rotate_left
                                    · intro w'
                                      go_simp
                                      with_reducible rfl
                                    rotate_left
                                    · simp only [Act.put, List.setIfInBounds_toArray, List.set_cons_zero, List.set_cons_succ, i64_w, i32_w]
                                      rfl
                                    refine take_ (i := 1) (N := some 61) (v := ?_) (a' := ?_) #[true, true, false, false, false, false, false, false, false, false, false, false, false, false, false, false] rfl rfl (take_ofW HT_.out HW_.out (by kernel_rfl)) (fun _ _ _ h => h) (Or.inl ⟨by rfl, ?_⟩) hHeld ?_ ?_
                                    rotate_left
                                    · rintro w' ⟨s0, s1, s2, s3, s4, s5⟩
                                      go_simp
                                      with_reducible rfl
                                    rotate_left
                                    · simp only [Act.put, List.setIfInBounds_toArray, List.set_cons_zero, List.set_cons_succ, i64_w, i32_w]
                                      rfl
                                    refine pure_ (i := 2) (N := some 62) (v := ?_) (a' := ?_) #[true, true, true, false, false, false, false, false, false, false, false, false, false, false, false, false] rfl rfl (any_of HT_.out (by kernel_rfl)) (fun _ _ _ h => h) (Or.inl ⟨by rfl, ?_⟩) ?_ ?_
                                    rotate_left
                                    · intro w'
                                      go_simp
                                      with_reducible rfl
                                    rotate_left
                                    · simp only [Act.put, List.setIfInBounds_toArray, List.set_cons_zero, List.set_cons_succ, i64_w, i32_w]
                                      rfl
                                    refine pure_ (i := 3) (N := some 63) (v := ?_) (a' := ?_) #[true, true, true, true, false, false, false, false, false, false, false, false, false, false, false, false] rfl rfl (any_of HT_.out (by kernel_rfl)) (fun _ _ _ h => h) (Or.inl ⟨by rfl, ?_⟩) ?_ ?_
                                    rotate_left
                                    · intro w'
                                      go_simp
                                      with_reducible rfl
                                    rotate_left
                                    · simp only [Act.put, List.setIfInBounds_toArray, List.set_cons_zero, List.set_cons_succ, i64_w, i32_w]
                                      rfl
                                    refine pure_ (i := 4) (N := some 64) (v := ?_) (a' := ?_) #[true, true, true, true, true, false, false, false, false, false, false, false, false, false, false, false] rfl rfl (any_of HT_.out (by kernel_rfl)) (fun _ _ _ h => h) (Or.inl ⟨by rfl, ?_⟩) ?_ ?_
                                    rotate_left
                                    · intro w'
                                      go_simp
                                      with_reducible rfl
                                    rotate_left
                                    · simp only [Act.put, List.setIfInBounds_toArray, List.set_cons_zero, List.set_cons_succ, i64_w, i32_w]
                                      rfl
                                    refine pure_ (i := 5) (N := some 65) (v := ?_) (a' := ?_) #[true, true, true, true, true, true, false, false, false, false, false, false, false, false, false, false] rfl rfl (any_of HT_.out (by kernel_rfl)) (fun _ _ _ h => h) (Or.inl ⟨by rfl, ?_⟩) ?_ ?_
                                    rotate_left
                                    · intro w'
                                      go_simp
                                      with_reducible rfl
                                    rotate_left
                                    · simp only [Act.put, List.setIfInBounds_toArray, List.set_cons_zero, List.set_cons_succ, i64_w, i32_w]
                                      rfl
                                    refine pure_ (i := 7) (N := some 67) (v := ?_) (a' := ?_) #[true, true, true, true, true, true, false, true, false, false, false, false, false, false, false, false] rfl rfl (any_of HT_.out (by kernel_rfl)) (fun _ _ _ h => h) (Or.inl ⟨by rfl, ?_⟩) ?_ ?_
                                    rotate_left
                                    · intro w'
                                      go_simp
                                      with_reducible rfl
                                    rotate_left
                                    · simp only [Act.put, List.setIfInBounds_toArray, List.set_cons_zero, List.set_cons_succ, i64_w, i32_w]
                                      rfl
                                    refine pure_ (i := 12) (N := some 72) (v := ?_) (a' := ?_) #[true, true, true, true, true, true, false, true, false, false, false, false, true, false, false, false] rfl rfl (any_of HT_.out (by kernel_rfl)) (fun _ _ _ h => h) (Or.inl ⟨by rfl, ?_⟩) ?_ ?_
                                    rotate_left
                                    · intro w'
                                      go_simp
                                      with_reducible rfl
                                    rotate_left
                                    · simp only [Act.put, List.setIfInBounds_toArray, List.set_cons_zero, List.set_cons_succ, i64_w, i32_w]
                                      rfl
                                    refine take_ (i := 6) (N := some 66) (v := ?_) (a' := ?_) #[true, true, true, true, true, true, true, true, false, false, false, false, true, false, false, false] rfl rfl (take_ofW HT_.out HW_.out (by kernel_rfl)) (fun _ _ _ h => h) (Or.inl ⟨by rfl, ?_⟩) hHeld ?_ ?_
                                    rotate_left
                                    · rintro w' ⟨s0, s1, s2, s3, s4, s5⟩
                                      go_simp
                                      with_reducible rfl
                                    rotate_left
                                    · simp only [Act.put, List.setIfInBounds_toArray, List.set_cons_zero, List.set_cons_succ, i64_w, i32_w]
                                      rfl
                                    refine take_ (i := 8) (N := some 68) (v := ?_) (a' := ?_) #[true, true, true, true, true, true, true, true, true, false, false, false, true, false, false, false] rfl rfl (take_ofW HT_.out HW_.out (by kernel_rfl)) (fun _ _ _ h => h) (Or.inl ⟨by rfl, ?_⟩) hHeld ?_ ?_
                                    rotate_left
                                    · rintro w' ⟨s0, s1, s2, s3, s4, s5⟩
                                      go_simp
                                      with_reducible rfl
                                    rotate_left
                                    · simp only [Act.put, List.setIfInBounds_toArray, List.set_cons_zero, List.set_cons_succ, i64_w, i32_w]
                                      rfl
                                    refine pure_ (i := 9) (N := some 69) (v := ?_) (a' := ?_) #[true, true, true, true, true, true, true, true, true, true, false, false, true, false, false, false] rfl rfl (any_of HT_.out (by kernel_rfl)) (fun _ _ _ h => h) (Or.inl ⟨by rfl, ?_⟩) ?_ ?_
                                    rotate_left
                                    · intro w'
                                      go_simp
                                      with_reducible rfl
                                    rotate_left
                                    · simp only [Act.put, List.setIfInBounds_toArray, List.set_cons_zero, List.set_cons_succ, i64_w, i32_w]
                                      rfl
                                    refine take_ (i := 10) (N := some 70) (v := ?_) (a' := ?_) #[true, true, true, true, true, true, true, true, true, true, true, false, true, false, false, false] rfl rfl (take_ofW HT_.out HW_.out (by kernel_rfl)) (fun _ _ _ h => h) (Or.inl ⟨by rfl, ?_⟩) hHeld ?_ ?_
                                    rotate_left
                                    · rintro w' ⟨s0, s1, s2, s3, s4, s5⟩
                                      go_simp
                                      with_reducible rfl
                                    rotate_left
                                    · simp only [Act.put, List.setIfInBounds_toArray, List.set_cons_zero, List.set_cons_succ, i64_w, i32_w]
                                      rfl
                                    refine one_ (i := 11) (N := some 71) #[true, true, true, true, true, true, true, true, true, true, true, true, true, false, false, false] rfl rfl (one_of HT_.out (by kernel_rfl)) (by decide) (fun K hK => ?_)
                                    refine goes_ Try.func18 (by kernel_rfl) rfl #[.slice A228_0 ((rd_T39 l0 x56_2).f0).length c228_0, .int .i64 (rd ((rd_T39 l0 x56_2).f2) 0)] (by rfl) rfl rfl (by (try simp only [List.map_toArray, List.map_cons, List.map_nil]); first | done | rfl | (simp only [List.length_drop, List.length_take]; rfl)) ?_
                                    with_reducible refine (spinneyref19_Next.calls _ _ ((rd_T39 l0 x56_2).f0) (rd ((rd_T39 l0 x56_2).f2) 0) t231 _ ?side1 ?side2 A41.out).mono ?_
                                    (case side1 => repeat (first | exact (Kd.C_below HR228_0.out HB.out) | (with_reducible refine Kd.C_alloc ?_ _) | (with_reducible refine Kd.C_drewN ?_ _) | (with_reducible refine Kd.C_drew ?_)))
                                    (case side2 => exact HC228_0.out)
                                    rintro e w48 ⟨v232, rfl, ho0, hb⟩
                                    refine ⟨_, rfl, ?_⟩
                                    have n0_ := Aside0.mk (Kd.R_elder' (by (with_reducible repeat (first | apply Kd.R_alloc | apply Kd.R_drewN | apply Kd.R_drew)); exact HO_5.out) (Kd.R_base ho0) hb)
                                    have n1_ := Aside0.mk (Kd.R_lower (Kd.R_new' ho0 (Kd.R_lt (by (with_reducible repeat (first | apply Kd.R_alloc | apply Kd.R_drewN | apply Kd.R_drew)); exact HO_5.out))) (below_size (by repeat (first | (with_reducible first | exact HB.out | apply below_alloc | apply pw_below_drewN | apply below_drew1 | refine below_set ?_ GE229.out) | exact HB.out))))
                                    have n2_ := Aside0.mk (blk_below (g := gb229) (o := .cells #[.slice A228_0 ((rd_T39 l0 x56_2).f0).length c228_0, .slice A228_1 ((rd_T39 l0 x56_2).f1.f0).length c228_1, .slice A228_2 ((rd_T39 l0 x56_2).f1.f1).length c228_2, .int .i64 ((rd_T39 l0 x56_2).f1.f2), .slice (some ad230) ((rd_T39 l0 x56_2).f2).length c228_4] 39 (0, 0)) (by (with_reducible repeat (first | refine blk_drewN ?_ _ | refine blk_drew ?_ | refine blk_alloc ?_ _)); exact BK229.out) hb)
                                    have n3_ := Aside0.mk (below_step (by repeat (first | (with_reducible first | exact HB.out | apply below_alloc | apply pw_below_drewN | apply below_drew1 | refine below_set ?_ GE229.out) | exact HB.out)) hb)
                                    clear HO_5
                                    clear BK229
                                    clear HB
                                    have HO_5 := n0_
                                    have HO233 := n1_
                                    have BK229 := n2_
                                    have HB := n3_
                                    clear n0_ n1_ n2_ n3_
                                    (try clear hb)
                                    (try clear hb2)
                                    (try clear hk)
                                    (try clear hi)
                                    (try clear ho0)
                                    obtain ⟨Ao49, co49, eo49⟩ := Kd.R_slice HO233.out
                                    (first | subst eo49 | (injection eo49 with f1_ f2_ f3_; have f4_ := f1_.symm; have f5_ := f3_.symm; clear f1_ f2_ f3_; subst f4_; subst f5_))
                                    obtain ⟨Ao50, co50, eo50⟩ := Kd.R_slice HO_5.out
                                    (first | subst eo50 | (injection eo50 with f1_ f2_ f3_; have f4_ := f1_.symm; have f5_ := f3_.symm; clear f1_ f2_ f3_; subst f4_; subst f5_))
                                    refine hK.out _ _ ⟨(blk_cell BK229.out 0).trans rfl, (blk_cell BK229.out 1).trans rfl, (blk_cell BK229.out 2).trans rfl, (blk_cell BK229.out 3).trans rfl, (blk_cell BK229.out 4).trans rfl, ((HB.out.cell (World.block_lt_of_cell? w _ hw230_0)).trans hw230_0)⟩ (fun hHeld => ?_)
                                    clear hK K
                                    refine norm_ (a' := ?_) ?_ ?_
                                    rotate_left
                                    · show Act.put _ (some 71) _ = _
                                      simp only [Act.put, List.setIfInBounds_toArray, List.set_cons_zero, List.set_cons_succ, i64_w, i32_w]
                                      rfl
                                    refine one_ (i := 13) (N := some 73) #[true, true, true, true, true, true, true, true, true, true, true, true, true, true, false, false] rfl rfl (one_of HT_.out (by kernel_rfl)) (by decide) (fun K hK => ?_)
                                    refine goes_ Try.func19 (by kernel_rfl) rfl #[.slice Ao49 t231.length co49, .slice Ao50 t225.length co50] (by rfl) rfl rfl (by (try simp only [List.map_toArray, List.map_cons, List.map_nil]); first | done | rfl | (simp only [List.length_drop, List.length_take]; rfl)) ?_
                                    with_reducible refine (spinneyref19_Compare.calls k2 _ _ t231 _ _ t225 t234 _ ?side1 ?side2 ?side3 ?side4 A42.out).mono ?_
                                    (case side1 => repeat (first | exact (Kd.R_reads' HO233.out).2.2 | (with_reducible refine Kd.C_alloc ?_ _) | (with_reducible refine Kd.C_drewN ?_ _) | (with_reducible refine Kd.C_drew ?_)))
                                    (case side2 => exact (Kd.R_reads' HO233.out).2.1)
                                    (case side3 => repeat (first | exact (Kd.R_reads' HO_5.out).2.2 | (with_reducible refine Kd.C_alloc ?_ _) | (with_reducible refine Kd.C_drewN ?_ _) | (with_reducible refine Kd.C_drew ?_)))
                                    (case side4 => exact (Kd.R_reads' HO_5.out).2.1)
                                    rintro e w51 ⟨rfl, hb⟩
                                    refine ⟨_, rfl, ?_⟩
                                    have n0_ := Aside0.mk (Kd.R_below (by (with_reducible repeat (first | apply Kd.R_alloc | apply Kd.R_drewN | apply Kd.R_drew)); exact HO_5.out) hb)
                                    have n1_ := Aside0.mk (Kd.R_below (by (with_reducible repeat (first | apply Kd.R_alloc | apply Kd.R_drewN | apply Kd.R_drew)); exact HO233.out) hb)
                                    have n2_ := Aside0.mk (blk_below (g := gb229) (o := .cells #[.slice A228_0 ((rd_T39 l0 x56_2).f0).length c228_0, .slice A228_1 ((rd_T39 l0 x56_2).f1.f0).length c228_1, .slice A228_2 ((rd_T39 l0 x56_2).f1.f1).length c228_2, .int .i64 ((rd_T39 l0 x56_2).f1.f2), .slice (some ad230) ((rd_T39 l0 x56_2).f2).length c228_4] 39 (0, 0)) (by (with_reducible repeat (first | refine blk_drewN ?_ _ | refine blk_drew ?_ | refine blk_alloc ?_ _)); exact BK229.out) hb)
                                    have n3_ := Aside0.mk (below_step (by repeat (first | (with_reducible first | exact HB.out | apply below_alloc | apply pw_below_drewN | apply below_drew1 | refine below_set ?_ GE229.out) | exact HB.out)) hb)
                                    clear HO_5
                                    clear HO233
                                    clear BK229
                                    clear HB
                                    have HO_5 := n0_
                                    have HO233 := n1_
                                    have BK229 := n2_
                                    have HB := n3_
                                    clear n0_ n1_ n2_ n3_
                                    (try clear hb)
                                    (try clear hb2)
                                    (try clear hk)
                                    (try clear hi)
                                    refine hK.out _ _ ⟨(blk_cell BK229.out 0).trans rfl, (blk_cell BK229.out 1).trans rfl, (blk_cell BK229.out 2).trans rfl, (blk_cell BK229.out 3).trans rfl, (blk_cell BK229.out 4).trans rfl, ((HB.out.cell (World.block_lt_of_cell? w _ hw230_0)).trans hw230_0)⟩ (fun hHeld => ?_)
                                    clear hK K
                                    refine norm_ (a' := ?_) ?_ ?_
                                    rotate_left
                                    · show Act.put _ (some 73) _ = _
                                      simp only [Act.put, List.setIfInBounds_toArray, List.set_cons_zero, List.set_cons_succ, i64_w, i32_w]
                                      rfl
                                    refine pure_ (i := 14) (N := some 74) (v := ?_) (a' := ?_) #[true, true, true, true, true, true, true, true, true, true, true, true, true, true, true, false] rfl rfl (any_of HT_.out (by kernel_rfl)) (fun _ _ _ h => h) (Or.inl ⟨by rfl, ?_⟩) ?_ ?_
                                    rotate_left
                                    · intro w'
                                      go_simp
                                      with_reducible rfl
                                    rotate_left
                                    · simp only [Act.put, List.setIfInBounds_toArray, List.set_cons_zero, List.set_cons_succ, i64_w, i32_w]
                                      rfl
                                    refine pure_ (i := 15) (N := some 75) (v := ?_) (a' := ?_) #[true, true, true, true, true, true, true, true, true, true, true, true, true, true, true, true] rfl rfl (any_of HT_.out (by kernel_rfl)) (fun _ _ _ h => h) (Or.inl ⟨by rfl, ?_⟩) ?_ ?_
                                    rotate_left
                                    · intro w'
                                      go_simp
                                      with_reducible rfl
                                    rotate_left
                                    · simp only [Act.put, List.setIfInBounds_toArray, List.set_cons_zero, List.set_cons_succ, i64_w, i32_w]
                                      rfl
                                    refine done_ (done_of HT_.out (by kernel_rfl)) ?_
                                    try go_wp2
                                    go_roundg k2
                                    case measure => have := HJ18.out; have := HK2.out; omega
                                    case rel => exact ⟨(wrap64 (x56_2 + 1)), (by first | rfl | (simp; done) | (simp [*]; done)), H', ⟨by have := HJ18.out; have := HK2.out; omega⟩, ⟨by (with_reducible repeat (first | apply Kd.R_alloc | apply Kd.R_drewN | apply Kd.R_drew)); exact Kd.R_mono HO_5.out (fun _ hk => trivial)⟩, ⟨by repeat (first | (with_reducible first | exact HB.out | apply below_alloc | apply pw_below_drewN | apply below_drew1 | refine below_set ?_ GE229.out) | exact HB.out)⟩⟩
                                · rw [if_neg c40] at H
                                  exact absurd H (by simp)
                              · rw [if_neg c39] at H
                                have c39b0 : decide (0 < (((rd_T39 l0 x56_2).f2).length : Int)) = false := decide_eq_false c39
                                have c39b1 : decide (0 < ((rd_T39 l0 x56_2).f2).length) = false := decide_eq_false (by omega)
                                clear c39
                                have H' := Aside0.mk H
                                clear H
                                have p228 : 0 ≤ (x56_2 : Int) := of_decide_eq_true (by first | (with_reducible assumption) | assumption)
                                have q228 : x56_2 < (l0.length : Int) := of_decide_eq_true (by first | (with_reducible assumption) | assumption)
                                obtain ⟨ad228, A228_0, c228_0, A228_1, c228_1, A228_2, c228_2, A228_4, c228_4, e228, hx228_0, hx228_1, hx228_2, hx228_3, hx228_4, hl228_0, hi228_0, hl228_1, hi228_1, hl228_2, hi228_2, hl228_4, hi228_4⟩ := at_T39 HR0.out x56_2 p228 q228
                                obtain rfl : ad222 = ad228 := (by injection e228)
                                replace hx228_0 := (HB.out.cell (World.block_lt_of_cell? w _ hx228_0)).trans hx228_0
                                replace hx228_1 := (HB.out.cell (World.block_lt_of_cell? w _ hx228_1)).trans hx228_1
                                replace hx228_2 := (HB.out.cell (World.block_lt_of_cell? w _ hx228_2)).trans hx228_2
                                replace hx228_3 := (HB.out.cell (World.block_lt_of_cell? w _ hx228_3)).trans hx228_3
                                replace hx228_4 := (HB.out.cell (World.block_lt_of_cell? w _ hx228_4)).trans hx228_4
                                have HR228_0 := Aside0.mk hi228_0
                                have HC228_0 := Aside0.mk hl228_0
                                clear hi228_0 hl228_0
                                have HR228_1 := Aside0.mk hi228_1
                                have HC228_1 := Aside0.mk hl228_1
                                clear hi228_1 hl228_1
                                have HR228_2 := Aside0.mk hi228_2
                                have HC228_2 := Aside0.mk hl228_2
                                clear hi228_2 hl228_2
                                have HR228_4 := Aside0.mk hi228_4
                                have HC228_4 := Aside0.mk hl228_4
                                clear hi228_4 hl228_4
                                replace p228 := eq_true p228
                                replace q228 := eq_true q228
                                try go_wp2_with (first | ((with_reducible refine gate_dst (N := 7) rfl ?_); (try (refine gate_guard (by rfl) ?_; dsimp only)); refine box_event ?hg (N := 7) ?hd (cs := #[.slice none 0 0, .slice none 0 0, .slice none 0 0, .int .i64 0, .slice none 0 0]) (t := 39) ?hr ?_; (case hd => rfl); (case hg => rfl); (case hr => first | (go_simp; done) | (go_simp; rfl)); intro gb229 hg w52 hbox hb; have n0_ := Aside0.mk (Kd.R_below (by (with_reducible repeat (first | apply Kd.R_alloc | apply Kd.R_drewN | apply Kd.R_drew)); exact HO_5.out) hb); have n1_ := Aside0.mk (below_step (by repeat (first | (with_reducible first | exact HB.out | apply below_alloc | apply pw_below_drewN | apply below_drew1) | exact HB.out)) hb); have n2_ := Aside0.mk (hbox); have n3_ := Aside0.mk ((by rw [hg]; exact (below_size (by repeat (first | (with_reducible first | exact HB.out | apply below_alloc | apply pw_below_drewN | apply below_drew1) | exact HB.out))) : w.heap.size ≤ gb229)); have n4_ := Aside0.mk ((by rw [hg]; exact (below_size (by repeat (first | (with_reducible first | exact HB.out | apply below_alloc | apply pw_below_drewN | apply below_drew1) | exact HB.out))) : w.heap.size ≤ gb229)); clear HO_5; clear HB; have HO_5 := n0_; have HB := n1_; have BK229 := n2_; have GW229 := n3_; have GE229 := n4_; clear n0_ n1_ n2_ n3_ n4_; clear hb hbox hg; have hcz53_0 : w52.cell? ⟨gb229, 0, none⟩ = some (.slice none 0 0) := (blk_cell BK229.out 0).trans rfl; have hcz53_1 : w52.cell? ⟨gb229, 1, none⟩ = some (.slice none 0 0) := (blk_cell BK229.out 1).trans rfl; have hcz53_2 : w52.cell? ⟨gb229, 2, none⟩ = some (.slice none 0 0) := (blk_cell BK229.out 2).trans rfl; have hcz53_3 : w52.cell? ⟨gb229, 3, none⟩ = some (.int .i64 0) := (blk_cell BK229.out 3).trans rfl; have hcz53_4 : w52.cell? ⟨gb229, 4, none⟩ = some (.slice none 0 0) := (blk_cell BK229.out 4).trans rfl; have hfz53_0 := blk_frozen BK229.out 0; have hfz53_1 := blk_frozen BK229.out 1; have hfz53_2 := blk_frozen BK229.out 2; have hfz53_3 := blk_frozen BK229.out 3; have hfz53_4 := blk_frozen BK229.out 4))
                                have n0_ : Aside0 (Kd.R (Kd.int .i64) 3 (((((w52.setCell ⟨gb229, 0, none⟩ (.slice A228_0 ((rd_T39 l0 x56_2).f0).length c228_0)).setCell ⟨gb229, 1, none⟩ (.slice A228_1 ((rd_T39 l0 x56_2).f1.f0).length c228_1)).setCell ⟨gb229, 2, none⟩ (.slice A228_2 ((rd_T39 l0 x56_2).f1.f1).length c228_2)).setCell ⟨gb229, 3, none⟩ (.int .i64 ((rd_T39 l0 x56_2).f1.f2))).setCell ⟨gb229, 4, none⟩ (.slice A228_4 ((rd_T39 l0 x56_2).f2).length c228_4)) w.heap.size (fun _ => True) v226 t225) := ⟨by (with_reducible repeat (first | apply Kd.R_alloc | apply Kd.R_drewN | apply Kd.R_drew)); exact Kd.R_mono (Kd.R_far (p := ⟨gb229, 4, none⟩) (Kd.R_far (p := ⟨gb229, 3, none⟩) (Kd.R_far (p := ⟨gb229, 2, none⟩) (Kd.R_far (p := ⟨gb229, 1, none⟩) (Kd.R_far (p := ⟨gb229, 0, none⟩) (Kd.R_types HO_5.out BK229.out (by decide)) (fun _ hk => hk.2) (.slice A228_0 ((rd_T39 l0 x56_2).f0).length c228_0)) (fun _ hk => hk.2) (.slice A228_1 ((rd_T39 l0 x56_2).f1.f0).length c228_1)) (fun _ hk => hk.2) (.slice A228_2 ((rd_T39 l0 x56_2).f1.f1).length c228_2)) (fun _ hk => hk.2) (.int .i64 ((rd_T39 l0 x56_2).f1.f2))) (fun _ hk => hk.2) (.slice A228_4 ((rd_T39 l0 x56_2).f2).length c228_4)) (fun _ hk => trivial)⟩
                                have n1_ : Aside0 ((((((w52.setCell ⟨gb229, 0, none⟩ (.slice A228_0 ((rd_T39 l0 x56_2).f0).length c228_0)).setCell ⟨gb229, 1, none⟩ (.slice A228_1 ((rd_T39 l0 x56_2).f1.f0).length c228_1)).setCell ⟨gb229, 2, none⟩ (.slice A228_2 ((rd_T39 l0 x56_2).f1.f1).length c228_2)).setCell ⟨gb229, 3, none⟩ (.int .i64 ((rd_T39 l0 x56_2).f1.f2))).setCell ⟨gb229, 4, none⟩ (.slice A228_4 ((rd_T39 l0 x56_2).f2).length c228_4)).heap[gb229]? = some (.cells #[.slice A228_0 ((rd_T39 l0 x56_2).f0).length c228_0, .slice A228_1 ((rd_T39 l0 x56_2).f1.f0).length c228_1, .slice A228_2 ((rd_T39 l0 x56_2).f1.f1).length c228_2, .int .i64 ((rd_T39 l0 x56_2).f1.f2), .slice A228_4 ((rd_T39 l0 x56_2).f2).length c228_4] 39 (0, 0))) := ⟨by (with_reducible repeat (first | refine blk_drewN ?_ _ | refine blk_drew ?_ | refine blk_alloc ?_ _)); refine blk_put (cs := #[.slice A228_0 ((rd_T39 l0 x56_2).f0).length c228_0, .slice A228_1 ((rd_T39 l0 x56_2).f1.f0).length c228_1, .slice A228_2 ((rd_T39 l0 x56_2).f1.f1).length c228_2, .int .i64 ((rd_T39 l0 x56_2).f1.f2), .slice none 0 0]) ?_ 4 _ rfl; (with_reducible repeat (first | refine blk_drewN ?_ _ | refine blk_drew ?_ | refine blk_alloc ?_ _)); refine blk_put (cs := #[.slice A228_0 ((rd_T39 l0 x56_2).f0).length c228_0, .slice A228_1 ((rd_T39 l0 x56_2).f1.f0).length c228_1, .slice A228_2 ((rd_T39 l0 x56_2).f1.f1).length c228_2, .int .i64 0, .slice none 0 0]) ?_ 3 _ rfl; (with_reducible repeat (first | refine blk_drewN ?_ _ | refine blk_drew ?_ | refine blk_alloc ?_ _)); refine blk_put (cs := #[.slice A228_0 ((rd_T39 l0 x56_2).f0).length c228_0, .slice A228_1 ((rd_T39 l0 x56_2).f1.f0).length c228_1, .slice none 0 0, .int .i64 0, .slice none 0 0]) ?_ 2 _ rfl; (with_reducible repeat (first | refine blk_drewN ?_ _ | refine blk_drew ?_ | refine blk_alloc ?_ _)); refine blk_put (cs := #[.slice A228_0 ((rd_T39 l0 x56_2).f0).length c228_0, .slice none 0 0, .slice none 0 0, .int .i64 0, .slice none 0 0]) ?_ 1 _ rfl; (with_reducible repeat (first | refine blk_drewN ?_ _ | refine blk_drew ?_ | refine blk_alloc ?_ _)); refine blk_put (cs := #[.slice none 0 0, .slice none 0 0, .slice none 0 0, .int .i64 0, .slice none 0 0]) ?_ 0 _ rfl; (with_reducible repeat (first | refine blk_drewN ?_ _ | refine blk_drew ?_ | refine blk_alloc ?_ _)); exact BK229.out⟩
                                have n2_ : Aside0 (Below w.heap.size w (((((w52.setCell ⟨gb229, 0, none⟩ (.slice A228_0 ((rd_T39 l0 x56_2).f0).length c228_0)).setCell ⟨gb229, 1, none⟩ (.slice A228_1 ((rd_T39 l0 x56_2).f1.f0).length c228_1)).setCell ⟨gb229, 2, none⟩ (.slice A228_2 ((rd_T39 l0 x56_2).f1.f1).length c228_2)).setCell ⟨gb229, 3, none⟩ (.int .i64 ((rd_T39 l0 x56_2).f1.f2))).setCell ⟨gb229, 4, none⟩ (.slice A228_4 ((rd_T39 l0 x56_2).f2).length c228_4))) := ⟨by repeat (first | (with_reducible first | exact HB.out | apply below_alloc | apply pw_below_drewN | apply below_drew1 | refine below_set ?_ GE229.out) | exact HB.out)⟩
                                (try clear HO_5)
                                (try clear BK229)
                                (try clear HB)
                                generalize (((((w52.setCell ⟨gb229, 0, none⟩ (.slice A228_0 ((rd_T39 l0 x56_2).f0).length c228_0)).setCell ⟨gb229, 1, none⟩ (.slice A228_1 ((rd_T39 l0 x56_2).f1.f0).length c228_1)).setCell ⟨gb229, 2, none⟩ (.slice A228_2 ((rd_T39 l0 x56_2).f1.f1).length c228_2)).setCell ⟨gb229, 3, none⟩ (.int .i64 ((rd_T39 l0 x56_2).f1.f2))).setCell ⟨gb229, 4, none⟩ (.slice A228_4 ((rd_T39 l0 x56_2).f2).length c228_4)) = w54 at n0_ n1_ n2_ ⊢
                                have HO_5 := n0_
                                have BK229 := n1_
                                have HB := n2_
                                clear n0_ n1_ n2_
                                have n0_ := Aside0.mk (Kd.R_drew HO_5.out)
                                have n1_ := Aside0.mk (blk_drew BK229.out)
                                have n2_ := Aside0.mk (below_drew1 HB.out)
                                clear HO_5
                                clear BK229
                                clear HB
                                have HO_5 := n0_
                                have BK229 := n1_
                                have HB := n2_
                                clear n0_ n1_ n2_
                                refine start_ (n := 16) (S := fun w' => w'.cell? ⟨gb229, 0, none⟩ = some (.slice A228_0 ((rd_T39 l0 x56_2).f0).length c228_0) ∧ w'.cell? ⟨gb229, 1, none⟩ = some (.slice A228_1 ((rd_T39 l0 x56_2).f1.f0).length c228_1) ∧ w'.cell? ⟨gb229, 2, none⟩ = some (.slice A228_2 ((rd_T39 l0 x56_2).f1.f1).length c228_2) ∧ w'.cell? ⟨gb229, 3, none⟩ = some (.int .i64 ((rd_T39 l0 x56_2).f1.f2)) ∧ w'.cell? ⟨gb229, 4, none⟩ = some (.slice A228_4 ((rd_T39 l0 x56_2).f2).length c228_4)) (ds := []) #[false, false, false, false, false, false, false, false, false, false, false, false, false, false, false, false] (by kernel_rfl) rfl rfl ⟨(blk_cell BK229.out 0).trans rfl, (blk_cell BK229.out 1).trans rfl, (blk_cell BK229.out 2).trans rfl, (blk_cell BK229.out 3).trans rfl, (blk_cell BK229.out 4).trans rfl⟩ (fun hHeld => ?_); refine with_tabW spinneylaw21_TreeLeast.tab15 spinneylaw21_TreeLeast.bits15 (fun HT_ HW_ => ?_)
                                generalize w54.drew = w55 at HO_5 BK229 HB hHeld ⊢
                                refine pure_ (i := 0) (N := some 60) (v := ?_) (a' := ?_) #[true, false, false, false, false, false, false, false, false, false, false, false, false, false, false, false] rfl rfl (any_of HT_.out (by kernel_rfl)) (fun _ _ _ h => h) (Or.inl ⟨by rfl, ?_⟩) ?_ ?_
                                rotate_left
                                · intro w'
                                  go_simp
                                  with_reducible rfl
                                rotate_left
                                · simp only [Act.put, List.setIfInBounds_toArray, List.set_cons_zero, List.set_cons_succ, i64_w, i32_w]
                                  rfl
                                refine take_ (i := 1) (N := some 61) (v := ?_) (a' := ?_) #[true, true, false, false, false, false, false, false, false, false, false, false, false, false, false, false] rfl rfl (take_ofW HT_.out HW_.out (by kernel_rfl)) (fun _ _ _ h => h) (Or.inl ⟨by rfl, ?_⟩) hHeld ?_ ?_
                                rotate_left
                                · rintro w' ⟨s0, s1, s2, s3, s4⟩
                                  go_simp
                                  with_reducible rfl
                                rotate_left
                                · simp only [Act.put, List.setIfInBounds_toArray, List.set_cons_zero, List.set_cons_succ, i64_w, i32_w]
                                  rfl
                                refine pure_ (i := 2) (N := some 62) (v := ?_) (a' := ?_) #[true, true, true, false, false, false, false, false, false, false, false, false, false, false, false, false] rfl rfl (any_of HT_.out (by kernel_rfl)) (fun _ _ _ h => h) (Or.inl ⟨by rfl, ?_⟩) ?_ ?_
                                rotate_left
                                · intro w'
                                  go_simp
                                  with_reducible rfl
                                rotate_left
                                · simp only [Act.put, List.setIfInBounds_toArray, List.set_cons_zero, List.set_cons_succ, i64_w, i32_w]
                                  rfl
                                refine pure_ (i := 3) (N := some 63) (v := ?_) (a' := ?_) #[true, true, true, true, false, false, false, false, false, false, false, false, false, false, false, false] rfl rfl (any_of HT_.out (by kernel_rfl)) (fun _ _ _ h => h) (Or.inl ⟨by rfl, ?_⟩) ?_ ?_
                                rotate_left
                                · intro w'
                                  go_simp
                                  with_reducible rfl
                                rotate_left
                                · simp only [Act.put, List.setIfInBounds_toArray, List.set_cons_zero, List.set_cons_succ, i64_w, i32_w]
                                  rfl
                                refine pure_ (i := 4) (N := some 64) (v := ?_) (a' := ?_) #[true, true, true, true, true, false, false, false, false, false, false, false, false, false, false, false] rfl rfl (any_of HT_.out (by kernel_rfl)) (fun _ _ _ h => h) (Or.inl ⟨by rfl, ?_⟩) ?_ ?_
                                rotate_left
                                · intro w'
                                  go_simp
                                  with_reducible rfl
                                rotate_left
                                · simp only [Act.put, List.setIfInBounds_toArray, List.set_cons_zero, List.set_cons_succ, i64_w, i32_w]
                                  rfl
                                refine pure_ (i := 5) (N := some 65) (v := undef) (a' := ?_) #[true, true, true, true, true, true, false, false, false, false, false, false, false, false, false, false] rfl rfl (any_of HT_.out (by kernel_rfl)) (fun _ _ _ h => h) (Or.inr ⟨by rfl, rfl⟩) ?_ ?_
                                rotate_left
                                · simp only [Act.put, List.setIfInBounds_toArray, List.set_cons_zero, List.set_cons_succ, i64_w, i32_w]
                                  rfl
                                refine pure_ (i := 6) (N := some 66) (v := undef) (a' := ?_) #[true, true, true, true, true, true, true, false, false, false, false, false, false, false, false, false] rfl rfl (any_of HT_.out (by kernel_rfl)) (fun _ _ _ h => h) (Or.inr ⟨by rfl, rfl⟩) ?_ ?_
                                rotate_left
                                · simp only [Act.put, List.setIfInBounds_toArray, List.set_cons_zero, List.set_cons_succ, i64_w, i32_w]
                                  rfl
                                refine pure_ (i := 7) (N := some 67) (v := undef) (a' := ?_) #[true, true, true, true, true, true, true, true, false, false, false, false, false, false, false, false] rfl rfl (any_of HT_.out (by kernel_rfl)) (fun _ _ _ h => h) (Or.inr ⟨by rfl, rfl⟩) ?_ ?_
                                rotate_left
                                · simp only [Act.put, List.setIfInBounds_toArray, List.set_cons_zero, List.set_cons_succ, i64_w, i32_w]
                                  rfl
                                refine pure_ (i := 8) (N := some 68) (v := undef) (a' := ?_) #[true, true, true, true, true, true, true, true, true, false, false, false, false, false, false, false] rfl rfl (any_of HT_.out (by kernel_rfl)) (fun _ _ _ h => h) (Or.inr ⟨by rfl, rfl⟩) ?_ ?_
                                rotate_left
                                · simp only [Act.put, List.setIfInBounds_toArray, List.set_cons_zero, List.set_cons_succ, i64_w, i32_w]
                                  rfl
                                refine pure_ (i := 9) (N := some 69) (v := undef) (a' := ?_) #[true, true, true, true, true, true, true, true, true, true, false, false, false, false, false, false] rfl rfl (any_of HT_.out (by kernel_rfl)) (fun _ _ _ h => h) (Or.inr ⟨by rfl, rfl⟩) ?_ ?_
                                rotate_left
                                · simp only [Act.put, List.setIfInBounds_toArray, List.set_cons_zero, List.set_cons_succ, i64_w, i32_w]
                                  rfl
                                refine pure_ (i := 10) (N := some 70) (v := undef) (a' := ?_) #[true, true, true, true, true, true, true, true, true, true, true, false, false, false, false, false] rfl rfl (any_of HT_.out (by kernel_rfl)) (fun _ _ _ h => h) (Or.inr ⟨by rfl, rfl⟩) ?_ ?_
                                rotate_left
                                · simp only [Act.put, List.setIfInBounds_toArray, List.set_cons_zero, List.set_cons_succ, i64_w, i32_w]
                                  rfl
                                refine pure_ (i := 11) (N := some 71) (v := undef) (a' := ?_) #[true, true, true, true, true, true, true, true, true, true, true, true, false, false, false, false] rfl rfl (any_of HT_.out (by kernel_rfl)) (fun _ _ _ h => h) (Or.inr ⟨by rfl, rfl⟩) ?_ ?_
                                rotate_left
                                · simp only [Act.put, List.setIfInBounds_toArray, List.set_cons_zero, List.set_cons_succ, i64_w, i32_w]
                                  rfl
                                refine pure_ (i := 12) (N := some 72) (v := undef) (a' := ?_) #[true, true, true, true, true, true, true, true, true, true, true, true, true, false, false, false] rfl rfl (any_of HT_.out (by kernel_rfl)) (fun _ _ _ h => h) (Or.inr ⟨by rfl, rfl⟩) ?_ ?_
                                rotate_left
                                · simp only [Act.put, List.setIfInBounds_toArray, List.set_cons_zero, List.set_cons_succ, i64_w, i32_w]
                                  rfl
                                refine pure_ (i := 13) (N := some 73) (v := undef) (a' := ?_) #[true, true, true, true, true, true, true, true, true, true, true, true, true, true, false, false] rfl rfl (any_of HT_.out (by kernel_rfl)) (fun _ _ _ h => h) (Or.inr ⟨by rfl, rfl⟩) ?_ ?_
                                rotate_left
                                · simp only [Act.put, List.setIfInBounds_toArray, List.set_cons_zero, List.set_cons_succ, i64_w, i32_w]
                                  rfl
                                refine pure_ (i := 14) (N := some 74) (v := undef) (a' := ?_) #[true, true, true, true, true, true, true, true, true, true, true, true, true, true, true, false] rfl rfl (any_of HT_.out (by kernel_rfl)) (fun _ _ _ h => h) (Or.inr ⟨by rfl, rfl⟩) ?_ ?_
                                rotate_left
                                · simp only [Act.put, List.setIfInBounds_toArray, List.set_cons_zero, List.set_cons_succ, i64_w, i32_w]
                                  rfl
                                refine pure_ (i := 15) (N := some 75) (v := ?_) (a' := ?_) #[true, true, true, true, true, true, true, true, true, true, true, true, true, true, true, true] rfl rfl (any_of HT_.out (by kernel_rfl)) (fun _ _ _ h => h) (Or.inl ⟨by rfl, ?_⟩) ?_ ?_
                                rotate_left
                                · intro w'
                                  go_simp
                                  with_reducible rfl
                                rotate_left
                                · simp only [Act.put, List.setIfInBounds_toArray, List.set_cons_zero, List.set_cons_succ, i64_w, i32_w]
                                  rfl
                                refine done_ (done_of HT_.out (by kernel_rfl)) ?_
                                try go_wp2
                                go_roundg k2
                                case measure => have := HJ18.out; have := HK2.out; omega
                                case rel => exact ⟨(wrap64 (x56_2 + 1)), (by first | rfl | (simp; done) | (simp [*]; done)), H', ⟨by have := HJ18.out; have := HK2.out; omega⟩, ⟨by (with_reducible repeat (first | apply Kd.R_alloc | apply Kd.R_drewN | apply Kd.R_drew)); exact HO_5.out⟩, ⟨by repeat (first | (with_reducible first | exact HB.out | apply below_alloc | apply pw_below_drewN | apply below_drew1 | refine below_set ?_ GE229.out) | exact HB.out)⟩⟩
                            · rw [if_neg c38] at H
                              exact absurd H (by simp)
                          · rw [if_neg c37] at H
                            exact absurd H (by simp)
                        · rw [if_neg c36] at H
                          have c36b0 : decide (x56_2 < (l0.length : Int)) = false := decide_eq_false c36
                          clear c36
                          obtain rfl := Option.some.inj H
                          go_wp2
                          go_ret
                          exact ⟨by first | rfl | (simp [errW_none, errW_some] <;> rfl) | (simp [*, errW_none, errW_some] <;> rfl), by repeat (first | (with_reducible first | exact HB.out | apply below_alloc | apply pw_below_drewN | apply below_drew1) | exact HB.out)⟩
                  · rw [if_neg c32] at H
                    exact absurd H (by simp)
                · rw [if_neg c31] at H
                  exact absurd H (by simp)
              · rw [if_neg c30] at H
                exact absurd H (by simp)
    · rw [if_neg c9] at H
      exact absurd H (by simp)

/-- THE ONE PURE STATEMENT of spinneylaw21_TreeLeast. -/
def spinneylaw21_TreeLeast.Pure : Prop := ∀ (l0 : List (S39)), (l0.length ≤ maxLen) → (∀ y_ ∈ l0, Ok39 y_) → ∃ k, spinneylaw21_TreeLeast.f k l0 = some true
theorem spinneylaw21_TreeLeast.walk (P : spinneylaw21_TreeLeast.Pure) (w : World) (A0 : Option Addr) (c0 : Nat) (l0 : List (S39)) (hC0 : Kd.C k39 w A0 l0.length l0) (hc0 : l0.length ≤ c0) (w0_ : (l0.length ≤ maxLen)) (w1_ : (∀ y_ ∈ l0, Ok39 y_)) :
    Calls Try.prog 5 #[.slice A0 l0.length c0] w fun e w' => e = .returned (.bool true) ∧ Below w.heap.size w w' := by
  obtain ⟨k, h⟩ := P l0 w0_ w1_
  refine (spinneylaw21_TreeLeast.calls k A0 c0 l0 true w hC0 hc0 h).mono ?_
  rintro e w' ⟨rfl, hd⟩
  exact ⟨rfl, hd⟩

end Go.Proofs.Ytfcmbflpefhpaaa.P
