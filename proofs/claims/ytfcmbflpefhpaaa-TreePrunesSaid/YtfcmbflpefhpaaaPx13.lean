-- PRINTED by a program of this session over the kit's print.py.
import Derived.Test.YtfcmbflpefhpaaaPx0
import Derived.Test.YtfcmbflpefhpaaaPx5
import Derived.Test.YtfcmbflpefhpaaaPx12
namespace Go.Proofs.Ytfcmbflpefhpaaa.P
open Go.Own Go.RowKit Go.Proofs.YtfcmbflpefhpaaaW.PrintWords Go.Proofs.YtfcmbflpefhpaaaW.PrintLast Go.Proofs.YtfcmbflpefhpaaaW.PrintMore
attribute [local go_sem] max2_int min2_int max_two min_two max_three min_three max_four min_four   -- for this text's walks alone
set_option linter.unusedVariables false
set_option linter.unusedSimpArgs false

/-! ### spinneyref19_Left: function 37 -/
mutual
def spinneyref19_Left.j0 : Nat → List Int → List Int → Bool → Option (Bool)
  | 0, _, _, _ => none
  | k + 1, x0, x1, x12 => if x12 = true then (some false) else (if 0 < (x0.length : Int) then (if 0 < (x1.length : Int) then (if (rd x0 0) = (rd x1 0) then (if 1 ≤ (x0.length : Int) then (if 1 ≤ (x1.length : Int) then ((spinneyref19_Left.f k (x0.drop 1) (x1.drop 1)).bind fun t208 => (some t208)) else (none)) else (none)) else (some (decide ((rd x0 0) < (rd x1 0))))) else (none)) else (none))
def spinneyref19_Left.f : Nat → List Int → List Int → Option (Bool)
  | 0, _, _ => none
  | k + 1, l0, l1 => if (l0.length : Int) = 0 then (spinneyref19_Left.j0 k l0 l1 true) else (spinneyref19_Left.j0 k l0 l1 ((l1.length : Int) == 0))
end
theorem spinneyref19_Left.mono_l : ∀ k, (∀ y0 y1, LeO (spinneyref19_Left.f k y0 y1) (spinneyref19_Left.f (k + 1) y0 y1)) ∧ (∀ y0 y1 y2, LeO (spinneyref19_Left.j0 k y0 y1 y2) (spinneyref19_Left.j0 (k + 1) y0 y1 y2))
  | 0 => ⟨fun _ _ r h => by simp [spinneyref19_Left.f] at h, fun _ _ _ r h => by simp [spinneyref19_Left.j0] at h⟩
  | k + 1 => by
    obtain ⟨ih0, ih1⟩ := spinneyref19_Left.mono_l k
    refine ⟨?_, ?_⟩
    · intro y0 y1
      unfold spinneyref19_Left.f
      repeat' first
      | (with_reducible exact ih0 _ _)
      | (with_reducible exact ih1 _ _ _)
      | (with_reducible exact LeO.refl _)
      | (with_reducible exact LeO.none _)
      | (with_reducible refine LeO.ite ?_ ?_)
      | (with_reducible refine LeO.bind ?_ (fun _ => ?_))
      | exact ih0 _ _
      | exact ih1 _ _ _
      | exact LeO.none _
      | refine LeO.ite ?_ ?_
      | refine LeO.bind ?_ (fun _ => ?_)
    · intro y0 y1 y2
      unfold spinneyref19_Left.j0
      repeat' first
      | (with_reducible exact ih0 _ _)
      | (with_reducible exact ih1 _ _ _)
      | (with_reducible exact LeO.refl _)
      | (with_reducible exact LeO.none _)
      | (with_reducible refine LeO.ite ?_ ?_)
      | (with_reducible refine LeO.bind ?_ (fun _ => ?_))
      | exact ih0 _ _
      | exact ih1 _ _ _
      | exact LeO.none _
      | refine LeO.ite ?_ ?_
      | refine LeO.bind ?_ (fun _ => ?_)
theorem spinneyref19_Left.mono : ∀ a0 a1 k, LeO (spinneyref19_Left.f k a0 a1) (spinneyref19_Left.f (k + 1) a0 a1) := by
  intro a0 a1 k
  obtain ⟨ih0, ih1⟩ := spinneyref19_Left.mono_l k
  exact ih0 a0 a1
def spinneyref19_Left.T4 : Bool × List (List Nat × List Nat) := (true, [([], []), ([0], [0]), ([1], [1]), ([], []), ([3], [3]), ([4], [4]), ([2, 5], [2, 5]), ([6, 0, 1, 2, 3, 4, 5, 6], [6])])
def spinneyref19_Left.B4 : List Nat := [0, 1, 3, 0, 8, 24, 63, 127]
theorem spinneyref19_Left.tab4 : rtab .any (opsOf Try.f37 4) = spinneyref19_Left.T4 := by kernel_rfl
theorem spinneyref19_Left.bits4 : waitsOk spinneyref19_Left.T4.2 spinneyref19_Left.B4 = true := by kernel_rfl
set_option maxHeartbeats 8000000 in
set_option maxRecDepth 100000 in
theorem spinneyref19_Left.calls (k : Nat) : ∀ (A0 : Option Addr) (c0 : Nat) (l0 : List Int) (A1 : Option Addr) (c1 : Nat) (l1 : List Int) (r : Bool) (w : World) (hr0 : Kd.C (Kd.int .i64) w A0 l0.length l0) (hc0 : l0.length ≤ c0) (hr1 : Kd.C (Kd.int .i64) w A1 l1.length l1) (hc1 : l1.length ≤ c1) (h : spinneyref19_Left.f k l0 l1 = some r),
    Calls Try.prog 37 #[.slice A0 l0.length c0, .slice A1 l1.length c1] w fun e w' => e = .returned (.bool r) ∧ Below w.heap.size w w' := by
  induction k using Nat.strongRecOn with
  | _ k ih =>
  intro A0 c0 l0 A1 c1 l1 r w hr0 hc0 hr1 hc1 h
  cases k with
  | zero => exact absurd h (by simp [spinneyref19_Left.f])
  | succ k =>
  simp only [spinneyref19_Left.f] at h
  have HR0 := Aside0.mk hr0
  have HC0 := Aside0.mk hc0
  clear hr0 hc0
  have HR1 := Aside0.mk hr1
  have HC1 := Aside0.mk hc1
  clear hr1 hc1
  have HB := Aside0.mk (Below.refl w.heap.size w)
  have H : (if (l0.length : Int) = 0 then (spinneyref19_Left.j0 k l0 l1 true) else (spinneyref19_Left.j0 k l0 l1 ((l1.length : Int) == 0))) = some r := h
  clear h
  have HC3 := Aside0.mk H
  clear H
  go_enter Try.func37, Try.ntmps37
  go_upto_region 1 with (fail)
  go_cut [12] (fun v12 wc => ∃ (kq : Nat) (x12_2 : Bool), v12 = .bool x12_2 ∧ Aside0 (spinneyref19_Left.j0 kq l0 l1 x12_2 = some r) ∧ Aside0 (kq ≤ k) ∧ Aside0 (Below w.heap.size w wc))
  case first =>
    have H := HC3.out
    clear HC3
    by_cases c4 : (l0.length : Int) = 0
    · rw [if_pos c4] at H
      have c4b0 : ((l0.length : Int) == 0) = true := beq_iff_eq.mpr c4
      have c4b1 : ((l0.length : Int) != 0) = false := bne_eq_false_iff_eq.mpr c4
      clear c4
      (first | rw [c4b0] | (simp only [i64_w, i32_w]; rw [c4b0]) | skip)
      have H' := Aside0.mk H
      clear H
      go_wp2
      go_meet
      case rel => exact ⟨_, (true), (by first | rfl | (simp; done) | (simp [*]; done)), H', ⟨by first | omega | exact Nat.le_refl _⟩, ⟨by repeat (first | (with_reducible first | exact HB.out | apply below_alloc | apply pw_below_drewN | apply below_drew1) | exact HB.out)⟩⟩
    · rw [if_neg c4] at H
      have c4b0 : ((l0.length : Int) == 0) = false := beq_eq_false_iff_ne.mpr c4
      have c4b1 : ((l0.length : Int) != 0) = true := bne_iff_ne.mpr c4
      have c4b2 : ¬ (l0 = []) := fun h_ => c4 (by rw [h_]; rfl)
      (first | rw [c4b0] | (simp only [i64_w, i32_w]; rw [c4b0]) | skip)
      have H' := Aside0.mk H
      clear H
      go_wp2
      go_meet
      case rel => exact ⟨_, (((l1.length : Int) == 0)), (by first | rfl | (simp; done) | (simp [*]; done)), H', ⟨by first | omega | exact Nat.le_refl _⟩, ⟨by repeat (first | (with_reducible first | exact HB.out | apply below_alloc | apply pw_below_drewN | apply below_drew1) | exact HB.out)⟩⟩
  case rest =>
    clear HC3
    try clear c1
    try clear p2
    try clear c3
    try clear c4
    try clear c4b0
    try clear c4b1
    try clear c4b2
    obtain ⟨kq, x12_2, rfl, HA, HJ2, HB⟩ := hcut
    cases kq with
    | zero => exact absurd HA.out (by simp [spinneyref19_Left.j0])
    | succ kj2 =>
      have H := HA.out
      clear HA
      simp only [spinneyref19_Left.j0] at H
      by_cases c5 : x12_2 = true
      · subst c5
        have H1 : (some false) = some r := by rw [if_pos rfl] at H; exact H
        clear H
        have H := H1
        clear H1
        obtain rfl := Option.some.inj H
        go_wp2
        go_ret
        exact ⟨by first | rfl | (simp [errW_none, errW_some] <;> rfl) | (simp [*, errW_none, errW_some] <;> rfl), by repeat (first | (with_reducible first | exact HB.out | apply below_alloc | apply pw_below_drewN | apply below_drew1) | exact HB.out)⟩
      · replace c5 := Bool.eq_false_iff.mpr c5
        subst c5
        have H1 : (if 0 < (l0.length : Int) then (if 0 < (l1.length : Int) then (if (rd l0 0) = (rd l1 0) then (if 1 ≤ (l0.length : Int) then (if 1 ≤ (l1.length : Int) then ((spinneyref19_Left.f kj2 (l0.drop 1) (l1.drop 1)).bind fun t208 => (some t208)) else (none)) else (none)) else (some (decide ((rd l0 0) < (rd l1 0))))) else (none)) else (none)) = some r := by rw [if_neg (show ¬ (false = true) by decide)] at H; exact H
        clear H
        have H := H1
        clear H1
        by_cases c6 : 0 < (l0.length : Int)
        · rw [if_pos c6] at H
          have c6b0 : decide (0 < (l0.length : Int)) = true := decide_eq_true c6
          have c6b1 : decide (0 < l0.length) = true := decide_eq_true (by omega)
          clear c6
          by_cases c7 : 0 < (l1.length : Int)
          · rw [if_pos c7] at H
            have c7b0 : decide (0 < (l1.length : Int)) = true := decide_eq_true c7
            have c7b1 : decide (0 < l1.length) = true := decide_eq_true (by omega)
            clear c7
            by_cases c8 : (rd l0 0) = (rd l1 0)
            · rw [if_pos c8] at H
              have c8b0 : ((rd l0 0) == (rd l1 0)) = true := beq_iff_eq.mpr c8
              have c8b1 : ((rd l0 0) != (rd l1 0)) = false := bne_eq_false_iff_eq.mpr c8
              clear c8
              by_cases c9 : 1 ≤ (l0.length : Int)
              · rw [if_pos c9] at H
                have c9b0 := eq_true c9
                have c9b1 : decide (1 ≤ (l0.length : Int)) = true := decide_eq_true c9
                clear c9
                by_cases c10 : 1 ≤ (l1.length : Int)
                · rw [if_pos c10] at H
                  have c10b0 := eq_true c10
                  have c10b1 : decide (1 ≤ (l1.length : Int)) = true := decide_eq_true c10
                  clear c10
                  replace H := Option.bind_eq_some_iff.mp H
                  obtain ⟨t208, A110, H⟩ := H
                  replace H : (some t208) = some r := H
                  have A11 := Aside0.mk A110
                  clear A110
                  obtain rfl := Option.some.inj H
                  try go_wp2
                  have n0_ := Aside0.mk (below_drew1 HB.out)
                  clear HB
                  have HB := n0_
                  clear n0_
                  have p204 : 0 ≤ (0 : Int) := (by omega)
                  have q204 : 0 < (l0.length : Int) := of_decide_eq_true (by first | (with_reducible assumption) | assumption)
                  obtain ⟨ad204, e204, hx204_0⟩ := Kd.at_int HR0.out 0 p204 q204
                  have hw204_0 := hx204_0
                  (try rw [show ((0 : Int)).toNat = 0 from rfl] at hw204_0)
                  (try rw [show 0 * 1 = 0 from rfl] at hw204_0)
                  (try rw [Addr.add_zero'] at hw204_0)
                  cases e204
                  have qi204 : (0 < l0.length) = True := eq_true (by omega)
                  (try rw [show ((0 : Int)).toNat = 0 from rfl] at hx204_0)
                  (try rw [Addr.add_zero'] at hx204_0)
                  replace hx204_0 := (HB.out.cell (World.block_lt_of_cell? w _ hx204_0)).trans hx204_0
                  replace p204 := eq_true p204
                  replace q204 := eq_true q204
                  have p205 : 0 ≤ (0 : Int) := (by omega)
                  have q205 : 0 < (l1.length : Int) := of_decide_eq_true (by first | (with_reducible assumption) | assumption)
                  obtain ⟨ad205, e205, hx205_0⟩ := Kd.at_int HR1.out 0 p205 q205
                  have hw205_0 := hx205_0
                  (try rw [show ((0 : Int)).toNat = 0 from rfl] at hw205_0)
                  (try rw [show 0 * 1 = 0 from rfl] at hw205_0)
                  (try rw [Addr.add_zero'] at hw205_0)
                  cases e205
                  have qi205 : (0 < l1.length) = True := eq_true (by omega)
                  (try rw [show ((0 : Int)).toNat = 0 from rfl] at hx205_0)
                  (try rw [Addr.add_zero'] at hx205_0)
                  replace hx205_0 := (HB.out.cell (World.block_lt_of_cell? w _ hx205_0)).trans hx205_0
                  replace p205 := eq_true p205
                  replace q205 := eq_true q205
                  refine start_ (n := 7) (S := fun w' => w'.cell? ad204 = some (.int .i64 (rd l0 0)) ∧ w'.cell? ad205 = some (.int .i64 (rd l1 0))) (ds := []) #[false, false, false, false, false, false, false] (by kernel_rfl) rfl rfl ⟨((HB.out.cell (World.block_lt_of_cell? w _ hw204_0)).trans hw204_0), ((HB.out.cell (World.block_lt_of_cell? w _ hw205_0)).trans hw205_0)⟩ (fun hHeld => ?_)
                  generalize wc.drew = w12 at HB hx204_0 hx205_0 hHeld ⊢
                  refine pure_ (i := 0) (N := some 13) (v := ?_) (a' := ?_) #[true, false, false, false, false, false, false] rfl rfl (by kernel_rfl) (fun _ _ _ h => h) (Or.inl ⟨by rfl, ?_⟩) ?_ ?_
                  rotate_left
                  · intro w'
                    go_simp
                    with_reducible rfl
                  rotate_left
                  · simp only [Act.put, List.setIfInBounds_toArray, List.set_cons_zero, List.set_cons_succ, i64_w, i32_w]
                    rfl
                  refine pure_ (i := 1) (N := some 14) (v := ?_) (a' := ?_) #[true, true, false, false, false, false, false] rfl rfl (by kernel_rfl) (fun _ _ _ h => h) (Or.inl ⟨by rfl, ?_⟩) ?_ ?_
                  rotate_left
                  · intro w'
                    go_simp
                    with_reducible rfl
                  rotate_left
                  · simp only [Act.put, List.setIfInBounds_toArray, List.set_cons_zero, List.set_cons_succ, i64_w, i32_w]
                    rfl
                  refine pure_ (i := 3) (N := some 16) (v := ?_) (a' := ?_) #[true, true, false, true, false, false, false] rfl rfl (by kernel_rfl) (fun _ _ _ h => h) (Or.inl ⟨by rfl, ?_⟩) ?_ ?_
                  rotate_left
                  · intro w'
                    go_simp
                    with_reducible rfl
                  rotate_left
                  · simp only [Act.put, List.setIfInBounds_toArray, List.set_cons_zero, List.set_cons_succ, i64_w, i32_w]
                    rfl
                  refine pure_ (i := 4) (N := some 17) (v := ?_) (a' := ?_) #[true, true, false, true, true, false, false] rfl rfl (by kernel_rfl) (fun _ _ _ h => h) (Or.inl ⟨by rfl, ?_⟩) ?_ ?_
                  rotate_left
                  · intro w'
                    go_simp
                    with_reducible rfl
                  rotate_left
                  · simp only [Act.put, List.setIfInBounds_toArray, List.set_cons_zero, List.set_cons_succ, i64_w, i32_w]
                    rfl
                  refine take_ (i := 2) (N := some 15) (v := ?_) (a' := ?_) #[true, true, true, true, true, false, false] rfl rfl (by kernel_rfl) (fun _ _ _ h => h) (Or.inl ⟨by rfl, ?_⟩) hHeld ?_ ?_
                  rotate_left
                  · rintro w' ⟨s0, s1⟩
                    go_simp
                    with_reducible rfl
                  rotate_left
                  · simp only [Act.put, List.setIfInBounds_toArray, List.set_cons_zero, List.set_cons_succ, i64_w, i32_w]
                    rfl
                  refine take_ (i := 5) (N := some 18) (v := ?_) (a' := ?_) #[true, true, true, true, true, true, false] rfl rfl (by kernel_rfl) (fun _ _ _ h => h) (Or.inl ⟨by rfl, ?_⟩) hHeld ?_ ?_
                  rotate_left
                  · rintro w' ⟨s0, s1⟩
                    go_simp
                    with_reducible rfl
                  rotate_left
                  · simp only [Act.put, List.setIfInBounds_toArray, List.set_cons_zero, List.set_cons_succ, i64_w, i32_w]
                    rfl
                  refine pure_ (i := 6) (N := some 19) (v := ?_) (a' := ?_) #[true, true, true, true, true, true, true] rfl rfl (by kernel_rfl) (fun _ _ _ h => h) (Or.inl ⟨by rfl, ?_⟩) ?_ ?_
                  rotate_left
                  · intro w'
                    go_simp
                    with_reducible rfl
                  rotate_left
                  · simp only [Act.put, List.setIfInBounds_toArray, List.set_cons_zero, List.set_cons_succ, i64_w, i32_w]
                    rfl
                  refine done_ (by kernel_rfl) ?_
                  try go_wp2
                  have n0_ := Aside0.mk (below_drew1 HB.out)
                  clear HB
                  have HB := n0_
                  clear n0_
                  obtain ⟨i014, hi014, _, hsz14, _⟩ := info_parts info3
                  obtain ⟨A14, hcut14, hA14, hC14⟩ := print_drop_of (P := Try.prog) (Value.int .i64) 0 30 3 .i64 Try.underlying30 hi014 hsz14 (some ad204) c0 l0 1 (by omega) (of_decide_eq_true (by first | (with_reducible assumption) | assumption)) HC0.out
                  have HR206 := Aside0.mk (Kd.C_of_reads (h1 := fun _ => rfl) (hA14 _ (Kd.reads_of_C HR0.out)))
                  have HC206 := Aside0.mk hC14
                  clear hA14 hC14 hi014 hsz14
                  obtain ⟨i015, hi015, _, hsz15, _⟩ := info_parts info3
                  obtain ⟨A15, hcut15, hA15, hC15⟩ := print_drop_of (P := Try.prog) (Value.int .i64) 0 30 3 .i64 Try.underlying30 hi015 hsz15 (some ad205) c1 l1 1 (by omega) (of_decide_eq_true (by first | (with_reducible assumption) | assumption)) HC1.out
                  have HR207 := Aside0.mk (Kd.C_of_reads (h1 := fun _ => rfl) (hA15 _ (Kd.reads_of_C HR1.out)))
                  have HC207 := Aside0.mk hC15
                  clear hA15 hC15 hi015 hsz15
                  refine start_ (n := 6) (S := fun w' => True) (ds := []) #[false, false, false, false, false, false] (by kernel_rfl) rfl rfl trivial (fun hHeld => ?_)
                  generalize w12.drew = w13 at HB HR206 HR207 hHeld ⊢
                  refine pure_ (i := 0) (N := some 27) (v := ?_) (a' := ?_) #[true, false, false, false, false, false] rfl rfl (by kernel_rfl) (fun _ _ _ h => h) (Or.inl ⟨by rfl, ?_⟩) ?_ ?_
                  rotate_left
                  · intro w'
                    go_simp
                    with_reducible rfl
                  rotate_left
                  · simp only [Act.put, List.setIfInBounds_toArray, List.set_cons_zero, List.set_cons_succ, i64_w, i32_w]
                    rfl
                  refine pure_ (i := 1) (N := some 28) (v := ?_) (a' := ?_) #[true, true, false, false, false, false] rfl rfl (by kernel_rfl) (fun _ _ _ h => h) (Or.inl ⟨by rfl, ?_⟩) ?_ ?_
                  rotate_left
                  · intro w'
                    go_simp
                    with_reducible rfl
                  rotate_left
                  · simp only [Act.put, List.setIfInBounds_toArray, List.set_cons_zero, List.set_cons_succ, i64_w, i32_w]
                    rfl
                  refine pure_ (i := 2) (N := some 29) (v := ?_) (a' := ?_) #[true, true, true, false, false, false] rfl rfl (by kernel_rfl) (fun _ _ _ h => h) (Or.inl ⟨by rfl, ?_⟩) ?_ ?_
                  rotate_left
                  · intro w'
                    go_simp
                    with_reducible rfl
                  rotate_left
                  · simp only [Act.put, List.setIfInBounds_toArray, List.set_cons_zero, List.set_cons_succ, i64_w, i32_w]
                    rfl
                  refine pure_ (i := 3) (N := some 30) (v := ?_) (a' := ?_) #[true, true, true, true, false, false] rfl rfl (by kernel_rfl) (fun _ _ _ h => h) (Or.inl ⟨by rfl, ?_⟩) ?_ ?_
                  rotate_left
                  · intro w'
                    go_simp
                    with_reducible rfl
                  rotate_left
                  · simp only [Act.put, List.setIfInBounds_toArray, List.set_cons_zero, List.set_cons_succ, i64_w, i32_w]
                    rfl
                  refine one_ (i := 4) (N := some 31) #[true, true, true, true, true, false] rfl rfl (by kernel_rfl) (by decide) (fun K hK => ?_)
                  refine goes_ Try.func37 (by kernel_rfl) rfl #[.slice A14 (l0.drop 1).length (c0 - 1), .slice A15 (l1.drop 1).length (c1 - 1)] (by rfl) rfl rfl (by (try simp only [List.map_toArray, List.map_cons, List.map_nil]); first | done | (rw [show (l0.drop 1).length = (l0.length - 1) from List.length_drop] <;> rfl) | (rw [show (l1.drop 1).length = (l1.length - 1) from List.length_drop] <;> rfl) | rfl | (simp only [List.length_drop, List.length_take]; rfl)) ?_
                  with_reducible refine (ih kj2 (by have := HJ2.out; omega) _ _ (l0.drop 1) _ _ (l1.drop 1) t208 _ ?side1 ?side2 ?side3 ?side4 A11.out).mono ?_
                  (case side1 => repeat (first | exact (Kd.C_below HR206.out HB.out) | (with_reducible refine Kd.C_alloc ?_ _) | (with_reducible refine Kd.C_drewN ?_ _) | (with_reducible refine Kd.C_drew ?_)))
                  (case side2 => exact HC206.out)
                  (case side3 => repeat (first | exact (Kd.C_below HR207.out HB.out) | (with_reducible refine Kd.C_alloc ?_ _) | (with_reducible refine Kd.C_drewN ?_ _) | (with_reducible refine Kd.C_drew ?_)))
                  (case side4 => exact HC207.out)
                  rintro e w16 ⟨rfl, hb⟩
                  refine ⟨_, rfl, ?_⟩
                  have n0_ := Aside0.mk (below_step (by repeat (first | (with_reducible first | exact HB.out | apply below_alloc | apply pw_below_drewN | apply below_drew1) | exact HB.out)) hb)
                  clear HB
                  have HB := n0_
                  clear n0_
                  (try clear hb)
                  (try clear hb2)
                  (try clear hk)
                  (try clear hi)
                  refine hK.out _ _ trivial (fun hHeld => ?_)
                  clear hK K
                  refine norm_ (a' := ?_) ?_ ?_
                  rotate_left
                  · show Act.put _ (some 31) _ = _
                    simp only [Act.put, List.setIfInBounds_toArray, List.set_cons_zero, List.set_cons_succ, i64_w, i32_w]
                    rfl
                  refine pure_ (i := 5) (N := some 4) (v := ?_) (a' := ?_) #[true, true, true, true, true, true] rfl rfl (by kernel_rfl) (fun _ _ _ h => h) (Or.inl ⟨by rfl, ?_⟩) ?_ ?_
                  rotate_left
                  · intro w'
                    go_simp
                    with_reducible rfl
                  rotate_left
                  · simp only [Act.put, List.setIfInBounds_toArray, List.set_cons_zero, List.set_cons_succ, i64_w, i32_w]
                    rfl
                  refine done_ (by kernel_rfl) ?_
                  try go_wp2
                  go_ret
                  exact ⟨by first | rfl | (simp [errW_none, errW_some] <;> rfl) | (simp [*, errW_none, errW_some] <;> rfl), by repeat (first | (with_reducible first | exact HB.out | apply below_alloc | apply pw_below_drewN | apply below_drew1) | exact HB.out)⟩
                · rw [if_neg c10] at H
                  exact absurd H (by simp)
              · rw [if_neg c9] at H
                exact absurd H (by simp)
            · rw [if_neg c8] at H
              have c8b0 : ((rd l0 0) == (rd l1 0)) = false := beq_eq_false_iff_ne.mpr c8
              have c8b1 : ((rd l0 0) != (rd l1 0)) = true := bne_iff_ne.mpr c8
              obtain rfl := Option.some.inj H
              try go_wp2
              have n0_ := Aside0.mk (below_drew1 HB.out)
              clear HB
              have HB := n0_
              clear n0_
              have p204 : 0 ≤ (0 : Int) := (by omega)
              have q204 : 0 < (l0.length : Int) := of_decide_eq_true (by first | (with_reducible assumption) | assumption)
              obtain ⟨ad204, e204, hx204_0⟩ := Kd.at_int HR0.out 0 p204 q204
              have hw204_0 := hx204_0
              (try rw [show ((0 : Int)).toNat = 0 from rfl] at hw204_0)
              (try rw [show 0 * 1 = 0 from rfl] at hw204_0)
              (try rw [Addr.add_zero'] at hw204_0)
              cases e204
              have qi204 : (0 < l0.length) = True := eq_true (by omega)
              (try rw [show ((0 : Int)).toNat = 0 from rfl] at hx204_0)
              (try rw [Addr.add_zero'] at hx204_0)
              replace hx204_0 := (HB.out.cell (World.block_lt_of_cell? w _ hx204_0)).trans hx204_0
              replace p204 := eq_true p204
              replace q204 := eq_true q204
              have p205 : 0 ≤ (0 : Int) := (by omega)
              have q205 : 0 < (l1.length : Int) := of_decide_eq_true (by first | (with_reducible assumption) | assumption)
              obtain ⟨ad205, e205, hx205_0⟩ := Kd.at_int HR1.out 0 p205 q205
              have hw205_0 := hx205_0
              (try rw [show ((0 : Int)).toNat = 0 from rfl] at hw205_0)
              (try rw [show 0 * 1 = 0 from rfl] at hw205_0)
              (try rw [Addr.add_zero'] at hw205_0)
              cases e205
              have qi205 : (0 < l1.length) = True := eq_true (by omega)
              (try rw [show ((0 : Int)).toNat = 0 from rfl] at hx205_0)
              (try rw [Addr.add_zero'] at hx205_0)
              replace hx205_0 := (HB.out.cell (World.block_lt_of_cell? w _ hx205_0)).trans hx205_0
              replace p205 := eq_true p205
              replace q205 := eq_true q205
              refine start_ (n := 7) (S := fun w' => w'.cell? ad204 = some (.int .i64 (rd l0 0)) ∧ w'.cell? ad205 = some (.int .i64 (rd l1 0))) (ds := []) #[false, false, false, false, false, false, false] (by kernel_rfl) rfl rfl ⟨((HB.out.cell (World.block_lt_of_cell? w _ hw204_0)).trans hw204_0), ((HB.out.cell (World.block_lt_of_cell? w _ hw205_0)).trans hw205_0)⟩ (fun hHeld => ?_)
              generalize wc.drew = w17 at HB hx204_0 hx205_0 hHeld ⊢
              refine pure_ (i := 0) (N := some 13) (v := ?_) (a' := ?_) #[true, false, false, false, false, false, false] rfl rfl (by kernel_rfl) (fun _ _ _ h => h) (Or.inl ⟨by rfl, ?_⟩) ?_ ?_
              rotate_left
              · intro w'
                go_simp
                with_reducible rfl
              rotate_left
              · simp only [Act.put, List.setIfInBounds_toArray, List.set_cons_zero, List.set_cons_succ, i64_w, i32_w]
                rfl
              refine pure_ (i := 1) (N := some 14) (v := ?_) (a' := ?_) #[true, true, false, false, false, false, false] rfl rfl (by kernel_rfl) (fun _ _ _ h => h) (Or.inl ⟨by rfl, ?_⟩) ?_ ?_
              rotate_left
              · intro w'
                go_simp
                with_reducible rfl
              rotate_left
              · simp only [Act.put, List.setIfInBounds_toArray, List.set_cons_zero, List.set_cons_succ, i64_w, i32_w]
                rfl
              refine pure_ (i := 3) (N := some 16) (v := ?_) (a' := ?_) #[true, true, false, true, false, false, false] rfl rfl (by kernel_rfl) (fun _ _ _ h => h) (Or.inl ⟨by rfl, ?_⟩) ?_ ?_
              rotate_left
              · intro w'
                go_simp
                with_reducible rfl
              rotate_left
              · simp only [Act.put, List.setIfInBounds_toArray, List.set_cons_zero, List.set_cons_succ, i64_w, i32_w]
                rfl
              refine pure_ (i := 4) (N := some 17) (v := ?_) (a' := ?_) #[true, true, false, true, true, false, false] rfl rfl (by kernel_rfl) (fun _ _ _ h => h) (Or.inl ⟨by rfl, ?_⟩) ?_ ?_
              rotate_left
              · intro w'
                go_simp
                with_reducible rfl
              rotate_left
              · simp only [Act.put, List.setIfInBounds_toArray, List.set_cons_zero, List.set_cons_succ, i64_w, i32_w]
                rfl
              refine take_ (i := 2) (N := some 15) (v := ?_) (a' := ?_) #[true, true, true, true, true, false, false] rfl rfl (by kernel_rfl) (fun _ _ _ h => h) (Or.inl ⟨by rfl, ?_⟩) hHeld ?_ ?_
              rotate_left
              · rintro w' ⟨s0, s1⟩
                go_simp
                with_reducible rfl
              rotate_left
              · simp only [Act.put, List.setIfInBounds_toArray, List.set_cons_zero, List.set_cons_succ, i64_w, i32_w]
                rfl
              refine take_ (i := 5) (N := some 18) (v := ?_) (a' := ?_) #[true, true, true, true, true, true, false] rfl rfl (by kernel_rfl) (fun _ _ _ h => h) (Or.inl ⟨by rfl, ?_⟩) hHeld ?_ ?_
              rotate_left
              · rintro w' ⟨s0, s1⟩
                go_simp
                with_reducible rfl
              rotate_left
              · simp only [Act.put, List.setIfInBounds_toArray, List.set_cons_zero, List.set_cons_succ, i64_w, i32_w]
                rfl
              refine pure_ (i := 6) (N := some 19) (v := ?_) (a' := ?_) #[true, true, true, true, true, true, true] rfl rfl (by kernel_rfl) (fun _ _ _ h => h) (Or.inl ⟨by rfl, ?_⟩) ?_ ?_
              rotate_left
              · intro w'
                go_simp
                with_reducible rfl
              rotate_left
              · simp only [Act.put, List.setIfInBounds_toArray, List.set_cons_zero, List.set_cons_succ, i64_w, i32_w]
                rfl
              refine done_ (by kernel_rfl) ?_
              try go_wp2
              have n0_ := Aside0.mk (below_drew1 HB.out)
              clear HB
              have HB := n0_
              clear n0_
              have p209 : 0 ≤ (0 : Int) := (by omega)
              have q209 : 0 < (l0.length : Int) := of_decide_eq_true (by first | (with_reducible assumption) | assumption)
              obtain ⟨ad209, e209, hx209_0⟩ := Kd.at_int HR0.out 0 p209 q209
              have hw209_0 := hx209_0
              (try rw [show ((0 : Int)).toNat = 0 from rfl] at hw209_0)
              (try rw [show 0 * 1 = 0 from rfl] at hw209_0)
              (try rw [Addr.add_zero'] at hw209_0)
              obtain rfl : ad204 = ad209 := (by injection e209)
              have qi209 : (0 < l0.length) = True := eq_true (by omega)
              (try rw [show ((0 : Int)).toNat = 0 from rfl] at hx209_0)
              (try rw [Addr.add_zero'] at hx209_0)
              replace hx209_0 := (HB.out.cell (World.block_lt_of_cell? w _ hx209_0)).trans hx209_0
              replace p209 := eq_true p209
              replace q209 := eq_true q209
              have p210 : 0 ≤ (0 : Int) := (by omega)
              have q210 : 0 < (l1.length : Int) := of_decide_eq_true (by first | (with_reducible assumption) | assumption)
              obtain ⟨ad210, e210, hx210_0⟩ := Kd.at_int HR1.out 0 p210 q210
              have hw210_0 := hx210_0
              (try rw [show ((0 : Int)).toNat = 0 from rfl] at hw210_0)
              (try rw [show 0 * 1 = 0 from rfl] at hw210_0)
              (try rw [Addr.add_zero'] at hw210_0)
              obtain rfl : ad205 = ad210 := (by injection e210)
              have qi210 : (0 < l1.length) = True := eq_true (by omega)
              (try rw [show ((0 : Int)).toNat = 0 from rfl] at hx210_0)
              (try rw [Addr.add_zero'] at hx210_0)
              replace hx210_0 := (HB.out.cell (World.block_lt_of_cell? w _ hx210_0)).trans hx210_0
              replace p210 := eq_true p210
              replace q210 := eq_true q210
              refine start_ (n := 8) (S := fun w' => w'.cell? ad204 = some (.int .i64 (rd l0 0)) ∧ w'.cell? ad205 = some (.int .i64 (rd l1 0))) (ds := []) #[false, false, false, false, false, false, false, false] (by kernel_rfl) rfl rfl ⟨((HB.out.cell (World.block_lt_of_cell? w _ hw209_0)).trans hw209_0), ((HB.out.cell (World.block_lt_of_cell? w _ hw210_0)).trans hw210_0)⟩ (fun hHeld => ?_); refine with_tabW spinneyref19_Left.tab4 spinneyref19_Left.bits4 (fun HT_ HW_ => ?_)
              generalize w17.drew = w18 at HB hx209_0 hx210_0 hHeld ⊢
              refine pure_ (i := 0) (N := some 20) (v := ?_) (a' := ?_) #[true, false, false, false, false, false, false, false] rfl rfl (any_of HT_.out (by kernel_rfl)) (fun _ _ _ h => h) (Or.inl ⟨by rfl, ?_⟩) ?_ ?_
              rotate_left
              · intro w'
                go_simp
                with_reducible rfl
              rotate_left
              · simp only [Act.put, List.setIfInBounds_toArray, List.set_cons_zero, List.set_cons_succ, i64_w, i32_w]
                rfl
              refine pure_ (i := 1) (N := some 21) (v := ?_) (a' := ?_) #[true, true, false, false, false, false, false, false] rfl rfl (any_of HT_.out (by kernel_rfl)) (fun _ _ _ h => h) (Or.inl ⟨by rfl, ?_⟩) ?_ ?_
              rotate_left
              · intro w'
                go_simp
                with_reducible rfl
              rotate_left
              · simp only [Act.put, List.setIfInBounds_toArray, List.set_cons_zero, List.set_cons_succ, i64_w, i32_w]
                rfl
              refine pure_ (i := 3) (N := some 23) (v := ?_) (a' := ?_) #[true, true, false, true, false, false, false, false] rfl rfl (any_of HT_.out (by kernel_rfl)) (fun _ _ _ h => h) (Or.inl ⟨by rfl, ?_⟩) ?_ ?_
              rotate_left
              · intro w'
                go_simp
                with_reducible rfl
              rotate_left
              · simp only [Act.put, List.setIfInBounds_toArray, List.set_cons_zero, List.set_cons_succ, i64_w, i32_w]
                rfl
              refine pure_ (i := 4) (N := some 24) (v := ?_) (a' := ?_) #[true, true, false, true, true, false, false, false] rfl rfl (any_of HT_.out (by kernel_rfl)) (fun _ _ _ h => h) (Or.inl ⟨by rfl, ?_⟩) ?_ ?_
              rotate_left
              · intro w'
                go_simp
                with_reducible rfl
              rotate_left
              · simp only [Act.put, List.setIfInBounds_toArray, List.set_cons_zero, List.set_cons_succ, i64_w, i32_w]
                rfl
              refine take_ (i := 2) (N := some 22) (v := ?_) (a' := ?_) #[true, true, true, true, true, false, false, false] rfl rfl (take_ofW HT_.out HW_.out (by kernel_rfl)) (fun _ _ _ h => h) (Or.inl ⟨by rfl, ?_⟩) hHeld ?_ ?_
              rotate_left
              · rintro w' ⟨s0, s1⟩
                go_simp
                with_reducible rfl
              rotate_left
              · simp only [Act.put, List.setIfInBounds_toArray, List.set_cons_zero, List.set_cons_succ, i64_w, i32_w]
                rfl
              refine take_ (i := 5) (N := some 25) (v := ?_) (a' := ?_) #[true, true, true, true, true, true, false, false] rfl rfl (take_ofW HT_.out HW_.out (by kernel_rfl)) (fun _ _ _ h => h) (Or.inl ⟨by rfl, ?_⟩) hHeld ?_ ?_
              rotate_left
              · rintro w' ⟨s0, s1⟩
                go_simp
                with_reducible rfl
              rotate_left
              · simp only [Act.put, List.setIfInBounds_toArray, List.set_cons_zero, List.set_cons_succ, i64_w, i32_w]
                rfl
              refine pure_ (i := 6) (N := some 26) (v := ?_) (a' := ?_) #[true, true, true, true, true, true, true, false] rfl rfl (any_of HT_.out (by kernel_rfl)) (fun _ _ _ h => h) (Or.inl ⟨by rfl, ?_⟩) ?_ ?_
              rotate_left
              · intro w'
                go_simp
                with_reducible rfl
              rotate_left
              · simp only [Act.put, List.setIfInBounds_toArray, List.set_cons_zero, List.set_cons_succ, i64_w, i32_w]
                rfl
              refine pure_ (i := 7) (N := some 4) (v := ?_) (a' := ?_) #[true, true, true, true, true, true, true, true] rfl rfl (any_of HT_.out (by kernel_rfl)) (fun _ _ _ h => h) (Or.inl ⟨by rfl, ?_⟩) ?_ ?_
              rotate_left
              · intro w'
                go_simp
                with_reducible rfl
              rotate_left
              · simp only [Act.put, List.setIfInBounds_toArray, List.set_cons_zero, List.set_cons_succ, i64_w, i32_w]
                rfl
              refine done_ (done_of HT_.out (by kernel_rfl)) ?_
              try go_wp2
              go_ret
              exact ⟨by first | rfl | (simp [errW_none, errW_some] <;> rfl) | (simp [*, errW_none, errW_some] <;> rfl), by repeat (first | (with_reducible first | exact HB.out | apply below_alloc | apply pw_below_drewN | apply below_drew1) | exact HB.out)⟩
          · rw [if_neg c7] at H
            exact absurd H (by simp)
        · rw [if_neg c6] at H
          exact absurd H (by simp)

/-! ### spinneyref19_Pruned: function 26 -/
def spinneyref19_Pruned.f (k : Nat) (l0 : List Int) (l1 : List Int) (a2 : Int) : Option (Bool) := if 0 ≤ (mn (mx a2 0) (l1.length : Int)) then (if (mn (mx a2 0) (l1.length : Int)) ≤ (l1.length : Int) then ((spinneyref19_Under.f k l0 (l1.take ((mn (mx a2 0) (l1.length : Int)) : Int).toNat)).bind fun t212 => (if t212 = true then ((spinneyref19_Left.f k l1 l0).bind fun t213 => (some t213)) else (some false))) else (none)) else (none)
theorem spinneyref19_Pruned.mono : ∀ a0 a1 a2 k, LeO (spinneyref19_Pruned.f k a0 a1 a2) (spinneyref19_Pruned.f (k + 1) a0 a1 a2) := by
  intro a0 a1 a2 k
  unfold spinneyref19_Pruned.f
  repeat' first
      | (with_reducible exact spinneyref19_Left.mono _ _ _)
      | (with_reducible exact spinneyref19_Under.mono _ _ _)
      | (with_reducible exact LeO.refl _)
      | (with_reducible exact LeO.none _)
      | (with_reducible refine LeO.ite ?_ ?_)
      | (with_reducible refine LeO.bind ?_ (fun _ => ?_))
      | exact spinneyref19_Left.mono _ _ _
      | exact spinneyref19_Under.mono _ _ _
      | exact LeO.none _
      | refine LeO.ite ?_ ?_
      | refine LeO.bind ?_ (fun _ => ?_)
set_option maxHeartbeats 8000000 in
set_option maxRecDepth 100000 in
theorem spinneyref19_Pruned.calls (k : Nat) (A0 : Option Addr) (c0 : Nat) (l0 : List Int) (A1 : Option Addr) (c1 : Nat) (l1 : List Int) (a2 : Int) (r : Bool) (w : World) (hr0 : Kd.C (Kd.int .i64) w A0 l0.length l0) (hc0 : l0.length ≤ c0) (hr1 : Kd.C (Kd.int .i64) w A1 l1.length l1) (hc1 : l1.length ≤ c1) (h : spinneyref19_Pruned.f k l0 l1 a2 = some r) :
    Calls Try.prog 26 #[.slice A0 l0.length c0, .slice A1 l1.length c1, .int .i64 a2] w fun e w' => e = .returned (.bool r) ∧ Below w.heap.size w w' := by
  have HR0 := Aside0.mk hr0
  have HC0 := Aside0.mk hc0
  clear hr0 hc0
  have HR1 := Aside0.mk hr1
  have HC1 := Aside0.mk hc1
  clear hr1 hc1
  have HB := Aside0.mk (Below.refl w.heap.size w)
  have H : (if 0 ≤ (mn (mx a2 0) (l1.length : Int)) then (if (mn (mx a2 0) (l1.length : Int)) ≤ (l1.length : Int) then ((spinneyref19_Under.f k l0 (l1.take ((mn (mx a2 0) (l1.length : Int)) : Int).toNat)).bind fun t212 => (if t212 = true then ((spinneyref19_Left.f k l1 l0).bind fun t213 => (some t213)) else (some false))) else (none)) else (none)) = some r := h
  clear h
  obtain ⟨ji4, hji4⟩ : ∃ j_ : Int, (mx a2 0) = j_ := ⟨_, rfl⟩
  replace H : (if 0 ≤ (mn (ji4) (l1.length : Int)) then (if (mn (ji4) (l1.length : Int)) ≤ (l1.length : Int) then ((spinneyref19_Under.f k l0 (l1.take ((mn (ji4) (l1.length : Int)) : Int).toNat)).bind fun t212 => (if t212 = true then ((spinneyref19_Left.f k l1 l0).bind fun t213 => (some t213)) else (some false))) else (none)) else (none)) = some r := by first | (rw [hji4] at H; exact H) | (simp only [hji4] at H ⊢; exact H)
  (try (have hji4l : 0 ≤ ji4 := by (rw [← hji4]; unfold mx; (repeat' split) <;> omega)))
  (try (have hji4m : 0 ≤ ji4 := by omega))
  have hji4_ : (if a2 < 0 then 0 else a2) = ji4 := hji4
  obtain ⟨ji5, hji5⟩ : ∃ j_ : Int, (mn (ji4) (l1.length : Int)) = j_ := ⟨_, rfl⟩
  replace H : (if 0 ≤ (ji5) then (if (ji5) ≤ (l1.length : Int) then ((spinneyref19_Under.f k l0 (l1.take ((ji5) : Int).toNat)).bind fun t212 => (if t212 = true then ((spinneyref19_Left.f k l1 l0).bind fun t213 => (some t213)) else (some false))) else (none)) else (none)) = some r := by first | (rw [hji5] at H; exact H) | (simp only [hji5] at H ⊢; exact H)
  have hji5_ : (if (l1.length : Int) < (ji4) then (l1.length : Int) else (ji4)) = ji5 := hji5
  by_cases c6 : 0 ≤ (ji5)
  · rw [if_pos c6] at H
    have c6b0 := eq_true c6
    have c6b1 : decide (0 ≤ (ji5)) = true := decide_eq_true c6
    clear c6
    by_cases c7 : (ji5) ≤ (l1.length : Int)
    · rw [if_pos c7] at H
      have c7b0 := eq_true c7
      have c7b1 : decide ((ji5) ≤ (l1.length : Int)) = true := decide_eq_true c7
      clear c7
      replace H := Option.bind_eq_some_iff.mp H
      obtain ⟨t212, A80, H⟩ := H
      replace H : (if t212 = true then ((spinneyref19_Left.f k l1 l0).bind fun t213 => (some t213)) else (some false)) = some r := H
      have A8 := Aside0.mk A80
      clear A80
      by_cases c9 : t212 = true
      · subst c9
        have H1 : ((spinneyref19_Left.f k l1 l0).bind fun t213 => (some t213)) = some r := by rw [if_pos rfl] at H; exact H
        clear H
        have H := H1
        clear H1
        replace H := Option.bind_eq_some_iff.mp H
        obtain ⟨t213, A100, H⟩ := H
        replace H : (some t213) = some r := H
        have A10 := Aside0.mk A100
        clear A100
        obtain rfl := Option.some.inj H
        obtain ⟨i011, hi011, _, hsz11, _⟩ := info_parts info3
        obtain ⟨hcut11, hA11, hC11⟩ := print_take_of (P := Try.prog) (Value.int .i64) 0 30 3 .i64 Try.underlying30 hi011 hsz11 A1 c1 l1 (ji5) (of_decide_eq_true (by first | (with_reducible assumption) | assumption)) (of_decide_eq_true (by first | (with_reducible assumption) | assumption)) HC1.out
        have HR211 := Aside0.mk (Kd.C_of_reads (h1 := fun _ => rfl) (hA11 _ (Kd.reads_of_C HR1.out)))
        have HC211 := Aside0.mk hC11
        clear hA11 hC11 hi011 hsz11
        go_enter Try.func26, Try.ntmps26
        go_wp2_with (first | ((with_reducible refine gate_callee (f := 36) rfl ?_); refine goesL_ (some 15) rfl rfl Try.func36 (by kernel_rfl) rfl #[.slice A0 l0.length c0, .slice A1 (l1.take ((ji5) : Int).toNat).length c1] rfl (by (try simp only [List.map_toArray, List.map_cons, List.map_nil]); first | done | (rw [show (l1.take ((ji5) : Int).toNat).length = (ji5).toNat from (by rw [List.length_take]; have h_ : ((ji5) : Int) ≤ (l1.length : Int) := of_decide_eq_true (by first | (with_reducible assumption) | assumption); omega)] <;> rfl) | (simp only [hji5]; rfl) | rfl | (simp only [List.length_drop, List.length_take]; rfl)) ?_; (with_reducible refine (spinneyref19_Under.calls k _ _ l0 _ _ (l1.take ((ji5) : Int).toNat) true _ ?side1 ?side2 ?side3 ?side4 A8.out).mono ?_); (case side1 => repeat (first | exact HR0.out | (with_reducible refine Kd.C_alloc ?_ _) | (with_reducible refine Kd.C_drewN ?_ _) | (with_reducible refine Kd.C_drew ?_))); (case side2 => exact HC0.out); (case side3 => repeat (first | exact HR211.out | (with_reducible refine Kd.C_alloc ?_ _) | (with_reducible refine Kd.C_drewN ?_ _) | (with_reducible refine Kd.C_drew ?_))); (case side4 => exact HC211.out); rintro e w12 ⟨rfl, hb⟩; refine ⟨_, rfl, ?_⟩; have n0_ := Aside0.mk (below_step (by repeat (first | (with_reducible first | exact HB.out | apply below_alloc | apply pw_below_drewN | apply below_drew1) | exact HB.out)) hb); clear HB; have HB := n0_; clear n0_; (try clear hb); (try clear hb2); (try clear hk); (try clear hi)) | (go_at_call 37; (with_reducible refine (spinneyref19_Left.calls k _ _ l1 _ _ l0 t213 _ ?side1 ?side2 ?side3 ?side4 A10.out).mono ?_); (case side1 => repeat (first | exact (Kd.C_below HR1.out HB.out) | (with_reducible refine Kd.C_alloc ?_ _) | (with_reducible refine Kd.C_drewN ?_ _) | (with_reducible refine Kd.C_drew ?_))); (case side2 => exact HC1.out); (case side3 => repeat (first | exact (Kd.C_below HR0.out HB.out) | (with_reducible refine Kd.C_alloc ?_ _) | (with_reducible refine Kd.C_drewN ?_ _) | (with_reducible refine Kd.C_drew ?_))); (case side4 => exact HC0.out); rintro e w13 ⟨rfl, hb⟩; have n0_ := Aside0.mk (below_step (by repeat (first | (with_reducible first | exact HB.out | apply below_alloc | apply pw_below_drewN | apply below_drew1) | exact HB.out)) hb); clear HB; have HB := n0_; clear n0_; (try clear hb); (try clear hb2); (try clear hk); (try clear hi)))
        go_ret
        exact ⟨by first | rfl | (simp [errW_none, errW_some] <;> rfl) | (simp only [← hji4, ← hji5]; first | rfl | (simp [errW_none, errW_some] <;> rfl)) | (simp [*, errW_none, errW_some] <;> rfl), by repeat (first | (with_reducible first | exact HB.out | apply below_alloc | apply pw_below_drewN | apply below_drew1) | exact HB.out)⟩
      · replace c9 := Bool.eq_false_iff.mpr c9
        subst c9
        have H1 : (some false) = some r := by rw [if_neg (show ¬ (false = true) by decide)] at H; exact H
        clear H
        have H := H1
        clear H1
        obtain rfl := Option.some.inj H
        obtain ⟨i014, hi014, _, hsz14, _⟩ := info_parts info3
        obtain ⟨hcut14, hA14, hC14⟩ := print_take_of (P := Try.prog) (Value.int .i64) 0 30 3 .i64 Try.underlying30 hi014 hsz14 A1 c1 l1 (ji5) (of_decide_eq_true (by first | (with_reducible assumption) | assumption)) (of_decide_eq_true (by first | (with_reducible assumption) | assumption)) HC1.out
        have HR211 := Aside0.mk (Kd.C_of_reads (h1 := fun _ => rfl) (hA14 _ (Kd.reads_of_C HR1.out)))
        have HC211 := Aside0.mk hC14
        clear hA14 hC14 hi014 hsz14
        go_enter Try.func26, Try.ntmps26
        go_wp2_with (first | ((with_reducible refine gate_callee (f := 36) rfl ?_); refine goesL_ (some 15) rfl rfl Try.func36 (by kernel_rfl) rfl #[.slice A0 l0.length c0, .slice A1 (l1.take ((ji5) : Int).toNat).length c1] rfl (by (try simp only [List.map_toArray, List.map_cons, List.map_nil]); first | done | (rw [show (l1.take ((ji5) : Int).toNat).length = (ji5).toNat from (by rw [List.length_take]; have h_ : ((ji5) : Int) ≤ (l1.length : Int) := of_decide_eq_true (by first | (with_reducible assumption) | assumption); omega)] <;> rfl) | (simp only [hji5]; rfl) | rfl | (simp only [List.length_drop, List.length_take]; rfl)) ?_; (with_reducible refine (spinneyref19_Under.calls k _ _ l0 _ _ (l1.take ((ji5) : Int).toNat) false _ ?side1 ?side2 ?side3 ?side4 A8.out).mono ?_); (case side1 => repeat (first | exact HR0.out | (with_reducible refine Kd.C_alloc ?_ _) | (with_reducible refine Kd.C_drewN ?_ _) | (with_reducible refine Kd.C_drew ?_))); (case side2 => exact HC0.out); (case side3 => repeat (first | exact HR211.out | (with_reducible refine Kd.C_alloc ?_ _) | (with_reducible refine Kd.C_drewN ?_ _) | (with_reducible refine Kd.C_drew ?_))); (case side4 => exact HC211.out); rintro e w15 ⟨rfl, hb⟩; refine ⟨_, rfl, ?_⟩; have n0_ := Aside0.mk (below_step (by repeat (first | (with_reducible first | exact HB.out | apply below_alloc | apply pw_below_drewN | apply below_drew1) | exact HB.out)) hb); clear HB; have HB := n0_; clear n0_; (try clear hb); (try clear hb2); (try clear hk); (try clear hi)))
        go_ret
        exact ⟨by first | rfl | (simp [errW_none, errW_some] <;> rfl) | (simp only [← hji4, ← hji5]; first | rfl | (simp [errW_none, errW_some] <;> rfl)) | (simp [*, errW_none, errW_some] <;> rfl), by repeat (first | (with_reducible first | exact HB.out | apply below_alloc | apply pw_below_drewN | apply below_drew1) | exact HB.out)⟩
    · rw [if_neg c7] at H
      exact absurd H (by simp)
  · rw [if_neg c6] at H
    exact absurd H (by simp)

/-! ### spinneyref21_Prune: function 17 (given) -/
section
open Go.Shelf
attribute [local go_sem] Oper.semAt_some
theorem spinneyref21_Prune.mkF (W : World) (ok : Nat → Prop) (x : S39) {A0 : Option Addr} {c0 : Nat} (l0 : x.f0.length ≤ c0) (g0 : Kd.F (Kd.int .i64) W ok A0 x.f0.length x.f0) {A1 : Option Addr} {c1 : Nat} (l1 : x.f1.f0.length ≤ c1) (g1 : Kd.F k63 W ok A1 x.f1.f0.length x.f1.f0) {A2 : Option Addr} {c2 : Nat} (l2 : x.f1.f1.length ≤ c2) (g2 : Kd.F k66 W ok A2 x.f1.f1.length x.f1.f1) {A4 : Option Addr} {c4 : Nat} (l4 : x.f2.length ≤ c4) (g4 : Kd.F (Kd.int .i64) W ok A4 x.f2.length x.f2) : Kd.FK k39 W ok x [.slice A0 x.f0.length c0, .slice A1 x.f1.f0.length c1, .slice A2 x.f1.f1.length c2, .int .i64 x.f1.f2, .slice A4 x.f2.length c4] := fun W2 hW => k39_mk W2 x l0 (g0 W2 hW) l1 (g1 W2 hW) l2 (g2 W2 hW) l4 (g4 W2 hW)
/-- a place that a cut leaves -/
def spinneyref21_Prune.keep (k : Nat) (c : S39) (by_ : List Int) (d : Int) (i : Int) : Bool := spinneyref19_Pruned.f k (c.f0 ++ [i]) by_ d == some false
def spinneyref21_Prune.one (k : Nat) (by_ : List Int) (d : Int) (c : S39) : List S39 := if c.f2.filter (spinneyref21_Prune.keep k c by_ d) = [] then [] else [⟨c.f0, c.f1, c.f2.filter (spinneyref21_Prune.keep k c by_ d)⟩]
def spinneyref21_Prune.all (k : Nat) (l0 : List S39) (by_ : List Int) (d : Int) : List S39 := l0.flatMap (spinneyref21_Prune.one k by_ d)
def spinneyref21_Prune.fits (k : Nat) (l0 : List S39) (by_ : List Int) (d : Int) : Prop := l0.length ≤ 1000000000 ∧ (∀ c ∈ l0, c.f0.length < 17592186044415 ∧ c.f2.length ≤ 1000000000 ∧ ∀ i ∈ c.f2, ∃ b, spinneyref19_Pruned.f k (c.f0 ++ [i]) by_ d = some b)
theorem spinneyref21_Prune.take_succ (k : Nat) (l0 : List S39) (by_ : List Int) (d : Int) (m : Nat) (h : m < l0.length) : spinneyref21_Prune.all k (l0.take (m + 1)) by_ d = spinneyref21_Prune.all k (l0.take m) by_ d ++ spinneyref21_Prune.one k by_ d (l0[m]'h) := by
  unfold spinneyref21_Prune.all
  rw [List.take_succ_eq_append_getElem h, List.flatMap_append]
  simp
theorem spinneyref21_Prune.one_len (k : Nat) (by_ : List Int) (d : Int) (c : S39) : (spinneyref21_Prune.one k by_ d c).length ≤ 1 := by
  unfold spinneyref21_Prune.one
  split <;> simp
theorem spinneyref21_Prune.all_len (k : Nat) (by_ : List Int) (d : Int) : ∀ l0 : List S39, (spinneyref21_Prune.all k l0 by_ d).length ≤ l0.length
  | [] => Nat.le_refl _
  | c :: l => by
    have h1 := spinneyref21_Prune.all_len k by_ d l
    have h2 := spinneyref21_Prune.one_len k by_ d c
    unfold spinneyref21_Prune.all at h1 ⊢
    rw [List.flatMap_cons, List.length_append, List.length_cons]
    omega
theorem spinneyref21_Prune.cnt (k : Nat) (by_ : List Int) (d : Int) (l0 : List S39) (m : Nat) (hl : l0.length ≤ 1000000000) : ((spinneyref21_Prune.all k (l0.take m) by_ d).length + 1) * 104 ≤ 140737488355328 := by
  have h1 := spinneyref21_Prune.all_len k by_ d (l0.take m)
  have h2 : (l0.take m).length ≤ l0.length := by rw [List.length_take]; exact Nat.min_le_right _ _
  have h3 : (spinneyref21_Prune.all k (l0.take m) by_ d).length + 1 ≤ 1000000001 := Nat.succ_le_succ (Nat.le_trans h1 (Nat.le_trans h2 hl))
  exact Nat.le_trans (Nat.mul_le_mul_right 104 h3) (by decide)
theorem spinneyref21_Prune.info : (Try.prog.info? 39).map (fun i => (i.zero, i.size, i.bytes)) = some (some (.agg #[.slice none 0 0, .slice none 0 0, .slice none 0 0, .int .i64 0, .slice none 0 0]), 5, 104) := by kernel_rfl
theorem spinneyref21_Prune.meas (n m : Nat) (a b : Array Value) (ha : a[15]? = some (.int .i64 ((m + 1 : Nat) : Int))) (hb : b[15]? = some (.int .i64 (m : Int))) (h : m < n) : ((n : Int) - intOf (a.getD 15 undef)).toNat < ((n : Int) - intOf (b.getD 15 undef)).toNat := by
  rw [Array.getD_eq_getD_getElem?, ha, Array.getD_eq_getD_getElem?, hb]
  simp only [Option.getD_some, intOf]
  omega
theorem spinneyref21_Prune.meas2 (n m : Nat) (a b : Array Value) (ha : a[22]? = some (.int .i64 ((m + 1 : Nat) : Int))) (hb : b[22]? = some (.int .i64 (m : Int))) (h : m < n) : ((n : Int) - intOf (a.getD 22 undef)).toNat < ((n : Int) - intOf (b.getD 22 undef)).toNat := by
  rw [Array.getD_eq_getD_getElem?, ha, Array.getD_eq_getD_getElem?, hb]
  simp only [Option.getD_some, intOf]
  omega
set_option maxRecDepth 100000 in
set_option maxHeartbeats 8000000 in
theorem spinneyref21_Prune.calls (k : Nat) (A0 : Option Addr) (c0 : Nat) (l0 : List S39) (A1 : Option Addr) (c1 : Nat) (l1 : List Int) (a2 : Int) (w : World) (hr0 : Kd.C k39 w A0 l0.length l0) (hc0 : l0.length ≤ c0) (hr1 : Kd.C (Kd.int .i64) w A1 l1.length l1) (hc1 : l1.length ≤ c1) (hfit : spinneyref21_Prune.fits k l0 l1 a2) :
    Calls Try.prog 17 #[.slice A0 l0.length c0, .slice A1 l1.length c1, .int .i64 a2] w fun e w' => ∃ v0_ : Value, e = .returned v0_ ∧ Kd.N k39 39 w' w.heap.size (fun _ => True) v0_ (spinneyref21_Prune.all k l0 l1 a2) ∧ Below w.heap.size w w' := by
  obtain ⟨hl63, hlab⟩ := hfit
  have hu39 := Try.underlying39
  have HR0 := Aside0.mk hr0
  have HR1 := Aside0.mk hr1
  clear hr0 hr1
  go_enter Try.func17, Try.ntmps17
  go_wp2
  refine wp_loop (fun a W => ∃ (m : Nat) (vo u9 u10 u12 u16 u17 u18 u19 u20 u21 u22 u23 u24 u25 u26 u27 u28 u29 u30 u31 u32 u33 u34 u35 u36 u37 u38 u39 u40 u41 u42 u43 u44 u45 u46 u47 u48 u49 u50 u51 u52 : Value), a = { tmps := #[.slice A0 l0.length c0, .slice A1 l1.length c1, .int .i64 a2, undef, undef, undef, .slice none 0 0, vo, undef, u9, u10, undef, u12, .slice A0 l0.length c0, .int .i64 l0.length, .int .i64 (m : Int), u16, u17, u18, u19, u20, u21, u22, u23, u24, u25, u26, u27, u28, u29, u30, u31, u32, u33, u34, u35, u36, u37, u38, u39, u40, u41, u42, u43, u44, u45, u46, u47, u48, u49, u50, u51, u52], defers := [] } ∧
    m ≤ l0.length ∧ Aside0 (Kd.N k39 39 W w.heap.size (fun _ => True) vo (spinneyref21_Prune.all k (l0.take m) l1 a2)) ∧ Aside0 (Below w.heap.size w W)) (fun a _ => ((l0.length : Int) - intOf (a.tmps.getD 15 undef)).toNat) ?_ ?_
  · exact ⟨0, _, _, _, _, _, _, _, _, _, _, _, _, _, _, _, _, _, _, _, _, _, _, _, _, _, _, _, _, _, _, _, _, _, _, _, _, _, _, _, _, _, rfl, Nat.zero_le _, ⟨Kd.N_nil _ _ _ _ _⟩, ⟨Below.refl _ w⟩⟩
  · rintro a W ⟨m, vo, u9, u10, u12, u16, u17, u18, u19, u20, u21, u22, u23, u24, u25, u26, u27, u28, u29, u30, u31, u32, u33, u34, u35, u36, u37, u38, u39, u40, u41, u42, u43, u44, u45, u46, u47, u48, u49, u50, u51, u52, rfl, hm, hN, hbl⟩
    by_cases hlt : m < l0.length
    · have q1 : ((m : Int) < (l0.length : Int)) = True := eq_true (by omega)
      have q0 : (0 ≤ (m : Int)) = True := eq_true (by omega)
      obtain ⟨ad, Al, cl, A1_, c1_, A2_, c2_, AL, cL, e, hx0, hx1, hx2, hx3, hx4, hl0, hi0, hl1, hi1, hl2, hi2, hl4, hi4⟩ := at_T39 HR0.out (m : Int) (by omega) (by omega)
      cases e
      obtain ⟨c, hc⟩ : ∃ c, rd_T39 l0 (m : Int) = c := ⟨_, rfl⟩
      rw [hc] at hx0 hx1 hx2 hx3 hx4 hl0 hl1 hl2 hl4 hi0 hi1 hi2 hi4
      replace hx0 := (hbl.out.cell (World.block_lt_of_cell? w _ hx0)).trans hx0
      replace hx1 := (hbl.out.cell (World.block_lt_of_cell? w _ hx1)).trans hx1
      replace hx2 := (hbl.out.cell (World.block_lt_of_cell? w _ hx2)).trans hx2
      replace hx3 := (hbl.out.cell (World.block_lt_of_cell? w _ hx3)).trans hx3
      replace hx4 := (hbl.out.cell (World.block_lt_of_cell? w _ hx4)).trans hx4
      have em : ((m : Nat) : Int).toNat = m := rfl
      rw [em] at hx0 hx1 hx2 hx3 hx4
      have hcm : c = l0[m]'hlt := by rw [← hc]; unfold rd_T39; simp [List.getD_eq_getElem?_getD, hlt]
      have hlabc := hlab c (by rw [hcm]; exact List.getElem_mem hlt)
      replace hcm := Aside0.mk hcm
      have hc63 : c.f2.length ≤ 1000000000 := hlabc.2.1
      replace hi0 := Aside0.mk hi0
      replace hi1 := Aside0.mk hi1
      replace hi2 := Aside0.mk hi2
      replace hi4 := Aside0.mk hi4
      replace hl0 := Aside0.mk hl0
      replace hl1 := Aside0.mk hl1
      replace hl2 := Aside0.mk hl2
      replace hl4 := Aside0.mk hl4
      go_wp2_with (first | ((with_reducible refine gate_dst (N := 9) rfl ?_); refine box_event ?hg (N := 9) ?hd (cs := #[.slice none 0 0, .slice none 0 0, .slice none 0 0, .int .i64 0, .slice none 0 0]) (t := 39) ?hr ?_; (case hd => rfl); (case hg => rfl); (case hr => first | (go_simp; done) | (go_simp; rfl)); intro gc hgc w5 hbox2 hb5; have hcz0 : w5.cell? ⟨gc, 0, none⟩ = some (.slice none 0 0) := (blk_cell hbox2 0).trans rfl; have hcz1 : w5.cell? ⟨gc, 1, none⟩ = some (.slice none 0 0) := (blk_cell hbox2 1).trans rfl; have hcz2 : w5.cell? ⟨gc, 2, none⟩ = some (.slice none 0 0) := (blk_cell hbox2 2).trans rfl; have hcz3 : w5.cell? ⟨gc, 3, none⟩ = some (.int .i64 0) := (blk_cell hbox2 3).trans rfl; have hcz4 : w5.cell? ⟨gc, 4, none⟩ = some (.slice none 0 0) := (blk_cell hbox2 4).trans rfl; have hfz0 := blk_frozen hbox2 0; have hfz1 := blk_frozen hbox2 1; have hfz2 := blk_frozen hbox2 2; have hfz3 := blk_frozen hbox2 3; have hfz4 := blk_frozen hbox2 4; replace hbox2 := Aside0.mk hbox2; replace hb5 := Aside0.mk hb5; replace hgc := Aside0.mk hgc))
      have hge : W.heap.size ≤ gc := Nat.le_of_eq hgc.out.symm
      have hbS : Below W.heap.size W (((((w5.setCell ⟨gc, 0, none⟩ (.slice Al c.f0.length cl)).setCell ⟨gc, 1, none⟩ (.slice A1_ c.f1.f0.length c1_)).setCell ⟨gc, 2, none⟩ (.slice A2_ c.f1.f1.length c2_)).setCell ⟨gc, 3, none⟩ (.int .i64 c.f1.f2)).setCell ⟨gc, 4, none⟩ (.slice AL c.f2.length cL)) :=
        ((((hb5.out.setCell (p := ⟨gc, 0, none⟩) hge _).setCell (p := ⟨gc, 1, none⟩) hge _).setCell (p := ⟨gc, 2, none⟩) hge _).setCell (p := ⟨gc, 3, none⟩) hge _).setCell (p := ⟨gc, 4, none⟩) hge _
      have hcb := blk_put (blk_put (blk_put (blk_put (blk_put hbox2.out 0 (.slice Al c.f0.length cl) rfl) 1 (.slice A1_ c.f1.f0.length c1_) rfl) 2 (.slice A2_ c.f1.f1.length c2_) rfl) 3 (.int .i64 c.f1.f2) rfl) 4 (.slice AL c.f2.length cL) rfl
      obtain ⟨W2, hW2⟩ : ∃ W2, (((((w5.setCell ⟨gc, 0, none⟩ (.slice Al c.f0.length cl)).setCell ⟨gc, 1, none⟩ (.slice A1_ c.f1.f0.length c1_)).setCell ⟨gc, 2, none⟩ (.slice A2_ c.f1.f1.length c2_)).setCell ⟨gc, 3, none⟩ (.int .i64 c.f1.f2)).setCell ⟨gc, 4, none⟩ (.slice AL c.f2.length cL)) = W2 := ⟨_, rfl⟩
      rw [hW2] at hbS hcb ⊢
      have hgcB : BoxN W2 gc 39 #[.slice Al c.f0.length cl, .slice A1_ c.f1.f0.length c1_, .slice A2_ c.f1.f1.length c2_, .int .i64 c.f1.f2, .slice AL c.f2.length cL] := hcb.trans rfl
      clear hcb hW2 hcz0 hcz1 hcz2 hcz3 hcz4 hfz0 hfz1 hfz2 hfz3 hfz4 hbox2 hx0 hx1 hx2 hx3 hx4 hb5
      have hwW : w.heap.size ≤ W.heap.size := hbl.out.size
      refine wp_loop (fun a X => ∃ (j : Nat) (vl y12 y23 y24 y25 y26 y27 y28 y29 y30 y31 y32 y33 y34 y35 y36 y37 y38 : Value), a = { tmps := #[.slice (some ad) l0.length c0, .slice A1 l1.length c1, .int .i64 a2, undef, undef, undef, .slice none 0 0, vo, undef, .pointer (some ⟨gc, 0, none⟩), vl, undef, y12, .slice (some ad) l0.length c0, .int .i64 l0.length, .int .i64 (m : Int), .bool true, .pointer (some (ad.add (m * 5))), .agg #[.slice Al c.f0.length cl, .slice A1_ c.f1.f0.length c1_, .slice A2_ c.f1.f1.length c2_, .int .i64 c.f1.f2, .slice AL c.f2.length cL], .pointer (some ⟨gc, 4, none⟩), .slice AL c.f2.length cL, .int .i64 c.f2.length, .int .i64 (j : Int), y23, y24, y25, y26, y27, y28, y29, y30, y31, y32, y33, y34, y35, y36, y37, y38, u39, u40, u41, u42, u43, u44, u45, u46, u47, u48, u49, u50, u51, u52], defers := [] } ∧
        j ≤ c.f2.length ∧ Aside0 (Kd.R (Kd.int .i64) 3 X W.heap.size (fun _ => True) vl ((c.f2.take j).filter (spinneyref21_Prune.keep k c l1 a2))) ∧ Aside0 (BoxN X gc 39 #[.slice Al c.f0.length cl, .slice A1_ c.f1.f0.length c1_, .slice A2_ c.f1.f1.length c2_, .int .i64 c.f1.f2, .slice AL c.f2.length cL]) ∧ Aside0 (Below W.heap.size W X)) (fun a _ => ((c.f2.length : Int) - intOf (a.tmps.getD 22 undef)).toNat) ?_ ?_
      · exact ⟨0, _, _, _, _, _, _, _, _, _, _, _, _, _, _, _, _, _, _, rfl, Nat.zero_le _, ⟨Kd.R_nil _ _ _ _ _⟩, ⟨hgcB⟩, ⟨hbS⟩⟩
      · clear hgcB hbS
        rintro a Y ⟨j, vl, y12, y23, y24, y25, y26, y27, y28, y29, y30, y31, y32, y33, y34, y35, y36, y37, y38, rfl, hj, hRl, hgB, hbY⟩
        have hwY : Below w.heap.size w Y := hbl.out.trans (hbY.out.mono hwW)
        have hz0 : Y.cell? ⟨gc, 0, none⟩ = some (.slice Al c.f0.length cl) := hgB.out.cell 0
        have hz1 : Y.cell? ⟨gc, 1, none⟩ = some (.slice A1_ c.f1.f0.length c1_) := hgB.out.cell 1
        have hz2 : Y.cell? ⟨gc, 2, none⟩ = some (.slice A2_ c.f1.f1.length c2_) := hgB.out.cell 2
        have hz3 : Y.cell? ⟨gc, 3, none⟩ = some (.int .i64 c.f1.f2) := hgB.out.cell 3
        have hz4 : Y.cell? ⟨gc, 4, none⟩ = some (.slice AL c.f2.length cL) := hgB.out.cell 4
        by_cases hjt : j < c.f2.length
        · have p1 : ((j : Int) < (c.f2.length : Int)) = True := eq_true (by omega)
          have p0 : (0 ≤ (j : Int)) = True := eq_true (by omega)
          obtain ⟨aL, eL, hxL⟩ := Kd.at_int (Kd.C_below hi4.out hwY) (j : Int) (by omega) (by omega)
          subst eL
          obtain ⟨x, hx⟩ : ∃ x, x = c.f2[j]'hjt := ⟨_, rfl⟩
          replace hxL : Y.cell? (aL.add j) = some (.int .i64 x) := by
            have hx1 : rd c.f2 (j : Int) = x := by rw [hx]; simp [rd, List.getD_eq_getElem?_getD, hjt]
            rw [hx1] at hxL
            exact hxL
          obtain ⟨b, hb⟩ := hlabc.2.2 x (by rw [hx]; exact List.getElem_mem hjt)
          have hkp : spinneyref21_Prune.keep k c l1 a2 x = !b := by unfold spinneyref21_Prune.keep; rw [hb]; cases b <;> rfl
          have hnx : spinneyref19_Next.f c.f0 x = some (c.f0 ++ [x]) := by
            unfold spinneyref19_Next.f
            have h1 : ([] : List Int).length + c.f0.length < 17592186044416 := by have := hlabc.1; simp; omega
            have h2 : (([] : List Int) ++ c.f0).length < 17592186044416 := by have := hlabc.1; simp; omega
            rw [if_pos h1, Option.bind_some, if_pos h2, List.nil_append]
          have hnc := spinneyref19_Next.calls Al cl c.f0 x _ Y (Kd.C_below hi0.out hwY) hl0.out hnx
          obtain ⟨Pl, hP⟩ : ∃ P, c.f0 ++ [x] = P := ⟨_, rfl⟩
          rw [hP] at hb hnc
          obtain ⟨fl, hfl⟩ : ∃ fl, (c.f2.take j).filter (spinneyref21_Prune.keep k c l1 a2) = fl := ⟨_, rfl⟩
          rw [hfl] at hRl
          have hlen : (fl.length + 1) * 8 ≤ 140737488355328 := by
            have h1 := List.length_filter_le (spinneyref21_Prune.keep k c l1 a2) (c.f2.take j)
            rw [hfl, List.length_take] at h1
            have h2 : fl.length ≤ 1000000000 := Nat.le_trans h1 (Nat.le_trans (Nat.min_le_right _ _) hc63)
            exact Nat.le_trans (Nat.mul_le_mul_right 8 (Nat.succ_le_succ h2)) (by decide)
          have hflx : (c.f2.take (j + 1)).filter (spinneyref21_Prune.keep k c l1 a2) = fl ++ (if b = true then [] else [x]) := by
            rw [List.take_succ_eq_append_getElem hjt, List.filter_append, hfl, ← hx, List.filter_cons, hkp]
            cases b <;> rfl
          have hw1 : wrap64 ((j : Int) + 1) = ((j + 1 : Nat) : Int) := by unfold wrap64; omega
          have ew : (j : Int) + 1 = ((j + 1 : Nat) : Int) := by omega
          have hgcY : gc < Y.heap.size := hgB.out.lt
          have hWY : W.heap.size ≤ Y.heap.size := hbY.out.size
          replace hw1 := Aside0.mk hw1
          replace ew := Aside0.mk ew
          replace hx := Aside0.mk hx
          replace hP := Aside0.mk hP
          replace hfl := Aside0.mk hfl
          replace hflx := Aside0.mk hflx
          replace hkp := Aside0.mk hkp
          replace hb := Aside0.mk hb
          replace hnx := Aside0.mk hnx
          replace hnc := Aside0.mk hnc
          replace hwY := Aside0.mk hwY
          cases b with
          | true =>
            go_wp2_with (first | (go_at_call 18; (with_reducible refine hnc.out.mono ?_); rintro e w8 ⟨v8, rfl, hR8, hb8⟩; obtain ⟨Ap, cp, ep⟩ := Kd.R_slice hR8; subst ep; have hCP := Aside0.mk (Kd.R_reads' hR8); replace hR8 := Aside0.mk hR8; replace hb8 := Aside0.mk hb8) | (go_at_call 26; (with_reducible refine (spinneyref19_Pruned.calls k Ap cp Pl A1 c1 l1 a2 true w8 hCP.out.2.2 hCP.out.2.1 (Kd.C_below (Kd.C_below HR1.out hwY.out) hb8.out) hc1 hb.out).mono ?_); rintro e w9 ⟨rfl, hb9⟩; replace hb9 := Aside0.mk hb9))
            first | rw [hw1.out] | rw [ew.out]
            have hb89 : Below Y.heap.size Y w9 := hb8.out.trans (hb9.out.mono hb8.out.size)
            refine ⟨⟨j + 1, _, _, _, _, _, _, _, _, _, _, _, _, _, _, _, _, _, _, rfl, hjt, ⟨?_⟩, ⟨(hb89.block gc hgcY).trans hgB.out⟩, ⟨hbY.out.trans (hb89.mono hWY)⟩⟩, ?_⟩
            · simp only [hflx.out, if_true, List.append_nil]
              exact Kd.R_below hRl.out hb89
            · exact spinneyref21_Prune.meas2 c.f2.length j _ _ rfl rfl hjt
          | false =>
            go_wp2_with (first | (go_at_call 18; (with_reducible refine hnc.out.mono ?_); rintro e w8 ⟨v8, rfl, hR8, hb8⟩; obtain ⟨Ap, cp, ep⟩ := Kd.R_slice hR8; subst ep; have hCP := Aside0.mk (Kd.R_reads' hR8); replace hR8 := Aside0.mk hR8; replace hb8 := Aside0.mk hb8) | (go_at_call 26; (with_reducible refine (spinneyref19_Pruned.calls k Ap cp Pl A1 c1 l1 a2 false w8 hCP.out.2.2 hCP.out.2.1 (Kd.C_below (Kd.C_below HR1.out hwY.out) hb8.out) hc1 hb.out).mono ?_); rintro e w9 ⟨rfl, hb9⟩; have hb89 : Below Y.heap.size Y w9 := hb8.out.trans (hb9.mono hb8.out.size); have hR9 := Aside0.mk (Kd.R_below hRl.out hb89); have hW9 : W.heap.size ≤ w9.heap.size := Nat.le_trans hWY hb89.size; replace hb89 := Aside0.mk hb89; replace hb9 := Aside0.mk hb9) | ((with_reducible refine gate_builtin (b := .append) (xs := #[.tmp 34, .tmp 36]) rfl ?_); at_builtin; go_loud (refine Kd.R_append (Kd.int .i64) (w0 := w9) (W := w9) W.heap.size rfl (.tmp 34) (.tmp 36) 30 3 (.int .i64 0) 8 rfl Try.underlying30 info3 rfl (by decide) (by omega) vl fl x [.int .i64 x] (fun _ => True) (fun _ => False) rfl rfl ?aP (fun _ h => h.elim) (fun _ _ => trivial) hR9.out (Below.refl _ _) hW9 hlen ?_); (case aP => exact rfl); intro v1 w1 hR1 hb1 hg1 hat1; replace hR1 := Aside0.mk hR1; replace hb1 := Aside0.mk hb1; replace hg1 := Aside0.mk hg1; replace hat1 := Aside0.mk hat1))
            first | rw [hw1.out] | rw [ew.out]
            have hg9 : BoxN w9 gc 39 _ := (hb89.out.block gc hgcY).trans hgB.out
            refine ⟨⟨j + 1, _, _, _, _, _, _, _, _, _, _, _, _, _, _, _, _, _, _, rfl, hjt, ⟨?_⟩, ⟨(hg1.out.block gc hg9.lt (Kd.R_ne hR9.out hg9 (by decide))).trans hg9⟩, ⟨hbY.out.trans ((hb89.out.mono hWY).trans hb1.out)⟩⟩, ?_⟩
            · rw [hflx.out, if_neg (by decide)]
              exact hR1.out
            · exact spinneyref21_Prune.meas2 c.f2.length j _ _ rfl rfl hjt
        · have p1 : ((j : Int) < (c.f2.length : Int)) = False := eq_false (by omega)
          have hjl : j = c.f2.length := by omega
          subst hjl
          rw [List.take_length] at hRl
          obtain ⟨fl, hfl⟩ : ∃ fl, c.f2.filter (spinneyref21_Prune.keep k c l1 a2) = fl := ⟨_, rfl⟩
          rw [hfl] at hRl
          obtain ⟨Ax, cx, ex⟩ := Kd.R_slice hRl.out
          subst ex
          have hall : spinneyref21_Prune.all k (l0.take (m + 1)) l1 a2 = spinneyref21_Prune.all k (l0.take m) l1 a2 ++ (if fl = [] then [] else [⟨c.f0, c.f1, fl⟩]) := by
            rw [spinneyref21_Prune.take_succ k l0 l1 a2 m hlt, ← hcm.out]
            unfold spinneyref21_Prune.one
            rw [hfl]
          have hw1 : wrap64 ((m : Int) + 1) = ((m + 1 : Nat) : Int) := by unfold wrap64; omega
          have ew : (m : Int) + 1 = ((m + 1 : Nat) : Int) := by omega
          have hcnt := spinneyref21_Prune.cnt k l1 a2 l0 m hl63
          have hNlt := Kd.N_lt hN.out
          have hNb := Kd.N_base hN.out
          have hWY : W.heap.size ≤ Y.heap.size := hbY.out.size
          have hNY : Kd.N k39 39 Y w.heap.size (fun _ => True) vo (spinneyref21_Prune.all k (l0.take m) l1 a2) := Kd.N_below hN.out hbY.out
          obtain ⟨Ao, co, eo⟩ := Kd.N_slice hNY
          obtain ⟨nO, hnO⟩ : ∃ n, (spinneyref21_Prune.all k (l0.take m) l1 a2).length = n := ⟨_, rfl⟩
          rw [hnO] at eo
          clear hnO
          subst eo
          replace hw1 := Aside0.mk hw1
          replace ew := Aside0.mk ew
          replace hall := Aside0.mk hall
          replace hfl := Aside0.mk hfl
          replace hcnt := Aside0.mk hcnt
          replace hNY := Aside0.mk hNY
          replace hwY := Aside0.mk hwY
          by_cases hfe : fl = []
          · have q7 : ((fl.length : Int) > 0) = False := eq_false (by rw [hfe]; simp)
            have q8 : ((0 : Int) < (fl.length : Int)) = False := q7
            have q9 : (0 < fl.length) = False := eq_false (by rw [hfe]; simp)
            replace hfe := Aside0.mk hfe
            go_wp2
            first | rw [hw1.out] | rw [ew.out]
            refine ⟨⟨m + 1, _, _, _, _, _, _, _, _, _, _, _, _, _, _, _, _, _, _, _, _, _, _, _, _, _, _, _, _, _, _, _, _, _, _, _, _, _, _, _, _, _, rfl, hlt, ⟨?_⟩, hwY⟩, ?_⟩
            · rw [hall.out, if_pos hfe.out, List.append_nil]
              exact hNY.out
            · exact spinneyref21_Prune.meas l0.length m _ _ rfl rfl hlt
          · have hflp : 0 < fl.length := List.length_pos_iff.2 hfe
            have q7 : ((fl.length : Int) > 0) = True := eq_true (by omega)
            have q8 : ((0 : Int) < (fl.length : Int)) = True := q7
            have q9 : (0 < fl.length) = True := eq_true hflp
            have hold : ∀ k, k < w.heap.size → True ∧ some k ≠ (Value.slice Ao nO co).ownBlock := fun k hk => ⟨trivial, fun e => by have := hNb k e.symm; omega⟩
            have hlv := (Kd.R_reads' hRl.out).2.1
            have hel : Kd.FK k39 Y (fun k => True ∧ some k ≠ (Value.slice Ao nO co).ownBlock) ⟨c.f0, c.f1, fl⟩ [.slice Al c.f0.length cl, .slice A1_ c.f1.f0.length c1_, .slice A2_ c.f1.f1.length c2_, .int .i64 c.f1.f2, .slice Ax fl.length cx] := by
              refine spinneyref21_Prune.mkF Y _ ⟨c.f0, c.f1, fl⟩ hl0.out (Kd.F_mono (Kd.F_below (Kd.C_F (Kd.heap_int .i64) hi0.out) hwY.out) hold) hl1.out (Kd.F_mono (Kd.F_below (Kd.C_F k63_heap hi1.out) hwY.out) hold) hl2.out (Kd.F_mono (Kd.F_below (Kd.C_F k66_heap hi2.out) hwY.out) hold) hlv (Kd.F_mono (Kd.R_F (Kd.R_bound hRl.out)) (fun k hk => ⟨trivial, fun e => ?_⟩))
              have h1 := hNlt k e.symm
              have h2 := hk.2.1
              omega
            have hwY2 : w.heap.size ≤ Y.heap.size := hwY.out.size
            replace hfe := Aside0.mk hfe
            replace hel := Aside0.mk hel
            go_wp2_with ((with_reducible refine gate_builtin (b := .append) (xs := #[.tmp 42, .tmp 49]) rfl ?_); at_builtin; go_loud (refine Kd.N_append k39 (w0 := Y) (W := Y) w.heap.size rfl (.tmp 42) (.tmp 49) 22 39 (.agg #[.slice none 0 0, .slice none 0 0, .slice none 0 0, .int .i64 0, .slice none 0 0]) 104 rfl Try.underlying22 spinneyref21_Prune.info rfl (by decide) (by omega) (.slice Ao nO co) _ ⟨c.f0, c.f1, fl⟩ [.slice Al c.f0.length cl, .slice A1_ c.f1.f0.length c1_, .slice A2_ c.f1.f1.length c2_, .int .i64 c.f1.f2, .slice Ax fl.length cx] (fun _ => True) _ rfl rfl hel.out (fun _ h => h) (fun _ _ => trivial) hNY.out (Below.refl _ _) hwY2 hcnt.out ?_); intro v1 w1 hN1 hb1 hg1 hat1; replace hN1 := Aside0.mk hN1; replace hb1 := Aside0.mk hb1; replace hg1 := Aside0.mk hg1; replace hat1 := Aside0.mk hat1)
            first | rw [hw1.out] | rw [ew.out]
            refine ⟨⟨m + 1, _, _, _, _, _, _, _, _, _, _, _, _, _, _, _, _, _, _, _, _, _, _, _, _, _, _, _, _, _, _, _, _, _, _, _, _, _, _, _, _, _, rfl, hlt, ⟨?_⟩, ⟨hwY.out.trans hb1.out⟩⟩, ?_⟩
            · rw [hall.out, if_neg hfe.out]
              exact hN1.out
            · exact spinneyref21_Prune.meas l0.length m _ _ rfl rfl hlt
    · have q1 : ((m : Int) < (l0.length : Int)) = False := eq_false (by omega)
      have hml : m = l0.length := by omega
      subst hml
      have hN2 := hN.out
      rw [List.take_length] at hN2
      obtain ⟨Ao, co, eo⟩ := Kd.N_slice hN2
      obtain ⟨nO, hnO⟩ : ∃ n, (spinneyref21_Prune.all k l0 l1 a2).length = n := ⟨_, rfl⟩
      rw [hnO] at eo
      clear hnO
      subst eo
      replace hN2 := Aside0.mk hN2
      go_wp2
      go_ret
      exact ⟨_, rfl, hN2.out, hbl.out⟩
end

end Go.Proofs.Ytfcmbflpefhpaaa.P
