-- PRINTED by a program of this session over the kit's print.py.
import Derived.Test.YtfcmbflpefhpaaaPx0
import Derived.Test.YtfcmbflpefhpaaaPx1
namespace Go.Proofs.Ytfcmbflpefhpaaa.P
open Go.Own Go.RowKit Go.Proofs.YtfcmbflpefhpaaaW.PrintWords Go.Proofs.YtfcmbflpefhpaaaW.PrintLast Go.Proofs.YtfcmbflpefhpaaaW.PrintMore
attribute [local go_sem] max2_int min2_int max_two min_two max_three min_three max_four min_four   -- for this text's walks alone
set_option linter.unusedVariables false
set_option linter.unusedSimpArgs false

/-! ### spinneyref19_SameAll: function 8 -/
def spinneyref19_SameAll.l0 : Nat → List (List Int) → List (List Int) → Int → Int → Option (Bool)
  | 0, _, _, _, _ => none
  | k + 1, x0, x1, x12, x13 => if x13 < x12 then (if 0 ≤ x13 then (if x13 < (x0.length : Int) then (if x13 < (x1.length : Int) then ((spinneyref19_Compare.f k (rd_L1 x0 x13) (rd_L1 x1 x13)).bind fun t110 => (if t110 = 0 then (spinneyref19_SameAll.l0 k x0 x1 x12 (wrap64 (x13 + 1))) else (some false))) else (none)) else (none)) else (none)) else (some true)
def spinneyref19_SameAll.f (k : Nat) (l0 : List (List Int)) (l1 : List (List Int)) : Option (Bool) := if (l0.length : Int) = (l1.length : Int) then (spinneyref19_SameAll.l0 k l0 l1 (l0.length : Int) 0) else (some false)
theorem spinneyref19_SameAll.mono_l : ∀ k, (∀ y0 y1 y2 y3, LeO (spinneyref19_SameAll.l0 k y0 y1 y2 y3) (spinneyref19_SameAll.l0 (k + 1) y0 y1 y2 y3))
  | 0 => fun _ _ _ _ r h => by simp [spinneyref19_SameAll.l0] at h
  | k + 1 => by
    have ih0 := spinneyref19_SameAll.mono_l k
    · intro y0 y1 y2 y3
      unfold spinneyref19_SameAll.l0
      repeat' first
      | (with_reducible exact ih0 _ _ _ _)
      | (with_reducible exact spinneyref19_Compare.mono _ _ _)
      | (with_reducible exact LeO.refl _)
      | (with_reducible exact LeO.none _)
      | (with_reducible refine LeO.ite ?_ ?_)
      | (with_reducible refine LeO.bind ?_ (fun _ => ?_))
      | exact ih0 _ _ _ _
      | exact spinneyref19_Compare.mono _ _ _
      | exact LeO.none _
      | refine LeO.ite ?_ ?_
      | refine LeO.bind ?_ (fun _ => ?_)
theorem spinneyref19_SameAll.mono : ∀ a0 a1 k, LeO (spinneyref19_SameAll.f k a0 a1) (spinneyref19_SameAll.f (k + 1) a0 a1) := by
  intro a0 a1 k
  have ih0 := spinneyref19_SameAll.mono_l k
  unfold spinneyref19_SameAll.f
  repeat' first
      | (with_reducible exact ih0 _ _ _ _)
      | (with_reducible exact spinneyref19_Compare.mono _ _ _)
      | (with_reducible exact LeO.refl _)
      | (with_reducible exact LeO.none _)
      | (with_reducible refine LeO.ite ?_ ?_)
      | (with_reducible refine LeO.bind ?_ (fun _ => ?_))
      | exact ih0 _ _ _ _
      | exact spinneyref19_Compare.mono _ _ _
      | exact LeO.none _
      | refine LeO.ite ?_ ?_
      | refine LeO.bind ?_ (fun _ => ?_)
def spinneyref19_SameAll.T6 : Bool × List (List Nat × List Nat) := (true, [([], []), ([], []), ([0, 1], [0, 1]), ([2], [2]), ([], []), ([], []), ([4, 5], [4, 5]), ([6], [6]), ([3, 7], [3, 7]), ([8], [8])])
def spinneyref19_SameAll.B6 : List Nat := [0, 0, 3, 7, 0, 0, 48, 112, 255, 511]
theorem spinneyref19_SameAll.tab6 : rtab .any (opsOf Try.f8 6) = spinneyref19_SameAll.T6 := by kernel_rfl
theorem spinneyref19_SameAll.bits6 : waitsOk spinneyref19_SameAll.T6.2 spinneyref19_SameAll.B6 = true := by kernel_rfl
set_option maxHeartbeats 8000000 in
set_option maxRecDepth 100000 in
theorem spinneyref19_SameAll.calls (k : Nat) (A0 : Option Addr) (c0 : Nat) (l0 : List (List Int)) (A1 : Option Addr) (c1 : Nat) (l1 : List (List Int)) (r : Bool) (w : World) (hr0 : Kd.C (Kd.slice 3 (Kd.int .i64)) w A0 l0.length l0) (hc0 : l0.length ≤ c0) (hr1 : Kd.C (Kd.slice 3 (Kd.int .i64)) w A1 l1.length l1) (hc1 : l1.length ≤ c1) (h : spinneyref19_SameAll.f k l0 l1 = some r) :
    Calls Try.prog 8 #[.slice A0 l0.length c0, .slice A1 l1.length c1] w fun e w' => e = .returned (.bool r) ∧ Below w.heap.size w w' := by
  have HR0 := Aside0.mk hr0
  have HC0 := Aside0.mk hc0
  clear hr0 hc0
  have HR1 := Aside0.mk hr1
  have HC1 := Aside0.mk hc1
  clear hr1 hc1
  have HB := Aside0.mk (Below.refl w.heap.size w)
  have H : (if (l0.length : Int) = (l1.length : Int) then (spinneyref19_SameAll.l0 k l0 l1 (l0.length : Int) 0) else (some false)) = some r := h
  clear h
  by_cases c3 : (l0.length : Int) = (l1.length : Int)
  · rw [if_pos c3] at H
    have c3b0 : ((l0.length : Int) == (l1.length : Int)) = true := beq_iff_eq.mpr c3
    have c3b1 : ((l0.length : Int) != (l1.length : Int)) = false := bne_eq_false_iff_eq.mpr c3
    have c3b2 : (l0.length == l1.length) = true := by first | simpa using c3 | (simp at c3 ⊢; omega)
    clear c3
    have H' := Aside0.mk H
    clear H
    go_enter Try.func8, Try.ntmps8
    go_wp2
    go_loopg [13] k (fun kq v13 w' => ∃ (x13_1 : Int), v13 = .int .i64 x13_1 ∧ Aside0 (spinneyref19_SameAll.l0 kq l0 l1 (l0.length : Int) x13_1 = some r) ∧ Aside0 (kq ≤ k) ∧ Aside0 (Below w.heap.size w w'))
    case atStart => exact ⟨(0), (by first | rfl | (simp; done) | (simp [*]; done)), H', ⟨Nat.le_refl _⟩, ⟨by repeat (first | (with_reducible first | exact HB.out | apply below_alloc | apply pw_below_drewN | apply below_drew1) | exact HB.out)⟩⟩
    case round =>
      clear H'
      try clear c1
      try clear p2
      try clear c3
      try clear c3b0
      try clear c3b1
      try clear c3b2
      obtain ⟨x13_1, rfl, HA, HK1, HB⟩ := hrel
      cases gk with
      | zero => exact absurd HA.out (by simp [spinneyref19_SameAll.l0])
      | succ k1 =>
        have H := HA.out
        clear HA
        simp only [spinneyref19_SameAll.l0] at H
        by_cases c4 : x13_1 < (l0.length : Int)
        · rw [if_pos c4] at H
          have c4b0 : decide (x13_1 < (l0.length : Int)) = true := decide_eq_true c4
          clear c4
          by_cases c5 : 0 ≤ x13_1
          · rw [if_pos c5] at H
            have c5b0 : decide (0 ≤ x13_1) = true := decide_eq_true c5
            clear c5
            by_cases c6 : x13_1 < (l0.length : Int)
            · rw [if_pos c6] at H
              have c6b0 : decide (x13_1 < (l0.length : Int)) = true := decide_eq_true c6
              clear c6
              by_cases c7 : x13_1 < (l1.length : Int)
              · rw [if_pos c7] at H
                have c7b0 : decide (x13_1 < (l1.length : Int)) = true := decide_eq_true c7
                clear c7
                replace H := Option.bind_eq_some_iff.mp H
                obtain ⟨t110, A80, H⟩ := H
                replace H : (if t110 = 0 then (spinneyref19_SameAll.l0 k1 l0 l1 (l0.length : Int) (wrap64 (x13_1 + 1))) else (some false)) = some r := H
                have A8 := Aside0.mk A80
                clear A80
                by_cases c9 : t110 = 0
                · rw [if_pos c9] at H
                  have c9b0 : (t110 == 0) = true := beq_iff_eq.mpr c9
                  have c9b1 : (t110 != 0) = false := bne_eq_false_iff_eq.mpr c9
                  clear c9
                  have H' := Aside0.mk H
                  clear H
                  try go_wp2
                  have n0_ := Aside0.mk (below_drew1 HB.out)
                  clear HB
                  have HB := n0_
                  clear n0_
                  have p108 : 0 ≤ (x13_1 : Int) := of_decide_eq_true (by first | (with_reducible assumption) | assumption)
                  have q108 : x13_1 < (l0.length : Int) := of_decide_eq_true (by first | (with_reducible assumption) | assumption)
                  obtain ⟨ad108, A108_0, c108_0, e108, hx108_0, hl108_0, hi108_0⟩ := at_L1 HR0.out x13_1 p108 q108
                  have hw108_0 := hx108_0
                  cases e108
                  replace hx108_0 := (HB.out.cell (World.block_lt_of_cell? w _ hx108_0)).trans hx108_0
                  have HR108_0 := Aside0.mk hi108_0
                  have HC108_0 := Aside0.mk hl108_0
                  clear hi108_0 hl108_0
                  replace p108 := eq_true p108
                  replace q108 := eq_true q108
                  have p109 : 0 ≤ (x13_1 : Int) := of_decide_eq_true (by first | (with_reducible assumption) | assumption)
                  have q109 : x13_1 < (l1.length : Int) := of_decide_eq_true (by first | (with_reducible assumption) | assumption)
                  obtain ⟨ad109, A109_0, c109_0, e109, hx109_0, hl109_0, hi109_0⟩ := at_L1 HR1.out x13_1 p109 q109
                  have hw109_0 := hx109_0
                  cases e109
                  replace hx109_0 := (HB.out.cell (World.block_lt_of_cell? w _ hx109_0)).trans hx109_0
                  have HR109_0 := Aside0.mk hi109_0
                  have HC109_0 := Aside0.mk hl109_0
                  clear hi109_0 hl109_0
                  replace p109 := eq_true p109
                  replace q109 := eq_true q109
                  refine start_ (n := 10) (S := fun w' => w'.cell? (ad108.add (x13_1).toNat) = some (.slice A108_0 (rd_L1 l0 x13_1).length c108_0) ∧ w'.cell? (ad109.add (x13_1).toNat) = some (.slice A109_0 (rd_L1 l1 x13_1).length c109_0)) (ds := []) #[false, false, false, false, false, false, false, false, false, false] (by kernel_rfl) rfl rfl ⟨((HB.out.cell (World.block_lt_of_cell? w _ hw108_0)).trans hw108_0), ((HB.out.cell (World.block_lt_of_cell? w _ hw109_0)).trans hw109_0)⟩ (fun hHeld => ?_); refine with_tabW spinneyref19_SameAll.tab6 spinneyref19_SameAll.bits6 (fun HT_ HW_ => ?_)
                  generalize wr.drew = w10 at HB HR108_0 HR109_0 hx108_0 hx109_0 hHeld ⊢
                  refine pure_ (i := 0) (N := some 16) (v := ?_) (a' := ?_) #[true, false, false, false, false, false, false, false, false, false] rfl rfl (any_of HT_.out (by kernel_rfl)) (fun _ _ _ h => h) (Or.inl ⟨by rfl, ?_⟩) ?_ ?_
                  rotate_left
                  · intro w'
                    go_simp
                    with_reducible rfl
                  rotate_left
                  · simp only [Act.put, List.setIfInBounds_toArray, List.set_cons_zero, List.set_cons_succ, i64_w, i32_w]
                    rfl
                  refine pure_ (i := 1) (N := some 17) (v := ?_) (a' := ?_) #[true, true, false, false, false, false, false, false, false, false] rfl rfl (any_of HT_.out (by kernel_rfl)) (fun _ _ _ h => h) (Or.inl ⟨by rfl, ?_⟩) ?_ ?_
                  rotate_left
                  · intro w'
                    go_simp
                    with_reducible rfl
                  rotate_left
                  · simp only [Act.put, List.setIfInBounds_toArray, List.set_cons_zero, List.set_cons_succ, i64_w, i32_w]
                    rfl
                  refine pure_ (i := 2) (N := some 18) (v := ?_) (a' := ?_) #[true, true, true, false, false, false, false, false, false, false] rfl rfl (any_of HT_.out (by kernel_rfl)) (fun _ _ _ h => h) (Or.inl ⟨by rfl, ?_⟩) ?_ ?_
                  rotate_left
                  · intro w'
                    go_simp
                    with_reducible rfl
                  rotate_left
                  · simp only [Act.put, List.setIfInBounds_toArray, List.set_cons_zero, List.set_cons_succ, i64_w, i32_w]
                    rfl
                  refine pure_ (i := 4) (N := some 20) (v := ?_) (a' := ?_) #[true, true, true, false, true, false, false, false, false, false] rfl rfl (any_of HT_.out (by kernel_rfl)) (fun _ _ _ h => h) (Or.inl ⟨by rfl, ?_⟩) ?_ ?_
                  rotate_left
                  · intro w'
                    go_simp
                    with_reducible rfl
                  rotate_left
                  · simp only [Act.put, List.setIfInBounds_toArray, List.set_cons_zero, List.set_cons_succ, i64_w, i32_w]
                    rfl
                  refine pure_ (i := 5) (N := some 21) (v := ?_) (a' := ?_) #[true, true, true, false, true, true, false, false, false, false] rfl rfl (any_of HT_.out (by kernel_rfl)) (fun _ _ _ h => h) (Or.inl ⟨by rfl, ?_⟩) ?_ ?_
                  rotate_left
                  · intro w'
                    go_simp
                    with_reducible rfl
                  rotate_left
                  · simp only [Act.put, List.setIfInBounds_toArray, List.set_cons_zero, List.set_cons_succ, i64_w, i32_w]
                    rfl
                  refine pure_ (i := 6) (N := some 22) (v := ?_) (a' := ?_) #[true, true, true, false, true, true, true, false, false, false] rfl rfl (any_of HT_.out (by kernel_rfl)) (fun _ _ _ h => h) (Or.inl ⟨by rfl, ?_⟩) ?_ ?_
                  rotate_left
                  · intro w'
                    go_simp
                    with_reducible rfl
                  rotate_left
                  · simp only [Act.put, List.setIfInBounds_toArray, List.set_cons_zero, List.set_cons_succ, i64_w, i32_w]
                    rfl
                  refine take_ (i := 3) (N := some 19) (v := ?_) (a' := ?_) #[true, true, true, true, true, true, true, false, false, false] rfl rfl (take_ofW HT_.out HW_.out (by kernel_rfl)) (fun _ _ _ h => h) (Or.inl ⟨by rfl, ?_⟩) hHeld ?_ ?_
                  rotate_left
                  · rintro w' ⟨s0, s1⟩
                    go_simp
                    with_reducible rfl
                  rotate_left
                  · simp only [Act.put, List.setIfInBounds_toArray, List.set_cons_zero, List.set_cons_succ, i64_w, i32_w]
                    rfl
                  refine take_ (i := 7) (N := some 23) (v := ?_) (a' := ?_) #[true, true, true, true, true, true, true, true, false, false] rfl rfl (take_ofW HT_.out HW_.out (by kernel_rfl)) (fun _ _ _ h => h) (Or.inl ⟨by rfl, ?_⟩) hHeld ?_ ?_
                  rotate_left
                  · rintro w' ⟨s0, s1⟩
                    go_simp
                    with_reducible rfl
                  rotate_left
                  · simp only [Act.put, List.setIfInBounds_toArray, List.set_cons_zero, List.set_cons_succ, i64_w, i32_w]
                    rfl
                  refine one_ (i := 8) (N := some 24) #[true, true, true, true, true, true, true, true, true, false] rfl rfl (one_of HT_.out (by kernel_rfl)) (by decide) (fun K hK => ?_)
                  refine goes_ Try.func19 (by kernel_rfl) rfl #[.slice A108_0 (rd_L1 l0 x13_1).length c108_0, .slice A109_0 (rd_L1 l1 x13_1).length c109_0] (by rfl) rfl rfl (by (try simp only [List.map_toArray, List.map_cons, List.map_nil]); first | done | rfl | (simp only [List.length_drop, List.length_take]; rfl)) ?_
                  with_reducible refine (spinneyref19_Compare.calls k1 _ _ (rd_L1 l0 x13_1) _ _ (rd_L1 l1 x13_1) t110 _ ?side1 ?side2 ?side3 ?side4 A8.out).mono ?_
                  (case side1 => repeat (first | exact (Kd.C_below HR108_0.out HB.out) | (with_reducible refine Kd.C_alloc ?_ _) | (with_reducible refine Kd.C_drewN ?_ _) | (with_reducible refine Kd.C_drew ?_)))
                  (case side2 => exact HC108_0.out)
                  (case side3 => repeat (first | exact (Kd.C_below HR109_0.out HB.out) | (with_reducible refine Kd.C_alloc ?_ _) | (with_reducible refine Kd.C_drewN ?_ _) | (with_reducible refine Kd.C_drew ?_)))
                  (case side4 => exact HC109_0.out)
                  rintro e w11 ⟨rfl, hb⟩
                  refine ⟨_, rfl, ?_⟩
                  have n0_ := Aside0.mk (below_step (by repeat (first | (with_reducible first | exact HB.out | apply below_alloc | apply pw_below_drewN | apply below_drew1) | exact HB.out)) hb)
                  clear HB
                  have HB := n0_
                  clear n0_
                  (try clear hb)
                  (try clear hb2)
                  (try clear hk)
                  (try clear hi)
                  refine hK.out _ _ ⟨((HB.out.cell (World.block_lt_of_cell? w _ hw108_0)).trans hw108_0), ((HB.out.cell (World.block_lt_of_cell? w _ hw109_0)).trans hw109_0)⟩ (fun hHeld => ?_)
                  clear hK K
                  refine norm_ (a' := ?_) ?_ ?_
                  rotate_left
                  · show Act.put _ (some 24) _ = _
                    simp only [Act.put, List.setIfInBounds_toArray, List.set_cons_zero, List.set_cons_succ, i64_w, i32_w]
                    rfl
                  refine pure_ (i := 9) (N := some 25) (v := ?_) (a' := ?_) #[true, true, true, true, true, true, true, true, true, true] rfl rfl (any_of HT_.out (by kernel_rfl)) (fun _ _ _ h => h) (Or.inl ⟨by rfl, ?_⟩) ?_ ?_
                  rotate_left
                  · intro w'
                    go_simp
                    with_reducible rfl
                  rotate_left
                  · simp only [Act.put, List.setIfInBounds_toArray, List.set_cons_zero, List.set_cons_succ, i64_w, i32_w]
                    rfl
                  refine done_ (done_of HT_.out (by kernel_rfl)) ?_
                  try go_wp2
                  go_roundg k1
                  case measure => have := HK1.out; omega
                  case rel => exact ⟨(wrap64 (x13_1 + 1)), (by first | rfl | (simp; done) | (simp [*]; done)), H', ⟨by have := HK1.out; omega⟩, ⟨by repeat (first | (with_reducible first | exact HB.out | apply below_alloc | apply pw_below_drewN | apply below_drew1) | exact HB.out)⟩⟩
                · rw [if_neg c9] at H
                  have c9b0 : (t110 == 0) = false := beq_eq_false_iff_ne.mpr c9
                  have c9b1 : (t110 != 0) = true := bne_iff_ne.mpr c9
                  obtain rfl := Option.some.inj H
                  try go_wp2
                  have n0_ := Aside0.mk (below_drew1 HB.out)
                  clear HB
                  have HB := n0_
                  clear n0_
                  have p108 : 0 ≤ (x13_1 : Int) := of_decide_eq_true (by first | (with_reducible assumption) | assumption)
                  have q108 : x13_1 < (l0.length : Int) := of_decide_eq_true (by first | (with_reducible assumption) | assumption)
                  obtain ⟨ad108, A108_0, c108_0, e108, hx108_0, hl108_0, hi108_0⟩ := at_L1 HR0.out x13_1 p108 q108
                  have hw108_0 := hx108_0
                  cases e108
                  replace hx108_0 := (HB.out.cell (World.block_lt_of_cell? w _ hx108_0)).trans hx108_0
                  have HR108_0 := Aside0.mk hi108_0
                  have HC108_0 := Aside0.mk hl108_0
                  clear hi108_0 hl108_0
                  replace p108 := eq_true p108
                  replace q108 := eq_true q108
                  have p109 : 0 ≤ (x13_1 : Int) := of_decide_eq_true (by first | (with_reducible assumption) | assumption)
                  have q109 : x13_1 < (l1.length : Int) := of_decide_eq_true (by first | (with_reducible assumption) | assumption)
                  obtain ⟨ad109, A109_0, c109_0, e109, hx109_0, hl109_0, hi109_0⟩ := at_L1 HR1.out x13_1 p109 q109
                  have hw109_0 := hx109_0
                  cases e109
                  replace hx109_0 := (HB.out.cell (World.block_lt_of_cell? w _ hx109_0)).trans hx109_0
                  have HR109_0 := Aside0.mk hi109_0
                  have HC109_0 := Aside0.mk hl109_0
                  clear hi109_0 hl109_0
                  replace p109 := eq_true p109
                  replace q109 := eq_true q109
                  refine start_ (n := 10) (S := fun w' => w'.cell? (ad108.add (x13_1).toNat) = some (.slice A108_0 (rd_L1 l0 x13_1).length c108_0) ∧ w'.cell? (ad109.add (x13_1).toNat) = some (.slice A109_0 (rd_L1 l1 x13_1).length c109_0)) (ds := []) #[false, false, false, false, false, false, false, false, false, false] (by kernel_rfl) rfl rfl ⟨((HB.out.cell (World.block_lt_of_cell? w _ hw108_0)).trans hw108_0), ((HB.out.cell (World.block_lt_of_cell? w _ hw109_0)).trans hw109_0)⟩ (fun hHeld => ?_); refine with_tabW spinneyref19_SameAll.tab6 spinneyref19_SameAll.bits6 (fun HT_ HW_ => ?_)
                  generalize wr.drew = w12 at HB HR108_0 HR109_0 hx108_0 hx109_0 hHeld ⊢
                  refine pure_ (i := 0) (N := some 16) (v := ?_) (a' := ?_) #[true, false, false, false, false, false, false, false, false, false] rfl rfl (any_of HT_.out (by kernel_rfl)) (fun _ _ _ h => h) (Or.inl ⟨by rfl, ?_⟩) ?_ ?_
                  rotate_left
                  · intro w'
                    go_simp
                    with_reducible rfl
                  rotate_left
                  · simp only [Act.put, List.setIfInBounds_toArray, List.set_cons_zero, List.set_cons_succ, i64_w, i32_w]
                    rfl
                  refine pure_ (i := 1) (N := some 17) (v := ?_) (a' := ?_) #[true, true, false, false, false, false, false, false, false, false] rfl rfl (any_of HT_.out (by kernel_rfl)) (fun _ _ _ h => h) (Or.inl ⟨by rfl, ?_⟩) ?_ ?_
                  rotate_left
                  · intro w'
                    go_simp
                    with_reducible rfl
                  rotate_left
                  · simp only [Act.put, List.setIfInBounds_toArray, List.set_cons_zero, List.set_cons_succ, i64_w, i32_w]
                    rfl
                  refine pure_ (i := 2) (N := some 18) (v := ?_) (a' := ?_) #[true, true, true, false, false, false, false, false, false, false] rfl rfl (any_of HT_.out (by kernel_rfl)) (fun _ _ _ h => h) (Or.inl ⟨by rfl, ?_⟩) ?_ ?_
                  rotate_left
                  · intro w'
                    go_simp
                    with_reducible rfl
                  rotate_left
                  · simp only [Act.put, List.setIfInBounds_toArray, List.set_cons_zero, List.set_cons_succ, i64_w, i32_w]
                    rfl
                  refine pure_ (i := 4) (N := some 20) (v := ?_) (a' := ?_) #[true, true, true, false, true, false, false, false, false, false] rfl rfl (any_of HT_.out (by kernel_rfl)) (fun _ _ _ h => h) (Or.inl ⟨by rfl, ?_⟩) ?_ ?_
                  rotate_left
                  · intro w'
                    go_simp
                    with_reducible rfl
                  rotate_left
                  · simp only [Act.put, List.setIfInBounds_toArray, List.set_cons_zero, List.set_cons_succ, i64_w, i32_w]
                    rfl
                  refine pure_ (i := 5) (N := some 21) (v := ?_) (a' := ?_) #[true, true, true, false, true, true, false, false, false, false] rfl rfl (any_of HT_.out (by kernel_rfl)) (fun _ _ _ h => h) (Or.inl ⟨by rfl, ?_⟩) ?_ ?_
                  rotate_left
                  · intro w'
                    go_simp
                    with_reducible rfl
                  rotate_left
                  · simp only [Act.put, List.setIfInBounds_toArray, List.set_cons_zero, List.set_cons_succ, i64_w, i32_w]
                    rfl
                  refine pure_ (i := 6) (N := some 22) (v := ?_) (a' := ?_) #[true, true, true, false, true, true, true, false, false, false] rfl rfl (any_of HT_.out (by kernel_rfl)) (fun _ _ _ h => h) (Or.inl ⟨by rfl, ?_⟩) ?_ ?_
                  rotate_left
                  · intro w'
                    go_simp
                    with_reducible rfl
                  rotate_left
                  · simp only [Act.put, List.setIfInBounds_toArray, List.set_cons_zero, List.set_cons_succ, i64_w, i32_w]
                    rfl
                  refine take_ (i := 3) (N := some 19) (v := ?_) (a' := ?_) #[true, true, true, true, true, true, true, false, false, false] rfl rfl (take_ofW HT_.out HW_.out (by kernel_rfl)) (fun _ _ _ h => h) (Or.inl ⟨by rfl, ?_⟩) hHeld ?_ ?_
                  rotate_left
                  · rintro w' ⟨s0, s1⟩
                    go_simp
                    with_reducible rfl
                  rotate_left
                  · simp only [Act.put, List.setIfInBounds_toArray, List.set_cons_zero, List.set_cons_succ, i64_w, i32_w]
                    rfl
                  refine take_ (i := 7) (N := some 23) (v := ?_) (a' := ?_) #[true, true, true, true, true, true, true, true, false, false] rfl rfl (take_ofW HT_.out HW_.out (by kernel_rfl)) (fun _ _ _ h => h) (Or.inl ⟨by rfl, ?_⟩) hHeld ?_ ?_
                  rotate_left
                  · rintro w' ⟨s0, s1⟩
                    go_simp
                    with_reducible rfl
                  rotate_left
                  · simp only [Act.put, List.setIfInBounds_toArray, List.set_cons_zero, List.set_cons_succ, i64_w, i32_w]
                    rfl
                  refine one_ (i := 8) (N := some 24) #[true, true, true, true, true, true, true, true, true, false] rfl rfl (one_of HT_.out (by kernel_rfl)) (by decide) (fun K hK => ?_)
                  refine goes_ Try.func19 (by kernel_rfl) rfl #[.slice A108_0 (rd_L1 l0 x13_1).length c108_0, .slice A109_0 (rd_L1 l1 x13_1).length c109_0] (by rfl) rfl rfl (by (try simp only [List.map_toArray, List.map_cons, List.map_nil]); first | done | rfl | (simp only [List.length_drop, List.length_take]; rfl)) ?_
                  with_reducible refine (spinneyref19_Compare.calls k1 _ _ (rd_L1 l0 x13_1) _ _ (rd_L1 l1 x13_1) t110 _ ?side1 ?side2 ?side3 ?side4 A8.out).mono ?_
                  (case side1 => repeat (first | exact (Kd.C_below HR108_0.out HB.out) | (with_reducible refine Kd.C_alloc ?_ _) | (with_reducible refine Kd.C_drewN ?_ _) | (with_reducible refine Kd.C_drew ?_)))
                  (case side2 => exact HC108_0.out)
                  (case side3 => repeat (first | exact (Kd.C_below HR109_0.out HB.out) | (with_reducible refine Kd.C_alloc ?_ _) | (with_reducible refine Kd.C_drewN ?_ _) | (with_reducible refine Kd.C_drew ?_)))
                  (case side4 => exact HC109_0.out)
                  rintro e w13 ⟨rfl, hb⟩
                  refine ⟨_, rfl, ?_⟩
                  have n0_ := Aside0.mk (below_step (by repeat (first | (with_reducible first | exact HB.out | apply below_alloc | apply pw_below_drewN | apply below_drew1) | exact HB.out)) hb)
                  clear HB
                  have HB := n0_
                  clear n0_
                  (try clear hb)
                  (try clear hb2)
                  (try clear hk)
                  (try clear hi)
                  refine hK.out _ _ ⟨((HB.out.cell (World.block_lt_of_cell? w _ hw108_0)).trans hw108_0), ((HB.out.cell (World.block_lt_of_cell? w _ hw109_0)).trans hw109_0)⟩ (fun hHeld => ?_)
                  clear hK K
                  refine norm_ (a' := ?_) ?_ ?_
                  rotate_left
                  · show Act.put _ (some 24) _ = _
                    simp only [Act.put, List.setIfInBounds_toArray, List.set_cons_zero, List.set_cons_succ, i64_w, i32_w]
                    rfl
                  refine pure_ (i := 9) (N := some 25) (v := ?_) (a' := ?_) #[true, true, true, true, true, true, true, true, true, true] rfl rfl (any_of HT_.out (by kernel_rfl)) (fun _ _ _ h => h) (Or.inl ⟨by rfl, ?_⟩) ?_ ?_
                  rotate_left
                  · intro w'
                    go_simp
                    with_reducible rfl
                  rotate_left
                  · simp only [Act.put, List.setIfInBounds_toArray, List.set_cons_zero, List.set_cons_succ, i64_w, i32_w]
                    rfl
                  refine done_ (done_of HT_.out (by kernel_rfl)) ?_
                  try go_wp2
                  go_ret
                  exact ⟨by first | rfl | (simp [errW_none, errW_some] <;> rfl) | (simp [*, errW_none, errW_some] <;> rfl), by repeat (first | (with_reducible first | exact HB.out | apply below_alloc | apply pw_below_drewN | apply below_drew1) | exact HB.out)⟩
              · rw [if_neg c7] at H
                exact absurd H (by simp)
            · rw [if_neg c6] at H
              exact absurd H (by simp)
          · rw [if_neg c5] at H
            exact absurd H (by simp)
        · rw [if_neg c4] at H
          have c4b0 : decide (x13_1 < (l0.length : Int)) = false := decide_eq_false c4
          clear c4
          obtain rfl := Option.some.inj H
          go_wp2
          go_ret
          exact ⟨by first | rfl | (simp [errW_none, errW_some] <;> rfl) | (simp [*, errW_none, errW_some] <;> rfl), by repeat (first | (with_reducible first | exact HB.out | apply below_alloc | apply pw_below_drewN | apply below_drew1) | exact HB.out)⟩
  · rw [if_neg c3] at H
    have c3b0 : ((l0.length : Int) == (l1.length : Int)) = false := beq_eq_false_iff_ne.mpr c3
    have c3b1 : ((l0.length : Int) != (l1.length : Int)) = true := bne_iff_ne.mpr c3
    have c3b2 : (l0.length == l1.length) = false := by first | simpa using c3 | (simp at c3 ⊢; omega)
    obtain rfl := Option.some.inj H
    go_enter Try.func8, Try.ntmps8
    go_wp2
    go_ret
    exact ⟨by first | rfl | (simp [errW_none, errW_some] <;> rfl) | (simp [*, errW_none, errW_some] <;> rfl), by repeat (first | (with_reducible first | exact HB.out | apply below_alloc | apply pw_below_drewN | apply below_drew1) | exact HB.out)⟩

/-! ### tree_places: function 22 (given) -/
section
open Go.Shelf
attribute [local go_sem] Oper.semAt_some
/-- the place behind one -/
theorem tree_places.next (A0 : Option Addr) (c0 : Nat) (l0 : List Int) (a1 : Int) (hlen : l0.length < 17592186044416) (w : World) (hr0 : Kd.C (Kd.int .i64) w A0 l0.length l0) (hc0 : l0.length ≤ c0) :
    Calls Try.prog 31 #[.slice A0 l0.length c0, .int .i64 a1] w fun e w' => ∃ v0_ : Value, e = .returned (v0_) ∧ Kd.R (Kd.int .i64) 3 w' w.heap.size (fun _ => True) v0_ (l0 ++ [a1]) ∧ Below w.heap.size w w' := by
  have info : (Try.prog.info? 3).map (fun i => (i.zero, i.size, i.bytes)) = some (some (.int .i64 0), 1, 8) := by kernel_rfl
  have hmk := print_make_int (P := Try.prog) 30 3 (.int .i64 0) 8 Try.underlying30 info rfl (by decide) ((l0.length : Int) + 1) (by omega) (by omega)
  rw [show ((l0.length : Int) + 1).toNat = l0.length + 1 by omega] at hmk
  have hblk : (w.alloc (.cells (madeCells #[Value.int .i64 0] (l0.length + 1)) 3)).heap[w.heap.size]? = some (.cells (madeCells #[Value.int .i64 0] (l0.length + 1)) 3 (0, 0)) := heap_alloc_new w _
  have hC := Kd.C_below hr0 (below_alloc (Below.refl _ _) (.cells (madeCells #[Value.int .i64 0] (l0.length + 1)) 3))
  have hms : (madeCells #[Value.int .i64 0] (l0.length + 1)).size = l0.length + 1 := by simp [madeCells]
  obtain ⟨W2, hcp, hW2, hbW2⟩ := run_copy_read (P := Try.prog) (ty := 3) _ 30 30 3 Try.underlying30 (by rw [show (fun i : TypeInfo => i.size) = _ from rfl]; kernel_rfl) w.heap.size (l0.length + 1) (l0.length + 1) A0 l0.length c0 l0 0 hC _ 3 hblk (by omega) (by omega)
  have hB2 := Aside0.mk (hbW2 w.heap.size w (below_alloc (Below.refl _ _) _) (Nat.le_refl _))
  obtain ⟨last, hlast⟩ : ∃ v, (madeCells #[Value.int .i64 0] (l0.length + 1)).toList.drop l0.length = [v] := by
    refine List.length_eq_one_iff.mp ?_
    simp [hms]
  rw [hlast] at hW2
  have hcell : W2.cell? ⟨w.heap.size, l0.length, none⟩ = some last := by
    rw [cell_of_heap hW2]
    simp
  have hfree : W2.frozen? ⟨w.heap.size, l0.length, none⟩ = false := free_of_heap hW2 _
  have hend := heap_setCell hW2 l0.length (.int .i64 a1)
  have e : (l0.map (Value.int .i64) ++ [last]).set l0.length (.int .i64 a1) = (l0 ++ [a1]).map (Value.int .i64) := by
    rw [List.set_append_right _ _ (by simp)]
    simp
  have hR := Aside0.mk (R_of_heap (h1 := fun _ => rfl) (base := w.heap.size) (by rw [← e]; exact hend) (Nat.le_refl _) (by simp; omega))
  clear hblk hC hms hW2 hbW2 hlast hend e info
  go_enter Try.func31, Try.ntmps31
  go_wp2
  go_ret
  exact ⟨_, rfl, by have h_ := hR.out; rw [List.length_append, List.length_singleton] at h_; exact h_, below_set hB2.out (Nat.le_refl _)⟩
/-- what is yielded: a number, and a place's value -/
def tree_places.encs (x : Int × Value) : Array Value := #[.int .i64 x.1, x.2]
/-- what lay in cells lies as it lay -/
def KeepsCells (X W : World) : Prop := X.heap.size ≤ W.heap.size ∧ ∀ (k : Nat) (cs : Array Value) (t : Nat), X.heap[k]? = some (.cells cs t (0, 0)) → W.heap[k]? = some (.cells cs t (0, 0))
/-- the place lies in blocks of its own, that were not there before -/
def tree_places.G (lab : List Int) (L : List Int) (pre : List (Int × Value)) (x : Int × Value) (X W : World) : Prop :=
  (∃ h : pre.length < L.length, x.1 = L[pre.length]'h) ∧ Kd.R (Kd.int .i64) 3 W X.heap.size (fun _ => True) x.2 (lab ++ [x.1]) ∧ KeepsCells X W
set_option maxRecDepth 100000 in
set_option maxHeartbeats 2000000 in
theorem tree_places.seq1 (n : Nat) (hn : 1 ≤ n) (lo Bc m0 : Nat) (Al : Option Addr) (cl : Nat) (lab : List Int) (v1 v2 v3 : Value) (AL : Option Addr) (cL : Nat) (L : List Int) (hlab : lab.length < 17592186044416) (hlc : lab.length ≤ cl) (hLn : L.length ≤ 9223372036854775806)
    (Kp : World → World → Prop) (hKp : ∀ X Y, Kp X Y → Below m0 X Y ∧ Y.heap[Bc]? = X.heap[Bc]?)
    (J Jx : List (Int × Value) → World → Prop)
    (hY : ∀ pre x X W, J pre X → J pre W → tree_places.G lab L pre x X W → YieldAt Fence.wide (n - 1) Try.prog lo (tree_places.encs x) W fun e W' =>
      (e = .returned (.bool true) ∧ J (pre ++ [x]) W' ∧ Kp W W') ∨ (e = .returned (.bool false) ∧ Jx (pre ++ [x]) W'))
    (W : World) (hJ : ∀ pre X Y, J pre X → Below X.heap.size X Y → J pre Y)
    (hBc : W.heap[Bc]? = some (.cells #[.slice Al lab.length cl, v1, v2, v3, .slice AL L.length cL] 39 (0, 0))) (hm0 : m0 ≤ W.heap.size)
    (hRl : ∀ X, Below m0 W X → Kd.C (Kd.int .i64) X Al lab.length lab) (hRL : ∀ X, Below m0 W X → Kd.C (Kd.int .i64) X AL L.length L) (h0 : J [] W) :
    CallsIn Fence.wide n Try.prog 30 #[.func (.yield lo) #[] #[], .pointer (some ⟨Bc, 0, none⟩)] W fun e W' => (∃ v, e = .returned v) ∧
      ((∃ ys, ys.map Prod.fst = L ∧ J ys W') ∨ (∃ pre, (∃ k, k ≤ L.length ∧ pre.map Prod.fst = L.take k ∧ 0 < k) ∧ Jx pre W')) := by
  refine callsIn_of_wp Try.func30 rfl trivial ?_ rfl
  simp only [Try.ntmps30, List.size_toArray, List.length_cons, List.length_nil, Nat.reduceAdd, Nat.reduceSub, Array.replicate_succ, Array.replicate_zero, List.push_toArray, List.append_toArray, List.nil_append, List.cons_append]
  have hc0 : W.cell? ⟨Bc, 0, none⟩ = some (.slice Al lab.length cl) := (blk_cell hBc 0).trans rfl
  have hc4 : W.cell? ⟨Bc, 4, none⟩ = some (.slice AL L.length cL) := (blk_cell hBc 4).trans rfl
  gi_wp2
  gi_loopw [8] (fun i wr => ∃ pre : List (Int × Value), i = .int .i64 (pre.length : Int) ∧ pre.map Prod.fst = L.take pre.length ∧ pre.length ≤ L.length ∧ J pre wr ∧ Below m0 W wr ∧ wr.heap[Bc]? = some (.cells #[.slice Al lab.length cl, v1, v2, v3, .slice AL L.length cL] 39 (0, 0))) (fun i _ => ((L.length : Int) - intOf i).toNat)
  case atStart => exact ⟨[], rfl, rfl, Nat.zero_le _, h0, Below.refl _ _, hBc⟩
  case round =>
    obtain ⟨pre, rfl, hpre, hle, hJs, hbW, hBr⟩ := hrel
    by_cases hlt : pre.length < L.length
    · have q1 : ((pre.length : Int) < (L.length : Int)) = True := eq_true (by omega)
      have q0 : (0 ≤ (pre.length : Int)) = True := eq_true (by omega)
      obtain ⟨ad, e, hx⟩ := Kd.at_int (hRL wr hbW) (pre.length : Int) (by omega) (by omega)
      cases e
      obtain ⟨x, hxe⟩ : ∃ x, x = L[pre.length]'hlt := ⟨_, rfl⟩
      replace hx : wr.cell? (ad.add pre.length) = some (.int .i64 x) := by
        have hx1 : rd L (pre.length : Int) = x := by rw [hxe]; simp [rd, List.getD_eq_getElem?_getD, hlt]
        rw [hx1] at hx
        exact hx
      have hc0' : wr.cell? ⟨Bc, 0, none⟩ = some (.slice Al lab.length cl) := (blk_cell hBr 0).trans rfl
      have hBlt : Bc < wr.heap.size := (Array.getElem?_eq_some_iff.1 hBr).1
      replace hxe := Aside0.mk hxe
      have hf31 : Fence.wide.fn 31 := trivial
      have hm0r : m0 ≤ wr.heap.size := Nat.le_trans hm0 hbW.size
      have hnx1 := tree_places.next Al cl lab x hlab wr (hRl wr hbW) hlc
      have hnx := callsIn_wide (n := n - 1) |>.2 hnx1
      clear hnx1
      replace hBr := Aside0.mk hBr
      gi_wp2_with (gi_at_call 31; refine hnx.mono ?_; rintro e w5 ⟨v0, rfl, ho, hb5⟩; obtain ⟨fn, tmps, assign, body, hy, hR⟩ := hY pre (x, v0) wr w5 hJs (hJ _ _ _ hJs hb5) ⟨⟨hlt, hxe.out⟩, ho, hb5.size, fun k cs t hk => (hb5.block k (Array.getElem?_eq_some_iff.1 hk).1).trans hk⟩; dsimp only [tree_places.encs] at hy; have hbW5 := hbW.trans (hb5.mono hm0r); have hB5 := Aside0.mk ((hb5.block Bc hBlt).trans hBr.out))
      have hlen9 : L.length ≤ 9223372036854775806 := hLn
      have hw1 : wrap64 ((pre.length : Int) + 1) = ((pre.length + 1 : Nat) : Int) := by unfold wrap64; omega
      have hmap : (pre ++ [(x, v0)]).map Prod.fst = L.take (pre.length + 1) := by
        rw [List.map_append, hpre, hxe.out]
        simp only [List.map_cons, List.map_nil]
        rw [List.take_append_getElem hlt]
      have hl1 : (pre ++ [(x, v0)]).length = pre.length + 1 := by simp
      refine hR.mono ?_
      rintro e W3 (⟨rfl, hJ3, hk3⟩ | ⟨rfl, hJx3⟩)
      · have hk4 := hKp _ _ hk3
        gi_wp2
        go_roundw
        case rel => exact ⟨pre ++ [(x, v0)], by rw [hl1]; first | rfl | (simp [hw1]; done) | exact congrArg _ hw1, by rw [hl1]; exact hmap, by rw [hl1]; omega, hJ3, hbW5.trans hk4.1, hk4.2.trans hB5.out⟩
        case measure => simp only [intOf]; omega
      · gi_wp2
        refine bodyPost_ret (results_none rfl _ _ _) rfl ?_
        exact ⟨⟨_, rfl⟩, .inr ⟨pre ++ [(x, v0)], ⟨pre.length + 1, by omega, hmap, by omega⟩, hJx3⟩⟩
    · have q1 : ((pre.length : Int) < (L.length : Int)) = False := eq_false (by omega)
      gi_wp2
      go_end0
      exact ⟨⟨_, rfl⟩, .inl ⟨pre, by rw [hpre, List.take_of_length_le (by omega)], hJs⟩⟩
/-- the iterator's contract -/
theorem tree_places.seq (n : Nat) (hn : 1 ≤ n) (Bc : Nat) (Al : Option Addr) (cl : Nat) (lab : List Int) (v1 v2 v3 : Value) (AL : Option Addr) (cL : Nat) (L : List Int) (hlab : lab.length < 17592186044416) (hlc : lab.length ≤ cl) (hLn : L.length ≤ 9223372036854775806)
    (w0 w : World) (hb : Below w0.heap.size w0 w) (Kp : World → World → Prop) (hKp : ∀ X Y, Kp X Y → Below w0.heap.size X Y ∧ Y.heap[Bc]? = X.heap[Bc]?)
    (hBc : w.heap[Bc]? = some (.cells #[.slice Al lab.length cl, v1, v2, v3, .slice AL L.length cL] 39 (0, 0)))
    (hCl : Kd.C (Kd.int .i64) w0 Al lab.length lab) (hCL : Kd.C (Kd.int .i64) w0 AL L.length L) :
    SeqG Fence.wide n Try.prog 30 #[.pointer (some ⟨Bc, 0, none⟩)] tree_places.encs Kp (tree_places.G lab L) (fun ys => ys.map Prod.fst = L) (fun pre => ∃ k, k ≤ L.length ∧ pre.map Prod.fst = L.take k ∧ 0 < k) w := by
  intro l J Jx W hW hJ hJx hY h0
  have hW0 : Below w0.heap.size w0 W := hb.trans (hW.mono hb.size)
  have hBlt : Bc < w.heap.size := (Array.getElem?_eq_some_iff.1 hBc).1
  exact tree_places.seq1 n hn l Bc w0.heap.size Al cl lab v1 v2 v3 AL cL L hlab hlc hLn Kp hKp J Jx hY W (fun pre X Y hx hb2 => hJ pre X Y none hx (grown_of_below hb2 none) (fun r e => by cases e))
    ((hW.block Bc hBlt).trans hBc) hW0.size (fun X hX => Kd.C_below hCl (hW0.trans hX)) (fun X hX => Kd.C_below hCL (hW0.trans hX)) h0
set_option maxHeartbeats 1000000 in
/-- the closure -/
theorem tree_places.calls (u0 u1 u2 u3 u4 : Value) (w : World) :
    Calls Try.prog 22 #[.agg #[u0, u1, u2, u3, u4]] w fun e w' => e = .returned (.func (.func 30) #[] #[.pointer (some ⟨w.heap.size, 0, none⟩)]) ∧ w' = w.alloc (.cells #[u0, u1, u2, u3, u4] 39) := by
  refine callsIn_wide (n := 5) |>.1 ?_
  refine callsIn_of_wp Try.func22 rfl trivial ?_ rfl
  simp only [Try.ntmps22, List.size_toArray, List.length_cons, List.length_nil, Nat.reduceAdd, Nat.reduceSub, Array.replicate_succ, Array.replicate_zero, List.push_toArray, List.append_toArray, List.nil_append, List.cons_append]
  gi_wp2
  go_ret
  exact ⟨rfl, rfl⟩
theorem KeepsCells.refl (X : World) : KeepsCells X X := ⟨Nat.le_refl _, fun _ _ _ h => h⟩
theorem KeepsCells.trans {X Y Z : World} (h : KeepsCells X Y) (k : KeepsCells Y Z) : KeepsCells X Z := ⟨Nat.le_trans h.1 k.1, fun i cs t hi => k.2 i cs t (h.2 i cs t hi)⟩
theorem KeepsCells.of_grown {X Y : World} {row : Option Nat} (hg : X.grownBy Y row) (hr : ∀ r, row = some r → ∃ o : Obj, X.heap[r]? = some o ∧ o.isCells = false) : KeepsCells X Y :=
  ⟨hg.size, fun k cs t hk => (hg.block k (Array.getElem?_eq_some_iff.1 hk).1 (fun e => by
    obtain ⟨o, ho, hc⟩ := hr k e.symm
    rw [hk] at ho
    cases ho
    cases hc)).trans hk⟩
theorem KeepsCells.put {X : World} {D : Nat} {o o' : Obj} (h : X.heap[D]? = some o) (hc : o.isCells = false) : KeepsCells X (X.putObj D o') :=
  .of_grown (grownBy_putObj' X D o') (fun r e => by cases e; exact ⟨o, h, hc⟩)
theorem S_cells {α : Type} {d : Kd α} {e base : Nat} {X Y : World} {ok : Nat → Prop} {v : Value} {xs : List α} (h : Kd.S d e X base ok v xs) (hk : KeepsCells X Y) : Kd.S d e Y base (fun k => ok k ∧ k < X.heap.size) v xs :=
  Kd.S_mono (Kd.S_move (Kd.S_bound h) (fun k hk2 => by
    obtain ⟨-, -, -, q, -, cells, hc⟩ := hk2
    rw [hc, hk.2 k cells q hc])) (fun k hk2 => ⟨hk2.1, hk2.2.2.1⟩)
theorem R_cells {α : Type} {d : Kd α} {e base : Nat} {X Y : World} {ok : Nat → Prop} {v : Value} {xs : List α} (h : Kd.R d e X base ok v xs) (hk : KeepsCells X Y) : Kd.R d e Y base (fun k => ok k ∧ k < X.heap.size) v xs :=
  Kd.R_mono (Kd.R_move (Kd.R_bound h) (fun k hk2 => by
    obtain ⟨-, -, -, q, -, cells, hc⟩ := hk2
    rw [hc, hk.2 k cells q hc])) (fun k hk2 => ⟨hk2.1, hk2.2.2.1⟩)
/-- append(v, x) of a row of rows, inside a fence -/
theorem S_appendIn {α : Type} {F : Fence} {nF : Nat} {P : Program} {ops : Array Oper} {rest : List Oper} {o : Oper} {a : Act} {Q : Exit → Act → World → Prop} (d : Kd α) {W : World} (base : Nat) (hgd : o.guard = none) (s x : Operand) (t e : TypeId) (z : Value) (bytes : Nat)
    (ho : o.op = .call { callee := .builtin .append, args := #[s, x], argTypes := #[t, t] })
    (ht : P.underlying t = some (.slice e)) (hinfo : (P.info? e).map (fun i => (i.zero, i.size, i.bytes)) = some (some z, d.sz, bytes)) (hz : z.cells.size = d.sz) (hs0 : 0 < d.sz) (hb0 : 0 < bytes)
    (v : Value) (xs : List α) (p : α) (cs : List Value) (ok okp : Nat → Prop) (hs : a.eval s = v) (hx : a.eval x = .slice (some ⟨W.heap.size, 0, none⟩) 1 1) (hp : d.M W base okp p cs) (hokp : ∀ k, okp k → ok k ∧ some k ≠ v.ownBlock) (hfresh : ∀ k, W.heap.size ≤ k → ok k)
    (HO : Kd.S d e W base (fun k => ok k ∧ ¬ okp k) v xs) (hbase : base ≤ W.heap.size) (hl : (xs.length + 1) * bytes ≤ 140737488355328)
    (h : ∀ v1 w1, Kd.S d e w1 base ok v1 (xs ++ [p]) → W.grownBy w1 v.ownBlock → wpListIn F nF P ops Q rest (a.put o.dst v1) w1) :
    wpListIn F nF P ops Q (o :: rest) a (W.alloc (.cells cs.toArray e)) := by
  obtain ⟨f, hf, hR⟩ := Kd.S_tag HO xs.length okp (fun _ hk h2 => h2.2 hk)
  obtain ⟨h0, inner, hown, hr⟩ := Kd.R_mono hR (fun _ hk => hk.1)
  obtain ⟨i0, hi, hzz⟩ := Option.map_eq_some_iff.1 hinfo
  simp only [Prod.mk.injEq] at hzz
  obtain ⟨hz0, hz1, hz2⟩ := hzz
  have hlen : xs.length + 1 ≤ 140737488355328 := Nat.le_trans (Nat.le_mul_of_pos_right _ hb0) hl
  have hpt : (Kd.tag f d).M W base (fun k => okp k) (p, xs.length) cs := d.M_mono (fun k hk => ⟨hk, hf k hk⟩) hp
  have hcl : cs.length = d.sz := d.K_len (d.K_of_M hp)
  refine wpListIn_append_own_at (W.alloc (.cells cs.toArray e)) hgd s x t ho base e i0 z d.sz bytes ht hi hz0 hz1 hz2 hz hs0 v xs.zipIdx.length inner hs (hown.alloc _) ⟨W.heap.size, 0, none⟩ 1 1 cs hx (by rw [hcl]; simp)
    (by simpa using World.news_of_block (cs := cs.toArray) (t := e) (fr := (0, 0)) (heap_alloc_new W (.cells cs.toArray e))) (d.K_one (d.K_of_M hp)) (by simp only [maxLen, List.length_zipIdx]; omega) (by rw [List.length_zipIdx]; exact hl) (by simp; omega) ?_
  intro v1 w1 hown1 hg _ hat
  have hg2 := World.grownBy.trans (World.grownBy_alloc W (.cells cs.toArray e) v.ownBlock) hg
  have hr2 := Kd.R_appended (d := Kd.tag f d) h0 hr hpt hokp hfresh hown1 hg2 (by rcases hat with hat | hat; exact .inl hat; exact .inr ⟨_, hat, by simp⟩)
  rw [← Kd.zip_snoc] at hr2
  exact h v1 w1 ⟨f, hr2⟩ hg2
/-- append(v, x) of a row of one's own, inside a fence -/
theorem R_appendIn {α : Type} {F : Fence} {nF : Nat} {P : Program} {ops : Array Oper} {rest : List Oper} {o : Oper} {a : Act} {Q : Exit → Act → World → Prop} (d : Kd α) {W : World} (base : Nat) (hgd : o.guard = none) (s x : Operand) (t e : TypeId) (z : Value) (bytes : Nat)
    (ho : o.op = .call { callee := .builtin .append, args := #[s, x], argTypes := #[t, t] })
    (ht : P.underlying t = some (.slice e)) (hinfo : (P.info? e).map (fun i => (i.zero, i.size, i.bytes)) = some (some z, d.sz, bytes)) (hz : z.cells.size = d.sz) (hs0 : 0 < d.sz) (hb0 : 0 < bytes)
    (v : Value) (xs : List α) (p : α) (cs : List Value) (ok okp : Nat → Prop) (hs : a.eval s = v) (hx : a.eval x = .slice (some ⟨W.heap.size, 0, none⟩) 1 1) (hp : d.M W base okp p cs) (hokp : ∀ k, okp k → ok k ∧ some k ≠ v.ownBlock) (hfresh : ∀ k, W.heap.size ≤ k → ok k)
    (HO : d.R e W base ok v xs) (hbase : base ≤ W.heap.size) (hl : (xs.length + 1) * bytes ≤ 140737488355328)
    (h : ∀ v1 w1, d.R e w1 base ok v1 (xs ++ [p]) → W.grownBy w1 v.ownBlock → wpListIn F nF P ops Q rest (a.put o.dst v1) w1) :
    wpListIn F nF P ops Q (o :: rest) a (W.alloc (.cells cs.toArray e)) := by
  obtain ⟨h0, inner, hown, hr⟩ := HO
  obtain ⟨i0, hi, hzz⟩ := Option.map_eq_some_iff.1 hinfo
  simp only [Prod.mk.injEq] at hzz
  obtain ⟨hz0, hz1, hz2⟩ := hzz
  have hlen : xs.length + 1 ≤ 140737488355328 := Nat.le_trans (Nat.le_mul_of_pos_right _ hb0) hl
  have hcl : cs.length = d.sz := d.K_len (d.K_of_M hp)
  refine wpListIn_append_own_at (W.alloc (.cells cs.toArray e)) hgd s x t ho base e i0 z d.sz bytes ht hi hz0 hz1 hz2 hz hs0 v xs.length inner hs (hown.alloc _) ⟨W.heap.size, 0, none⟩ 1 1 cs hx (by rw [hcl]; simp)
    (by simpa using World.news_of_block (cs := cs.toArray) (t := e) (fr := (0, 0)) (heap_alloc_new W (.cells cs.toArray e))) (d.K_one (d.K_of_M hp)) (by simp only [maxLen]; omega) hl (by simp; omega) ?_
  intro v1 w1 hown1 hg _ hat
  have hg2 := World.grownBy.trans (World.grownBy_alloc W (.cells cs.toArray e) v.ownBlock) hg
  exact h v1 w1 (Kd.R_appended h0 hr hp hokp hfresh hown1 hg2 (by rcases hat with hat | hat; exact .inl hat; exact .inr ⟨_, hat, by simp⟩)) hg2
/-- the marks that loops over iterators have left -/
def markOf (D : Nat) : Deferred := { target := .collected D, args := #[] }
theorem leaves_marks2 {n : Nat} {P : Program} {fn : Func} {tmps : Array Value} {R : Ending → World → Prop} : ∀ (Ds : List Nat) (W : World), Ds.Nodup → (∀ D ∈ Ds, W.heap[D]? = some (.deferred (some []))) →
    (∀ W', (∀ N, (∀ D ∈ Ds, N ≤ D) → Below N W W') → KeepsCells W W' → (∀ k, k ∉ Ds → W'.heap[k]? = W.heap[k]?) → LeavesIn Fence.wide n P fn tmps R [] .returning W') → LeavesInM Fence.wide n P fn tmps R (Ds.map markOf) .returning W
  | [], W, _, _, h => h W (fun N _ => Below.refl N W) (KeepsCells.refl W) (fun _ _ => rfl)
  | D :: Ds, W, hnd, hD, h => by
    have hd := hD D List.mem_cons_self
    have hnd2 := List.nodup_cons.1 hnd
    refine ⟨by simp, .inl ⟨D, _, rfl, run_takeDeferred hd, ?_⟩⟩
    refine leaves_marks2 Ds _ hnd2.2 (fun E hE => ?_) (fun W' hb hk hs => ?_)
    · have hne : E ≠ D := fun e => hnd2.1 (e ▸ hE)
      exact (World.putObj_heap_other hne).trans (hD E (List.mem_cons_of_mem _ hE))
    · refine h W' (fun N hN => ?_) ((KeepsCells.put hd rfl).trans hk) (fun k hk2 => ?_)
      · have h1 : Below N W (W.putObj D (.deferred none)) := (Below.refl N W).grown (grownBy_putObj' W D _) (Nat.le_of_lt (Nat.lt_of_le_of_lt (hN D List.mem_cons_self) (Array.getElem?_eq_some_iff.1 hd).1)) (fun k e => by cases e; exact hN D List.mem_cons_self)
        exact h1.trans (hb N (fun E hE => hN E (List.mem_cons_of_mem _ hE)))
      · have hne : k ≠ D := fun e => hk2 (e ▸ List.mem_cons_self)
        exact (hs k (fun h2 => hk2 (List.mem_cons_of_mem _ h2))).trans (World.putObj_heap_other hne)
theorem leaves_marks {n : Nat} {P : Program} {fn : Func} {tmps : Array Value} {R : Ending → World → Prop} (Ds : List Nat) (W : World) (hnd : Ds.Nodup) (hD : ∀ D ∈ Ds, W.heap[D]? = some (.deferred (some [])))
    (h : ∀ W', (∀ N, (∀ D ∈ Ds, N ≤ D) → Below N W W') → KeepsCells W W' → LeavesIn Fence.wide n P fn tmps R [] .returning W') : LeavesInM Fence.wide n P fn tmps R (Ds.map markOf) .returning W :=
  leaves_marks2 Ds W hnd hD (fun W' h1 h2 _ => h W' h1 h2)
theorem tree_places.G_own {B : Nat} (lab L : List Int) (pre : List (Int × Value)) (x : Int × Value) (X : World) : OwnFrom B (fun (_ : Unit) W => tree_places.G lab L pre x X W) := by
  rintro s W W' row ⟨h1, h2, h3⟩ hg hr
  have hk := KeepsCells.of_grown hg (fun r e => (hr r e).2)
  exact ⟨h1, Kd.R_mono (R_cells h2 hk) (fun _ _ => trivial), h3.trans hk⟩
end

/-! ### tree_Open: function 9 (given) -/
section
open Go.Shelf
attribute [local go_sem] Oper.semAt_some
/-- the places that one choice has open -/
def tree_Open.one (c : S39) : List (List Int) := c.f2.map fun i => c.f0 ++ [i]
def tree_Open.all (l0 : List S39) : List (List Int) := l0.flatMap tree_Open.one
/-- no number beyond 64 bits is counted with, no row is too long -/
def tree_Open.fits (l0 : List S39) : Prop := l0.length ≤ 1000000000000000 ∧ (∀ c ∈ l0, c.f0.length < 17592186044416) ∧ (tree_Open.all l0).length < 5864062014805
open Classical in
noncomputable def tree_Open.f (k : Nat) (l0 : List S39) : Option (List (List Int)) := if tree_Open.fits l0 then some (tree_Open.all l0) else none
theorem tree_Open.mono : ∀ a0 k, LeO (tree_Open.f k a0) (tree_Open.f (k + 1) a0) := fun _ _ => LeO.refl _
theorem tree_Open.take_succ (l0 : List S39) (m : Nat) (h : m < l0.length) : tree_Open.all (l0.take (m + 1)) = tree_Open.all (l0.take m) ++ tree_Open.one (l0[m]'h) := by
  unfold tree_Open.all
  rw [← List.take_append_getElem h, List.flatMap_append]
  simp
theorem tree_Open.len_le (l0 : List S39) (m j : Nat) (h : m < l0.length) (hj : j ≤ (l0[m]'h).f2.length) : (tree_Open.all (l0.take m)).length + j ≤ (tree_Open.all l0).length := by
  have h1 := tree_Open.take_succ l0 m h
  have h2 : tree_Open.all l0 = tree_Open.all (l0.take (m + 1)) ++ tree_Open.all (l0.drop (m + 1)) := by
    unfold tree_Open.all
    rw [← List.flatMap_append, List.take_append_drop]
  rw [h2, h1, List.length_append, List.length_append]
  have h3 : (tree_Open.one (l0[m]'h)).length = (l0[m]'h).f2.length := by simp [tree_Open.one]
  omega
theorem tree_Open.meas (n m : Nat) (a b : Array Value) (ha : a[10]? = some (.int .i64 ((m + 1 : Nat) : Int))) (hb : b[10]? = some (.int .i64 (m : Int))) (h : m < n) : ((n : Int) - intOf (a.getD 10 undef)).toNat < ((n : Int) - intOf (b.getD 10 undef)).toNat := by
  rw [Array.getD_eq_getD_getElem?, ha, Array.getD_eq_getD_getElem?, hb]
  simp only [Option.getD_some, intOf]
  omega
/-- the out row, its box, what lay before -/
def tree_Open.In (w : World) (out : List (List Int)) (W : World) : Prop := ∃ v, BoxN W w.heap.size 26 #[v] ∧ Kd.S (Kd.slice 3 (Kd.int .i64)) 30 W w.heap.size (fun _ => True) v out ∧ Below w.heap.size w W
theorem tree_Open.In.cells {w W W' : World} {out : List (List Int)} (h : tree_Open.In w out W) (hk : KeepsCells W W') (hb : Below w.heap.size W W') : tree_Open.In w out W' := by
  obtain ⟨v, h1, h2, h3⟩ := h
  exact ⟨v, hk.2 _ _ _ h1, Kd.S_mono (S_cells h2 hk) (fun _ _ => trivial), h3.trans hb⟩
theorem tree_Open.In.own {w : World} {B : Nat} (hB : w.heap.size ≤ B) {β : Type} (f : β → List (List Int)) : OwnFrom B (fun (s : β) W => tree_Open.In w (f s) W) := by
  intro s W W' row h hg hr
  have hk := KeepsCells.of_grown hg (fun r e => (hr r e).2)
  exact h.cells hk ((Below.refl _ W).grown hg (Nat.le_trans (by obtain ⟨v, h1, -⟩ := h; exact Nat.le_of_lt h1.lt) (Nat.le_refl _)) (fun k e => Nat.le_trans hB (hr k e).1))
set_option maxRecDepth 100000 in
set_option maxHeartbeats 8000000 in
theorem tree_Open.calls (k : Nat) (A0 : Option Addr) (c0 : Nat) (l0 : List S39) (r : List (List Int)) (w : World) (hr0 : Kd.C k39 w A0 l0.length l0) (hc0 : l0.length ≤ c0) (h : tree_Open.f k l0 = some r) :
    Calls Try.prog 9 #[.slice A0 l0.length c0] w fun e w' => ∃ v0_ : Value, e = .returned (v0_) ∧ Kd.S (Kd.slice 3 (Kd.int .i64)) 30 w' w.heap.size (fun _ => True) v0_ r ∧ Below w.heap.size w w' := by
  have hfr : tree_Open.fits l0 ∧ r = tree_Open.all l0 := by
    unfold tree_Open.f at h
    split at h
    · rename_i hf
      exact ⟨hf, (Option.some.inj h).symm⟩
    · cases h
  obtain ⟨⟨hl63, hlab, hall⟩, rfl⟩ := hfr
  clear h
  have hu39 := Try.underlying39
  have HR0 := Aside0.mk hr0
  clear hr0
  refine callsIn_wide (n := 5) |>.1 ?_
  refine callsIn_of_wp_marks Try.func9 rfl trivial ?_ rfl
  simp only [Try.ntmps9, List.size_toArray, List.length_cons, List.length_nil, Nat.reduceAdd, Nat.reduceSub, Array.replicate_succ, Array.replicate_zero, List.push_toArray, List.append_toArray, List.nil_append, List.cons_append]
  refine wpIn_wide.2 ?_
  go_wp2
  refine wp_loop (fun a W => ∃ (m : Nat) (Ds : List Nat) (u5 u7 u11 u12 u13 u14 u15 u16 u17 u18 u19 u20 u21 u22 u23 : Value), a = { tmps := #[.slice A0 l0.length c0, undef, .slice none 0 0, .pointer (some ⟨w.heap.size, 0, none⟩), undef, u5, undef, u7, .slice A0 l0.length c0, .int .i64 l0.length, .int .i64 (m : Int), u11, u12, u13, u14, u15, u16, u17, u18, u19, u20, u21, u22, u23], defers := Ds.map markOf } ∧
    m ≤ l0.length ∧ Aside0 (tree_Open.In w (tree_Open.all (l0.take m)) W) ∧ Ds.Nodup ∧ (∀ D ∈ Ds, w.heap.size < D ∧ W.heap[D]? = some (.deferred (some [])))) (fun a _ => ((l0.length : Int) - intOf (a.tmps.getD 10 undef)).toNat) ?_ ?_
  · refine ⟨0, [], _, _, _, _, _, _, _, _, _, _, _, _, _, _, _, rfl, Nat.zero_le _, ⟨?_⟩, List.nodup_nil, fun D h => by cases h⟩
    exact ⟨.slice none 0 0, BoxN.new w _ _, Kd.S_nil _ _ _ _ _, (Below.refl _ w).alloc (Nat.le_refl _) _⟩
  · rintro a W ⟨m, Ds, u5, u7, u11, u12, u13, u14, u15, u16, u17, u18, u19, u20, u21, u22, u23, rfl, hm, hIn, hnd, hDs⟩
    by_cases hlt : m < l0.length
    · have q1 : ((m : Int) < (l0.length : Int)) = True := eq_true (by omega)
      have q0 : (0 ≤ (m : Int)) = True := eq_true (by omega)
      obtain ⟨ad, Al, cl, A1, c1, A2, c2, AL, cL, e, hx0, hx1, hx2, hx3, hx4, hl0, hi0, hl1, hi1, hl2, hi2, hl4, hi4⟩ := at_T39 HR0.out (m : Int) (by omega) (by omega)
      cases e
      obtain ⟨c, hc⟩ : ∃ c, rd_T39 l0 (m : Int) = c := ⟨_, rfl⟩
      rw [hc] at hx0 hx1 hx2 hx3 hx4 hl0 hl1 hl2 hl4 hi0 hi1 hi2 hi4
      have hbl := hIn.out
      obtain ⟨v, hbv, hS, hbl⟩ := hbl
      replace hx0 := (hbl.cell (World.block_lt_of_cell? w _ hx0)).trans hx0
      replace hx1 := (hbl.cell (World.block_lt_of_cell? w _ hx1)).trans hx1
      replace hx2 := (hbl.cell (World.block_lt_of_cell? w _ hx2)).trans hx2
      replace hx3 := (hbl.cell (World.block_lt_of_cell? w _ hx3)).trans hx3
      replace hx4 := (hbl.cell (World.block_lt_of_cell? w _ hx4)).trans hx4
      have em : ((m : Nat) : Int).toNat = m := rfl
      rw [em] at hx0 hx1 hx2 hx3 hx4
      clear hi1 hi2 hl1 hl2
      replace hi0 := Aside0.mk hi0
      replace hi4 := Aside0.mk hi4
      replace hl0 := Aside0.mk hl0
      replace hl4 := Aside0.mk hl4
      replace hS := Aside0.mk hS
      replace hbl := Aside0.mk hbl
      replace hbv := Aside0.mk hbv
      go_wp2_with (first | ((with_reducible refine gate_dst (N := 5) rfl ?_); refine box_event ?hg (N := 5) ?hd (cs := #[.slice none 0 0, .slice none 0 0, .slice none 0 0, .int .i64 0, .slice none 0 0]) (t := 39) ?hr ?_; (case hd => rfl); (case hg => rfl); (case hr => first | (go_simp; done) | (go_simp; rfl)); intro gb hg w5 hbox hb5; have hcz0 : w5.cell? ⟨gb, 0, none⟩ = some (.slice none 0 0) := (blk_cell hbox 0).trans rfl; have hcz1 : w5.cell? ⟨gb, 1, none⟩ = some (.slice none 0 0) := (blk_cell hbox 1).trans rfl; have hcz2 : w5.cell? ⟨gb, 2, none⟩ = some (.slice none 0 0) := (blk_cell hbox 2).trans rfl; have hcz3 : w5.cell? ⟨gb, 3, none⟩ = some (.int .i64 0) := (blk_cell hbox 3).trans rfl; have hcz4 : w5.cell? ⟨gb, 4, none⟩ = some (.slice none 0 0) := (blk_cell hbox 4).trans rfl; have hfz0 := blk_frozen hbox 0; have hfz1 := blk_frozen hbox 1; have hfz2 := blk_frozen hbox 2; have hfz3 := blk_frozen hbox 3; have hfz4 := blk_frozen hbox 4; replace hbox := Aside0.mk hbox; replace hb5 := Aside0.mk hb5; replace hg := Aside0.mk hg) | (go_at_call 22; (with_reducible refine (tree_places.calls _ _ _ _ _ _).mono ?_); rintro e w6 ⟨rfl, rfl⟩))
      have hge : W.heap.size ≤ gb := Nat.le_of_eq hg.out.symm
      have hWw : w.heap.size < W.heap.size := hbv.out.lt
      have hbW2 : Below W.heap.size W ((((((w5.setCell ⟨gb, 0, none⟩ (.slice Al c.f0.length cl)).setCell ⟨gb, 1, none⟩ (.slice A1 c.f1.f0.length c1)).setCell ⟨gb, 2, none⟩ (.slice A2 c.f1.f1.length c2)).setCell ⟨gb, 3, none⟩ (.int .i64 c.f1.f2)).setCell ⟨gb, 4, none⟩ (.slice AL c.f2.length cL)).alloc (.cells #[.slice Al c.f0.length cl, .slice A1 c.f1.f0.length c1, .slice A2 c.f1.f1.length c2, .int .i64 c.f1.f2, .slice AL c.f2.length cL] 39)) :=
        (((((hb5.out.setCell (p := ⟨gb, 0, none⟩) hge _).setCell (p := ⟨gb, 1, none⟩) hge _).setCell (p := ⟨gb, 2, none⟩) hge _).setCell (p := ⟨gb, 3, none⟩) hge _).setCell (p := ⟨gb, 4, none⟩) hge _).alloc (by simp only [World.size_setCell]; exact hb5.out.size) _
      have hBc : ((((((w5.setCell ⟨gb, 0, none⟩ (.slice Al c.f0.length cl)).setCell ⟨gb, 1, none⟩ (.slice A1 c.f1.f0.length c1)).setCell ⟨gb, 2, none⟩ (.slice A2 c.f1.f1.length c2)).setCell ⟨gb, 3, none⟩ (.int .i64 c.f1.f2)).setCell ⟨gb, 4, none⟩ (.slice AL c.f2.length cL)).alloc (.cells #[.slice Al c.f0.length cl, .slice A1 c.f1.f0.length c1, .slice A2 c.f1.f1.length c2, .int .i64 c.f1.f2, .slice AL c.f2.length cL] 39)).heap[w5.heap.size]? = some (.cells #[.slice Al c.f0.length cl, .slice A1 c.f1.f0.length c1, .slice A2 c.f1.f1.length c2, .int .i64 c.f1.f2, .slice AL c.f2.length cL] 39 (0, 0)) := by
        have h2 := World.alloc_heap_new (((((w5.setCell ⟨gb, 0, none⟩ (.slice Al c.f0.length cl)).setCell ⟨gb, 1, none⟩ (.slice A1 c.f1.f0.length c1)).setCell ⟨gb, 2, none⟩ (.slice A2 c.f1.f1.length c2)).setCell ⟨gb, 3, none⟩ (.int .i64 c.f1.f2)).setCell ⟨gb, 4, none⟩ (.slice AL c.f2.length cL)) (.cells #[.slice Al c.f0.length cl, .slice A1 c.f1.f0.length c1, .slice A2 c.f1.f1.length c2, .int .i64 c.f1.f2, .slice AL c.f2.length cL] 39)
        simp only [World.size_setCell] at h2
        exact h2
      obtain ⟨W2, hW2⟩ : ∃ W2, ((((((w5.setCell ⟨gb, 0, none⟩ (.slice Al c.f0.length cl)).setCell ⟨gb, 1, none⟩ (.slice A1 c.f1.f0.length c1)).setCell ⟨gb, 2, none⟩ (.slice A2 c.f1.f1.length c2)).setCell ⟨gb, 3, none⟩ (.int .i64 c.f1.f2)).setCell ⟨gb, 4, none⟩ (.slice AL c.f2.length cL)).alloc (.cells #[.slice Al c.f0.length cl, .slice A1 c.f1.f0.length c1, .slice A2 c.f1.f1.length c2, .int .i64 c.f1.f2, .slice AL c.f2.length cL] 39)) = W2 := ⟨_, rfl⟩
      rw [hW2] at hbW2 hBc ⊢
      clear hW2 hcz0 hcz1 hcz2 hcz3 hcz4 hfz0 hfz1 hfz2 hfz3 hfz4 hx0 hx1 hx2 hx3 hx4 hbox
      have hBge : W.heap.size ≤ w5.heap.size := hb5.out.size
      have hBlt : w5.heap.size < W2.heap.size := (Array.getElem?_eq_some_iff.1 hBc).1
      have hcm : c = l0[m]'hlt := by rw [← hc]; unfold rd_T39; simp [List.getD_eq_getElem?_getD, hlt]
      have hlabc : c.f0.length < 17592186044416 := hlab c (by rw [hcm]; exact List.getElem_mem hlt)
      have hcnt : (tree_Open.all (l0.take m)).length + c.f2.length ≤ (tree_Open.all l0).length := tree_Open.len_le l0 m _ hlt (by rw [hcm]; exact Nat.le_refl _)
      replace hcm := Aside0.mk hcm
      have hIn2 : tree_Open.In w (tree_Open.all (l0.take m)) W2 := hIn.out.cells ⟨hbW2.size, fun k cs t hk => (hbW2.block k (Array.getElem?_eq_some_iff.1 hk).1).trans hk⟩ (hbW2.mono (Nat.le_of_lt hWw))
      have hDs2 : ∀ D ∈ Ds, w.heap.size < D ∧ W2.heap[D]? = some (.deferred (some [])) ∧ D < W.heap.size := fun D h => ⟨(hDs D h).1, (hbW2.block D (Array.getElem?_eq_some_iff.1 (hDs D h).2).1).trans (hDs D h).2, (Array.getElem?_eq_some_iff.1 (hDs D h).2).1⟩
      have hwW2 : Below w.heap.size w W2 := hbl.out.trans (hbW2.mono (Nat.le_of_lt hWw))
      generalize hBe : w5.heap.size = Bc at hBc hBge hBlt ⊢
      refine (wpIn_wide (n := 5)).1 ?_
      refine wpIn_rangeG rfl (by decide) (gf := 30) (lb := #[.pointer (some ⟨Bc, 0, none⟩)]) rfl trivial (enters_of Try.func30 (by kernel_rfl) rfl)
        (tree_places.seq 4 (by decide) Bc Al cl c.f0 _ _ _ AL cL c.f2 hlabc hl0.out (by omega) w W2 hwW2 (fun X Y => Below w.heap.size X Y ∧ Y.heap[Bc]? = X.heap[Bc]?) (fun X Y h => h) hBc hi0.out hi4.out)
        (fun h k => ⟨h.1.trans k.1, k.2.trans h.2⟩) (fun X l o o' hl ho _ _ => ⟨(Below.refl _ X).grown (grownBy_putObj' X l o') (by have := (Array.getElem?_eq_some_iff.1 ho).1; omega) (fun k e => by cases e; omega), World.putObj_heap_other (by omega)⟩) (Below.refl _ _) (fun _ => rfl)
        (fun xs X => tree_Open.In w (tree_Open.all (l0.take m) ++ xs.map (fun x => c.f0 ++ [x.1])) X ∧ BoxN X Bc 39 #[.slice Al c.f0.length cl, .slice A1 c.f1.f0.length c1, .slice A2 c.f1.f1.length c2, .int .i64 c.f1.f2, .slice AL c.f2.length cL] ∧ (∀ E ∈ Ds, X.heap[E]? = some (.deferred (some [])))) (fun _ _ _ => False)
        (OwnFrom.and (tree_Open.In.own (by omega) _) (OwnFrom.and (Own.from (boxN_own Bc _ (fun _ => _)) _) (fun s X Y row h hg hr E hE => (hg.block E (Array.getElem?_eq_some_iff.1 (h E hE)).1 (fun e => by have h1 := (hr E e.symm).1; have h2 := (hDs2 E hE).2.2; omega)).trans (h E hE)))) (fun _ _ _ _ _ h _ _ => h) (fun pre x X => tree_places.G_own c.f0 c.f2 pre x X) ⟨by simpa using hIn2, hBc, fun E hE => (hDs2 E hE).2.1⟩
        (fun x => { tmps := #[.slice (some ad) l0.length c0, undef, .slice none 0 0, .pointer (some ⟨w.heap.size, 0, none⟩), undef, .pointer (some ⟨gb, 0, none⟩), undef, x.2, .slice (some ad) l0.length c0, .int .i64 l0.length, .int .i64 (m : Int), .bool true, .pointer (some (ad.add (m * 5))), .agg #[.slice Al c.f0.length cl, .slice A1 c.f1.f0.length c1, .slice A2 c.f1.f1.length c2, .int .i64 c.f1.f2, .slice AL c.f2.length cL], .agg #[.slice Al c.f0.length cl, .slice A1 c.f1.f0.length c1, .slice A2 c.f1.f1.length c2, .int .i64 c.f1.f2, .slice AL c.f2.length cL], .func (.func 30) #[] #[.pointer (some ⟨Bc, 0, none⟩)], .int .i64 x.1, x.2, u18, u19, u20, u21, u22, u23], defers := [] })
        ?assign ?body ?done ?stop
      case assign =>
        intro l x X K hK
        dsimp only [tree_places.encs]
        gi_wp2
        exact hK
      case body =>
        rintro l pre x X Y ⟨⟨vX, bX, SX, blX⟩, -, -⟩ ⟨⟨vY, bY, SY, blY⟩, bcY, mkY⟩ ⟨⟨hlp, hxp⟩, hR, hkc⟩
        have e1 := (hkc.2 _ _ _ bX).symm.trans bY
        obtain rfl : vX = vY := by
          have e2 := Option.some.inj e1
          injection e2 with e3
          simpa using e3
        clear e1
        have hX1 : w.heap.size < X.heap.size := bX.lt
        have SY2 := S_cells SX hkc
        obtain ⟨x1, x2⟩ := x
        dsimp only at hR hxp ⊢
        obtain ⟨Ap, cp, ep⟩ := Kd.R_slice hR
        obtain ⟨pl, hpl⟩ : ∃ n, (c.f0 ++ [x1]).length = n := ⟨_, rfl⟩
        rw [hpl] at ep
        clear hpl
        subst ep
        replace hxp := Aside0.mk hxp
        have hpb := Kd.R_base hR
        have hvb := Kd.S_lt SX
        have hcv : Y.cell? ⟨w.heap.size, 0, none⟩ = some vX := bY.cell 0
        have hfv : Y.frozen? ⟨w.heap.size, 0, none⟩ = false := bY.frozen 0
        have hY1 : w.heap.size < Y.heap.size := bY.lt
        have hne : some w.heap.size ≠ vX.ownBlock := Kd.S_ne SY bY (by decide)
        have hneB : some Bc ≠ vX.ownBlock := Kd.S_ne SY bcY (by decide)
        have hlen : ((tree_Open.all (l0.take m) ++ pre.map (fun x => c.f0 ++ [x.1])).length + 1) * 24 ≤ 140737488355328 := by
          rw [List.length_append, List.length_map]; omega
        have hokp : ∀ k, some k = (Value.slice Ap pl cp).ownBlock → True ∧ some k ≠ vX.ownBlock := fun k hk => ⟨trivial, fun e => by have h1 := hpb k hk.symm; have h2 := hvb k e.symm; omega⟩
        have hO : Kd.S (Kd.slice 3 (Kd.int .i64)) 30 Y w.heap.size (fun k => True ∧ ¬ some k = (Value.slice Ap pl cp).ownBlock) vX (tree_Open.all (l0.take m) ++ pre.map (fun x => c.f0 ++ [x.1])) := Kd.S_mono SY2 (fun k hk => ⟨trivial, fun e => by have h1 := hpb k e.symm; have h2 := hk.2; omega⟩)
        have hP := Kd.M_row (Kd.R_mono (Kd.R_tight rfl (Kd.R_lower hR (Nat.le_of_lt hX1))) (fun _ h_ => h_))
        replace SY := Aside0.mk SY
        replace SX := Aside0.mk SX
        replace hR := Aside0.mk hR
        replace hkc := Aside0.mk hkc
        replace SY2 := Aside0.mk SY2
        replace hO := Aside0.mk hO
        replace hP := Aside0.mk hP
        replace hokp := Aside0.mk hokp
        gi_wp2_with (gi_at_builtin; refine S_appendIn (Kd.slice 3 (Kd.int .i64)) (W := Y) w.heap.size rfl (.tmp 18) (.tmp 20) 26 30 (.slice none 0 0) 24 rfl Try.underlying26 info30 rfl (by decide) (by omega) vX _ (c.f0 ++ [x1]) [.slice Ap pl cp] (fun _ => True) (fun k => some k = (Value.slice Ap pl cp).ownBlock) rfl rfl ?aP hokp.out (fun _ _ => trivial) hO.out (Nat.le_of_lt hY1) hlen ?_; (case aP => exact hP.out); intro v1 w1 hS1 hg1; obtain ⟨A9, c9, e9⟩ := Kd.S_slice hS1; obtain ⟨n9, hn9⟩ : ∃ n9, (tree_Open.all (l0.take m) ++ pre.map (fun x => c.f0 ++ [x.1]) ++ [c.f0 ++ [x1]]).length = n9 := ⟨_, rfl⟩; rw [hn9] at e9; clear hn9; subst e9; replace hS1 := Aside0.mk hS1; have hcv1 : w1.cell? ⟨w.heap.size, 0, none⟩ = some vX := (World.cell?_of_block (hg1.block w.heap.size hY1 hne)).trans hcv; have hfv1 : w1.frozen? ⟨w.heap.size, 0, none⟩ = false := (World.frozen?_of_block (hg1.block w.heap.size hY1 hne)).trans hfv)
        have hkeep : KeepsOthers Y w1 := ⟨hg1.size, fun k o hk ho => (hg1.block k (Array.getElem?_eq_some_iff.1 hk).1 (fun e => by
          obtain ⟨cells, hcl⟩ := Kd.S_typed SY.out k e.symm
          rw [hk] at hcl
          cases hcl
          cases ho)).trans hk⟩
        have hk2 := hkeep.trans (KeepsOthers.setCell w1 ⟨w.heap.size, 0, none⟩ (.slice A9 n9 c9))
        have box1 : BoxN w1 w.heap.size 26 #[vX] := (hg1.block w.heap.size hY1 hne).trans bY
        have boxc : BoxN w1 Bc 39 #[.slice Al c.f0.length cl, .slice A1 c.f1.f0.length c1, .slice A2 c.f1.f1.length c2, .int .i64 c.f1.f2, .slice AL c.f2.length cL] := (hg1.block Bc bcY.lt hneB).trans bcY
        have hBN : Bc ≠ w.heap.size := by omega
        have hb1 : Below w.heap.size Y w1 := (Below.refl _ Y).grown hg1 (Nat.le_of_lt hY1) (Kd.S_base SY.out)
        have hset : (w1.setCell ⟨w.heap.size, 0, none⟩ (.slice A9 n9 c9)).heap[Bc]? = w1.heap[Bc]? := Below.heap_setCell w1 ⟨w.heap.size, 0, none⟩ (.slice A9 n9 c9) Bc hBN
        have hb2 := hb1.setCell (p := ⟨w.heap.size, 0, none⟩) (Nat.le_refl _) (.slice A9 n9 c9)
        refine ⟨hk2.from _, ⟨hb2, hset.trans (hg1.block Bc bcY.lt hneB)⟩, ⟨.slice A9 n9 c9, blk_put box1 0 _ rfl, ?_, blY.trans hb2⟩, hset.trans boxc, fun E hE => hk2.same E _ (mkY E hE) rfl⟩
        rw [List.map_append, List.map_cons, List.map_nil, ← List.append_assoc]
        exact Kd.S_mono (Kd.S_far (p := ⟨w.heap.size, 0, none⟩) (Kd.S_types hS1.out box1 (by decide)) (fun _ hk => hk.2) (.slice A9 n9 c9)) (fun _ _ => trivial)
      case done =>
        rintro D xs Y hD hS ⟨hI, -, hmk⟩ hK
        have hnx : tree_Open.all (l0.take (m + 1)) = tree_Open.all (l0.take m) ++ xs.map (fun x => c.f0 ++ [x.1]) := by
          rw [tree_Open.take_succ l0 m hlt, ← hcm.out]
          unfold tree_Open.one
          rw [← hS, List.map_map]
          rfl
        have hw1 : wrap64 ((m : Int) + 1) = ((m + 1 : Nat) : Int) := by unfold wrap64; omega
        replace hw1 := Aside0.mk hw1
        replace hmk := Aside0.mk hmk
        replace hI := Aside0.mk hI
        replace hnx := Aside0.mk hnx
        dsimp only
        go_wp2
        have ew : (m : Int) + 1 = ((m + 1 : Nat) : Int) := by omega
        first | rw [hw1.out] | rw [ew]
        refine ⟨⟨m + 1, D :: Ds, _, _, _, _, _, _, _, _, _, _, _, _, _, _, _, rfl, hlt, ⟨by rw [hnx.out]; exact hI.out⟩, List.nodup_cons.2 ⟨fun e => by have h1 := (hDs2 D e).2.2; have h2 := hbW2.size; omega, hnd⟩, fun E hE => ?_⟩, ?_⟩
        · rcases List.mem_cons.1 hE with rfl | hE
          · exact ⟨by have h2 := hbW2.size; omega, hK⟩
          · exact ⟨(hDs2 E hE).1, hmk.out E hE⟩
        · exact tree_Open.meas l0.length m _ _ rfl rfl hlt
      case stop =>
        intro D c pre Y _ _ h _
        exact h.elim
    · have q1 : ((m : Int) < (l0.length : Int)) = False := eq_false (by omega)
      obtain ⟨v, hb, hS, hbl⟩ := hIn.out
      have hc := hb.cell 0
      have hml : m = l0.length := by omega
      subst hml
      rw [List.take_length] at hS
      go_wp2
      refine leaves_marks Ds _ hnd (fun D h => (hDs D h).2) (fun W' hb2 hk => ?_)
      exact ⟨_, results_tmp rfl _ _ _, v, rfl, Kd.S_mono (S_cells hS hk) (fun _ _ => trivial), hbl.trans (hb2 w.heap.size (fun D h => Nat.le_of_lt (hDs D h).1))⟩
end

end Go.Proofs.Ytfcmbflpefhpaaa.P
