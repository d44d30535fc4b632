-- PRINTED by a program of this session over the kit's print.py.
import Derived.Test.YtjichkjnodabiaaDoorPx0
import Derived.Test.YtjichkjnodabiaaDoorPx6
namespace Go.Proofs.YtjichkjnodabiaaDoor.P
open Go.Own Go.RowKit Go.Proofs.YtjichkjnodabiaaDoorW.PrintWords Go.Proofs.YtjichkjnodabiaaDoorW.PrintLast Go.Proofs.YtjichkjnodabiaaDoorW.PrintMore
attribute [local go_sem] max2_int min2_int max_two min_two max_three min_three max_four min_four   -- for this text's walks alone
set_option linter.unusedVariables false
set_option linter.unusedSimpArgs false

/-! ### spinneyref05_skip: function 17 -/
mutual
def spinneyref05_skip.l0 : Nat → ByteArray → Int → Option (Int × Bool)
  | 0, _, _ => none
  | k + 1, x0, x1 => if x1 < (x0.size : Int) then ((spinneyref05_class.f k x0 x1).bind fun t133 => (if t133 = 5 then (spinneyref05_skip.l0 k x0 (wrap64 (x1 + 1))) else (if 0 ≤ x1 then (if (bt x0 x1) = 37 then (spinneyref05_skip.l1 k x0 x1) else (if (bt x0 x1) = 47 then (if (wrap64 (x1 + 1)) < (x0.size : Int) then (if 0 ≤ (wrap64 (x1 + 1)) then (spinneyref05_skip.j2 k x0 x1 ((bt x0 (wrap64 (x1 + 1))) == 42)) else (none)) else (spinneyref05_skip.j2 k x0 x1 false)) else (spinneyref05_skip.j2 k x0 x1 false))) else (none)))) else (some (x1, true))
def spinneyref05_skip.l1 : Nat → ByteArray → Int → Option (Int × Bool)
  | 0, _, _ => none
  | k + 1, x0, x1 => if x1 < (x0.size : Int) then (if 0 ≤ x1 then (if (bt x0 x1) = 10 then (spinneyref05_skip.l0 k x0 x1) else (spinneyref05_skip.l1 k x0 (wrap64 (x1 + 1)))) else (none)) else (spinneyref05_skip.l0 k x0 x1)
def spinneyref05_skip.j2 : Nat → ByteArray → Int → Bool → Option (Int × Bool)
  | 0, _, _, _ => none
  | k + 1, x0, x1, x36 => if x36 = true then (spinneyref05_skip.l2 k x0 x1 (wrap64 (x1 + 2))) else (some (x1, true))
def spinneyref05_skip.l2 : Nat → ByteArray → Int → Int → Option (Int × Bool)
  | 0, _, _, _ => none
  | k + 1, x0, x1, x6 => if (wrap64 (x6 + 1)) < (x0.size : Int) then (if 0 ≤ x6 then (if x6 < (x0.size : Int) then (if (bt x0 x6) = 42 then (if 0 ≤ (wrap64 (x6 + 1)) then (if ((bt x0 (wrap64 (x6 + 1))) = 47) then (if (wrap64 (x6 + 1)) ≥ (x0.size : Int) then (some (x1, false)) else (spinneyref05_skip.l0 k x0 (wrap64 (x6 + 2)))) else (spinneyref05_skip.l2 k x0 x1 (wrap64 (x6 + 1)))) else (none)) else (spinneyref05_skip.l2 k x0 x1 (wrap64 (x6 + 1)))) else (none)) else (none)) else (if (wrap64 (x6 + 1)) ≥ (x0.size : Int) then (some (x1, false)) else (spinneyref05_skip.l0 k x0 (wrap64 (x6 + 2))))
end
def spinneyref05_skip.f (k : Nat) (a0 : ByteArray) (a1 : Int) : Option (Int × Bool) := spinneyref05_skip.l0 k a0 a1
theorem spinneyref05_skip.mono_l : ∀ k, (∀ y0 y1, LeO (spinneyref05_skip.l0 k y0 y1) (spinneyref05_skip.l0 (k + 1) y0 y1)) ∧ (∀ y0 y1, LeO (spinneyref05_skip.l1 k y0 y1) (spinneyref05_skip.l1 (k + 1) y0 y1)) ∧ (∀ y0 y1 y2, LeO (spinneyref05_skip.j2 k y0 y1 y2) (spinneyref05_skip.j2 (k + 1) y0 y1 y2)) ∧ (∀ y0 y1 y2, LeO (spinneyref05_skip.l2 k y0 y1 y2) (spinneyref05_skip.l2 (k + 1) y0 y1 y2))
  | 0 => ⟨fun _ _ r h => by simp [spinneyref05_skip.l0] at h, fun _ _ r h => by simp [spinneyref05_skip.l1] at h, fun _ _ _ r h => by simp [spinneyref05_skip.j2] at h, fun _ _ _ r h => by simp [spinneyref05_skip.l2] at h⟩
  | k + 1 => by
    obtain ⟨ih0, ih1, ih2, ih3⟩ := spinneyref05_skip.mono_l k
    refine ⟨?_, ?_, ?_, ?_⟩
    · intro y0 y1
      unfold spinneyref05_skip.l0
      repeat' first
      | (with_reducible exact ih0 _ _)
      | (with_reducible exact ih1 _ _)
      | (with_reducible exact ih2 _ _ _)
      | (with_reducible exact ih3 _ _ _)
      | (with_reducible exact spinneyref05_class.mono _ _ _)
      | (with_reducible exact LeO.refl _)
      | (with_reducible exact LeO.none _)
      | (with_reducible refine LeO.ite ?_ ?_)
      | (with_reducible refine LeO.bind ?_ (fun _ => ?_))
      | exact ih0 _ _
      | exact ih1 _ _
      | exact ih2 _ _ _
      | exact ih3 _ _ _
      | exact spinneyref05_class.mono _ _ _
      | exact LeO.none _
      | refine LeO.ite ?_ ?_
      | refine LeO.bind ?_ (fun _ => ?_)
    · intro y0 y1
      unfold spinneyref05_skip.l1
      repeat' first
      | (with_reducible exact ih0 _ _)
      | (with_reducible exact ih1 _ _)
      | (with_reducible exact ih2 _ _ _)
      | (with_reducible exact ih3 _ _ _)
      | (with_reducible exact spinneyref05_class.mono _ _ _)
      | (with_reducible exact LeO.refl _)
      | (with_reducible exact LeO.none _)
      | (with_reducible refine LeO.ite ?_ ?_)
      | (with_reducible refine LeO.bind ?_ (fun _ => ?_))
      | exact ih0 _ _
      | exact ih1 _ _
      | exact ih2 _ _ _
      | exact ih3 _ _ _
      | exact spinneyref05_class.mono _ _ _
      | exact LeO.none _
      | refine LeO.ite ?_ ?_
      | refine LeO.bind ?_ (fun _ => ?_)
    · intro y0 y1 y2
      unfold spinneyref05_skip.j2
      repeat' first
      | (with_reducible exact ih0 _ _)
      | (with_reducible exact ih1 _ _)
      | (with_reducible exact ih2 _ _ _)
      | (with_reducible exact ih3 _ _ _)
      | (with_reducible exact spinneyref05_class.mono _ _ _)
      | (with_reducible exact LeO.refl _)
      | (with_reducible exact LeO.none _)
      | (with_reducible refine LeO.ite ?_ ?_)
      | (with_reducible refine LeO.bind ?_ (fun _ => ?_))
      | exact ih0 _ _
      | exact ih1 _ _
      | exact ih2 _ _ _
      | exact ih3 _ _ _
      | exact spinneyref05_class.mono _ _ _
      | exact LeO.none _
      | refine LeO.ite ?_ ?_
      | refine LeO.bind ?_ (fun _ => ?_)
    · intro y0 y1 y2
      unfold spinneyref05_skip.l2
      repeat' first
      | (with_reducible exact ih0 _ _)
      | (with_reducible exact ih1 _ _)
      | (with_reducible exact ih2 _ _ _)
      | (with_reducible exact ih3 _ _ _)
      | (with_reducible exact spinneyref05_class.mono _ _ _)
      | (with_reducible exact LeO.refl _)
      | (with_reducible exact LeO.none _)
      | (with_reducible refine LeO.ite ?_ ?_)
      | (with_reducible refine LeO.bind ?_ (fun _ => ?_))
      | exact ih0 _ _
      | exact ih1 _ _
      | exact ih2 _ _ _
      | exact ih3 _ _ _
      | exact spinneyref05_class.mono _ _ _
      | exact LeO.none _
      | refine LeO.ite ?_ ?_
      | refine LeO.bind ?_ (fun _ => ?_)
theorem spinneyref05_skip.mono : ∀ a0 a1 k, LeO (spinneyref05_skip.f k a0 a1) (spinneyref05_skip.f (k + 1) a0 a1) := by
  intro a0 a1 k
  obtain ⟨ih0, ih1, ih2, ih3⟩ := spinneyref05_skip.mono_l k
  unfold spinneyref05_skip.f
  repeat' first
      | (with_reducible exact ih0 _ _)
      | (with_reducible exact ih1 _ _)
      | (with_reducible exact ih2 _ _ _)
      | (with_reducible exact ih3 _ _ _)
      | (with_reducible exact spinneyref05_class.mono _ _ _)
      | (with_reducible exact LeO.refl _)
      | (with_reducible exact LeO.none _)
      | (with_reducible refine LeO.ite ?_ ?_)
      | (with_reducible refine LeO.bind ?_ (fun _ => ?_))
      | exact ih0 _ _
      | exact ih1 _ _
      | exact ih2 _ _ _
      | exact ih3 _ _ _
      | exact spinneyref05_class.mono _ _ _
      | exact LeO.none _
      | refine LeO.ite ?_ ?_
      | refine LeO.bind ?_ (fun _ => ?_)
set_option maxHeartbeats 8000000 in
set_option maxRecDepth 100000 in
theorem spinneyref05_skip.calls (k : Nat) (a0 : ByteArray) (a1 : Int) (r1 : Int) (r2 : Bool) (w : World) (h : spinneyref05_skip.f k a0 a1 = some (r1, r2)) :
    Calls Tryd.prog 17 #[.string a0, .int .i64 a1] w fun e w' => e = .returned (.tuple #[.int .i64 r1, .bool r2]) ∧ Drawn0 w w' := by
  have H : (spinneyref05_skip.l0 k a0 a1) = some (r1, r2) := h
  clear h
  have H' := Aside0.mk H
  clear H
  go_enter Tryd.func17, Tryd.ntmps17
  go_wp2
  go_loopg [1] k (fun kq v1 w' => ∃ (x1_1 : Int), v1 = .int .i64 x1_1 ∧ Aside0 (spinneyref05_skip.l0 kq a0 x1_1 = some (r1, r2)) ∧ Aside0 (kq ≤ k) ∧ Drawn0 w w')
  case atStart => exact ⟨(a1), (by first | rfl | (simp; done) | (simp [*]; done)), H', ⟨Nat.le_refl _⟩, by repeat (first | exact Drawn0.refl _ | apply Drawn0.step)⟩
  case round =>
    clear H'
    try clear c1
    try clear p2
    obtain ⟨x1_1, rfl, HA, HK1, ⟨m1, rfl⟩⟩ := hrel
    cases gk with
    | zero => exact absurd HA.out (by simp [spinneyref05_skip.l0])
    | succ k1 =>
      have H := HA.out
      clear HA
      simp only [spinneyref05_skip.l0] at H
      by_cases c3 : x1_1 < (a0.size : Int)
      · rw [if_pos c3] at H
        have c3b0 : decide (x1_1 < (a0.size : Int)) = true := decide_eq_true c3
        clear c3
        replace H := Option.bind_eq_some_iff.mp H
        obtain ⟨t133, A40, H⟩ := H
        replace H : (if t133 = 5 then (spinneyref05_skip.l0 k1 a0 (wrap64 (x1_1 + 1))) else (if 0 ≤ x1_1 then (if (bt a0 x1_1) = 37 then (spinneyref05_skip.l1 k1 a0 x1_1) else (if (bt a0 x1_1) = 47 then (if (wrap64 (x1_1 + 1)) < (a0.size : Int) then (if 0 ≤ (wrap64 (x1_1 + 1)) then (spinneyref05_skip.j2 k1 a0 x1_1 ((bt a0 (wrap64 (x1_1 + 1))) == 42)) else (none)) else (spinneyref05_skip.j2 k1 a0 x1_1 false)) else (spinneyref05_skip.j2 k1 a0 x1_1 false))) else (none))) = some (r1, r2) := H
        have A4 := Aside0.mk A40
        clear A40
        by_cases c5 : t133 = 5
        · rw [if_pos c5] at H
          have c5b0 : (t133 == 5) = true := beq_iff_eq.mpr c5
          have c5b1 : (t133 != 5) = false := bne_eq_false_iff_eq.mpr c5
          clear c5
          have H' := Aside0.mk H
          clear H
          go_wp2_with (first | ((with_reducible refine gate_callee (f := 37) rfl ?_); refine goesL_ (some 15) rfl rfl Tryd.func37 (by kernel_rfl) rfl #[.string a0, .int .i64 x1_1] rfl (by (try simp only [List.map_toArray, List.map_cons, List.map_nil]); first | done | rfl | (simp only [List.length_drop, List.length_take]; rfl)) ?_; (with_reducible refine (spinneyref05_class.calls k1 a0 x1_1 t133 _ A4.out).mono ?_); rintro e w' ⟨rfl, ⟨nd, rfl⟩⟩; refine ⟨_, rfl, ?_⟩))
          go_roundg k1
          case measure => have := HK1.out; omega
          case rel => exact ⟨(wrap64 (x1_1 + 1)), (by first | rfl | (simp; done) | (simp [*]; done)), H', ⟨by have := HK1.out; omega⟩, by repeat (first | exact Drawn0.refl _ | apply Drawn0.step)⟩
        · rw [if_neg c5] at H
          have c5b0 : (t133 == 5) = false := beq_eq_false_iff_ne.mpr c5
          have c5b1 : (t133 != 5) = true := bne_iff_ne.mpr c5
          by_cases c6 : 0 ≤ x1_1
          · rw [if_pos c6] at H
            have c6b0 : decide (0 ≤ x1_1) = true := decide_eq_true c6
            clear c6
            by_cases c8 : (bt a0 x1_1) = 37
            · rw [if_pos c8] at H
              have c8b0 : ((bt a0 x1_1) == 37) = true := beq_iff_eq.mpr c8
              have c8b1 : ((bt a0 x1_1) != 37) = false := bne_eq_false_iff_eq.mpr c8
              clear c8
              have H' := Aside0.mk H
              clear H
              go_wp2_with (first | ((with_reducible refine gate_callee (f := 37) rfl ?_); refine goesL_ (some 15) rfl rfl Tryd.func37 (by kernel_rfl) rfl #[.string a0, .int .i64 x1_1] rfl (by (try simp only [List.map_toArray, List.map_cons, List.map_nil]); first | done | rfl | (simp only [List.length_drop, List.length_take]; rfl)) ?_; (with_reducible refine (spinneyref05_class.calls k1 a0 x1_1 t133 _ A4.out).mono ?_); rintro e w' ⟨rfl, ⟨nd, rfl⟩⟩; refine ⟨_, rfl, ?_⟩; have p7 : 0 ≤ (x1_1 : Int) := of_decide_eq_true (by first | (with_reducible assumption) | assumption); have q7 : x1_1 < (a0.size : Int) := of_decide_eq_true (by first | (with_reducible assumption) | assumption); have hx7 := bt_at a0 x1_1; replace p7 := eq_true p7; replace q7 := eq_true q7))
              go_loopg [1] k1 (fun kq v1 w' => ∃ (x1_2 : Int), v1 = .int .i64 x1_2 ∧ Aside0 (spinneyref05_skip.l1 kq a0 x1_2 = some (r1, r2)) ∧ Aside0 (kq ≤ k1) ∧ Drawn0 w w')
              case atStart => exact ⟨(x1_1), (by first | rfl | (simp; done) | (simp [*]; done)), H', ⟨Nat.le_refl _⟩, by repeat (first | exact Drawn0.refl _ | apply Drawn0.step)⟩
              case round =>
                clear H'
                try clear c1
                try clear p2
                try clear c3
                try clear c3b0
                try clear c5
                try clear c5b0
                try clear c5b1
                try clear c6
                try clear c6b0
                try clear p6
                try clear p7
                try clear q7
                try clear hx7
                try clear c8
                try clear c8b0
                try clear c8b1
                try clear p2
                try clear p7
                try clear q7
                obtain ⟨x1_2, rfl, HA, HK2, ⟨m2, rfl⟩⟩ := hrel
                cases gk with
                | zero => exact absurd HA.out (by simp [spinneyref05_skip.l1])
                | succ k2 =>
                  have H := HA.out
                  clear HA
                  simp only [spinneyref05_skip.l1] at H
                  by_cases c9 : x1_2 < (a0.size : Int)
                  · rw [if_pos c9] at H
                    have c9b0 : decide (x1_2 < (a0.size : Int)) = true := decide_eq_true c9
                    clear c9
                    by_cases c10 : 0 ≤ x1_2
                    · rw [if_pos c10] at H
                      have c10b0 : decide (0 ≤ x1_2) = true := decide_eq_true c10
                      clear c10
                      by_cases c12 : (bt a0 x1_2) = 10
                      · rw [if_pos c12] at H
                        have c12b0 : ((bt a0 x1_2) == 10) = true := beq_iff_eq.mpr c12
                        have c12b1 : ((bt a0 x1_2) != 10) = false := bne_eq_false_iff_eq.mpr c12
                        clear c12
                        have H' := Aside0.mk H
                        clear H
                        have p11 : 0 ≤ (x1_2 : Int) := of_decide_eq_true (by first | (with_reducible assumption) | assumption)
                        have q11 : x1_2 < (a0.size : Int) := of_decide_eq_true (by first | (with_reducible assumption) | assumption)
                        have hx11 := bt_at a0 x1_2
                        replace p11 := eq_true p11
                        replace q11 := eq_true q11
                        go_wp2
                        go_roundg k2
                        case measure => have := HK1.out; have := HK2.out; omega
                        case rel => exact ⟨(x1_2), (by first | rfl | (simp; done) | (simp [*]; done)), H', ⟨by have := HK1.out; have := HK2.out; omega⟩, by repeat (first | exact Drawn0.refl _ | apply Drawn0.step)⟩
                      · rw [if_neg c12] at H
                        have c12b0 : ((bt a0 x1_2) == 10) = false := beq_eq_false_iff_ne.mpr c12
                        have c12b1 : ((bt a0 x1_2) != 10) = true := bne_iff_ne.mpr c12
                        have H' := Aside0.mk H
                        clear H
                        have p11 : 0 ≤ (x1_2 : Int) := of_decide_eq_true (by first | (with_reducible assumption) | assumption)
                        have q11 : x1_2 < (a0.size : Int) := of_decide_eq_true (by first | (with_reducible assumption) | assumption)
                        have hx11 := bt_at a0 x1_2
                        replace p11 := eq_true p11
                        replace q11 := eq_true q11
                        go_wp2
                        go_roundg k2
                        case measure => have := HK1.out; have := HK2.out; omega
                        case rel => exact ⟨(wrap64 (x1_2 + 1)), (by first | rfl | (simp; done) | (simp [*]; done)), H', ⟨by have := HK1.out; have := HK2.out; omega⟩, by repeat (first | exact Drawn0.refl _ | apply Drawn0.step)⟩
                    · rw [if_neg c10] at H
                      exact absurd H (by simp)
                  · rw [if_neg c9] at H
                    have c9b0 : decide (x1_2 < (a0.size : Int)) = false := decide_eq_false c9
                    clear c9
                    have H' := Aside0.mk H
                    clear H
                    go_wp2
                    go_roundg k2
                    case measure => have := HK1.out; have := HK2.out; omega
                    case rel => exact ⟨(x1_2), (by first | rfl | (simp; done) | (simp [*]; done)), H', ⟨by have := HK1.out; have := HK2.out; omega⟩, by repeat (first | exact Drawn0.refl _ | apply Drawn0.step)⟩
            · rw [if_neg c8] at H
              have c8b0 : ((bt a0 x1_1) == 37) = false := beq_eq_false_iff_ne.mpr c8
              have c8b1 : ((bt a0 x1_1) != 37) = true := bne_iff_ne.mpr c8
              have HC13 := Aside0.mk H
              clear H
              go_upto_region 8 with (first | ((with_reducible refine gate_callee (f := 37) rfl ?_); refine goesL_ (some 15) rfl rfl Tryd.func37 (by kernel_rfl) rfl #[.string a0, .int .i64 x1_1] rfl (by (try simp only [List.map_toArray, List.map_cons, List.map_nil]); first | done | rfl | (simp only [List.length_drop, List.length_take]; rfl)) ?_; (with_reducible refine (spinneyref05_class.calls k1 a0 x1_1 t133 _ A4.out).mono ?_); rintro e w' ⟨rfl, ⟨nd, rfl⟩⟩; refine ⟨_, rfl, ?_⟩; have p7 : 0 ≤ (x1_1 : Int) := of_decide_eq_true (by first | (with_reducible assumption) | assumption); have q7 : x1_1 < (a0.size : Int) := of_decide_eq_true (by first | (with_reducible assumption) | assumption); have hx7 := bt_at a0 x1_1; replace p7 := eq_true p7; replace q7 := eq_true q7))
              (try simp only [Act.put, List.setIfInBounds_toArray, List.set_cons_zero, List.set_cons_succ])
              go_cut [36] (fun v36 wc => ∃ (kq : Nat) (x36_12 : Bool), v36 = .bool x36_12 ∧ Aside0 (spinneyref05_skip.j2 kq a0 x1_1 x36_12 = some (r1, r2)) ∧ Aside0 (kq ≤ k1) ∧ Drawn0 w wc)
              case first =>
                have H := HC13.out
                clear HC13
                by_cases c15 : (bt a0 x1_1) = 47
                · rw [if_pos c15] at H
                  have c15b0 : ((bt a0 x1_1) == 47) = true := beq_iff_eq.mpr c15
                  have c15b1 : ((bt a0 x1_1) != 47) = false := bne_eq_false_iff_eq.mpr c15
                  clear c15
                  (first | rw [c15b0] | (simp only [i64_w, i32_w]; rw [c15b0]) | skip)
                  by_cases c16 : (wrap64 (x1_1 + 1)) < (a0.size : Int)
                  · rw [if_pos c16] at H
                    have c16b0 : decide ((wrap64 (x1_1 + 1)) < (a0.size : Int)) = true := decide_eq_true c16
                    clear c16
                    obtain ⟨ji17, hji17⟩ : ∃ j_ : Int, (wrap64 (x1_1 + 1)) = j_ := ⟨_, rfl⟩
                    replace H : (if 0 ≤ (ji17) then (spinneyref05_skip.j2 k1 a0 x1_1 ((bt a0 (ji17)) == 42)) else (none)) = some (r1, r2) := by first | (rw [hji17] at H; exact H) | (simp only [hji17] at H ⊢; exact H)
                    (try rw [hji17] at c16b0)
                    have hji17w : (IntKind.i64.wrap (x1_1 + 1)) = ji17 := (i64_w _).trans hji17
                    by_cases c18 : 0 ≤ (ji17)
                    · rw [if_pos c18] at H
                      have c18b0 : decide (0 ≤ (ji17)) = true := decide_eq_true c18
                      clear c18
                      have H' := Aside0.mk H
                      clear H
                      have p14 : 0 ≤ (x1_1 : Int) := of_decide_eq_true (by first | (with_reducible assumption) | assumption)
                      have q14 : x1_1 < (a0.size : Int) := of_decide_eq_true (by first | (with_reducible assumption) | assumption)
                      have hx14 := bt_at a0 x1_1
                      replace p14 := eq_true p14
                      replace q14 := eq_true q14
                      have p19 : 0 ≤ ((ji17) : Int) := of_decide_eq_true (by first | (with_reducible assumption) | assumption)
                      have q19 : (ji17) < (a0.size : Int) := of_decide_eq_true (by first | (with_reducible assumption) | assumption)
                      have hx19 := bt_at a0 (ji17)
                      replace p19 := eq_true p19
                      replace q19 := eq_true q19
                      go_wp2
                      go_meet
                      case rel => exact ⟨_, (((bt a0 (ji17)) == 42)), (by first | rfl | (simp; done) | (simp only [← hji17] <;> (first | rfl | simp)) | (simp [*]; done)), H', ⟨by have := HK1.out; first | omega | exact Nat.le_refl _⟩, by repeat (first | exact Drawn0.refl _ | apply Drawn0.step)⟩
                    · rw [if_neg c18] at H
                      exact absurd H (by simp)
                  · rw [if_neg c16] at H
                    have c16b0 : decide ((wrap64 (x1_1 + 1)) < (a0.size : Int)) = false := decide_eq_false c16
                    clear c16
                    have H' := Aside0.mk H
                    clear H
                    have p14 : 0 ≤ (x1_1 : Int) := of_decide_eq_true (by first | (with_reducible assumption) | assumption)
                    have q14 : x1_1 < (a0.size : Int) := of_decide_eq_true (by first | (with_reducible assumption) | assumption)
                    have hx14 := bt_at a0 x1_1
                    replace p14 := eq_true p14
                    replace q14 := eq_true q14
                    go_wp2
                    go_meet
                    case rel => exact ⟨_, (false), (by first | rfl | (simp; done) | (simp [*]; done)), H', ⟨by have := HK1.out; first | omega | exact Nat.le_refl _⟩, by repeat (first | exact Drawn0.refl _ | apply Drawn0.step)⟩
                · rw [if_neg c15] at H
                  have c15b0 : ((bt a0 x1_1) == 47) = false := beq_eq_false_iff_ne.mpr c15
                  have c15b1 : ((bt a0 x1_1) != 47) = true := bne_iff_ne.mpr c15
                  (first | rw [c15b0] | (simp only [i64_w, i32_w]; rw [c15b0]) | skip)
                  have H' := Aside0.mk H
                  clear H
                  have p14 : 0 ≤ (x1_1 : Int) := of_decide_eq_true (by first | (with_reducible assumption) | assumption)
                  have q14 : x1_1 < (a0.size : Int) := of_decide_eq_true (by first | (with_reducible assumption) | assumption)
                  have hx14 := bt_at a0 x1_1
                  replace p14 := eq_true p14
                  replace q14 := eq_true q14
                  go_wp2
                  go_meet
                  case rel => exact ⟨_, (false), (by first | rfl | (simp; done) | (simp [*]; done)), H', ⟨by have := HK1.out; first | omega | exact Nat.le_refl _⟩, by repeat (first | exact Drawn0.refl _ | apply Drawn0.step)⟩
              case rest =>
                clear HC13
                try clear c1
                try clear p1
                try clear q1
                try clear hx1
                try clear p2
                try clear c3
                try clear c3b0
                try clear c5
                try clear c5b0
                try clear c5b1
                try clear c6
                try clear c6b0
                try clear p6
                try clear p7
                try clear q7
                try clear hx7
                try clear c8
                try clear c8b0
                try clear c8b1
                try clear c9
                try clear c9b0
                try clear c10
                try clear c10b0
                try clear p11
                try clear q11
                try clear hx11
                try clear c12
                try clear c12b0
                try clear c12b1
                try clear p14
                try clear q14
                try clear hx14
                try clear c15
                try clear c15b0
                try clear c15b1
                try clear c16
                try clear c16b0
                try clear c17
                try clear c18
                try clear c18b0
                try clear p19
                try clear q19
                try clear hx19
                try clear p11
                try clear p14
                try clear p19
                try clear p2
                try clear p6
                try clear p7
                try clear q11
                try clear q14
                try clear q19
                try clear q7
                obtain ⟨kq, x36_12, rfl, HA, HJ12, ⟨mc12, rfl⟩⟩ := hcut
                cases kq with
                | zero => exact absurd HA.out (by simp [spinneyref05_skip.j2])
                | succ kj12 =>
                  have H := HA.out
                  clear HA
                  simp only [spinneyref05_skip.j2] at H
                  by_cases c20 : x36_12 = true
                  · subst c20
                    have H1 : (spinneyref05_skip.l2 kj12 a0 x1_1 (wrap64 (x1_1 + 2))) = some (r1, r2) := by rw [if_pos rfl] at H; exact H
                    clear H
                    have H := H1
                    clear H1
                    have H' := Aside0.mk H
                    clear H
                    go_wp2
                    go_loopg [6] kj12 (fun kq v6 w' => ∃ (x6_3 : Int), v6 = .int .i64 x6_3 ∧ Aside0 (spinneyref05_skip.l2 kq a0 x1_1 x6_3 = some (r1, r2)) ∧ Aside0 (kq ≤ kj12) ∧ Drawn0 w w')
                    case atStart => exact ⟨(wrap64 (x1_1 + 2)), (by first | rfl | (simp; done) | (simp [*]; done)), H', ⟨Nat.le_refl _⟩, by repeat (first | exact Drawn0.refl _ | apply Drawn0.step)⟩
                    case round =>
                      clear H'
                      try clear c1
                      try clear p1
                      try clear q1
                      try clear hx1
                      try clear c2
                      try clear p2
                      try clear c3
                      try clear c3b0
                      try clear c5
                      try clear c5b0
                      try clear c5b1
                      try clear c6
                      try clear c6b0
                      try clear p6
                      try clear p7
                      try clear q7
                      try clear hx7
                      try clear c8
                      try clear c8b0
                      try clear c8b1
                      try clear c9
                      try clear c9b0
                      try clear c10
                      try clear c10b0
                      try clear p11
                      try clear q11
                      try clear hx11
                      try clear c12
                      try clear c12b0
                      try clear c12b1
                      try clear p14
                      try clear q14
                      try clear hx14
                      try clear c15
                      try clear c15b0
                      try clear c15b1
                      try clear c16
                      try clear c16b0
                      try clear c17
                      try clear c18
                      try clear c18b0
                      try clear p19
                      try clear q19
                      try clear hx19
                      try clear c20
                      try clear p1
                      try clear p11
                      try clear p14
                      try clear p19
                      try clear p2
                      try clear p6
                      try clear p7
                      try clear q1
                      try clear q11
                      try clear q14
                      try clear q19
                      try clear q7
                      obtain ⟨x6_3, rfl, HA, HK3, ⟨m3, rfl⟩⟩ := hrel
                      cases gk with
                      | zero => exact absurd HA.out (by simp [spinneyref05_skip.l2])
                      | succ k3 =>
                        have H := HA.out
                        clear HA
                        simp only [spinneyref05_skip.l2] at H
                        by_cases c21 : (wrap64 (x6_3 + 1)) < (a0.size : Int)
                        · rw [if_pos c21] at H
                          have c21b0 : decide ((wrap64 (x6_3 + 1)) < (a0.size : Int)) = true := decide_eq_true c21
                          clear c21
                          by_cases c22 : 0 ≤ x6_3
                          · rw [if_pos c22] at H
                            have c22b0 : decide (0 ≤ x6_3) = true := decide_eq_true c22
                            clear c22
                            by_cases c23 : x6_3 < (a0.size : Int)
                            · rw [if_pos c23] at H
                              have c23b0 : decide (x6_3 < (a0.size : Int)) = true := decide_eq_true c23
                              clear c23
                              by_cases c25 : (bt a0 x6_3) = 42
                              · rw [if_pos c25] at H
                                have c25b0 : ((bt a0 x6_3) == 42) = true := beq_iff_eq.mpr c25
                                have c25b1 : ((bt a0 x6_3) != 42) = false := bne_eq_false_iff_eq.mpr c25
                                clear c25
                                obtain ⟨ji26, hji26⟩ : ∃ j_ : Int, (wrap64 (x6_3 + 1)) = j_ := ⟨_, rfl⟩
                                replace H : (if 0 ≤ (ji26) then (if ((bt a0 (ji26)) = 47) then (if (ji26) ≥ (a0.size : Int) then (some (x1_1, false)) else (spinneyref05_skip.l0 k3 a0 (wrap64 (x6_3 + 2)))) else (spinneyref05_skip.l2 k3 a0 x1_1 ji26)) else (none)) = some (r1, r2) := by first | (rw [hji26] at H; exact H) | (simp only [hji26] at H ⊢; exact H)
                                (try rw [hji26] at c21b0)
                                have hji26w : (IntKind.i64.wrap (x6_3 + 1)) = ji26 := (i64_w _).trans hji26
                                by_cases c27 : 0 ≤ (ji26)
                                · rw [if_pos c27] at H
                                  have c27b0 : decide (0 ≤ (ji26)) = true := decide_eq_true c27
                                  clear c27
                                  by_cases c29 : ((bt a0 (ji26)) = 47)
                                  · rw [if_pos c29] at H
                                    have c29b0 : ((bt a0 (ji26)) == 47) = true := beq_iff_eq.mpr c29
                                    have c29b1 : ((bt a0 (ji26)) != 47) = false := bne_eq_false_iff_eq.mpr c29
                                    clear c29
                                    by_cases c30 : (ji26) ≥ (a0.size : Int)
                                    · rw [if_pos c30] at H
                                      have c30b0 : decide ((a0.size : Int) ≤ (ji26)) = true := decide_eq_true c30
                                      clear c30
                                      simp only [Option.some.injEq, Prod.mk.injEq] at H
                                      obtain ⟨rfl, rfl⟩ := H
                                      have p24 : 0 ≤ (x6_3 : Int) := of_decide_eq_true (by first | (with_reducible assumption) | assumption)
                                      have q24 : x6_3 < (a0.size : Int) := of_decide_eq_true (by first | (with_reducible assumption) | assumption)
                                      have hx24 := bt_at a0 x6_3
                                      replace p24 := eq_true p24
                                      replace q24 := eq_true q24
                                      have p28 : 0 ≤ ((ji26) : Int) := of_decide_eq_true (by first | (with_reducible assumption) | assumption)
                                      have q28 : (ji26) < (a0.size : Int) := of_decide_eq_true (by first | (with_reducible assumption) | assumption)
                                      have hx28 := bt_at a0 (ji26)
                                      replace p28 := eq_true p28
                                      replace q28 := eq_true q28
                                      go_wp2
                                      go_ret2
                                      exact ⟨by first | rfl | (simp; done) | (simp only [← hji26] <;> (first | rfl | simp)) | (simp [*]; done), by repeat (first | exact Drawn0.refl _ | apply Drawn0.step)⟩
                                    · rw [if_neg c30] at H
                                      have c30b0 : decide ((a0.size : Int) ≤ (ji26)) = false := decide_eq_false c30
                                      clear c30
                                      have H' := Aside0.mk H
                                      clear H
                                      have p24 : 0 ≤ (x6_3 : Int) := of_decide_eq_true (by first | (with_reducible assumption) | assumption)
                                      have q24 : x6_3 < (a0.size : Int) := of_decide_eq_true (by first | (with_reducible assumption) | assumption)
                                      have hx24 := bt_at a0 x6_3
                                      replace p24 := eq_true p24
                                      replace q24 := eq_true q24
                                      have p28 : 0 ≤ ((ji26) : Int) := of_decide_eq_true (by first | (with_reducible assumption) | assumption)
                                      have q28 : (ji26) < (a0.size : Int) := of_decide_eq_true (by first | (with_reducible assumption) | assumption)
                                      have hx28 := bt_at a0 (ji26)
                                      replace p28 := eq_true p28
                                      replace q28 := eq_true q28
                                      go_wp2
                                      go_roundg k3
                                      case measure => have := HK1.out; have := HJ12.out; have := HK3.out; omega
                                      case rel => exact ⟨(wrap64 (x6_3 + 2)), (by first | rfl | (simp; done) | (simp [*]; done)), H', ⟨by have := HK1.out; have := HJ12.out; have := HK3.out; omega⟩, by repeat (first | exact Drawn0.refl _ | apply Drawn0.step)⟩
                                  · rw [if_neg c29] at H
                                    have c29b0 : ((bt a0 (ji26)) == 47) = false := beq_eq_false_iff_ne.mpr c29
                                    have c29b1 : ((bt a0 (ji26)) != 47) = true := bne_iff_ne.mpr c29
                                    have H' := Aside0.mk H
                                    clear H
                                    have p24 : 0 ≤ (x6_3 : Int) := of_decide_eq_true (by first | (with_reducible assumption) | assumption)
                                    have q24 : x6_3 < (a0.size : Int) := of_decide_eq_true (by first | (with_reducible assumption) | assumption)
                                    have hx24 := bt_at a0 x6_3
                                    replace p24 := eq_true p24
                                    replace q24 := eq_true q24
                                    have p28 : 0 ≤ ((ji26) : Int) := of_decide_eq_true (by first | (with_reducible assumption) | assumption)
                                    have q28 : (ji26) < (a0.size : Int) := of_decide_eq_true (by first | (with_reducible assumption) | assumption)
                                    have hx28 := bt_at a0 (ji26)
                                    replace p28 := eq_true p28
                                    replace q28 := eq_true q28
                                    go_wp2
                                    go_roundg k3
                                    case measure => have := HK1.out; have := HJ12.out; have := HK3.out; omega
                                    case rel => exact ⟨(ji26), (by first | rfl | (simp; done) | (simp only [← hji26] <;> (first | rfl | simp)) | (simp [*]; done)), H', ⟨by have := HK1.out; have := HJ12.out; have := HK3.out; omega⟩, by repeat (first | exact Drawn0.refl _ | apply Drawn0.step)⟩
                                · rw [if_neg c27] at H
                                  exact absurd H (by simp)
                              · rw [if_neg c25] at H
                                have c25b0 : ((bt a0 x6_3) == 42) = false := beq_eq_false_iff_ne.mpr c25
                                have c25b1 : ((bt a0 x6_3) != 42) = true := bne_iff_ne.mpr c25
                                have H' := Aside0.mk H
                                clear H
                                have p24 : 0 ≤ (x6_3 : Int) := of_decide_eq_true (by first | (with_reducible assumption) | assumption)
                                have q24 : x6_3 < (a0.size : Int) := of_decide_eq_true (by first | (with_reducible assumption) | assumption)
                                have hx24 := bt_at a0 x6_3
                                replace p24 := eq_true p24
                                replace q24 := eq_true q24
                                go_wp2
                                go_roundg k3
                                case measure => have := HK1.out; have := HJ12.out; have := HK3.out; omega
                                case rel => exact ⟨(wrap64 (x6_3 + 1)), (by first | rfl | (simp; done) | (simp [*]; done)), H', ⟨by have := HK1.out; have := HJ12.out; have := HK3.out; omega⟩, by repeat (first | exact Drawn0.refl _ | apply Drawn0.step)⟩
                            · rw [if_neg c23] at H
                              exact absurd H (by simp)
                          · rw [if_neg c22] at H
                            exact absurd H (by simp)
                        · rw [if_neg c21] at H
                          have c21b0 : decide ((wrap64 (x6_3 + 1)) < (a0.size : Int)) = false := decide_eq_false c21
                          clear c21
                          by_cases c31 : (wrap64 (x6_3 + 1)) ≥ (a0.size : Int)
                          · rw [if_pos c31] at H
                            have c31b0 : decide ((a0.size : Int) ≤ (wrap64 (x6_3 + 1))) = true := decide_eq_true c31
                            clear c31
                            simp only [Option.some.injEq, Prod.mk.injEq] at H
                            obtain ⟨rfl, rfl⟩ := H
                            go_wp2
                            go_ret2
                            exact ⟨by first | rfl | (simp; done) | (simp [*]; done), by repeat (first | exact Drawn0.refl _ | apply Drawn0.step)⟩
                          · rw [if_neg c31] at H
                            have c31b0 : decide ((a0.size : Int) ≤ (wrap64 (x6_3 + 1))) = false := decide_eq_false c31
                            clear c31
                            have H' := Aside0.mk H
                            clear H
                            go_wp2
                            go_roundg k3
                            case measure => have := HK1.out; have := HJ12.out; have := HK3.out; omega
                            case rel => exact ⟨(wrap64 (x6_3 + 2)), (by first | rfl | (simp; done) | (simp [*]; done)), H', ⟨by have := HK1.out; have := HJ12.out; have := HK3.out; omega⟩, by repeat (first | exact Drawn0.refl _ | apply Drawn0.step)⟩
                  · replace c20 := Bool.eq_false_iff.mpr c20
                    subst c20
                    have H1 : (some (x1_1, true)) = some (r1, r2) := by rw [if_neg (show ¬ (false = true) by decide)] at H; exact H
                    clear H
                    have H := H1
                    clear H1
                    simp only [Option.some.injEq, Prod.mk.injEq] at H
                    obtain ⟨rfl, rfl⟩ := H
                    go_wp2
                    go_ret2
                    exact ⟨by first | rfl | (simp; done) | (simp [*]; done), by repeat (first | exact Drawn0.refl _ | apply Drawn0.step)⟩
          · rw [if_neg c6] at H
            exact absurd H (by simp)
      · rw [if_neg c3] at H
        have c3b0 : decide (x1_1 < (a0.size : Int)) = false := decide_eq_false c3
        clear c3
        simp only [Option.some.injEq, Prod.mk.injEq] at H
        obtain ⟨rfl, rfl⟩ := H
        go_wp2
        go_ret2
        exact ⟨by first | rfl | (simp; done) | (simp [*]; done), by repeat (first | exact Drawn0.refl _ | apply Drawn0.step)⟩

/-! ### spinneyref05_glues: function 18 -/
def spinneyref05_glues.f (a0_0 : Int) (a0_1 : ByteArray) (a0_2 : Int) (a0_3 : Int) : Option (Bool) := if a0_0 = 1 then (some true) else (if a0_0 = 2 then (some true) else (if a0_0 = 3 then (some true) else (if a0_0 = 6 then (if a0_1.toList = ([93] : List UInt8) then (some true) else (some (a0_1.toList == ([125] : List UInt8)))) else (some false))))
set_option maxHeartbeats 8000000 in
set_option maxRecDepth 100000 in
theorem spinneyref05_glues.calls (a0_0 : Int) (a0_1 : ByteArray) (a0_2 : Int) (a0_3 : Int) (r : Bool) (w : World) (h : spinneyref05_glues.f a0_0 a0_1 a0_2 a0_3 = some r) :
    Calls Tryd.prog 18 #[.agg #[.int .i64 a0_0, .string a0_1, .int .i64 a0_2, .int .i64 a0_3]] w fun e w' => e = .returned (.bool r) ∧ Below w.heap.size w w' := by
  have hu30 := Tryd.underlying30
  have HB := Aside0.mk (Below.refl w.heap.size w)
  have H : (if a0_0 = 1 then (some true) else (if a0_0 = 2 then (some true) else (if a0_0 = 3 then (some true) else (if a0_0 = 6 then (if a0_1.toList = ([93] : List UInt8) then (some true) else (some (a0_1.toList == ([125] : List UInt8)))) else (some false))))) = some r := h
  clear h
  by_cases c2 : a0_0 = 1
  · rw [if_pos c2] at H
    have c2b0 : (a0_0 == 1) = true := beq_iff_eq.mpr c2
    have c2b1 : (a0_0 != 1) = false := bne_eq_false_iff_eq.mpr c2
    clear c2
    obtain rfl := Option.some.inj H
    go_enter Tryd.func18, Tryd.ntmps18
    go_wp2_with (first | ((with_reducible refine gate_dst (N := 1) rfl ?_); refine box_event ?hg (N := 1) ?hd (cs := #[.int .i64 a0_0, .string a0_1, .int .i64 a0_2, .int .i64 a0_3]) (t := 30) ?hr ?_; (case hd => rfl); (case hg => rfl); (case hr => first | (go_simp; done) | (go_simp; rfl)); intro gb134 hg w3 hbox hb; have n0_ := Aside0.mk (below_step (by repeat (first | (with_reducible first | exact HB.out | apply below_alloc | apply pw_below_drewN | apply below_drew1) | exact HB.out)) hb); have n1_ := Aside0.mk (hbox); have n2_ := Aside0.mk ((by rw [hg]; exact (below_size (by repeat (first | (with_reducible first | exact HB.out | apply below_alloc | apply pw_below_drewN | apply below_drew1) | exact HB.out))) : w.heap.size ≤ gb134)); have n3_ := Aside0.mk ((by rw [hg]; exact (below_size (by repeat (first | (with_reducible first | exact HB.out | apply below_alloc | apply pw_below_drewN | apply below_drew1) | exact HB.out))) : w.heap.size ≤ gb134)); clear HB; have HB := n0_; have BK134 := n1_; have GW134 := n2_; have GE134 := n3_; clear n0_ n1_ n2_ n3_; clear hb hbox hg; have hcz4_0 : w3.cell? ⟨gb134, 0, none⟩ = some (.int .i64 a0_0) := (blk_cell BK134.out 0).trans rfl; have hcz4_1 : w3.cell? ⟨gb134, 1, none⟩ = some (.string a0_1) := (blk_cell BK134.out 1).trans rfl; have hcz4_2 : w3.cell? ⟨gb134, 2, none⟩ = some (.int .i64 a0_2) := (blk_cell BK134.out 2).trans rfl; have hcz4_3 : w3.cell? ⟨gb134, 3, none⟩ = some (.int .i64 a0_3) := (blk_cell BK134.out 3).trans rfl; have hfz4_0 := blk_frozen BK134.out 0; have hfz4_1 := blk_frozen BK134.out 1; have hfz4_2 := blk_frozen BK134.out 2; have hfz4_3 := blk_frozen BK134.out 3))
    go_ret
    exact ⟨by first | rfl | (simp [errW_none, errW_some] <;> rfl) | (simp [*, errW_none, errW_some] <;> rfl), by repeat (first | (with_reducible first | exact HB.out | apply below_alloc | apply pw_below_drewN | apply below_drew1 | refine below_set ?_ GE134.out) | exact HB.out)⟩
  · rw [if_neg c2] at H
    have c2b0 : (a0_0 == 1) = false := beq_eq_false_iff_ne.mpr c2
    have c2b1 : (a0_0 != 1) = true := bne_iff_ne.mpr c2
    by_cases c5 : a0_0 = 2
    · rw [if_pos c5] at H
      have c5b0 : (a0_0 == 2) = true := beq_iff_eq.mpr c5
      have c5b1 : (a0_0 != 2) = false := bne_eq_false_iff_eq.mpr c5
      clear c5
      obtain rfl := Option.some.inj H
      go_enter Tryd.func18, Tryd.ntmps18
      go_wp2_with (first | ((with_reducible refine gate_dst (N := 1) rfl ?_); refine box_event ?hg (N := 1) ?hd (cs := #[.int .i64 a0_0, .string a0_1, .int .i64 a0_2, .int .i64 a0_3]) (t := 30) ?hr ?_; (case hd => rfl); (case hg => rfl); (case hr => first | (go_simp; done) | (go_simp; rfl)); intro gb134 hg w6 hbox hb; have n0_ := Aside0.mk (below_step (by repeat (first | (with_reducible first | exact HB.out | apply below_alloc | apply pw_below_drewN | apply below_drew1) | exact HB.out)) hb); have n1_ := Aside0.mk (hbox); have n2_ := Aside0.mk ((by rw [hg]; exact (below_size (by repeat (first | (with_reducible first | exact HB.out | apply below_alloc | apply pw_below_drewN | apply below_drew1) | exact HB.out))) : w.heap.size ≤ gb134)); have n3_ := Aside0.mk ((by rw [hg]; exact (below_size (by repeat (first | (with_reducible first | exact HB.out | apply below_alloc | apply pw_below_drewN | apply below_drew1) | exact HB.out))) : w.heap.size ≤ gb134)); clear HB; have HB := n0_; have BK134 := n1_; have GW134 := n2_; have GE134 := n3_; clear n0_ n1_ n2_ n3_; clear hb hbox hg; have hcz7_0 : w6.cell? ⟨gb134, 0, none⟩ = some (.int .i64 a0_0) := (blk_cell BK134.out 0).trans rfl; have hcz7_1 : w6.cell? ⟨gb134, 1, none⟩ = some (.string a0_1) := (blk_cell BK134.out 1).trans rfl; have hcz7_2 : w6.cell? ⟨gb134, 2, none⟩ = some (.int .i64 a0_2) := (blk_cell BK134.out 2).trans rfl; have hcz7_3 : w6.cell? ⟨gb134, 3, none⟩ = some (.int .i64 a0_3) := (blk_cell BK134.out 3).trans rfl; have hfz7_0 := blk_frozen BK134.out 0; have hfz7_1 := blk_frozen BK134.out 1; have hfz7_2 := blk_frozen BK134.out 2; have hfz7_3 := blk_frozen BK134.out 3))
      go_ret
      exact ⟨by first | rfl | (simp [errW_none, errW_some] <;> rfl) | (simp [*, errW_none, errW_some] <;> rfl), by repeat (first | (with_reducible first | exact HB.out | apply below_alloc | apply pw_below_drewN | apply below_drew1 | refine below_set ?_ GE134.out) | exact HB.out)⟩
    · rw [if_neg c5] at H
      have c5b0 : (a0_0 == 2) = false := beq_eq_false_iff_ne.mpr c5
      have c5b1 : (a0_0 != 2) = true := bne_iff_ne.mpr c5
      by_cases c8 : a0_0 = 3
      · rw [if_pos c8] at H
        have c8b0 : (a0_0 == 3) = true := beq_iff_eq.mpr c8
        have c8b1 : (a0_0 != 3) = false := bne_eq_false_iff_eq.mpr c8
        clear c8
        obtain rfl := Option.some.inj H
        go_enter Tryd.func18, Tryd.ntmps18
        go_wp2_with (first | ((with_reducible refine gate_dst (N := 1) rfl ?_); refine box_event ?hg (N := 1) ?hd (cs := #[.int .i64 a0_0, .string a0_1, .int .i64 a0_2, .int .i64 a0_3]) (t := 30) ?hr ?_; (case hd => rfl); (case hg => rfl); (case hr => first | (go_simp; done) | (go_simp; rfl)); intro gb134 hg w9 hbox hb; have n0_ := Aside0.mk (below_step (by repeat (first | (with_reducible first | exact HB.out | apply below_alloc | apply pw_below_drewN | apply below_drew1) | exact HB.out)) hb); have n1_ := Aside0.mk (hbox); have n2_ := Aside0.mk ((by rw [hg]; exact (below_size (by repeat (first | (with_reducible first | exact HB.out | apply below_alloc | apply pw_below_drewN | apply below_drew1) | exact HB.out))) : w.heap.size ≤ gb134)); have n3_ := Aside0.mk ((by rw [hg]; exact (below_size (by repeat (first | (with_reducible first | exact HB.out | apply below_alloc | apply pw_below_drewN | apply below_drew1) | exact HB.out))) : w.heap.size ≤ gb134)); clear HB; have HB := n0_; have BK134 := n1_; have GW134 := n2_; have GE134 := n3_; clear n0_ n1_ n2_ n3_; clear hb hbox hg; have hcz10_0 : w9.cell? ⟨gb134, 0, none⟩ = some (.int .i64 a0_0) := (blk_cell BK134.out 0).trans rfl; have hcz10_1 : w9.cell? ⟨gb134, 1, none⟩ = some (.string a0_1) := (blk_cell BK134.out 1).trans rfl; have hcz10_2 : w9.cell? ⟨gb134, 2, none⟩ = some (.int .i64 a0_2) := (blk_cell BK134.out 2).trans rfl; have hcz10_3 : w9.cell? ⟨gb134, 3, none⟩ = some (.int .i64 a0_3) := (blk_cell BK134.out 3).trans rfl; have hfz10_0 := blk_frozen BK134.out 0; have hfz10_1 := blk_frozen BK134.out 1; have hfz10_2 := blk_frozen BK134.out 2; have hfz10_3 := blk_frozen BK134.out 3))
        go_ret
        exact ⟨by first | rfl | (simp [errW_none, errW_some] <;> rfl) | (simp [*, errW_none, errW_some] <;> rfl), by repeat (first | (with_reducible first | exact HB.out | apply below_alloc | apply pw_below_drewN | apply below_drew1 | refine below_set ?_ GE134.out) | exact HB.out)⟩
      · rw [if_neg c8] at H
        have c8b0 : (a0_0 == 3) = false := beq_eq_false_iff_ne.mpr c8
        have c8b1 : (a0_0 != 3) = true := bne_iff_ne.mpr c8
        by_cases c11 : a0_0 = 6
        · rw [if_pos c11] at H
          have c11b0 : (a0_0 == 6) = true := beq_iff_eq.mpr c11
          have c11b1 : (a0_0 != 6) = false := bne_eq_false_iff_eq.mpr c11
          clear c11
          by_cases c12 : a0_1.toList = ([93] : List UInt8)
          · rw [if_pos c12] at H
            have c12b0 : (a0_1.toList == ([93] : List UInt8)) = true := beq_iff_eq.mpr c12
            have c12b1 : (a0_1.toList != ([93] : List UInt8)) = false := bne_eq_false_iff_eq.mpr c12
            clear c12
            obtain rfl := Option.some.inj H
            go_enter Tryd.func18, Tryd.ntmps18
            go_wp2_with (first | ((with_reducible refine gate_dst (N := 1) rfl ?_); refine box_event ?hg (N := 1) ?hd (cs := #[.int .i64 a0_0, .string a0_1, .int .i64 a0_2, .int .i64 a0_3]) (t := 30) ?hr ?_; (case hd => rfl); (case hg => rfl); (case hr => first | (go_simp; done) | (go_simp; rfl)); intro gb134 hg w13 hbox hb; have n0_ := Aside0.mk (below_step (by repeat (first | (with_reducible first | exact HB.out | apply below_alloc | apply pw_below_drewN | apply below_drew1) | exact HB.out)) hb); have n1_ := Aside0.mk (hbox); have n2_ := Aside0.mk ((by rw [hg]; exact (below_size (by repeat (first | (with_reducible first | exact HB.out | apply below_alloc | apply pw_below_drewN | apply below_drew1) | exact HB.out))) : w.heap.size ≤ gb134)); have n3_ := Aside0.mk ((by rw [hg]; exact (below_size (by repeat (first | (with_reducible first | exact HB.out | apply below_alloc | apply pw_below_drewN | apply below_drew1) | exact HB.out))) : w.heap.size ≤ gb134)); clear HB; have HB := n0_; have BK134 := n1_; have GW134 := n2_; have GE134 := n3_; clear n0_ n1_ n2_ n3_; clear hb hbox hg; have hcz14_0 : w13.cell? ⟨gb134, 0, none⟩ = some (.int .i64 a0_0) := (blk_cell BK134.out 0).trans rfl; have hcz14_1 : w13.cell? ⟨gb134, 1, none⟩ = some (.string a0_1) := (blk_cell BK134.out 1).trans rfl; have hcz14_2 : w13.cell? ⟨gb134, 2, none⟩ = some (.int .i64 a0_2) := (blk_cell BK134.out 2).trans rfl; have hcz14_3 : w13.cell? ⟨gb134, 3, none⟩ = some (.int .i64 a0_3) := (blk_cell BK134.out 3).trans rfl; have hfz14_0 := blk_frozen BK134.out 0; have hfz14_1 := blk_frozen BK134.out 1; have hfz14_2 := blk_frozen BK134.out 2; have hfz14_3 := blk_frozen BK134.out 3))
            go_ret
            exact ⟨by first | rfl | (simp [errW_none, errW_some] <;> rfl) | (simp [*, errW_none, errW_some] <;> rfl), by repeat (first | (with_reducible first | exact HB.out | apply below_alloc | apply pw_below_drewN | apply below_drew1 | refine below_set ?_ GE134.out) | exact HB.out)⟩
          · rw [if_neg c12] at H
            have c12b0 : (a0_1.toList == ([93] : List UInt8)) = false := beq_eq_false_iff_ne.mpr c12
            have c12b1 : (a0_1.toList != ([93] : List UInt8)) = true := bne_iff_ne.mpr c12
            obtain rfl := Option.some.inj H
            go_enter Tryd.func18, Tryd.ntmps18
            go_wp2_with (first | ((with_reducible refine gate_dst (N := 1) rfl ?_); refine box_event ?hg (N := 1) ?hd (cs := #[.int .i64 a0_0, .string a0_1, .int .i64 a0_2, .int .i64 a0_3]) (t := 30) ?hr ?_; (case hd => rfl); (case hg => rfl); (case hr => first | (go_simp; done) | (go_simp; rfl)); intro gb134 hg w15 hbox hb; have n0_ := Aside0.mk (below_step (by repeat (first | (with_reducible first | exact HB.out | apply below_alloc | apply pw_below_drewN | apply below_drew1) | exact HB.out)) hb); have n1_ := Aside0.mk (hbox); have n2_ := Aside0.mk ((by rw [hg]; exact (below_size (by repeat (first | (with_reducible first | exact HB.out | apply below_alloc | apply pw_below_drewN | apply below_drew1) | exact HB.out))) : w.heap.size ≤ gb134)); have n3_ := Aside0.mk ((by rw [hg]; exact (below_size (by repeat (first | (with_reducible first | exact HB.out | apply below_alloc | apply pw_below_drewN | apply below_drew1) | exact HB.out))) : w.heap.size ≤ gb134)); clear HB; have HB := n0_; have BK134 := n1_; have GW134 := n2_; have GE134 := n3_; clear n0_ n1_ n2_ n3_; clear hb hbox hg; have hcz16_0 : w15.cell? ⟨gb134, 0, none⟩ = some (.int .i64 a0_0) := (blk_cell BK134.out 0).trans rfl; have hcz16_1 : w15.cell? ⟨gb134, 1, none⟩ = some (.string a0_1) := (blk_cell BK134.out 1).trans rfl; have hcz16_2 : w15.cell? ⟨gb134, 2, none⟩ = some (.int .i64 a0_2) := (blk_cell BK134.out 2).trans rfl; have hcz16_3 : w15.cell? ⟨gb134, 3, none⟩ = some (.int .i64 a0_3) := (blk_cell BK134.out 3).trans rfl; have hfz16_0 := blk_frozen BK134.out 0; have hfz16_1 := blk_frozen BK134.out 1; have hfz16_2 := blk_frozen BK134.out 2; have hfz16_3 := blk_frozen BK134.out 3))
            go_ret
            exact ⟨by first | rfl | (simp [errW_none, errW_some] <;> rfl) | (simp [*, errW_none, errW_some] <;> rfl), by repeat (first | (with_reducible first | exact HB.out | apply below_alloc | apply pw_below_drewN | apply below_drew1 | refine below_set ?_ GE134.out) | exact HB.out)⟩
        · rw [if_neg c11] at H
          have c11b0 : (a0_0 == 6) = false := beq_eq_false_iff_ne.mpr c11
          have c11b1 : (a0_0 != 6) = true := bne_iff_ne.mpr c11
          obtain rfl := Option.some.inj H
          go_enter Tryd.func18, Tryd.ntmps18
          go_wp2_with (first | ((with_reducible refine gate_dst (N := 1) rfl ?_); refine box_event ?hg (N := 1) ?hd (cs := #[.int .i64 a0_0, .string a0_1, .int .i64 a0_2, .int .i64 a0_3]) (t := 30) ?hr ?_; (case hd => rfl); (case hg => rfl); (case hr => first | (go_simp; done) | (go_simp; rfl)); intro gb134 hg w17 hbox hb; have n0_ := Aside0.mk (below_step (by repeat (first | (with_reducible first | exact HB.out | apply below_alloc | apply pw_below_drewN | apply below_drew1) | exact HB.out)) hb); have n1_ := Aside0.mk (hbox); have n2_ := Aside0.mk ((by rw [hg]; exact (below_size (by repeat (first | (with_reducible first | exact HB.out | apply below_alloc | apply pw_below_drewN | apply below_drew1) | exact HB.out))) : w.heap.size ≤ gb134)); have n3_ := Aside0.mk ((by rw [hg]; exact (below_size (by repeat (first | (with_reducible first | exact HB.out | apply below_alloc | apply pw_below_drewN | apply below_drew1) | exact HB.out))) : w.heap.size ≤ gb134)); clear HB; have HB := n0_; have BK134 := n1_; have GW134 := n2_; have GE134 := n3_; clear n0_ n1_ n2_ n3_; clear hb hbox hg; have hcz18_0 : w17.cell? ⟨gb134, 0, none⟩ = some (.int .i64 a0_0) := (blk_cell BK134.out 0).trans rfl; have hcz18_1 : w17.cell? ⟨gb134, 1, none⟩ = some (.string a0_1) := (blk_cell BK134.out 1).trans rfl; have hcz18_2 : w17.cell? ⟨gb134, 2, none⟩ = some (.int .i64 a0_2) := (blk_cell BK134.out 2).trans rfl; have hcz18_3 : w17.cell? ⟨gb134, 3, none⟩ = some (.int .i64 a0_3) := (blk_cell BK134.out 3).trans rfl; have hfz18_0 := blk_frozen BK134.out 0; have hfz18_1 := blk_frozen BK134.out 1; have hfz18_2 := blk_frozen BK134.out 2; have hfz18_3 := blk_frozen BK134.out 3))
          go_ret
          exact ⟨by first | rfl | (simp [errW_none, errW_some] <;> rfl) | (simp [*, errW_none, errW_some] <;> rfl), by repeat (first | (with_reducible first | exact HB.out | apply below_alloc | apply pw_below_drewN | apply below_drew1 | refine below_set ?_ GE134.out) | exact HB.out)⟩

/-! ### spinneyref05_own: function 38 -/
def spinneyref05_own.f (a0 : ByteArray) (a1 : Int) (a2 : Int) (a3 : Int) : Option (Int × ByteArray × Int × Int × Int × Bool) := if (wrap64 (a3 - a1)) > 255 then (if a2 = 1 then (if 0 ≤ a1 then (if a1 ≤ a3 then (if a3 ≤ (a0.size : Int) then (some (a2, a0.extract (a1 : Int).toNat (a3 : Int).toNat, 0, a1, a3, !true)) else (none)) else (none)) else (none)) else (if 0 ≤ a1 then (if a1 ≤ a3 then (if a3 ≤ (a0.size : Int) then (some (a2, a0.extract (a1 : Int).toNat (a3 : Int).toNat, 0, a1, a3, !(a2 == 3))) else (none)) else (none)) else (none))) else (if 0 ≤ a1 then (if a1 ≤ a3 then (if a3 ≤ (a0.size : Int) then (some (a2, a0.extract (a1 : Int).toNat (a3 : Int).toNat, 0, a1, a3, !false)) else (none)) else (none)) else (none))
set_option maxHeartbeats 8000000 in
set_option maxRecDepth 100000 in
theorem spinneyref05_own.calls (a0 : ByteArray) (a1 : Int) (a2 : Int) (a3 : Int) (r1 : Int) (r2 : ByteArray) (r3 : Int) (r4 : Int) (r5 : Int) (r6 : Bool) (w : World) (h : spinneyref05_own.f a0 a1 a2 a3 = some (r1, r2, r3, r4, r5, r6)) :
    Calls Tryd.prog 38 #[.string a0, .int .i64 a1, .int .i64 a2, .int .i64 a3] w fun e w' => e = .returned (.tuple #[.agg #[.int .i64 r1, .string r2, .int .i64 r3, .int .i64 r4], .int .i64 r5, .bool r6]) ∧ Below w.heap.size w w' := by
  have hu30 := Tryd.underlying30
  have HB := Aside0.mk (Below.refl w.heap.size w)
  have H : (if (wrap64 (a3 - a1)) > 255 then (if a2 = 1 then (if 0 ≤ a1 then (if a1 ≤ a3 then (if a3 ≤ (a0.size : Int) then (some (a2, a0.extract (a1 : Int).toNat (a3 : Int).toNat, 0, a1, a3, !true)) else (none)) else (none)) else (none)) else (if 0 ≤ a1 then (if a1 ≤ a3 then (if a3 ≤ (a0.size : Int) then (some (a2, a0.extract (a1 : Int).toNat (a3 : Int).toNat, 0, a1, a3, !(a2 == 3))) else (none)) else (none)) else (none))) else (if 0 ≤ a1 then (if a1 ≤ a3 then (if a3 ≤ (a0.size : Int) then (some (a2, a0.extract (a1 : Int).toNat (a3 : Int).toNat, 0, a1, a3, !false)) else (none)) else (none)) else (none))) = some (r1, r2, r3, r4, r5, r6) := h
  clear h
  by_cases c5 : (wrap64 (a3 - a1)) > 255
  · rw [if_pos c5] at H
    have c5b0 : decide (255 < (wrap64 (a3 - a1))) = true := decide_eq_true c5
    clear c5
    by_cases c6 : a2 = 1
    · rw [if_pos c6] at H
      have c6b0 : (a2 == 1) = true := beq_iff_eq.mpr c6
      have c6b1 : (a2 != 1) = false := bne_eq_false_iff_eq.mpr c6
      clear c6
      by_cases c7 : 0 ≤ a1
      · rw [if_pos c7] at H
        have c7b0 := eq_true c7
        have c7b1 : decide (0 ≤ a1) = true := decide_eq_true c7
        clear c7
        by_cases c8 : a1 ≤ a3
        · rw [if_pos c8] at H
          have c8b0 := eq_true c8
          have c8b1 : decide (a1 ≤ a3) = true := decide_eq_true c8
          clear c8
          by_cases c9 : a3 ≤ (a0.size : Int)
          · rw [if_pos c9] at H
            have c9b0 := eq_true c9
            have c9b1 : decide (a3 ≤ (a0.size : Int)) = true := decide_eq_true c9
            clear c9
            simp only [Option.some.injEq, Prod.mk.injEq] at H
            obtain ⟨rfl, rfl, rfl, rfl, rfl, rfl⟩ := H
            go_enter Tryd.func38, Tryd.ntmps38
            go_wp2_with (first | ((with_reducible refine gate_dst (N := 8) rfl ?_); refine box_event ?hg (N := 8) ?hd (cs := #[.int .i64 0, .string (⟨#[]⟩ : ByteArray), .int .i64 0, .int .i64 0]) (t := 30) ?hr ?_; (case hd => rfl); (case hg => rfl); (case hr => first | (go_simp; done) | (go_simp; rfl)); intro gb135 hg w10 hbox hb; have n0_ := Aside0.mk (below_step (by repeat (first | (with_reducible first | exact HB.out | apply below_alloc | apply pw_below_drewN | apply below_drew1) | exact HB.out)) hb); have n1_ := Aside0.mk (hbox); have n2_ := Aside0.mk ((by rw [hg]; exact (below_size (by repeat (first | (with_reducible first | exact HB.out | apply below_alloc | apply pw_below_drewN | apply below_drew1) | exact HB.out))) : w.heap.size ≤ gb135)); have n3_ := Aside0.mk ((by rw [hg]; exact (below_size (by repeat (first | (with_reducible first | exact HB.out | apply below_alloc | apply pw_below_drewN | apply below_drew1) | exact HB.out))) : w.heap.size ≤ gb135)); clear HB; have HB := n0_; have BK135 := n1_; have GW135 := n2_; have GE135 := n3_; clear n0_ n1_ n2_ n3_; clear hb hbox hg; have hcz11_0 : w10.cell? ⟨gb135, 0, none⟩ = some (.int .i64 0) := (blk_cell BK135.out 0).trans rfl; have hcz11_1 : w10.cell? ⟨gb135, 1, none⟩ = some (.string (⟨#[]⟩ : ByteArray)) := (blk_cell BK135.out 1).trans rfl; have hcz11_2 : w10.cell? ⟨gb135, 2, none⟩ = some (.int .i64 0) := (blk_cell BK135.out 2).trans rfl; have hcz11_3 : w10.cell? ⟨gb135, 3, none⟩ = some (.int .i64 0) := (blk_cell BK135.out 3).trans rfl; have hfz11_0 := blk_frozen BK135.out 0; have hfz11_1 := blk_frozen BK135.out 1; have hfz11_2 := blk_frozen BK135.out 2; have hfz11_3 := blk_frozen BK135.out 3))
            refine bodyPost_ret (results_ctt rfl _ _ gb135 30 #[.int .i64 a2, .string (a0.extract (a1 : Int).toNat (a3 : Int).toNat), .int .i64 0, .int .i64 a1] (0, 0) _ rfl (by (with_reducible repeat (first | refine blk_drewN ?_ _ | refine blk_drew ?_ | refine blk_alloc ?_ _)); refine blk_put (cs := #[.int .i64 a2, .string (a0.extract (a1 : Int).toNat (a3 : Int).toNat), .int .i64 0, .int .i64 0]) ?_ 3 _ rfl; (with_reducible repeat (first | refine blk_drewN ?_ _ | refine blk_drew ?_ | refine blk_alloc ?_ _)); refine blk_put (cs := #[.int .i64 a2, .string (a0.extract (a1 : Int).toNat (a3 : Int).toNat), .int .i64 0, .int .i64 0]) ?_ 2 _ rfl; (with_reducible repeat (first | refine blk_drewN ?_ _ | refine blk_drew ?_ | refine blk_alloc ?_ _)); refine blk_put (cs := #[.int .i64 a2, .string (⟨#[]⟩ : ByteArray), .int .i64 0, .int .i64 0]) ?_ 1 _ rfl; (with_reducible repeat (first | refine blk_drewN ?_ _ | refine blk_drew ?_ | refine blk_alloc ?_ _)); refine blk_put (cs := #[.int .i64 0, .string (⟨#[]⟩ : ByteArray), .int .i64 0, .int .i64 0]) ?_ 0 _ rfl; (with_reducible repeat (first | refine blk_drewN ?_ _ | refine blk_drew ?_ | refine blk_alloc ?_ _)); exact BK135.out) Tryd.underlying30 rfl (by kernel_rfl)) rfl ?_
            exact ⟨by first | rfl | (simp [errW_none, errW_some] <;> rfl) | (simp [*, errW_none, errW_some] <;> rfl), by repeat (first | (with_reducible first | exact HB.out | apply below_alloc | apply pw_below_drewN | apply below_drew1 | refine below_set ?_ GE135.out) | exact HB.out)⟩
          · rw [if_neg c9] at H
            exact absurd H (by simp)
        · rw [if_neg c8] at H
          exact absurd H (by simp)
      · rw [if_neg c7] at H
        exact absurd H (by simp)
    · rw [if_neg c6] at H
      have c6b0 : (a2 == 1) = false := beq_eq_false_iff_ne.mpr c6
      have c6b1 : (a2 != 1) = true := bne_iff_ne.mpr c6
      by_cases c12 : 0 ≤ a1
      · rw [if_pos c12] at H
        have c12b0 := eq_true c12
        have c12b1 : decide (0 ≤ a1) = true := decide_eq_true c12
        clear c12
        by_cases c13 : a1 ≤ a3
        · rw [if_pos c13] at H
          have c13b0 := eq_true c13
          have c13b1 : decide (a1 ≤ a3) = true := decide_eq_true c13
          clear c13
          by_cases c14 : a3 ≤ (a0.size : Int)
          · rw [if_pos c14] at H
            have c14b0 := eq_true c14
            have c14b1 : decide (a3 ≤ (a0.size : Int)) = true := decide_eq_true c14
            clear c14
            simp only [Option.some.injEq, Prod.mk.injEq] at H
            obtain ⟨rfl, rfl, rfl, rfl, rfl, rfl⟩ := H
            go_enter Tryd.func38, Tryd.ntmps38
            go_wp2_with (first | ((with_reducible refine gate_dst (N := 8) rfl ?_); refine box_event ?hg (N := 8) ?hd (cs := #[.int .i64 0, .string (⟨#[]⟩ : ByteArray), .int .i64 0, .int .i64 0]) (t := 30) ?hr ?_; (case hd => rfl); (case hg => rfl); (case hr => first | (go_simp; done) | (go_simp; rfl)); intro gb135 hg w15 hbox hb; have n0_ := Aside0.mk (below_step (by repeat (first | (with_reducible first | exact HB.out | apply below_alloc | apply pw_below_drewN | apply below_drew1) | exact HB.out)) hb); have n1_ := Aside0.mk (hbox); have n2_ := Aside0.mk ((by rw [hg]; exact (below_size (by repeat (first | (with_reducible first | exact HB.out | apply below_alloc | apply pw_below_drewN | apply below_drew1) | exact HB.out))) : w.heap.size ≤ gb135)); have n3_ := Aside0.mk ((by rw [hg]; exact (below_size (by repeat (first | (with_reducible first | exact HB.out | apply below_alloc | apply pw_below_drewN | apply below_drew1) | exact HB.out))) : w.heap.size ≤ gb135)); clear HB; have HB := n0_; have BK135 := n1_; have GW135 := n2_; have GE135 := n3_; clear n0_ n1_ n2_ n3_; clear hb hbox hg; have hcz16_0 : w15.cell? ⟨gb135, 0, none⟩ = some (.int .i64 0) := (blk_cell BK135.out 0).trans rfl; have hcz16_1 : w15.cell? ⟨gb135, 1, none⟩ = some (.string (⟨#[]⟩ : ByteArray)) := (blk_cell BK135.out 1).trans rfl; have hcz16_2 : w15.cell? ⟨gb135, 2, none⟩ = some (.int .i64 0) := (blk_cell BK135.out 2).trans rfl; have hcz16_3 : w15.cell? ⟨gb135, 3, none⟩ = some (.int .i64 0) := (blk_cell BK135.out 3).trans rfl; have hfz16_0 := blk_frozen BK135.out 0; have hfz16_1 := blk_frozen BK135.out 1; have hfz16_2 := blk_frozen BK135.out 2; have hfz16_3 := blk_frozen BK135.out 3))
            refine bodyPost_ret (results_ctt rfl _ _ gb135 30 #[.int .i64 a2, .string (a0.extract (a1 : Int).toNat (a3 : Int).toNat), .int .i64 0, .int .i64 a1] (0, 0) _ rfl (by (with_reducible repeat (first | refine blk_drewN ?_ _ | refine blk_drew ?_ | refine blk_alloc ?_ _)); refine blk_put (cs := #[.int .i64 a2, .string (a0.extract (a1 : Int).toNat (a3 : Int).toNat), .int .i64 0, .int .i64 0]) ?_ 3 _ rfl; (with_reducible repeat (first | refine blk_drewN ?_ _ | refine blk_drew ?_ | refine blk_alloc ?_ _)); refine blk_put (cs := #[.int .i64 a2, .string (a0.extract (a1 : Int).toNat (a3 : Int).toNat), .int .i64 0, .int .i64 0]) ?_ 2 _ rfl; (with_reducible repeat (first | refine blk_drewN ?_ _ | refine blk_drew ?_ | refine blk_alloc ?_ _)); refine blk_put (cs := #[.int .i64 a2, .string (⟨#[]⟩ : ByteArray), .int .i64 0, .int .i64 0]) ?_ 1 _ rfl; (with_reducible repeat (first | refine blk_drewN ?_ _ | refine blk_drew ?_ | refine blk_alloc ?_ _)); refine blk_put (cs := #[.int .i64 0, .string (⟨#[]⟩ : ByteArray), .int .i64 0, .int .i64 0]) ?_ 0 _ rfl; (with_reducible repeat (first | refine blk_drewN ?_ _ | refine blk_drew ?_ | refine blk_alloc ?_ _)); exact BK135.out) Tryd.underlying30 rfl (by kernel_rfl)) rfl ?_
            exact ⟨by first | rfl | (simp [errW_none, errW_some] <;> rfl) | (simp [*, errW_none, errW_some] <;> rfl), by repeat (first | (with_reducible first | exact HB.out | apply below_alloc | apply pw_below_drewN | apply below_drew1 | refine below_set ?_ GE135.out) | exact HB.out)⟩
          · rw [if_neg c14] at H
            exact absurd H (by simp)
        · rw [if_neg c13] at H
          exact absurd H (by simp)
      · rw [if_neg c12] at H
        exact absurd H (by simp)
  · rw [if_neg c5] at H
    have c5b0 : decide (255 < (wrap64 (a3 - a1))) = false := decide_eq_false c5
    clear c5
    by_cases c17 : 0 ≤ a1
    · rw [if_pos c17] at H
      have c17b0 := eq_true c17
      have c17b1 : decide (0 ≤ a1) = true := decide_eq_true c17
      clear c17
      by_cases c18 : a1 ≤ a3
      · rw [if_pos c18] at H
        have c18b0 := eq_true c18
        have c18b1 : decide (a1 ≤ a3) = true := decide_eq_true c18
        clear c18
        by_cases c19 : a3 ≤ (a0.size : Int)
        · rw [if_pos c19] at H
          have c19b0 := eq_true c19
          have c19b1 : decide (a3 ≤ (a0.size : Int)) = true := decide_eq_true c19
          clear c19
          simp only [Option.some.injEq, Prod.mk.injEq] at H
          obtain ⟨rfl, rfl, rfl, rfl, rfl, rfl⟩ := H
          go_enter Tryd.func38, Tryd.ntmps38
          go_wp2_with (first | ((with_reducible refine gate_dst (N := 8) rfl ?_); refine box_event ?hg (N := 8) ?hd (cs := #[.int .i64 0, .string (⟨#[]⟩ : ByteArray), .int .i64 0, .int .i64 0]) (t := 30) ?hr ?_; (case hd => rfl); (case hg => rfl); (case hr => first | (go_simp; done) | (go_simp; rfl)); intro gb135 hg w20 hbox hb; have n0_ := Aside0.mk (below_step (by repeat (first | (with_reducible first | exact HB.out | apply below_alloc | apply pw_below_drewN | apply below_drew1) | exact HB.out)) hb); have n1_ := Aside0.mk (hbox); have n2_ := Aside0.mk ((by rw [hg]; exact (below_size (by repeat (first | (with_reducible first | exact HB.out | apply below_alloc | apply pw_below_drewN | apply below_drew1) | exact HB.out))) : w.heap.size ≤ gb135)); have n3_ := Aside0.mk ((by rw [hg]; exact (below_size (by repeat (first | (with_reducible first | exact HB.out | apply below_alloc | apply pw_below_drewN | apply below_drew1) | exact HB.out))) : w.heap.size ≤ gb135)); clear HB; have HB := n0_; have BK135 := n1_; have GW135 := n2_; have GE135 := n3_; clear n0_ n1_ n2_ n3_; clear hb hbox hg; have hcz21_0 : w20.cell? ⟨gb135, 0, none⟩ = some (.int .i64 0) := (blk_cell BK135.out 0).trans rfl; have hcz21_1 : w20.cell? ⟨gb135, 1, none⟩ = some (.string (⟨#[]⟩ : ByteArray)) := (blk_cell BK135.out 1).trans rfl; have hcz21_2 : w20.cell? ⟨gb135, 2, none⟩ = some (.int .i64 0) := (blk_cell BK135.out 2).trans rfl; have hcz21_3 : w20.cell? ⟨gb135, 3, none⟩ = some (.int .i64 0) := (blk_cell BK135.out 3).trans rfl; have hfz21_0 := blk_frozen BK135.out 0; have hfz21_1 := blk_frozen BK135.out 1; have hfz21_2 := blk_frozen BK135.out 2; have hfz21_3 := blk_frozen BK135.out 3))
          refine bodyPost_ret (results_ctt rfl _ _ gb135 30 #[.int .i64 a2, .string (a0.extract (a1 : Int).toNat (a3 : Int).toNat), .int .i64 0, .int .i64 a1] (0, 0) _ rfl (by (with_reducible repeat (first | refine blk_drewN ?_ _ | refine blk_drew ?_ | refine blk_alloc ?_ _)); refine blk_put (cs := #[.int .i64 a2, .string (a0.extract (a1 : Int).toNat (a3 : Int).toNat), .int .i64 0, .int .i64 0]) ?_ 3 _ rfl; (with_reducible repeat (first | refine blk_drewN ?_ _ | refine blk_drew ?_ | refine blk_alloc ?_ _)); refine blk_put (cs := #[.int .i64 a2, .string (a0.extract (a1 : Int).toNat (a3 : Int).toNat), .int .i64 0, .int .i64 0]) ?_ 2 _ rfl; (with_reducible repeat (first | refine blk_drewN ?_ _ | refine blk_drew ?_ | refine blk_alloc ?_ _)); refine blk_put (cs := #[.int .i64 a2, .string (⟨#[]⟩ : ByteArray), .int .i64 0, .int .i64 0]) ?_ 1 _ rfl; (with_reducible repeat (first | refine blk_drewN ?_ _ | refine blk_drew ?_ | refine blk_alloc ?_ _)); refine blk_put (cs := #[.int .i64 0, .string (⟨#[]⟩ : ByteArray), .int .i64 0, .int .i64 0]) ?_ 0 _ rfl; (with_reducible repeat (first | refine blk_drewN ?_ _ | refine blk_drew ?_ | refine blk_alloc ?_ _)); exact BK135.out) Tryd.underlying30 rfl (by kernel_rfl)) rfl ?_
          exact ⟨by first | rfl | (simp [errW_none, errW_some] <;> rfl) | (simp [*, errW_none, errW_some] <;> rfl), by repeat (first | (with_reducible first | exact HB.out | apply below_alloc | apply pw_below_drewN | apply below_drew1 | refine below_set ?_ GE135.out) | exact HB.out)⟩
        · rw [if_neg c19] at H
          exact absurd H (by simp)
      · rw [if_neg c18] at H
        exact absurd H (by simp)
    · rw [if_neg c17] at H
      exact absurd H (by simp)

end Go.Proofs.YtjichkjnodabiaaDoor.P
