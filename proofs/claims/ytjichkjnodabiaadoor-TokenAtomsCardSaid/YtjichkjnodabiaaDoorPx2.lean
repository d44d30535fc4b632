-- PRINTED by a program of this session over the kit's print.py.
import Derived.Test.YtjichkjnodabiaaDoorPx0
namespace Go.Proofs.YtjichkjnodabiaaDoor.P
open Go.Own Go.RowKit Go.Proofs.YtjichkjnodabiaaDoorW.PrintWords Go.Proofs.YtjichkjnodabiaaDoorW.PrintLast Go.Proofs.YtjichkjnodabiaaDoorW.PrintMore
attribute [local go_sem] max2_int min2_int max_two min_two max_three min_three max_four min_four   -- for this text's walks alone
set_option linter.unusedVariables false
set_option linter.unusedSimpArgs false

/-! ### char_Class: function 24 -/
mutual
def char_Class.j0 : Nat → Int → Int → Bool → Option (Int)
  | 0, _, _, _ => none
  | k + 1, x0, x3, x4 => if x4 = true then (some 4) else (if x3 = 9 then (char_Class.j1 k x0 x3 (x3 == 9)) else (if x3 = 10 then (char_Class.j1 k x0 x3 (x3 == 10)) else (if x3 = 13 then (char_Class.j1 k x0 x3 (x3 == 13)) else (char_Class.j1 k x0 x3 (x3 == 32)))))
def char_Class.j1 : Nat → Int → Int → Bool → Option (Int)
  | 0, _, _, _ => none
  | k + 1, x0, x3, x22 => if x22 = true then (some 5) else (if x3 = 33 then (char_Class.j2 k x0 x3 (x3 == 33)) else (if x3 = 59 then (char_Class.j2 k x0 x3 (x3 == 59)) else (if x3 = 44 then (char_Class.j2 k x0 x3 (x3 == 44)) else (char_Class.j2 k x0 x3 (x3 == 124)))))
def char_Class.j2 : Nat → Int → Int → Bool → Option (Int)
  | 0, _, _, _ => none
  | k + 1, x0, x3, x27 => if x27 = true then (some 6) else (if x3 = 40 then (char_Class.j3 k x0 x3 (x3 == 40)) else (if x3 = 41 then (char_Class.j3 k x0 x3 (x3 == 41)) else (if x3 = 91 then (char_Class.j3 k x0 x3 (x3 == 91)) else (if x3 = 93 then (char_Class.j3 k x0 x3 (x3 == 93)) else (if x3 = 123 then (char_Class.j3 k x0 x3 (x3 == 123)) else (char_Class.j3 k x0 x3 (x3 == 125)))))))
def char_Class.j3 : Nat → Int → Int → Bool → Option (Int)
  | 0, _, _, _ => none
  | k + 1, x0, x3, x32 => if x32 = true then (some 7) else (if x3 = 39 then (some 8) else (if x3 = 95 then (some 2) else (if 97 ≤ x0 then (char_Class.j4 k x0 (decide (x0 ≤ 122))) else (char_Class.j4 k x0 false))))
def char_Class.j4 : Nat → Int → Bool → Option (Int)
  | 0, _, _ => none
  | k + 1, x0, x43 => if x43 = true then (some 1) else (if 65 ≤ x0 then (char_Class.j5 k x0 (decide (x0 ≤ 90))) else (char_Class.j5 k x0 false))
def char_Class.j5 : Nat → Int → Bool → Option (Int)
  | 0, _, _ => none
  | k + 1, x0, x50 => if x50 = true then (some 2) else (if 48 ≤ x0 then (if x0 ≤ 57 then (some 3) else (some 0)) else (some 0))
end
def char_Class.f (k : Nat) (a0 : Int) : Option (Int) := if a0 = 43 then (char_Class.j0 k a0 a0 (a0 == 43)) else (if a0 = 45 then (char_Class.j0 k a0 a0 (a0 == 45)) else (if a0 = 42 then (char_Class.j0 k a0 a0 (a0 == 42)) else (if a0 = 47 then (char_Class.j0 k a0 a0 (a0 == 47)) else (if a0 = 92 then (char_Class.j0 k a0 a0 (a0 == 92)) else (if a0 = 94 then (char_Class.j0 k a0 a0 (a0 == 94)) else (if a0 = 60 then (char_Class.j0 k a0 a0 (a0 == 60)) else (if a0 = 62 then (char_Class.j0 k a0 a0 (a0 == 62)) else (if a0 = 61 then (char_Class.j0 k a0 a0 (a0 == 61)) else (if a0 = 126 then (char_Class.j0 k a0 a0 (a0 == 126)) else (if a0 = 58 then (char_Class.j0 k a0 a0 (a0 == 58)) else (if a0 = 46 then (char_Class.j0 k a0 a0 (a0 == 46)) else (if a0 = 63 then (char_Class.j0 k a0 a0 (a0 == 63)) else (if a0 = 64 then (char_Class.j0 k a0 a0 (a0 == 64)) else (if a0 = 35 then (char_Class.j0 k a0 a0 (a0 == 35)) else (if a0 = 38 then (char_Class.j0 k a0 a0 (a0 == 38)) else (char_Class.j0 k a0 a0 (a0 == 36)))))))))))))))))
theorem char_Class.mono_l : ∀ k, (∀ y0 y1 y2, LeO (char_Class.j0 k y0 y1 y2) (char_Class.j0 (k + 1) y0 y1 y2)) ∧ (∀ y0 y1 y2, LeO (char_Class.j1 k y0 y1 y2) (char_Class.j1 (k + 1) y0 y1 y2)) ∧ (∀ y0 y1 y2, LeO (char_Class.j2 k y0 y1 y2) (char_Class.j2 (k + 1) y0 y1 y2)) ∧ (∀ y0 y1 y2, LeO (char_Class.j3 k y0 y1 y2) (char_Class.j3 (k + 1) y0 y1 y2)) ∧ (∀ y0 y1, LeO (char_Class.j4 k y0 y1) (char_Class.j4 (k + 1) y0 y1)) ∧ (∀ y0 y1, LeO (char_Class.j5 k y0 y1) (char_Class.j5 (k + 1) y0 y1))
  | 0 => ⟨fun _ _ _ r h => by simp [char_Class.j0] at h, fun _ _ _ r h => by simp [char_Class.j1] at h, fun _ _ _ r h => by simp [char_Class.j2] at h, fun _ _ _ r h => by simp [char_Class.j3] at h, fun _ _ r h => by simp [char_Class.j4] at h, fun _ _ r h => by simp [char_Class.j5] at h⟩
  | k + 1 => by
    obtain ⟨ih0, ih1, ih2, ih3, ih4, ih5⟩ := char_Class.mono_l k
    refine ⟨?_, ?_, ?_, ?_, ?_, ?_⟩
    · intro y0 y1 y2
      unfold char_Class.j0
      repeat' first
      | (with_reducible exact ih0 _ _ _)
      | (with_reducible exact ih1 _ _ _)
      | (with_reducible exact ih2 _ _ _)
      | (with_reducible exact ih3 _ _ _)
      | (with_reducible exact ih4 _ _)
      | (with_reducible exact ih5 _ _)
      | (with_reducible exact LeO.refl _)
      | (with_reducible exact LeO.none _)
      | (with_reducible refine LeO.ite ?_ ?_)
      | (with_reducible refine LeO.bind ?_ (fun _ => ?_))
      | exact ih0 _ _ _
      | exact ih1 _ _ _
      | exact ih2 _ _ _
      | exact ih3 _ _ _
      | exact ih4 _ _
      | exact ih5 _ _
      | exact LeO.none _
      | refine LeO.ite ?_ ?_
      | refine LeO.bind ?_ (fun _ => ?_)
    · intro y0 y1 y2
      unfold char_Class.j1
      repeat' first
      | (with_reducible exact ih0 _ _ _)
      | (with_reducible exact ih1 _ _ _)
      | (with_reducible exact ih2 _ _ _)
      | (with_reducible exact ih3 _ _ _)
      | (with_reducible exact ih4 _ _)
      | (with_reducible exact ih5 _ _)
      | (with_reducible exact LeO.refl _)
      | (with_reducible exact LeO.none _)
      | (with_reducible refine LeO.ite ?_ ?_)
      | (with_reducible refine LeO.bind ?_ (fun _ => ?_))
      | exact ih0 _ _ _
      | exact ih1 _ _ _
      | exact ih2 _ _ _
      | exact ih3 _ _ _
      | exact ih4 _ _
      | exact ih5 _ _
      | exact LeO.none _
      | refine LeO.ite ?_ ?_
      | refine LeO.bind ?_ (fun _ => ?_)
    · intro y0 y1 y2
      unfold char_Class.j2
      repeat' first
      | (with_reducible exact ih0 _ _ _)
      | (with_reducible exact ih1 _ _ _)
      | (with_reducible exact ih2 _ _ _)
      | (with_reducible exact ih3 _ _ _)
      | (with_reducible exact ih4 _ _)
      | (with_reducible exact ih5 _ _)
      | (with_reducible exact LeO.refl _)
      | (with_reducible exact LeO.none _)
      | (with_reducible refine LeO.ite ?_ ?_)
      | (with_reducible refine LeO.bind ?_ (fun _ => ?_))
      | exact ih0 _ _ _
      | exact ih1 _ _ _
      | exact ih2 _ _ _
      | exact ih3 _ _ _
      | exact ih4 _ _
      | exact ih5 _ _
      | exact LeO.none _
      | refine LeO.ite ?_ ?_
      | refine LeO.bind ?_ (fun _ => ?_)
    · intro y0 y1 y2
      unfold char_Class.j3
      repeat' first
      | (with_reducible exact ih0 _ _ _)
      | (with_reducible exact ih1 _ _ _)
      | (with_reducible exact ih2 _ _ _)
      | (with_reducible exact ih3 _ _ _)
      | (with_reducible exact ih4 _ _)
      | (with_reducible exact ih5 _ _)
      | (with_reducible exact LeO.refl _)
      | (with_reducible exact LeO.none _)
      | (with_reducible refine LeO.ite ?_ ?_)
      | (with_reducible refine LeO.bind ?_ (fun _ => ?_))
      | exact ih0 _ _ _
      | exact ih1 _ _ _
      | exact ih2 _ _ _
      | exact ih3 _ _ _
      | exact ih4 _ _
      | exact ih5 _ _
      | exact LeO.none _
      | refine LeO.ite ?_ ?_
      | refine LeO.bind ?_ (fun _ => ?_)
    · intro y0 y1
      unfold char_Class.j4
      repeat' first
      | (with_reducible exact ih0 _ _ _)
      | (with_reducible exact ih1 _ _ _)
      | (with_reducible exact ih2 _ _ _)
      | (with_reducible exact ih3 _ _ _)
      | (with_reducible exact ih4 _ _)
      | (with_reducible exact ih5 _ _)
      | (with_reducible exact LeO.refl _)
      | (with_reducible exact LeO.none _)
      | (with_reducible refine LeO.ite ?_ ?_)
      | (with_reducible refine LeO.bind ?_ (fun _ => ?_))
      | exact ih0 _ _ _
      | exact ih1 _ _ _
      | exact ih2 _ _ _
      | exact ih3 _ _ _
      | exact ih4 _ _
      | exact ih5 _ _
      | exact LeO.none _
      | refine LeO.ite ?_ ?_
      | refine LeO.bind ?_ (fun _ => ?_)
    · intro y0 y1
      unfold char_Class.j5
      repeat' first
      | (with_reducible exact ih0 _ _ _)
      | (with_reducible exact ih1 _ _ _)
      | (with_reducible exact ih2 _ _ _)
      | (with_reducible exact ih3 _ _ _)
      | (with_reducible exact ih4 _ _)
      | (with_reducible exact ih5 _ _)
      | (with_reducible exact LeO.refl _)
      | (with_reducible exact LeO.none _)
      | (with_reducible refine LeO.ite ?_ ?_)
      | (with_reducible refine LeO.bind ?_ (fun _ => ?_))
      | exact ih0 _ _ _
      | exact ih1 _ _ _
      | exact ih2 _ _ _
      | exact ih3 _ _ _
      | exact ih4 _ _
      | exact ih5 _ _
      | exact LeO.none _
      | refine LeO.ite ?_ ?_
      | refine LeO.bind ?_ (fun _ => ?_)
theorem char_Class.mono : ∀ a0 k, LeO (char_Class.f k a0) (char_Class.f (k + 1) a0) := by
  intro a0 k
  obtain ⟨ih0, ih1, ih2, ih3, ih4, ih5⟩ := char_Class.mono_l k
  unfold char_Class.f
  repeat' first
      | (with_reducible exact ih0 _ _ _)
      | (with_reducible exact ih1 _ _ _)
      | (with_reducible exact ih2 _ _ _)
      | (with_reducible exact ih3 _ _ _)
      | (with_reducible exact ih4 _ _)
      | (with_reducible exact ih5 _ _)
      | (with_reducible exact LeO.refl _)
      | (with_reducible exact LeO.none _)
      | (with_reducible refine LeO.ite ?_ ?_)
      | (with_reducible refine LeO.bind ?_ (fun _ => ?_))
      | exact ih0 _ _ _
      | exact ih1 _ _ _
      | exact ih2 _ _ _
      | exact ih3 _ _ _
      | exact ih4 _ _
      | exact ih5 _ _
      | exact LeO.none _
      | refine LeO.ite ?_ ?_
      | refine LeO.bind ?_ (fun _ => ?_)
set_option maxHeartbeats 8000000 in
set_option maxRecDepth 100000 in
theorem char_Class.calls (k : Nat) (a0 : Int) (r : Int) (w : World) (h : char_Class.f k a0 = some r) :
    Calls Tryd.prog 24 #[.int .i32 a0] w fun e w' => e = .returned (.int .i64 r) ∧ Drawn0 w w' := by
  have H : (if a0 = 43 then (char_Class.j0 k a0 a0 (a0 == 43)) else (if a0 = 45 then (char_Class.j0 k a0 a0 (a0 == 45)) else (if a0 = 42 then (char_Class.j0 k a0 a0 (a0 == 42)) else (if a0 = 47 then (char_Class.j0 k a0 a0 (a0 == 47)) else (if a0 = 92 then (char_Class.j0 k a0 a0 (a0 == 92)) else (if a0 = 94 then (char_Class.j0 k a0 a0 (a0 == 94)) else (if a0 = 60 then (char_Class.j0 k a0 a0 (a0 == 60)) else (if a0 = 62 then (char_Class.j0 k a0 a0 (a0 == 62)) else (if a0 = 61 then (char_Class.j0 k a0 a0 (a0 == 61)) else (if a0 = 126 then (char_Class.j0 k a0 a0 (a0 == 126)) else (if a0 = 58 then (char_Class.j0 k a0 a0 (a0 == 58)) else (if a0 = 46 then (char_Class.j0 k a0 a0 (a0 == 46)) else (if a0 = 63 then (char_Class.j0 k a0 a0 (a0 == 63)) else (if a0 = 64 then (char_Class.j0 k a0 a0 (a0 == 64)) else (if a0 = 35 then (char_Class.j0 k a0 a0 (a0 == 35)) else (if a0 = 38 then (char_Class.j0 k a0 a0 (a0 == 38)) else (char_Class.j0 k a0 a0 (a0 == 36)))))))))))))))))) = some r := h
  clear h
  have HC2 := Aside0.mk H
  clear H
  go_enter Tryd.func24, Tryd.ntmps24
  go_upto_if 4 with (fail)
  go_cut [4] (fun v4 wc => ∃ (kq : Nat) (x4_1 : Bool), v4 = .bool x4_1 ∧ Aside0 (char_Class.j0 kq a0 a0 x4_1 = some r) ∧ Aside0 (kq ≤ k) ∧ Drawn0 w wc)
  case first =>
    have H := HC2.out
    clear HC2
    by_cases c3 : a0 = 43
    · rw [if_pos c3] at H
      have c3b0 : (a0 == 43) = true := beq_iff_eq.mpr c3
      have c3b1 : (a0 != 43) = false := bne_eq_false_iff_eq.mpr c3
      clear c3
      (first | rw [c3b0] | (simp only [i64_w, i32_w]; rw [c3b0]) | skip)
      have H' := Aside0.mk H
      clear H
      go_wp2
      go_meet
      case rel => exact ⟨_, ((a0 == 43)), (by first | rfl | (simp; done) | (simp [*]; done)), H', ⟨by first | omega | exact Nat.le_refl _⟩, by repeat (first | exact Drawn0.refl _ | apply Drawn0.step)⟩
    · rw [if_neg c3] at H
      have c3b0 : (a0 == 43) = false := beq_eq_false_iff_ne.mpr c3
      have c3b1 : (a0 != 43) = true := bne_iff_ne.mpr c3
      (first | rw [c3b0] | (simp only [i64_w, i32_w]; rw [c3b0]) | skip)
      by_cases c4 : a0 = 45
      · rw [if_pos c4] at H
        have c4b0 : (a0 == 45) = true := beq_iff_eq.mpr c4
        have c4b1 : (a0 != 45) = false := bne_eq_false_iff_eq.mpr c4
        clear c4
        have H' := Aside0.mk H
        clear H
        go_wp2
        go_meet
        case rel => exact ⟨_, ((a0 == 45)), (by first | rfl | (simp; done) | (simp [*]; done)), H', ⟨by first | omega | exact Nat.le_refl _⟩, by repeat (first | exact Drawn0.refl _ | apply Drawn0.step)⟩
      · rw [if_neg c4] at H
        have c4b0 : (a0 == 45) = false := beq_eq_false_iff_ne.mpr c4
        have c4b1 : (a0 != 45) = true := bne_iff_ne.mpr c4
        by_cases c5 : a0 = 42
        · rw [if_pos c5] at H
          have c5b0 : (a0 == 42) = true := beq_iff_eq.mpr c5
          have c5b1 : (a0 != 42) = false := bne_eq_false_iff_eq.mpr c5
          clear c5
          have H' := Aside0.mk H
          clear H
          go_wp2
          go_meet
          case rel => exact ⟨_, ((a0 == 42)), (by first | rfl | (simp; done) | (simp [*]; done)), H', ⟨by first | omega | exact Nat.le_refl _⟩, by repeat (first | exact Drawn0.refl _ | apply Drawn0.step)⟩
        · rw [if_neg c5] at H
          have c5b0 : (a0 == 42) = false := beq_eq_false_iff_ne.mpr c5
          have c5b1 : (a0 != 42) = true := bne_iff_ne.mpr c5
          by_cases c6 : a0 = 47
          · rw [if_pos c6] at H
            have c6b0 : (a0 == 47) = true := beq_iff_eq.mpr c6
            have c6b1 : (a0 != 47) = false := bne_eq_false_iff_eq.mpr c6
            clear c6
            have H' := Aside0.mk H
            clear H
            go_wp2
            go_meet
            case rel => exact ⟨_, ((a0 == 47)), (by first | rfl | (simp; done) | (simp [*]; done)), H', ⟨by first | omega | exact Nat.le_refl _⟩, by repeat (first | exact Drawn0.refl _ | apply Drawn0.step)⟩
          · rw [if_neg c6] at H
            have c6b0 : (a0 == 47) = false := beq_eq_false_iff_ne.mpr c6
            have c6b1 : (a0 != 47) = true := bne_iff_ne.mpr c6
            by_cases c7 : a0 = 92
            · rw [if_pos c7] at H
              have c7b0 : (a0 == 92) = true := beq_iff_eq.mpr c7
              have c7b1 : (a0 != 92) = false := bne_eq_false_iff_eq.mpr c7
              clear c7
              have H' := Aside0.mk H
              clear H
              go_wp2
              go_meet
              case rel => exact ⟨_, ((a0 == 92)), (by first | rfl | (simp; done) | (simp [*]; done)), H', ⟨by first | omega | exact Nat.le_refl _⟩, by repeat (first | exact Drawn0.refl _ | apply Drawn0.step)⟩
            · rw [if_neg c7] at H
              have c7b0 : (a0 == 92) = false := beq_eq_false_iff_ne.mpr c7
              have c7b1 : (a0 != 92) = true := bne_iff_ne.mpr c7
              by_cases c8 : a0 = 94
              · rw [if_pos c8] at H
                have c8b0 : (a0 == 94) = true := beq_iff_eq.mpr c8
                have c8b1 : (a0 != 94) = false := bne_eq_false_iff_eq.mpr c8
                clear c8
                have H' := Aside0.mk H
                clear H
                go_wp2
                go_meet
                case rel => exact ⟨_, ((a0 == 94)), (by first | rfl | (simp; done) | (simp [*]; done)), H', ⟨by first | omega | exact Nat.le_refl _⟩, by repeat (first | exact Drawn0.refl _ | apply Drawn0.step)⟩
              · rw [if_neg c8] at H
                have c8b0 : (a0 == 94) = false := beq_eq_false_iff_ne.mpr c8
                have c8b1 : (a0 != 94) = true := bne_iff_ne.mpr c8
                by_cases c9 : a0 = 60
                · rw [if_pos c9] at H
                  have c9b0 : (a0 == 60) = true := beq_iff_eq.mpr c9
                  have c9b1 : (a0 != 60) = false := bne_eq_false_iff_eq.mpr c9
                  clear c9
                  have H' := Aside0.mk H
                  clear H
                  go_wp2
                  go_meet
                  case rel => exact ⟨_, ((a0 == 60)), (by first | rfl | (simp; done) | (simp [*]; done)), H', ⟨by first | omega | exact Nat.le_refl _⟩, by repeat (first | exact Drawn0.refl _ | apply Drawn0.step)⟩
                · rw [if_neg c9] at H
                  have c9b0 : (a0 == 60) = false := beq_eq_false_iff_ne.mpr c9
                  have c9b1 : (a0 != 60) = true := bne_iff_ne.mpr c9
                  by_cases c10 : a0 = 62
                  · rw [if_pos c10] at H
                    have c10b0 : (a0 == 62) = true := beq_iff_eq.mpr c10
                    have c10b1 : (a0 != 62) = false := bne_eq_false_iff_eq.mpr c10
                    clear c10
                    have H' := Aside0.mk H
                    clear H
                    go_wp2
                    go_meet
                    case rel => exact ⟨_, ((a0 == 62)), (by first | rfl | (simp; done) | (simp [*]; done)), H', ⟨by first | omega | exact Nat.le_refl _⟩, by repeat (first | exact Drawn0.refl _ | apply Drawn0.step)⟩
                  · rw [if_neg c10] at H
                    have c10b0 : (a0 == 62) = false := beq_eq_false_iff_ne.mpr c10
                    have c10b1 : (a0 != 62) = true := bne_iff_ne.mpr c10
                    by_cases c11 : a0 = 61
                    · rw [if_pos c11] at H
                      have c11b0 : (a0 == 61) = true := beq_iff_eq.mpr c11
                      have c11b1 : (a0 != 61) = false := bne_eq_false_iff_eq.mpr c11
                      clear c11
                      have H' := Aside0.mk H
                      clear H
                      go_wp2
                      go_meet
                      case rel => exact ⟨_, ((a0 == 61)), (by first | rfl | (simp; done) | (simp [*]; done)), H', ⟨by first | omega | exact Nat.le_refl _⟩, by repeat (first | exact Drawn0.refl _ | apply Drawn0.step)⟩
                    · rw [if_neg c11] at H
                      have c11b0 : (a0 == 61) = false := beq_eq_false_iff_ne.mpr c11
                      have c11b1 : (a0 != 61) = true := bne_iff_ne.mpr c11
                      by_cases c12 : a0 = 126
                      · rw [if_pos c12] at H
                        have c12b0 : (a0 == 126) = true := beq_iff_eq.mpr c12
                        have c12b1 : (a0 != 126) = false := bne_eq_false_iff_eq.mpr c12
                        clear c12
                        have H' := Aside0.mk H
                        clear H
                        go_wp2
                        go_meet
                        case rel => exact ⟨_, ((a0 == 126)), (by first | rfl | (simp; done) | (simp [*]; done)), H', ⟨by first | omega | exact Nat.le_refl _⟩, by repeat (first | exact Drawn0.refl _ | apply Drawn0.step)⟩
                      · rw [if_neg c12] at H
                        have c12b0 : (a0 == 126) = false := beq_eq_false_iff_ne.mpr c12
                        have c12b1 : (a0 != 126) = true := bne_iff_ne.mpr c12
                        by_cases c13 : a0 = 58
                        · rw [if_pos c13] at H
                          have c13b0 : (a0 == 58) = true := beq_iff_eq.mpr c13
                          have c13b1 : (a0 != 58) = false := bne_eq_false_iff_eq.mpr c13
                          clear c13
                          have H' := Aside0.mk H
                          clear H
                          go_wp2
                          go_meet
                          case rel => exact ⟨_, ((a0 == 58)), (by first | rfl | (simp; done) | (simp [*]; done)), H', ⟨by first | omega | exact Nat.le_refl _⟩, by repeat (first | exact Drawn0.refl _ | apply Drawn0.step)⟩
                        · rw [if_neg c13] at H
                          have c13b0 : (a0 == 58) = false := beq_eq_false_iff_ne.mpr c13
                          have c13b1 : (a0 != 58) = true := bne_iff_ne.mpr c13
                          by_cases c14 : a0 = 46
                          · rw [if_pos c14] at H
                            have c14b0 : (a0 == 46) = true := beq_iff_eq.mpr c14
                            have c14b1 : (a0 != 46) = false := bne_eq_false_iff_eq.mpr c14
                            clear c14
                            have H' := Aside0.mk H
                            clear H
                            go_wp2
                            go_meet
                            case rel => exact ⟨_, ((a0 == 46)), (by first | rfl | (simp; done) | (simp [*]; done)), H', ⟨by first | omega | exact Nat.le_refl _⟩, by repeat (first | exact Drawn0.refl _ | apply Drawn0.step)⟩
                          · rw [if_neg c14] at H
                            have c14b0 : (a0 == 46) = false := beq_eq_false_iff_ne.mpr c14
                            have c14b1 : (a0 != 46) = true := bne_iff_ne.mpr c14
                            by_cases c15 : a0 = 63
                            · rw [if_pos c15] at H
                              have c15b0 : (a0 == 63) = true := beq_iff_eq.mpr c15
                              have c15b1 : (a0 != 63) = false := bne_eq_false_iff_eq.mpr c15
                              clear c15
                              have H' := Aside0.mk H
                              clear H
                              go_wp2
                              go_meet
                              case rel => exact ⟨_, ((a0 == 63)), (by first | rfl | (simp; done) | (simp [*]; done)), H', ⟨by first | omega | exact Nat.le_refl _⟩, by repeat (first | exact Drawn0.refl _ | apply Drawn0.step)⟩
                            · rw [if_neg c15] at H
                              have c15b0 : (a0 == 63) = false := beq_eq_false_iff_ne.mpr c15
                              have c15b1 : (a0 != 63) = true := bne_iff_ne.mpr c15
                              by_cases c16 : a0 = 64
                              · rw [if_pos c16] at H
                                have c16b0 : (a0 == 64) = true := beq_iff_eq.mpr c16
                                have c16b1 : (a0 != 64) = false := bne_eq_false_iff_eq.mpr c16
                                clear c16
                                have H' := Aside0.mk H
                                clear H
                                go_wp2
                                go_meet
                                case rel => exact ⟨_, ((a0 == 64)), (by first | rfl | (simp; done) | (simp [*]; done)), H', ⟨by first | omega | exact Nat.le_refl _⟩, by repeat (first | exact Drawn0.refl _ | apply Drawn0.step)⟩
                              · rw [if_neg c16] at H
                                have c16b0 : (a0 == 64) = false := beq_eq_false_iff_ne.mpr c16
                                have c16b1 : (a0 != 64) = true := bne_iff_ne.mpr c16
                                by_cases c17 : a0 = 35
                                · rw [if_pos c17] at H
                                  have c17b0 : (a0 == 35) = true := beq_iff_eq.mpr c17
                                  have c17b1 : (a0 != 35) = false := bne_eq_false_iff_eq.mpr c17
                                  clear c17
                                  have H' := Aside0.mk H
                                  clear H
                                  go_wp2
                                  go_meet
                                  case rel => exact ⟨_, ((a0 == 35)), (by first | rfl | (simp; done) | (simp [*]; done)), H', ⟨by first | omega | exact Nat.le_refl _⟩, by repeat (first | exact Drawn0.refl _ | apply Drawn0.step)⟩
                                · rw [if_neg c17] at H
                                  have c17b0 : (a0 == 35) = false := beq_eq_false_iff_ne.mpr c17
                                  have c17b1 : (a0 != 35) = true := bne_iff_ne.mpr c17
                                  by_cases c18 : a0 = 38
                                  · rw [if_pos c18] at H
                                    have c18b0 : (a0 == 38) = true := beq_iff_eq.mpr c18
                                    have c18b1 : (a0 != 38) = false := bne_eq_false_iff_eq.mpr c18
                                    clear c18
                                    have H' := Aside0.mk H
                                    clear H
                                    go_wp2
                                    go_meet
                                    case rel => exact ⟨_, ((a0 == 38)), (by first | rfl | (simp; done) | (simp [*]; done)), H', ⟨by first | omega | exact Nat.le_refl _⟩, by repeat (first | exact Drawn0.refl _ | apply Drawn0.step)⟩
                                  · rw [if_neg c18] at H
                                    have c18b0 : (a0 == 38) = false := beq_eq_false_iff_ne.mpr c18
                                    have c18b1 : (a0 != 38) = true := bne_iff_ne.mpr c18
                                    have H' := Aside0.mk H
                                    clear H
                                    go_wp2
                                    go_meet
                                    case rel => exact ⟨_, ((a0 == 36)), (by first | rfl | (simp; done) | (simp [*]; done)), H', ⟨by first | omega | exact Nat.le_refl _⟩, by repeat (first | exact Drawn0.refl _ | apply Drawn0.step)⟩
  case rest =>
    clear HC2
    try clear c1
    try clear c2
    try clear p2
    try clear c3
    try clear c3b0
    try clear c3b1
    try clear c4
    try clear c4b0
    try clear c4b1
    try clear c5
    try clear c5b0
    try clear c5b1
    try clear c6
    try clear c6b0
    try clear c6b1
    try clear c7
    try clear c7b0
    try clear c7b1
    try clear c8
    try clear c8b0
    try clear c8b1
    try clear c9
    try clear c9b0
    try clear c9b1
    try clear c10
    try clear c10b0
    try clear c10b1
    try clear c11
    try clear c11b0
    try clear c11b1
    try clear c12
    try clear c12b0
    try clear c12b1
    try clear c13
    try clear c13b0
    try clear c13b1
    try clear c14
    try clear c14b0
    try clear c14b1
    try clear c15
    try clear c15b0
    try clear c15b1
    try clear c16
    try clear c16b0
    try clear c16b1
    try clear c17
    try clear c17b0
    try clear c17b1
    try clear c18
    try clear c18b0
    try clear c18b1
    obtain ⟨kq, x4_1, rfl, HA, HJ1, ⟨mc1, rfl⟩⟩ := hcut
    cases kq with
    | zero => exact absurd HA.out (by simp [char_Class.j0])
    | succ kj1 =>
      have H := HA.out
      clear HA
      simp only [char_Class.j0] at H
      by_cases c19 : x4_1 = true
      · subst c19
        have H1 : (some 4) = some r := by rw [if_pos rfl] at H; exact H
        clear H
        have H := H1
        clear H1
        obtain rfl := Option.some.inj H
        go_wp2
        go_ret
        exact ⟨by first | rfl | (simp; done) | (simp [*]; done), by repeat (first | exact Drawn0.refl _ | apply Drawn0.step)⟩
      · replace c19 := Bool.eq_false_iff.mpr c19
        subst c19
        have H1 : (if a0 = 9 then (char_Class.j1 kj1 a0 a0 (a0 == 9)) else (if a0 = 10 then (char_Class.j1 kj1 a0 a0 (a0 == 10)) else (if a0 = 13 then (char_Class.j1 kj1 a0 a0 (a0 == 13)) else (char_Class.j1 kj1 a0 a0 (a0 == 32))))) = some r := by rw [if_neg (show ¬ (false = true) by decide)] at H; exact H
        clear H
        have H := H1
        clear H1
        have HC20 := Aside0.mk H
        clear H
        go_upto_if 22 with (fail)
        go_cut [22] (fun v22 wc => ∃ (kq : Nat) (x22_19 : Bool), v22 = .bool x22_19 ∧ Aside0 (char_Class.j1 kq a0 a0 x22_19 = some r) ∧ Aside0 (kq ≤ kj1) ∧ Drawn0 w wc)
        case first =>
          have H := HC20.out
          clear HC20
          by_cases c21 : a0 = 9
          · rw [if_pos c21] at H
            have c21b0 : (a0 == 9) = true := beq_iff_eq.mpr c21
            have c21b1 : (a0 != 9) = false := bne_eq_false_iff_eq.mpr c21
            clear c21
            (first | rw [c21b0] | (simp only [i64_w, i32_w]; rw [c21b0]) | skip)
            have H' := Aside0.mk H
            clear H
            go_wp2
            go_meet
            case rel => exact ⟨_, ((a0 == 9)), (by first | rfl | (simp; done) | (simp [*]; done)), H', ⟨by have := HJ1.out; first | omega | exact Nat.le_refl _⟩, by repeat (first | exact Drawn0.refl _ | apply Drawn0.step)⟩
          · rw [if_neg c21] at H
            have c21b0 : (a0 == 9) = false := beq_eq_false_iff_ne.mpr c21
            have c21b1 : (a0 != 9) = true := bne_iff_ne.mpr c21
            (first | rw [c21b0] | (simp only [i64_w, i32_w]; rw [c21b0]) | skip)
            by_cases c22 : a0 = 10
            · rw [if_pos c22] at H
              have c22b0 : (a0 == 10) = true := beq_iff_eq.mpr c22
              have c22b1 : (a0 != 10) = false := bne_eq_false_iff_eq.mpr c22
              clear c22
              have H' := Aside0.mk H
              clear H
              go_wp2
              go_meet
              case rel => exact ⟨_, ((a0 == 10)), (by first | rfl | (simp; done) | (simp [*]; done)), H', ⟨by have := HJ1.out; first | omega | exact Nat.le_refl _⟩, by repeat (first | exact Drawn0.refl _ | apply Drawn0.step)⟩
            · rw [if_neg c22] at H
              have c22b0 : (a0 == 10) = false := beq_eq_false_iff_ne.mpr c22
              have c22b1 : (a0 != 10) = true := bne_iff_ne.mpr c22
              by_cases c23 : a0 = 13
              · rw [if_pos c23] at H
                have c23b0 : (a0 == 13) = true := beq_iff_eq.mpr c23
                have c23b1 : (a0 != 13) = false := bne_eq_false_iff_eq.mpr c23
                clear c23
                have H' := Aside0.mk H
                clear H
                go_wp2
                go_meet
                case rel => exact ⟨_, ((a0 == 13)), (by first | rfl | (simp; done) | (simp [*]; done)), H', ⟨by have := HJ1.out; first | omega | exact Nat.le_refl _⟩, by repeat (first | exact Drawn0.refl _ | apply Drawn0.step)⟩
              · rw [if_neg c23] at H
                have c23b0 : (a0 == 13) = false := beq_eq_false_iff_ne.mpr c23
                have c23b1 : (a0 != 13) = true := bne_iff_ne.mpr c23
                have H' := Aside0.mk H
                clear H
                go_wp2
                go_meet
                case rel => exact ⟨_, ((a0 == 32)), (by first | rfl | (simp; done) | (simp [*]; done)), H', ⟨by have := HJ1.out; first | omega | exact Nat.le_refl _⟩, by repeat (first | exact Drawn0.refl _ | apply Drawn0.step)⟩
        case rest =>
          clear HC20
          try clear c1
          try clear c2
          try clear p2
          try clear c3
          try clear c3b0
          try clear c3b1
          try clear c4
          try clear c4b0
          try clear c4b1
          try clear c5
          try clear c5b0
          try clear c5b1
          try clear c6
          try clear c6b0
          try clear c6b1
          try clear c7
          try clear c7b0
          try clear c7b1
          try clear c8
          try clear c8b0
          try clear c8b1
          try clear c9
          try clear c9b0
          try clear c9b1
          try clear c10
          try clear c10b0
          try clear c10b1
          try clear c11
          try clear c11b0
          try clear c11b1
          try clear c12
          try clear c12b0
          try clear c12b1
          try clear c13
          try clear c13b0
          try clear c13b1
          try clear c14
          try clear c14b0
          try clear c14b1
          try clear c15
          try clear c15b0
          try clear c15b1
          try clear c16
          try clear c16b0
          try clear c16b1
          try clear c17
          try clear c17b0
          try clear c17b1
          try clear c18
          try clear c18b0
          try clear c18b1
          try clear c19
          try clear c21
          try clear c21b0
          try clear c21b1
          try clear c22
          try clear c22b0
          try clear c22b1
          try clear c23
          try clear c23b0
          try clear c23b1
          try clear p2
          obtain ⟨kq, x22_19, rfl, HA, HJ19, ⟨mc19, rfl⟩⟩ := hcut
          cases kq with
          | zero => exact absurd HA.out (by simp [char_Class.j1])
          | succ kj19 =>
            have H := HA.out
            clear HA
            simp only [char_Class.j1] at H
            by_cases c24 : x22_19 = true
            · subst c24
              have H1 : (some 5) = some r := by rw [if_pos rfl] at H; exact H
              clear H
              have H := H1
              clear H1
              obtain rfl := Option.some.inj H
              go_wp2
              go_ret
              exact ⟨by first | rfl | (simp; done) | (simp [*]; done), by repeat (first | exact Drawn0.refl _ | apply Drawn0.step)⟩
            · replace c24 := Bool.eq_false_iff.mpr c24
              subst c24
              have H1 : (if a0 = 33 then (char_Class.j2 kj19 a0 a0 (a0 == 33)) else (if a0 = 59 then (char_Class.j2 kj19 a0 a0 (a0 == 59)) else (if a0 = 44 then (char_Class.j2 kj19 a0 a0 (a0 == 44)) else (char_Class.j2 kj19 a0 a0 (a0 == 124))))) = some r := by rw [if_neg (show ¬ (false = true) by decide)] at H; exact H
              clear H
              have H := H1
              clear H1
              have HC25 := Aside0.mk H
              clear H
              go_upto_if 27 with (fail)
              go_cut [27] (fun v27 wc => ∃ (kq : Nat) (x27_24 : Bool), v27 = .bool x27_24 ∧ Aside0 (char_Class.j2 kq a0 a0 x27_24 = some r) ∧ Aside0 (kq ≤ kj19) ∧ Drawn0 w wc)
              case first =>
                have H := HC25.out
                clear HC25
                by_cases c26 : a0 = 33
                · rw [if_pos c26] at H
                  have c26b0 : (a0 == 33) = true := beq_iff_eq.mpr c26
                  have c26b1 : (a0 != 33) = false := bne_eq_false_iff_eq.mpr c26
                  clear c26
                  (first | rw [c26b0] | (simp only [i64_w, i32_w]; rw [c26b0]) | skip)
                  have H' := Aside0.mk H
                  clear H
                  go_wp2
                  go_meet
                  case rel => exact ⟨_, ((a0 == 33)), (by first | rfl | (simp; done) | (simp [*]; done)), H', ⟨by have := HJ1.out; have := HJ19.out; first | omega | exact Nat.le_refl _⟩, by repeat (first | exact Drawn0.refl _ | apply Drawn0.step)⟩
                · rw [if_neg c26] at H
                  have c26b0 : (a0 == 33) = false := beq_eq_false_iff_ne.mpr c26
                  have c26b1 : (a0 != 33) = true := bne_iff_ne.mpr c26
                  (first | rw [c26b0] | (simp only [i64_w, i32_w]; rw [c26b0]) | skip)
                  by_cases c27 : a0 = 59
                  · rw [if_pos c27] at H
                    have c27b0 : (a0 == 59) = true := beq_iff_eq.mpr c27
                    have c27b1 : (a0 != 59) = false := bne_eq_false_iff_eq.mpr c27
                    clear c27
                    have H' := Aside0.mk H
                    clear H
                    go_wp2
                    go_meet
                    case rel => exact ⟨_, ((a0 == 59)), (by first | rfl | (simp; done) | (simp [*]; done)), H', ⟨by have := HJ1.out; have := HJ19.out; first | omega | exact Nat.le_refl _⟩, by repeat (first | exact Drawn0.refl _ | apply Drawn0.step)⟩
                  · rw [if_neg c27] at H
                    have c27b0 : (a0 == 59) = false := beq_eq_false_iff_ne.mpr c27
                    have c27b1 : (a0 != 59) = true := bne_iff_ne.mpr c27
                    by_cases c28 : a0 = 44
                    · rw [if_pos c28] at H
                      have c28b0 : (a0 == 44) = true := beq_iff_eq.mpr c28
                      have c28b1 : (a0 != 44) = false := bne_eq_false_iff_eq.mpr c28
                      clear c28
                      have H' := Aside0.mk H
                      clear H
                      go_wp2
                      go_meet
                      case rel => exact ⟨_, ((a0 == 44)), (by first | rfl | (simp; done) | (simp [*]; done)), H', ⟨by have := HJ1.out; have := HJ19.out; first | omega | exact Nat.le_refl _⟩, by repeat (first | exact Drawn0.refl _ | apply Drawn0.step)⟩
                    · rw [if_neg c28] at H
                      have c28b0 : (a0 == 44) = false := beq_eq_false_iff_ne.mpr c28
                      have c28b1 : (a0 != 44) = true := bne_iff_ne.mpr c28
                      have H' := Aside0.mk H
                      clear H
                      go_wp2
                      go_meet
                      case rel => exact ⟨_, ((a0 == 124)), (by first | rfl | (simp; done) | (simp [*]; done)), H', ⟨by have := HJ1.out; have := HJ19.out; first | omega | exact Nat.le_refl _⟩, by repeat (first | exact Drawn0.refl _ | apply Drawn0.step)⟩
              case rest =>
                clear HC25
                try clear c1
                try clear c2
                try clear p2
                try clear c3
                try clear c3b0
                try clear c3b1
                try clear c4
                try clear c4b0
                try clear c4b1
                try clear c5
                try clear c5b0
                try clear c5b1
                try clear c6
                try clear c6b0
                try clear c6b1
                try clear c7
                try clear c7b0
                try clear c7b1
                try clear c8
                try clear c8b0
                try clear c8b1
                try clear c9
                try clear c9b0
                try clear c9b1
                try clear c10
                try clear c10b0
                try clear c10b1
                try clear c11
                try clear c11b0
                try clear c11b1
                try clear c12
                try clear c12b0
                try clear c12b1
                try clear c13
                try clear c13b0
                try clear c13b1
                try clear c14
                try clear c14b0
                try clear c14b1
                try clear c15
                try clear c15b0
                try clear c15b1
                try clear c16
                try clear c16b0
                try clear c16b1
                try clear c17
                try clear c17b0
                try clear c17b1
                try clear c18
                try clear c18b0
                try clear c18b1
                try clear c19
                try clear c21
                try clear c21b0
                try clear c21b1
                try clear c22
                try clear c22b0
                try clear c22b1
                try clear c23
                try clear c23b0
                try clear c23b1
                try clear c24
                try clear c26
                try clear c26b0
                try clear c26b1
                try clear c27
                try clear c27b0
                try clear c27b1
                try clear c28
                try clear c28b0
                try clear c28b1
                try clear p2
                obtain ⟨kq, x27_24, rfl, HA, HJ24, ⟨mc24, rfl⟩⟩ := hcut
                cases kq with
                | zero => exact absurd HA.out (by simp [char_Class.j2])
                | succ kj24 =>
                  have H := HA.out
                  clear HA
                  simp only [char_Class.j2] at H
                  by_cases c29 : x27_24 = true
                  · subst c29
                    have H1 : (some 6) = some r := by rw [if_pos rfl] at H; exact H
                    clear H
                    have H := H1
                    clear H1
                    obtain rfl := Option.some.inj H
                    go_wp2
                    go_ret
                    exact ⟨by first | rfl | (simp; done) | (simp [*]; done), by repeat (first | exact Drawn0.refl _ | apply Drawn0.step)⟩
                  · replace c29 := Bool.eq_false_iff.mpr c29
                    subst c29
                    have H1 : (if a0 = 40 then (char_Class.j3 kj24 a0 a0 (a0 == 40)) else (if a0 = 41 then (char_Class.j3 kj24 a0 a0 (a0 == 41)) else (if a0 = 91 then (char_Class.j3 kj24 a0 a0 (a0 == 91)) else (if a0 = 93 then (char_Class.j3 kj24 a0 a0 (a0 == 93)) else (if a0 = 123 then (char_Class.j3 kj24 a0 a0 (a0 == 123)) else (char_Class.j3 kj24 a0 a0 (a0 == 125))))))) = some r := by rw [if_neg (show ¬ (false = true) by decide)] at H; exact H
                    clear H
                    have H := H1
                    clear H1
                    have HC30 := Aside0.mk H
                    clear H
                    go_upto_if 32 with (fail)
                    go_cut [32] (fun v32 wc => ∃ (kq : Nat) (x32_29 : Bool), v32 = .bool x32_29 ∧ Aside0 (char_Class.j3 kq a0 a0 x32_29 = some r) ∧ Aside0 (kq ≤ kj24) ∧ Drawn0 w wc)
                    case first =>
                      have H := HC30.out
                      clear HC30
                      by_cases c31 : a0 = 40
                      · rw [if_pos c31] at H
                        have c31b0 : (a0 == 40) = true := beq_iff_eq.mpr c31
                        have c31b1 : (a0 != 40) = false := bne_eq_false_iff_eq.mpr c31
                        clear c31
                        (first | rw [c31b0] | (simp only [i64_w, i32_w]; rw [c31b0]) | skip)
                        have H' := Aside0.mk H
                        clear H
                        go_wp2
                        go_meet
                        case rel => exact ⟨_, ((a0 == 40)), (by first | rfl | (simp; done) | (simp [*]; done)), H', ⟨by have := HJ1.out; have := HJ19.out; have := HJ24.out; first | omega | exact Nat.le_refl _⟩, by repeat (first | exact Drawn0.refl _ | apply Drawn0.step)⟩
                      · rw [if_neg c31] at H
                        have c31b0 : (a0 == 40) = false := beq_eq_false_iff_ne.mpr c31
                        have c31b1 : (a0 != 40) = true := bne_iff_ne.mpr c31
                        (first | rw [c31b0] | (simp only [i64_w, i32_w]; rw [c31b0]) | skip)
                        by_cases c32 : a0 = 41
                        · rw [if_pos c32] at H
                          have c32b0 : (a0 == 41) = true := beq_iff_eq.mpr c32
                          have c32b1 : (a0 != 41) = false := bne_eq_false_iff_eq.mpr c32
                          clear c32
                          have H' := Aside0.mk H
                          clear H
                          go_wp2
                          go_meet
                          case rel => exact ⟨_, ((a0 == 41)), (by first | rfl | (simp; done) | (simp [*]; done)), H', ⟨by have := HJ1.out; have := HJ19.out; have := HJ24.out; first | omega | exact Nat.le_refl _⟩, by repeat (first | exact Drawn0.refl _ | apply Drawn0.step)⟩
                        · rw [if_neg c32] at H
                          have c32b0 : (a0 == 41) = false := beq_eq_false_iff_ne.mpr c32
                          have c32b1 : (a0 != 41) = true := bne_iff_ne.mpr c32
                          by_cases c33 : a0 = 91
                          · rw [if_pos c33] at H
                            have c33b0 : (a0 == 91) = true := beq_iff_eq.mpr c33
                            have c33b1 : (a0 != 91) = false := bne_eq_false_iff_eq.mpr c33
                            clear c33
                            have H' := Aside0.mk H
                            clear H
                            go_wp2
                            go_meet
                            case rel => exact ⟨_, ((a0 == 91)), (by first | rfl | (simp; done) | (simp [*]; done)), H', ⟨by have := HJ1.out; have := HJ19.out; have := HJ24.out; first | omega | exact Nat.le_refl _⟩, by repeat (first | exact Drawn0.refl _ | apply Drawn0.step)⟩
                          · rw [if_neg c33] at H
                            have c33b0 : (a0 == 91) = false := beq_eq_false_iff_ne.mpr c33
                            have c33b1 : (a0 != 91) = true := bne_iff_ne.mpr c33
                            by_cases c34 : a0 = 93
                            · rw [if_pos c34] at H
                              have c34b0 : (a0 == 93) = true := beq_iff_eq.mpr c34
                              have c34b1 : (a0 != 93) = false := bne_eq_false_iff_eq.mpr c34
                              clear c34
                              have H' := Aside0.mk H
                              clear H
                              go_wp2
                              go_meet
                              case rel => exact ⟨_, ((a0 == 93)), (by first | rfl | (simp; done) | (simp [*]; done)), H', ⟨by have := HJ1.out; have := HJ19.out; have := HJ24.out; first | omega | exact Nat.le_refl _⟩, by repeat (first | exact Drawn0.refl _ | apply Drawn0.step)⟩
                            · rw [if_neg c34] at H
                              have c34b0 : (a0 == 93) = false := beq_eq_false_iff_ne.mpr c34
                              have c34b1 : (a0 != 93) = true := bne_iff_ne.mpr c34
                              by_cases c35 : a0 = 123
                              · rw [if_pos c35] at H
                                have c35b0 : (a0 == 123) = true := beq_iff_eq.mpr c35
                                have c35b1 : (a0 != 123) = false := bne_eq_false_iff_eq.mpr c35
                                clear c35
                                have H' := Aside0.mk H
                                clear H
                                go_wp2
                                go_meet
                                case rel => exact ⟨_, ((a0 == 123)), (by first | rfl | (simp; done) | (simp [*]; done)), H', ⟨by have := HJ1.out; have := HJ19.out; have := HJ24.out; first | omega | exact Nat.le_refl _⟩, by repeat (first | exact Drawn0.refl _ | apply Drawn0.step)⟩
                              · rw [if_neg c35] at H
                                have c35b0 : (a0 == 123) = false := beq_eq_false_iff_ne.mpr c35
                                have c35b1 : (a0 != 123) = true := bne_iff_ne.mpr c35
                                have H' := Aside0.mk H
                                clear H
                                go_wp2
                                go_meet
                                case rel => exact ⟨_, ((a0 == 125)), (by first | rfl | (simp; done) | (simp [*]; done)), H', ⟨by have := HJ1.out; have := HJ19.out; have := HJ24.out; first | omega | exact Nat.le_refl _⟩, by repeat (first | exact Drawn0.refl _ | apply Drawn0.step)⟩
                    case rest =>
                      clear HC30
                      try clear c1
                      try clear c2
                      try clear p2
                      try clear c3
                      try clear c3b0
                      try clear c3b1
                      try clear c4
                      try clear c4b0
                      try clear c4b1
                      try clear c5
                      try clear c5b0
                      try clear c5b1
                      try clear c6
                      try clear c6b0
                      try clear c6b1
                      try clear c7
                      try clear c7b0
                      try clear c7b1
                      try clear c8
                      try clear c8b0
                      try clear c8b1
                      try clear c9
                      try clear c9b0
                      try clear c9b1
                      try clear c10
                      try clear c10b0
                      try clear c10b1
                      try clear c11
                      try clear c11b0
                      try clear c11b1
                      try clear c12
                      try clear c12b0
                      try clear c12b1
                      try clear c13
                      try clear c13b0
                      try clear c13b1
                      try clear c14
                      try clear c14b0
                      try clear c14b1
                      try clear c15
                      try clear c15b0
                      try clear c15b1
                      try clear c16
                      try clear c16b0
                      try clear c16b1
                      try clear c17
                      try clear c17b0
                      try clear c17b1
                      try clear c18
                      try clear c18b0
                      try clear c18b1
                      try clear c19
                      try clear c21
                      try clear c21b0
                      try clear c21b1
                      try clear c22
                      try clear c22b0
                      try clear c22b1
                      try clear c23
                      try clear c23b0
                      try clear c23b1
                      try clear c24
                      try clear c26
                      try clear c26b0
                      try clear c26b1
                      try clear c27
                      try clear c27b0
                      try clear c27b1
                      try clear c28
                      try clear c28b0
                      try clear c28b1
                      try clear c29
                      try clear c31
                      try clear c31b0
                      try clear c31b1
                      try clear c32
                      try clear c32b0
                      try clear c32b1
                      try clear c33
                      try clear c33b0
                      try clear c33b1
                      try clear c34
                      try clear c34b0
                      try clear c34b1
                      try clear c35
                      try clear c35b0
                      try clear c35b1
                      try clear p2
                      obtain ⟨kq, x32_29, rfl, HA, HJ29, ⟨mc29, rfl⟩⟩ := hcut
                      cases kq with
                      | zero => exact absurd HA.out (by simp [char_Class.j3])
                      | succ kj29 =>
                        have H := HA.out
                        clear HA
                        simp only [char_Class.j3] at H
                        by_cases c36 : x32_29 = true
                        · subst c36
                          have H1 : (some 7) = some r := by rw [if_pos rfl] at H; exact H
                          clear H
                          have H := H1
                          clear H1
                          obtain rfl := Option.some.inj H
                          go_wp2
                          go_ret
                          exact ⟨by first | rfl | (simp; done) | (simp [*]; done), by repeat (first | exact Drawn0.refl _ | apply Drawn0.step)⟩
                        · replace c36 := Bool.eq_false_iff.mpr c36
                          subst c36
                          have H1 : (if a0 = 39 then (some 8) else (if a0 = 95 then (some 2) else (if 97 ≤ a0 then (char_Class.j4 kj29 a0 (decide (a0 ≤ 122))) else (char_Class.j4 kj29 a0 false)))) = some r := by rw [if_neg (show ¬ (false = true) by decide)] at H; exact H
                          clear H
                          have H := H1
                          clear H1
                          by_cases c37 : a0 = 39
                          · rw [if_pos c37] at H
                            have c37b0 : (a0 == 39) = true := beq_iff_eq.mpr c37
                            have c37b1 : (a0 != 39) = false := bne_eq_false_iff_eq.mpr c37
                            clear c37
                            obtain rfl := Option.some.inj H
                            go_wp2
                            go_ret
                            exact ⟨by first | rfl | (simp; done) | (simp [*]; done), by repeat (first | exact Drawn0.refl _ | apply Drawn0.step)⟩
                          · rw [if_neg c37] at H
                            have c37b0 : (a0 == 39) = false := beq_eq_false_iff_ne.mpr c37
                            have c37b1 : (a0 != 39) = true := bne_iff_ne.mpr c37
                            by_cases c38 : a0 = 95
                            · rw [if_pos c38] at H
                              have c38b0 : (a0 == 95) = true := beq_iff_eq.mpr c38
                              have c38b1 : (a0 != 95) = false := bne_eq_false_iff_eq.mpr c38
                              clear c38
                              obtain rfl := Option.some.inj H
                              go_wp2
                              go_ret
                              exact ⟨by first | rfl | (simp; done) | (simp [*]; done), by repeat (first | exact Drawn0.refl _ | apply Drawn0.step)⟩
                            · rw [if_neg c38] at H
                              have c38b0 : (a0 == 95) = false := beq_eq_false_iff_ne.mpr c38
                              have c38b1 : (a0 != 95) = true := bne_iff_ne.mpr c38
                              have HC39 := Aside0.mk H
                              clear H
                              go_upto_region 41 with (fail)
                              go_cut [43] (fun v43 wc => ∃ (kq : Nat) (x43_38 : Bool), v43 = .bool x43_38 ∧ Aside0 (char_Class.j4 kq a0 x43_38 = some r) ∧ Aside0 (kq ≤ kj29) ∧ Drawn0 w wc)
                              case first =>
                                have H := HC39.out
                                clear HC39
                                by_cases c40 : 97 ≤ a0
                                · rw [if_pos c40] at H
                                  have c40b0 : decide (97 ≤ a0) = true := decide_eq_true c40
                                  clear c40
                                  (first | rw [c40b0] | (simp only [i64_w, i32_w]; rw [c40b0]) | skip)
                                  have H' := Aside0.mk H
                                  clear H
                                  go_wp2
                                  go_meet
                                  case rel => exact ⟨_, (decide (a0 ≤ 122)), (by first | rfl | (simp; done) | (simp [*]; done)), H', ⟨by have := HJ1.out; have := HJ19.out; have := HJ24.out; have := HJ29.out; first | omega | exact Nat.le_refl _⟩, by repeat (first | exact Drawn0.refl _ | apply Drawn0.step)⟩
                                · rw [if_neg c40] at H
                                  have c40b0 : decide (97 ≤ a0) = false := decide_eq_false c40
                                  clear c40
                                  (first | rw [c40b0] | (simp only [i64_w, i32_w]; rw [c40b0]) | skip)
                                  have H' := Aside0.mk H
                                  clear H
                                  go_wp2
                                  go_meet
                                  case rel => exact ⟨_, (false), (by first | rfl | (simp; done) | (simp [*]; done)), H', ⟨by have := HJ1.out; have := HJ19.out; have := HJ24.out; have := HJ29.out; first | omega | exact Nat.le_refl _⟩, by repeat (first | exact Drawn0.refl _ | apply Drawn0.step)⟩
                              case rest =>
                                clear HC39
                                try clear c1
                                try clear c2
                                try clear p2
                                try clear c3
                                try clear c3b0
                                try clear c3b1
                                try clear c4
                                try clear c4b0
                                try clear c4b1
                                try clear c5
                                try clear c5b0
                                try clear c5b1
                                try clear c6
                                try clear c6b0
                                try clear c6b1
                                try clear c7
                                try clear c7b0
                                try clear c7b1
                                try clear c8
                                try clear c8b0
                                try clear c8b1
                                try clear c9
                                try clear c9b0
                                try clear c9b1
                                try clear c10
                                try clear c10b0
                                try clear c10b1
                                try clear c11
                                try clear c11b0
                                try clear c11b1
                                try clear c12
                                try clear c12b0
                                try clear c12b1
                                try clear c13
                                try clear c13b0
                                try clear c13b1
                                try clear c14
                                try clear c14b0
                                try clear c14b1
                                try clear c15
                                try clear c15b0
                                try clear c15b1
                                try clear c16
                                try clear c16b0
                                try clear c16b1
                                try clear c17
                                try clear c17b0
                                try clear c17b1
                                try clear c18
                                try clear c18b0
                                try clear c18b1
                                try clear c19
                                try clear c21
                                try clear c21b0
                                try clear c21b1
                                try clear c22
                                try clear c22b0
                                try clear c22b1
                                try clear c23
                                try clear c23b0
                                try clear c23b1
                                try clear c24
                                try clear c26
                                try clear c26b0
                                try clear c26b1
                                try clear c27
                                try clear c27b0
                                try clear c27b1
                                try clear c28
                                try clear c28b0
                                try clear c28b1
                                try clear c29
                                try clear c31
                                try clear c31b0
                                try clear c31b1
                                try clear c32
                                try clear c32b0
                                try clear c32b1
                                try clear c33
                                try clear c33b0
                                try clear c33b1
                                try clear c34
                                try clear c34b0
                                try clear c34b1
                                try clear c35
                                try clear c35b0
                                try clear c35b1
                                try clear c36
                                try clear c37
                                try clear c37b0
                                try clear c37b1
                                try clear c38
                                try clear c38b0
                                try clear c38b1
                                try clear c40
                                try clear c40b0
                                try clear p2
                                obtain ⟨kq, x43_38, rfl, HA, HJ38, ⟨mc38, rfl⟩⟩ := hcut
                                cases kq with
                                | zero => exact absurd HA.out (by simp [char_Class.j4])
                                | succ kj38 =>
                                  have H := HA.out
                                  clear HA
                                  simp only [char_Class.j4] at H
                                  by_cases c41 : x43_38 = true
                                  · subst c41
                                    have H1 : (some 1) = some r := by rw [if_pos rfl] at H; exact H
                                    clear H
                                    have H := H1
                                    clear H1
                                    obtain rfl := Option.some.inj H
                                    go_wp2
                                    go_ret
                                    exact ⟨by first | rfl | (simp; done) | (simp [*]; done), by repeat (first | exact Drawn0.refl _ | apply Drawn0.step)⟩
                                  · replace c41 := Bool.eq_false_iff.mpr c41
                                    subst c41
                                    have H1 : (if 65 ≤ a0 then (char_Class.j5 kj38 a0 (decide (a0 ≤ 90))) else (char_Class.j5 kj38 a0 false)) = some r := by rw [if_neg (show ¬ (false = true) by decide)] at H; exact H
                                    clear H
                                    have H := H1
                                    clear H1
                                    have HC42 := Aside0.mk H
                                    clear H
                                    go_upto_region 43 with (fail)
                                    go_cut [50] (fun v50 wc => ∃ (kq : Nat) (x50_41 : Bool), v50 = .bool x50_41 ∧ Aside0 (char_Class.j5 kq a0 x50_41 = some r) ∧ Aside0 (kq ≤ kj38) ∧ Drawn0 w wc)
                                    case first =>
                                      have H := HC42.out
                                      clear HC42
                                      by_cases c43 : 65 ≤ a0
                                      · rw [if_pos c43] at H
                                        have c43b0 : decide (65 ≤ a0) = true := decide_eq_true c43
                                        clear c43
                                        (first | rw [c43b0] | (simp only [i64_w, i32_w]; rw [c43b0]) | skip)
                                        have H' := Aside0.mk H
                                        clear H
                                        go_wp2
                                        go_meet
                                        case rel => exact ⟨_, (decide (a0 ≤ 90)), (by first | rfl | (simp; done) | (simp [*]; done)), H', ⟨by have := HJ1.out; have := HJ19.out; have := HJ24.out; have := HJ29.out; have := HJ38.out; first | omega | exact Nat.le_refl _⟩, by repeat (first | exact Drawn0.refl _ | apply Drawn0.step)⟩
                                      · rw [if_neg c43] at H
                                        have c43b0 : decide (65 ≤ a0) = false := decide_eq_false c43
                                        clear c43
                                        (first | rw [c43b0] | (simp only [i64_w, i32_w]; rw [c43b0]) | skip)
                                        have H' := Aside0.mk H
                                        clear H
                                        go_wp2
                                        go_meet
                                        case rel => exact ⟨_, (false), (by first | rfl | (simp; done) | (simp [*]; done)), H', ⟨by have := HJ1.out; have := HJ19.out; have := HJ24.out; have := HJ29.out; have := HJ38.out; first | omega | exact Nat.le_refl _⟩, by repeat (first | exact Drawn0.refl _ | apply Drawn0.step)⟩
                                    case rest =>
                                      clear HC42
                                      try clear c1
                                      try clear c2
                                      try clear p2
                                      try clear c3
                                      try clear c3b0
                                      try clear c3b1
                                      try clear c4
                                      try clear c4b0
                                      try clear c4b1
                                      try clear c5
                                      try clear c5b0
                                      try clear c5b1
                                      try clear c6
                                      try clear c6b0
                                      try clear c6b1
                                      try clear c7
                                      try clear c7b0
                                      try clear c7b1
                                      try clear c8
                                      try clear c8b0
                                      try clear c8b1
                                      try clear c9
                                      try clear c9b0
                                      try clear c9b1
                                      try clear c10
                                      try clear c10b0
                                      try clear c10b1
                                      try clear c11
                                      try clear c11b0
                                      try clear c11b1
                                      try clear c12
                                      try clear c12b0
                                      try clear c12b1
                                      try clear c13
                                      try clear c13b0
                                      try clear c13b1
                                      try clear c14
                                      try clear c14b0
                                      try clear c14b1
                                      try clear c15
                                      try clear c15b0
                                      try clear c15b1
                                      try clear c16
                                      try clear c16b0
                                      try clear c16b1
                                      try clear c17
                                      try clear c17b0
                                      try clear c17b1
                                      try clear c18
                                      try clear c18b0
                                      try clear c18b1
                                      try clear c19
                                      try clear c21
                                      try clear c21b0
                                      try clear c21b1
                                      try clear c22
                                      try clear c22b0
                                      try clear c22b1
                                      try clear c23
                                      try clear c23b0
                                      try clear c23b1
                                      try clear c24
                                      try clear c26
                                      try clear c26b0
                                      try clear c26b1
                                      try clear c27
                                      try clear c27b0
                                      try clear c27b1
                                      try clear c28
                                      try clear c28b0
                                      try clear c28b1
                                      try clear c29
                                      try clear c31
                                      try clear c31b0
                                      try clear c31b1
                                      try clear c32
                                      try clear c32b0
                                      try clear c32b1
                                      try clear c33
                                      try clear c33b0
                                      try clear c33b1
                                      try clear c34
                                      try clear c34b0
                                      try clear c34b1
                                      try clear c35
                                      try clear c35b0
                                      try clear c35b1
                                      try clear c36
                                      try clear c37
                                      try clear c37b0
                                      try clear c37b1
                                      try clear c38
                                      try clear c38b0
                                      try clear c38b1
                                      try clear c40
                                      try clear c40b0
                                      try clear c41
                                      try clear c43
                                      try clear c43b0
                                      try clear p2
                                      obtain ⟨kq, x50_41, rfl, HA, HJ41, ⟨mc41, rfl⟩⟩ := hcut
                                      cases kq with
                                      | zero => exact absurd HA.out (by simp [char_Class.j5])
                                      | succ kj41 =>
                                        have H := HA.out
                                        clear HA
                                        simp only [char_Class.j5] at H
                                        by_cases c44 : x50_41 = true
                                        · subst c44
                                          have H1 : (some 2) = some r := by rw [if_pos rfl] at H; exact H
                                          clear H
                                          have H := H1
                                          clear H1
                                          obtain rfl := Option.some.inj H
                                          go_wp2
                                          go_ret
                                          exact ⟨by first | rfl | (simp; done) | (simp [*]; done), by repeat (first | exact Drawn0.refl _ | apply Drawn0.step)⟩
                                        · replace c44 := Bool.eq_false_iff.mpr c44
                                          subst c44
                                          have H1 : (if 48 ≤ a0 then (if a0 ≤ 57 then (some 3) else (some 0)) else (some 0)) = some r := by rw [if_neg (show ¬ (false = true) by decide)] at H; exact H
                                          clear H
                                          have H := H1
                                          clear H1
                                          by_cases c45 : 48 ≤ a0
                                          · rw [if_pos c45] at H
                                            have c45b0 : decide (48 ≤ a0) = true := decide_eq_true c45
                                            clear c45
                                            by_cases c46 : a0 ≤ 57
                                            · rw [if_pos c46] at H
                                              have c46b0 : decide (a0 ≤ 57) = true := decide_eq_true c46
                                              clear c46
                                              obtain rfl := Option.some.inj H
                                              go_wp2
                                              go_ret
                                              exact ⟨by first | rfl | (simp; done) | (simp [*]; done), by repeat (first | exact Drawn0.refl _ | apply Drawn0.step)⟩
                                            · rw [if_neg c46] at H
                                              have c46b0 : decide (a0 ≤ 57) = false := decide_eq_false c46
                                              clear c46
                                              obtain rfl := Option.some.inj H
                                              go_wp2
                                              go_ret
                                              exact ⟨by first | rfl | (simp; done) | (simp [*]; done), by repeat (first | exact Drawn0.refl _ | apply Drawn0.step)⟩
                                          · rw [if_neg c45] at H
                                            have c45b0 : decide (48 ≤ a0) = false := decide_eq_false c45
                                            clear c45
                                            obtain rfl := Option.some.inj H
                                            go_wp2
                                            go_ret
                                            exact ⟨by first | rfl | (simp; done) | (simp [*]; done), by repeat (first | exact Drawn0.refl _ | apply Drawn0.step)⟩

end Go.Proofs.YtjichkjnodabiaaDoor.P
