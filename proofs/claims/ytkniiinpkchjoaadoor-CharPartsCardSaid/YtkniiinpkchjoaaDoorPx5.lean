-- PRINTED by a program of this session over the kit's print.py.
import Derived.Test.YtkniiinpkchjoaaDoorPx0
import Derived.Test.YtkniiinpkchjoaaDoorPx1
import Derived.Test.YtkniiinpkchjoaaDoorPx2
import Derived.Test.YtkniiinpkchjoaaDoorPx4
namespace Go.Proofs.YtkniiinpkchjoaaDoor.P
open Go.Own Go.RowKit Go.Proofs.YtkniiinpkchjoaaDoorW.PrintWords Go.Proofs.YtkniiinpkchjoaaDoorW.PrintLast Go.Proofs.YtkniiinpkchjoaaDoorW.PrintMore
attribute [local go_sem] max2_int min2_int max_two min_two max_three min_three max_four min_four   -- for this text's walks alone
set_option linter.unusedVariables false
set_option linter.unusedSimpArgs false

/-! ### spinneyref02_Class: function 13 -/
mutual
def spinneyref02_Class.j0 : Nat → Int → Bool → Option (Int)
  | 0, _, _ => none
  | k + 1, x0, x3 => if x3 = true then (some 1) else (if x0 ≥ 65 then (if x0 ≤ 90 then (spinneyref02_Class.j1 k x0 true) else (spinneyref02_Class.j1 k x0 (x0 == 95))) else (spinneyref02_Class.j1 k x0 (x0 == 95)))
def spinneyref02_Class.j1 : Nat → Int → Bool → Option (Int)
  | 0, _, _ => none
  | k + 1, x0, x10 => if x10 = true then (some 2) else (if x0 ≥ 48 then (spinneyref02_Class.j2 k x0 (decide (x0 ≤ 57))) else (spinneyref02_Class.j2 k x0 false))
def spinneyref02_Class.j2 : Nat → Int → Bool → Option (Int)
  | 0, _, _ => none
  | k + 1, x0, x21 => if x21 = true then (some 3) else ((spinneyref02_among.f k x0 (⟨#[43, 45, 42, 47, 92, 94, 60, 62, 61, 126, 58, 46, 63, 64, 35, 38, 36]⟩ : ByteArray)).bind fun t119 => (if t119 = true then (some 4) else (if x0 = 9 then (spinneyref02_Class.j3 k x0 true) else (if x0 = 10 then (spinneyref02_Class.j3 k x0 true) else (if x0 = 13 then (spinneyref02_Class.j3 k x0 true) else (spinneyref02_Class.j3 k x0 (x0 == 32)))))))
def spinneyref02_Class.j3 : Nat → Int → Bool → Option (Int)
  | 0, _, _ => none
  | k + 1, x0, x31 => if x31 = true then (some 5) else ((spinneyref02_among.f k x0 (⟨#[33, 59, 44, 124]⟩ : ByteArray)).bind fun t120 => (if t120 = true then (some 6) else ((spinneyref02_among.f k x0 (⟨#[40, 41, 91, 93, 123, 125]⟩ : ByteArray)).bind fun t121 => (if t121 = true then (some 7) else (if x0 = 39 then (some 8) else (some 0))))))
end
def spinneyref02_Class.f (k : Nat) (a0 : Int) : Option (Int) := if a0 ≥ 97 then (spinneyref02_Class.j0 k a0 (decide (a0 ≤ 122))) else (spinneyref02_Class.j0 k a0 false)
theorem spinneyref02_Class.mono_l : ∀ k, (∀ y0 y1, LeO (spinneyref02_Class.j0 k y0 y1) (spinneyref02_Class.j0 (k + 1) y0 y1)) ∧ (∀ y0 y1, LeO (spinneyref02_Class.j1 k y0 y1) (spinneyref02_Class.j1 (k + 1) y0 y1)) ∧ (∀ y0 y1, LeO (spinneyref02_Class.j2 k y0 y1) (spinneyref02_Class.j2 (k + 1) y0 y1)) ∧ (∀ y0 y1, LeO (spinneyref02_Class.j3 k y0 y1) (spinneyref02_Class.j3 (k + 1) y0 y1))
  | 0 => ⟨fun _ _ r h => by simp [spinneyref02_Class.j0] at h, fun _ _ r h => by simp [spinneyref02_Class.j1] at h, fun _ _ r h => by simp [spinneyref02_Class.j2] at h, fun _ _ r h => by simp [spinneyref02_Class.j3] at h⟩
  | k + 1 => by
    obtain ⟨ih0, ih1, ih2, ih3⟩ := spinneyref02_Class.mono_l k
    refine ⟨?_, ?_, ?_, ?_⟩
    · intro y0 y1
      unfold spinneyref02_Class.j0
      repeat' first
      | (with_reducible exact ih0 _ _)
      | (with_reducible exact ih1 _ _)
      | (with_reducible exact ih2 _ _)
      | (with_reducible exact ih3 _ _)
      | (with_reducible exact spinneyref02_among.mono _ _ _)
      | (with_reducible exact LeO.refl _)
      | (with_reducible exact LeO.none _)
      | (with_reducible refine LeO.ite ?_ ?_)
      | (with_reducible refine LeO.bind ?_ (fun _ => ?_))
      | exact ih0 _ _
      | exact ih1 _ _
      | exact ih2 _ _
      | exact ih3 _ _
      | exact spinneyref02_among.mono _ _ _
      | exact LeO.none _
      | refine LeO.ite ?_ ?_
      | refine LeO.bind ?_ (fun _ => ?_)
    · intro y0 y1
      unfold spinneyref02_Class.j1
      repeat' first
      | (with_reducible exact ih0 _ _)
      | (with_reducible exact ih1 _ _)
      | (with_reducible exact ih2 _ _)
      | (with_reducible exact ih3 _ _)
      | (with_reducible exact spinneyref02_among.mono _ _ _)
      | (with_reducible exact LeO.refl _)
      | (with_reducible exact LeO.none _)
      | (with_reducible refine LeO.ite ?_ ?_)
      | (with_reducible refine LeO.bind ?_ (fun _ => ?_))
      | exact ih0 _ _
      | exact ih1 _ _
      | exact ih2 _ _
      | exact ih3 _ _
      | exact spinneyref02_among.mono _ _ _
      | exact LeO.none _
      | refine LeO.ite ?_ ?_
      | refine LeO.bind ?_ (fun _ => ?_)
    · intro y0 y1
      unfold spinneyref02_Class.j2
      repeat' first
      | (with_reducible exact ih0 _ _)
      | (with_reducible exact ih1 _ _)
      | (with_reducible exact ih2 _ _)
      | (with_reducible exact ih3 _ _)
      | (with_reducible exact spinneyref02_among.mono _ _ _)
      | (with_reducible exact LeO.refl _)
      | (with_reducible exact LeO.none _)
      | (with_reducible refine LeO.ite ?_ ?_)
      | (with_reducible refine LeO.bind ?_ (fun _ => ?_))
      | exact ih0 _ _
      | exact ih1 _ _
      | exact ih2 _ _
      | exact ih3 _ _
      | exact spinneyref02_among.mono _ _ _
      | exact LeO.none _
      | refine LeO.ite ?_ ?_
      | refine LeO.bind ?_ (fun _ => ?_)
    · intro y0 y1
      unfold spinneyref02_Class.j3
      repeat' first
      | (with_reducible exact ih0 _ _)
      | (with_reducible exact ih1 _ _)
      | (with_reducible exact ih2 _ _)
      | (with_reducible exact ih3 _ _)
      | (with_reducible exact spinneyref02_among.mono _ _ _)
      | (with_reducible exact LeO.refl _)
      | (with_reducible exact LeO.none _)
      | (with_reducible refine LeO.ite ?_ ?_)
      | (with_reducible refine LeO.bind ?_ (fun _ => ?_))
      | exact ih0 _ _
      | exact ih1 _ _
      | exact ih2 _ _
      | exact ih3 _ _
      | exact spinneyref02_among.mono _ _ _
      | exact LeO.none _
      | refine LeO.ite ?_ ?_
      | refine LeO.bind ?_ (fun _ => ?_)
theorem spinneyref02_Class.mono : ∀ a0 k, LeO (spinneyref02_Class.f k a0) (spinneyref02_Class.f (k + 1) a0) := by
  intro a0 k
  obtain ⟨ih0, ih1, ih2, ih3⟩ := spinneyref02_Class.mono_l k
  unfold spinneyref02_Class.f
  repeat' first
      | (with_reducible exact ih0 _ _)
      | (with_reducible exact ih1 _ _)
      | (with_reducible exact ih2 _ _)
      | (with_reducible exact ih3 _ _)
      | (with_reducible exact spinneyref02_among.mono _ _ _)
      | (with_reducible exact LeO.refl _)
      | (with_reducible exact LeO.none _)
      | (with_reducible refine LeO.ite ?_ ?_)
      | (with_reducible refine LeO.bind ?_ (fun _ => ?_))
      | exact ih0 _ _
      | exact ih1 _ _
      | exact ih2 _ _
      | exact ih3 _ _
      | exact spinneyref02_among.mono _ _ _
      | exact LeO.none _
      | refine LeO.ite ?_ ?_
      | refine LeO.bind ?_ (fun _ => ?_)
set_option maxHeartbeats 8000000 in
set_option maxRecDepth 100000 in
theorem spinneyref02_Class.calls (k : Nat) (a0 : Int) (r : Int) (w : World) (h : spinneyref02_Class.f k a0 = some r) :
    Calls Tryd.prog 13 #[.int .i32 a0] w fun e w' => e = .returned (.int .i64 r) ∧ Drawn0 w w' := by
  have H : (if a0 ≥ 97 then (spinneyref02_Class.j0 k a0 (decide (a0 ≤ 122))) else (spinneyref02_Class.j0 k a0 false)) = some r := h
  clear h
  have HC2 := Aside0.mk H
  clear H
  go_enter Tryd.func13, Tryd.ntmps13
  go_upto_region 1 with (fail)
  go_cut [3] (fun v3 wc => ∃ (kq : Nat) (x3_1 : Bool), v3 = .bool x3_1 ∧ Aside0 (spinneyref02_Class.j0 kq a0 x3_1 = some r) ∧ Aside0 (kq ≤ k) ∧ Drawn0 w wc)
  case first =>
    have H := HC2.out
    clear HC2
    by_cases c3 : a0 ≥ 97
    · rw [if_pos c3] at H
      have c3b0 : decide (97 ≤ a0) = true := decide_eq_true c3
      clear c3
      (first | rw [c3b0] | (simp only [i64_w, i32_w]; rw [c3b0]) | skip)
      have H' := Aside0.mk H
      clear H
      go_wp2
      go_meet
      case rel => exact ⟨_, (decide (a0 ≤ 122)), (by first | rfl | (simp; done) | (simp [*]; done)), H', ⟨by first | omega | exact Nat.le_refl _⟩, by repeat (first | exact Drawn0.refl _ | apply Drawn0.step)⟩
    · rw [if_neg c3] at H
      have c3b0 : decide (97 ≤ a0) = false := decide_eq_false c3
      clear c3
      (first | rw [c3b0] | (simp only [i64_w, i32_w]; rw [c3b0]) | skip)
      have H' := Aside0.mk H
      clear H
      go_wp2
      go_meet
      case rel => exact ⟨_, (false), (by first | rfl | (simp; done) | (simp [*]; done)), H', ⟨by first | omega | exact Nat.le_refl _⟩, by repeat (first | exact Drawn0.refl _ | apply Drawn0.step)⟩
  case rest =>
    clear HC2
    try clear c1
    try clear p2
    try clear c3
    try clear c3b0
    obtain ⟨kq, x3_1, rfl, HA, HJ1, ⟨mc1, rfl⟩⟩ := hcut
    cases kq with
    | zero => exact absurd HA.out (by simp [spinneyref02_Class.j0])
    | succ kj1 =>
      have H := HA.out
      clear HA
      simp only [spinneyref02_Class.j0] at H
      by_cases c4 : x3_1 = true
      · subst c4
        have H1 : (some 1) = some r := by rw [if_pos rfl] at H; exact H
        clear H
        have H := H1
        clear H1
        obtain rfl := Option.some.inj H
        go_wp2
        go_ret
        exact ⟨by first | rfl | (simp; done) | (simp [*]; done), by repeat (first | exact Drawn0.refl _ | apply Drawn0.step)⟩
      · replace c4 := Bool.eq_false_iff.mpr c4
        subst c4
        have H1 : (if a0 ≥ 65 then (if a0 ≤ 90 then (spinneyref02_Class.j1 kj1 a0 true) else (spinneyref02_Class.j1 kj1 a0 (a0 == 95))) else (spinneyref02_Class.j1 kj1 a0 (a0 == 95))) = some r := by rw [if_neg (show ¬ (false = true) by decide)] at H; exact H
        clear H
        have H := H1
        clear H1
        have HC5 := Aside0.mk H
        clear H
        go_upto_region 3 with (fail)
        go_cut [10] (fun v10 wc => ∃ (kq : Nat) (x10_4 : Bool), v10 = .bool x10_4 ∧ Aside0 (spinneyref02_Class.j1 kq a0 x10_4 = some r) ∧ Aside0 (kq ≤ kj1) ∧ Drawn0 w wc)
        case first =>
          have H := HC5.out
          clear HC5
          by_cases c6 : a0 ≥ 65
          · rw [if_pos c6] at H
            have c6b0 : decide (65 ≤ a0) = true := decide_eq_true c6
            clear c6
            (first | rw [c6b0] | (simp only [i64_w, i32_w]; rw [c6b0]) | skip)
            by_cases c7 : a0 ≤ 90
            · rw [if_pos c7] at H
              have c7b0 : decide (a0 ≤ 90) = true := decide_eq_true c7
              clear c7
              have H' := Aside0.mk H
              clear H
              go_wp2
              go_meet
              case rel => exact ⟨_, (true), (by first | rfl | (simp; done) | (simp [*]; done)), H', ⟨by have := HJ1.out; first | omega | exact Nat.le_refl _⟩, by repeat (first | exact Drawn0.refl _ | apply Drawn0.step)⟩
            · rw [if_neg c7] at H
              have c7b0 : decide (a0 ≤ 90) = false := decide_eq_false c7
              clear c7
              have H' := Aside0.mk H
              clear H
              go_wp2
              go_meet
              case rel => exact ⟨_, ((a0 == 95)), (by first | rfl | (simp; done) | (simp [*]; done)), H', ⟨by have := HJ1.out; first | omega | exact Nat.le_refl _⟩, by repeat (first | exact Drawn0.refl _ | apply Drawn0.step)⟩
          · rw [if_neg c6] at H
            have c6b0 : decide (65 ≤ a0) = false := decide_eq_false c6
            clear c6
            (first | rw [c6b0] | (simp only [i64_w, i32_w]; rw [c6b0]) | skip)
            have H' := Aside0.mk H
            clear H
            go_wp2
            go_meet
            case rel => exact ⟨_, ((a0 == 95)), (by first | rfl | (simp; done) | (simp [*]; done)), H', ⟨by have := HJ1.out; first | omega | exact Nat.le_refl _⟩, by repeat (first | exact Drawn0.refl _ | apply Drawn0.step)⟩
        case rest =>
          clear HC5
          try clear c1
          try clear p2
          try clear c3
          try clear c3b0
          try clear c4
          try clear c6
          try clear c6b0
          try clear c7
          try clear c7b0
          try clear p2
          obtain ⟨kq, x10_4, rfl, HA, HJ4, ⟨mc4, rfl⟩⟩ := hcut
          cases kq with
          | zero => exact absurd HA.out (by simp [spinneyref02_Class.j1])
          | succ kj4 =>
            have H := HA.out
            clear HA
            simp only [spinneyref02_Class.j1] at H
            by_cases c8 : x10_4 = true
            · subst c8
              have H1 : (some 2) = some r := by rw [if_pos rfl] at H; exact H
              clear H
              have H := H1
              clear H1
              obtain rfl := Option.some.inj H
              go_wp2
              go_ret
              exact ⟨by first | rfl | (simp; done) | (simp [*]; done), by repeat (first | exact Drawn0.refl _ | apply Drawn0.step)⟩
            · replace c8 := Bool.eq_false_iff.mpr c8
              subst c8
              have H1 : (if a0 ≥ 48 then (spinneyref02_Class.j2 kj4 a0 (decide (a0 ≤ 57))) else (spinneyref02_Class.j2 kj4 a0 false)) = some r := by rw [if_neg (show ¬ (false = true) by decide)] at H; exact H
              clear H
              have H := H1
              clear H1
              have HC9 := Aside0.mk H
              clear H
              go_upto_region 5 with (fail)
              go_cut [21] (fun v21 wc => ∃ (kq : Nat) (x21_8 : Bool), v21 = .bool x21_8 ∧ Aside0 (spinneyref02_Class.j2 kq a0 x21_8 = some r) ∧ Aside0 (kq ≤ kj4) ∧ Drawn0 w wc)
              case first =>
                have H := HC9.out
                clear HC9
                by_cases c10 : a0 ≥ 48
                · rw [if_pos c10] at H
                  have c10b0 : decide (48 ≤ a0) = true := decide_eq_true c10
                  clear c10
                  (first | rw [c10b0] | (simp only [i64_w, i32_w]; rw [c10b0]) | skip)
                  have H' := Aside0.mk H
                  clear H
                  go_wp2
                  go_meet
                  case rel => exact ⟨_, (decide (a0 ≤ 57)), (by first | rfl | (simp; done) | (simp [*]; done)), H', ⟨by have := HJ1.out; have := HJ4.out; first | omega | exact Nat.le_refl _⟩, by repeat (first | exact Drawn0.refl _ | apply Drawn0.step)⟩
                · rw [if_neg c10] at H
                  have c10b0 : decide (48 ≤ a0) = false := decide_eq_false c10
                  clear c10
                  (first | rw [c10b0] | (simp only [i64_w, i32_w]; rw [c10b0]) | skip)
                  have H' := Aside0.mk H
                  clear H
                  go_wp2
                  go_meet
                  case rel => exact ⟨_, (false), (by first | rfl | (simp; done) | (simp [*]; done)), H', ⟨by have := HJ1.out; have := HJ4.out; first | omega | exact Nat.le_refl _⟩, by repeat (first | exact Drawn0.refl _ | apply Drawn0.step)⟩
              case rest =>
                clear HC9
                try clear c1
                try clear p2
                try clear c3
                try clear c3b0
                try clear c4
                try clear c6
                try clear c6b0
                try clear c7
                try clear c7b0
                try clear c8
                try clear c10
                try clear c10b0
                try clear p2
                obtain ⟨kq, x21_8, rfl, HA, HJ8, ⟨mc8, rfl⟩⟩ := hcut
                cases kq with
                | zero => exact absurd HA.out (by simp [spinneyref02_Class.j2])
                | succ kj8 =>
                  have H := HA.out
                  clear HA
                  simp only [spinneyref02_Class.j2] at H
                  by_cases c11 : x21_8 = true
                  · subst c11
                    have H1 : (some 3) = some r := by rw [if_pos rfl] at H; exact H
                    clear H
                    have H := H1
                    clear H1
                    obtain rfl := Option.some.inj H
                    go_wp2
                    go_ret
                    exact ⟨by first | rfl | (simp; done) | (simp [*]; done), by repeat (first | exact Drawn0.refl _ | apply Drawn0.step)⟩
                  · replace c11 := Bool.eq_false_iff.mpr c11
                    subst c11
                    have H1 : ((spinneyref02_among.f kj8 a0 (⟨#[43, 45, 42, 47, 92, 94, 60, 62, 61, 126, 58, 46, 63, 64, 35, 38, 36]⟩ : ByteArray)).bind fun t119 => (if t119 = true then (some 4) else (if a0 = 9 then (spinneyref02_Class.j3 kj8 a0 true) else (if a0 = 10 then (spinneyref02_Class.j3 kj8 a0 true) else (if a0 = 13 then (spinneyref02_Class.j3 kj8 a0 true) else (spinneyref02_Class.j3 kj8 a0 (a0 == 32))))))) = some r := by rw [if_neg (show ¬ (false = true) by decide)] at H; exact H
                    clear H
                    have H := H1
                    clear H1
                    replace H := Option.bind_eq_some_iff.mp H
                    obtain ⟨t119, A120, H⟩ := H
                    replace H : (if t119 = true then (some 4) else (if a0 = 9 then (spinneyref02_Class.j3 kj8 a0 true) else (if a0 = 10 then (spinneyref02_Class.j3 kj8 a0 true) else (if a0 = 13 then (spinneyref02_Class.j3 kj8 a0 true) else (spinneyref02_Class.j3 kj8 a0 (a0 == 32)))))) = some r := H
                    have A12 := Aside0.mk A120
                    clear A120
                    by_cases c13 : t119 = true
                    · subst c13
                      have H1 : (some 4) = some r := by rw [if_pos rfl] at H; exact H
                      clear H
                      have H := H1
                      clear H1
                      obtain rfl := Option.some.inj H
                      go_wp2_with (first | ((with_reducible refine gate_callee (f := 22) rfl ?_); refine goesL_ (some 30) rfl rfl Tryd.func22 (by kernel_rfl) rfl #[.int .i32 a0, .string (⟨#[43, 45, 42, 47, 92, 94, 60, 62, 61, 126, 58, 46, 63, 64, 35, 38, 36]⟩ : ByteArray)] rfl (by (try simp only [List.map_toArray, List.map_cons, List.map_nil]); first | done | rfl | (simp only [List.length_drop, List.length_take]; rfl)) ?_; (with_reducible refine (spinneyref02_among.calls kj8 a0 (⟨#[43, 45, 42, 47, 92, 94, 60, 62, 61, 126, 58, 46, 63, 64, 35, 38, 36]⟩ : ByteArray) true _ A12.out).mono ?_); rintro e w' ⟨rfl, ⟨nd, rfl⟩⟩; refine ⟨_, rfl, ?_⟩))
                      go_ret
                      exact ⟨by first | rfl | (simp; done) | (simp [*]; done), by repeat (first | exact Drawn0.refl _ | apply Drawn0.step)⟩
                    · replace c13 := Bool.eq_false_iff.mpr c13
                      subst c13
                      have H1 : (if a0 = 9 then (spinneyref02_Class.j3 kj8 a0 true) else (if a0 = 10 then (spinneyref02_Class.j3 kj8 a0 true) else (if a0 = 13 then (spinneyref02_Class.j3 kj8 a0 true) else (spinneyref02_Class.j3 kj8 a0 (a0 == 32))))) = some r := by rw [if_neg (show ¬ (false = true) by decide)] at H; exact H
                      clear H
                      have H := H1
                      clear H1
                      have HC14 := Aside0.mk H
                      clear H
                      go_upto_region 9 with (first | ((with_reducible refine gate_callee (f := 22) rfl ?_); refine goesL_ (some 30) rfl rfl Tryd.func22 (by kernel_rfl) rfl #[.int .i32 a0, .string (⟨#[43, 45, 42, 47, 92, 94, 60, 62, 61, 126, 58, 46, 63, 64, 35, 38, 36]⟩ : ByteArray)] rfl (by (try simp only [List.map_toArray, List.map_cons, List.map_nil]); first | done | rfl | (simp only [List.length_drop, List.length_take]; rfl)) ?_; (with_reducible refine (spinneyref02_among.calls kj8 a0 (⟨#[43, 45, 42, 47, 92, 94, 60, 62, 61, 126, 58, 46, 63, 64, 35, 38, 36]⟩ : ByteArray) false _ A12.out).mono ?_); rintro e w' ⟨rfl, ⟨nd, rfl⟩⟩; refine ⟨_, rfl, ?_⟩))
                      (try simp only [Act.put, List.setIfInBounds_toArray, List.set_cons_zero, List.set_cons_succ])
                      go_cut [31] (fun v31 wc => ∃ (kq : Nat) (x31_13 : Bool), v31 = .bool x31_13 ∧ Aside0 (spinneyref02_Class.j3 kq a0 x31_13 = some r) ∧ Aside0 (kq ≤ kj8) ∧ Drawn0 w wc)
                      case first =>
                        have H := HC14.out
                        clear HC14
                        by_cases c15 : a0 = 9
                        · rw [if_pos c15] at H
                          have c15b0 : (a0 == 9) = true := beq_iff_eq.mpr c15
                          have c15b1 : (a0 != 9) = false := bne_eq_false_iff_eq.mpr c15
                          clear c15
                          (first | rw [c15b0] | (simp only [i64_w, i32_w]; rw [c15b0]) | skip)
                          have H' := Aside0.mk H
                          clear H
                          go_wp2
                          go_meet
                          case rel => exact ⟨_, (true), (by first | rfl | (simp; done) | (simp [*]; done)), H', ⟨by have := HJ1.out; have := HJ4.out; have := HJ8.out; first | omega | exact Nat.le_refl _⟩, by repeat (first | exact Drawn0.refl _ | apply Drawn0.step)⟩
                        · rw [if_neg c15] at H
                          have c15b0 : (a0 == 9) = false := beq_eq_false_iff_ne.mpr c15
                          have c15b1 : (a0 != 9) = true := bne_iff_ne.mpr c15
                          (first | rw [c15b0] | (simp only [i64_w, i32_w]; rw [c15b0]) | skip)
                          by_cases c16 : a0 = 10
                          · rw [if_pos c16] at H
                            have c16b0 : (a0 == 10) = true := beq_iff_eq.mpr c16
                            have c16b1 : (a0 != 10) = false := bne_eq_false_iff_eq.mpr c16
                            clear c16
                            have H' := Aside0.mk H
                            clear H
                            go_wp2
                            go_meet
                            case rel => exact ⟨_, (true), (by first | rfl | (simp; done) | (simp [*]; done)), H', ⟨by have := HJ1.out; have := HJ4.out; have := HJ8.out; first | omega | exact Nat.le_refl _⟩, by repeat (first | exact Drawn0.refl _ | apply Drawn0.step)⟩
                          · rw [if_neg c16] at H
                            have c16b0 : (a0 == 10) = false := beq_eq_false_iff_ne.mpr c16
                            have c16b1 : (a0 != 10) = true := bne_iff_ne.mpr c16
                            by_cases c17 : a0 = 13
                            · rw [if_pos c17] at H
                              have c17b0 : (a0 == 13) = true := beq_iff_eq.mpr c17
                              have c17b1 : (a0 != 13) = false := bne_eq_false_iff_eq.mpr c17
                              clear c17
                              have H' := Aside0.mk H
                              clear H
                              go_wp2
                              go_meet
                              case rel => exact ⟨_, (true), (by first | rfl | (simp; done) | (simp [*]; done)), H', ⟨by have := HJ1.out; have := HJ4.out; have := HJ8.out; first | omega | exact Nat.le_refl _⟩, by repeat (first | exact Drawn0.refl _ | apply Drawn0.step)⟩
                            · rw [if_neg c17] at H
                              have c17b0 : (a0 == 13) = false := beq_eq_false_iff_ne.mpr c17
                              have c17b1 : (a0 != 13) = true := bne_iff_ne.mpr c17
                              have H' := Aside0.mk H
                              clear H
                              go_wp2
                              go_meet
                              case rel => exact ⟨_, ((a0 == 32)), (by first | rfl | (simp; done) | (simp [*]; done)), H', ⟨by have := HJ1.out; have := HJ4.out; have := HJ8.out; first | omega | exact Nat.le_refl _⟩, by repeat (first | exact Drawn0.refl _ | apply Drawn0.step)⟩
                      case rest =>
                        clear HC14
                        try clear c1
                        try clear c2
                        try clear p2
                        try clear c3
                        try clear c3b0
                        try clear c4
                        try clear c6
                        try clear c6b0
                        try clear c7
                        try clear c7b0
                        try clear c8
                        try clear c10
                        try clear c10b0
                        try clear c11
                        try clear c13
                        try clear c15
                        try clear c15b0
                        try clear c15b1
                        try clear c16
                        try clear c16b0
                        try clear c16b1
                        try clear c17
                        try clear c17b0
                        try clear c17b1
                        try clear p2
                        obtain ⟨kq, x31_13, rfl, HA, HJ13, ⟨mc13, rfl⟩⟩ := hcut
                        cases kq with
                        | zero => exact absurd HA.out (by simp [spinneyref02_Class.j3])
                        | succ kj13 =>
                          have H := HA.out
                          clear HA
                          simp only [spinneyref02_Class.j3] at H
                          by_cases c18 : x31_13 = true
                          · subst c18
                            have H1 : (some 5) = some r := by rw [if_pos rfl] at H; exact H
                            clear H
                            have H := H1
                            clear H1
                            obtain rfl := Option.some.inj H
                            go_wp2
                            go_ret
                            exact ⟨by first | rfl | (simp; done) | (simp [*]; done), by repeat (first | exact Drawn0.refl _ | apply Drawn0.step)⟩
                          · replace c18 := Bool.eq_false_iff.mpr c18
                            subst c18
                            have H1 : ((spinneyref02_among.f kj13 a0 (⟨#[33, 59, 44, 124]⟩ : ByteArray)).bind fun t120 => (if t120 = true then (some 6) else ((spinneyref02_among.f kj13 a0 (⟨#[40, 41, 91, 93, 123, 125]⟩ : ByteArray)).bind fun t121 => (if t121 = true then (some 7) else (if a0 = 39 then (some 8) else (some 0)))))) = some r := by rw [if_neg (show ¬ (false = true) by decide)] at H; exact H
                            clear H
                            have H := H1
                            clear H1
                            replace H := Option.bind_eq_some_iff.mp H
                            obtain ⟨t120, A190, H⟩ := H
                            replace H : (if t120 = true then (some 6) else ((spinneyref02_among.f kj13 a0 (⟨#[40, 41, 91, 93, 123, 125]⟩ : ByteArray)).bind fun t121 => (if t121 = true then (some 7) else (if a0 = 39 then (some 8) else (some 0))))) = some r := H
                            have A19 := Aside0.mk A190
                            clear A190
                            by_cases c20 : t120 = true
                            · subst c20
                              have H1 : (some 6) = some r := by rw [if_pos rfl] at H; exact H
                              clear H
                              have H := H1
                              clear H1
                              obtain rfl := Option.some.inj H
                              go_wp2_with (first | ((with_reducible refine gate_callee (f := 22) rfl ?_); refine goesL_ (some 48) rfl rfl Tryd.func22 (by kernel_rfl) rfl #[.int .i32 a0, .string (⟨#[33, 59, 44, 124]⟩ : ByteArray)] rfl (by (try simp only [List.map_toArray, List.map_cons, List.map_nil]); first | done | rfl | (simp only [List.length_drop, List.length_take]; rfl)) ?_; (with_reducible refine (spinneyref02_among.calls kj13 a0 (⟨#[33, 59, 44, 124]⟩ : ByteArray) true _ A19.out).mono ?_); rintro e w' ⟨rfl, ⟨nd, rfl⟩⟩; refine ⟨_, rfl, ?_⟩))
                              go_ret
                              exact ⟨by first | rfl | (simp; done) | (simp [*]; done), by repeat (first | exact Drawn0.refl _ | apply Drawn0.step)⟩
                            · replace c20 := Bool.eq_false_iff.mpr c20
                              subst c20
                              have H1 : ((spinneyref02_among.f kj13 a0 (⟨#[40, 41, 91, 93, 123, 125]⟩ : ByteArray)).bind fun t121 => (if t121 = true then (some 7) else (if a0 = 39 then (some 8) else (some 0)))) = some r := by rw [if_neg (show ¬ (false = true) by decide)] at H; exact H
                              clear H
                              have H := H1
                              clear H1
                              replace H := Option.bind_eq_some_iff.mp H
                              obtain ⟨t121, A210, H⟩ := H
                              replace H : (if t121 = true then (some 7) else (if a0 = 39 then (some 8) else (some 0))) = some r := H
                              have A21 := Aside0.mk A210
                              clear A210
                              by_cases c22 : t121 = true
                              · subst c22
                                have H1 : (some 7) = some r := by rw [if_pos rfl] at H; exact H
                                clear H
                                have H := H1
                                clear H1
                                obtain rfl := Option.some.inj H
                                go_wp2_with (first | ((with_reducible refine gate_callee (f := 22) rfl ?_); refine goesL_ (some 48) rfl rfl Tryd.func22 (by kernel_rfl) rfl #[.int .i32 a0, .string (⟨#[33, 59, 44, 124]⟩ : ByteArray)] rfl (by (try simp only [List.map_toArray, List.map_cons, List.map_nil]); first | done | rfl | (simp only [List.length_drop, List.length_take]; rfl)) ?_; (with_reducible refine (spinneyref02_among.calls kj13 a0 (⟨#[33, 59, 44, 124]⟩ : ByteArray) false _ A19.out).mono ?_); rintro e w' ⟨rfl, ⟨nd, rfl⟩⟩; refine ⟨_, rfl, ?_⟩) | ((with_reducible refine gate_callee (f := 22) rfl ?_); refine goesL_ (some 51) rfl rfl Tryd.func22 (by kernel_rfl) rfl #[.int .i32 a0, .string (⟨#[40, 41, 91, 93, 123, 125]⟩ : ByteArray)] rfl (by (try simp only [List.map_toArray, List.map_cons, List.map_nil]); first | done | rfl | (simp only [List.length_drop, List.length_take]; rfl)) ?_; (with_reducible refine (spinneyref02_among.calls kj13 a0 (⟨#[40, 41, 91, 93, 123, 125]⟩ : ByteArray) true _ A21.out).mono ?_); rintro e w' ⟨rfl, ⟨nd, rfl⟩⟩; refine ⟨_, rfl, ?_⟩))
                                go_ret
                                exact ⟨by first | rfl | (simp; done) | (simp [*]; done), by repeat (first | exact Drawn0.refl _ | apply Drawn0.step)⟩
                              · replace c22 := Bool.eq_false_iff.mpr c22
                                subst c22
                                have H1 : (if a0 = 39 then (some 8) else (some 0)) = some r := by rw [if_neg (show ¬ (false = true) by decide)] at H; exact H
                                clear H
                                have H := H1
                                clear H1
                                by_cases c23 : a0 = 39
                                · rw [if_pos c23] at H
                                  have c23b0 : (a0 == 39) = true := beq_iff_eq.mpr c23
                                  have c23b1 : (a0 != 39) = false := bne_eq_false_iff_eq.mpr c23
                                  clear c23
                                  obtain rfl := Option.some.inj H
                                  go_wp2_with (first | ((with_reducible refine gate_callee (f := 22) rfl ?_); refine goesL_ (some 48) rfl rfl Tryd.func22 (by kernel_rfl) rfl #[.int .i32 a0, .string (⟨#[33, 59, 44, 124]⟩ : ByteArray)] rfl (by (try simp only [List.map_toArray, List.map_cons, List.map_nil]); first | done | rfl | (simp only [List.length_drop, List.length_take]; rfl)) ?_; (with_reducible refine (spinneyref02_among.calls kj13 a0 (⟨#[33, 59, 44, 124]⟩ : ByteArray) false _ A19.out).mono ?_); rintro e w' ⟨rfl, ⟨nd, rfl⟩⟩; refine ⟨_, rfl, ?_⟩) | ((with_reducible refine gate_callee (f := 22) rfl ?_); refine goesL_ (some 51) rfl rfl Tryd.func22 (by kernel_rfl) rfl #[.int .i32 a0, .string (⟨#[40, 41, 91, 93, 123, 125]⟩ : ByteArray)] rfl (by (try simp only [List.map_toArray, List.map_cons, List.map_nil]); first | done | rfl | (simp only [List.length_drop, List.length_take]; rfl)) ?_; (with_reducible refine (spinneyref02_among.calls kj13 a0 (⟨#[40, 41, 91, 93, 123, 125]⟩ : ByteArray) false _ A21.out).mono ?_); rintro e w' ⟨rfl, ⟨nd, rfl⟩⟩; refine ⟨_, rfl, ?_⟩))
                                  go_ret
                                  exact ⟨by first | rfl | (simp; done) | (simp [*]; done), by repeat (first | exact Drawn0.refl _ | apply Drawn0.step)⟩
                                · rw [if_neg c23] at H
                                  have c23b0 : (a0 == 39) = false := beq_eq_false_iff_ne.mpr c23
                                  have c23b1 : (a0 != 39) = true := bne_iff_ne.mpr c23
                                  obtain rfl := Option.some.inj H
                                  go_wp2_with (first | ((with_reducible refine gate_callee (f := 22) rfl ?_); refine goesL_ (some 48) rfl rfl Tryd.func22 (by kernel_rfl) rfl #[.int .i32 a0, .string (⟨#[33, 59, 44, 124]⟩ : ByteArray)] rfl (by (try simp only [List.map_toArray, List.map_cons, List.map_nil]); first | done | rfl | (simp only [List.length_drop, List.length_take]; rfl)) ?_; (with_reducible refine (spinneyref02_among.calls kj13 a0 (⟨#[33, 59, 44, 124]⟩ : ByteArray) false _ A19.out).mono ?_); rintro e w' ⟨rfl, ⟨nd, rfl⟩⟩; refine ⟨_, rfl, ?_⟩) | ((with_reducible refine gate_callee (f := 22) rfl ?_); refine goesL_ (some 51) rfl rfl Tryd.func22 (by kernel_rfl) rfl #[.int .i32 a0, .string (⟨#[40, 41, 91, 93, 123, 125]⟩ : ByteArray)] rfl (by (try simp only [List.map_toArray, List.map_cons, List.map_nil]); first | done | rfl | (simp only [List.length_drop, List.length_take]; rfl)) ?_; (with_reducible refine (spinneyref02_among.calls kj13 a0 (⟨#[40, 41, 91, 93, 123, 125]⟩ : ByteArray) false _ A21.out).mono ?_); rintro e w' ⟨rfl, ⟨nd, rfl⟩⟩; refine ⟨_, rfl, ?_⟩))
                                  go_ret
                                  exact ⟨by first | rfl | (simp; done) | (simp [*]; done), by repeat (first | exact Drawn0.refl _ | apply Drawn0.step)⟩

/-! ### spinneylaw02_CharClasses: function 3 -/
def spinneylaw02_CharClasses.f (k : Nat) (a0 : Int) : Option (Bool) := (spinneylaw02_live.f k).bind fun t122 => (if t122 = true then ((char_Class.f k a0).bind fun t123 => ((spinneyref02_Class.f k a0).bind fun t124 => (some (t123 == t124)))) else (none))
theorem spinneylaw02_CharClasses.mono : ∀ a0 k, LeO (spinneylaw02_CharClasses.f k a0) (spinneylaw02_CharClasses.f (k + 1) a0) := by
  intro a0 k
  unfold spinneylaw02_CharClasses.f
  repeat' first
      | (with_reducible exact char_Class.mono _ _)
      | (with_reducible exact spinneylaw02_live.mono _)
      | (with_reducible exact spinneyref02_Class.mono _ _)
      | (with_reducible exact LeO.refl _)
      | (with_reducible exact LeO.none _)
      | (with_reducible refine LeO.ite ?_ ?_)
      | (with_reducible refine LeO.bind ?_ (fun _ => ?_))
      | exact char_Class.mono _ _
      | exact spinneylaw02_live.mono _
      | exact spinneyref02_Class.mono _ _
      | exact LeO.none _
      | refine LeO.ite ?_ ?_
      | refine LeO.bind ?_ (fun _ => ?_)
set_option maxHeartbeats 8000000 in
set_option maxRecDepth 100000 in
theorem spinneylaw02_CharClasses.calls (k : Nat) (a0 : Int) (r : Bool) (w : World) (h : spinneylaw02_CharClasses.f k a0 = some r) (hT : Tabs w) :
    Calls Tryd.prog 3 #[.int .i32 a0] w fun e w' => e = .returned (.bool r) ∧ Below w.heap.size w w' := by
  have HT := Aside0.mk hT
  clear hT
  have HB := Aside0.mk (Below.refl w.heap.size w)
  have H : ((spinneylaw02_live.f k).bind fun t122 => (if t122 = true then ((char_Class.f k a0).bind fun t123 => ((spinneyref02_Class.f k a0).bind fun t124 => (some (t123 == t124)))) else (none))) = some r := h
  clear h
  replace H := Option.bind_eq_some_iff.mp H
  obtain ⟨t122, A20, H⟩ := H
  replace H : (if t122 = true then ((char_Class.f k a0).bind fun t123 => ((spinneyref02_Class.f k a0).bind fun t124 => (some (t123 == t124)))) else (none)) = some r := H
  have A2 := Aside0.mk A20
  clear A20
  by_cases c3 : t122 = true
  · subst c3
    have H1 : ((char_Class.f k a0).bind fun t123 => ((spinneyref02_Class.f k a0).bind fun t124 => (some (t123 == t124)))) = some r := by rw [if_pos rfl] at H; exact H
    clear H
    have H := H1
    clear H1
    replace H := Option.bind_eq_some_iff.mp H
    obtain ⟨t123, A40, H⟩ := H
    replace H : ((spinneyref02_Class.f k a0).bind fun t124 => (some (t123 == t124))) = some r := H
    have A4 := Aside0.mk A40
    clear A40
    replace H := Option.bind_eq_some_iff.mp H
    obtain ⟨t124, A50, H⟩ := H
    replace H : (some (t123 == t124)) = some r := H
    have A5 := Aside0.mk A50
    clear A50
    obtain rfl := Option.some.inj H
    go_enter Tryd.func3, Tryd.ntmps3
    go_wp2_with (first | ((with_reducible refine gate_callee (f := 11) rfl ?_); refine goesL_ (some 3) rfl rfl Tryd.func11 (by kernel_rfl) rfl #[] rfl (by (try simp only [List.map_toArray, List.map_cons, List.map_nil]); first | done | rfl | (simp only [List.length_drop, List.length_take]; rfl)) ?_; (with_reducible refine (spinneylaw02_live.calls k  true _ A2.out (HT.out.below (by first | exact Below.refl _ _ | (repeat (first | (with_reducible first | exact HB.out | apply below_alloc | apply pw_below_drewN | apply below_drew1) | exact HB.out))))).mono ?_); rintro e w6 ⟨rfl, hb⟩; refine ⟨_, rfl, ?_⟩; have n0_ := Aside0.mk (below_step (by repeat (first | (with_reducible first | exact HB.out | apply below_alloc | apply pw_below_drewN | apply below_drew1) | exact HB.out)) hb); clear HB; have HB := n0_; clear n0_; (try clear hb); (try clear hb2); (try clear hk); (try clear hi)) | (go_at_call 12; (with_reducible refine (char_Class.calls k a0 t123 _ A4.out).mono ?_); rintro e w' ⟨rfl, ⟨nd, rfl⟩⟩) | (go_at_call 13; (with_reducible refine (spinneyref02_Class.calls k a0 t124 _ A5.out).mono ?_); rintro e w' ⟨rfl, ⟨nd, rfl⟩⟩))
    go_ret
    exact ⟨by first | rfl | (simp [errW_none, errW_some] <;> rfl) | (simp [*, errW_none, errW_some] <;> rfl), by repeat (first | (with_reducible first | exact HB.out | apply below_alloc | apply pw_below_drewN | apply below_drew1) | exact HB.out)⟩
  · replace c3 := Bool.eq_false_iff.mpr c3
    subst c3
    have H1 : (none) = some r := by rw [if_neg (show ¬ (false = true) by decide)] at H; exact H
    clear H
    have H := H1
    clear H1
    exact absurd H (by simp)

/-- THE ONE PURE STATEMENT of spinneylaw02_CharClasses: yours. -/
def spinneylaw02_CharClasses.Pure : Prop := ∀ (a0 : Int), (Lit.int .i32 a0).wf = true → ∃ k, spinneylaw02_CharClasses.f k a0 = some true
theorem spinneylaw02_CharClasses.walk (P : spinneylaw02_CharClasses.Pure) (a0 : Int) (w : World) (w0 : (Lit.int .i32 a0).wf = true) (hT : Tabs w) :
    Calls Tryd.prog 3 #[.int .i32 a0] w fun e w' => e = .returned (.bool true) ∧ Below w.heap.size w w' := by
  have HT := Aside0.mk hT
  clear hT
  obtain ⟨k, h⟩ := P a0 w0
  refine (spinneylaw02_CharClasses.calls k a0 true w h (HT.out.below (by first | exact Below.refl _ _ | (repeat (first | (with_reducible first | exact HB.out | apply below_alloc | apply pw_below_drewN | apply below_drew1) | exact HB.out))))).mono ?_
  rintro e w' ⟨rfl, hd⟩
  exact ⟨rfl, hd⟩

/-! ### spinneylaw02_CharBack: function 4 -/
def spinneylaw02_CharBack.j0 : Nat → ByteArray → ByteArray → Bool → Bool → Option (Bool)
  | 0, _, _, _, _ => none
  | k + 1, x0, x1, x5, x32 => if x32 = true then (some x5) else ((char_Write.f x0).bind fun t128 => (if t128.size + x1.size ≤ 9223372036854775807 then ((char_Read.f (t128 ++ x1)).bind fun bt129 => (if x5 = true then (if bt129.1.toList = x0.toList then (if bt129.2.1 = (t128.size : Int) then (some (bt129.2.2 == 0)) else (none)) else (none)) else (none))) else (none)))
def spinneylaw02_CharBack.f (k : Nat) (a0 : ByteArray) (a1 : ByteArray) : Option (Bool) := (spinneylaw02_live.f k).bind fun t125 => ((char_Check.f a0).bind fun t126 => (if t126 = true then ((char_Bare.f a0).bind fun t127 => (if t127 = true then (spinneylaw02_CharBack.j0 k a0 a1 t125 true) else (if (a1.size : Int) > 100000 then (spinneylaw02_CharBack.j0 k a0 a1 t125 true) else (if (a1.size : Int) > 0 then (if 0 < (a1.size : Int) then (spinneylaw02_CharBack.j0 k a0 a1 t125 ((bt a1 0) == 39)) else (none)) else (spinneylaw02_CharBack.j0 k a0 a1 t125 false))))) else (spinneylaw02_CharBack.j0 k a0 a1 t125 true)))
theorem spinneylaw02_CharBack.mono_l : ∀ k, (∀ y0 y1 y2 y3, LeO (spinneylaw02_CharBack.j0 k y0 y1 y2 y3) (spinneylaw02_CharBack.j0 (k + 1) y0 y1 y2 y3))
  | 0 => fun _ _ _ _ r h => by simp [spinneylaw02_CharBack.j0] at h
  | k + 1 => by
    have ih0 := spinneylaw02_CharBack.mono_l k
    · intro y0 y1 y2 y3
      unfold spinneylaw02_CharBack.j0
      repeat' first
      | (with_reducible exact ih0 _ _ _ _)
      | (with_reducible exact spinneylaw02_live.mono _)
      | (with_reducible exact LeO.refl _)
      | (with_reducible exact LeO.none _)
      | (with_reducible refine LeO.ite ?_ ?_)
      | (with_reducible refine LeO.bind ?_ (fun _ => ?_))
      | exact ih0 _ _ _ _
      | exact spinneylaw02_live.mono _
      | exact LeO.none _
      | refine LeO.ite ?_ ?_
      | refine LeO.bind ?_ (fun _ => ?_)
theorem spinneylaw02_CharBack.mono : ∀ a0 a1 k, LeO (spinneylaw02_CharBack.f k a0 a1) (spinneylaw02_CharBack.f (k + 1) a0 a1) := by
  intro a0 a1 k
  have ih0 := spinneylaw02_CharBack.mono_l k
  unfold spinneylaw02_CharBack.f
  repeat' first
      | (with_reducible exact ih0 _ _ _ _)
      | (with_reducible exact spinneylaw02_live.mono _)
      | (with_reducible exact LeO.refl _)
      | (with_reducible exact LeO.none _)
      | (with_reducible refine LeO.ite ?_ ?_)
      | (with_reducible refine LeO.bind ?_ (fun _ => ?_))
      | exact ih0 _ _ _ _
      | exact spinneylaw02_live.mono _
      | exact LeO.none _
      | refine LeO.ite ?_ ?_
      | refine LeO.bind ?_ (fun _ => ?_)
set_option maxHeartbeats 8000000 in
set_option maxRecDepth 100000 in
theorem spinneylaw02_CharBack.calls (k : Nat) (a0 : ByteArray) (a1 : ByteArray) (r : Bool) (w : World) (h : spinneylaw02_CharBack.f k a0 a1 = some r) (hT : Tabs w) :
    Calls Tryd.prog 4 #[.string a0, .string a1] w fun e w' => e = .returned (.bool r) ∧ Below w.heap.size w w' := by
  have HT := Aside0.mk hT
  clear hT
  have HB := Aside0.mk (Below.refl w.heap.size w)
  have H : ((spinneylaw02_live.f k).bind fun t125 => ((char_Check.f a0).bind fun t126 => (if t126 = true then ((char_Bare.f a0).bind fun t127 => (if t127 = true then (spinneylaw02_CharBack.j0 k a0 a1 t125 true) else (if (a1.size : Int) > 100000 then (spinneylaw02_CharBack.j0 k a0 a1 t125 true) else (if (a1.size : Int) > 0 then (if 0 < (a1.size : Int) then (spinneylaw02_CharBack.j0 k a0 a1 t125 ((bt a1 0) == 39)) else (none)) else (spinneylaw02_CharBack.j0 k a0 a1 t125 false))))) else (spinneylaw02_CharBack.j0 k a0 a1 t125 true)))) = some r := h
  clear h
  replace H := Option.bind_eq_some_iff.mp H
  obtain ⟨t125, A30, H⟩ := H
  replace H : ((char_Check.f a0).bind fun t126 => (if t126 = true then ((char_Bare.f a0).bind fun t127 => (if t127 = true then (spinneylaw02_CharBack.j0 k a0 a1 t125 true) else (if (a1.size : Int) > 100000 then (spinneylaw02_CharBack.j0 k a0 a1 t125 true) else (if (a1.size : Int) > 0 then (if 0 < (a1.size : Int) then (spinneylaw02_CharBack.j0 k a0 a1 t125 ((bt a1 0) == 39)) else (none)) else (spinneylaw02_CharBack.j0 k a0 a1 t125 false))))) else (spinneylaw02_CharBack.j0 k a0 a1 t125 true))) = some r := H
  have A3 := Aside0.mk A30
  clear A30
  have HC4 := Aside0.mk H
  clear H
  go_enter Tryd.func4, Tryd.ntmps4
  go_upto_region 2 with (first | ((with_reducible refine gate_callee (f := 11) rfl ?_); refine goesL_ (some 10) rfl rfl Tryd.func11 (by kernel_rfl) rfl #[] rfl (by (try simp only [List.map_toArray, List.map_cons, List.map_nil]); first | done | rfl | (simp only [List.length_drop, List.length_take]; rfl)) ?_; (with_reducible refine (spinneylaw02_live.calls k  t125 _ A3.out (HT.out.below (by first | exact Below.refl _ _ | (repeat (first | (with_reducible first | exact HB.out | apply below_alloc | apply pw_below_drewN | apply below_drew1) | exact HB.out))))).mono ?_); rintro e w5 ⟨rfl, hb⟩; refine ⟨_, rfl, ?_⟩; have n0_ := Aside0.mk (below_step (by repeat (first | (with_reducible first | exact HB.out | apply below_alloc | apply pw_below_drewN | apply below_drew1) | exact HB.out)) hb); clear HB; have HB := n0_; clear n0_; (try clear hb); (try clear hb2); (try clear hk); (try clear hi)))
  (try simp only [Act.put, List.setIfInBounds_toArray, List.set_cons_zero, List.set_cons_succ])
  go_cut [32] (fun v32 wc => ∃ (kq : Nat) (x32_3 : Bool), v32 = .bool x32_3 ∧ Aside0 (spinneylaw02_CharBack.j0 kq a0 a1 t125 x32_3 = some r) ∧ Aside0 (kq ≤ k) ∧ Aside0 (Below w.heap.size w wc))
  case first =>
    have H := HC4.out
    clear HC4
    replace H := Option.bind_eq_some_iff.mp H
    obtain ⟨t126, A60, H⟩ := H
    replace H : (if t126 = true then ((char_Bare.f a0).bind fun t127 => (if t127 = true then (spinneylaw02_CharBack.j0 k a0 a1 t125 true) else (if (a1.size : Int) > 100000 then (spinneylaw02_CharBack.j0 k a0 a1 t125 true) else (if (a1.size : Int) > 0 then (if 0 < (a1.size : Int) then (spinneylaw02_CharBack.j0 k a0 a1 t125 ((bt a1 0) == 39)) else (none)) else (spinneylaw02_CharBack.j0 k a0 a1 t125 false))))) else (spinneylaw02_CharBack.j0 k a0 a1 t125 true)) = some r := H
    have A6 := Aside0.mk A60
    clear A60
    by_cases c7 : t126 = true
    · subst c7
      have H1 : ((char_Bare.f a0).bind fun t127 => (if t127 = true then (spinneylaw02_CharBack.j0 k a0 a1 t125 true) else (if (a1.size : Int) > 100000 then (spinneylaw02_CharBack.j0 k a0 a1 t125 true) else (if (a1.size : Int) > 0 then (if 0 < (a1.size : Int) then (spinneylaw02_CharBack.j0 k a0 a1 t125 ((bt a1 0) == 39)) else (none)) else (spinneylaw02_CharBack.j0 k a0 a1 t125 false))))) = some r := by rw [if_pos rfl] at H; exact H
      clear H
      have H := H1
      clear H1
      replace H := Option.bind_eq_some_iff.mp H
      obtain ⟨t127, A80, H⟩ := H
      replace H : (if t127 = true then (spinneylaw02_CharBack.j0 k a0 a1 t125 true) else (if (a1.size : Int) > 100000 then (spinneylaw02_CharBack.j0 k a0 a1 t125 true) else (if (a1.size : Int) > 0 then (if 0 < (a1.size : Int) then (spinneylaw02_CharBack.j0 k a0 a1 t125 ((bt a1 0) == 39)) else (none)) else (spinneylaw02_CharBack.j0 k a0 a1 t125 false)))) = some r := H
      have A8 := Aside0.mk A80
      clear A80
      by_cases c9 : t127 = true
      · subst c9
        have H1 : (spinneylaw02_CharBack.j0 k a0 a1 t125 true) = some r := by rw [if_pos rfl] at H; exact H
        clear H
        have H := H1
        clear H1
        have H' := Aside0.mk H
        clear H
        go_wp2_with (first | ((with_reducible refine gate_callee (f := 14) rfl ?_); refine goesL_ (some 12) rfl rfl Tryd.func14 (by kernel_rfl) rfl #[.string a0] rfl (by (try simp only [List.map_toArray, List.map_cons, List.map_nil]); first | done | rfl | (simp only [List.length_drop, List.length_take]; rfl)) ?_; (with_reducible refine (char_Check.calls a0 true _ A6.out (HT.out.below (by first | exact Below.refl _ _ | (repeat (first | (with_reducible first | exact HB.out | apply below_alloc | apply pw_below_drewN | apply below_drew1) | exact HB.out))))).mono ?_); rintro e w10 ⟨rfl, hb⟩; refine ⟨_, rfl, ?_⟩; have n0_ := Aside0.mk (below_step (by repeat (first | (with_reducible first | exact HB.out | apply below_alloc | apply pw_below_drewN | apply below_drew1) | exact HB.out)) hb); clear HB; have HB := n0_; clear n0_; (try clear hb); (try clear hb2); (try clear hk); (try clear hi)) | (go_at_call 15; (with_reducible refine (char_Bare.calls a0 true _ A8.out).mono ?_); rintro e w11 ⟨rfl, hb⟩; have n0_ := Aside0.mk (below_step (by repeat (first | (with_reducible first | exact HB.out | apply below_alloc | apply pw_below_drewN | apply below_drew1) | exact HB.out)) hb); clear HB; have HB := n0_; clear n0_; (try clear hb); (try clear hb2); (try clear hk); (try clear hi)))
        go_meet
        case rel => exact ⟨_, (true), (by first | rfl | (simp; done) | (simp [*]; done)), H', ⟨by first | omega | exact Nat.le_refl _⟩, ⟨by repeat (first | (with_reducible first | exact HB.out | apply below_alloc | apply pw_below_drewN | apply below_drew1) | exact HB.out)⟩⟩
      · replace c9 := Bool.eq_false_iff.mpr c9
        subst c9
        have H1 : (if (a1.size : Int) > 100000 then (spinneylaw02_CharBack.j0 k a0 a1 t125 true) else (if (a1.size : Int) > 0 then (if 0 < (a1.size : Int) then (spinneylaw02_CharBack.j0 k a0 a1 t125 ((bt a1 0) == 39)) else (none)) else (spinneylaw02_CharBack.j0 k a0 a1 t125 false))) = some r := by rw [if_neg (show ¬ (false = true) by decide)] at H; exact H
        clear H
        have H := H1
        clear H1
        by_cases c12 : (a1.size : Int) > 100000
        · rw [if_pos c12] at H
          have c12b0 : decide (100000 < (a1.size : Int)) = true := decide_eq_true c12
          have c12b1 : decide (100000 < a1.size) = true := decide_eq_true (by omega)
          clear c12
          (first | rw [c12b0] | (simp only [i64_w, i32_w]; rw [c12b0]) | skip)
          have H' := Aside0.mk H
          clear H
          go_wp2_with (first | ((with_reducible refine gate_callee (f := 14) rfl ?_); refine goesL_ (some 12) rfl rfl Tryd.func14 (by kernel_rfl) rfl #[.string a0] rfl (by (try simp only [List.map_toArray, List.map_cons, List.map_nil]); first | done | rfl | (simp only [List.length_drop, List.length_take]; rfl)) ?_; (with_reducible refine (char_Check.calls a0 true _ A6.out (HT.out.below (by first | exact Below.refl _ _ | (repeat (first | (with_reducible first | exact HB.out | apply below_alloc | apply pw_below_drewN | apply below_drew1) | exact HB.out))))).mono ?_); rintro e w13 ⟨rfl, hb⟩; refine ⟨_, rfl, ?_⟩; have n0_ := Aside0.mk (below_step (by repeat (first | (with_reducible first | exact HB.out | apply below_alloc | apply pw_below_drewN | apply below_drew1) | exact HB.out)) hb); clear HB; have HB := n0_; clear n0_; (try clear hb); (try clear hb2); (try clear hk); (try clear hi)) | (go_at_call 15; (with_reducible refine (char_Bare.calls a0 false _ A8.out).mono ?_); rintro e w14 ⟨rfl, hb⟩; have n0_ := Aside0.mk (below_step (by repeat (first | (with_reducible first | exact HB.out | apply below_alloc | apply pw_below_drewN | apply below_drew1) | exact HB.out)) hb); clear HB; have HB := n0_; clear n0_; (try clear hb); (try clear hb2); (try clear hk); (try clear hi)))
          go_meet
          case rel => exact ⟨_, (true), (by first | rfl | (simp; done) | (simp [*]; done)), H', ⟨by first | omega | exact Nat.le_refl _⟩, ⟨by repeat (first | (with_reducible first | exact HB.out | apply below_alloc | apply pw_below_drewN | apply below_drew1) | exact HB.out)⟩⟩
        · rw [if_neg c12] at H
          have c12b0 : decide (100000 < (a1.size : Int)) = false := decide_eq_false c12
          have c12b1 : decide (100000 < a1.size) = false := decide_eq_false (by omega)
          clear c12
          (first | rw [c12b0] | (simp only [i64_w, i32_w]; rw [c12b0]) | skip)
          by_cases c15 : (a1.size : Int) > 0
          · rw [if_pos c15] at H
            have c15b0 : decide (0 < (a1.size : Int)) = true := decide_eq_true c15
            have c15b1 : decide (0 < a1.size) = true := decide_eq_true (by omega)
            clear c15
            by_cases c16 : 0 < (a1.size : Int)
            · rw [if_pos c16] at H
              have c16b0 : decide (0 < (a1.size : Int)) = true := decide_eq_true c16
              have c16b1 : decide (0 < a1.size) = true := decide_eq_true (by omega)
              clear c16
              have H' := Aside0.mk H
              clear H
              go_wp2_with (first | ((with_reducible refine gate_callee (f := 14) rfl ?_); refine goesL_ (some 12) rfl rfl Tryd.func14 (by kernel_rfl) rfl #[.string a0] rfl (by (try simp only [List.map_toArray, List.map_cons, List.map_nil]); first | done | rfl | (simp only [List.length_drop, List.length_take]; rfl)) ?_; (with_reducible refine (char_Check.calls a0 true _ A6.out (HT.out.below (by first | exact Below.refl _ _ | (repeat (first | (with_reducible first | exact HB.out | apply below_alloc | apply pw_below_drewN | apply below_drew1) | exact HB.out))))).mono ?_); rintro e w18 ⟨rfl, hb⟩; refine ⟨_, rfl, ?_⟩; have n0_ := Aside0.mk (below_step (by repeat (first | (with_reducible first | exact HB.out | apply below_alloc | apply pw_below_drewN | apply below_drew1) | exact HB.out)) hb); clear HB; have HB := n0_; clear n0_; (try clear hb); (try clear hb2); (try clear hk); (try clear hi)) | (go_at_call 15; (with_reducible refine (char_Bare.calls a0 false _ A8.out).mono ?_); rintro e w19 ⟨rfl, hb⟩; have n0_ := Aside0.mk (below_step (by repeat (first | (with_reducible first | exact HB.out | apply below_alloc | apply pw_below_drewN | apply below_drew1) | exact HB.out)) hb); clear HB; have HB := n0_; clear n0_; (try clear hb); (try clear hb2); (try clear hk); (try clear hi); have p17 : 0 ≤ (0 : Int) := (by omega); have q17 : 0 < a1.size := (by have : (0 : Int) < (a1.size : Int) := of_decide_eq_true (by first | (with_reducible assumption) | assumption); omega); have hx17 : ∀ h : 0 < a1.size, ((a1[0]'h).toNat : Int) = bt a1 0 := bt_at a1 0; clear p17; have qi17 : (0 < (a1.size : Int)) = True := eq_true (of_decide_eq_true (by first | (with_reducible assumption) | assumption)); replace q17 := eq_true q17))
              go_meet
              case rel => exact ⟨_, (((bt a1 0) == 39)), (by first | rfl | (simp; done) | (simp [*]; done)), H', ⟨by first | omega | exact Nat.le_refl _⟩, ⟨by repeat (first | (with_reducible first | exact HB.out | apply below_alloc | apply pw_below_drewN | apply below_drew1) | exact HB.out)⟩⟩
            · rw [if_neg c16] at H
              exact absurd H (by simp)
          · rw [if_neg c15] at H
            have c15b0 : decide (0 < (a1.size : Int)) = false := decide_eq_false c15
            have c15b1 : decide (0 < a1.size) = false := decide_eq_false (by omega)
            clear c15
            have H' := Aside0.mk H
            clear H
            go_wp2_with (first | ((with_reducible refine gate_callee (f := 14) rfl ?_); refine goesL_ (some 12) rfl rfl Tryd.func14 (by kernel_rfl) rfl #[.string a0] rfl (by (try simp only [List.map_toArray, List.map_cons, List.map_nil]); first | done | rfl | (simp only [List.length_drop, List.length_take]; rfl)) ?_; (with_reducible refine (char_Check.calls a0 true _ A6.out (HT.out.below (by first | exact Below.refl _ _ | (repeat (first | (with_reducible first | exact HB.out | apply below_alloc | apply pw_below_drewN | apply below_drew1) | exact HB.out))))).mono ?_); rintro e w20 ⟨rfl, hb⟩; refine ⟨_, rfl, ?_⟩; have n0_ := Aside0.mk (below_step (by repeat (first | (with_reducible first | exact HB.out | apply below_alloc | apply pw_below_drewN | apply below_drew1) | exact HB.out)) hb); clear HB; have HB := n0_; clear n0_; (try clear hb); (try clear hb2); (try clear hk); (try clear hi)) | (go_at_call 15; (with_reducible refine (char_Bare.calls a0 false _ A8.out).mono ?_); rintro e w21 ⟨rfl, hb⟩; have n0_ := Aside0.mk (below_step (by repeat (first | (with_reducible first | exact HB.out | apply below_alloc | apply pw_below_drewN | apply below_drew1) | exact HB.out)) hb); clear HB; have HB := n0_; clear n0_; (try clear hb); (try clear hb2); (try clear hk); (try clear hi)))
            go_meet
            case rel => exact ⟨_, (false), (by first | rfl | (simp; done) | (simp [*]; done)), H', ⟨by first | omega | exact Nat.le_refl _⟩, ⟨by repeat (first | (with_reducible first | exact HB.out | apply below_alloc | apply pw_below_drewN | apply below_drew1) | exact HB.out)⟩⟩
    · replace c7 := Bool.eq_false_iff.mpr c7
      subst c7
      have H1 : (spinneylaw02_CharBack.j0 k a0 a1 t125 true) = some r := by rw [if_neg (show ¬ (false = true) by decide)] at H; exact H
      clear H
      have H := H1
      clear H1
      have H' := Aside0.mk H
      clear H
      go_wp2_with (first | ((with_reducible refine gate_callee (f := 14) rfl ?_); refine goesL_ (some 12) rfl rfl Tryd.func14 (by kernel_rfl) rfl #[.string a0] rfl (by (try simp only [List.map_toArray, List.map_cons, List.map_nil]); first | done | rfl | (simp only [List.length_drop, List.length_take]; rfl)) ?_; (with_reducible refine (char_Check.calls a0 false _ A6.out (HT.out.below (by first | exact Below.refl _ _ | (repeat (first | (with_reducible first | exact HB.out | apply below_alloc | apply pw_below_drewN | apply below_drew1) | exact HB.out))))).mono ?_); rintro e w22 ⟨rfl, hb⟩; refine ⟨_, rfl, ?_⟩; have n0_ := Aside0.mk (below_step (by repeat (first | (with_reducible first | exact HB.out | apply below_alloc | apply pw_below_drewN | apply below_drew1) | exact HB.out)) hb); clear HB; have HB := n0_; clear n0_; (try clear hb); (try clear hb2); (try clear hk); (try clear hi)))
      go_meet
      case rel => exact ⟨_, (true), (by first | rfl | (simp; done) | (simp [*]; done)), H', ⟨by first | omega | exact Nat.le_refl _⟩, ⟨by repeat (first | (with_reducible first | exact HB.out | apply below_alloc | apply pw_below_drewN | apply below_drew1) | exact HB.out)⟩⟩
  case rest =>
    clear HC4
    try clear c1
    try clear p1
    try clear q1
    try clear hx1
    try clear qi1
    try clear p2
    try clear c4
    try clear c7
    try clear c9
    try clear c11
    try clear c12
    try clear c12b0
    try clear c12b1
    try clear c14
    try clear c15
    try clear c15b0
    try clear c15b1
    try clear c16
    try clear c16b0
    try clear c16b1
    try clear p17
    try clear q17
    try clear hx17
    try clear qi17
    try clear p17
    try clear q17
    obtain ⟨kq, x32_3, rfl, HA, HJ3, HB⟩ := hcut
    cases kq with
    | zero => exact absurd HA.out (by simp [spinneylaw02_CharBack.j0])
    | succ kj3 =>
      have H := HA.out
      clear HA
      simp only [spinneylaw02_CharBack.j0] at H
      by_cases c23 : x32_3 = true
      · subst c23
        have H1 : (some t125) = some r := by rw [if_pos rfl] at H; exact H
        clear H
        have H := H1
        clear H1
        obtain rfl := Option.some.inj H
        go_wp2
        go_ret
        exact ⟨by first | rfl | (simp [errW_none, errW_some] <;> rfl) | (simp [*, errW_none, errW_some] <;> rfl), by repeat (first | (with_reducible first | exact HB.out | apply below_alloc | apply pw_below_drewN | apply below_drew1) | exact HB.out)⟩
      · replace c23 := Bool.eq_false_iff.mpr c23
        subst c23
        have H1 : ((char_Write.f a0).bind fun t128 => (if t128.size + a1.size ≤ 9223372036854775807 then ((char_Read.f (t128 ++ a1)).bind fun bt129 => (if t125 = true then (if bt129.1.toList = a0.toList then (if bt129.2.1 = (t128.size : Int) then (some (bt129.2.2 == 0)) else (none)) else (none)) else (none))) else (none))) = some r := by rw [if_neg (show ¬ (false = true) by decide)] at H; exact H
        clear H
        have H := H1
        clear H1
        replace H := Option.bind_eq_some_iff.mp H
        obtain ⟨t128, A240, H⟩ := H
        replace H : (if t128.size + a1.size ≤ 9223372036854775807 then ((char_Read.f (t128 ++ a1)).bind fun bt129 => (if t125 = true then (if bt129.1.toList = a0.toList then (if bt129.2.1 = (t128.size : Int) then (some (bt129.2.2 == 0)) else (none)) else (none)) else (none))) else (none)) = some r := H
        have A24 := Aside0.mk A240
        clear A240
        by_cases c25 : t128.size + a1.size ≤ 9223372036854775807
        · rw [if_pos c25] at H
          have c25b0 := eq_true c25
          have c25b1 : decide (t128.size + a1.size ≤ 9223372036854775807) = true := decide_eq_true c25
          try have c25b2 : (9223372036854775807 < t128.size + a1.size) = False := eq_false (Nat.not_lt.2 c25)
          replace H := Option.bind_eq_some_iff.mp H
          obtain ⟨⟨t129, t130, t131⟩, A260, H⟩ := H
          replace H : (if t125 = true then (if t129.toList = a0.toList then (if t130 = (t128.size : Int) then (some (t131 == 0)) else (none)) else (none)) else (none)) = some r := H
          have A26 := Aside0.mk A260
          clear A260
          by_cases c27 : t125 = true
          · subst c27
            have H1 : (if t129.toList = a0.toList then (if t130 = (t128.size : Int) then (some (t131 == 0)) else (none)) else (none)) = some r := by rw [if_pos rfl] at H; exact H
            clear H
            have H := H1
            clear H1
            by_cases c28 : t129.toList = a0.toList
            · rw [if_pos c28] at H
              have c28b0 : (t129.toList == a0.toList) = true := beq_iff_eq.mpr c28
              have c28b1 : (t129.toList != a0.toList) = false := bne_eq_false_iff_eq.mpr c28
              clear c28
              by_cases c29 : t130 = (t128.size : Int)
              · rw [if_pos c29] at H
                have c29b0 : (t130 == (t128.size : Int)) = true := beq_iff_eq.mpr c29
                have c29b1 : (t130 != (t128.size : Int)) = false := bne_eq_false_iff_eq.mpr c29
                clear c29
                obtain rfl := Option.some.inj H
                go_wp2_with (first | ((with_reducible refine gate_callee (f := 16) rfl ?_); refine goesL_ (some 35) rfl rfl Tryd.func16 (by kernel_rfl) rfl #[.string a0] rfl (by (try simp only [List.map_toArray, List.map_cons, List.map_nil]); first | done | rfl | (simp only [List.length_drop, List.length_take]; rfl)) ?_; (with_reducible refine (char_Write.calls a0 t128 _ A24.out (HT.out.below (by first | exact Below.refl _ _ | (repeat (first | (with_reducible first | exact HB.out | apply below_alloc | apply pw_below_drewN | apply below_drew1) | exact HB.out))))).mono ?_); rintro e w30 ⟨rfl, hb⟩; refine ⟨_, rfl, ?_⟩; have n0_ := Aside0.mk (below_step (by repeat (first | (with_reducible first | exact HB.out | apply below_alloc | apply pw_below_drewN | apply below_drew1) | exact HB.out)) hb); clear HB; have HB := n0_; clear n0_; (try clear hb); (try clear hb2); (try clear hk); (try clear hi)) | ((with_reducible refine gate_callee (f := 17) rfl ?_); refine goesL_ (some 40) rfl rfl Tryd.func17 (by kernel_rfl) rfl #[.string (t128 ++ a1)] rfl (by (try simp only [List.map_toArray, List.map_cons, List.map_nil]); first | done | rfl | (simp only [List.length_drop, List.length_take]; rfl)) ?_; (with_reducible refine (char_Read.calls (t128 ++ a1) t129 t130 t131 _ A26.out (HT.out.below (by first | exact Below.refl _ _ | (repeat (first | (with_reducible first | exact HB.out | apply below_alloc | apply pw_below_drewN | apply below_drew1) | exact HB.out))))).mono ?_); rintro e w31 ⟨rfl, hb⟩; refine ⟨_, rfl, ?_⟩; have n0_ := Aside0.mk (below_step (by repeat (first | (with_reducible first | exact HB.out | apply below_alloc | apply pw_below_drewN | apply below_drew1) | exact HB.out)) hb); clear HB; have HB := n0_; clear n0_; (try clear hb); (try clear hb2); (try clear hk); (try clear hi)))
                go_ret
                exact ⟨by first | rfl | (simp [errW_none, errW_some] <;> rfl) | (simp [*, errW_none, errW_some] <;> rfl), by repeat (first | (with_reducible first | exact HB.out | apply below_alloc | apply pw_below_drewN | apply below_drew1) | exact HB.out)⟩
              · rw [if_neg c29] at H
                exact absurd H (by simp)
            · rw [if_neg c28] at H
              exact absurd H (by simp)
          · replace c27 := Bool.eq_false_iff.mpr c27
            subst c27
            have H1 : (none) = some r := by rw [if_neg (show ¬ (false = true) by decide)] at H; exact H
            clear H
            have H := H1
            clear H1
            exact absurd H (by simp)
        · rw [if_neg c25] at H
          exact absurd H (by simp)

/-- THE ONE PURE STATEMENT of spinneylaw02_CharBack: yours. -/
def spinneylaw02_CharBack.Pure : Prop := ∀ (a0 : ByteArray) (a1 : ByteArray), a0.size ≤ 140737488351232 → a1.size ≤ 140737488351232 → ∃ k, spinneylaw02_CharBack.f k a0 a1 = some true
theorem spinneylaw02_CharBack.walk (P : spinneylaw02_CharBack.Pure) (a0 : ByteArray) (a1 : ByteArray) (w : World) (w0 : a0.size ≤ 140737488351232) (w1 : a1.size ≤ 140737488351232) (hT : Tabs w) :
    Calls Tryd.prog 4 #[.string a0, .string a1] w fun e w' => e = .returned (.bool true) ∧ Below w.heap.size w w' := by
  have HT := Aside0.mk hT
  clear hT
  obtain ⟨k, h⟩ := P a0 a1 w0 w1
  refine (spinneylaw02_CharBack.calls k a0 a1 true w h (HT.out.below (by first | exact Below.refl _ _ | (repeat (first | (with_reducible first | exact HB.out | apply below_alloc | apply pw_below_drewN | apply below_drew1) | exact HB.out))))).mono ?_
  rintro e w' ⟨rfl, hd⟩
  exact ⟨rfl, hd⟩

end Go.Proofs.YtkniiinpkchjoaaDoor.P
