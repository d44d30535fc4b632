-- PRINTED by a program of this session over the kit's print.py.
import Derived.Test.YtkniiinpkchjoaaDoorPx0
import Derived.Test.YtkniiinpkchjoaaDoorPx9
namespace Go.Proofs.YtkniiinpkchjoaaDoor.P
open Go.Own Go.RowKit Go.Proofs.YtkniiinpkchjoaaDoorW.PrintWords Go.Proofs.YtkniiinpkchjoaaDoorW.PrintLast Go.Proofs.YtkniiinpkchjoaaDoorW.PrintMore
attribute [local go_sem] max2_int min2_int max_two min_two max_three min_three max_four min_four   -- for this text's walks alone
set_option linter.unusedVariables false
set_option linter.unusedSimpArgs false

/-! ### spinneyref02_Class: function 13 -/
mutual
def spinneyref02_Class.j0 : Nat → Int → Bool → Option (Int)
  | 0, _, _ => none
  | k + 1, x0, x3 => if x3 = true then (some 1) else (if x0 ≥ 65 then (if x0 ≤ 90 then (spinneyref02_Class.j1 k x0 true) else (spinneyref02_Class.j1 k x0 (x0 == 95))) else (spinneyref02_Class.j1 k x0 (x0 == 95)))
def spinneyref02_Class.j1 : Nat → Int → Bool → Option (Int)
  | 0, _, _ => none
  | k + 1, x0, x10 => if x10 = true then (some 2) else (if x0 ≥ 48 then (spinneyref02_Class.j2 k x0 (decide (x0 ≤ 57))) else (spinneyref02_Class.j2 k x0 false))
def spinneyref02_Class.j2 : Nat → Int → Bool → Option (Int)
  | 0, _, _ => none
  | k + 1, x0, x21 => if x21 = true then (some 3) else ((spinneyref02_among.f k x0 (⟨#[43, 45, 42, 47, 92, 94, 60, 62, 61, 126, 58, 46, 63, 64, 35, 38, 36]⟩ : ByteArray)).bind fun t119 => (if t119 = true then (some 4) else (if x0 = 9 then (spinneyref02_Class.j3 k x0 true) else (if x0 = 10 then (spinneyref02_Class.j3 k x0 true) else (if x0 = 13 then (spinneyref02_Class.j3 k x0 true) else (spinneyref02_Class.j3 k x0 (x0 == 32)))))))
def spinneyref02_Class.j3 : Nat → Int → Bool → Option (Int)
  | 0, _, _ => none
  | k + 1, x0, x31 => if x31 = true then (some 5) else ((spinneyref02_among.f k x0 (⟨#[33, 59, 44, 124]⟩ : ByteArray)).bind fun t120 => (if t120 = true then (some 6) else ((spinneyref02_among.f k x0 (⟨#[40, 41, 91, 93, 123, 125]⟩ : ByteArray)).bind fun t121 => (if t121 = true then (some 7) else (if x0 = 39 then (some 8) else (some 0))))))
end
def spinneyref02_Class.f (k : Nat) (a0 : Int) : Option (Int) := if a0 ≥ 97 then (spinneyref02_Class.j0 k a0 (decide (a0 ≤ 122))) else (spinneyref02_Class.j0 k a0 false)
theorem spinneyref02_Class.mono_l : ∀ k, (∀ y0 y1, LeO (spinneyref02_Class.j0 k y0 y1) (spinneyref02_Class.j0 (k + 1) y0 y1)) ∧ (∀ y0 y1, LeO (spinneyref02_Class.j1 k y0 y1) (spinneyref02_Class.j1 (k + 1) y0 y1)) ∧ (∀ y0 y1, LeO (spinneyref02_Class.j2 k y0 y1) (spinneyref02_Class.j2 (k + 1) y0 y1)) ∧ (∀ y0 y1, LeO (spinneyref02_Class.j3 k y0 y1) (spinneyref02_Class.j3 (k + 1) y0 y1))
  | 0 => ⟨fun _ _ r h => by simp [spinneyref02_Class.j0] at h, fun _ _ r h => by simp [spinneyref02_Class.j1] at h, fun _ _ r h => by simp [spinneyref02_Class.j2] at h, fun _ _ r h => by simp [spinneyref02_Class.j3] at h⟩
  | k + 1 => by
    obtain ⟨ih0, ih1, ih2, ih3⟩ := spinneyref02_Class.mono_l k
    refine ⟨?_, ?_, ?_, ?_⟩
    · intro y0 y1
      unfold spinneyref02_Class.j0
      repeat' first
      | (with_reducible exact ih0 _ _)
      | (with_reducible exact ih1 _ _)
      | (with_reducible exact ih2 _ _)
      | (with_reducible exact ih3 _ _)
      | (with_reducible exact spinneyref02_among.mono _ _ _)
      | (with_reducible exact LeO.refl _)
      | (with_reducible exact LeO.none _)
      | (with_reducible refine LeO.ite ?_ ?_)
      | (with_reducible refine LeO.bind ?_ (fun _ => ?_))
      | exact ih0 _ _
      | exact ih1 _ _
      | exact ih2 _ _
      | exact ih3 _ _
      | exact spinneyref02_among.mono _ _ _
      | exact LeO.none _
      | refine LeO.ite ?_ ?_
      | refine LeO.bind ?_ (fun _ => ?_)
    · intro y0 y1
      unfold spinneyref02_Class.j1
      repeat' first
      | (with_reducible exact ih0 _ _)
      | (with_reducible exact ih1 _ _)
      | (with_reducible exact ih2 _ _)
      | (with_reducible exact ih3 _ _)
      | (with_reducible exact spinneyref02_among.mono _ _ _)
      | (with_reducible exact LeO.refl _)
      | (with_reducible exact LeO.none _)
      | (with_reducible refine LeO.ite ?_ ?_)
      | (with_reducible refine LeO.bind ?_ (fun _ => ?_))
      | exact ih0 _ _
      | exact ih1 _ _
      | exact ih2 _ _
      | exact ih3 _ _
      | exact spinneyref02_among.mono _ _ _
      | exact LeO.none _
      | refine LeO.ite ?_ ?_
      | refine LeO.bind ?_ (fun _ => ?_)
    · intro y0 y1
      unfold spinneyref02_Class.j2
      repeat' first
      | (with_reducible exact ih0 _ _)
      | (with_reducible exact ih1 _ _)
      | (with_reducible exact ih2 _ _)
      | (with_reducible exact ih3 _ _)
      | (with_reducible exact spinneyref02_among.mono _ _ _)
      | (with_reducible exact LeO.refl _)
      | (with_reducible exact LeO.none _)
      | (with_reducible refine LeO.ite ?_ ?_)
      | (with_reducible refine LeO.bind ?_ (fun _ => ?_))
      | exact ih0 _ _
      | exact ih1 _ _
      | exact ih2 _ _
      | exact ih3 _ _
      | exact spinneyref02_among.mono _ _ _
      | exact LeO.none _
      | refine LeO.ite ?_ ?_
      | refine LeO.bind ?_ (fun _ => ?_)
    · intro y0 y1
      unfold spinneyref02_Class.j3
      repeat' first
      | (with_reducible exact ih0 _ _)
      | (with_reducible exact ih1 _ _)
      | (with_reducible exact ih2 _ _)
      | (with_reducible exact ih3 _ _)
      | (with_reducible exact spinneyref02_among.mono _ _ _)
      | (with_reducible exact LeO.refl _)
      | (with_reducible exact LeO.none _)
      | (with_reducible refine LeO.ite ?_ ?_)
      | (with_reducible refine LeO.bind ?_ (fun _ => ?_))
      | exact ih0 _ _
      | exact ih1 _ _
      | exact ih2 _ _
      | exact ih3 _ _
      | exact spinneyref02_among.mono _ _ _
      | exact LeO.none _
      | refine LeO.ite ?_ ?_
      | refine LeO.bind ?_ (fun _ => ?_)
theorem spinneyref02_Class.mono : ∀ a0 k, LeO (spinneyref02_Class.f k a0) (spinneyref02_Class.f (k + 1) a0) := by
  intro a0 k
  obtain ⟨ih0, ih1, ih2, ih3⟩ := spinneyref02_Class.mono_l k
  unfold spinneyref02_Class.f
  repeat' first
      | (with_reducible exact ih0 _ _)
      | (with_reducible exact ih1 _ _)
      | (with_reducible exact ih2 _ _)
      | (with_reducible exact ih3 _ _)
      | (with_reducible exact spinneyref02_among.mono _ _ _)
      | (with_reducible exact LeO.refl _)
      | (with_reducible exact LeO.none _)
      | (with_reducible refine LeO.ite ?_ ?_)
      | (with_reducible refine LeO.bind ?_ (fun _ => ?_))
      | exact ih0 _ _
      | exact ih1 _ _
      | exact ih2 _ _
      | exact ih3 _ _
      | exact spinneyref02_among.mono _ _ _
      | exact LeO.none _
      | refine LeO.ite ?_ ?_
      | refine LeO.bind ?_ (fun _ => ?_)
set_option maxHeartbeats 8000000 in
set_option maxRecDepth 100000 in
theorem spinneyref02_Class.calls (k : Nat) (a0 : Int) (r : Int) (w : World) (h : spinneyref02_Class.f k a0 = some r) :
    Calls Tryd.prog 13 #[.int .i32 a0] w fun e w' => e = .returned (.int .i64 r) ∧ Drawn0 w w' := by
  have H : (if a0 ≥ 97 then (spinneyref02_Class.j0 k a0 (decide (a0 ≤ 122))) else (spinneyref02_Class.j0 k a0 false)) = some r := h
  clear h
  have HC2 := Aside0.mk H
  clear H
  go_enter Tryd.func13, Tryd.ntmps13
  go_upto_region 1 with (fail)
  go_cut [3] (fun v3 wc => ∃ (kq : Nat) (x3_1 : Bool), v3 = .bool x3_1 ∧ Aside0 (spinneyref02_Class.j0 kq a0 x3_1 = some r) ∧ Aside0 (kq ≤ k) ∧ Drawn0 w wc)
  case first =>
    have H := HC2.out
    clear HC2
    by_cases c3 : a0 ≥ 97
    · rw [if_pos c3] at H
      have c3b0 : decide (97 ≤ a0) = true := decide_eq_true c3
      clear c3
      (first | rw [c3b0] | (simp only [i64_w, i32_w]; rw [c3b0]) | skip)
      have H' := Aside0.mk H
      clear H
      go_wp2
      go_meet
      case rel => exact ⟨_, (decide (a0 ≤ 122)), (by first | rfl | (simp; done) | (simp [*]; done)), H', ⟨by first | omega | exact Nat.le_refl _⟩, by repeat (first | exact Drawn0.refl _ | apply Drawn0.step)⟩
    · rw [if_neg c3] at H
      have c3b0 : decide (97 ≤ a0) = false := decide_eq_false c3
      clear c3
      (first | rw [c3b0] | (simp only [i64_w, i32_w]; rw [c3b0]) | skip)
      have H' := Aside0.mk H
      clear H
      go_wp2
      go_meet
      case rel => exact ⟨_, (false), (by first | rfl | (simp; done) | (simp [*]; done)), H', ⟨by first | omega | exact Nat.le_refl _⟩, by repeat (first | exact Drawn0.refl _ | apply Drawn0.step)⟩
  case rest =>
    clear HC2
    try clear c1
    try clear p2
    try clear c3
    try clear c3b0
    obtain ⟨kq, x3_1, rfl, HA, HJ1, ⟨mc1, rfl⟩⟩ := hcut
    cases kq with
    | zero => exact absurd HA.out (by simp [spinneyref02_Class.j0])
    | succ kj1 =>
      have H := HA.out
      clear HA
      simp only [spinneyref02_Class.j0] at H
      by_cases c4 : x3_1 = true
      · subst c4
        have H1 : (some 1) = some r := by rw [if_pos rfl] at H; exact H
        clear H
        have H := H1
        clear H1
        obtain rfl := Option.some.inj H
        go_wp2
        go_ret
        exact ⟨by first | rfl | (simp; done) | (simp [*]; done), by repeat (first | exact Drawn0.refl _ | apply Drawn0.step)⟩
      · replace c4 := Bool.eq_false_iff.mpr c4
        subst c4
        have H1 : (if a0 ≥ 65 then (if a0 ≤ 90 then (spinneyref02_Class.j1 kj1 a0 true) else (spinneyref02_Class.j1 kj1 a0 (a0 == 95))) else (spinneyref02_Class.j1 kj1 a0 (a0 == 95))) = some r := by rw [if_neg (show ¬ (false = true) by decide)] at H; exact H
        clear H
        have H := H1
        clear H1
        have HC5 := Aside0.mk H
        clear H
        go_upto_region 3 with (fail)
        go_cut [10] (fun v10 wc => ∃ (kq : Nat) (x10_4 : Bool), v10 = .bool x10_4 ∧ Aside0 (spinneyref02_Class.j1 kq a0 x10_4 = some r) ∧ Aside0 (kq ≤ kj1) ∧ Drawn0 w wc)
        case first =>
          have H := HC5.out
          clear HC5
          by_cases c6 : a0 ≥ 65
          · rw [if_pos c6] at H
            have c6b0 : decide (65 ≤ a0) = true := decide_eq_true c6
            clear c6
            (first | rw [c6b0] | (simp only [i64_w, i32_w]; rw [c6b0]) | skip)
            by_cases c7 : a0 ≤ 90
            · rw [if_pos c7] at H
              have c7b0 : decide (a0 ≤ 90) = true := decide_eq_true c7
              clear c7
              have H' := Aside0.mk H
              clear H
              go_wp2
              go_meet
              case rel => exact ⟨_, (true), (by first | rfl | (simp; done) | (simp [*]; done)), H', ⟨by have := HJ1.out; first | omega | exact Nat.le_refl _⟩, by repeat (first | exact Drawn0.refl _ | apply Drawn0.step)⟩
            · rw [if_neg c7] at H
              have c7b0 : decide (a0 ≤ 90) = false := decide_eq_false c7
              clear c7
              have H' := Aside0.mk H
              clear H
              go_wp2
              go_meet
              case rel => exact ⟨_, ((a0 == 95)), (by first | rfl | (simp; done) | (simp [*]; done)), H', ⟨by have := HJ1.out; first | omega | exact Nat.le_refl _⟩, by repeat (first | exact Drawn0.refl _ | apply Drawn0.step)⟩
          · rw [if_neg c6] at H
            have c6b0 : decide (65 ≤ a0) = false := decide_eq_false c6
            clear c6
            (first | rw [c6b0] | (simp only [i64_w, i32_w]; rw [c6b0]) | skip)
            have H' := Aside0.mk H
            clear H
            go_wp2
            go_meet
            case rel => exact ⟨_, ((a0 == 95)), (by first | rfl | (simp; done) | (simp [*]; done)), H', ⟨by have := HJ1.out; first | omega | exact Nat.le_refl _⟩, by repeat (first | exact Drawn0.refl _ | apply Drawn0.step)⟩
        case rest =>
          clear HC5
          try clear c1
          try clear p2
          try clear c3
          try clear c3b0
          try clear c4
          try clear c6
          try clear c6b0
          try clear c7
          try clear c7b0
          try clear p2
          obtain ⟨kq, x10_4, rfl, HA, HJ4, ⟨mc4, rfl⟩⟩ := hcut
          cases kq with
          | zero => exact absurd HA.out (by simp [spinneyref02_Class.j1])
          | succ kj4 =>
            have H := HA.out
            clear HA
            simp only [spinneyref02_Class.j1] at H
            by_cases c8 : x10_4 = true
            · subst c8
              have H1 : (some 2) = some r := by rw [if_pos rfl] at H; exact H
              clear H
              have H := H1
              clear H1
              obtain rfl := Option.some.inj H
              go_wp2
              go_ret
              exact ⟨by first | rfl | (simp; done) | (simp [*]; done), by repeat (first | exact Drawn0.refl _ | apply Drawn0.step)⟩
            · replace c8 := Bool.eq_false_iff.mpr c8
              subst c8
              have H1 : (if a0 ≥ 48 then (spinneyref02_Class.j2 kj4 a0 (decide (a0 ≤ 57))) else (spinneyref02_Class.j2 kj4 a0 false)) = some r := by rw [if_neg (show ¬ (false = true) by decide)] at H; exact H
              clear H
              have H := H1
              clear H1
              have HC9 := Aside0.mk H
              clear H
              go_upto_region 5 with (fail)
              go_cut [21] (fun v21 wc => ∃ (kq : Nat) (x21_8 : Bool), v21 = .bool x21_8 ∧ Aside0 (spinneyref02_Class.j2 kq a0 x21_8 = some r) ∧ Aside0 (kq ≤ kj4) ∧ Drawn0 w wc)
              case first =>
                have H := HC9.out
                clear HC9
                by_cases c10 : a0 ≥ 48
                · rw [if_pos c10] at H
                  have c10b0 : decide (48 ≤ a0) = true := decide_eq_true c10
                  clear c10
                  (first | rw [c10b0] | (simp only [i64_w, i32_w]; rw [c10b0]) | skip)
                  have H' := Aside0.mk H
                  clear H
                  go_wp2
                  go_meet
                  case rel => exact ⟨_, (decide (a0 ≤ 57)), (by first | rfl | (simp; done) | (simp [*]; done)), H', ⟨by have := HJ1.out; have := HJ4.out; first | omega | exact Nat.le_refl _⟩, by repeat (first | exact Drawn0.refl _ | apply Drawn0.step)⟩
                · rw [if_neg c10] at H
                  have c10b0 : decide (48 ≤ a0) = false := decide_eq_false c10
                  clear c10
                  (first | rw [c10b0] | (simp only [i64_w, i32_w]; rw [c10b0]) | skip)
                  have H' := Aside0.mk H
                  clear H
                  go_wp2
                  go_meet
                  case rel => exact ⟨_, (false), (by first | rfl | (simp; done) | (simp [*]; done)), H', ⟨by have := HJ1.out; have := HJ4.out; first | omega | exact Nat.le_refl _⟩, by repeat (first | exact Drawn0.refl _ | apply Drawn0.step)⟩
              case rest =>
                clear HC9
                try clear c1
                try clear p2
                try clear c3
                try clear c3b0
                try clear c4
                try clear c6
                try clear c6b0
                try clear c7
                try clear c7b0
                try clear c8
                try clear c10
                try clear c10b0
                try clear p2
                obtain ⟨kq, x21_8, rfl, HA, HJ8, ⟨mc8, rfl⟩⟩ := hcut
                cases kq with
                | zero => exact absurd HA.out (by simp [spinneyref02_Class.j2])
                | succ kj8 =>
                  have H := HA.out
                  clear HA
                  simp only [spinneyref02_Class.j2] at H
                  by_cases c11 : x21_8 = true
                  · subst c11
                    have H1 : (some 3) = some r := by rw [if_pos rfl] at H; exact H
                    clear H
                    have H := H1
                    clear H1
                    obtain rfl := Option.some.inj H
                    go_wp2
                    go_ret
                    exact ⟨by first | rfl | (simp; done) | (simp [*]; done), by repeat (first | exact Drawn0.refl _ | apply Drawn0.step)⟩
                  · replace c11 := Bool.eq_false_iff.mpr c11
                    subst c11
                    have H1 : ((spinneyref02_among.f kj8 a0 (⟨#[43, 45, 42, 47, 92, 94, 60, 62, 61, 126, 58, 46, 63, 64, 35, 38, 36]⟩ : ByteArray)).bind fun t119 => (if t119 = true then (some 4) else (if a0 = 9 then (spinneyref02_Class.j3 kj8 a0 true) else (if a0 = 10 then (spinneyref02_Class.j3 kj8 a0 true) else (if a0 = 13 then (spinneyref02_Class.j3 kj8 a0 true) else (spinneyref02_Class.j3 kj8 a0 (a0 == 32))))))) = some r := by rw [if_neg (show ¬ (false = true) by decide)] at H; exact H
                    clear H
                    have H := H1
                    clear H1
                    replace H := Option.bind_eq_some_iff.mp H
                    obtain ⟨t119, A120, H⟩ := H
                    replace H : (if t119 = true then (some 4) else (if a0 = 9 then (spinneyref02_Class.j3 kj8 a0 true) else (if a0 = 10 then (spinneyref02_Class.j3 kj8 a0 true) else (if a0 = 13 then (spinneyref02_Class.j3 kj8 a0 true) else (spinneyref02_Class.j3 kj8 a0 (a0 == 32)))))) = some r := H
                    have A12 := Aside0.mk A120
                    clear A120
                    by_cases c13 : t119 = true
                    · subst c13
                      have H1 : (some 4) = some r := by rw [if_pos rfl] at H; exact H
                      clear H
                      have H := H1
                      clear H1
                      obtain rfl := Option.some.inj H
                      go_wp2_with (first | ((with_reducible refine gate_callee (f := 22) rfl ?_); refine goesL_ (some 30) rfl rfl Tryd.func22 (by kernel_rfl) rfl #[.int .i32 a0, .string (⟨#[43, 45, 42, 47, 92, 94, 60, 62, 61, 126, 58, 46, 63, 64, 35, 38, 36]⟩ : ByteArray)] rfl (by (try simp only [List.map_toArray, List.map_cons, List.map_nil]); first | done | rfl | (simp only [List.length_drop, List.length_take]; rfl)) ?_; (with_reducible refine (spinneyref02_among.calls kj8 a0 (⟨#[43, 45, 42, 47, 92, 94, 60, 62, 61, 126, 58, 46, 63, 64, 35, 38, 36]⟩ : ByteArray) true _ A12.out).mono ?_); rintro e w' ⟨rfl, ⟨nd, rfl⟩⟩; refine ⟨_, rfl, ?_⟩))
                      go_ret
                      exact ⟨by first | rfl | (simp; done) | (simp [*]; done), by repeat (first | exact Drawn0.refl _ | apply Drawn0.step)⟩
                    · replace c13 := Bool.eq_false_iff.mpr c13
                      subst c13
                      have H1 : (if a0 = 9 then (spinneyref02_Class.j3 kj8 a0 true) else (if a0 = 10 then (spinneyref02_Class.j3 kj8 a0 true) else (if a0 = 13 then (spinneyref02_Class.j3 kj8 a0 true) else (spinneyref02_Class.j3 kj8 a0 (a0 == 32))))) = some r := by rw [if_neg (show ¬ (false = true) by decide)] at H; exact H
                      clear H
                      have H := H1
                      clear H1
                      have HC14 := Aside0.mk H
                      clear H
                      go_upto_region 9 with (first | ((with_reducible refine gate_callee (f := 22) rfl ?_); refine goesL_ (some 30) rfl rfl Tryd.func22 (by kernel_rfl) rfl #[.int .i32 a0, .string (⟨#[43, 45, 42, 47, 92, 94, 60, 62, 61, 126, 58, 46, 63, 64, 35, 38, 36]⟩ : ByteArray)] rfl (by (try simp only [List.map_toArray, List.map_cons, List.map_nil]); first | done | rfl | (simp only [List.length_drop, List.length_take]; rfl)) ?_; (with_reducible refine (spinneyref02_among.calls kj8 a0 (⟨#[43, 45, 42, 47, 92, 94, 60, 62, 61, 126, 58, 46, 63, 64, 35, 38, 36]⟩ : ByteArray) false _ A12.out).mono ?_); rintro e w' ⟨rfl, ⟨nd, rfl⟩⟩; refine ⟨_, rfl, ?_⟩))
                      (try simp only [Act.put, List.setIfInBounds_toArray, List.set_cons_zero, List.set_cons_succ])
                      go_cut [31] (fun v31 wc => ∃ (kq : Nat) (x31_13 : Bool), v31 = .bool x31_13 ∧ Aside0 (spinneyref02_Class.j3 kq a0 x31_13 = some r) ∧ Aside0 (kq ≤ kj8) ∧ Drawn0 w wc)
                      case first =>
                        have H := HC14.out
                        clear HC14
                        by_cases c15 : a0 = 9
                        · rw [if_pos c15] at H
                          have c15b0 : (a0 == 9) = true := beq_iff_eq.mpr c15
                          have c15b1 : (a0 != 9) = false := bne_eq_false_iff_eq.mpr c15
                          clear c15
                          (first | rw [c15b0] | (simp only [i64_w, i32_w]; rw [c15b0]) | skip)
                          have H' := Aside0.mk H
                          clear H
                          go_wp2
                          go_meet
                          case rel => exact ⟨_, (true), (by first | rfl | (simp; done) | (simp [*]; done)), H', ⟨by have := HJ1.out; have := HJ4.out; have := HJ8.out; first | omega | exact Nat.le_refl _⟩, by repeat (first | exact Drawn0.refl _ | apply Drawn0.step)⟩
                        · rw [if_neg c15] at H
                          have c15b0 : (a0 == 9) = false := beq_eq_false_iff_ne.mpr c15
                          have c15b1 : (a0 != 9) = true := bne_iff_ne.mpr c15
                          (first | rw [c15b0] | (simp only [i64_w, i32_w]; rw [c15b0]) | skip)
                          by_cases c16 : a0 = 10
                          · rw [if_pos c16] at H
                            have c16b0 : (a0 == 10) = true := beq_iff_eq.mpr c16
                            have c16b1 : (a0 != 10) = false := bne_eq_false_iff_eq.mpr c16
                            clear c16
                            have H' := Aside0.mk H
                            clear H
                            go_wp2
                            go_meet
                            case rel => exact ⟨_, (true), (by first | rfl | (simp; done) | (simp [*]; done)), H', ⟨by have := HJ1.out; have := HJ4.out; have := HJ8.out; first | omega | exact Nat.le_refl _⟩, by repeat (first | exact Drawn0.refl _ | apply Drawn0.step)⟩
                          · rw [if_neg c16] at H
                            have c16b0 : (a0 == 10) = false := beq_eq_false_iff_ne.mpr c16
                            have c16b1 : (a0 != 10) = true := bne_iff_ne.mpr c16
                            by_cases c17 : a0 = 13
                            · rw [if_pos c17] at H
                              have c17b0 : (a0 == 13) = true := beq_iff_eq.mpr c17
                              have c17b1 : (a0 != 13) = false := bne_eq_false_iff_eq.mpr c17
                              clear c17
                              have H' := Aside0.mk H
                              clear H
                              go_wp2
                              go_meet
                              case rel => exact ⟨_, (true), (by first | rfl | (simp; done) | (simp [*]; done)), H', ⟨by have := HJ1.out; have := HJ4.out; have := HJ8.out; first | omega | exact Nat.le_refl _⟩, by repeat (first | exact Drawn0.refl _ | apply Drawn0.step)⟩
                            · rw [if_neg c17] at H
                              have c17b0 : (a0 == 13) = false := beq_eq_false_iff_ne.mpr c17
                              have c17b1 : (a0 != 13) = true := bne_iff_ne.mpr c17
                              have H' := Aside0.mk H
                              clear H
                              go_wp2
                              go_meet
                              case rel => exact ⟨_, ((a0 == 32)), (by first | rfl | (simp; done) | (simp [*]; done)), H', ⟨by have := HJ1.out; have := HJ4.out; have := HJ8.out; first | omega | exact Nat.le_refl _⟩, by repeat (first | exact Drawn0.refl _ | apply Drawn0.step)⟩
                      case rest =>
                        clear HC14
                        try clear c1
                        try clear c2
                        try clear p2
                        try clear c3
                        try clear c3b0
                        try clear c4
                        try clear c6
                        try clear c6b0
                        try clear c7
                        try clear c7b0
                        try clear c8
                        try clear c10
                        try clear c10b0
                        try clear c11
                        try clear c13
                        try clear c15
                        try clear c15b0
                        try clear c15b1
                        try clear c16
                        try clear c16b0
                        try clear c16b1
                        try clear c17
                        try clear c17b0
                        try clear c17b1
                        try clear p2
                        obtain ⟨kq, x31_13, rfl, HA, HJ13, ⟨mc13, rfl⟩⟩ := hcut
                        cases kq with
                        | zero => exact absurd HA.out (by simp [spinneyref02_Class.j3])
                        | succ kj13 =>
                          have H := HA.out
                          clear HA
                          simp only [spinneyref02_Class.j3] at H
                          by_cases c18 : x31_13 = true
                          · subst c18
                            have H1 : (some 5) = some r := by rw [if_pos rfl] at H; exact H
                            clear H
                            have H := H1
                            clear H1
                            obtain rfl := Option.some.inj H
                            go_wp2
                            go_ret
                            exact ⟨by first | rfl | (simp; done) | (simp [*]; done), by repeat (first | exact Drawn0.refl _ | apply Drawn0.step)⟩
                          · replace c18 := Bool.eq_false_iff.mpr c18
                            subst c18
                            have H1 : ((spinneyref02_among.f kj13 a0 (⟨#[33, 59, 44, 124]⟩ : ByteArray)).bind fun t120 => (if t120 = true then (some 6) else ((spinneyref02_among.f kj13 a0 (⟨#[40, 41, 91, 93, 123, 125]⟩ : ByteArray)).bind fun t121 => (if t121 = true then (some 7) else (if a0 = 39 then (some 8) else (some 0)))))) = some r := by rw [if_neg (show ¬ (false = true) by decide)] at H; exact H
                            clear H
                            have H := H1
                            clear H1
                            replace H := Option.bind_eq_some_iff.mp H
                            obtain ⟨t120, A190, H⟩ := H
                            replace H : (if t120 = true then (some 6) else ((spinneyref02_among.f kj13 a0 (⟨#[40, 41, 91, 93, 123, 125]⟩ : ByteArray)).bind fun t121 => (if t121 = true then (some 7) else (if a0 = 39 then (some 8) else (some 0))))) = some r := H
                            have A19 := Aside0.mk A190
                            clear A190
                            by_cases c20 : t120 = true
                            · subst c20
                              have H1 : (some 6) = some r := by rw [if_pos rfl] at H; exact H
                              clear H
                              have H := H1
                              clear H1
                              obtain rfl := Option.some.inj H
                              go_wp2_with (first | ((with_reducible refine gate_callee (f := 22) rfl ?_); refine goesL_ (some 48) rfl rfl Tryd.func22 (by kernel_rfl) rfl #[.int .i32 a0, .string (⟨#[33, 59, 44, 124]⟩ : ByteArray)] rfl (by (try simp only [List.map_toArray, List.map_cons, List.map_nil]); first | done | rfl | (simp only [List.length_drop, List.length_take]; rfl)) ?_; (with_reducible refine (spinneyref02_among.calls kj13 a0 (⟨#[33, 59, 44, 124]⟩ : ByteArray) true _ A19.out).mono ?_); rintro e w' ⟨rfl, ⟨nd, rfl⟩⟩; refine ⟨_, rfl, ?_⟩))
                              go_ret
                              exact ⟨by first | rfl | (simp; done) | (simp [*]; done), by repeat (first | exact Drawn0.refl _ | apply Drawn0.step)⟩
                            · replace c20 := Bool.eq_false_iff.mpr c20
                              subst c20
                              have H1 : ((spinneyref02_among.f kj13 a0 (⟨#[40, 41, 91, 93, 123, 125]⟩ : ByteArray)).bind fun t121 => (if t121 = true then (some 7) else (if a0 = 39 then (some 8) else (some 0)))) = some r := by rw [if_neg (show ¬ (false = true) by decide)] at H; exact H
                              clear H
                              have H := H1
                              clear H1
                              replace H := Option.bind_eq_some_iff.mp H
                              obtain ⟨t121, A210, H⟩ := H
                              replace H : (if t121 = true then (some 7) else (if a0 = 39 then (some 8) else (some 0))) = some r := H
                              have A21 := Aside0.mk A210
                              clear A210
                              by_cases c22 : t121 = true
                              · subst c22
                                have H1 : (some 7) = some r := by rw [if_pos rfl] at H; exact H
                                clear H
                                have H := H1
                                clear H1
                                obtain rfl := Option.some.inj H
                                go_wp2_with (first | ((with_reducible refine gate_callee (f := 22) rfl ?_); refine goesL_ (some 48) rfl rfl Tryd.func22 (by kernel_rfl) rfl #[.int .i32 a0, .string (⟨#[33, 59, 44, 124]⟩ : ByteArray)] rfl (by (try simp only [List.map_toArray, List.map_cons, List.map_nil]); first | done | rfl | (simp only [List.length_drop, List.length_take]; rfl)) ?_; (with_reducible refine (spinneyref02_among.calls kj13 a0 (⟨#[33, 59, 44, 124]⟩ : ByteArray) false _ A19.out).mono ?_); rintro e w' ⟨rfl, ⟨nd, rfl⟩⟩; refine ⟨_, rfl, ?_⟩) | ((with_reducible refine gate_callee (f := 22) rfl ?_); refine goesL_ (some 51) rfl rfl Tryd.func22 (by kernel_rfl) rfl #[.int .i32 a0, .string (⟨#[40, 41, 91, 93, 123, 125]⟩ : ByteArray)] rfl (by (try simp only [List.map_toArray, List.map_cons, List.map_nil]); first | done | rfl | (simp only [List.length_drop, List.length_take]; rfl)) ?_; (with_reducible refine (spinneyref02_among.calls kj13 a0 (⟨#[40, 41, 91, 93, 123, 125]⟩ : ByteArray) true _ A21.out).mono ?_); rintro e w' ⟨rfl, ⟨nd, rfl⟩⟩; refine ⟨_, rfl, ?_⟩))
                                go_ret
                                exact ⟨by first | rfl | (simp; done) | (simp [*]; done), by repeat (first | exact Drawn0.refl _ | apply Drawn0.step)⟩
                              · replace c22 := Bool.eq_false_iff.mpr c22
                                subst c22
                                have H1 : (if a0 = 39 then (some 8) else (some 0)) = some r := by rw [if_neg (show ¬ (false = true) by decide)] at H; exact H
                                clear H
                                have H := H1
                                clear H1
                                by_cases c23 : a0 = 39
                                · rw [if_pos c23] at H
                                  have c23b0 : (a0 == 39) = true := beq_iff_eq.mpr c23
                                  have c23b1 : (a0 != 39) = false := bne_eq_false_iff_eq.mpr c23
                                  clear c23
                                  obtain rfl := Option.some.inj H
                                  go_wp2_with (first | ((with_reducible refine gate_callee (f := 22) rfl ?_); refine goesL_ (some 48) rfl rfl Tryd.func22 (by kernel_rfl) rfl #[.int .i32 a0, .string (⟨#[33, 59, 44, 124]⟩ : ByteArray)] rfl (by (try simp only [List.map_toArray, List.map_cons, List.map_nil]); first | done | rfl | (simp only [List.length_drop, List.length_take]; rfl)) ?_; (with_reducible refine (spinneyref02_among.calls kj13 a0 (⟨#[33, 59, 44, 124]⟩ : ByteArray) false _ A19.out).mono ?_); rintro e w' ⟨rfl, ⟨nd, rfl⟩⟩; refine ⟨_, rfl, ?_⟩) | ((with_reducible refine gate_callee (f := 22) rfl ?_); refine goesL_ (some 51) rfl rfl Tryd.func22 (by kernel_rfl) rfl #[.int .i32 a0, .string (⟨#[40, 41, 91, 93, 123, 125]⟩ : ByteArray)] rfl (by (try simp only [List.map_toArray, List.map_cons, List.map_nil]); first | done | rfl | (simp only [List.length_drop, List.length_take]; rfl)) ?_; (with_reducible refine (spinneyref02_among.calls kj13 a0 (⟨#[40, 41, 91, 93, 123, 125]⟩ : ByteArray) false _ A21.out).mono ?_); rintro e w' ⟨rfl, ⟨nd, rfl⟩⟩; refine ⟨_, rfl, ?_⟩))
                                  go_ret
                                  exact ⟨by first | rfl | (simp; done) | (simp [*]; done), by repeat (first | exact Drawn0.refl _ | apply Drawn0.step)⟩
                                · rw [if_neg c23] at H
                                  have c23b0 : (a0 == 39) = false := beq_eq_false_iff_ne.mpr c23
                                  have c23b1 : (a0 != 39) = true := bne_iff_ne.mpr c23
                                  obtain rfl := Option.some.inj H
                                  go_wp2_with (first | ((with_reducible refine gate_callee (f := 22) rfl ?_); refine goesL_ (some 48) rfl rfl Tryd.func22 (by kernel_rfl) rfl #[.int .i32 a0, .string (⟨#[33, 59, 44, 124]⟩ : ByteArray)] rfl (by (try simp only [List.map_toArray, List.map_cons, List.map_nil]); first | done | rfl | (simp only [List.length_drop, List.length_take]; rfl)) ?_; (with_reducible refine (spinneyref02_among.calls kj13 a0 (⟨#[33, 59, 44, 124]⟩ : ByteArray) false _ A19.out).mono ?_); rintro e w' ⟨rfl, ⟨nd, rfl⟩⟩; refine ⟨_, rfl, ?_⟩) | ((with_reducible refine gate_callee (f := 22) rfl ?_); refine goesL_ (some 51) rfl rfl Tryd.func22 (by kernel_rfl) rfl #[.int .i32 a0, .string (⟨#[40, 41, 91, 93, 123, 125]⟩ : ByteArray)] rfl (by (try simp only [List.map_toArray, List.map_cons, List.map_nil]); first | done | rfl | (simp only [List.length_drop, List.length_take]; rfl)) ?_; (with_reducible refine (spinneyref02_among.calls kj13 a0 (⟨#[40, 41, 91, 93, 123, 125]⟩ : ByteArray) false _ A21.out).mono ?_); rintro e w' ⟨rfl, ⟨nd, rfl⟩⟩; refine ⟨_, rfl, ?_⟩))
                                  go_ret
                                  exact ⟨by first | rfl | (simp; done) | (simp [*]; done), by repeat (first | exact Drawn0.refl _ | apply Drawn0.step)⟩

end Go.Proofs.YtkniiinpkchjoaaDoor.P
