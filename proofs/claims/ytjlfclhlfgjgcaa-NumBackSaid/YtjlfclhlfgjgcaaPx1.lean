-- PRINTED by a program of this session over the kit's print.py.
import Derived.Test.YtjlfclhlfgjgcaaPx0
namespace Go.Proofs.Ytjlfclhlfgjgcaa.P
open Go.Own Go.RowKit Go.Proofs.YtjlfclhlfgjgcaaW.PrintWords Go.Proofs.YtjlfclhlfgjgcaaW.PrintLast Go.Proofs.YtjlfclhlfgjgcaaW.PrintMore
attribute [local go_sem] max2_int min2_int max_two min_two max_three min_three max_four min_four   -- for this text's walks alone
set_option linter.unusedVariables false
set_option linter.unusedSimpArgs false

/-! ### num_over: function 64 -/
def num_over.f (a0 : Int) (a1 : Bool) : Option (Int × Int) := if a1 = true then (some (0, 10)) else (some (a0, 0))
set_option maxHeartbeats 8000000 in
set_option maxRecDepth 100000 in
theorem num_over.calls (a0 : Int) (a1 : Bool) (r1 : Int) (r2 : Int) (w : World) (h : num_over.f a0 a1 = some (r1, r2)) :
    Calls Try.prog 64 #[.int .i64 a0, .bool a1] w fun e w' => e = .returned (.tuple #[.int .i64 r1, .int .i64 r2]) ∧ Drawn0 w w' := by
  have H : (if a1 = true then (some (0, 10)) else (some (a0, 0))) = some (r1, r2) := h
  clear h
  by_cases c3 : a1 = true
  · subst c3
    have H1 : (some (0, 10)) = some (r1, r2) := by rw [if_pos rfl] at H; exact H
    clear H
    have H := H1
    clear H1
    simp only [Option.some.injEq, Prod.mk.injEq] at H
    obtain ⟨rfl, rfl⟩ := H
    go_enter Try.func64, Try.ntmps64
    go_wp2
    go_ret2
    exact ⟨by first | rfl | (simp; done) | (simp [*]; done), by repeat (first | exact Drawn0.refl _ | apply Drawn0.step)⟩
  · replace c3 := Bool.eq_false_iff.mpr c3
    subst c3
    have H1 : (some (a0, 0)) = some (r1, r2) := by rw [if_neg (show ¬ (false = true) by decide)] at H; exact H
    clear H
    have H := H1
    clear H1
    simp only [Option.some.injEq, Prod.mk.injEq] at H
    obtain ⟨rfl, rfl⟩ := H
    go_enter Try.func64, Try.ntmps64
    go_wp2
    go_ret2
    exact ⟨by first | rfl | (simp; done) | (simp [*]; done), by repeat (first | exact Drawn0.refl _ | apply Drawn0.step)⟩

/-! ### num_Neg: function 29 -/
def num_Neg.f (a0 : Int) : Option (Int × Int) := (num_over.f (wrap64 (-a0)) (a0 == (-9223372036854775808))).bind fun bt101 => (some (bt101.1, bt101.2))
set_option maxHeartbeats 8000000 in
set_option maxRecDepth 100000 in
theorem num_Neg.calls (a0 : Int) (r1 : Int) (r2 : Int) (w : World) (h : num_Neg.f a0 = some (r1, r2)) :
    Calls Try.prog 29 #[.int .i64 a0] w fun e w' => e = .returned (.tuple #[.int .i64 r1, .int .i64 r2]) ∧ Drawn0 w w' := by
  have H : ((num_over.f (wrap64 (-a0)) (a0 == (-9223372036854775808))).bind fun bt101 => (some (bt101.1, bt101.2))) = some (r1, r2) := h
  clear h
  replace H := Option.bind_eq_some_iff.mp H
  obtain ⟨⟨t101, t102⟩, A20, H⟩ := H
  replace H : (some (t101, t102)) = some (r1, r2) := H
  have A2 := Aside0.mk A20
  clear A20
  simp only [Option.some.injEq, Prod.mk.injEq] at H
  obtain ⟨rfl, rfl⟩ := H
  go_enter Try.func29, Try.ntmps29
  go_wp2_with (first | ((with_reducible refine gate_callee (f := 64) rfl ?_); refine goesL_ (some 8) rfl rfl Try.func64 (by kernel_rfl) rfl #[.int .i64 (wrap64 (-a0)), .bool (a0 == (-9223372036854775808))] rfl (by (try simp only [List.map_toArray, List.map_cons, List.map_nil]); first | done | rfl | (simp only [List.length_drop, List.length_take]; rfl)) ?_; (with_reducible refine (num_over.calls (wrap64 (-a0)) (a0 == (-9223372036854775808)) t101 t102 _ A2.out).mono ?_); rintro e w' ⟨rfl, ⟨nd, rfl⟩⟩; refine ⟨_, rfl, ?_⟩))
  go_ret2
  exact ⟨by first | rfl | (simp; done) | (simp [*]; done), by repeat (first | exact Drawn0.refl _ | apply Drawn0.step)⟩

/-! ### num_Quo: function 15 -/
def num_Quo.f (a0 : Int) (a1 : Int) : Option (Int × Int) := if a1 = 0 then (some (0, 11)) else (if a1 = (-1) then ((num_Neg.f a0).bind fun bt103 => (some (bt103.1, bt103.2))) else (some (wrap64 (Int.tdiv a0 a1), 0)))
set_option maxHeartbeats 8000000 in
set_option maxRecDepth 100000 in
theorem num_Quo.calls (a0 : Int) (a1 : Int) (r1 : Int) (r2 : Int) (w : World) (h : num_Quo.f a0 a1 = some (r1, r2)) :
    Calls Try.prog 15 #[.int .i64 a0, .int .i64 a1] w fun e w' => e = .returned (.tuple #[.int .i64 r1, .int .i64 r2]) ∧ Drawn0 w w' := by
  have H : (if a1 = 0 then (some (0, 11)) else (if a1 = (-1) then ((num_Neg.f a0).bind fun bt103 => (some (bt103.1, bt103.2))) else (some (wrap64 (Int.tdiv a0 a1), 0)))) = some (r1, r2) := h
  clear h
  by_cases c3 : a1 = 0
  · rw [if_pos c3] at H
    have c3b0 : (a1 == 0) = true := beq_iff_eq.mpr c3
    have c3b1 : (a1 != 0) = false := bne_eq_false_iff_eq.mpr c3
    clear c3
    simp only [Option.some.injEq, Prod.mk.injEq] at H
    obtain ⟨rfl, rfl⟩ := H
    go_enter Try.func15, Try.ntmps15
    go_wp2
    go_ret2
    exact ⟨by first | rfl | (simp; done) | (simp [*]; done), by repeat (first | exact Drawn0.refl _ | apply Drawn0.step)⟩
  · rw [if_neg c3] at H
    have c3b0 : (a1 == 0) = false := beq_eq_false_iff_ne.mpr c3
    have c3b1 : (a1 != 0) = true := bne_iff_ne.mpr c3
    by_cases c4 : a1 = (-1)
    · rw [if_pos c4] at H
      have c4b0 : (a1 == (-1)) = true := beq_iff_eq.mpr c4
      have c4b1 : (a1 != (-1)) = false := bne_eq_false_iff_eq.mpr c4
      clear c4
      replace H := Option.bind_eq_some_iff.mp H
      obtain ⟨⟨t103, t104⟩, A50, H⟩ := H
      replace H : (some (t103, t104)) = some (r1, r2) := H
      have A5 := Aside0.mk A50
      clear A50
      simp only [Option.some.injEq, Prod.mk.injEq] at H
      obtain ⟨rfl, rfl⟩ := H
      go_enter Try.func15, Try.ntmps15
      go_wp2_with (first | ((with_reducible refine gate_callee (f := 29) rfl ?_); refine goesL_ (some 11) rfl rfl Try.func29 (by kernel_rfl) rfl #[.int .i64 a0] rfl (by (try simp only [List.map_toArray, List.map_cons, List.map_nil]); first | done | rfl | (simp only [List.length_drop, List.length_take]; rfl)) ?_; (with_reducible refine (num_Neg.calls a0 t103 t104 _ A5.out).mono ?_); rintro e w' ⟨rfl, ⟨nd, rfl⟩⟩; refine ⟨_, rfl, ?_⟩))
      go_ret2
      exact ⟨by first | rfl | (simp; done) | (simp [*]; done), by repeat (first | exact Drawn0.refl _ | apply Drawn0.step)⟩
    · rw [if_neg c4] at H
      have c4b0 : (a1 == (-1)) = false := beq_eq_false_iff_ne.mpr c4
      have c4b1 : (a1 != (-1)) = true := bne_iff_ne.mpr c4
      simp only [Option.some.injEq, Prod.mk.injEq] at H
      obtain ⟨rfl, rfl⟩ := H
      go_enter Try.func15, Try.ntmps15
      go_wp2
      go_ret2
      exact ⟨by first | rfl | (simp; done) | (simp [*]; done), by repeat (first | exact Drawn0.refl _ | apply Drawn0.step)⟩

/-! ### spinneyref01_Quo: function 16 -/
def spinneyref01_Quo.f (a0 : Int) (a1 : Int) : Option (Int × Int) := if a1 = 0 then (some (0, 11)) else (if a0 = (-9223372036854775808) then (if a1 = (-1) then (some (0, 10)) else (some (wrap64 (Int.tdiv a0 a1), 0))) else (some (wrap64 (Int.tdiv a0 a1), 0)))
set_option maxHeartbeats 8000000 in
set_option maxRecDepth 100000 in
theorem spinneyref01_Quo.calls (a0 : Int) (a1 : Int) (r1 : Int) (r2 : Int) (w : World) (h : spinneyref01_Quo.f a0 a1 = some (r1, r2)) :
    Calls Try.prog 16 #[.int .i64 a0, .int .i64 a1] w fun e w' => e = .returned (.tuple #[.int .i64 r1, .int .i64 r2]) ∧ Drawn0 w w' := by
  have H : (if a1 = 0 then (some (0, 11)) else (if a0 = (-9223372036854775808) then (if a1 = (-1) then (some (0, 10)) else (some (wrap64 (Int.tdiv a0 a1), 0))) else (some (wrap64 (Int.tdiv a0 a1), 0)))) = some (r1, r2) := h
  clear h
  by_cases c3 : a1 = 0
  · rw [if_pos c3] at H
    have c3b0 : (a1 == 0) = true := beq_iff_eq.mpr c3
    have c3b1 : (a1 != 0) = false := bne_eq_false_iff_eq.mpr c3
    clear c3
    simp only [Option.some.injEq, Prod.mk.injEq] at H
    obtain ⟨rfl, rfl⟩ := H
    go_enter Try.func16, Try.ntmps16
    go_wp2
    go_ret2
    exact ⟨by first | rfl | (simp; done) | (simp [*]; done), by repeat (first | exact Drawn0.refl _ | apply Drawn0.step)⟩
  · rw [if_neg c3] at H
    have c3b0 : (a1 == 0) = false := beq_eq_false_iff_ne.mpr c3
    have c3b1 : (a1 != 0) = true := bne_iff_ne.mpr c3
    by_cases c4 : a0 = (-9223372036854775808)
    · rw [if_pos c4] at H
      have c4b0 : (a0 == (-9223372036854775808)) = true := beq_iff_eq.mpr c4
      have c4b1 : (a0 != (-9223372036854775808)) = false := bne_eq_false_iff_eq.mpr c4
      clear c4
      by_cases c5 : a1 = (-1)
      · rw [if_pos c5] at H
        have c5b0 : (a1 == (-1)) = true := beq_iff_eq.mpr c5
        have c5b1 : (a1 != (-1)) = false := bne_eq_false_iff_eq.mpr c5
        clear c5
        simp only [Option.some.injEq, Prod.mk.injEq] at H
        obtain ⟨rfl, rfl⟩ := H
        go_enter Try.func16, Try.ntmps16
        go_wp2
        go_ret2
        exact ⟨by first | rfl | (simp; done) | (simp [*]; done), by repeat (first | exact Drawn0.refl _ | apply Drawn0.step)⟩
      · rw [if_neg c5] at H
        have c5b0 : (a1 == (-1)) = false := beq_eq_false_iff_ne.mpr c5
        have c5b1 : (a1 != (-1)) = true := bne_iff_ne.mpr c5
        simp only [Option.some.injEq, Prod.mk.injEq] at H
        obtain ⟨rfl, rfl⟩ := H
        go_enter Try.func16, Try.ntmps16
        go_wp2
        go_ret2
        exact ⟨by first | rfl | (simp; done) | (simp [*]; done), by repeat (first | exact Drawn0.refl _ | apply Drawn0.step)⟩
    · rw [if_neg c4] at H
      have c4b0 : (a0 == (-9223372036854775808)) = false := beq_eq_false_iff_ne.mpr c4
      have c4b1 : (a0 != (-9223372036854775808)) = true := bne_iff_ne.mpr c4
      simp only [Option.some.injEq, Prod.mk.injEq] at H
      obtain ⟨rfl, rfl⟩ := H
      go_enter Try.func16, Try.ntmps16
      go_wp2
      go_ret2
      exact ⟨by first | rfl | (simp; done) | (simp [*]; done), by repeat (first | exact Drawn0.refl _ | apply Drawn0.step)⟩

/-! ### spinneylaw01_same: function 17 -/
def spinneylaw01_same.f (a0 : Int) (a1 : Int) (a2 : Int) (a3 : Int) : Option (Bool) := if a0 = a2 then (some (a1 == a3)) else (some false)
set_option maxHeartbeats 8000000 in
set_option maxRecDepth 100000 in
theorem spinneylaw01_same.calls (a0 : Int) (a1 : Int) (a2 : Int) (a3 : Int) (r : Bool) (w : World) (h : spinneylaw01_same.f a0 a1 a2 a3 = some r) :
    Calls Try.prog 17 #[.int .i64 a0, .int .i64 a1, .int .i64 a2, .int .i64 a3] w fun e w' => e = .returned (.bool r) ∧ Drawn0 w w' := by
  have H : (if a0 = a2 then (some (a1 == a3)) else (some false)) = some r := h
  clear h
  by_cases c5 : a0 = a2
  · rw [if_pos c5] at H
    have c5b0 : (a0 == a2) = true := beq_iff_eq.mpr c5
    have c5b1 : (a0 != a2) = false := bne_eq_false_iff_eq.mpr c5
    clear c5
    obtain rfl := Option.some.inj H
    go_enter Try.func17, Try.ntmps17
    go_wp2
    go_ret
    exact ⟨by first | rfl | (simp; done) | (simp [*]; done), by repeat (first | exact Drawn0.refl _ | apply Drawn0.step)⟩
  · rw [if_neg c5] at H
    have c5b0 : (a0 == a2) = false := beq_eq_false_iff_ne.mpr c5
    have c5b1 : (a0 != a2) = true := bne_iff_ne.mpr c5
    obtain rfl := Option.some.inj H
    go_enter Try.func17, Try.ntmps17
    go_wp2
    go_ret
    exact ⟨by first | rfl | (simp; done) | (simp [*]; done), by repeat (first | exact Drawn0.refl _ | apply Drawn0.step)⟩

/-! ### num_Rem: function 18 -/
def num_Rem.f (a0 : Int) (a1 : Int) : Option (Int × Int) := if a1 = 0 then (some (0, 11)) else (if a1 = (-1) then (some (0, 0)) else (some (Int.tmod a0 a1, 0)))
set_option maxHeartbeats 8000000 in
set_option maxRecDepth 100000 in
theorem num_Rem.calls (a0 : Int) (a1 : Int) (r1 : Int) (r2 : Int) (w : World) (h : num_Rem.f a0 a1 = some (r1, r2)) :
    Calls Try.prog 18 #[.int .i64 a0, .int .i64 a1] w fun e w' => e = .returned (.tuple #[.int .i64 r1, .int .i64 r2]) ∧ Drawn0 w w' := by
  have H : (if a1 = 0 then (some (0, 11)) else (if a1 = (-1) then (some (0, 0)) else (some (Int.tmod a0 a1, 0)))) = some (r1, r2) := h
  clear h
  by_cases c3 : a1 = 0
  · rw [if_pos c3] at H
    have c3b0 : (a1 == 0) = true := beq_iff_eq.mpr c3
    have c3b1 : (a1 != 0) = false := bne_eq_false_iff_eq.mpr c3
    clear c3
    simp only [Option.some.injEq, Prod.mk.injEq] at H
    obtain ⟨rfl, rfl⟩ := H
    go_enter Try.func18, Try.ntmps18
    go_wp2
    go_ret2
    exact ⟨by first | rfl | (simp; done) | (simp [*]; done), by repeat (first | exact Drawn0.refl _ | apply Drawn0.step)⟩
  · rw [if_neg c3] at H
    have c3b0 : (a1 == 0) = false := beq_eq_false_iff_ne.mpr c3
    have c3b1 : (a1 != 0) = true := bne_iff_ne.mpr c3
    by_cases c4 : a1 = (-1)
    · rw [if_pos c4] at H
      have c4b0 : (a1 == (-1)) = true := beq_iff_eq.mpr c4
      have c4b1 : (a1 != (-1)) = false := bne_eq_false_iff_eq.mpr c4
      clear c4
      simp only [Option.some.injEq, Prod.mk.injEq] at H
      obtain ⟨rfl, rfl⟩ := H
      go_enter Try.func18, Try.ntmps18
      go_wp2
      go_ret2
      exact ⟨by first | rfl | (simp; done) | (simp [*]; done), by repeat (first | exact Drawn0.refl _ | apply Drawn0.step)⟩
    · rw [if_neg c4] at H
      have c4b0 : (a1 == (-1)) = false := beq_eq_false_iff_ne.mpr c4
      have c4b1 : (a1 != (-1)) = true := bne_iff_ne.mpr c4
      simp only [Option.some.injEq, Prod.mk.injEq] at H
      obtain ⟨rfl, rfl⟩ := H
      go_enter Try.func18, Try.ntmps18
      go_wp2
      go_ret2
      exact ⟨by first | rfl | (simp; done) | (simp [*]; done), by repeat (first | exact Drawn0.refl _ | apply Drawn0.step)⟩

/-! ### spinneyref01_Rem: function 19 -/
def spinneyref01_Rem.f (a0 : Int) (a1 : Int) : Option (Int × Int) := if a1 = 0 then (some (0, 11)) else (if a1 = (-1) then (some (0, 0)) else (some (Int.tmod a0 a1, 0)))
set_option maxHeartbeats 8000000 in
set_option maxRecDepth 100000 in
theorem spinneyref01_Rem.calls (a0 : Int) (a1 : Int) (r1 : Int) (r2 : Int) (w : World) (h : spinneyref01_Rem.f a0 a1 = some (r1, r2)) :
    Calls Try.prog 19 #[.int .i64 a0, .int .i64 a1] w fun e w' => e = .returned (.tuple #[.int .i64 r1, .int .i64 r2]) ∧ Drawn0 w w' := by
  have H : (if a1 = 0 then (some (0, 11)) else (if a1 = (-1) then (some (0, 0)) else (some (Int.tmod a0 a1, 0)))) = some (r1, r2) := h
  clear h
  by_cases c3 : a1 = 0
  · rw [if_pos c3] at H
    have c3b0 : (a1 == 0) = true := beq_iff_eq.mpr c3
    have c3b1 : (a1 != 0) = false := bne_eq_false_iff_eq.mpr c3
    clear c3
    simp only [Option.some.injEq, Prod.mk.injEq] at H
    obtain ⟨rfl, rfl⟩ := H
    go_enter Try.func19, Try.ntmps19
    go_wp2
    go_ret2
    exact ⟨by first | rfl | (simp; done) | (simp [*]; done), by repeat (first | exact Drawn0.refl _ | apply Drawn0.step)⟩
  · rw [if_neg c3] at H
    have c3b0 : (a1 == 0) = false := beq_eq_false_iff_ne.mpr c3
    have c3b1 : (a1 != 0) = true := bne_iff_ne.mpr c3
    by_cases c4 : a1 = (-1)
    · rw [if_pos c4] at H
      have c4b0 : (a1 == (-1)) = true := beq_iff_eq.mpr c4
      have c4b1 : (a1 != (-1)) = false := bne_eq_false_iff_eq.mpr c4
      clear c4
      simp only [Option.some.injEq, Prod.mk.injEq] at H
      obtain ⟨rfl, rfl⟩ := H
      go_enter Try.func19, Try.ntmps19
      go_wp2
      go_ret2
      exact ⟨by first | rfl | (simp; done) | (simp [*]; done), by repeat (first | exact Drawn0.refl _ | apply Drawn0.step)⟩
    · rw [if_neg c4] at H
      have c4b0 : (a1 == (-1)) = false := beq_eq_false_iff_ne.mpr c4
      have c4b1 : (a1 != (-1)) = true := bne_iff_ne.mpr c4
      simp only [Option.some.injEq, Prod.mk.injEq] at H
      obtain ⟨rfl, rfl⟩ := H
      go_enter Try.func19, Try.ntmps19
      go_wp2
      go_ret2
      exact ⟨by first | rfl | (simp; done) | (simp [*]; done), by repeat (first | exact Drawn0.refl _ | apply Drawn0.step)⟩

/-! ### num_Mod: function 20 -/
def num_Mod.f (a0 : Int) (a1 : Int) : Option (Int × Int) := (num_Rem.f a0 a1).bind fun bt105 => (if (Go.bits .xor .i64 bt105.1 a1) < 0 then (if bt105.1 = 0 then (some (bt105.1, bt105.2)) else (some (wrap64 (bt105.1 + a1), bt105.2))) else (some (bt105.1, bt105.2)))
set_option maxHeartbeats 8000000 in
set_option maxRecDepth 100000 in
theorem num_Mod.calls (a0 : Int) (a1 : Int) (r1 : Int) (r2 : Int) (w : World) (h : num_Mod.f a0 a1 = some (r1, r2)) :
    Calls Try.prog 20 #[.int .i64 a0, .int .i64 a1] w fun e w' => e = .returned (.tuple #[.int .i64 r1, .int .i64 r2]) ∧ Drawn0 w w' := by
  have H : ((num_Rem.f a0 a1).bind fun bt105 => (if (Go.bits .xor .i64 bt105.1 a1) < 0 then (if bt105.1 = 0 then (some (bt105.1, bt105.2)) else (some (wrap64 (bt105.1 + a1), bt105.2))) else (some (bt105.1, bt105.2)))) = some (r1, r2) := h
  clear h
  replace H := Option.bind_eq_some_iff.mp H
  obtain ⟨⟨t105, t106⟩, A30, H⟩ := H
  replace H : (if (Go.bits .xor .i64 t105 a1) < 0 then (if t105 = 0 then (some (t105, t106)) else (some (wrap64 (t105 + a1), t106))) else (some (t105, t106))) = some (r1, r2) := H
  have A3 := Aside0.mk A30
  clear A30
  by_cases c4 : (Go.bits .xor .i64 t105 a1) < 0
  · rw [if_pos c4] at H
    have c4b0 : decide ((Go.bits .xor .i64 t105 a1) < 0) = true := decide_eq_true c4
    clear c4
    by_cases c5 : t105 = 0
    · rw [if_pos c5] at H
      have c5b0 : (t105 == 0) = true := beq_iff_eq.mpr c5
      have c5b1 : (t105 != 0) = false := bne_eq_false_iff_eq.mpr c5
      clear c5
      simp only [Option.some.injEq, Prod.mk.injEq] at H
      obtain ⟨rfl, rfl⟩ := H
      go_enter Try.func20, Try.ntmps20
      go_wp2_with (first | ((with_reducible refine gate_callee (f := 18) rfl ?_); refine goesL_ (some 11) rfl rfl Try.func18 (by kernel_rfl) rfl #[.int .i64 a0, .int .i64 a1] rfl (by (try simp only [List.map_toArray, List.map_cons, List.map_nil]); first | done | rfl | (simp only [List.length_drop, List.length_take]; rfl)) ?_; (with_reducible refine (num_Rem.calls a0 a1 t105 t106 _ A3.out).mono ?_); rintro e w' ⟨rfl, ⟨nd, rfl⟩⟩; refine ⟨_, rfl, ?_⟩))
      go_ret2
      exact ⟨by first | rfl | (simp; done) | (simp [*]; done), by repeat (first | exact Drawn0.refl _ | apply Drawn0.step)⟩
    · rw [if_neg c5] at H
      have c5b0 : (t105 == 0) = false := beq_eq_false_iff_ne.mpr c5
      have c5b1 : (t105 != 0) = true := bne_iff_ne.mpr c5
      simp only [Option.some.injEq, Prod.mk.injEq] at H
      obtain ⟨rfl, rfl⟩ := H
      go_enter Try.func20, Try.ntmps20
      go_wp2_with (first | ((with_reducible refine gate_callee (f := 18) rfl ?_); refine goesL_ (some 11) rfl rfl Try.func18 (by kernel_rfl) rfl #[.int .i64 a0, .int .i64 a1] rfl (by (try simp only [List.map_toArray, List.map_cons, List.map_nil]); first | done | rfl | (simp only [List.length_drop, List.length_take]; rfl)) ?_; (with_reducible refine (num_Rem.calls a0 a1 t105 t106 _ A3.out).mono ?_); rintro e w' ⟨rfl, ⟨nd, rfl⟩⟩; refine ⟨_, rfl, ?_⟩))
      go_ret2
      exact ⟨by first | rfl | (simp; done) | (simp [*]; done), by repeat (first | exact Drawn0.refl _ | apply Drawn0.step)⟩
  · rw [if_neg c4] at H
    have c4b0 : decide ((Go.bits .xor .i64 t105 a1) < 0) = false := decide_eq_false c4
    clear c4
    simp only [Option.some.injEq, Prod.mk.injEq] at H
    obtain ⟨rfl, rfl⟩ := H
    go_enter Try.func20, Try.ntmps20
    go_wp2_with (first | ((with_reducible refine gate_callee (f := 18) rfl ?_); refine goesL_ (some 11) rfl rfl Try.func18 (by kernel_rfl) rfl #[.int .i64 a0, .int .i64 a1] rfl (by (try simp only [List.map_toArray, List.map_cons, List.map_nil]); first | done | rfl | (simp only [List.length_drop, List.length_take]; rfl)) ?_; (with_reducible refine (num_Rem.calls a0 a1 t105 t106 _ A3.out).mono ?_); rintro e w' ⟨rfl, ⟨nd, rfl⟩⟩; refine ⟨_, rfl, ?_⟩))
    go_ret2
    exact ⟨by first | rfl | (simp; done) | (simp [*]; done), by repeat (first | exact Drawn0.refl _ | apply Drawn0.step)⟩

/-! ### spinneyref01_Mod: function 21 -/
def spinneyref01_Mod.f (a0 : Int) (a1 : Int) : Option (Int × Int) := (spinneyref01_Rem.f a0 a1).bind fun bt107 => (if bt107.2 = 0 then (if bt107.1 = 0 then (some (bt107.1, bt107.2)) else (if ((decide (bt107.1 < 0)) != (decide (a1 < 0))) = true then (some (wrap64 (bt107.1 + a1), bt107.2)) else (some (bt107.1, bt107.2)))) else (some (bt107.1, bt107.2)))
set_option maxHeartbeats 8000000 in
set_option maxRecDepth 100000 in
theorem spinneyref01_Mod.calls (a0 : Int) (a1 : Int) (r1 : Int) (r2 : Int) (w : World) (h : spinneyref01_Mod.f a0 a1 = some (r1, r2)) :
    Calls Try.prog 21 #[.int .i64 a0, .int .i64 a1] w fun e w' => e = .returned (.tuple #[.int .i64 r1, .int .i64 r2]) ∧ Drawn0 w w' := by
  have H : ((spinneyref01_Rem.f a0 a1).bind fun bt107 => (if bt107.2 = 0 then (if bt107.1 = 0 then (some (bt107.1, bt107.2)) else (if ((decide (bt107.1 < 0)) != (decide (a1 < 0))) = true then (some (wrap64 (bt107.1 + a1), bt107.2)) else (some (bt107.1, bt107.2)))) else (some (bt107.1, bt107.2)))) = some (r1, r2) := h
  clear h
  replace H := Option.bind_eq_some_iff.mp H
  obtain ⟨⟨t107, t108⟩, A30, H⟩ := H
  replace H : (if t108 = 0 then (if t107 = 0 then (some (t107, t108)) else (if ((decide (t107 < 0)) != (decide (a1 < 0))) = true then (some (wrap64 (t107 + a1), t108)) else (some (t107, t108)))) else (some (t107, t108))) = some (r1, r2) := H
  have A3 := Aside0.mk A30
  clear A30
  by_cases c4 : t108 = 0
  · rw [if_pos c4] at H
    have c4b0 : (t108 == 0) = true := beq_iff_eq.mpr c4
    have c4b1 : (t108 != 0) = false := bne_eq_false_iff_eq.mpr c4
    clear c4
    by_cases c5 : t107 = 0
    · rw [if_pos c5] at H
      have c5b0 : (t107 == 0) = true := beq_iff_eq.mpr c5
      have c5b1 : (t107 != 0) = false := bne_eq_false_iff_eq.mpr c5
      clear c5
      simp only [Option.some.injEq, Prod.mk.injEq] at H
      obtain ⟨rfl, rfl⟩ := H
      go_enter Try.func21, Try.ntmps21
      go_wp2_with (first | ((with_reducible refine gate_callee (f := 19) rfl ?_); refine goesL_ (some 11) rfl rfl Try.func19 (by kernel_rfl) rfl #[.int .i64 a0, .int .i64 a1] rfl (by (try simp only [List.map_toArray, List.map_cons, List.map_nil]); first | done | rfl | (simp only [List.length_drop, List.length_take]; rfl)) ?_; (with_reducible refine (spinneyref01_Rem.calls a0 a1 t107 t108 _ A3.out).mono ?_); rintro e w' ⟨rfl, ⟨nd, rfl⟩⟩; refine ⟨_, rfl, ?_⟩))
      go_ret2
      exact ⟨by first | rfl | (simp; done) | (simp [*]; done), by repeat (first | exact Drawn0.refl _ | apply Drawn0.step)⟩
    · rw [if_neg c5] at H
      have c5b0 : (t107 == 0) = false := beq_eq_false_iff_ne.mpr c5
      have c5b1 : (t107 != 0) = true := bne_iff_ne.mpr c5
      by_cases c6 : ((decide (t107 < 0)) != (decide (a1 < 0))) = true
      · rw [if_pos c6] at H
        have c6b0 : ((decide (t107 < 0)) != (decide (a1 < 0))) = true := c6
        (try (have c6b1 : decide ((decide (t107 < 0)) = (decide (a1 < 0))) = false := by simpa using c6))
        (try (have c6b2 : ((decide (t107 < 0)) == (decide (a1 < 0))) = false := by simpa using c6))
        (try (have c6b3 : ¬ ((decide (t107 < 0)) = (decide (a1 < 0))) := by simpa using c6))
        clear c6
        simp only [Option.some.injEq, Prod.mk.injEq] at H
        obtain ⟨rfl, rfl⟩ := H
        go_enter Try.func21, Try.ntmps21
        go_wp2_with (first | ((with_reducible refine gate_callee (f := 19) rfl ?_); refine goesL_ (some 11) rfl rfl Try.func19 (by kernel_rfl) rfl #[.int .i64 a0, .int .i64 a1] rfl (by (try simp only [List.map_toArray, List.map_cons, List.map_nil]); first | done | rfl | (simp only [List.length_drop, List.length_take]; rfl)) ?_; (with_reducible refine (spinneyref01_Rem.calls a0 a1 t107 t108 _ A3.out).mono ?_); rintro e w' ⟨rfl, ⟨nd, rfl⟩⟩; refine ⟨_, rfl, ?_⟩))
        go_ret2
        exact ⟨by first | rfl | (simp; done) | (simp [*]; done), by repeat (first | exact Drawn0.refl _ | apply Drawn0.step)⟩
      · rw [if_neg c6] at H
        have c6b0 : ((decide (t107 < 0)) != (decide (a1 < 0))) = false := by simpa using c6
        (try (have c6b1 : decide ((decide (t107 < 0)) = (decide (a1 < 0))) = true := by simpa using c6))
        (try (have c6b2 : ((decide (t107 < 0)) == (decide (a1 < 0))) = true := by simpa using c6))
        clear c6
        simp only [Option.some.injEq, Prod.mk.injEq] at H
        obtain ⟨rfl, rfl⟩ := H
        go_enter Try.func21, Try.ntmps21
        go_wp2_with (first | ((with_reducible refine gate_callee (f := 19) rfl ?_); refine goesL_ (some 11) rfl rfl Try.func19 (by kernel_rfl) rfl #[.int .i64 a0, .int .i64 a1] rfl (by (try simp only [List.map_toArray, List.map_cons, List.map_nil]); first | done | rfl | (simp only [List.length_drop, List.length_take]; rfl)) ?_; (with_reducible refine (spinneyref01_Rem.calls a0 a1 t107 t108 _ A3.out).mono ?_); rintro e w' ⟨rfl, ⟨nd, rfl⟩⟩; refine ⟨_, rfl, ?_⟩))
        go_ret2
        exact ⟨by first | rfl | (simp; done) | (simp [*]; done), by repeat (first | exact Drawn0.refl _ | apply Drawn0.step)⟩
  · rw [if_neg c4] at H
    have c4b0 : (t108 == 0) = false := beq_eq_false_iff_ne.mpr c4
    have c4b1 : (t108 != 0) = true := bne_iff_ne.mpr c4
    simp only [Option.some.injEq, Prod.mk.injEq] at H
    obtain ⟨rfl, rfl⟩ := H
    go_enter Try.func21, Try.ntmps21
    go_wp2_with (first | ((with_reducible refine gate_callee (f := 19) rfl ?_); refine goesL_ (some 11) rfl rfl Try.func19 (by kernel_rfl) rfl #[.int .i64 a0, .int .i64 a1] rfl (by (try simp only [List.map_toArray, List.map_cons, List.map_nil]); first | done | rfl | (simp only [List.length_drop, List.length_take]; rfl)) ?_; (with_reducible refine (spinneyref01_Rem.calls a0 a1 t107 t108 _ A3.out).mono ?_); rintro e w' ⟨rfl, ⟨nd, rfl⟩⟩; refine ⟨_, rfl, ?_⟩))
    go_ret2
    exact ⟨by first | rfl | (simp; done) | (simp [*]; done), by repeat (first | exact Drawn0.refl _ | apply Drawn0.step)⟩

/-! ### num_Read: function 23 (given) -/
def num_Read.f (a0 : ByteArray) : Option (Int × Int) := if a0.size ≤ 140737488351232 then some (readL a0.data.toList) else none

theorem num_Read.u64_add {a : Int} : IntKind.u64.wrap a = a % 18446744073709551616 := by first | rfl | (simp [IntKind.wrap]; done)

set_option maxHeartbeats 1000000 in
set_option maxRecDepth 100000 in
theorem num_Read.walk (s : ByteArray) (hs : s.size ≤ 140737488351232) (w : World) (R : Int × Int) (hR : R = readL s.data.toList) :
    Calls Try.prog 23 #[.string s] w fun e w' => e = .returned (.tuple #[.int .i64 R.1, .int .i64 R.2]) ∧ Below w.heap.size w w' := by
  by_cases h0 : 0 < s.size
  · by_cases hm : ((s[0].toNat : Int) == 45) = true
    · by_cases he : (s.extract 1 s.size).toList.isEmpty = true
      · have hr : R = (0, 20) := by rw [hR]; exact readL_minus_nil s h0 hm he
        subst hr
        clear hR
        go_enter Try.func23, Try.ntmps23
        go_wp2
        go_ret2
        exact ⟨rfl, Below.refl _ _⟩
      · replace he : (s.extract 1 s.size).toList.isEmpty = false := by simpa using he
        obtain ⟨t, ht⟩ : ∃ t, s.extract 1 s.size = t := ⟨_, rfl⟩
        rw [ht] at he
        have hlt : t.size ≤ 140737488351232 := by rw [← ht]; simp; omega
        have HL := Aside0.mk (readL_minus s t h0 hm ht he)
        rw [← hR] at HL
        clear hR
        go_enter Try.func23, Try.ntmps23
        go_wp2
        go_loopw [5, 6] (fun nv fv wr => ∃ (pos : Nat) (n : Int) (far : Bool), nv = .int .u64 n ∧ fv = .bool far ∧ wr = w.iter t pos ∧ Aside0 (pos ≤ t.size ∧ 0 ≤ n ∧ n < 18446744073709551616 ∧ scan (t.data.toList.drop pos) n far = scan t.data.toList 0 false)) (fun _ _ w' => t.size - w'.iterPos w.heap.size)
        case atStart => exact ⟨0, 0, false, rfl, rfl, rfl, ⟨by omega, by omega, by omega, by simp⟩⟩
        case round =>
          obtain ⟨pos, n, far, rfl, rfl, rfl, HA⟩ := hrel
          by_cases hp : pos < t.size
          · by_cases hasc : (t[pos]'hp).toNat < 128
            · have hnx : ∀ ty, (Instr.next (.pointer (some ⟨w.heap.size, 0, none⟩)) true ty).run Try.prog (w.iter t pos) = _ := fun ty => run_next_ascii w t pos ty hp hasc
              obtain ⟨c, hc⟩ : ∃ c : Int, c = ((t[pos]'hp).toNat : Int) := ⟨_, rfl⟩
              rw [← hc] at hnx
              have HC := Aside0.mk hc
              have hc0 : 0 ≤ c := by omega
              have hc1 : c < 128 := by omega
              clear hc hasc
              by_cases hlo : c < 48
              · have hr := scan_lo t hp HA.out.2.2.2 (by have := HC.out; omega)
                rw [hr] at HL
                have HR := HL.out
                subst HR
                clear hr HL
                go_wp2
                go_ret2
                exact ⟨rfl, below_iter w t _⟩
              · by_cases hhi : 57 < c
                · have hr := scan_hi t hp HA.out.2.2.2 (by have := HC.out; omega)
                  rw [hr] at HL
                  have HR := HL.out
                  subst HR
                  clear hr HL
                  go_wp2
                  go_ret2
                  exact ⟨rfl, below_iter w t _⟩
                · have hst := scan_step t hp HA.out.2.2.2 (by have := HC.out; omega) (by have := HC.out; omega)
                  rw [← HC.out] at hst
                  have HS := Aside0.mk hst
                  clear hst
                  have hn0 := HA.out.2.1
                  have hn1 := HA.out.2.2.1
                  have hps := HA.out.1
                  have e1 : IntKind.u64.wrap (10 * n) = _ := num_Read.u64_add
                  have e2 : IntKind.u64.wrap ((10 * n) % 18446744073709551616 + (c - 48)) = _ := num_Read.u64_add
                  cases far
                  · go_wp2
                    go_roundw
                    · exact ⟨pos + 1, _, _, rfl, rfl, rfl, ⟨by omega, by omega, by omega, by rw [← HS.out]; simp⟩⟩
                    · simp; omega
                  · go_wp2
                    go_roundw
                    · exact ⟨pos + 1, _, _, rfl, rfl, rfl, ⟨by omega, by omega, by omega, by rw [← HS.out]; simp⟩⟩
                    · simp; omega
            · have hnx : ∀ ty, (Instr.next (.pointer (some ⟨w.heap.size, 0, none⟩)) true ty).run Try.prog (w.iter t pos) = _ := fun ty => run_next_any w t pos ty hp
              have hd := (decode_high t pos hp (by omega)).1
              obtain ⟨c, hc⟩ : ∃ c : Nat, c = (Utf8.decode t pos).1 := ⟨_, rfl⟩
              rw [← hc] at hnx hd
              have hr := scan_hi t hp HA.out.2.2.2 (by omega)
              rw [hr] at HL
              have HR := HL.out
              subst HR
              clear hr HL hc
              go_wp2
              go_ret2
              exact ⟨rfl, below_iter w t _⟩
          · have hnx : ∀ ty, (Instr.next (.pointer (some ⟨w.heap.size, 0, none⟩)) true ty).run Try.prog (w.iter t pos) = _ := fun ty => run_next_end w t pos ty hp
            have hn0 := HA.out.2.1
            have hn1 := HA.out.2.2.1
            have hr := scan_end t hp HA.out.2.2.2
            rw [hr] at HL
            simp only at HL
            clear hr
            obtain ⟨q, hq⟩ : ∃ q, num_over.f (wrap64 (-wrap64 n)) far = some q := by unfold num_over.f; split <;> exact ⟨_, rfl⟩
            have HQ := HL.out
            have hq2 : q = R := by
              rw [HQ]; unfold num_over.f at hq; split at hq <;> (injection hq with hq; subst hq; rename_i hh; simp [hh])
            subst hq2
            clear HQ HL
            obtain ⟨q1, q2⟩ := q
            have HN := Aside0.mk (num_over.calls _ _ q1 q2 (w.iter t pos) hq)
            clear hq
            go_wp2_with (go_at_call 64; (with_reducible refine HN.out.mono ?_); rintro e w' ⟨rfl, ⟨nd, rfl⟩⟩)
            go_ret2
            exact ⟨rfl, pw_below_drewN (below_iter w t _) _⟩
    · replace hm : ((s[0].toNat : Int) == 45) = false := by simpa using hm
      have he : s.toList.isEmpty = false := toList_ne s h0
      obtain ⟨t, ht⟩ : ∃ t, t = s := ⟨_, rfl⟩
      subst ht
      have hlt := hs
      have HL := Aside0.mk (readL_plain t h0 hm)
      rw [← hR] at HL
      clear hR
      go_enter Try.func23, Try.ntmps23
      go_wp2
      go_loopw [5, 6] (fun nv fv wr => ∃ (pos : Nat) (n : Int) (far : Bool), nv = .int .u64 n ∧ fv = .bool far ∧ wr = w.iter t pos ∧ Aside0 (pos ≤ t.size ∧ 0 ≤ n ∧ n < 18446744073709551616 ∧ scan (t.data.toList.drop pos) n far = scan t.data.toList 0 false)) (fun _ _ w' => t.size - w'.iterPos w.heap.size)
      case atStart => exact ⟨0, 0, false, rfl, rfl, rfl, ⟨by omega, by omega, by omega, by simp⟩⟩
      case round =>
        obtain ⟨pos, n, far, rfl, rfl, rfl, HA⟩ := hrel
        by_cases hp : pos < t.size
        · by_cases hasc : (t[pos]'hp).toNat < 128
          · have hnx : ∀ ty, (Instr.next (.pointer (some ⟨w.heap.size, 0, none⟩)) true ty).run Try.prog (w.iter t pos) = _ := fun ty => run_next_ascii w t pos ty hp hasc
            obtain ⟨c, hc⟩ : ∃ c : Int, c = ((t[pos]'hp).toNat : Int) := ⟨_, rfl⟩
            rw [← hc] at hnx
            have HC := Aside0.mk hc
            have hc0 : 0 ≤ c := by omega
            have hc1 : c < 128 := by omega
            clear hc hasc
            by_cases hlo : c < 48
            · have hr := scan_lo t hp HA.out.2.2.2 (by have := HC.out; omega)
              rw [hr] at HL
              have HR := HL.out
              subst HR
              clear hr HL
              go_wp2
              go_ret2
              exact ⟨rfl, below_iter w t _⟩
            · by_cases hhi : 57 < c
              · have hr := scan_hi t hp HA.out.2.2.2 (by have := HC.out; omega)
                rw [hr] at HL
                have HR := HL.out
                subst HR
                clear hr HL
                go_wp2
                go_ret2
                exact ⟨rfl, below_iter w t _⟩
              · have hst := scan_step t hp HA.out.2.2.2 (by have := HC.out; omega) (by have := HC.out; omega)
                rw [← HC.out] at hst
                have HS := Aside0.mk hst
                clear hst
                have hn0 := HA.out.2.1
                have hn1 := HA.out.2.2.1
                have hps := HA.out.1
                have e1 : IntKind.u64.wrap (10 * n) = _ := num_Read.u64_add
                have e2 : IntKind.u64.wrap ((10 * n) % 18446744073709551616 + (c - 48)) = _ := num_Read.u64_add
                cases far
                · go_wp2
                  go_roundw
                  · exact ⟨pos + 1, _, _, rfl, rfl, rfl, ⟨by omega, by omega, by omega, by rw [← HS.out]; simp⟩⟩
                  · simp; omega
                · go_wp2
                  go_roundw
                  · exact ⟨pos + 1, _, _, rfl, rfl, rfl, ⟨by omega, by omega, by omega, by rw [← HS.out]; simp⟩⟩
                  · simp; omega
          · have hnx : ∀ ty, (Instr.next (.pointer (some ⟨w.heap.size, 0, none⟩)) true ty).run Try.prog (w.iter t pos) = _ := fun ty => run_next_any w t pos ty hp
            have hd := (decode_high t pos hp (by omega)).1
            obtain ⟨c, hc⟩ : ∃ c : Nat, c = (Utf8.decode t pos).1 := ⟨_, rfl⟩
            rw [← hc] at hnx hd
            have hr := scan_hi t hp HA.out.2.2.2 (by omega)
            rw [hr] at HL
            have HR := HL.out
            subst HR
            clear hr HL hc
            go_wp2
            go_ret2
            exact ⟨rfl, below_iter w t _⟩
        · have hnx : ∀ ty, (Instr.next (.pointer (some ⟨w.heap.size, 0, none⟩)) true ty).run Try.prog (w.iter t pos) = _ := fun ty => run_next_end w t pos ty hp
          have hn0 := HA.out.2.1
          have hn1 := HA.out.2.2.1
          have hr := scan_end t hp HA.out.2.2.2
          rw [hr] at HL
          simp only at HL
          clear hr
          have HQ := HL.out
          cases far
          · obtain ⟨q, hq⟩ : ∃ q, num_over.f (wrap64 n) (decide (9223372036854775807 < n)) = some q := by unfold num_over.f; split <;> exact ⟨_, rfl⟩
            have hq2 : q = R := by
              rw [HQ]; unfold num_over.f at hq; split at hq <;> (injection hq with hq; subst hq; rename_i hh; simp at hh; simp [hh])
            subst hq2
            clear HQ HL
            obtain ⟨q1, q2⟩ := q
            have HN := Aside0.mk (num_over.calls _ _ q1 q2 (w.iter t pos) hq)
            clear hq
            go_wp2_with (go_at_call 64; (with_reducible refine HN.out.mono ?_); rintro e w' ⟨rfl, ⟨nd, rfl⟩⟩)
            go_ret2
            exact ⟨rfl, pw_below_drewN (below_iter w t _) _⟩
          · obtain ⟨q, hq⟩ : ∃ q, num_over.f (wrap64 n) true = some q := by unfold num_over.f; split <;> exact ⟨_, rfl⟩
            have hq2 : q = R := by
              rw [HQ]; unfold num_over.f at hq; simp at hq; simp [hq]
            subst hq2
            clear HQ HL
            obtain ⟨q1, q2⟩ := q
            have HN := Aside0.mk (num_over.calls _ _ q1 q2 (w.iter t pos) hq)
            clear hq
            go_wp2_with (go_at_call 64; (with_reducible refine HN.out.mono ?_); rintro e w' ⟨rfl, ⟨nd, rfl⟩⟩)
            go_ret2
            exact ⟨rfl, pw_below_drewN (below_iter w t _) _⟩
  · have he : s.toList.isEmpty = true := toList_nil s h0
    have hr : R = (0, 20) := by rw [hR]; exact readL_nil s h0
    subst hr
    clear hR
    go_enter Try.func23, Try.ntmps23
    go_wp2
    go_ret2
    exact ⟨rfl, Below.refl _ _⟩

theorem num_Read.calls (a0 : ByteArray) (r1 : Int) (r2 : Int) (w : World) (h : num_Read.f a0 = some (r1, r2)) :
    Calls Try.prog 23 #[.string a0] w fun e w' => e = .returned (.tuple #[.int .i64 r1, .int .i64 r2]) ∧ Below w.heap.size w w' := by
  unfold num_Read.f at h
  split at h
  case isTrue hs => exact num_Read.walk a0 hs w (r1, r2) (Option.some.inj h).symm
  case isFalse => exact absurd h (by simp)

end Go.Proofs.Ytjlfclhlfgjgcaa.P
