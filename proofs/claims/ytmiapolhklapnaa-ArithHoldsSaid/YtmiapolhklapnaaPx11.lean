-- PRINTED by a program of this session over the kit's print.py.
import Derived.Test.YtmiapolhklapnaaPx0
import Derived.Test.YtmiapolhklapnaaPx8
import Derived.Test.YtmiapolhklapnaaPx9
import Derived.Test.YtmiapolhklapnaaPx10
namespace Go.Proofs.Ytmiapolhklapnaa.P
open Go.Own Go.RowKit Go.Proofs.YtmiapolhklapnaaW.PrintWords Go.Proofs.YtmiapolhklapnaaW.PrintLast Go.Proofs.YtmiapolhklapnaaW.PrintMore
attribute [local go_sem] max2_int min2_int max_two min_two max_three min_three max_four min_four   -- for this text's walks alone
set_option linter.unusedVariables false
set_option linter.unusedSimpArgs false

/-! ### spinneyref01_Mod: function 20 -/
def spinneyref01_Mod.f (a0 : Int) (a1 : Int) : Option (Int × Int) := (spinneyref01_Rem.f a0 a1).bind fun bt316 => (if bt316.2 = 0 then (if bt316.1 = 0 then (some (bt316.1, bt316.2)) else (if ((decide (bt316.1 < 0)) != (decide (a1 < 0))) = true then (some (wrap64 (bt316.1 + a1), bt316.2)) else (some (bt316.1, bt316.2)))) else (some (bt316.1, bt316.2)))
set_option maxHeartbeats 8000000 in
set_option maxRecDepth 100000 in
theorem spinneyref01_Mod.calls (a0 : Int) (a1 : Int) (r1 : Int) (r2 : Int) (w : World) (h : spinneyref01_Mod.f a0 a1 = some (r1, r2)) :
    Calls Try.prog 20 #[.int .i64 a0, .int .i64 a1] w fun e w' => e = .returned (.tuple #[.int .i64 r1, .int .i64 r2]) ∧ Drawn0 w w' := by
  have H : ((spinneyref01_Rem.f a0 a1).bind fun bt316 => (if bt316.2 = 0 then (if bt316.1 = 0 then (some (bt316.1, bt316.2)) else (if ((decide (bt316.1 < 0)) != (decide (a1 < 0))) = true then (some (wrap64 (bt316.1 + a1), bt316.2)) else (some (bt316.1, bt316.2)))) else (some (bt316.1, bt316.2)))) = some (r1, r2) := h
  clear h
  replace H := Option.bind_eq_some_iff.mp H
  obtain ⟨⟨t316, t317⟩, A30, H⟩ := H
  replace H : (if t317 = 0 then (if t316 = 0 then (some (t316, t317)) else (if ((decide (t316 < 0)) != (decide (a1 < 0))) = true then (some (wrap64 (t316 + a1), t317)) else (some (t316, t317)))) else (some (t316, t317))) = some (r1, r2) := H
  have A3 := Aside0.mk A30
  clear A30
  by_cases c4 : t317 = 0
  · rw [if_pos c4] at H
    have c4b0 : (t317 == 0) = true := beq_iff_eq.mpr c4
    have c4b1 : (t317 != 0) = false := bne_eq_false_iff_eq.mpr c4
    clear c4
    by_cases c5 : t316 = 0
    · rw [if_pos c5] at H
      have c5b0 : (t316 == 0) = true := beq_iff_eq.mpr c5
      have c5b1 : (t316 != 0) = false := bne_eq_false_iff_eq.mpr c5
      clear c5
      simp only [Option.some.injEq, Prod.mk.injEq] at H
      obtain ⟨rfl, rfl⟩ := H
      go_enter Try.func20, Try.ntmps20
      go_wp2_with (first | ((with_reducible refine gate_callee (f := 19) rfl ?_); refine goesL_ (some 11) rfl rfl Try.func19 (by kernel_rfl) rfl #[.int .i64 a0, .int .i64 a1] rfl (by (try simp only [List.map_toArray, List.map_cons, List.map_nil]); first | done | rfl | (simp only [List.length_drop, List.length_take]; rfl)) ?_; (with_reducible refine (spinneyref01_Rem.calls a0 a1 t316 t317 _ A3.out).mono ?_); rintro e w' ⟨rfl, ⟨nd, rfl⟩⟩; refine ⟨_, rfl, ?_⟩))
      go_ret2
      exact ⟨by first | rfl | (simp; done) | (simp [*]; done), by repeat (first | exact Drawn0.refl _ | apply Drawn0.step)⟩
    · rw [if_neg c5] at H
      have c5b0 : (t316 == 0) = false := beq_eq_false_iff_ne.mpr c5
      have c5b1 : (t316 != 0) = true := bne_iff_ne.mpr c5
      by_cases c6 : ((decide (t316 < 0)) != (decide (a1 < 0))) = true
      · rw [if_pos c6] at H
        have c6b0 : ((decide (t316 < 0)) != (decide (a1 < 0))) = true := c6
        (try (have c6b1 : decide ((decide (t316 < 0)) = (decide (a1 < 0))) = false := by simpa using c6))
        (try (have c6b2 : ((decide (t316 < 0)) == (decide (a1 < 0))) = false := by simpa using c6))
        (try (have c6b3 : ¬ ((decide (t316 < 0)) = (decide (a1 < 0))) := by simpa using c6))
        clear c6
        simp only [Option.some.injEq, Prod.mk.injEq] at H
        obtain ⟨rfl, rfl⟩ := H
        go_enter Try.func20, Try.ntmps20
        go_wp2_with (first | ((with_reducible refine gate_callee (f := 19) rfl ?_); refine goesL_ (some 11) rfl rfl Try.func19 (by kernel_rfl) rfl #[.int .i64 a0, .int .i64 a1] rfl (by (try simp only [List.map_toArray, List.map_cons, List.map_nil]); first | done | rfl | (simp only [List.length_drop, List.length_take]; rfl)) ?_; (with_reducible refine (spinneyref01_Rem.calls a0 a1 t316 t317 _ A3.out).mono ?_); rintro e w' ⟨rfl, ⟨nd, rfl⟩⟩; refine ⟨_, rfl, ?_⟩))
        go_ret2
        exact ⟨by first | rfl | (simp; done) | (simp [*]; done), by repeat (first | exact Drawn0.refl _ | apply Drawn0.step)⟩
      · rw [if_neg c6] at H
        have c6b0 : ((decide (t316 < 0)) != (decide (a1 < 0))) = false := by simpa using c6
        (try (have c6b1 : decide ((decide (t316 < 0)) = (decide (a1 < 0))) = true := by simpa using c6))
        (try (have c6b2 : ((decide (t316 < 0)) == (decide (a1 < 0))) = true := by simpa using c6))
        clear c6
        simp only [Option.some.injEq, Prod.mk.injEq] at H
        obtain ⟨rfl, rfl⟩ := H
        go_enter Try.func20, Try.ntmps20
        go_wp2_with (first | ((with_reducible refine gate_callee (f := 19) rfl ?_); refine goesL_ (some 11) rfl rfl Try.func19 (by kernel_rfl) rfl #[.int .i64 a0, .int .i64 a1] rfl (by (try simp only [List.map_toArray, List.map_cons, List.map_nil]); first | done | rfl | (simp only [List.length_drop, List.length_take]; rfl)) ?_; (with_reducible refine (spinneyref01_Rem.calls a0 a1 t316 t317 _ A3.out).mono ?_); rintro e w' ⟨rfl, ⟨nd, rfl⟩⟩; refine ⟨_, rfl, ?_⟩))
        go_ret2
        exact ⟨by first | rfl | (simp; done) | (simp [*]; done), by repeat (first | exact Drawn0.refl _ | apply Drawn0.step)⟩
  · rw [if_neg c4] at H
    have c4b0 : (t317 == 0) = false := beq_eq_false_iff_ne.mpr c4
    have c4b1 : (t317 != 0) = true := bne_iff_ne.mpr c4
    simp only [Option.some.injEq, Prod.mk.injEq] at H
    obtain ⟨rfl, rfl⟩ := H
    go_enter Try.func20, Try.ntmps20
    go_wp2_with (first | ((with_reducible refine gate_callee (f := 19) rfl ?_); refine goesL_ (some 11) rfl rfl Try.func19 (by kernel_rfl) rfl #[.int .i64 a0, .int .i64 a1] rfl (by (try simp only [List.map_toArray, List.map_cons, List.map_nil]); first | done | rfl | (simp only [List.length_drop, List.length_take]; rfl)) ?_; (with_reducible refine (spinneyref01_Rem.calls a0 a1 t316 t317 _ A3.out).mono ?_); rintro e w' ⟨rfl, ⟨nd, rfl⟩⟩; refine ⟨_, rfl, ?_⟩))
    go_ret2
    exact ⟨by first | rfl | (simp; done) | (simp [*]; done), by repeat (first | exact Drawn0.refl _ | apply Drawn0.step)⟩

/-! ### spinneyref11_two: function 34 -/
def spinneyref11_two.f (k : Nat) (a0 : ByteArray) (a1 : Int) (a2 : Int) : Option (Int × Int) := if a0.toList = ([43] : List UInt8) then ((spinneyref01_Add.f a1 a2).bind fun bt318 => (some (bt318.1, bt318.2))) else (if a0.toList = ([45] : List UInt8) then ((spinneyref01_Sub.f a1 a2).bind fun bt320 => (some (bt320.1, bt320.2))) else (if a0.toList = ([42] : List UInt8) then ((spinneyref01_Mul.f k a1 a2).bind fun bt322 => (some (bt322.1, bt322.2))) else (if a0.toList = ([47, 47] : List UInt8) then ((spinneyref01_Quo.f a1 a2).bind fun bt324 => (some (bt324.1, bt324.2))) else (if a0.toList = ([114, 101, 109] : List UInt8) then ((spinneyref01_Rem.f a1 a2).bind fun bt326 => (some (bt326.1, bt326.2))) else ((spinneyref01_Mod.f a1 a2).bind fun bt328 => (some (bt328.1, bt328.2)))))))
theorem spinneyref11_two.mono : ∀ a0 a1 a2 k, LeO (spinneyref11_two.f k a0 a1 a2) (spinneyref11_two.f (k + 1) a0 a1 a2) := by
  intro a0 a1 a2 k
  unfold spinneyref11_two.f
  repeat' first
      | (with_reducible exact spinneyref01_Mul.mono _ _ _)
      | (with_reducible exact LeO.refl _)
      | (with_reducible exact LeO.none _)
      | (with_reducible refine LeO.ite ?_ ?_)
      | (with_reducible refine LeO.bind ?_ (fun _ => ?_))
      | exact spinneyref01_Mul.mono _ _ _
      | exact LeO.none _
      | refine LeO.ite ?_ ?_
      | refine LeO.bind ?_ (fun _ => ?_)
set_option maxHeartbeats 8000000 in
set_option maxRecDepth 100000 in
theorem spinneyref11_two.calls (k : Nat) (a0 : ByteArray) (a1 : Int) (a2 : Int) (r1 : Int) (r2 : Int) (w : World) (h : spinneyref11_two.f k a0 a1 a2 = some (r1, r2)) :
    Calls Try.prog 34 #[.string a0, .int .i64 a1, .int .i64 a2] w fun e w' => e = .returned (.tuple #[.int .i64 r1, .int .i64 r2]) ∧ Drawn0 w w' := by
  have H : (if a0.toList = ([43] : List UInt8) then ((spinneyref01_Add.f a1 a2).bind fun bt318 => (some (bt318.1, bt318.2))) else (if a0.toList = ([45] : List UInt8) then ((spinneyref01_Sub.f a1 a2).bind fun bt320 => (some (bt320.1, bt320.2))) else (if a0.toList = ([42] : List UInt8) then ((spinneyref01_Mul.f k a1 a2).bind fun bt322 => (some (bt322.1, bt322.2))) else (if a0.toList = ([47, 47] : List UInt8) then ((spinneyref01_Quo.f a1 a2).bind fun bt324 => (some (bt324.1, bt324.2))) else (if a0.toList = ([114, 101, 109] : List UInt8) then ((spinneyref01_Rem.f a1 a2).bind fun bt326 => (some (bt326.1, bt326.2))) else ((spinneyref01_Mod.f a1 a2).bind fun bt328 => (some (bt328.1, bt328.2)))))))) = some (r1, r2) := h
  clear h
  by_cases c4 : a0.toList = ([43] : List UInt8)
  · rw [if_pos c4] at H
    have c4b0 : (a0.toList == ([43] : List UInt8)) = true := beq_iff_eq.mpr c4
    have c4b1 : (a0.toList != ([43] : List UInt8)) = false := bne_eq_false_iff_eq.mpr c4
    clear c4
    replace H := Option.bind_eq_some_iff.mp H
    obtain ⟨⟨t318, t319⟩, A50, H⟩ := H
    replace H : (some (t318, t319)) = some (r1, r2) := H
    have A5 := Aside0.mk A50
    clear A50
    simp only [Option.some.injEq, Prod.mk.injEq] at H
    obtain ⟨rfl, rfl⟩ := H
    go_enter Try.func34, Try.ntmps34
    go_wp2_with (first | ((with_reducible refine gate_callee (f := 15) rfl ?_); refine goesL_ (some 13) rfl rfl Try.func15 (by kernel_rfl) rfl #[.int .i64 a1, .int .i64 a2] rfl (by (try simp only [List.map_toArray, List.map_cons, List.map_nil]); first | done | rfl | (simp only [List.length_drop, List.length_take]; rfl)) ?_; (with_reducible refine (spinneyref01_Add.calls a1 a2 t318 t319 _ A5.out).mono ?_); rintro e w' ⟨rfl, ⟨nd, rfl⟩⟩; refine ⟨_, rfl, ?_⟩))
    go_ret2
    exact ⟨by first | rfl | (simp; done) | (simp [*]; done), by repeat (first | exact Drawn0.refl _ | apply Drawn0.step)⟩
  · rw [if_neg c4] at H
    have c4b0 : (a0.toList == ([43] : List UInt8)) = false := beq_eq_false_iff_ne.mpr c4
    have c4b1 : (a0.toList != ([43] : List UInt8)) = true := bne_iff_ne.mpr c4
    by_cases c6 : a0.toList = ([45] : List UInt8)
    · rw [if_pos c6] at H
      have c6b0 : (a0.toList == ([45] : List UInt8)) = true := beq_iff_eq.mpr c6
      have c6b1 : (a0.toList != ([45] : List UInt8)) = false := bne_eq_false_iff_eq.mpr c6
      clear c6
      replace H := Option.bind_eq_some_iff.mp H
      obtain ⟨⟨t320, t321⟩, A70, H⟩ := H
      replace H : (some (t320, t321)) = some (r1, r2) := H
      have A7 := Aside0.mk A70
      clear A70
      simp only [Option.some.injEq, Prod.mk.injEq] at H
      obtain ⟨rfl, rfl⟩ := H
      go_enter Try.func34, Try.ntmps34
      go_wp2_with (first | ((with_reducible refine gate_callee (f := 16) rfl ?_); refine goesL_ (some 20) rfl rfl Try.func16 (by kernel_rfl) rfl #[.int .i64 a1, .int .i64 a2] rfl (by (try simp only [List.map_toArray, List.map_cons, List.map_nil]); first | done | rfl | (simp only [List.length_drop, List.length_take]; rfl)) ?_; (with_reducible refine (spinneyref01_Sub.calls a1 a2 t320 t321 _ A7.out).mono ?_); rintro e w' ⟨rfl, ⟨nd, rfl⟩⟩; refine ⟨_, rfl, ?_⟩))
      go_ret2
      exact ⟨by first | rfl | (simp; done) | (simp [*]; done), by repeat (first | exact Drawn0.refl _ | apply Drawn0.step)⟩
    · rw [if_neg c6] at H
      have c6b0 : (a0.toList == ([45] : List UInt8)) = false := beq_eq_false_iff_ne.mpr c6
      have c6b1 : (a0.toList != ([45] : List UInt8)) = true := bne_iff_ne.mpr c6
      by_cases c8 : a0.toList = ([42] : List UInt8)
      · rw [if_pos c8] at H
        have c8b0 : (a0.toList == ([42] : List UInt8)) = true := beq_iff_eq.mpr c8
        have c8b1 : (a0.toList != ([42] : List UInt8)) = false := bne_eq_false_iff_eq.mpr c8
        clear c8
        replace H := Option.bind_eq_some_iff.mp H
        obtain ⟨⟨t322, t323⟩, A90, H⟩ := H
        replace H : (some (t322, t323)) = some (r1, r2) := H
        have A9 := Aside0.mk A90
        clear A90
        simp only [Option.some.injEq, Prod.mk.injEq] at H
        obtain ⟨rfl, rfl⟩ := H
        go_enter Try.func34, Try.ntmps34
        go_wp2_with (first | ((with_reducible refine gate_callee (f := 17) rfl ?_); refine goesL_ (some 27) rfl rfl Try.func17 (by kernel_rfl) rfl #[.int .i64 a1, .int .i64 a2] rfl (by (try simp only [List.map_toArray, List.map_cons, List.map_nil]); first | done | rfl | (simp only [List.length_drop, List.length_take]; rfl)) ?_; (with_reducible refine (spinneyref01_Mul.calls k a1 a2 t322 t323 _ A9.out).mono ?_); rintro e w' ⟨rfl, ⟨nd, rfl⟩⟩; refine ⟨_, rfl, ?_⟩))
        go_ret2
        exact ⟨by first | rfl | (simp; done) | (simp [*]; done), by repeat (first | exact Drawn0.refl _ | apply Drawn0.step)⟩
      · rw [if_neg c8] at H
        have c8b0 : (a0.toList == ([42] : List UInt8)) = false := beq_eq_false_iff_ne.mpr c8
        have c8b1 : (a0.toList != ([42] : List UInt8)) = true := bne_iff_ne.mpr c8
        by_cases c10 : a0.toList = ([47, 47] : List UInt8)
        · rw [if_pos c10] at H
          have c10b0 : (a0.toList == ([47, 47] : List UInt8)) = true := beq_iff_eq.mpr c10
          have c10b1 : (a0.toList != ([47, 47] : List UInt8)) = false := bne_eq_false_iff_eq.mpr c10
          clear c10
          replace H := Option.bind_eq_some_iff.mp H
          obtain ⟨⟨t324, t325⟩, A110, H⟩ := H
          replace H : (some (t324, t325)) = some (r1, r2) := H
          have A11 := Aside0.mk A110
          clear A110
          simp only [Option.some.injEq, Prod.mk.injEq] at H
          obtain ⟨rfl, rfl⟩ := H
          go_enter Try.func34, Try.ntmps34
          go_wp2_with (first | ((with_reducible refine gate_callee (f := 18) rfl ?_); refine goesL_ (some 34) rfl rfl Try.func18 (by kernel_rfl) rfl #[.int .i64 a1, .int .i64 a2] rfl (by (try simp only [List.map_toArray, List.map_cons, List.map_nil]); first | done | rfl | (simp only [List.length_drop, List.length_take]; rfl)) ?_; (with_reducible refine (spinneyref01_Quo.calls a1 a2 t324 t325 _ A11.out).mono ?_); rintro e w' ⟨rfl, ⟨nd, rfl⟩⟩; refine ⟨_, rfl, ?_⟩))
          go_ret2
          exact ⟨by first | rfl | (simp; done) | (simp [*]; done), by repeat (first | exact Drawn0.refl _ | apply Drawn0.step)⟩
        · rw [if_neg c10] at H
          have c10b0 : (a0.toList == ([47, 47] : List UInt8)) = false := beq_eq_false_iff_ne.mpr c10
          have c10b1 : (a0.toList != ([47, 47] : List UInt8)) = true := bne_iff_ne.mpr c10
          by_cases c12 : a0.toList = ([114, 101, 109] : List UInt8)
          · rw [if_pos c12] at H
            have c12b0 : (a0.toList == ([114, 101, 109] : List UInt8)) = true := beq_iff_eq.mpr c12
            have c12b1 : (a0.toList != ([114, 101, 109] : List UInt8)) = false := bne_eq_false_iff_eq.mpr c12
            clear c12
            replace H := Option.bind_eq_some_iff.mp H
            obtain ⟨⟨t326, t327⟩, A130, H⟩ := H
            replace H : (some (t326, t327)) = some (r1, r2) := H
            have A13 := Aside0.mk A130
            clear A130
            simp only [Option.some.injEq, Prod.mk.injEq] at H
            obtain ⟨rfl, rfl⟩ := H
            go_enter Try.func34, Try.ntmps34
            go_wp2_with (first | ((with_reducible refine gate_callee (f := 19) rfl ?_); refine goesL_ (some 41) rfl rfl Try.func19 (by kernel_rfl) rfl #[.int .i64 a1, .int .i64 a2] rfl (by (try simp only [List.map_toArray, List.map_cons, List.map_nil]); first | done | rfl | (simp only [List.length_drop, List.length_take]; rfl)) ?_; (with_reducible refine (spinneyref01_Rem.calls a1 a2 t326 t327 _ A13.out).mono ?_); rintro e w' ⟨rfl, ⟨nd, rfl⟩⟩; refine ⟨_, rfl, ?_⟩))
            go_ret2
            exact ⟨by first | rfl | (simp; done) | (simp [*]; done), by repeat (first | exact Drawn0.refl _ | apply Drawn0.step)⟩
          · rw [if_neg c12] at H
            have c12b0 : (a0.toList == ([114, 101, 109] : List UInt8)) = false := beq_eq_false_iff_ne.mpr c12
            have c12b1 : (a0.toList != ([114, 101, 109] : List UInt8)) = true := bne_iff_ne.mpr c12
            replace H := Option.bind_eq_some_iff.mp H
            obtain ⟨⟨t328, t329⟩, A140, H⟩ := H
            replace H : (some (t328, t329)) = some (r1, r2) := H
            have A14 := Aside0.mk A140
            clear A140
            simp only [Option.some.injEq, Prod.mk.injEq] at H
            obtain ⟨rfl, rfl⟩ := H
            go_enter Try.func34, Try.ntmps34
            go_wp2_with (first | ((with_reducible refine gate_callee (f := 20) rfl ?_); refine goesL_ (some 46) rfl rfl Try.func20 (by kernel_rfl) rfl #[.int .i64 a1, .int .i64 a2] rfl (by (try simp only [List.map_toArray, List.map_cons, List.map_nil]); first | done | rfl | (simp only [List.length_drop, List.length_take]; rfl)) ?_; (with_reducible refine (spinneyref01_Mod.calls a1 a2 t328 t329 _ A14.out).mono ?_); rintro e w' ⟨rfl, ⟨nd, rfl⟩⟩; refine ⟨_, rfl, ?_⟩))
            go_ret2
            exact ⟨by first | rfl | (simp; done) | (simp [*]; done), by repeat (first | exact Drawn0.refl _ | apply Drawn0.step)⟩

end Go.Proofs.Ytmiapolhklapnaa.P
