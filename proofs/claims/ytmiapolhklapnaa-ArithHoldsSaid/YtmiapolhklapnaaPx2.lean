-- PRINTED by a program of this session over the kit's print.py.
import Derived.Test.YtmiapolhklapnaaPx0
namespace Go.Proofs.Ytmiapolhklapnaa.P
open Go.Own Go.RowKit Go.Proofs.YtmiapolhklapnaaW.PrintWords Go.Proofs.YtmiapolhklapnaaW.PrintLast Go.Proofs.YtmiapolhklapnaaW.PrintMore
attribute [local go_sem] max2_int min2_int max_two min_two max_three min_three max_four min_four   -- for this text's walks alone
set_option linter.unusedVariables false
set_option linter.unusedSimpArgs false

/-! ### num_over: function 52 -/
def num_over.f (a0 : Int) (a1 : Bool) : Option (Int × Int) := if a1 = true then (some (0, 10)) else (some (a0, 0))
set_option maxHeartbeats 8000000 in
set_option maxRecDepth 100000 in
theorem num_over.calls (a0 : Int) (a1 : Bool) (r1 : Int) (r2 : Int) (w : World) (h : num_over.f a0 a1 = some (r1, r2)) :
    Calls Try.prog 52 #[.int .i64 a0, .bool a1] w fun e w' => e = .returned (.tuple #[.int .i64 r1, .int .i64 r2]) ∧ Drawn0 w w' := by
  have H : (if a1 = true then (some (0, 10)) else (some (a0, 0))) = some (r1, r2) := h
  clear h
  by_cases c3 : a1 = true
  · subst c3
    have H1 : (some (0, 10)) = some (r1, r2) := by rw [if_pos rfl] at H; exact H
    clear H
    have H := H1
    clear H1
    simp only [Option.some.injEq, Prod.mk.injEq] at H
    obtain ⟨rfl, rfl⟩ := H
    go_enter Try.func52, Try.ntmps52
    go_wp2
    go_ret2
    exact ⟨by first | rfl | (simp; done) | (simp [*]; done), by repeat (first | exact Drawn0.refl _ | apply Drawn0.step)⟩
  · replace c3 := Bool.eq_false_iff.mpr c3
    subst c3
    have H1 : (some (a0, 0)) = some (r1, r2) := by rw [if_neg (show ¬ (false = true) by decide)] at H; exact H
    clear H
    have H := H1
    clear H1
    simp only [Option.some.injEq, Prod.mk.injEq] at H
    obtain ⟨rfl, rfl⟩ := H
    go_enter Try.func52, Try.ntmps52
    go_wp2
    go_ret2
    exact ⟨by first | rfl | (simp; done) | (simp [*]; done), by repeat (first | exact Drawn0.refl _ | apply Drawn0.step)⟩

/-! ### num_Add: function 36 -/
def num_Add.f (a0 : Int) (a1 : Int) : Option (Int × Int) := (num_over.f (wrap64 (a0 + a1)) (decide ((Go.bits .and .i64 (Go.bits .xor .i64 a0 (wrap64 (a0 + a1))) (Go.bits .xor .i64 a1 (wrap64 (a0 + a1)))) < 0))).bind fun bt111 => (some (bt111.1, bt111.2))
set_option maxHeartbeats 8000000 in
set_option maxRecDepth 100000 in
theorem num_Add.calls (a0 : Int) (a1 : Int) (r1 : Int) (r2 : Int) (w : World) (h : num_Add.f a0 a1 = some (r1, r2)) :
    Calls Try.prog 36 #[.int .i64 a0, .int .i64 a1] w fun e w' => e = .returned (.tuple #[.int .i64 r1, .int .i64 r2]) ∧ Drawn0 w w' := by
  have H : ((num_over.f (wrap64 (a0 + a1)) (decide ((Go.bits .and .i64 (Go.bits .xor .i64 a0 (wrap64 (a0 + a1))) (Go.bits .xor .i64 a1 (wrap64 (a0 + a1)))) < 0))).bind fun bt111 => (some (bt111.1, bt111.2))) = some (r1, r2) := h
  clear h
  replace H := Option.bind_eq_some_iff.mp H
  obtain ⟨⟨t111, t112⟩, A30, H⟩ := H
  replace H : (some (t111, t112)) = some (r1, r2) := H
  have A3 := Aside0.mk A30
  clear A30
  simp only [Option.some.injEq, Prod.mk.injEq] at H
  obtain ⟨rfl, rfl⟩ := H
  go_enter Try.func36, Try.ntmps36
  go_wp2_with (first | ((with_reducible refine gate_callee (f := 52) rfl ?_); refine goesL_ (some 19) rfl rfl Try.func52 (by kernel_rfl) rfl #[.int .i64 (wrap64 (a0 + a1)), .bool (decide ((Go.bits .and .i64 (Go.bits .xor .i64 a0 (wrap64 (a0 + a1))) (Go.bits .xor .i64 a1 (wrap64 (a0 + a1)))) < 0))] rfl (by (try simp only [List.map_toArray, List.map_cons, List.map_nil]); first | done | rfl | (simp only [List.length_drop, List.length_take]; rfl)) ?_; (with_reducible refine (num_over.calls (wrap64 (a0 + a1)) (decide ((Go.bits .and .i64 (Go.bits .xor .i64 a0 (wrap64 (a0 + a1))) (Go.bits .xor .i64 a1 (wrap64 (a0 + a1)))) < 0)) t111 t112 _ A3.out).mono ?_); rintro e w' ⟨rfl, ⟨nd, rfl⟩⟩; refine ⟨_, rfl, ?_⟩))
  go_ret2
  exact ⟨by first | rfl | (simp; done) | (simp [*]; done), by repeat (first | exact Drawn0.refl _ | apply Drawn0.step)⟩

/-! ### num_Sub: function 37 -/
def num_Sub.f (a0 : Int) (a1 : Int) : Option (Int × Int) := (num_over.f (wrap64 (a0 - a1)) (decide ((Go.bits .and .i64 (Go.bits .xor .i64 a0 a1) (Go.bits .xor .i64 a0 (wrap64 (a0 - a1)))) < 0))).bind fun bt113 => (some (bt113.1, bt113.2))
set_option maxHeartbeats 8000000 in
set_option maxRecDepth 100000 in
theorem num_Sub.calls (a0 : Int) (a1 : Int) (r1 : Int) (r2 : Int) (w : World) (h : num_Sub.f a0 a1 = some (r1, r2)) :
    Calls Try.prog 37 #[.int .i64 a0, .int .i64 a1] w fun e w' => e = .returned (.tuple #[.int .i64 r1, .int .i64 r2]) ∧ Drawn0 w w' := by
  have H : ((num_over.f (wrap64 (a0 - a1)) (decide ((Go.bits .and .i64 (Go.bits .xor .i64 a0 a1) (Go.bits .xor .i64 a0 (wrap64 (a0 - a1)))) < 0))).bind fun bt113 => (some (bt113.1, bt113.2))) = some (r1, r2) := h
  clear h
  replace H := Option.bind_eq_some_iff.mp H
  obtain ⟨⟨t113, t114⟩, A30, H⟩ := H
  replace H : (some (t113, t114)) = some (r1, r2) := H
  have A3 := Aside0.mk A30
  clear A30
  simp only [Option.some.injEq, Prod.mk.injEq] at H
  obtain ⟨rfl, rfl⟩ := H
  go_enter Try.func37, Try.ntmps37
  go_wp2_with (first | ((with_reducible refine gate_callee (f := 52) rfl ?_); refine goesL_ (some 19) rfl rfl Try.func52 (by kernel_rfl) rfl #[.int .i64 (wrap64 (a0 - a1)), .bool (decide ((Go.bits .and .i64 (Go.bits .xor .i64 a0 a1) (Go.bits .xor .i64 a0 (wrap64 (a0 - a1)))) < 0))] rfl (by (try simp only [List.map_toArray, List.map_cons, List.map_nil]); first | done | rfl | (simp only [List.length_drop, List.length_take]; rfl)) ?_; (with_reducible refine (num_over.calls (wrap64 (a0 - a1)) (decide ((Go.bits .and .i64 (Go.bits .xor .i64 a0 a1) (Go.bits .xor .i64 a0 (wrap64 (a0 - a1)))) < 0)) t113 t114 _ A3.out).mono ?_); rintro e w' ⟨rfl, ⟨nd, rfl⟩⟩; refine ⟨_, rfl, ?_⟩))
  go_ret2
  exact ⟨by first | rfl | (simp; done) | (simp [*]; done), by repeat (first | exact Drawn0.refl _ | apply Drawn0.step)⟩

/-! ### bits_Mul64: function 53 -/
def bits_Mul64.f (a0 : Int) (a1 : Int) : Option (Int × Int) := some (IntKind.u64.wrap ((IntKind.u64.wrap ((IntKind.u64.wrap ((a0 / 4294967296) * (a1 / 4294967296))) + ((IntKind.u64.wrap ((IntKind.u64.wrap ((a0 / 4294967296) * (Go.bits .and .u64 a1 4294967295))) + ((IntKind.u64.wrap ((Go.bits .and .u64 a0 4294967295) * (Go.bits .and .u64 a1 4294967295))) / 4294967296))) / 4294967296))) + ((IntKind.u64.wrap ((Go.bits .and .u64 (IntKind.u64.wrap ((IntKind.u64.wrap ((a0 / 4294967296) * (Go.bits .and .u64 a1 4294967295))) + ((IntKind.u64.wrap ((Go.bits .and .u64 a0 4294967295) * (Go.bits .and .u64 a1 4294967295))) / 4294967296))) 4294967295) + (IntKind.u64.wrap ((Go.bits .and .u64 a0 4294967295) * (a1 / 4294967296))))) / 4294967296)), IntKind.u64.wrap (a0 * a1))
set_option maxHeartbeats 8000000 in
set_option maxRecDepth 100000 in
theorem bits_Mul64.calls (a0 : Int) (a1 : Int) (r1 : Int) (r2 : Int) (w : World) (h : bits_Mul64.f a0 a1 = some (r1, r2)) :
    Calls Try.prog 53 #[.int .u64 a0, .int .u64 a1] w fun e w' => e = .returned (.tuple #[.int .u64 r1, .int .u64 r2]) ∧ Drawn0 w w' := by
  have H : (some (IntKind.u64.wrap ((IntKind.u64.wrap ((IntKind.u64.wrap ((a0 / 4294967296) * (a1 / 4294967296))) + ((IntKind.u64.wrap ((IntKind.u64.wrap ((a0 / 4294967296) * (Go.bits .and .u64 a1 4294967295))) + ((IntKind.u64.wrap ((Go.bits .and .u64 a0 4294967295) * (Go.bits .and .u64 a1 4294967295))) / 4294967296))) / 4294967296))) + ((IntKind.u64.wrap ((Go.bits .and .u64 (IntKind.u64.wrap ((IntKind.u64.wrap ((a0 / 4294967296) * (Go.bits .and .u64 a1 4294967295))) + ((IntKind.u64.wrap ((Go.bits .and .u64 a0 4294967295) * (Go.bits .and .u64 a1 4294967295))) / 4294967296))) 4294967295) + (IntKind.u64.wrap ((Go.bits .and .u64 a0 4294967295) * (a1 / 4294967296))))) / 4294967296)), IntKind.u64.wrap (a0 * a1))) = some (r1, r2) := h
  clear h
  simp only [Option.some.injEq, Prod.mk.injEq] at H
  obtain ⟨rfl, rfl⟩ := H
  go_enter Try.func53, Try.ntmps53
  go_wp2
  go_ret2
  exact ⟨by first | rfl | (simp; done) | (simp [*]; done), by repeat (first | exact Drawn0.refl _ | apply Drawn0.step)⟩

/-! ### num_size: function 54 -/
def num_size.f (a0 : Int) : Option (Int) := if a0 < 0 then (some (IntKind.u64.wrap (-(IntKind.u64.wrap (a0))))) else (some (IntKind.u64.wrap (a0)))
set_option maxHeartbeats 8000000 in
set_option maxRecDepth 100000 in
theorem num_size.calls (a0 : Int) (r : Int) (w : World) (h : num_size.f a0 = some r) :
    Calls Try.prog 54 #[.int .i64 a0] w fun e w' => e = .returned (.int .u64 r) ∧ Drawn0 w w' := by
  have H : (if a0 < 0 then (some (IntKind.u64.wrap (-(IntKind.u64.wrap (a0))))) else (some (IntKind.u64.wrap (a0)))) = some r := h
  clear h
  by_cases c2 : a0 < 0
  · rw [if_pos c2] at H
    have c2b0 : decide (a0 < 0) = true := decide_eq_true c2
    clear c2
    obtain rfl := Option.some.inj H
    go_enter Try.func54, Try.ntmps54
    go_wp2
    go_ret
    exact ⟨by first | rfl | (simp; done) | (simp [*]; done), by repeat (first | exact Drawn0.refl _ | apply Drawn0.step)⟩
  · rw [if_neg c2] at H
    have c2b0 : decide (a0 < 0) = false := decide_eq_false c2
    clear c2
    obtain rfl := Option.some.inj H
    go_enter Try.func54, Try.ntmps54
    go_wp2
    go_ret
    exact ⟨by first | rfl | (simp; done) | (simp [*]; done), by repeat (first | exact Drawn0.refl _ | apply Drawn0.step)⟩

/-! ### num_Mul: function 38 -/
def num_Mul.f (a0 : Int) (a1 : Int) : Option (Int × Int) := (num_size.f a0).bind fun t115 => ((num_size.f a1).bind fun t116 => ((bits_Mul64.f t115 t116).bind fun bt117 => (if ((decide (a0 < 0)) != (decide (a1 < 0))) = true then (if bt117.1 > 0 then ((num_over.f (wrap64 (a0 * a1)) true).bind fun bt119 => (some (bt119.1, bt119.2))) else ((num_over.f (wrap64 (a0 * a1)) (decide (bt117.2 > (9223372036854775807 + 1)))).bind fun bt121 => (some (bt121.1, bt121.2)))) else (if bt117.1 > 0 then ((num_over.f (wrap64 (a0 * a1)) true).bind fun bt123 => (some (bt123.1, bt123.2))) else ((num_over.f (wrap64 (a0 * a1)) (decide (bt117.2 > 9223372036854775807))).bind fun bt125 => (some (bt125.1, bt125.2)))))))
set_option maxHeartbeats 8000000 in
set_option maxRecDepth 100000 in
theorem num_Mul.calls (a0 : Int) (a1 : Int) (r1 : Int) (r2 : Int) (w : World) (h : num_Mul.f a0 a1 = some (r1, r2)) :
    Calls Try.prog 38 #[.int .i64 a0, .int .i64 a1] w fun e w' => e = .returned (.tuple #[.int .i64 r1, .int .i64 r2]) ∧ Drawn0 w w' := by
  have H : ((num_size.f a0).bind fun t115 => ((num_size.f a1).bind fun t116 => ((bits_Mul64.f t115 t116).bind fun bt117 => (if ((decide (a0 < 0)) != (decide (a1 < 0))) = true then (if bt117.1 > 0 then ((num_over.f (wrap64 (a0 * a1)) true).bind fun bt119 => (some (bt119.1, bt119.2))) else ((num_over.f (wrap64 (a0 * a1)) (decide (bt117.2 > (9223372036854775807 + 1)))).bind fun bt121 => (some (bt121.1, bt121.2)))) else (if bt117.1 > 0 then ((num_over.f (wrap64 (a0 * a1)) true).bind fun bt123 => (some (bt123.1, bt123.2))) else ((num_over.f (wrap64 (a0 * a1)) (decide (bt117.2 > 9223372036854775807))).bind fun bt125 => (some (bt125.1, bt125.2)))))))) = some (r1, r2) := h
  clear h
  replace H := Option.bind_eq_some_iff.mp H
  obtain ⟨t115, A30, H⟩ := H
  replace H : ((num_size.f a1).bind fun t116 => ((bits_Mul64.f t115 t116).bind fun bt117 => (if ((decide (a0 < 0)) != (decide (a1 < 0))) = true then (if bt117.1 > 0 then ((num_over.f (wrap64 (a0 * a1)) true).bind fun bt119 => (some (bt119.1, bt119.2))) else ((num_over.f (wrap64 (a0 * a1)) (decide (bt117.2 > (9223372036854775807 + 1)))).bind fun bt121 => (some (bt121.1, bt121.2)))) else (if bt117.1 > 0 then ((num_over.f (wrap64 (a0 * a1)) true).bind fun bt123 => (some (bt123.1, bt123.2))) else ((num_over.f (wrap64 (a0 * a1)) (decide (bt117.2 > 9223372036854775807))).bind fun bt125 => (some (bt125.1, bt125.2))))))) = some (r1, r2) := H
  have A3 := Aside0.mk A30
  clear A30
  replace H := Option.bind_eq_some_iff.mp H
  obtain ⟨t116, A40, H⟩ := H
  replace H : ((bits_Mul64.f t115 t116).bind fun bt117 => (if ((decide (a0 < 0)) != (decide (a1 < 0))) = true then (if bt117.1 > 0 then ((num_over.f (wrap64 (a0 * a1)) true).bind fun bt119 => (some (bt119.1, bt119.2))) else ((num_over.f (wrap64 (a0 * a1)) (decide (bt117.2 > (9223372036854775807 + 1)))).bind fun bt121 => (some (bt121.1, bt121.2)))) else (if bt117.1 > 0 then ((num_over.f (wrap64 (a0 * a1)) true).bind fun bt123 => (some (bt123.1, bt123.2))) else ((num_over.f (wrap64 (a0 * a1)) (decide (bt117.2 > 9223372036854775807))).bind fun bt125 => (some (bt125.1, bt125.2)))))) = some (r1, r2) := H
  have A4 := Aside0.mk A40
  clear A40
  replace H := Option.bind_eq_some_iff.mp H
  obtain ⟨⟨t117, t118⟩, A50, H⟩ := H
  replace H : (if ((decide (a0 < 0)) != (decide (a1 < 0))) = true then (if t117 > 0 then ((num_over.f (wrap64 (a0 * a1)) true).bind fun bt119 => (some (bt119.1, bt119.2))) else ((num_over.f (wrap64 (a0 * a1)) (decide (t118 > (9223372036854775807 + 1)))).bind fun bt121 => (some (bt121.1, bt121.2)))) else (if t117 > 0 then ((num_over.f (wrap64 (a0 * a1)) true).bind fun bt123 => (some (bt123.1, bt123.2))) else ((num_over.f (wrap64 (a0 * a1)) (decide (t118 > 9223372036854775807))).bind fun bt125 => (some (bt125.1, bt125.2))))) = some (r1, r2) := H
  have A5 := Aside0.mk A50
  clear A50
  by_cases c6 : ((decide (a0 < 0)) != (decide (a1 < 0))) = true
  · rw [if_pos c6] at H
    have c6b0 : ((decide (a0 < 0)) != (decide (a1 < 0))) = true := c6
    (try (have c6b1 : decide ((decide (a0 < 0)) = (decide (a1 < 0))) = false := by simpa using c6))
    (try (have c6b2 : ((decide (a0 < 0)) == (decide (a1 < 0))) = false := by simpa using c6))
    (try (have c6b3 : ¬ ((decide (a0 < 0)) = (decide (a1 < 0))) := by simpa using c6))
    clear c6
    by_cases c7 : t117 > 0
    · rw [if_pos c7] at H
      have c7b0 : decide (0 < t117) = true := decide_eq_true c7
      clear c7
      replace H := Option.bind_eq_some_iff.mp H
      obtain ⟨⟨t119, t120⟩, A80, H⟩ := H
      replace H : (some (t119, t120)) = some (r1, r2) := H
      have A8 := Aside0.mk A80
      clear A80
      simp only [Option.some.injEq, Prod.mk.injEq] at H
      obtain ⟨rfl, rfl⟩ := H
      go_enter Try.func38, Try.ntmps38
      go_wp2_with (first | ((with_reducible refine gate_callee (f := 54) rfl ?_); refine goesL_ (some 11) rfl rfl Try.func54 (by kernel_rfl) rfl #[.int .i64 a0] rfl (by (try simp only [List.map_toArray, List.map_cons, List.map_nil]); first | done | rfl | (simp only [List.length_drop, List.length_take]; rfl)) ?_; (with_reducible refine (num_size.calls a0 t115 _ A3.out).mono ?_); rintro e w' ⟨rfl, ⟨nd, rfl⟩⟩; refine ⟨_, rfl, ?_⟩) | ((with_reducible refine gate_callee (f := 54) rfl ?_); refine goesL_ (some 13) rfl rfl Try.func54 (by kernel_rfl) rfl #[.int .i64 a1] rfl (by (try simp only [List.map_toArray, List.map_cons, List.map_nil]); first | done | rfl | (simp only [List.length_drop, List.length_take]; rfl)) ?_; (with_reducible refine (num_size.calls a1 t116 _ A4.out).mono ?_); rintro e w' ⟨rfl, ⟨nd, rfl⟩⟩; refine ⟨_, rfl, ?_⟩) | ((with_reducible refine gate_callee (f := 53) rfl ?_); refine goesL_ (some 14) rfl rfl Try.func53 (by kernel_rfl) rfl #[.int .u64 t115, .int .u64 t116] rfl (by (try simp only [List.map_toArray, List.map_cons, List.map_nil]); first | done | rfl | (simp only [List.length_drop, List.length_take]; rfl)) ?_; (with_reducible refine (bits_Mul64.calls t115 t116 t117 t118 _ A5.out).mono ?_); rintro e w' ⟨rfl, ⟨nd, rfl⟩⟩; refine ⟨_, rfl, ?_⟩) | ((with_reducible refine gate_callee (f := 52) rfl ?_); refine goesL_ (some 34) rfl rfl Try.func52 (by kernel_rfl) rfl #[.int .i64 (wrap64 (a0 * a1)), .bool true] rfl (by (try simp only [List.map_toArray, List.map_cons, List.map_nil]); first | done | rfl | (simp only [List.length_drop, List.length_take]; rfl)) ?_; (with_reducible refine (num_over.calls (wrap64 (a0 * a1)) true t119 t120 _ A8.out).mono ?_); rintro e w' ⟨rfl, ⟨nd, rfl⟩⟩; refine ⟨_, rfl, ?_⟩))
      go_ret2
      exact ⟨by first | rfl | (simp; done) | (simp [*]; done), by repeat (first | exact Drawn0.refl _ | apply Drawn0.step)⟩
    · rw [if_neg c7] at H
      have c7b0 : decide (0 < t117) = false := decide_eq_false c7
      clear c7
      replace H := Option.bind_eq_some_iff.mp H
      obtain ⟨⟨t121, t122⟩, A90, H⟩ := H
      replace H : (some (t121, t122)) = some (r1, r2) := H
      have A9 := Aside0.mk A90
      clear A90
      simp only [Option.some.injEq, Prod.mk.injEq] at H
      obtain ⟨rfl, rfl⟩ := H
      go_enter Try.func38, Try.ntmps38
      go_wp2_with (first | ((with_reducible refine gate_callee (f := 54) rfl ?_); refine goesL_ (some 11) rfl rfl Try.func54 (by kernel_rfl) rfl #[.int .i64 a0] rfl (by (try simp only [List.map_toArray, List.map_cons, List.map_nil]); first | done | rfl | (simp only [List.length_drop, List.length_take]; rfl)) ?_; (with_reducible refine (num_size.calls a0 t115 _ A3.out).mono ?_); rintro e w' ⟨rfl, ⟨nd, rfl⟩⟩; refine ⟨_, rfl, ?_⟩) | ((with_reducible refine gate_callee (f := 54) rfl ?_); refine goesL_ (some 13) rfl rfl Try.func54 (by kernel_rfl) rfl #[.int .i64 a1] rfl (by (try simp only [List.map_toArray, List.map_cons, List.map_nil]); first | done | rfl | (simp only [List.length_drop, List.length_take]; rfl)) ?_; (with_reducible refine (num_size.calls a1 t116 _ A4.out).mono ?_); rintro e w' ⟨rfl, ⟨nd, rfl⟩⟩; refine ⟨_, rfl, ?_⟩) | ((with_reducible refine gate_callee (f := 53) rfl ?_); refine goesL_ (some 14) rfl rfl Try.func53 (by kernel_rfl) rfl #[.int .u64 t115, .int .u64 t116] rfl (by (try simp only [List.map_toArray, List.map_cons, List.map_nil]); first | done | rfl | (simp only [List.length_drop, List.length_take]; rfl)) ?_; (with_reducible refine (bits_Mul64.calls t115 t116 t117 t118 _ A5.out).mono ?_); rintro e w' ⟨rfl, ⟨nd, rfl⟩⟩; refine ⟨_, rfl, ?_⟩) | ((with_reducible refine gate_callee (f := 52) rfl ?_); refine goesL_ (some 34) rfl rfl Try.func52 (by kernel_rfl) rfl #[.int .i64 (wrap64 (a0 * a1)), .bool (decide (t118 > (9223372036854775807 + 1)))] rfl (by (try simp only [List.map_toArray, List.map_cons, List.map_nil]); first | done | rfl | (simp only [List.length_drop, List.length_take]; rfl)) ?_; (with_reducible refine (num_over.calls (wrap64 (a0 * a1)) (decide (t118 > (9223372036854775807 + 1))) t121 t122 _ A9.out).mono ?_); rintro e w' ⟨rfl, ⟨nd, rfl⟩⟩; refine ⟨_, rfl, ?_⟩))
      go_ret2
      exact ⟨by first | rfl | (simp; done) | (simp [*]; done), by repeat (first | exact Drawn0.refl _ | apply Drawn0.step)⟩
  · rw [if_neg c6] at H
    have c6b0 : ((decide (a0 < 0)) != (decide (a1 < 0))) = false := by simpa using c6
    (try (have c6b1 : decide ((decide (a0 < 0)) = (decide (a1 < 0))) = true := by simpa using c6))
    (try (have c6b2 : ((decide (a0 < 0)) == (decide (a1 < 0))) = true := by simpa using c6))
    clear c6
    by_cases c10 : t117 > 0
    · rw [if_pos c10] at H
      have c10b0 : decide (0 < t117) = true := decide_eq_true c10
      clear c10
      replace H := Option.bind_eq_some_iff.mp H
      obtain ⟨⟨t123, t124⟩, A110, H⟩ := H
      replace H : (some (t123, t124)) = some (r1, r2) := H
      have A11 := Aside0.mk A110
      clear A110
      simp only [Option.some.injEq, Prod.mk.injEq] at H
      obtain ⟨rfl, rfl⟩ := H
      go_enter Try.func38, Try.ntmps38
      go_wp2_with (first | ((with_reducible refine gate_callee (f := 54) rfl ?_); refine goesL_ (some 11) rfl rfl Try.func54 (by kernel_rfl) rfl #[.int .i64 a0] rfl (by (try simp only [List.map_toArray, List.map_cons, List.map_nil]); first | done | rfl | (simp only [List.length_drop, List.length_take]; rfl)) ?_; (with_reducible refine (num_size.calls a0 t115 _ A3.out).mono ?_); rintro e w' ⟨rfl, ⟨nd, rfl⟩⟩; refine ⟨_, rfl, ?_⟩) | ((with_reducible refine gate_callee (f := 54) rfl ?_); refine goesL_ (some 13) rfl rfl Try.func54 (by kernel_rfl) rfl #[.int .i64 a1] rfl (by (try simp only [List.map_toArray, List.map_cons, List.map_nil]); first | done | rfl | (simp only [List.length_drop, List.length_take]; rfl)) ?_; (with_reducible refine (num_size.calls a1 t116 _ A4.out).mono ?_); rintro e w' ⟨rfl, ⟨nd, rfl⟩⟩; refine ⟨_, rfl, ?_⟩) | ((with_reducible refine gate_callee (f := 53) rfl ?_); refine goesL_ (some 14) rfl rfl Try.func53 (by kernel_rfl) rfl #[.int .u64 t115, .int .u64 t116] rfl (by (try simp only [List.map_toArray, List.map_cons, List.map_nil]); first | done | rfl | (simp only [List.length_drop, List.length_take]; rfl)) ?_; (with_reducible refine (bits_Mul64.calls t115 t116 t117 t118 _ A5.out).mono ?_); rintro e w' ⟨rfl, ⟨nd, rfl⟩⟩; refine ⟨_, rfl, ?_⟩) | ((with_reducible refine gate_callee (f := 52) rfl ?_); refine goesL_ (some 34) rfl rfl Try.func52 (by kernel_rfl) rfl #[.int .i64 (wrap64 (a0 * a1)), .bool true] rfl (by (try simp only [List.map_toArray, List.map_cons, List.map_nil]); first | done | rfl | (simp only [List.length_drop, List.length_take]; rfl)) ?_; (with_reducible refine (num_over.calls (wrap64 (a0 * a1)) true t123 t124 _ A11.out).mono ?_); rintro e w' ⟨rfl, ⟨nd, rfl⟩⟩; refine ⟨_, rfl, ?_⟩))
      go_ret2
      exact ⟨by first | rfl | (simp; done) | (simp [*]; done), by repeat (first | exact Drawn0.refl _ | apply Drawn0.step)⟩
    · rw [if_neg c10] at H
      have c10b0 : decide (0 < t117) = false := decide_eq_false c10
      clear c10
      replace H := Option.bind_eq_some_iff.mp H
      obtain ⟨⟨t125, t126⟩, A120, H⟩ := H
      replace H : (some (t125, t126)) = some (r1, r2) := H
      have A12 := Aside0.mk A120
      clear A120
      simp only [Option.some.injEq, Prod.mk.injEq] at H
      obtain ⟨rfl, rfl⟩ := H
      go_enter Try.func38, Try.ntmps38
      go_wp2_with (first | ((with_reducible refine gate_callee (f := 54) rfl ?_); refine goesL_ (some 11) rfl rfl Try.func54 (by kernel_rfl) rfl #[.int .i64 a0] rfl (by (try simp only [List.map_toArray, List.map_cons, List.map_nil]); first | done | rfl | (simp only [List.length_drop, List.length_take]; rfl)) ?_; (with_reducible refine (num_size.calls a0 t115 _ A3.out).mono ?_); rintro e w' ⟨rfl, ⟨nd, rfl⟩⟩; refine ⟨_, rfl, ?_⟩) | ((with_reducible refine gate_callee (f := 54) rfl ?_); refine goesL_ (some 13) rfl rfl Try.func54 (by kernel_rfl) rfl #[.int .i64 a1] rfl (by (try simp only [List.map_toArray, List.map_cons, List.map_nil]); first | done | rfl | (simp only [List.length_drop, List.length_take]; rfl)) ?_; (with_reducible refine (num_size.calls a1 t116 _ A4.out).mono ?_); rintro e w' ⟨rfl, ⟨nd, rfl⟩⟩; refine ⟨_, rfl, ?_⟩) | ((with_reducible refine gate_callee (f := 53) rfl ?_); refine goesL_ (some 14) rfl rfl Try.func53 (by kernel_rfl) rfl #[.int .u64 t115, .int .u64 t116] rfl (by (try simp only [List.map_toArray, List.map_cons, List.map_nil]); first | done | rfl | (simp only [List.length_drop, List.length_take]; rfl)) ?_; (with_reducible refine (bits_Mul64.calls t115 t116 t117 t118 _ A5.out).mono ?_); rintro e w' ⟨rfl, ⟨nd, rfl⟩⟩; refine ⟨_, rfl, ?_⟩) | ((with_reducible refine gate_callee (f := 52) rfl ?_); refine goesL_ (some 34) rfl rfl Try.func52 (by kernel_rfl) rfl #[.int .i64 (wrap64 (a0 * a1)), .bool (decide (t118 > 9223372036854775807))] rfl (by (try simp only [List.map_toArray, List.map_cons, List.map_nil]); first | done | rfl | (simp only [List.length_drop, List.length_take]; rfl)) ?_; (with_reducible refine (num_over.calls (wrap64 (a0 * a1)) (decide (t118 > 9223372036854775807)) t125 t126 _ A12.out).mono ?_); rintro e w' ⟨rfl, ⟨nd, rfl⟩⟩; refine ⟨_, rfl, ?_⟩))
      go_ret2
      exact ⟨by first | rfl | (simp; done) | (simp [*]; done), by repeat (first | exact Drawn0.refl _ | apply Drawn0.step)⟩

/-! ### num_Neg: function 42 -/
def num_Neg.f (a0 : Int) : Option (Int × Int) := (num_over.f (wrap64 (-a0)) (a0 == (-9223372036854775808))).bind fun bt127 => (some (bt127.1, bt127.2))
set_option maxHeartbeats 8000000 in
set_option maxRecDepth 100000 in
theorem num_Neg.calls (a0 : Int) (r1 : Int) (r2 : Int) (w : World) (h : num_Neg.f a0 = some (r1, r2)) :
    Calls Try.prog 42 #[.int .i64 a0] w fun e w' => e = .returned (.tuple #[.int .i64 r1, .int .i64 r2]) ∧ Drawn0 w w' := by
  have H : ((num_over.f (wrap64 (-a0)) (a0 == (-9223372036854775808))).bind fun bt127 => (some (bt127.1, bt127.2))) = some (r1, r2) := h
  clear h
  replace H := Option.bind_eq_some_iff.mp H
  obtain ⟨⟨t127, t128⟩, A20, H⟩ := H
  replace H : (some (t127, t128)) = some (r1, r2) := H
  have A2 := Aside0.mk A20
  clear A20
  simp only [Option.some.injEq, Prod.mk.injEq] at H
  obtain ⟨rfl, rfl⟩ := H
  go_enter Try.func42, Try.ntmps42
  go_wp2_with (first | ((with_reducible refine gate_callee (f := 52) rfl ?_); refine goesL_ (some 8) rfl rfl Try.func52 (by kernel_rfl) rfl #[.int .i64 (wrap64 (-a0)), .bool (a0 == (-9223372036854775808))] rfl (by (try simp only [List.map_toArray, List.map_cons, List.map_nil]); first | done | rfl | (simp only [List.length_drop, List.length_take]; rfl)) ?_; (with_reducible refine (num_over.calls (wrap64 (-a0)) (a0 == (-9223372036854775808)) t127 t128 _ A2.out).mono ?_); rintro e w' ⟨rfl, ⟨nd, rfl⟩⟩; refine ⟨_, rfl, ?_⟩))
  go_ret2
  exact ⟨by first | rfl | (simp; done) | (simp [*]; done), by repeat (first | exact Drawn0.refl _ | apply Drawn0.step)⟩

/-! ### num_Quo: function 39 -/
def num_Quo.f (a0 : Int) (a1 : Int) : Option (Int × Int) := if a1 = 0 then (some (0, 11)) else (if a1 = (-1) then ((num_Neg.f a0).bind fun bt129 => (some (bt129.1, bt129.2))) else (some (wrap64 (Int.tdiv a0 a1), 0)))
set_option maxHeartbeats 8000000 in
set_option maxRecDepth 100000 in
theorem num_Quo.calls (a0 : Int) (a1 : Int) (r1 : Int) (r2 : Int) (w : World) (h : num_Quo.f a0 a1 = some (r1, r2)) :
    Calls Try.prog 39 #[.int .i64 a0, .int .i64 a1] w fun e w' => e = .returned (.tuple #[.int .i64 r1, .int .i64 r2]) ∧ Drawn0 w w' := by
  have H : (if a1 = 0 then (some (0, 11)) else (if a1 = (-1) then ((num_Neg.f a0).bind fun bt129 => (some (bt129.1, bt129.2))) else (some (wrap64 (Int.tdiv a0 a1), 0)))) = some (r1, r2) := h
  clear h
  by_cases c3 : a1 = 0
  · rw [if_pos c3] at H
    have c3b0 : (a1 == 0) = true := beq_iff_eq.mpr c3
    have c3b1 : (a1 != 0) = false := bne_eq_false_iff_eq.mpr c3
    clear c3
    simp only [Option.some.injEq, Prod.mk.injEq] at H
    obtain ⟨rfl, rfl⟩ := H
    go_enter Try.func39, Try.ntmps39
    go_wp2
    go_ret2
    exact ⟨by first | rfl | (simp; done) | (simp [*]; done), by repeat (first | exact Drawn0.refl _ | apply Drawn0.step)⟩
  · rw [if_neg c3] at H
    have c3b0 : (a1 == 0) = false := beq_eq_false_iff_ne.mpr c3
    have c3b1 : (a1 != 0) = true := bne_iff_ne.mpr c3
    by_cases c4 : a1 = (-1)
    · rw [if_pos c4] at H
      have c4b0 : (a1 == (-1)) = true := beq_iff_eq.mpr c4
      have c4b1 : (a1 != (-1)) = false := bne_eq_false_iff_eq.mpr c4
      clear c4
      replace H := Option.bind_eq_some_iff.mp H
      obtain ⟨⟨t129, t130⟩, A50, H⟩ := H
      replace H : (some (t129, t130)) = some (r1, r2) := H
      have A5 := Aside0.mk A50
      clear A50
      simp only [Option.some.injEq, Prod.mk.injEq] at H
      obtain ⟨rfl, rfl⟩ := H
      go_enter Try.func39, Try.ntmps39
      go_wp2_with (first | ((with_reducible refine gate_callee (f := 42) rfl ?_); refine goesL_ (some 11) rfl rfl Try.func42 (by kernel_rfl) rfl #[.int .i64 a0] rfl (by (try simp only [List.map_toArray, List.map_cons, List.map_nil]); first | done | rfl | (simp only [List.length_drop, List.length_take]; rfl)) ?_; (with_reducible refine (num_Neg.calls a0 t129 t130 _ A5.out).mono ?_); rintro e w' ⟨rfl, ⟨nd, rfl⟩⟩; refine ⟨_, rfl, ?_⟩))
      go_ret2
      exact ⟨by first | rfl | (simp; done) | (simp [*]; done), by repeat (first | exact Drawn0.refl _ | apply Drawn0.step)⟩
    · rw [if_neg c4] at H
      have c4b0 : (a1 == (-1)) = false := beq_eq_false_iff_ne.mpr c4
      have c4b1 : (a1 != (-1)) = true := bne_iff_ne.mpr c4
      simp only [Option.some.injEq, Prod.mk.injEq] at H
      obtain ⟨rfl, rfl⟩ := H
      go_enter Try.func39, Try.ntmps39
      go_wp2
      go_ret2
      exact ⟨by first | rfl | (simp; done) | (simp [*]; done), by repeat (first | exact Drawn0.refl _ | apply Drawn0.step)⟩

/-! ### num_Rem: function 40 -/
def num_Rem.f (a0 : Int) (a1 : Int) : Option (Int × Int) := if a1 = 0 then (some (0, 11)) else (if a1 = (-1) then (some (0, 0)) else (some (Int.tmod a0 a1, 0)))
set_option maxHeartbeats 8000000 in
set_option maxRecDepth 100000 in
theorem num_Rem.calls (a0 : Int) (a1 : Int) (r1 : Int) (r2 : Int) (w : World) (h : num_Rem.f a0 a1 = some (r1, r2)) :
    Calls Try.prog 40 #[.int .i64 a0, .int .i64 a1] w fun e w' => e = .returned (.tuple #[.int .i64 r1, .int .i64 r2]) ∧ Drawn0 w w' := by
  have H : (if a1 = 0 then (some (0, 11)) else (if a1 = (-1) then (some (0, 0)) else (some (Int.tmod a0 a1, 0)))) = some (r1, r2) := h
  clear h
  by_cases c3 : a1 = 0
  · rw [if_pos c3] at H
    have c3b0 : (a1 == 0) = true := beq_iff_eq.mpr c3
    have c3b1 : (a1 != 0) = false := bne_eq_false_iff_eq.mpr c3
    clear c3
    simp only [Option.some.injEq, Prod.mk.injEq] at H
    obtain ⟨rfl, rfl⟩ := H
    go_enter Try.func40, Try.ntmps40
    go_wp2
    go_ret2
    exact ⟨by first | rfl | (simp; done) | (simp [*]; done), by repeat (first | exact Drawn0.refl _ | apply Drawn0.step)⟩
  · rw [if_neg c3] at H
    have c3b0 : (a1 == 0) = false := beq_eq_false_iff_ne.mpr c3
    have c3b1 : (a1 != 0) = true := bne_iff_ne.mpr c3
    by_cases c4 : a1 = (-1)
    · rw [if_pos c4] at H
      have c4b0 : (a1 == (-1)) = true := beq_iff_eq.mpr c4
      have c4b1 : (a1 != (-1)) = false := bne_eq_false_iff_eq.mpr c4
      clear c4
      simp only [Option.some.injEq, Prod.mk.injEq] at H
      obtain ⟨rfl, rfl⟩ := H
      go_enter Try.func40, Try.ntmps40
      go_wp2
      go_ret2
      exact ⟨by first | rfl | (simp; done) | (simp [*]; done), by repeat (first | exact Drawn0.refl _ | apply Drawn0.step)⟩
    · rw [if_neg c4] at H
      have c4b0 : (a1 == (-1)) = false := beq_eq_false_iff_ne.mpr c4
      have c4b1 : (a1 != (-1)) = true := bne_iff_ne.mpr c4
      simp only [Option.some.injEq, Prod.mk.injEq] at H
      obtain ⟨rfl, rfl⟩ := H
      go_enter Try.func40, Try.ntmps40
      go_wp2
      go_ret2
      exact ⟨by first | rfl | (simp; done) | (simp [*]; done), by repeat (first | exact Drawn0.refl _ | apply Drawn0.step)⟩

/-! ### num_Mod: function 41 -/
def num_Mod.f (a0 : Int) (a1 : Int) : Option (Int × Int) := (num_Rem.f a0 a1).bind fun bt131 => (if (Go.bits .xor .i64 bt131.1 a1) < 0 then (if bt131.1 = 0 then (some (bt131.1, bt131.2)) else (some (wrap64 (bt131.1 + a1), bt131.2))) else (some (bt131.1, bt131.2)))
set_option maxHeartbeats 8000000 in
set_option maxRecDepth 100000 in
theorem num_Mod.calls (a0 : Int) (a1 : Int) (r1 : Int) (r2 : Int) (w : World) (h : num_Mod.f a0 a1 = some (r1, r2)) :
    Calls Try.prog 41 #[.int .i64 a0, .int .i64 a1] w fun e w' => e = .returned (.tuple #[.int .i64 r1, .int .i64 r2]) ∧ Drawn0 w w' := by
  have H : ((num_Rem.f a0 a1).bind fun bt131 => (if (Go.bits .xor .i64 bt131.1 a1) < 0 then (if bt131.1 = 0 then (some (bt131.1, bt131.2)) else (some (wrap64 (bt131.1 + a1), bt131.2))) else (some (bt131.1, bt131.2)))) = some (r1, r2) := h
  clear h
  replace H := Option.bind_eq_some_iff.mp H
  obtain ⟨⟨t131, t132⟩, A30, H⟩ := H
  replace H : (if (Go.bits .xor .i64 t131 a1) < 0 then (if t131 = 0 then (some (t131, t132)) else (some (wrap64 (t131 + a1), t132))) else (some (t131, t132))) = some (r1, r2) := H
  have A3 := Aside0.mk A30
  clear A30
  by_cases c4 : (Go.bits .xor .i64 t131 a1) < 0
  · rw [if_pos c4] at H
    have c4b0 : decide ((Go.bits .xor .i64 t131 a1) < 0) = true := decide_eq_true c4
    clear c4
    by_cases c5 : t131 = 0
    · rw [if_pos c5] at H
      have c5b0 : (t131 == 0) = true := beq_iff_eq.mpr c5
      have c5b1 : (t131 != 0) = false := bne_eq_false_iff_eq.mpr c5
      clear c5
      simp only [Option.some.injEq, Prod.mk.injEq] at H
      obtain ⟨rfl, rfl⟩ := H
      go_enter Try.func41, Try.ntmps41
      go_wp2_with (first | ((with_reducible refine gate_callee (f := 40) rfl ?_); refine goesL_ (some 11) rfl rfl Try.func40 (by kernel_rfl) rfl #[.int .i64 a0, .int .i64 a1] rfl (by (try simp only [List.map_toArray, List.map_cons, List.map_nil]); first | done | rfl | (simp only [List.length_drop, List.length_take]; rfl)) ?_; (with_reducible refine (num_Rem.calls a0 a1 t131 t132 _ A3.out).mono ?_); rintro e w' ⟨rfl, ⟨nd, rfl⟩⟩; refine ⟨_, rfl, ?_⟩))
      go_ret2
      exact ⟨by first | rfl | (simp; done) | (simp [*]; done), by repeat (first | exact Drawn0.refl _ | apply Drawn0.step)⟩
    · rw [if_neg c5] at H
      have c5b0 : (t131 == 0) = false := beq_eq_false_iff_ne.mpr c5
      have c5b1 : (t131 != 0) = true := bne_iff_ne.mpr c5
      simp only [Option.some.injEq, Prod.mk.injEq] at H
      obtain ⟨rfl, rfl⟩ := H
      go_enter Try.func41, Try.ntmps41
      go_wp2_with (first | ((with_reducible refine gate_callee (f := 40) rfl ?_); refine goesL_ (some 11) rfl rfl Try.func40 (by kernel_rfl) rfl #[.int .i64 a0, .int .i64 a1] rfl (by (try simp only [List.map_toArray, List.map_cons, List.map_nil]); first | done | rfl | (simp only [List.length_drop, List.length_take]; rfl)) ?_; (with_reducible refine (num_Rem.calls a0 a1 t131 t132 _ A3.out).mono ?_); rintro e w' ⟨rfl, ⟨nd, rfl⟩⟩; refine ⟨_, rfl, ?_⟩))
      go_ret2
      exact ⟨by first | rfl | (simp; done) | (simp [*]; done), by repeat (first | exact Drawn0.refl _ | apply Drawn0.step)⟩
  · rw [if_neg c4] at H
    have c4b0 : decide ((Go.bits .xor .i64 t131 a1) < 0) = false := decide_eq_false c4
    clear c4
    simp only [Option.some.injEq, Prod.mk.injEq] at H
    obtain ⟨rfl, rfl⟩ := H
    go_enter Try.func41, Try.ntmps41
    go_wp2_with (first | ((with_reducible refine gate_callee (f := 40) rfl ?_); refine goesL_ (some 11) rfl rfl Try.func40 (by kernel_rfl) rfl #[.int .i64 a0, .int .i64 a1] rfl (by (try simp only [List.map_toArray, List.map_cons, List.map_nil]); first | done | rfl | (simp only [List.length_drop, List.length_take]; rfl)) ?_; (with_reducible refine (num_Rem.calls a0 a1 t131 t132 _ A3.out).mono ?_); rintro e w' ⟨rfl, ⟨nd, rfl⟩⟩; refine ⟨_, rfl, ?_⟩))
    go_ret2
    exact ⟨by first | rfl | (simp; done) | (simp [*]; done), by repeat (first | exact Drawn0.refl _ | apply Drawn0.step)⟩

-- NOT PRINTED: function 28 (arith_binary)

/-! ### num_Abs: function 43 -/
def num_Abs.f (a0 : Int) : Option (Int × Int) := if a0 < 0 then ((num_Neg.f a0).bind fun bt133 => (some (bt133.1, bt133.2))) else (some (a0, 0))
set_option maxHeartbeats 8000000 in
set_option maxRecDepth 100000 in
theorem num_Abs.calls (a0 : Int) (r1 : Int) (r2 : Int) (w : World) (h : num_Abs.f a0 = some (r1, r2)) :
    Calls Try.prog 43 #[.int .i64 a0] w fun e w' => e = .returned (.tuple #[.int .i64 r1, .int .i64 r2]) ∧ Drawn0 w w' := by
  have H : (if a0 < 0 then ((num_Neg.f a0).bind fun bt133 => (some (bt133.1, bt133.2))) else (some (a0, 0))) = some (r1, r2) := h
  clear h
  by_cases c2 : a0 < 0
  · rw [if_pos c2] at H
    have c2b0 : decide (a0 < 0) = true := decide_eq_true c2
    clear c2
    replace H := Option.bind_eq_some_iff.mp H
    obtain ⟨⟨t133, t134⟩, A30, H⟩ := H
    replace H : (some (t133, t134)) = some (r1, r2) := H
    have A3 := Aside0.mk A30
    clear A30
    simp only [Option.some.injEq, Prod.mk.injEq] at H
    obtain ⟨rfl, rfl⟩ := H
    go_enter Try.func43, Try.ntmps43
    go_wp2_with (first | ((with_reducible refine gate_callee (f := 42) rfl ?_); refine goesL_ (some 7) rfl rfl Try.func42 (by kernel_rfl) rfl #[.int .i64 a0] rfl (by (try simp only [List.map_toArray, List.map_cons, List.map_nil]); first | done | rfl | (simp only [List.length_drop, List.length_take]; rfl)) ?_; (with_reducible refine (num_Neg.calls a0 t133 t134 _ A3.out).mono ?_); rintro e w' ⟨rfl, ⟨nd, rfl⟩⟩; refine ⟨_, rfl, ?_⟩))
    go_ret2
    exact ⟨by first | rfl | (simp; done) | (simp [*]; done), by repeat (first | exact Drawn0.refl _ | apply Drawn0.step)⟩
  · rw [if_neg c2] at H
    have c2b0 : decide (a0 < 0) = false := decide_eq_false c2
    clear c2
    simp only [Option.some.injEq, Prod.mk.injEq] at H
    obtain ⟨rfl, rfl⟩ := H
    go_enter Try.func43, Try.ntmps43
    go_wp2
    go_ret2
    exact ⟨by first | rfl | (simp; done) | (simp [*]; done), by repeat (first | exact Drawn0.refl _ | apply Drawn0.step)⟩

-- NOT PRINTED: function 29 (arith_unary)

-- NOT PRINTED: function 30 (arith_reckoner_args)

-- NOT PRINTED: function 24 (arith_reckoner_value)

end Go.Proofs.Ytmiapolhklapnaa.P
