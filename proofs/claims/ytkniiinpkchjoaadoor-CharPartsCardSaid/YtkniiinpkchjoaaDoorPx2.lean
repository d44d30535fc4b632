-- PRINTED by a program of this session over the kit's print.py.
import Derived.Test.YtkniiinpkchjoaaDoorPx0
import Derived.Test.YtkniiinpkchjoaaDoorPx1
namespace Go.Proofs.YtkniiinpkchjoaaDoor.P
open Go.Own Go.RowKit Go.Proofs.YtkniiinpkchjoaaDoorW.PrintWords Go.Proofs.YtkniiinpkchjoaaDoorW.PrintLast Go.Proofs.YtkniiinpkchjoaaDoorW.PrintMore
attribute [local go_sem] max2_int min2_int max_two min_two max_three min_three max_four min_four   -- for this text's walks alone
set_option linter.unusedVariables false
set_option linter.unusedSimpArgs false

/-! ### utf8_word_string: function 35 -/
def utf8_word_string.f (a0 : ByteArray) : Option (Int) := if 0 < (a0.size : Int) then (if 1 < (a0.size : Int) then (if 2 < (a0.size : Int) then (if 3 < (a0.size : Int) then (if 4 < (a0.size : Int) then (if 5 < (a0.size : Int) then (if 6 < (a0.size : Int) then (if 7 < (a0.size : Int) then (some (Go.bits .or .u64 (Go.bits .or .u64 (Go.bits .or .u64 (Go.bits .or .u64 (Go.bits .or .u64 (Go.bits .or .u64 (Go.bits .or .u64 (IntKind.u64.wrap (bt a0 0)) (IntKind.u64.wrap ((IntKind.u64.wrap (bt a0 1)) * 256))) (IntKind.u64.wrap ((IntKind.u64.wrap (bt a0 2)) * 65536))) (IntKind.u64.wrap ((IntKind.u64.wrap (bt a0 3)) * 16777216))) (IntKind.u64.wrap ((IntKind.u64.wrap (bt a0 4)) * 4294967296))) (IntKind.u64.wrap ((IntKind.u64.wrap (bt a0 5)) * 1099511627776))) (IntKind.u64.wrap ((IntKind.u64.wrap (bt a0 6)) * 281474976710656))) (IntKind.u64.wrap ((IntKind.u64.wrap (bt a0 7)) * 72057594037927936)))) else (none)) else (none)) else (none)) else (none)) else (none)) else (none)) else (none)) else (none)
set_option maxHeartbeats 8000000 in
set_option maxRecDepth 100000 in
theorem utf8_word_string.calls (a0 : ByteArray) (r : Int) (w : World) (h : utf8_word_string.f a0 = some r) :
    Calls Tryd.prog 35 #[.string a0] w fun e w' => e = .returned (.int .u64 r) ∧ Drawn0 w w' := by
  have H : (if 0 < (a0.size : Int) then (if 1 < (a0.size : Int) then (if 2 < (a0.size : Int) then (if 3 < (a0.size : Int) then (if 4 < (a0.size : Int) then (if 5 < (a0.size : Int) then (if 6 < (a0.size : Int) then (if 7 < (a0.size : Int) then (some (Go.bits .or .u64 (Go.bits .or .u64 (Go.bits .or .u64 (Go.bits .or .u64 (Go.bits .or .u64 (Go.bits .or .u64 (Go.bits .or .u64 (IntKind.u64.wrap (bt a0 0)) (IntKind.u64.wrap ((IntKind.u64.wrap (bt a0 1)) * 256))) (IntKind.u64.wrap ((IntKind.u64.wrap (bt a0 2)) * 65536))) (IntKind.u64.wrap ((IntKind.u64.wrap (bt a0 3)) * 16777216))) (IntKind.u64.wrap ((IntKind.u64.wrap (bt a0 4)) * 4294967296))) (IntKind.u64.wrap ((IntKind.u64.wrap (bt a0 5)) * 1099511627776))) (IntKind.u64.wrap ((IntKind.u64.wrap (bt a0 6)) * 281474976710656))) (IntKind.u64.wrap ((IntKind.u64.wrap (bt a0 7)) * 72057594037927936)))) else (none)) else (none)) else (none)) else (none)) else (none)) else (none)) else (none)) else (none)) = some r := h
  clear h
  by_cases c2 : 0 < (a0.size : Int)
  · rw [if_pos c2] at H
    have c2b0 : decide (0 < (a0.size : Int)) = true := decide_eq_true c2
    have c2b1 : decide (0 < a0.size) = true := decide_eq_true (by omega)
    clear c2
    by_cases c4 : 1 < (a0.size : Int)
    · rw [if_pos c4] at H
      have c4b0 : decide (1 < (a0.size : Int)) = true := decide_eq_true c4
      have c4b1 : decide (1 < a0.size) = true := decide_eq_true (by omega)
      clear c4
      by_cases c6 : 2 < (a0.size : Int)
      · rw [if_pos c6] at H
        have c6b0 : decide (2 < (a0.size : Int)) = true := decide_eq_true c6
        have c6b1 : decide (2 < a0.size) = true := decide_eq_true (by omega)
        clear c6
        by_cases c8 : 3 < (a0.size : Int)
        · rw [if_pos c8] at H
          have c8b0 : decide (3 < (a0.size : Int)) = true := decide_eq_true c8
          have c8b1 : decide (3 < a0.size) = true := decide_eq_true (by omega)
          clear c8
          by_cases c10 : 4 < (a0.size : Int)
          · rw [if_pos c10] at H
            have c10b0 : decide (4 < (a0.size : Int)) = true := decide_eq_true c10
            have c10b1 : decide (4 < a0.size) = true := decide_eq_true (by omega)
            clear c10
            by_cases c12 : 5 < (a0.size : Int)
            · rw [if_pos c12] at H
              have c12b0 : decide (5 < (a0.size : Int)) = true := decide_eq_true c12
              have c12b1 : decide (5 < a0.size) = true := decide_eq_true (by omega)
              clear c12
              by_cases c14 : 6 < (a0.size : Int)
              · rw [if_pos c14] at H
                have c14b0 : decide (6 < (a0.size : Int)) = true := decide_eq_true c14
                have c14b1 : decide (6 < a0.size) = true := decide_eq_true (by omega)
                clear c14
                by_cases c16 : 7 < (a0.size : Int)
                · rw [if_pos c16] at H
                  have c16b0 : decide (7 < (a0.size : Int)) = true := decide_eq_true c16
                  have c16b1 : decide (7 < a0.size) = true := decide_eq_true (by omega)
                  clear c16
                  obtain rfl := Option.some.inj H
                  have p3 : 0 ≤ (0 : Int) := (by omega)
                  have q3 : 0 < a0.size := (by have : (0 : Int) < (a0.size : Int) := of_decide_eq_true (by first | (with_reducible assumption) | assumption); omega)
                  have hx3 : ∀ h : 0 < a0.size, ((a0[0]'h).toNat : Int) = bt a0 0 := bt_at a0 0
                  clear p3
                  have qi3 : (0 < (a0.size : Int)) = True := eq_true (of_decide_eq_true (by first | (with_reducible assumption) | assumption))
                  replace q3 := eq_true q3
                  have p5 : 0 ≤ (1 : Int) := (by omega)
                  have q5 : 1 < a0.size := (by have : (1 : Int) < (a0.size : Int) := of_decide_eq_true (by first | (with_reducible assumption) | assumption); omega)
                  have hx5 : ∀ h : 1 < a0.size, ((a0[1]'h).toNat : Int) = bt a0 1 := bt_at a0 1
                  clear p5
                  have qi5 : (1 < (a0.size : Int)) = True := eq_true (of_decide_eq_true (by first | (with_reducible assumption) | assumption))
                  replace q5 := eq_true q5
                  have p7 : 0 ≤ (2 : Int) := (by omega)
                  have q7 : 2 < a0.size := (by have : (2 : Int) < (a0.size : Int) := of_decide_eq_true (by first | (with_reducible assumption) | assumption); omega)
                  have hx7 : ∀ h : 2 < a0.size, ((a0[2]'h).toNat : Int) = bt a0 2 := bt_at a0 2
                  clear p7
                  have qi7 : (2 < (a0.size : Int)) = True := eq_true (of_decide_eq_true (by first | (with_reducible assumption) | assumption))
                  replace q7 := eq_true q7
                  have p9 : 0 ≤ (3 : Int) := (by omega)
                  have q9 : 3 < a0.size := (by have : (3 : Int) < (a0.size : Int) := of_decide_eq_true (by first | (with_reducible assumption) | assumption); omega)
                  have hx9 : ∀ h : 3 < a0.size, ((a0[3]'h).toNat : Int) = bt a0 3 := bt_at a0 3
                  clear p9
                  have qi9 : (3 < (a0.size : Int)) = True := eq_true (of_decide_eq_true (by first | (with_reducible assumption) | assumption))
                  replace q9 := eq_true q9
                  have p11 : 0 ≤ (4 : Int) := (by omega)
                  have q11 : 4 < a0.size := (by have : (4 : Int) < (a0.size : Int) := of_decide_eq_true (by first | (with_reducible assumption) | assumption); omega)
                  have hx11 : ∀ h : 4 < a0.size, ((a0[4]'h).toNat : Int) = bt a0 4 := bt_at a0 4
                  clear p11
                  have qi11 : (4 < (a0.size : Int)) = True := eq_true (of_decide_eq_true (by first | (with_reducible assumption) | assumption))
                  replace q11 := eq_true q11
                  have p13 : 0 ≤ (5 : Int) := (by omega)
                  have q13 : 5 < a0.size := (by have : (5 : Int) < (a0.size : Int) := of_decide_eq_true (by first | (with_reducible assumption) | assumption); omega)
                  have hx13 : ∀ h : 5 < a0.size, ((a0[5]'h).toNat : Int) = bt a0 5 := bt_at a0 5
                  clear p13
                  have qi13 : (5 < (a0.size : Int)) = True := eq_true (of_decide_eq_true (by first | (with_reducible assumption) | assumption))
                  replace q13 := eq_true q13
                  have p15 : 0 ≤ (6 : Int) := (by omega)
                  have q15 : 6 < a0.size := (by have : (6 : Int) < (a0.size : Int) := of_decide_eq_true (by first | (with_reducible assumption) | assumption); omega)
                  have hx15 : ∀ h : 6 < a0.size, ((a0[6]'h).toNat : Int) = bt a0 6 := bt_at a0 6
                  clear p15
                  have qi15 : (6 < (a0.size : Int)) = True := eq_true (of_decide_eq_true (by first | (with_reducible assumption) | assumption))
                  replace q15 := eq_true q15
                  have p17 : 0 ≤ (7 : Int) := (by omega)
                  have q17 : 7 < a0.size := (by have : (7 : Int) < (a0.size : Int) := of_decide_eq_true (by first | (with_reducible assumption) | assumption); omega)
                  have hx17 : ∀ h : 7 < a0.size, ((a0[7]'h).toNat : Int) = bt a0 7 := bt_at a0 7
                  clear p17
                  have qi17 : (7 < (a0.size : Int)) = True := eq_true (of_decide_eq_true (by first | (with_reducible assumption) | assumption))
                  replace q17 := eq_true q17
                  go_enter Tryd.func35, Tryd.ntmps35
                  go_wp2
                  repeat (go_quiet (fail); try go_wp2)
                  go_ret
                  exact ⟨by first | rfl | (simp; done) | (simp [*]; done), by repeat (first | exact Drawn0.refl _ | apply Drawn0.step)⟩
                · rw [if_neg c16] at H
                  exact absurd H (by simp)
              · rw [if_neg c14] at H
                exact absurd H (by simp)
            · rw [if_neg c12] at H
              exact absurd H (by simp)
          · rw [if_neg c10] at H
            exact absurd H (by simp)
        · rw [if_neg c8] at H
          exact absurd H (by simp)
      · rw [if_neg c6] at H
        exact absurd H (by simp)
    · rw [if_neg c4] at H
      exact absurd H (by simp)
  · rw [if_neg c2] at H
    exact absurd H (by simp)

/-! ### utf8_ValidString: function 23 (given) -/
def utf8_ValidString.f (a0 : ByteArray) : Option Bool := if a0.size ≤ 9223372036854775807 then some (Lib.validD a0.data.toList) else none
theorem utf8_ValidString.calls (a0 : ByteArray) (r : Bool) (w : World) (h : utf8_ValidString.f a0 = some r) (hT : Tabs w) :
    Calls Tryd.prog 23 #[.string a0] w fun e w' => e = .returned (.bool r) ∧ Below w.heap.size w w' := by
  unfold utf8_ValidString.f at h
  split at h
  case isTrue hs => injection h with h; subst h; exact Tryd.utf8_ValidString a0 w hs hT.1
  case isFalse => exact absurd h (by simp)

/-! ### char_Check: function 14 -/
def char_Check.f (a0 : ByteArray) : Option (Bool) := if (a0.size : Int) ≤ 255 then ((utf8_ValidString.f a0).bind fun t101 => (some t101)) else (some false)
set_option maxHeartbeats 8000000 in
set_option maxRecDepth 100000 in
theorem char_Check.calls (a0 : ByteArray) (r : Bool) (w : World) (h : char_Check.f a0 = some r) (hT : Tabs w) :
    Calls Tryd.prog 14 #[.string a0] w fun e w' => e = .returned (.bool r) ∧ Below w.heap.size w w' := by
  have HT := Aside0.mk hT
  clear hT
  have HB := Aside0.mk (Below.refl w.heap.size w)
  have H : (if (a0.size : Int) ≤ 255 then ((utf8_ValidString.f a0).bind fun t101 => (some t101)) else (some false)) = some r := h
  clear h
  by_cases c2 : (a0.size : Int) ≤ 255
  · rw [if_pos c2] at H
    have c2b0 : decide ((a0.size : Int) ≤ 255) = true := decide_eq_true c2
    have c2b1 : decide (a0.size ≤ 255) = true := decide_eq_true (by omega)
    clear c2
    replace H := Option.bind_eq_some_iff.mp H
    obtain ⟨t101, A30, H⟩ := H
    replace H : (some t101) = some r := H
    have A3 := Aside0.mk A30
    clear A30
    obtain rfl := Option.some.inj H
    go_enter Tryd.func14, Tryd.ntmps14
    go_wp2_with (first | (go_at_call 23; (with_reducible refine (utf8_ValidString.calls a0 t101 _ A3.out (HT.out.below (by first | exact Below.refl _ _ | (repeat (first | (with_reducible first | exact HB.out | apply below_alloc | apply pw_below_drewN | apply below_drew1) | exact HB.out))))).mono ?_); rintro e w4 ⟨rfl, hb⟩; have n0_ := Aside0.mk (below_step (by repeat (first | (with_reducible first | exact HB.out | apply below_alloc | apply pw_below_drewN | apply below_drew1) | exact HB.out)) hb); clear HB; have HB := n0_; clear n0_; (try clear hb); (try clear hb2); (try clear hk); (try clear hi)))
    go_ret
    exact ⟨by first | rfl | (simp [errW_none, errW_some] <;> rfl) | (simp [*, errW_none, errW_some] <;> rfl), by repeat (first | (with_reducible first | exact HB.out | apply below_alloc | apply pw_below_drewN | apply below_drew1) | exact HB.out)⟩
  · rw [if_neg c2] at H
    have c2b0 : decide ((a0.size : Int) ≤ 255) = false := decide_eq_false c2
    have c2b1 : decide (a0.size ≤ 255) = false := decide_eq_false (by omega)
    clear c2
    obtain rfl := Option.some.inj H
    go_enter Tryd.func14, Tryd.ntmps14
    go_wp2
    go_ret
    exact ⟨by first | rfl | (simp [errW_none, errW_some] <;> rfl) | (simp [*, errW_none, errW_some] <;> rfl), by repeat (first | (with_reducible first | exact HB.out | apply below_alloc | apply pw_below_drewN | apply below_drew1) | exact HB.out)⟩

/-! ### stringslite_HasPrefix: function 36 -/
def stringslite_HasPrefix.f (a0 : ByteArray) (a1 : ByteArray) : Option (Bool) := if (a0.size : Int) ≥ (a1.size : Int) then (if 0 ≤ (a1.size : Int) then (if (a1.size : Int) ≤ (a0.size : Int) then (some ((a0.extract 0 ((a1.size : Int) : Int).toNat).toList == a1.toList)) else (none)) else (none)) else (some false)
set_option maxHeartbeats 8000000 in
set_option maxRecDepth 100000 in
theorem stringslite_HasPrefix.calls (a0 : ByteArray) (a1 : ByteArray) (r : Bool) (w : World) (h : stringslite_HasPrefix.f a0 a1 = some r) :
    Calls Tryd.prog 36 #[.string a0, .string a1] w fun e w' => e = .returned (.bool r) ∧ Drawn0 w w' := by
  have H : (if (a0.size : Int) ≥ (a1.size : Int) then (if 0 ≤ (a1.size : Int) then (if (a1.size : Int) ≤ (a0.size : Int) then (some ((a0.extract 0 ((a1.size : Int) : Int).toNat).toList == a1.toList)) else (none)) else (none)) else (some false)) = some r := h
  clear h
  by_cases c3 : (a0.size : Int) ≥ (a1.size : Int)
  · rw [if_pos c3] at H
    have c3b0 : decide ((a1.size : Int) ≤ (a0.size : Int)) = true := decide_eq_true c3
    have c3b1 : decide (a1.size ≤ a0.size) = true := decide_eq_true (Int.ofNat_le.mp c3)
    clear c3
    by_cases c4 : 0 ≤ (a1.size : Int)
    · rw [if_pos c4] at H
      have c4b0 := eq_true c4
      have c4b1 : decide (0 ≤ (a1.size : Int)) = true := decide_eq_true c4
      clear c4
      by_cases c5 : (a1.size : Int) ≤ (a0.size : Int)
      · rw [if_pos c5] at H
        have c5b0 := eq_true c5
        have c5b1 : decide ((a1.size : Int) ≤ (a0.size : Int)) = true := decide_eq_true c5
        clear c5
        obtain rfl := Option.some.inj H
        go_enter Tryd.func36, Tryd.ntmps36
        go_wp2
        go_ret
        exact ⟨by first | rfl | (simp; done) | (simp [*]; done), by repeat (first | exact Drawn0.refl _ | apply Drawn0.step)⟩
      · rw [if_neg c5] at H
        exact absurd H (by simp)
    · rw [if_neg c4] at H
      exact absurd H (by simp)
  · rw [if_neg c3] at H
    have c3b0 : decide ((a1.size : Int) ≤ (a0.size : Int)) = false := decide_eq_false c3
    have c3b1 : decide (a1.size ≤ a0.size) = false := decide_eq_false (fun h => c3 (Int.ofNat_le.mpr h))
    clear c3
    obtain rfl := Option.some.inj H
    go_enter Tryd.func36, Tryd.ntmps36
    go_wp2
    go_ret
    exact ⟨by first | rfl | (simp; done) | (simp [*]; done), by repeat (first | exact Drawn0.refl _ | apply Drawn0.step)⟩

/-! ### strings_HasPrefix: function 24 -/
def strings_HasPrefix.f (a0 : ByteArray) (a1 : ByteArray) : Option (Bool) := (stringslite_HasPrefix.f a0 a1).bind fun t102 => (some t102)
set_option maxHeartbeats 8000000 in
set_option maxRecDepth 100000 in
theorem strings_HasPrefix.calls (a0 : ByteArray) (a1 : ByteArray) (r : Bool) (w : World) (h : strings_HasPrefix.f a0 a1 = some r) :
    Calls Tryd.prog 24 #[.string a0, .string a1] w fun e w' => e = .returned (.bool r) ∧ Drawn0 w w' := by
  have H : ((stringslite_HasPrefix.f a0 a1).bind fun t102 => (some t102)) = some r := h
  clear h
  replace H := Option.bind_eq_some_iff.mp H
  obtain ⟨t102, A30, H⟩ := H
  replace H : (some t102) = some r := H
  have A3 := Aside0.mk A30
  clear A30
  obtain rfl := Option.some.inj H
  go_enter Tryd.func24, Tryd.ntmps24
  go_wp2_with (first | ((with_reducible refine gate_callee (f := 36) rfl ?_); refine goesL_ (some 7) rfl rfl Tryd.func36 (by kernel_rfl) rfl #[.string a0, .string a1] rfl (by (try simp only [List.map_toArray, List.map_cons, List.map_nil]); first | done | rfl | (simp only [List.length_drop, List.length_take]; rfl)) ?_; (with_reducible refine (stringslite_HasPrefix.calls a0 a1 t102 _ A3.out).mono ?_); rintro e w' ⟨rfl, ⟨nd, rfl⟩⟩; refine ⟨_, rfl, ?_⟩))
  go_ret
  exact ⟨by first | rfl | (simp; done) | (simp [*]; done), by repeat (first | exact Drawn0.refl _ | apply Drawn0.step)⟩

/-! ### char_Bare: function 15 (given) -/
def classN.c5 (x : Int) : Int := if 65 ≤ x ∧ x ≤ 90 then 2 else if 48 ≤ x ∧ x ≤ 57 then 3 else 0
def classN.c4 (x : Int) : Int := if 97 ≤ x ∧ x ≤ 122 then 1 else classN.c5 x
def classN.c3 (x : Int) : Int := if x = 39 then 8 else if x = 95 then 2 else classN.c4 x
def classN.c2 (x : Int) : Int := if x = 40 then 7 else if x = 41 then 7 else if x = 91 then 7 else if x = 93 then 7 else if x = 123 then 7 else if x = 125 then 7 else classN.c3 x
def classN.c1 (x : Int) : Int := if x = 33 then 6 else if x = 59 then 6 else if x = 44 then 6 else if x = 124 then 6 else classN.c2 x
def classN.c0 (x : Int) : Int := if x = 9 then 5 else if x = 10 then 5 else if x = 13 then 5 else if x = 32 then 5 else classN.c1 x
/-- a rune's class -/
def classN (x : Int) : Int := if x = 43 then 4 else if x = 45 then 4 else if x = 42 then 4 else if x = 47 then 4 else if x = 92 then 4 else if x = 94 then 4 else if x = 60 then 4 else if x = 62 then 4 else if x = 61 then 4 else if x = 126 then 4 else if x = 58 then 4 else if x = 46 then 4 else if x = 63 then 4 else if x = 64 then 4 else if x = 35 then 4 else if x = 38 then 4 else if x = 36 then 4 else classN.c0 x
theorem classN.e5 (k : Nat) (x : Int) (b : Bool) : char_Class.j4 (k + 2) x b = some (if b = true then 1 else classN.c5 x) := by
  cases b
  · simp only [char_Class.j4, char_Class.j5, classN.c5]
    by_cases h1 : 65 ≤ x <;> by_cases h2 : x ≤ 90 <;> by_cases h3 : 48 ≤ x <;> by_cases h4 : x ≤ 57 <;> simp [h1, h2, h3, h4]
  · simp [char_Class.j4]
theorem classN.e4 (k : Nat) (x y : Int) (b : Bool) : char_Class.j3 (k + 3) x y b = some (if b = true then 7 else if y = 39 then 8 else if y = 95 then 2 else classN.c4 x) := by
  cases b
  · simp only [char_Class.j3, classN.e5, classN.c4]
    by_cases h1 : 97 ≤ x <;> by_cases h2 : x ≤ 122 <;> by_cases h3 : y = 39 <;> by_cases h4 : y = 95 <;> simp [h1, h2, h3, h4]
  · simp [char_Class.j3]
theorem classN.e3 (k : Nat) (x : Int) (b : Bool) : char_Class.j2 (k + 4) x x b = some (if b = true then 6 else classN.c2 x) := by
  cases b
  · simp only [char_Class.j2, classN.e4, classN.c2, classN.c3]
    by_cases h1 : x = 40 <;> by_cases h2 : x = 41 <;> by_cases h3 : x = 91 <;> by_cases h4 : x = 93 <;> by_cases h5 : x = 123 <;> by_cases h6 : x = 125 <;> simp [h1, h2, h3, h4, h5, h6]
  · simp [char_Class.j2]
theorem classN.e2 (k : Nat) (x : Int) (b : Bool) : char_Class.j1 (k + 5) x x b = some (if b = true then 5 else classN.c1 x) := by
  cases b
  · simp only [char_Class.j1, classN.e3, classN.c1]
    by_cases h1 : x = 33 <;> by_cases h2 : x = 59 <;> by_cases h3 : x = 44 <;> by_cases h4 : x = 124 <;> simp [h1, h2, h3, h4]
  · simp [char_Class.j1]
theorem classN.e1 (k : Nat) (x : Int) (b : Bool) : char_Class.j0 (k + 6) x x b = some (if b = true then 4 else classN.c0 x) := by
  cases b
  · simp only [char_Class.j0, classN.e2, classN.c0]
    by_cases h1 : x = 9 <;> by_cases h2 : x = 10 <;> by_cases h3 : x = 13 <;> by_cases h4 : x = 32 <;> simp [h1, h2, h3, h4]
  · simp [char_Class.j0]
theorem class_all (k : Nat) (x : Int) : char_Class.f (k + 6) x = some (classN x) := by
  unfold char_Class.f classN
  simp only [classN.e1]
  by_cases h43 : x = 43
  · rw [if_pos h43, if_pos h43, if_pos (by simpa using h43)]
  rw [if_neg h43, if_neg h43]
  by_cases h45 : x = 45
  · rw [if_pos h45, if_pos h45, if_pos (by simpa using h45)]
  rw [if_neg h45, if_neg h45]
  by_cases h42 : x = 42
  · rw [if_pos h42, if_pos h42, if_pos (by simpa using h42)]
  rw [if_neg h42, if_neg h42]
  by_cases h47 : x = 47
  · rw [if_pos h47, if_pos h47, if_pos (by simpa using h47)]
  rw [if_neg h47, if_neg h47]
  by_cases h92 : x = 92
  · rw [if_pos h92, if_pos h92, if_pos (by simpa using h92)]
  rw [if_neg h92, if_neg h92]
  by_cases h94 : x = 94
  · rw [if_pos h94, if_pos h94, if_pos (by simpa using h94)]
  rw [if_neg h94, if_neg h94]
  by_cases h60 : x = 60
  · rw [if_pos h60, if_pos h60, if_pos (by simpa using h60)]
  rw [if_neg h60, if_neg h60]
  by_cases h62 : x = 62
  · rw [if_pos h62, if_pos h62, if_pos (by simpa using h62)]
  rw [if_neg h62, if_neg h62]
  by_cases h61 : x = 61
  · rw [if_pos h61, if_pos h61, if_pos (by simpa using h61)]
  rw [if_neg h61, if_neg h61]
  by_cases h126 : x = 126
  · rw [if_pos h126, if_pos h126, if_pos (by simpa using h126)]
  rw [if_neg h126, if_neg h126]
  by_cases h58 : x = 58
  · rw [if_pos h58, if_pos h58, if_pos (by simpa using h58)]
  rw [if_neg h58, if_neg h58]
  by_cases h46 : x = 46
  · rw [if_pos h46, if_pos h46, if_pos (by simpa using h46)]
  rw [if_neg h46, if_neg h46]
  by_cases h63 : x = 63
  · rw [if_pos h63, if_pos h63, if_pos (by simpa using h63)]
  rw [if_neg h63, if_neg h63]
  by_cases h64 : x = 64
  · rw [if_pos h64, if_pos h64, if_pos (by simpa using h64)]
  rw [if_neg h64, if_neg h64]
  by_cases h35 : x = 35
  · rw [if_pos h35, if_pos h35, if_pos (by simpa using h35)]
  rw [if_neg h35, if_neg h35]
  by_cases h38 : x = 38
  · rw [if_pos h38, if_pos h38, if_pos (by simpa using h38)]
  rw [if_neg h38, if_neg h38]
  by_cases h : x = 36
  · rw [if_pos (by simpa using h), if_pos h]
  · rw [if_neg (by simpa using h), if_neg h]
theorem class_some (c : Int) : char_Class.f 8 c = some (classN c) := class_all 2 c
/-- what char.Bare tells of the runes that are left -/
def char_Bare.go (n : Int) : Int → List (Nat × Nat) → Bool
  | _, [] => decide (n ≤ 255)
  | a, x :: l =>
    if (if x.1 = 0 then classN x.2 else a) = 1 then (if classN x.2 < 1 then false else if classN x.2 > 3 then false else char_Bare.go n (if x.1 = 0 then classN x.2 else a) l)
    else if (if x.1 = 0 then classN x.2 else a) = 4 then (if classN x.2 = 4 then char_Bare.go n (if x.1 = 0 then classN x.2 else a) l else false) else false
theorem pre_some (a b : ByteArray) : ∃ r, strings_HasPrefix.f a b = some r := by
  unfold strings_HasPrefix.f stringslite_HasPrefix.f
  by_cases h : (a.size : Int) ≥ (b.size : Int)
  · rw [if_pos h, if_pos (by omega), if_pos (by omega)]; exact ⟨_, rfl⟩
  · rw [if_neg h]; exact ⟨_, rfl⟩
def preB (a b : ByteArray) : Bool := (strings_HasPrefix.f a b).getD false
theorem preB_eq (a b : ByteArray) : strings_HasPrefix.f a b = some (preB a b) := by
  obtain ⟨r, h⟩ := pre_some a b
  unfold preB
  rw [h]; rfl
def char_Bare.val (a0 : ByteArray) : Bool :=
  if a0.toList = ([91, 93] : List UInt8) then true else if a0.toList = ([123, 125] : List UInt8) then true else if a0.toList = ([33] : List UInt8) then true else if a0.toList = ([59] : List UInt8) then true
  else if a0.toList = ([] : List UInt8) then false else if a0.toList = ([46] : List UInt8) then false else if preB a0 (⟨#[47, 42]⟩ : ByteArray) = true then false else char_Bare.go a0.size 0 (runesOf a0)
def char_Bare.f (a0 : ByteArray) : Option Bool := if a0.size ≤ 9223372036854775807 then some (char_Bare.val a0) else none
theorem drawn_heap {w w' : World} (h : Drawn0 w w') : w'.heap = w.heap := by
  obtain ⟨n, rfl⟩ := h
  induction n generalizing w with
  | zero => rfl
  | succ n ih => exact (ih (w := w.drew)).trans rfl
set_option maxRecDepth 100000 in
set_option maxHeartbeats 2000000 in
theorem char_Bare.walk (s : ByteArray) (w : World) (hs : s.size ≤ 9223372036854775807) :
    Calls Tryd.prog 15 #[.string s] w fun e w' => e = .returned (.bool (char_Bare.val s)) ∧ Below w.heap.size w w' := by
  unfold char_Bare.val
  by_cases c1 : s.toList = ([91, 93] : List UInt8)
  · rw [if_pos c1]
    have d1 : (s.toList == ([91, 93] : List UInt8)) = true := beq_iff_eq.mpr c1
    clear c1
    go_enter Tryd.func15, Tryd.ntmps15
    go_wp2
    go_ret
    exact ⟨rfl, Below.refl _ _⟩
  rw [if_neg c1]
  have d1 : (s.toList == ([91, 93] : List UInt8)) = false := beq_eq_false_iff_ne.mpr c1
  clear c1
  by_cases c2 : s.toList = ([123, 125] : List UInt8)
  · rw [if_pos c2]
    have d2 : (s.toList == ([123, 125] : List UInt8)) = true := beq_iff_eq.mpr c2
    clear c2
    go_enter Tryd.func15, Tryd.ntmps15
    go_wp2
    go_ret
    exact ⟨rfl, Below.refl _ _⟩
  rw [if_neg c2]
  have d2 : (s.toList == ([123, 125] : List UInt8)) = false := beq_eq_false_iff_ne.mpr c2
  clear c2
  by_cases c3 : s.toList = ([33] : List UInt8)
  · rw [if_pos c3]
    have d3 : (s.toList == ([33] : List UInt8)) = true := beq_iff_eq.mpr c3
    clear c3
    go_enter Tryd.func15, Tryd.ntmps15
    go_wp2
    go_ret
    exact ⟨rfl, Below.refl _ _⟩
  rw [if_neg c3]
  have d3 : (s.toList == ([33] : List UInt8)) = false := beq_eq_false_iff_ne.mpr c3
  clear c3
  by_cases c4 : s.toList = ([59] : List UInt8)
  · rw [if_pos c4]
    have d4 : (s.toList == ([59] : List UInt8)) = true := beq_iff_eq.mpr c4
    clear c4
    go_enter Tryd.func15, Tryd.ntmps15
    go_wp2
    go_ret
    exact ⟨rfl, Below.refl _ _⟩
  rw [if_neg c4]
  have d4 : (s.toList == ([59] : List UInt8)) = false := beq_eq_false_iff_ne.mpr c4
  clear c4
  by_cases c5 : s.toList = ([] : List UInt8)
  · rw [if_pos c5]
    have d5 : (s.toList == ([] : List UInt8)) = true := beq_iff_eq.mpr c5
    have d5b : s.toList.isEmpty = true := by rw [c5]; rfl
    clear c5
    go_enter Tryd.func15, Tryd.ntmps15
    go_wp2
    go_ret
    exact ⟨rfl, Below.refl _ _⟩
  rw [if_neg c5]
  have d5 : (s.toList == ([] : List UInt8)) = false := beq_eq_false_iff_ne.mpr c5
  have d5b : s.toList.isEmpty = false := by cases h : s.toList with
    | nil => exact absurd h c5
    | cons _ _ => rfl
  clear c5
  by_cases c6 : s.toList = ([46] : List UInt8)
  · rw [if_pos c6]
    have d6 : (s.toList == ([46] : List UInt8)) = true := beq_iff_eq.mpr c6
    clear c6
    go_enter Tryd.func15, Tryd.ntmps15
    go_wp2
    go_ret
    exact ⟨rfl, Below.refl _ _⟩
  rw [if_neg c6]
  have d6 : (s.toList == ([46] : List UInt8)) = false := beq_eq_false_iff_ne.mpr c6
  clear c6
  have hp := preB_eq s (⟨#[47, 42]⟩ : ByteArray)
  generalize preB s (⟨#[47, 42]⟩ : ByteArray) = pb at hp ⊢
  have HP := Aside0.mk hp
  clear hp
  cases pb with
  | true =>
    rw [if_pos rfl]
    go_enter Tryd.func15, Tryd.ntmps15
    go_wp2_with (go_at_call 24; (with_reducible refine (strings_HasPrefix.calls _ _ _ _ HP.out).mono ?_); rintro e w2 ⟨rfl, hd⟩; have HD := Aside0.mk hd; clear hd)
    go_ret
    exact ⟨rfl, HD.out.below⟩
  | false =>
    rw [if_neg (by simp)]
    go_enter Tryd.func15, Tryd.ntmps15
    go_wp2_with (go_at_call 24; (with_reducible refine (strings_HasPrefix.calls _ _ _ _ HP.out).mono ?_); rintro e w2 ⟨rfl, hd⟩; have HD := Aside0.mk hd; clear hd)
    go_loopw [3] (fun fv wr => ∃ (pos fuel : Nat) (a : Int), fv = .int .i64 a ∧ wr.heap[w2.heap.size]? = some (.stringIter s pos) ∧ Aside0 (Below w2.heap.size w2 wr) ∧ Aside0 (s.size ≤ pos + fuel ∧ char_Bare.go s.size a (runesAt s fuel pos) = char_Bare.go s.size 0 (runesOf s))) (fun _ wr => s.size - wr.iterPos w2.heap.size)
    case atStart => exact ⟨0, s.size, 0, rfl, World.iter_heap w2 s 0, ⟨(Below.refl _ w2).alloc (Nat.le_refl _) _⟩, ⟨by omega, rfl⟩⟩
    case round =>
      obtain ⟨pos, fuel, a, rfl, hit, HB, HA⟩ := hrel
      have HIT := Aside0.mk hit
      by_cases hp : pos < s.size
      · have hnx : ∀ ty, (Instr.next (.pointer (some ⟨w2.heap.size, 0, none⟩)) true ty).run Tryd.prog wr = _ := fun ty => Lib.run_next_any_at wr w2.heap.size s pos ty hit hp
        clear hit
        obtain ⟨f', -, hf', hst⟩ := runesAt_step hp HA.out.1
        have hgo := HA.out.2
        rw [hst] at hgo
        clear hst
        have hwd := Lib.decode_width_pos s pos hp
        generalize hc : (Utf8.decode s pos).1 = c at hgo hnx
        generalize hn : (Utf8.decode s pos).2 = n at hgo hnx hf' hwd
        obtain ⟨kk, hkk⟩ : ∃ kk, classN c = kk := ⟨_, rfl⟩
        have HC := Aside0.mk (hkk ▸ class_some c)
        simp only [char_Bare.go, hkk] at hgo
        have HF := Aside0.mk hf'
        have HW := Aside0.mk (And.intro hwd hp)
        have HB2 := Aside0.mk (Lib.below_iterAt HB.out (Nat.le_refl _) s (pos + n))
        have HI2 := Aside0.mk (Lib.iterAt_heap wr w2.heap.size s pos (pos + n) HIT.out)
        clear hkk hc hn hf' hwd HA
        by_cases h0 : pos = 0
        · rw [if_pos h0] at hgo
          have hz : ((pos : Int) == 0) = true := by simp [h0]
          clear h0
          by_cases b1 : kk = 1
          · rw [if_pos b1, if_neg (by omega), if_neg (by omega)] at hgo
            have x1 : (kk == 1) = true := by simp [b1]
            have x2 : decide (kk < 1) = false := decide_eq_false (by omega)
            have x3 : decide (3 < kk) = false := decide_eq_false (by omega)
            clear b1
            have HGO := Aside0.mk hgo; clear hgo
            go_wp2_with (go_at_call 12; (with_reducible refine (char_Class.calls 8 _ kk _ HC.out).mono ?_); rintro e w5 ⟨rfl, hd5⟩; have hh5 := drawn_heap hd5; have HD5 := Aside0.mk hd5; clear hd5)
            go_roundw
            case rel => exact ⟨pos + n, f', _, rfl, by rw [hh5]; exact HI2.out, ⟨HB2.out.trans (HD5.out.below.mono (by rw [Lib.iterAt_size]; exact HB.out.size))⟩, ⟨HF.out, HGO.out⟩⟩
            case measure => simp only [World.iterPos, hh5, HI2.out, HIT.out]; have := HW.out; omega
          · rw [if_neg b1] at hgo
            by_cases b4 : kk = 4
            · rw [if_pos b4, if_pos b4] at hgo
              have x1 : (kk == 1) = false := by simp [b1]
              have x4 : (kk == 4) = true := by simp [b4]
              have x2 : (kk != 4) = false := by simp [b4]
              clear b1 b4
              have HGO := Aside0.mk hgo; clear hgo
              go_wp2_with (go_at_call 12; (with_reducible refine (char_Class.calls 8 _ kk _ HC.out).mono ?_); rintro e w5 ⟨rfl, hd5⟩; have hh5 := drawn_heap hd5; have HD5 := Aside0.mk hd5; clear hd5)
              go_roundw
              case rel => exact ⟨pos + n, f', _, rfl, by rw [hh5]; exact HI2.out, ⟨HB2.out.trans (HD5.out.below.mono (by rw [Lib.iterAt_size]; exact HB.out.size))⟩, ⟨HF.out, HGO.out⟩⟩
              case measure => simp only [World.iterPos, hh5, HI2.out, HIT.out]; have := HW.out; omega
            · rw [if_neg b4] at hgo
              have x1 : (kk == 1) = false := by simp [b1]
              have x4 : (kk == 4) = false := by simp [b4]
              clear b1 b4
              have HGO := Aside0.mk hgo; clear hgo
              go_wp2_with (go_at_call 12; (with_reducible refine (char_Class.calls 8 _ kk _ HC.out).mono ?_); rintro e w5 ⟨rfl, hd5⟩; have hh5 := drawn_heap hd5; have HD5 := Aside0.mk hd5; clear hd5)
              go_ret
              exact ⟨by rw [← HGO.out]; rfl, ((HD.out.below).trans (HB2.out.mono (by rw [drawn_heap HD.out]; exact Nat.le_refl _))).trans (HD5.out.below.mono (by rw [Lib.iterAt_size]; have := HB.out.size; rw [drawn_heap HD.out] at this; exact this))⟩
        · rw [if_neg h0] at hgo
          have hz : ((pos : Int) == 0) = false := by simp; omega
          clear h0
          by_cases a1 : a = 1
          · rw [if_pos a1] at hgo
            have x1 : (a == 1) = true := by simp [a1]
            clear a1
            by_cases b1 : kk < 1
            · rw [if_pos b1] at hgo
              have x2 : decide (kk < 1) = true := decide_eq_true b1
              clear b1
              have HGO := Aside0.mk hgo; clear hgo
              go_wp2_with (go_at_call 12; (with_reducible refine (char_Class.calls 8 _ kk _ HC.out).mono ?_); rintro e w5 ⟨rfl, hd5⟩; have hh5 := drawn_heap hd5; have HD5 := Aside0.mk hd5; clear hd5)
              go_ret
              exact ⟨by rw [← HGO.out]; rfl, ((HD.out.below).trans (HB2.out.mono (by rw [drawn_heap HD.out]; exact Nat.le_refl _))).trans (HD5.out.below.mono (by rw [Lib.iterAt_size]; have := HB.out.size; rw [drawn_heap HD.out] at this; exact this))⟩
            · rw [if_neg b1] at hgo
              have x2 : decide (kk < 1) = false := decide_eq_false b1
              clear b1
              by_cases b3 : kk > 3
              · rw [if_pos b3] at hgo
                have x3 : decide (3 < kk) = true := decide_eq_true b3
                clear b3
                have HGO := Aside0.mk hgo; clear hgo
                go_wp2_with (go_at_call 12; (with_reducible refine (char_Class.calls 8 _ kk _ HC.out).mono ?_); rintro e w5 ⟨rfl, hd5⟩; have hh5 := drawn_heap hd5; have HD5 := Aside0.mk hd5; clear hd5)
                go_ret
                exact ⟨by rw [← HGO.out]; rfl, ((HD.out.below).trans (HB2.out.mono (by rw [drawn_heap HD.out]; exact Nat.le_refl _))).trans (HD5.out.below.mono (by rw [Lib.iterAt_size]; have := HB.out.size; rw [drawn_heap HD.out] at this; exact this))⟩
              · rw [if_neg b3] at hgo
                have x3 : decide (3 < kk) = false := decide_eq_false b3
                clear b3
                have HGO := Aside0.mk hgo; clear hgo
                go_wp2_with (go_at_call 12; (with_reducible refine (char_Class.calls 8 _ kk _ HC.out).mono ?_); rintro e w5 ⟨rfl, hd5⟩; have hh5 := drawn_heap hd5; have HD5 := Aside0.mk hd5; clear hd5)
                go_roundw
                case rel => exact ⟨pos + n, f', _, rfl, by rw [hh5]; exact HI2.out, ⟨HB2.out.trans (HD5.out.below.mono (by rw [Lib.iterAt_size]; exact HB.out.size))⟩, ⟨HF.out, HGO.out⟩⟩
                case measure => simp only [World.iterPos, hh5, HI2.out, HIT.out]; have := HW.out; omega
          · rw [if_neg a1] at hgo
            have x1 : (a == 1) = false := by simp [a1]
            by_cases a4 : a = 4
            · rw [if_pos a4] at hgo
              have x4 : (a == 4) = true := by simp [a4]
              clear a1 a4
              by_cases b4 : kk = 4
              · rw [if_pos b4] at hgo
                have x2 : (kk != 4) = false := by simp [b4]
                clear b4
                have HGO := Aside0.mk hgo; clear hgo
                go_wp2_with (go_at_call 12; (with_reducible refine (char_Class.calls 8 _ kk _ HC.out).mono ?_); rintro e w5 ⟨rfl, hd5⟩; have hh5 := drawn_heap hd5; have HD5 := Aside0.mk hd5; clear hd5)
                go_roundw
                case rel => exact ⟨pos + n, f', _, rfl, by rw [hh5]; exact HI2.out, ⟨HB2.out.trans (HD5.out.below.mono (by rw [Lib.iterAt_size]; exact HB.out.size))⟩, ⟨HF.out, HGO.out⟩⟩
                case measure => simp only [World.iterPos, hh5, HI2.out, HIT.out]; have := HW.out; omega
              · rw [if_neg b4] at hgo
                have x2 : (kk != 4) = true := by simp [b4]
                clear b4
                have HGO := Aside0.mk hgo; clear hgo
                go_wp2_with (go_at_call 12; (with_reducible refine (char_Class.calls 8 _ kk _ HC.out).mono ?_); rintro e w5 ⟨rfl, hd5⟩; have hh5 := drawn_heap hd5; have HD5 := Aside0.mk hd5; clear hd5)
                go_ret
                exact ⟨by rw [← HGO.out]; rfl, ((HD.out.below).trans (HB2.out.mono (by rw [drawn_heap HD.out]; exact Nat.le_refl _))).trans (HD5.out.below.mono (by rw [Lib.iterAt_size]; have := HB.out.size; rw [drawn_heap HD.out] at this; exact this))⟩
            · rw [if_neg a4] at hgo
              have x4 : (a == 4) = false := by simp [a4]
              clear a1 a4
              have HGO := Aside0.mk hgo; clear hgo
              go_wp2_with (go_at_call 12; (with_reducible refine (char_Class.calls 8 _ kk _ HC.out).mono ?_); rintro e w5 ⟨rfl, hd5⟩; have hh5 := drawn_heap hd5; have HD5 := Aside0.mk hd5; clear hd5)
              go_ret
              exact ⟨by rw [← HGO.out]; rfl, ((HD.out.below).trans (HB2.out.mono (by rw [drawn_heap HD.out]; exact Nat.le_refl _))).trans (HD5.out.below.mono (by rw [Lib.iterAt_size]; have := HB.out.size; rw [drawn_heap HD.out] at this; exact this))⟩
      · have hnx : ∀ ty, (Instr.next (.pointer (some ⟨w2.heap.size, 0, none⟩)) true ty).run Tryd.prog wr = _ := fun ty => Lib.run_next_end_at wr w2.heap.size s pos ty hit hp
        have hgo := HA.out.2
        rw [runesAt_end hp] at hgo
        have HGO := Aside0.mk hgo
        clear hgo hit HA
        go_wp2
        go_ret
        exact ⟨by rw [← HGO.out]; rfl, (HD.out.below).trans (HB.out.mono (by rw [drawn_heap HD.out]; exact Nat.le_refl _))⟩
theorem char_Bare.calls (a0 : ByteArray) (r : Bool) (w : World) (h : char_Bare.f a0 = some r) :
    Calls Tryd.prog 15 #[.string a0] w fun e w' => e = .returned (.bool r) ∧ Below w.heap.size w w' := by
  unfold char_Bare.f at h
  split at h
  case isTrue hs => injection h with h; subst h; exact char_Bare.walk a0 w hs
  case isFalse => exact absurd h (by simp)

-- NOT PRINTED: function 43 (abi_NoEscape)

-- NOT PRINTED: function 37 (strings_Builder_copyCheck)

-- NOT PRINTED: function 25 (strings_Builder_WriteByte)

-- NOT PRINTED: function 44 (utf8_appendRuneNonASCII)

-- NOT PRINTED: function 38 (utf8_AppendRune)

-- NOT PRINTED: function 26 (strings_Builder_WriteRune)

-- NOT PRINTED: function 27 (strings_Builder_WriteString)

-- NOT PRINTED: function 45 (strconv_small)

-- NOT PRINTED: function 52 (strconv_log10Pow2)

-- NOT PRINTED: function 53 (bits_Len64)

-- NOT PRINTED: function 54 (strconv_bool2_int)

-- NOT PRINTED: function 46 (strconv_numDigits)

-- NOT PRINTED: function 47 (strconv_formatBase10)

-- NOT PRINTED: function 55 (strconv_isPowerOfTwo)

-- NOT PRINTED: function 60 (bits_TrailingZeros32)

-- NOT PRINTED: function 61 (bits_TrailingZeros64)

-- NOT PRINTED: function 56 (bits_TrailingZeros)

-- NOT PRINTED: function 48 (strconv_formatBits)

-- NOT PRINTED: function 39 (strconv_FormatInt_39)

/-! ### strconv_FormatInt: function 28 (given) -/
/-- a digit of base 16 -/
def hexD (x : Int) : UInt8 := if x < 10 then UInt8.ofNat (48 + x.toNat) else UInt8.ofNat (87 + x.toNat)
def hexL (x : Int) : List UInt8 := if x < 16 then [hexD x] else [49, hexD (x - 16)]
def strconv_FormatInt.f (a0 a1 : Int) : Option ByteArray := if 0 ≤ a0 ∧ a0 < 32 ∧ a1 = 16 then some ⟨(hexL a0).toArray⟩ else none
set_option maxRecDepth 100000 in
theorem strconv_FormatInt.pow2 (w : World) : Calls Tryd.prog 55 #[.int .i64 16] w fun e w' => e = .returned (.bool true) ∧ w' = w := by
  go_enter Tryd.func55, Tryd.ntmps55
  go_wp2
  go_ret
  exact ⟨by first | rfl | decide, rfl⟩
set_option maxRecDepth 100000 in
theorem strconv_FormatInt.tz0 (x : Int) (w : World) (hz : (x == 0) = false) (h0 : 0 ≤ IntKind.u64.wrap (Go.bits .and .u64 x (IntKind.u64.wrap (-x)) * 285870213051353865) / 288230376151711744) (h1 : IntKind.u64.wrap (Go.bits .and .u64 x (IntKind.u64.wrap (-x)) * 285870213051353865) / 288230376151711744 < 64)
    (hc : w.cell? ⟨4, (IntKind.u64.wrap (Go.bits .and .u64 x (IntKind.u64.wrap (-x)) * 285870213051353865) / 288230376151711744).toNat, none⟩ = some (.int .u8 4)) :
    Calls Tryd.prog 56 #[.int .u64 x] w fun e w' => e = .returned (.int .i64 4) ∧ w' = w := by
  go_enter Tryd.func56, Tryd.ntmps56
  go_wp2
  go_ret
  exact ⟨by first | rfl | decide, rfl⟩
theorem strconv_FormatInt.e1 : IntKind.u64.wrap (Go.bits .and .u64 16 (IntKind.u64.wrap (-16)) * 285870213051353865) / 288230376151711744 = 15 := by decide +kernel
theorem strconv_FormatInt.tz (w : World) (hT : Tabs w) : Calls Tryd.prog 56 #[.int .u64 16] w fun e w' => e = .returned (.int .i64 4) ∧ w' = w :=
  strconv_FormatInt.tz0 16 w (by decide) (by rw [strconv_FormatInt.e1]; decide) (by rw [strconv_FormatInt.e1]; decide) (by rw [strconv_FormatInt.e1]; exact hT.2.1)
theorem strconv_FormatInt.zs : Tryd.zeroCells75 = Array.replicate 65 (Value.int .u8 0) := by kernel_rfl
theorem strconv_FormatInt.conv1 (w : World) (b : UInt8) : (convert 34 9 (.slice (some ⟨w.heap.size, 64, none⟩) 1 1)).run Tryd.prog (w.alloc (.cells (Tryd.zeroCells75.setIfInBounds 64 (.int .u8 (b.toNat : Nat))) 75)) = .ok (.string ⟨#[b]⟩) (w.alloc (.cells (Tryd.zeroCells75.setIfInBounds 64 (.int .u8 (b.toNat : Nat))) 75)) :=
  conv_arr (ArrAt.alloc w _ 75) 34 5 9 (by kernel_rfl) (by kernel_rfl) (by kernel_rfl) [b] 1 1 (fun i hi => by
    obtain rfl : i = 0 := by simpa using hi
    rw [strconv_FormatInt.zs]; simp) rfl
theorem strconv_FormatInt.conv2 (w : World) (a b : UInt8) : (convert 34 9 (.slice (some ⟨w.heap.size, 63, none⟩) 2 2)).run Tryd.prog (w.alloc (.cells ((Tryd.zeroCells75.setIfInBounds 64 (.int .u8 (b.toNat : Nat))).setIfInBounds 63 (.int .u8 (a.toNat : Nat))) 75)) = .ok (.string ⟨#[a, b]⟩) (w.alloc (.cells ((Tryd.zeroCells75.setIfInBounds 64 (.int .u8 (b.toNat : Nat))).setIfInBounds 63 (.int .u8 (a.toNat : Nat))) 75)) :=
  conv_arr (ArrAt.alloc w _ 75) 34 5 9 (by kernel_rfl) (by kernel_rfl) (by kernel_rfl) [a, b] 2 2 (fun i hi => by
    rw [strconv_FormatInt.zs]
    match i, hi with
    | 0, _ => rfl
    | 1, _ => rfl
    | i + 2, h => exact absurd (show i + 2 < 2 from h) (by omega)) rfl
theorem strconv_FormatInt.dig : ∀ n : Fin 16, hexD (n.val : Int) = (⟨#[48, 49, 50, 51, 52, 53, 54, 55, 56, 57, 97, 98, 99, 100, 101, 102, 103, 104, 105, 106, 107, 108, 109, 110, 111, 112, 113, 114, 115, 116, 117, 118, 119, 120, 121, 122]⟩ : ByteArray).data[n.val]'(by have := n.2; show n.val < 36; omega) := by decide
theorem strconv_FormatInt.and15 : ∀ n : Fin 16, Go.bits .and .u64 (16 + n.val) 15 = n.val := by decide +kernel
theorem strconv_FormatInt.digs {n : Nat} (h : n < 16) (h2 : n < (⟨#[48, 49, 50, 51, 52, 53, 54, 55, 56, 57, 97, 98, 99, 100, 101, 102, 103, 104, 105, 106, 107, 108, 109, 110, 111, 112, 113, 114, 115, 116, 117, 118, 119, 120, 121, 122]⟩ : ByteArray).size) : (⟨#[48, 49, 50, 51, 52, 53, 54, 55, 56, 57, 97, 98, 99, 100, 101, 102, 103, 104, 105, 106, 107, 108, 109, 110, 111, 112, 113, 114, 115, 116, 117, 118, 119, 120, 121, 122]⟩ : ByteArray)[n]'h2 = hexD (n : Int) := (strconv_FormatInt.dig ⟨n, h⟩).symm
theorem strconv_FormatInt.hx1 {c : Int} (h0 : 0 ≤ c) (h1 : c < 16) (h2 : c.toNat < (⟨#[48, 49, 50, 51, 52, 53, 54, 55, 56, 57, 97, 98, 99, 100, 101, 102, 103, 104, 105, 106, 107, 108, 109, 110, 111, 112, 113, 114, 115, 116, 117, 118, 119, 120, 121, 122]⟩ : ByteArray).size) : (hexL c).toArray = #[(⟨#[48, 49, 50, 51, 52, 53, 54, 55, 56, 57, 97, 98, 99, 100, 101, 102, 103, 104, 105, 106, 107, 108, 109, 110, 111, 112, 113, 114, 115, 116, 117, 118, 119, 120, 121, 122]⟩ : ByteArray)[c.toNat]'h2] := by
  rw [strconv_FormatInt.digs (by omega) h2, show ((c.toNat : Nat) : Int) = c by omega]
  unfold hexL
  rw [if_pos h1]
theorem strconv_FormatInt.hx2 {n : Nat} (h1 : n < 16) (h2 : n < (⟨#[48, 49, 50, 51, 52, 53, 54, 55, 56, 57, 97, 98, 99, 100, 101, 102, 103, 104, 105, 106, 107, 108, 109, 110, 111, 112, 113, 114, 115, 116, 117, 118, 119, 120, 121, 122]⟩ : ByteArray).size) : (hexL (16 + (n : Int))).toArray = #[49, (⟨#[48, 49, 50, 51, 52, 53, 54, 55, 56, 57, 97, 98, 99, 100, 101, 102, 103, 104, 105, 106, 107, 108, 109, 110, 111, 112, 113, 114, 115, 116, 117, 118, 119, 120, 121, 122]⟩ : ByteArray)[n]'h2] := by
  rw [strconv_FormatInt.digs h1 h2]
  unfold hexL
  rw [if_neg (by omega), show (16 + (n : Int)) - 16 = n by omega]
set_option maxRecDepth 100000 in
theorem strconv_FormatInt.bits1 (c : Int) (h0 : 0 ≤ c) (h1 : c < 16) (w : World) (hT : Tabs w) : Calls Tryd.prog 48 #[.slice none 0 0, .int .u64 c, .int .i64 16, .bool false, .bool false] w fun e w' => e = .returned (.tuple #[.slice none 0 0, .string ⟨(hexL c).toArray⟩]) ∧ Below w.heap.size w w' := by
  have hcv := fun b => strconv_FormatInt.conv1 w b
  go_enter Tryd.func48, Tryd.ntmps48
  go_wp2_with (first | (go_at_call 55; refine (strconv_FormatInt.pow2 _).mono ?_; rintro e w2 ⟨rfl, rfl⟩) | (go_at_call 56; refine (strconv_FormatInt.tz _ (hT.below ((Below.refl _ _).alloc (Nat.le_refl _) _))).mono ?_; rintro e w2 ⟨rfl, rfl⟩))
  refine wp_loop_rounds 1 ?_
  rw [rounds_succ]
  go_wp2
  go_ret2
  exact ⟨by rw [strconv_FormatInt.hx1 h0 h1]; rfl, (Below.refl _ _).alloc (Nat.le_refl _) _⟩
set_option maxRecDepth 100000 in
theorem strconv_FormatInt.bits2 (n : Nat) (h1 : n < 16) (w : World) (hT : Tabs w) : Calls Tryd.prog 48 #[.slice none 0 0, .int .u64 (16 + (n : Int)), .int .i64 16, .bool false, .bool false] w fun e w' => e = .returned (.tuple #[.slice none 0 0, .string ⟨(hexL (16 + (n : Int))).toArray⟩]) ∧ Below w.heap.size w w' := by
  have hcv := fun a b => strconv_FormatInt.conv2 w a b
  have ha := strconv_FormatInt.and15 ⟨n, h1⟩
  dsimp only at ha
  have hd : (16 + (n : Int)) / 16 = 1 := by omega
  go_enter Tryd.func48, Tryd.ntmps48
  go_wp2_with (first | (go_at_call 55; refine (strconv_FormatInt.pow2 _).mono ?_; rintro e w2 ⟨rfl, rfl⟩) | (go_at_call 56; refine (strconv_FormatInt.tz _ (hT.below ((Below.refl _ _).alloc (Nat.le_refl _) _))).mono ?_; rintro e w2 ⟨rfl, rfl⟩))
  refine wp_loop_rounds 2 ?_
  rw [rounds_succ]
  go_wp2
  rw [rounds_succ]
  go_wp2
  go_ret2
  exact ⟨by rw [strconv_FormatInt.hx2 h1]; rfl, (Below.refl _ _).alloc (Nat.le_refl _) _⟩
set_option maxRecDepth 100000 in
theorem strconv_FormatInt.bits (c : Int) (h0 : 0 ≤ c) (h1 : c < 32) (w : World) (hT : Tabs w) : Calls Tryd.prog 48 #[.slice none 0 0, .int .u64 c, .int .i64 16, .bool false, .bool false] w fun e w' => e = .returned (.tuple #[.slice none 0 0, .string ⟨(hexL c).toArray⟩]) ∧ Below w.heap.size w w' := by
  by_cases hc : c < 16
  · exact strconv_FormatInt.bits1 c h0 hc w hT
  · obtain ⟨n, rfl⟩ : ∃ n : Nat, c = 16 + (n : Int) := ⟨(c - 16).toNat, by omega⟩
    exact strconv_FormatInt.bits2 n (by omega) w hT
set_option maxRecDepth 100000 in
theorem strconv_FormatInt.inner (c : Int) (h0 : 0 ≤ c) (h1 : c < 32) (w : World) (hT : Tabs w) : Calls Tryd.prog 39 #[.int .i64 c, .int .i64 16] w fun e w' => e = .returned (.string ⟨(hexL c).toArray⟩) ∧ Below w.heap.size w w' := by
  go_enter Tryd.func39, Tryd.ntmps39
  have hw : IntKind.u64.wrap c = c := by unfold IntKind.wrap; simp [IntKind.bits, IntKind.signed]; omega
  have hlt : decide (c < 0) = false := decide_eq_false (by omega)
  go_wp2_with (go_at_call 48; (with_reducible refine (strconv_FormatInt.bits c h0 h1 _ hT).mono ?_); rintro e w2 ⟨rfl, hb⟩; have HB := Aside0.mk hb; clear hb)
  go_ret
  exact ⟨rfl, HB.out⟩
set_option maxRecDepth 100000 in
theorem strconv_FormatInt.calls (a0 a1 : Int) (r : ByteArray) (w : World) (h : strconv_FormatInt.f a0 a1 = some r) (hT : Tabs w) :
    Calls Tryd.prog 28 #[.int .i64 a0, .int .i64 a1] w fun e w' => e = .returned (.string r) ∧ Below w.heap.size w w' := by
  unfold strconv_FormatInt.f at h
  split at h
  case isFalse => exact absurd h (by simp)
  case isTrue hh =>
  injection h with h
  subst h
  obtain ⟨h0, h1, rfl⟩ := hh
  go_enter Tryd.func28, Tryd.ntmps28
  go_wp2_with (go_at_call 39; (with_reducible refine (strconv_FormatInt.inner a0 h0 h1 _ hT).mono ?_); rintro e w2 ⟨rfl, hb⟩; have HB := Aside0.mk hb; clear hb)
  go_ret
  exact ⟨rfl, HB.out⟩

-- NOT PRINTED: function 29 (strings_Builder_String)

/-! ### char_Write: function 16 (given) -/
/-- a rune between quotes -/
def char_Write.one (c : Int) : List UInt8 := if c = 39 then 92 :: Lib.encodeRune c else if c = 92 then 92 :: Lib.encodeRune c else if c = 10 then [92, 110] else if c = 9 then [92, 116] else if c < 32 then [92, 120] ++ hexL c ++ [92] else Lib.encodeRune c
-- strconv_FormatInt.calls
def char_Write.go : List (Nat × Nat) → List UInt8
  | [] => [39]
  | x :: l => char_Write.one x.2 ++ char_Write.go l
def char_Write.quoted (a0 : ByteArray) : ByteArray := ⟨([39] ++ char_Write.go (runesOf a0)).toArray⟩
def char_Write.f (a0 : ByteArray) : Option ByteArray := (char_Check.f a0).bind fun b => if b = true then (char_Bare.f a0).bind fun c => if c = true then some a0 else some (char_Write.quoted a0) else some (⟨#[]⟩ : ByteArray)
theorem char_Check.small {a : ByteArray} (h : char_Check.f a = some true) : a.size ≤ 255 := by
  unfold char_Check.f at h
  split at h
  · omega
  · simp at h
theorem bsz (l : List UInt8) : (⟨l.toArray⟩ : ByteArray).size = l.length := by show l.toArray.size = _; simp
theorem hexL_len (c : Int) : (hexL c).length ≤ 2 := by unfold hexL; split <;> simp
theorem encode_len4 (c : Int) : (Lib.encodeRune c).length ≤ 4 := by
  have := Lib.encodeRuneZ_length c
  unfold Lib.encodeRune
  rw [List.length_map]
  omega
set_option maxRecDepth 100000 in
theorem char_Write.no (s : ByteArray) (w : World) (hT : Tabs w) (h : char_Check.f s = some false) :
    Calls Tryd.prog 16 #[.string s] w fun e w' => e = .returned (.string (⟨#[]⟩ : ByteArray)) ∧ Below w.heap.size w w' := by
  have HT := Aside0.mk hT
  have H := Aside0.mk h
  clear hT h
  go_enter Tryd.func16, Tryd.ntmps16
  go_wp2_with (go_at_call 14; (with_reducible refine (char_Check.calls _ _ _ H.out HT.out).mono ?_); rintro e w2 ⟨rfl, hb⟩; have HB := Aside0.mk hb; clear hb)
  go_ret
  exact ⟨rfl, HB.out⟩
set_option maxRecDepth 100000 in
theorem char_Write.bare (s : ByteArray) (w : World) (hT : Tabs w) (h : char_Check.f s = some true) (h2 : char_Bare.f s = some true) :
    Calls Tryd.prog 16 #[.string s] w fun e w' => e = .returned (.string s) ∧ Below w.heap.size w w' := by
  have HT := Aside0.mk hT
  have H := Aside0.mk h
  have H2 := Aside0.mk h2
  clear hT h h2
  go_enter Tryd.func16, Tryd.ntmps16
  go_wp2_with (first
    | (go_at_call 14; (with_reducible refine (char_Check.calls _ _ _ H.out HT.out).mono ?_); rintro e w2 ⟨rfl, hb⟩; have HB := Aside0.mk hb; clear hb)
    | (go_at_call 15; (with_reducible refine (char_Bare.calls _ _ _ H2.out).mono ?_); rintro e w3 ⟨rfl, hb⟩; have HB3 := Aside0.mk (HB.out.trans (hb.mono HB.out.size)); clear hb))
  go_ret
  exact ⟨rfl, HB3.out⟩
set_option maxRecDepth 100000 in
set_option maxHeartbeats 4000000 in
theorem char_Write.walk (s : ByteArray) (w : World) (hT : Tabs w) (h : char_Check.f s = some true) (h2 : char_Bare.f s = some false) :
    Calls Tryd.prog 16 #[.string s] w fun e w' => e = .returned (.string (char_Write.quoted s)) ∧ Below w.heap.size w w' := by
  have HS := Aside0.mk (char_Check.small h)
  have HT := Aside0.mk hT
  have H := Aside0.mk h
  have H2 := Aside0.mk h2
  clear hT h h2
  go_enter Tryd.func16, Tryd.ntmps16
  go_wp2_with (first
    | (go_at_call 14; (with_reducible refine (char_Check.calls _ _ _ H.out HT.out).mono ?_); rintro e w2 ⟨rfl, hb⟩; have HB := Aside0.mk hb; clear hb)
    | (go_at_call 15; (with_reducible refine (char_Bare.calls _ _ _ H2.out).mono ?_); rintro e w3 ⟨rfl, hb⟩; have HB3 := Aside0.mk (HB.out.trans (hb.mono HB.out.size)); clear hb HB)
    | (go_at_call 25; go_loud (refine (Tryd.Builder_WriteByte_k w3.heap.size w3.heap.size [] 39 _ (Lib.IsBuilderF.of (Lib.fresh_isBuilder 36 5 w3)) (by simp) (by simp)).mono ?_); rintro e W1 ⟨rfl, h1, b1, k1⟩; have HI1 := Aside0.mk (And.intro h1 b1); clear h1 b1 k1))
  have HK := Aside0.mk (show BIt w3.heap.size w3.heap.size W1.heap.size s 0 [39] w3 (W1.iter s 0) from
    ⟨Lib.IsBuilderF.alloc (.inr HI1.out.1) _, World.iter_heap W1 s 0, (((Below.refl _ w3).alloc (Nat.le_refl _) _).trans HI1.out.2).alloc (by have := HI1.out.2.size; simp at this; omega) _, by have := HI1.out.2.size; simp at this; omega, by have := HI1.out.2.size; simp at this; omega⟩)
  go_loopw [] (fun wr => ∃ (pos fuel : Nat) (acc : List UInt8), Aside0 (BIt w3.heap.size w3.heap.size W1.heap.size s pos acc w3 wr ∧ s.size ≤ pos + fuel ∧ acc ++ char_Write.go (runesAt s fuel pos) = [39] ++ char_Write.go (runesOf s) ∧ acc.length ≤ 1 + 5 * pos ∧ pos ≤ s.size)) (fun wr => s.size - wr.iterPos W1.heap.size)
  case atStart => exact ⟨0, s.size, [39], ⟨HK.out, by omega, rfl, by simp, by omega⟩⟩
  case round =>
    obtain ⟨pos, fuel, acc, HA⟩ := hrel
    clear HK
    have HI0 := Aside0.mk HA.out.1
    have hsm := HS.out
    by_cases hp : pos < s.size
    · have hnx : ∀ ty, (Instr.next (.pointer (some ⟨W1.heap.size, 0, none⟩)) true ty).run Tryd.prog wr = _ := fun ty => Lib.run_next_any_at wr W1.heap.size s pos ty HI0.out.iter hp
      obtain ⟨f', -, hf', hst⟩ := runesAt_step hp HA.out.2.1
      have hg := HA.out.2.2.1
      rw [hst] at hg
      clear hst
      have hwd := Lib.decode_width_pos s pos hp
      have hdl := decode_end s pos hp
      have hc31 := decode_le s pos
      generalize (Utf8.decode s pos).1 = c at hg hnx hc31
      generalize (Utf8.decode s pos).2 = n at hg hnx hf' hwd hdl
      have hg2 : acc ++ (char_Write.one c ++ char_Write.go (runesAt s f' (pos + n))) = [39] ++ char_Write.go (runesOf s) := hg
      have HF := Aside0.mk hf'
      have HC31 := Aside0.mk hc31
      have HW := Aside0.mk (And.intro hwd hp)
      have HL := Aside0.mk (show acc.length ≤ 2000 by have := HA.out.2.2.2.1; omega)
      have he4 := encode_len4 (c : Int)
      have HX := Aside0.mk (hexL_len (c : Int))
      have HL2 := Aside0.mk (show acc.length + 5 ≤ 1 + 5 * (pos + n) ∧ (Lib.encodeRune (c : Int)).length ≤ 4 ∧ (hexL (c : Int)).length ≤ 2 by have := HA.out.2.2.2.1; have := HX.out; omega)
      have HD := Aside0.mk hdl
      have HN := Aside0.mk (HI0.out.next (pos + n))
      clear HA hg hf' hwd hdl hc31 he4 hsm
      unfold char_Write.one at hg2
      by_cases c1 : (c : Int) = 39
      · rw [if_pos c1] at hg2
        have HG := Aside0.mk hg2
        have x1 : ((c : Int) == 39) = true := by simp [c1]
        clear hg2 c1
        go_wp2_with (first | (go_at_call 25; (with_reducible refine (Tryd.Builder_WriteByte_k w3.heap.size w3.heap.size _ 92 _ HN.out.bld (by rw [Lib.byteCells_length]; have := HL.out; simp; omega) HN.out.hB).mono ?_); rintro e WHI2 ⟨rfl, h1, b1, k1⟩; have HI2 := Aside0.mk (HN.out.wrote [92] h1 b1 k1); clear h1 b1 k1) | (go_at_call 26; (with_reducible refine (Tryd.Builder_WriteRune_k w3.heap.size w3.heap.size _ _ (by have := HC31.out; omega) (by have := HC31.out; omega) _ HI2.out.bld (by rw [Lib.byteCells_length]; have := HL.out; simp; omega) HI2.out.hB).mono ?_); rintro e WHI3 ⟨rfl, h1, b1, k1⟩; have HI3 := Aside0.mk (HI2.out.wrote (Lib.encodeRune (c : Int)) (by rw [Lib.byteCells_encodeRune]; exact h1) b1 k1); clear h1 b1 k1))
        go_roundw
        case rel => exact ⟨pos + n, f', _, ⟨HI3.out, HF.out, by rw [← HG.out]; simp only [List.append_assoc, List.cons_append, List.nil_append], by have := HL2.out; simp only [List.length_append, List.length_cons, List.length_nil]; omega, HD.out⟩⟩
        case measure => simp only [World.iterPos, HI3.out.iter, HI0.out.iter]; have := HW.out; omega
      rw [if_neg c1] at hg2
      have x1 : ((c : Int) == 39) = false := by simpa using c1
      clear c1
      by_cases c2 : (c : Int) = 92
      · rw [if_pos c2] at hg2
        have HG := Aside0.mk hg2
        have x2 : ((c : Int) == 92) = true := by simp [c2]
        clear hg2 c2
        go_wp2_with (first | (go_at_call 25; (with_reducible refine (Tryd.Builder_WriteByte_k w3.heap.size w3.heap.size _ 92 _ HN.out.bld (by rw [Lib.byteCells_length]; have := HL.out; simp; omega) HN.out.hB).mono ?_); rintro e WHI2 ⟨rfl, h1, b1, k1⟩; have HI2 := Aside0.mk (HN.out.wrote [92] h1 b1 k1); clear h1 b1 k1) | (go_at_call 26; (with_reducible refine (Tryd.Builder_WriteRune_k w3.heap.size w3.heap.size _ _ (by have := HC31.out; omega) (by have := HC31.out; omega) _ HI2.out.bld (by rw [Lib.byteCells_length]; have := HL.out; simp; omega) HI2.out.hB).mono ?_); rintro e WHI3 ⟨rfl, h1, b1, k1⟩; have HI3 := Aside0.mk (HI2.out.wrote (Lib.encodeRune (c : Int)) (by rw [Lib.byteCells_encodeRune]; exact h1) b1 k1); clear h1 b1 k1))
        go_roundw
        case rel => exact ⟨pos + n, f', _, ⟨HI3.out, HF.out, by rw [← HG.out]; simp only [List.append_assoc, List.cons_append, List.nil_append], by have := HL2.out; simp only [List.length_append, List.length_cons, List.length_nil]; omega, HD.out⟩⟩
        case measure => simp only [World.iterPos, HI3.out.iter, HI0.out.iter]; have := HW.out; omega
      rw [if_neg c2] at hg2
      have x2 : ((c : Int) == 92) = false := by simpa using c2
      clear c2
      by_cases c3 : (c : Int) = 10
      · rw [if_pos c3] at hg2
        have HG := Aside0.mk hg2
        have x3 : ((c : Int) == 10) = true := by simp [c3]
        clear hg2 c3
        go_wp2_with (go_at_call 27; (with_reducible refine (Tryd.Builder_WriteString_k w3.heap.size w3.heap.size _ (⟨#[92, 110]⟩ : ByteArray) _ HN.out.bld (by have q0 := HL.out; have q2 : ((⟨#[92, 110]⟩ : ByteArray) : ByteArray).size ≤ 2 := (by decide); rw [Lib.byteCells_length]; (try simp only [List.length_append, List.length_cons, List.length_nil]); omega) HN.out.hB).mono ?_); rintro e WHI2 ⟨rfl, h1, b1, k1⟩; have HI2 := Aside0.mk (HN.out.wrote [92, 110] h1 b1 k1); clear h1 b1 k1)
        go_roundw
        case rel => exact ⟨pos + n, f', _, ⟨HI2.out, HF.out, by rw [← HG.out]; simp only [List.append_assoc, List.cons_append, List.nil_append], by have := HL2.out; simp only [List.length_append, List.length_cons, List.length_nil]; omega, HD.out⟩⟩
        case measure => simp only [World.iterPos, HI2.out.iter, HI0.out.iter]; have := HW.out; omega
      rw [if_neg c3] at hg2
      have x3 : ((c : Int) == 10) = false := by simpa using c3
      clear c3
      by_cases c4 : (c : Int) = 9
      · rw [if_pos c4] at hg2
        have HG := Aside0.mk hg2
        have x4 : ((c : Int) == 9) = true := by simp [c4]
        clear hg2 c4
        go_wp2_with (go_at_call 27; (with_reducible refine (Tryd.Builder_WriteString_k w3.heap.size w3.heap.size _ (⟨#[92, 116]⟩ : ByteArray) _ HN.out.bld (by have q0 := HL.out; have q2 : ((⟨#[92, 116]⟩ : ByteArray) : ByteArray).size ≤ 2 := (by decide); rw [Lib.byteCells_length]; (try simp only [List.length_append, List.length_cons, List.length_nil]); omega) HN.out.hB).mono ?_); rintro e WHI2 ⟨rfl, h1, b1, k1⟩; have HI2 := Aside0.mk (HN.out.wrote [92, 116] h1 b1 k1); clear h1 b1 k1)
        go_roundw
        case rel => exact ⟨pos + n, f', _, ⟨HI2.out, HF.out, by rw [← HG.out]; simp only [List.append_assoc, List.cons_append, List.nil_append], by have := HL2.out; simp only [List.length_append, List.length_cons, List.length_nil]; omega, HD.out⟩⟩
        case measure => simp only [World.iterPos, HI2.out.iter, HI0.out.iter]; have := HW.out; omega
      rw [if_neg c4] at hg2
      have x4 : ((c : Int) == 9) = false := by simpa using c4
      clear c4
      by_cases c5 : (c : Int) < 32
      · rw [if_pos c5] at hg2
        have HG := Aside0.mk hg2
        have x5 : decide ((c : Int) < 32) = true := decide_eq_true c5
        have HFM := Aside0.mk (show strconv_FormatInt.f (c : Int) 16 = some ⟨(hexL (c : Int)).toArray⟩ by unfold strconv_FormatInt.f; rw [if_pos ⟨by omega, c5, rfl⟩])
        clear hg2
        have tok1 : True := trivial
        have tok2 : True := trivial
        go_wp2_with (first | (go_at_call 27; (have _t := tok1); (with_reducible refine (Tryd.Builder_WriteString_k w3.heap.size w3.heap.size _ (⟨#[92, 120]⟩ : ByteArray) _ HN.out.bld (by have q0 := HL.out; have q2 : ((⟨#[92, 120]⟩ : ByteArray) : ByteArray).size ≤ 2 := (by decide); rw [Lib.byteCells_length]; (try simp only [List.length_append, List.length_cons, List.length_nil]); omega) HN.out.hB).mono ?_); rintro e WHI2 ⟨rfl, h1, b1, k1⟩; have HI2 := Aside0.mk (HN.out.wrote [92, 120] h1 b1 k1); clear h1 b1 k1; clear tok1) | (go_at_call 28; (with_reducible refine (strconv_FormatInt.calls _ _ _ _ HFM.out (HT.out.below (HB3.out.trans (HI2.out.low.mono HB3.out.size)))).mono ?_); rintro e W3 ⟨rfl, hb3⟩; have HI3 := Aside0.mk (HI2.out.below hb3); clear hb3) | (go_at_call 27; (have _t := tok2); (with_reducible refine (Tryd.Builder_WriteString_k w3.heap.size w3.heap.size _ ⟨(hexL (c : Int)).toArray⟩ _ HI3.out.bld (by have q0 := HL.out; have q2 : (⟨(hexL (c : Int)).toArray⟩ : ByteArray).size ≤ 2 := (by rw [bsz]; exact HX.out); rw [Lib.byteCells_length]; (try simp only [List.length_append, List.length_cons, List.length_nil]); omega) HI3.out.hB).mono ?_); rintro e WHI4 ⟨rfl, h1, b1, k1⟩; have HI4 := Aside0.mk (HI3.out.wrote (hexL (c : Int)) h1 b1 k1); clear h1 b1 k1; clear tok2) | (go_at_call 25; (with_reducible refine (Tryd.Builder_WriteByte_k w3.heap.size w3.heap.size _ 92 _ HI4.out.bld (by rw [Lib.byteCells_length]; have := HL.out; have := HX.out; simp; omega) HI4.out.hB).mono ?_); rintro e WHI5 ⟨rfl, h1, b1, k1⟩; have HI5 := Aside0.mk (HI4.out.wrote [92] h1 b1 k1); clear h1 b1 k1))
        go_roundw
        case rel => exact ⟨pos + n, f', _, ⟨HI5.out, HF.out, by rw [← HG.out]; simp only [List.append_assoc, List.cons_append, List.nil_append], by have := HL2.out; simp only [List.length_append, List.length_cons, List.length_nil]; omega, HD.out⟩⟩
        case measure => simp only [World.iterPos, HI5.out.iter, HI0.out.iter]; have := HW.out; omega
      rw [if_neg c5] at hg2
      have HG := Aside0.mk hg2
      have x5 : decide ((c : Int) < 32) = false := decide_eq_false c5
      clear hg2 c5
      go_wp2_with (go_at_call 26; (with_reducible refine (Tryd.Builder_WriteRune_k w3.heap.size w3.heap.size _ _ (by have := HC31.out; omega) (by have := HC31.out; omega) _ HN.out.bld (by rw [Lib.byteCells_length]; have := HL.out; simp; omega) HN.out.hB).mono ?_); rintro e WHI2 ⟨rfl, h1, b1, k1⟩; have HI2 := Aside0.mk (HN.out.wrote (Lib.encodeRune (c : Int)) (by rw [Lib.byteCells_encodeRune]; exact h1) b1 k1); clear h1 b1 k1)
      go_roundw
      case rel => exact ⟨pos + n, f', _, ⟨HI2.out, HF.out, by rw [← HG.out]; simp only [List.append_assoc, List.cons_append, List.nil_append], by have := HL2.out; simp only [List.length_append, List.length_cons, List.length_nil]; omega, HD.out⟩⟩
      case measure => simp only [World.iterPos, HI2.out.iter, HI0.out.iter]; have := HW.out; omega
    · have hnx : ∀ ty, (Instr.next (.pointer (some ⟨W1.heap.size, 0, none⟩)) true ty).run Tryd.prog wr = _ := fun ty => Lib.run_next_end_at wr W1.heap.size s pos ty HI0.out.iter hp
      have hg := HA.out.2.2.1
      rw [runesAt_end hp] at hg
      have HG := Aside0.mk hg
      have HL := Aside0.mk (show acc.length ≤ 2000 by have := HA.out.2.2.2; omega)
      clear hg HA hsm
      go_wp2_with (first | (go_at_call 25; (with_reducible refine (Tryd.Builder_WriteByte_k w3.heap.size w3.heap.size _ 39 _ HI0.out.bld (by rw [Lib.byteCells_length]; have := HL.out; simp; omega) HI0.out.hB).mono ?_); rintro e WHI2 ⟨rfl, h1, b1, k1⟩; have HI2 := Aside0.mk (HI0.out.wrote [39] h1 b1 k1); clear h1 b1 k1) | (go_at_call 29; (with_reducible refine (Tryd.Builder_String_any_k w3.heap.size w3.heap.size _ _ HI2.out.bld HI2.out.hB).mono ?_); rintro e W9 ⟨rfl, h1, b1, k1⟩; have HB9 := Aside0.mk (HI2.out.low.trans b1); clear h1 b1 k1))
      go_ret
      exact ⟨by have e := HG.out; simp only [char_Write.go] at e; unfold char_Write.quoted; rw [← e]; rfl, HB3.out.trans (HB9.out.mono HB3.out.size)⟩
theorem char_Write.calls (a0 : ByteArray) (r : ByteArray) (w : World) (h : char_Write.f a0 = some r) (hT : Tabs w) :
    Calls Tryd.prog 16 #[.string a0] w fun e w' => e = .returned (.string r) ∧ Below w.heap.size w w' := by
  unfold char_Write.f at h
  obtain ⟨b, hb, h⟩ := Option.bind_eq_some_iff.1 h
  cases b with
  | false =>
    rw [if_neg (by simp)] at h
    injection h with h
    subst h
    exact char_Write.no a0 w hT hb
  | true =>
    rw [if_pos rfl] at h
    obtain ⟨c, hc, h⟩ := Option.bind_eq_some_iff.1 h
    cases c with
    | false =>
      rw [if_neg (by simp)] at h
      injection h with h
      subst h
      exact char_Write.walk a0 w hT hb hc
    | true =>
      rw [if_pos rfl] at h
      injection h with h
      subst h
      exact char_Write.bare a0 w hT hb hc

-- NOT PRINTED: function 62 (bytealg_IndexByteString)

-- NOT PRINTED: function 57 (stringslite_IndexByte)

-- NOT PRINTED: function 49 (strings_IndexByte)

-- NOT PRINTED: function 63 (strconv_lower)

-- NOT PRINTED: function 64 (strconv_underscoreOK)

-- NOT PRINTED: function 58 (strconv_ParseUint_58)

-- NOT PRINTED: function 69 (stringslite_Clone)

-- NOT PRINTED: function 65 (strconv_syntaxError)

-- NOT PRINTED: function 66 (strconv_rangeError)

-- NOT PRINTED: function 70 (errors_New)

-- NOT PRINTED: function 72 (strconv_Itoa_72)

-- NOT PRINTED: function 71 (strconv_Itoa_71)

-- NOT PRINTED: function 67 (strconv_baseError)

-- NOT PRINTED: function 68 (strconv_bitSizeError)

-- NOT PRINTED: function 59 (strconv_toError)

-- NOT PRINTED: function 50 (strconv_ParseUint_50)

end Go.Proofs.YtkniiinpkchjoaaDoor.P
