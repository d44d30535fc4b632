-- PRINTED by a program of this session over the kit's print.py.
import Derived.Test.YtjichkjnodabiaaDoorPx0
namespace Go.Proofs.YtjichkjnodabiaaDoor.P
open Go.Own Go.RowKit Go.Proofs.YtjichkjnodabiaaDoorW.PrintWords Go.Proofs.YtjichkjnodabiaaDoorW.PrintLast Go.Proofs.YtjichkjnodabiaaDoorW.PrintMore
attribute [local go_sem] max2_int min2_int max_two min_two max_three min_three max_four min_four   -- for this text's walks alone
set_option linter.unusedVariables false
set_option linter.unusedSimpArgs false

-- NOT PRINTED: function 57 (bytealg_IndexByteString)

-- NOT PRINTED: function 44 (stringslite_IndexByte)

-- NOT PRINTED: function 25 (strings_IndexByte)

/-! ### stringslite_HasPrefix: function 45 -/
def stringslite_HasPrefix.f (a0 : ByteArray) (a1 : ByteArray) : Option (Bool) := if (a0.size : Int) ≥ (a1.size : Int) then (if 0 ≤ (a1.size : Int) then (if (a1.size : Int) ≤ (a0.size : Int) then (some ((a0.extract 0 ((a1.size : Int) : Int).toNat).toList == a1.toList)) else (none)) else (none)) else (some false)
set_option maxHeartbeats 8000000 in
set_option maxRecDepth 100000 in
theorem stringslite_HasPrefix.calls (a0 : ByteArray) (a1 : ByteArray) (r : Bool) (w : World) (h : stringslite_HasPrefix.f a0 a1 = some r) :
    Calls Tryd.prog 45 #[.string a0, .string a1] w fun e w' => e = .returned (.bool r) ∧ Drawn0 w w' := by
  have H : (if (a0.size : Int) ≥ (a1.size : Int) then (if 0 ≤ (a1.size : Int) then (if (a1.size : Int) ≤ (a0.size : Int) then (some ((a0.extract 0 ((a1.size : Int) : Int).toNat).toList == a1.toList)) else (none)) else (none)) else (some false)) = some r := h
  clear h
  by_cases c3 : (a0.size : Int) ≥ (a1.size : Int)
  · rw [if_pos c3] at H
    have c3b0 : decide ((a1.size : Int) ≤ (a0.size : Int)) = true := decide_eq_true c3
    have c3b1 : decide (a1.size ≤ a0.size) = true := decide_eq_true (Int.ofNat_le.mp c3)
    clear c3
    by_cases c4 : 0 ≤ (a1.size : Int)
    · rw [if_pos c4] at H
      have c4b0 := eq_true c4
      have c4b1 : decide (0 ≤ (a1.size : Int)) = true := decide_eq_true c4
      clear c4
      by_cases c5 : (a1.size : Int) ≤ (a0.size : Int)
      · rw [if_pos c5] at H
        have c5b0 := eq_true c5
        have c5b1 : decide ((a1.size : Int) ≤ (a0.size : Int)) = true := decide_eq_true c5
        clear c5
        obtain rfl := Option.some.inj H
        go_enter Tryd.func45, Tryd.ntmps45
        go_wp2
        go_ret
        exact ⟨by first | rfl | (simp; done) | (simp [*]; done), by repeat (first | exact Drawn0.refl _ | apply Drawn0.step)⟩
      · rw [if_neg c5] at H
        exact absurd H (by simp)
    · rw [if_neg c4] at H
      exact absurd H (by simp)
  · rw [if_neg c3] at H
    have c3b0 : decide ((a1.size : Int) ≤ (a0.size : Int)) = false := decide_eq_false c3
    have c3b1 : decide (a1.size ≤ a0.size) = false := decide_eq_false (fun h => c3 (Int.ofNat_le.mpr h))
    clear c3
    obtain rfl := Option.some.inj H
    go_enter Tryd.func45, Tryd.ntmps45
    go_wp2
    go_ret
    exact ⟨by first | rfl | (simp; done) | (simp [*]; done), by repeat (first | exact Drawn0.refl _ | apply Drawn0.step)⟩

/-! ### strings_HasPrefix: function 26 -/
def strings_HasPrefix.f (a0 : ByteArray) (a1 : ByteArray) : Option (Bool) := (stringslite_HasPrefix.f a0 a1).bind fun t101 => (some t101)
set_option maxHeartbeats 8000000 in
set_option maxRecDepth 100000 in
theorem strings_HasPrefix.calls (a0 : ByteArray) (a1 : ByteArray) (r : Bool) (w : World) (h : strings_HasPrefix.f a0 a1 = some r) :
    Calls Tryd.prog 26 #[.string a0, .string a1] w fun e w' => e = .returned (.bool r) ∧ Drawn0 w w' := by
  have H : ((stringslite_HasPrefix.f a0 a1).bind fun t101 => (some t101)) = some r := h
  clear h
  replace H := Option.bind_eq_some_iff.mp H
  obtain ⟨t101, A30, H⟩ := H
  replace H : (some t101) = some r := H
  have A3 := Aside0.mk A30
  clear A30
  obtain rfl := Option.some.inj H
  go_enter Tryd.func26, Tryd.ntmps26
  go_wp2_with (first | ((with_reducible refine gate_callee (f := 45) rfl ?_); refine goesL_ (some 7) rfl rfl Tryd.func45 (by kernel_rfl) rfl #[.string a0, .string a1] rfl (by (try simp only [List.map_toArray, List.map_cons, List.map_nil]); first | done | rfl | (simp only [List.length_drop, List.length_take]; rfl)) ?_; (with_reducible refine (stringslite_HasPrefix.calls a0 a1 t101 _ A3.out).mono ?_); rintro e w' ⟨rfl, ⟨nd, rfl⟩⟩; refine ⟨_, rfl, ?_⟩))
  go_ret
  exact ⟨by first | rfl | (simp; done) | (simp [*]; done), by repeat (first | exact Drawn0.refl _ | apply Drawn0.step)⟩

-- NOT PRINTED: function 58 (bytealg_IndexString)

-- NOT PRINTED: function 59 (bytealg_Cutover)

-- NOT PRINTED: function 70 (bytealg_hashStr_string)

-- NOT PRINTED: function 60 (bytealg_IndexRabinKarp_string)

-- NOT PRINTED: function 46 (stringslite_Index)

-- NOT PRINTED: function 27 (strings_Index)

-- NOT PRINTED: function 28 (token_cutter_drop)

-- NOT PRINTED: function 15 (token_cutter_blanks)

-- NOT PRINTED: function 30 (token_cutter_lay)

-- NOT PRINTED: function 47 (utf8_decodeRuneInStringSlow)

/-! ### utf8_DecodeRuneInString: function 31 (given) -/
def utf8_DecodeRuneInString.f (a0 : ByteArray) : Option (Int × Int) := some (((Lib.decodeGo a0).1 : Int), ((Lib.decodeGo a0).2 : Int))
theorem utf8_DecodeRuneInString.calls (a0 : ByteArray) (r1 r2 : Int) (w : World) (h : utf8_DecodeRuneInString.f a0 = some (r1, r2)) (hT : Tabs w) :
    Calls Tryd.prog 31 #[.string a0] w fun e w' => e = .returned (.tuple #[.int .i32 r1, .int .i64 r2]) ∧ Below w.heap.size w w' := by
  unfold utf8_DecodeRuneInString.f at h
  injection h with h
  obtain ⟨rfl, rfl⟩ := Prod.mk.inj h
  exact Tryd.utf8_DecodeRuneInString a0 w hT.1

-- NOT PRINTED: function 32 (token_cutter_while)

/-! ### token_word: function 33 -/
def token_word.f (a0 : Int) : Option (Bool) := if a0 ≥ 1 then (some (decide (a0 ≤ 3))) else (some false)
set_option maxHeartbeats 8000000 in
set_option maxRecDepth 100000 in
theorem token_word.calls (a0 : Int) (r : Bool) (w : World) (h : token_word.f a0 = some r) :
    Calls Tryd.prog 33 #[.int .i64 a0] w fun e w' => e = .returned (.bool r) ∧ Drawn0 w w' := by
  have H : (if a0 ≥ 1 then (some (decide (a0 ≤ 3))) else (some false)) = some r := h
  clear h
  by_cases c2 : a0 ≥ 1
  · rw [if_pos c2] at H
    have c2b0 : decide (1 ≤ a0) = true := decide_eq_true c2
    clear c2
    obtain rfl := Option.some.inj H
    go_enter Tryd.func33, Tryd.ntmps33
    go_wp2
    go_ret
    exact ⟨by first | rfl | (simp; done) | (simp [*]; done), by repeat (first | exact Drawn0.refl _ | apply Drawn0.step)⟩
  · rw [if_neg c2] at H
    have c2b0 : decide (1 ≤ a0) = false := decide_eq_false c2
    clear c2
    obtain rfl := Option.some.inj H
    go_enter Tryd.func33, Tryd.ntmps33
    go_wp2
    go_ret
    exact ⟨by first | rfl | (simp; done) | (simp [*]; done), by repeat (first | exact Drawn0.refl _ | apply Drawn0.step)⟩

/-! ### stringslite_CutPrefix: function 61 -/
def stringslite_CutPrefix.f (a0 : ByteArray) (a1 : ByteArray) : Option (ByteArray × Bool) := (stringslite_HasPrefix.f a0 a1).bind fun t104 => (if t104 = true then (if 0 ≤ (a1.size : Int) then (if (a1.size : Int) ≤ (a0.size : Int) then (some (a0.extract ((a1.size : Int) : Int).toNat a0.size, true)) else (none)) else (none)) else (some (a0, false)))
set_option maxHeartbeats 8000000 in
set_option maxRecDepth 100000 in
theorem stringslite_CutPrefix.calls (a0 : ByteArray) (a1 : ByteArray) (r1 : ByteArray) (r2 : Bool) (w : World) (h : stringslite_CutPrefix.f a0 a1 = some (r1, r2)) :
    Calls Tryd.prog 61 #[.string a0, .string a1] w fun e w' => e = .returned (.tuple #[.string r1, .bool r2]) ∧ Drawn0 w w' := by
  have H : ((stringslite_HasPrefix.f a0 a1).bind fun t104 => (if t104 = true then (if 0 ≤ (a1.size : Int) then (if (a1.size : Int) ≤ (a0.size : Int) then (some (a0.extract ((a1.size : Int) : Int).toNat a0.size, true)) else (none)) else (none)) else (some (a0, false)))) = some (r1, r2) := h
  clear h
  replace H := Option.bind_eq_some_iff.mp H
  obtain ⟨t104, A30, H⟩ := H
  replace H : (if t104 = true then (if 0 ≤ (a1.size : Int) then (if (a1.size : Int) ≤ (a0.size : Int) then (some (a0.extract ((a1.size : Int) : Int).toNat a0.size, true)) else (none)) else (none)) else (some (a0, false))) = some (r1, r2) := H
  have A3 := Aside0.mk A30
  clear A30
  by_cases c4 : t104 = true
  · subst c4
    have H1 : (if 0 ≤ (a1.size : Int) then (if (a1.size : Int) ≤ (a0.size : Int) then (some (a0.extract ((a1.size : Int) : Int).toNat a0.size, true)) else (none)) else (none)) = some (r1, r2) := by rw [if_pos rfl] at H; exact H
    clear H
    have H := H1
    clear H1
    by_cases c5 : 0 ≤ (a1.size : Int)
    · rw [if_pos c5] at H
      have c5b0 := eq_true c5
      have c5b1 : decide (0 ≤ (a1.size : Int)) = true := decide_eq_true c5
      clear c5
      by_cases c6 : (a1.size : Int) ≤ (a0.size : Int)
      · rw [if_pos c6] at H
        have c6b0 := eq_true c6
        have c6b1 : decide ((a1.size : Int) ≤ (a0.size : Int)) = true := decide_eq_true c6
        clear c6
        simp only [Option.some.injEq, Prod.mk.injEq] at H
        obtain ⟨rfl, rfl⟩ := H
        go_enter Tryd.func61, Tryd.ntmps61
        go_wp2_with (first | ((with_reducible refine gate_callee (f := 45) rfl ?_); refine goesL_ (some 8) rfl rfl Tryd.func45 (by kernel_rfl) rfl #[.string a0, .string a1] rfl (by (try simp only [List.map_toArray, List.map_cons, List.map_nil]); first | done | rfl | (simp only [List.length_drop, List.length_take]; rfl)) ?_; (with_reducible refine (stringslite_HasPrefix.calls a0 a1 true _ A3.out).mono ?_); rintro e w' ⟨rfl, ⟨nd, rfl⟩⟩; refine ⟨_, rfl, ?_⟩))
        go_ret2
        exact ⟨by first | rfl | (simp; done) | (simp [*]; done), by repeat (first | exact Drawn0.refl _ | apply Drawn0.step)⟩
      · rw [if_neg c6] at H
        exact absurd H (by simp)
    · rw [if_neg c5] at H
      exact absurd H (by simp)
  · replace c4 := Bool.eq_false_iff.mpr c4
    subst c4
    have H1 : (some (a0, false)) = some (r1, r2) := by rw [if_neg (show ¬ (false = true) by decide)] at H; exact H
    clear H
    have H := H1
    clear H1
    simp only [Option.some.injEq, Prod.mk.injEq] at H
    obtain ⟨rfl, rfl⟩ := H
    go_enter Tryd.func61, Tryd.ntmps61
    go_wp2_with (first | ((with_reducible refine gate_callee (f := 45) rfl ?_); refine goesL_ (some 8) rfl rfl Tryd.func45 (by kernel_rfl) rfl #[.string a0, .string a1] rfl (by (try simp only [List.map_toArray, List.map_cons, List.map_nil]); first | done | rfl | (simp only [List.length_drop, List.length_take]; rfl)) ?_; (with_reducible refine (stringslite_HasPrefix.calls a0 a1 false _ A3.out).mono ?_); rintro e w' ⟨rfl, ⟨nd, rfl⟩⟩; refine ⟨_, rfl, ?_⟩))
    go_ret2
    exact ⟨by first | rfl | (simp; done) | (simp [*]; done), by repeat (first | exact Drawn0.refl _ | apply Drawn0.step)⟩

/-! ### strings_CutPrefix: function 48 -/
def strings_CutPrefix.f (a0 : ByteArray) (a1 : ByteArray) : Option (ByteArray × Bool) := (stringslite_CutPrefix.f a0 a1).bind fun bt105 => (some (bt105.1, bt105.2))
set_option maxHeartbeats 8000000 in
set_option maxRecDepth 100000 in
theorem strings_CutPrefix.calls (a0 : ByteArray) (a1 : ByteArray) (r1 : ByteArray) (r2 : Bool) (w : World) (h : strings_CutPrefix.f a0 a1 = some (r1, r2)) :
    Calls Tryd.prog 48 #[.string a0, .string a1] w fun e w' => e = .returned (.tuple #[.string r1, .bool r2]) ∧ Drawn0 w w' := by
  have H : ((stringslite_CutPrefix.f a0 a1).bind fun bt105 => (some (bt105.1, bt105.2))) = some (r1, r2) := h
  clear h
  replace H := Option.bind_eq_some_iff.mp H
  obtain ⟨⟨t105, t106⟩, A30, H⟩ := H
  replace H : (some (t105, t106)) = some (r1, r2) := H
  have A3 := Aside0.mk A30
  clear A30
  simp only [Option.some.injEq, Prod.mk.injEq] at H
  obtain ⟨rfl, rfl⟩ := H
  go_enter Tryd.func48, Tryd.ntmps48
  go_wp2_with (first | ((with_reducible refine gate_callee (f := 61) rfl ?_); refine goesL_ (some 8) rfl rfl Tryd.func61 (by kernel_rfl) rfl #[.string a0, .string a1] rfl (by (try simp only [List.map_toArray, List.map_cons, List.map_nil]); first | done | rfl | (simp only [List.length_drop, List.length_take]; rfl)) ?_; (with_reducible refine (stringslite_CutPrefix.calls a0 a1 t105 t106 _ A3.out).mono ?_); rintro e w' ⟨rfl, ⟨nd, rfl⟩⟩; refine ⟨_, rfl, ?_⟩))
  go_ret2
  exact ⟨by first | rfl | (simp; done) | (simp [*]; done), by repeat (first | exact Drawn0.refl _ | apply Drawn0.step)⟩

/-! ### token_digit: function 49 -/
def token_digit.f (a0 : Int) : Option (Bool) := some (a0 == 3)
set_option maxHeartbeats 8000000 in
set_option maxRecDepth 100000 in
theorem token_digit.calls (a0 : Int) (r : Bool) (w : World) (h : token_digit.f a0 = some r) :
    Calls Tryd.prog 49 #[.int .i64 a0] w fun e w' => e = .returned (.bool r) ∧ Drawn0 w w' := by
  have H : (some (a0 == 3)) = some r := h
  clear h
  obtain rfl := Option.some.inj H
  go_enter Tryd.func49, Tryd.ntmps49
  go_wp2
  go_ret
  exact ⟨by first | rfl | (simp; done) | (simp [*]; done), by repeat (first | exact Drawn0.refl _ | apply Drawn0.step)⟩

/-! ### num_over: function 62 -/
def num_over.f (a0 : Int) (a1 : Bool) : Option (Int × Int) := if a1 = true then (some (0, 10)) else (some (a0, 0))
set_option maxHeartbeats 8000000 in
set_option maxRecDepth 100000 in
theorem num_over.calls (a0 : Int) (a1 : Bool) (r1 : Int) (r2 : Int) (w : World) (h : num_over.f a0 a1 = some (r1, r2)) :
    Calls Tryd.prog 62 #[.int .i64 a0, .bool a1] w fun e w' => e = .returned (.tuple #[.int .i64 r1, .int .i64 r2]) ∧ Drawn0 w w' := by
  have H : (if a1 = true then (some (0, 10)) else (some (a0, 0))) = some (r1, r2) := h
  clear h
  by_cases c3 : a1 = true
  · subst c3
    have H1 : (some (0, 10)) = some (r1, r2) := by rw [if_pos rfl] at H; exact H
    clear H
    have H := H1
    clear H1
    simp only [Option.some.injEq, Prod.mk.injEq] at H
    obtain ⟨rfl, rfl⟩ := H
    go_enter Tryd.func62, Tryd.ntmps62
    go_wp2
    go_ret2
    exact ⟨by first | rfl | (simp; done) | (simp [*]; done), by repeat (first | exact Drawn0.refl _ | apply Drawn0.step)⟩
  · replace c3 := Bool.eq_false_iff.mpr c3
    subst c3
    have H1 : (some (a0, 0)) = some (r1, r2) := by rw [if_neg (show ¬ (false = true) by decide)] at H; exact H
    clear H
    have H := H1
    clear H1
    simp only [Option.some.injEq, Prod.mk.injEq] at H
    obtain ⟨rfl, rfl⟩ := H
    go_enter Tryd.func62, Tryd.ntmps62
    go_wp2
    go_ret2
    exact ⟨by first | rfl | (simp; done) | (simp [*]; done), by repeat (first | exact Drawn0.refl _ | apply Drawn0.step)⟩

/-! ### num_Read: function 50 (given) -/
def num_Read.f (a0 : ByteArray) : Option (Int × Int) := if a0.size ≤ 140737488351232 then some (readL a0.data.toList) else none

theorem num_Read.u64_add {a : Int} : IntKind.u64.wrap a = a % 18446744073709551616 := by first | rfl | (simp [IntKind.wrap]; done)

set_option maxHeartbeats 1000000 in
set_option maxRecDepth 100000 in
theorem num_Read.walk (s : ByteArray) (hs : s.size ≤ 140737488351232) (w : World) (R : Int × Int) (hR : R = readL s.data.toList) :
    Calls Tryd.prog 50 #[.string s] w fun e w' => e = .returned (.tuple #[.int .i64 R.1, .int .i64 R.2]) ∧ Below w.heap.size w w' := by
  by_cases h0 : 0 < s.size
  · by_cases hm : ((s[0].toNat : Int) == 45) = true
    · by_cases he : (s.extract 1 s.size).toList.isEmpty = true
      · have hr : R = (0, 20) := by rw [hR]; exact readL_minus_nil s h0 hm he
        subst hr
        clear hR
        go_enter Tryd.func50, Tryd.ntmps50
        go_wp2
        go_ret2
        exact ⟨rfl, Below.refl _ _⟩
      · replace he : (s.extract 1 s.size).toList.isEmpty = false := by simpa using he
        obtain ⟨t, ht⟩ : ∃ t, s.extract 1 s.size = t := ⟨_, rfl⟩
        rw [ht] at he
        have hlt : t.size ≤ 140737488351232 := by rw [← ht]; simp; omega
        have HL := Aside0.mk (readL_minus s t h0 hm ht he)
        rw [← hR] at HL
        clear hR
        go_enter Tryd.func50, Tryd.ntmps50
        go_wp2
        go_loopw [5, 6] (fun nv fv wr => ∃ (pos : Nat) (n : Int) (far : Bool), nv = .int .u64 n ∧ fv = .bool far ∧ wr = w.iter t pos ∧ Aside0 (pos ≤ t.size ∧ 0 ≤ n ∧ n < 18446744073709551616 ∧ scan (t.data.toList.drop pos) n far = scan t.data.toList 0 false)) (fun _ _ w' => t.size - w'.iterPos w.heap.size)
        case atStart => exact ⟨0, 0, false, rfl, rfl, rfl, ⟨by omega, by omega, by omega, by simp⟩⟩
        case round =>
          obtain ⟨pos, n, far, rfl, rfl, rfl, HA⟩ := hrel
          by_cases hp : pos < t.size
          · by_cases hasc : (t[pos]'hp).toNat < 128
            · have hnx : ∀ ty, (Instr.next (.pointer (some ⟨w.heap.size, 0, none⟩)) true ty).run Tryd.prog (w.iter t pos) = _ := fun ty => run_next_ascii w t pos ty hp hasc
              obtain ⟨c, hc⟩ : ∃ c : Int, c = ((t[pos]'hp).toNat : Int) := ⟨_, rfl⟩
              rw [← hc] at hnx
              have HC := Aside0.mk hc
              have hc0 : 0 ≤ c := by omega
              have hc1 : c < 128 := by omega
              clear hc hasc
              by_cases hlo : c < 48
              · have hr := scan_lo t hp HA.out.2.2.2 (by have := HC.out; omega)
                rw [hr] at HL
                have HR := HL.out
                subst HR
                clear hr HL
                go_wp2
                go_ret2
                exact ⟨rfl, below_iter w t _⟩
              · by_cases hhi : 57 < c
                · have hr := scan_hi t hp HA.out.2.2.2 (by have := HC.out; omega)
                  rw [hr] at HL
                  have HR := HL.out
                  subst HR
                  clear hr HL
                  go_wp2
                  go_ret2
                  exact ⟨rfl, below_iter w t _⟩
                · have hst := scan_step t hp HA.out.2.2.2 (by have := HC.out; omega) (by have := HC.out; omega)
                  rw [← HC.out] at hst
                  have HS := Aside0.mk hst
                  clear hst
                  have hn0 := HA.out.2.1
                  have hn1 := HA.out.2.2.1
                  have hps := HA.out.1
                  have e1 : IntKind.u64.wrap (10 * n) = _ := num_Read.u64_add
                  have e2 : IntKind.u64.wrap ((10 * n) % 18446744073709551616 + (c - 48)) = _ := num_Read.u64_add
                  cases far
                  · go_wp2
                    go_roundw
                    · exact ⟨pos + 1, _, _, rfl, rfl, rfl, ⟨by omega, by omega, by omega, by rw [← HS.out]; simp⟩⟩
                    · simp; omega
                  · go_wp2
                    go_roundw
                    · exact ⟨pos + 1, _, _, rfl, rfl, rfl, ⟨by omega, by omega, by omega, by rw [← HS.out]; simp⟩⟩
                    · simp; omega
            · have hnx : ∀ ty, (Instr.next (.pointer (some ⟨w.heap.size, 0, none⟩)) true ty).run Tryd.prog (w.iter t pos) = _ := fun ty => run_next_any w t pos ty hp
              have hd := (decode_high t pos hp (by omega)).1
              obtain ⟨c, hc⟩ : ∃ c : Nat, c = (Utf8.decode t pos).1 := ⟨_, rfl⟩
              rw [← hc] at hnx hd
              have hr := scan_hi t hp HA.out.2.2.2 (by omega)
              rw [hr] at HL
              have HR := HL.out
              subst HR
              clear hr HL hc
              go_wp2
              go_ret2
              exact ⟨rfl, below_iter w t _⟩
          · have hnx : ∀ ty, (Instr.next (.pointer (some ⟨w.heap.size, 0, none⟩)) true ty).run Tryd.prog (w.iter t pos) = _ := fun ty => run_next_end w t pos ty hp
            have hn0 := HA.out.2.1
            have hn1 := HA.out.2.2.1
            have hr := scan_end t hp HA.out.2.2.2
            rw [hr] at HL
            simp only at HL
            clear hr
            obtain ⟨q, hq⟩ : ∃ q, num_over.f (wrap64 (-wrap64 n)) far = some q := by unfold num_over.f; split <;> exact ⟨_, rfl⟩
            have HQ := HL.out
            have hq2 : q = R := by
              rw [HQ]; unfold num_over.f at hq; split at hq <;> (injection hq with hq; subst hq; rename_i hh; simp [hh])
            subst hq2
            clear HQ HL
            obtain ⟨q1, q2⟩ := q
            have HN := Aside0.mk (num_over.calls _ _ q1 q2 (w.iter t pos) hq)
            clear hq
            go_wp2_with (go_at_call 62; (with_reducible refine HN.out.mono ?_); rintro e w' ⟨rfl, ⟨nd, rfl⟩⟩)
            go_ret2
            exact ⟨rfl, pw_below_drewN (below_iter w t _) _⟩
    · replace hm : ((s[0].toNat : Int) == 45) = false := by simpa using hm
      have he : s.toList.isEmpty = false := toList_ne s h0
      obtain ⟨t, ht⟩ : ∃ t, t = s := ⟨_, rfl⟩
      subst ht
      have hlt := hs
      have HL := Aside0.mk (readL_plain t h0 hm)
      rw [← hR] at HL
      clear hR
      go_enter Tryd.func50, Tryd.ntmps50
      go_wp2
      go_loopw [5, 6] (fun nv fv wr => ∃ (pos : Nat) (n : Int) (far : Bool), nv = .int .u64 n ∧ fv = .bool far ∧ wr = w.iter t pos ∧ Aside0 (pos ≤ t.size ∧ 0 ≤ n ∧ n < 18446744073709551616 ∧ scan (t.data.toList.drop pos) n far = scan t.data.toList 0 false)) (fun _ _ w' => t.size - w'.iterPos w.heap.size)
      case atStart => exact ⟨0, 0, false, rfl, rfl, rfl, ⟨by omega, by omega, by omega, by simp⟩⟩
      case round =>
        obtain ⟨pos, n, far, rfl, rfl, rfl, HA⟩ := hrel
        by_cases hp : pos < t.size
        · by_cases hasc : (t[pos]'hp).toNat < 128
          · have hnx : ∀ ty, (Instr.next (.pointer (some ⟨w.heap.size, 0, none⟩)) true ty).run Tryd.prog (w.iter t pos) = _ := fun ty => run_next_ascii w t pos ty hp hasc
            obtain ⟨c, hc⟩ : ∃ c : Int, c = ((t[pos]'hp).toNat : Int) := ⟨_, rfl⟩
            rw [← hc] at hnx
            have HC := Aside0.mk hc
            have hc0 : 0 ≤ c := by omega
            have hc1 : c < 128 := by omega
            clear hc hasc
            by_cases hlo : c < 48
            · have hr := scan_lo t hp HA.out.2.2.2 (by have := HC.out; omega)
              rw [hr] at HL
              have HR := HL.out
              subst HR
              clear hr HL
              go_wp2
              go_ret2
              exact ⟨rfl, below_iter w t _⟩
            · by_cases hhi : 57 < c
              · have hr := scan_hi t hp HA.out.2.2.2 (by have := HC.out; omega)
                rw [hr] at HL
                have HR := HL.out
                subst HR
                clear hr HL
                go_wp2
                go_ret2
                exact ⟨rfl, below_iter w t _⟩
              · have hst := scan_step t hp HA.out.2.2.2 (by have := HC.out; omega) (by have := HC.out; omega)
                rw [← HC.out] at hst
                have HS := Aside0.mk hst
                clear hst
                have hn0 := HA.out.2.1
                have hn1 := HA.out.2.2.1
                have hps := HA.out.1
                have e1 : IntKind.u64.wrap (10 * n) = _ := num_Read.u64_add
                have e2 : IntKind.u64.wrap ((10 * n) % 18446744073709551616 + (c - 48)) = _ := num_Read.u64_add
                cases far
                · go_wp2
                  go_roundw
                  · exact ⟨pos + 1, _, _, rfl, rfl, rfl, ⟨by omega, by omega, by omega, by rw [← HS.out]; simp⟩⟩
                  · simp; omega
                · go_wp2
                  go_roundw
                  · exact ⟨pos + 1, _, _, rfl, rfl, rfl, ⟨by omega, by omega, by omega, by rw [← HS.out]; simp⟩⟩
                  · simp; omega
          · have hnx : ∀ ty, (Instr.next (.pointer (some ⟨w.heap.size, 0, none⟩)) true ty).run Tryd.prog (w.iter t pos) = _ := fun ty => run_next_any w t pos ty hp
            have hd := (decode_high t pos hp (by omega)).1
            obtain ⟨c, hc⟩ : ∃ c : Nat, c = (Utf8.decode t pos).1 := ⟨_, rfl⟩
            rw [← hc] at hnx hd
            have hr := scan_hi t hp HA.out.2.2.2 (by omega)
            rw [hr] at HL
            have HR := HL.out
            subst HR
            clear hr HL hc
            go_wp2
            go_ret2
            exact ⟨rfl, below_iter w t _⟩
        · have hnx : ∀ ty, (Instr.next (.pointer (some ⟨w.heap.size, 0, none⟩)) true ty).run Tryd.prog (w.iter t pos) = _ := fun ty => run_next_end w t pos ty hp
          have hn0 := HA.out.2.1
          have hn1 := HA.out.2.2.1
          have hr := scan_end t hp HA.out.2.2.2
          rw [hr] at HL
          simp only at HL
          clear hr
          have HQ := HL.out
          cases far
          · obtain ⟨q, hq⟩ : ∃ q, num_over.f (wrap64 n) (decide (9223372036854775807 < n)) = some q := by unfold num_over.f; split <;> exact ⟨_, rfl⟩
            have hq2 : q = R := by
              rw [HQ]; unfold num_over.f at hq; split at hq <;> (injection hq with hq; subst hq; rename_i hh; simp at hh; simp [hh])
            subst hq2
            clear HQ HL
            obtain ⟨q1, q2⟩ := q
            have HN := Aside0.mk (num_over.calls _ _ q1 q2 (w.iter t pos) hq)
            clear hq
            go_wp2_with (go_at_call 62; (with_reducible refine HN.out.mono ?_); rintro e w' ⟨rfl, ⟨nd, rfl⟩⟩)
            go_ret2
            exact ⟨rfl, pw_below_drewN (below_iter w t _) _⟩
          · obtain ⟨q, hq⟩ : ∃ q, num_over.f (wrap64 n) true = some q := by unfold num_over.f; split <;> exact ⟨_, rfl⟩
            have hq2 : q = R := by
              rw [HQ]; unfold num_over.f at hq; simp at hq; simp [hq]
            subst hq2
            clear HQ HL
            obtain ⟨q1, q2⟩ := q
            have HN := Aside0.mk (num_over.calls _ _ q1 q2 (w.iter t pos) hq)
            clear hq
            go_wp2_with (go_at_call 62; (with_reducible refine HN.out.mono ?_); rintro e w' ⟨rfl, ⟨nd, rfl⟩⟩)
            go_ret2
            exact ⟨rfl, pw_below_drewN (below_iter w t _) _⟩
  · have he : s.toList.isEmpty = true := toList_nil s h0
    have hr : R = (0, 20) := by rw [hR]; exact readL_nil s h0
    subst hr
    clear hR
    go_enter Tryd.func50, Tryd.ntmps50
    go_wp2
    go_ret2
    exact ⟨rfl, Below.refl _ _⟩

theorem num_Read.calls (a0 : ByteArray) (r1 : Int) (r2 : Int) (w : World) (h : num_Read.f a0 = some (r1, r2)) :
    Calls Tryd.prog 50 #[.string a0] w fun e w' => e = .returned (.tuple #[.int .i64 r1, .int .i64 r2]) ∧ Below w.heap.size w w' := by
  unfold num_Read.f at h
  split at h
  case isTrue hs => exact num_Read.walk a0 hs w (r1, r2) (Option.some.inj h).symm
  case isFalse => exact absurd h (by simp)

-- NOT PRINTED: function 34 (token_cutter_number)

/-! ### token_sign: function 35 -/
def token_sign.f (a0 : Int) : Option (Bool) := some (a0 == 4)
set_option maxHeartbeats 8000000 in
set_option maxRecDepth 100000 in
theorem token_sign.calls (a0 : Int) (r : Bool) (w : World) (h : token_sign.f a0 = some r) :
    Calls Tryd.prog 35 #[.int .i64 a0] w fun e w' => e = .returned (.bool r) ∧ Drawn0 w w' := by
  have H : (some (a0 == 4)) = some r := h
  clear h
  obtain rfl := Option.some.inj H
  go_enter Tryd.func35, Tryd.ntmps35
  go_wp2
  go_ret
  exact ⟨by first | rfl | (simp; done) | (simp [*]; done), by repeat (first | exact Drawn0.refl _ | apply Drawn0.step)⟩

-- NOT PRINTED: function 51 (strings_Builder_String)

-- NOT PRINTED: function 77 (strconv_lower)

-- NOT PRINTED: function 78 (strconv_underscoreOK)

-- NOT PRINTED: function 75 (strconv_ParseUint_75)

-- NOT PRINTED: function 83 (stringslite_Clone)

-- NOT PRINTED: function 79 (strconv_syntaxError)

-- NOT PRINTED: function 80 (strconv_rangeError)

-- NOT PRINTED: function 84 (errors_New)

-- NOT PRINTED: function 88 (strconv_small)

-- NOT PRINTED: function 92 (strconv_log10Pow2)

-- NOT PRINTED: function 93 (bits_Len64)

-- NOT PRINTED: function 94 (strconv_bool2_int)

-- NOT PRINTED: function 89 (strconv_numDigits)

-- NOT PRINTED: function 90 (strconv_formatBase10)

-- NOT PRINTED: function 95 (strconv_isPowerOfTwo)

-- NOT PRINTED: function 97 (bits_TrailingZeros32)

-- NOT PRINTED: function 98 (bits_TrailingZeros64)

-- NOT PRINTED: function 96 (bits_TrailingZeros)

-- NOT PRINTED: function 91 (strconv_formatBits)

-- NOT PRINTED: function 87 (strconv_FormatInt)

-- NOT PRINTED: function 86 (strconv_Itoa_86)

-- NOT PRINTED: function 85 (strconv_Itoa_85)

-- NOT PRINTED: function 81 (strconv_baseError)

-- NOT PRINTED: function 82 (strconv_bitSizeError)

-- NOT PRINTED: function 76 (strconv_toError)

-- NOT PRINTED: function 71 (strconv_ParseUint_71)

/-! ### utf8_ValidRune: function 72 -/
def utf8_ValidRune.j0 : Nat → Int → Bool → Option (Bool)
  | 0, _, _ => none
  | k + 1, x0, x3 => if x3 = true then (some true) else (if 57343 < x0 then (if x0 ≤ 1114111 then (some true) else (some false)) else (some false))
def utf8_ValidRune.f (k : Nat) (a0 : Int) : Option (Bool) := if 0 ≤ a0 then (utf8_ValidRune.j0 k a0 (decide (a0 < 55296))) else (utf8_ValidRune.j0 k a0 false)
theorem utf8_ValidRune.mono_l : ∀ k, (∀ y0 y1, LeO (utf8_ValidRune.j0 k y0 y1) (utf8_ValidRune.j0 (k + 1) y0 y1))
  | 0 => fun _ _ r h => by simp [utf8_ValidRune.j0] at h
  | k + 1 => by
    have ih0 := utf8_ValidRune.mono_l k
    · intro y0 y1
      unfold utf8_ValidRune.j0
      repeat' first
      | (with_reducible exact ih0 _ _)
      | (with_reducible exact LeO.refl _)
      | (with_reducible exact LeO.none _)
      | (with_reducible refine LeO.ite ?_ ?_)
      | (with_reducible refine LeO.bind ?_ (fun _ => ?_))
      | exact ih0 _ _
      | exact LeO.none _
      | refine LeO.ite ?_ ?_
      | refine LeO.bind ?_ (fun _ => ?_)
theorem utf8_ValidRune.mono : ∀ a0 k, LeO (utf8_ValidRune.f k a0) (utf8_ValidRune.f (k + 1) a0) := by
  intro a0 k
  have ih0 := utf8_ValidRune.mono_l k
  unfold utf8_ValidRune.f
  repeat' first
      | (with_reducible exact ih0 _ _)
      | (with_reducible exact LeO.refl _)
      | (with_reducible exact LeO.none _)
      | (with_reducible refine LeO.ite ?_ ?_)
      | (with_reducible refine LeO.bind ?_ (fun _ => ?_))
      | exact ih0 _ _
      | exact LeO.none _
      | refine LeO.ite ?_ ?_
      | refine LeO.bind ?_ (fun _ => ?_)
set_option maxHeartbeats 8000000 in
set_option maxRecDepth 100000 in
theorem utf8_ValidRune.calls (k : Nat) (a0 : Int) (r : Bool) (w : World) (h : utf8_ValidRune.f k a0 = some r) :
    Calls Tryd.prog 72 #[.int .i32 a0] w fun e w' => e = .returned (.bool r) ∧ Drawn0 w w' := by
  have H : (if 0 ≤ a0 then (utf8_ValidRune.j0 k a0 (decide (a0 < 55296))) else (utf8_ValidRune.j0 k a0 false)) = some r := h
  clear h
  have HC2 := Aside0.mk H
  clear H
  go_enter Tryd.func72, Tryd.ntmps72
  go_upto_region 1 with (fail)
  go_cut [3] (fun v3 wc => ∃ (kq : Nat) (x3_1 : Bool), v3 = .bool x3_1 ∧ Aside0 (utf8_ValidRune.j0 kq a0 x3_1 = some r) ∧ Aside0 (kq ≤ k) ∧ Drawn0 w wc)
  case first =>
    have H := HC2.out
    clear HC2
    by_cases c3 : 0 ≤ a0
    · rw [if_pos c3] at H
      have c3b0 : decide (0 ≤ a0) = true := decide_eq_true c3
      clear c3
      (first | rw [c3b0] | (simp only [i64_w, i32_w]; rw [c3b0]) | skip)
      have H' := Aside0.mk H
      clear H
      go_wp2
      go_meet
      case rel => exact ⟨_, (decide (a0 < 55296)), (by first | rfl | (simp; done) | (simp [*]; done)), H', ⟨by first | omega | exact Nat.le_refl _⟩, by repeat (first | exact Drawn0.refl _ | apply Drawn0.step)⟩
    · rw [if_neg c3] at H
      have c3b0 : decide (0 ≤ a0) = false := decide_eq_false c3
      clear c3
      (first | rw [c3b0] | (simp only [i64_w, i32_w]; rw [c3b0]) | skip)
      have H' := Aside0.mk H
      clear H
      go_wp2
      go_meet
      case rel => exact ⟨_, (false), (by first | rfl | (simp; done) | (simp [*]; done)), H', ⟨by first | omega | exact Nat.le_refl _⟩, by repeat (first | exact Drawn0.refl _ | apply Drawn0.step)⟩
  case rest =>
    clear HC2
    try clear p2
    try clear c3
    try clear c3b0
    obtain ⟨kq, x3_1, rfl, HA, HJ1, ⟨mc1, rfl⟩⟩ := hcut
    cases kq with
    | zero => exact absurd HA.out (by simp [utf8_ValidRune.j0])
    | succ kj1 =>
      have H := HA.out
      clear HA
      simp only [utf8_ValidRune.j0] at H
      by_cases c4 : x3_1 = true
      · subst c4
        have H1 : (some true) = some r := by rw [if_pos rfl] at H; exact H
        clear H
        have H := H1
        clear H1
        obtain rfl := Option.some.inj H
        go_wp2
        go_ret
        exact ⟨by first | rfl | (simp; done) | (simp [*]; done), by repeat (first | exact Drawn0.refl _ | apply Drawn0.step)⟩
      · replace c4 := Bool.eq_false_iff.mpr c4
        subst c4
        have H1 : (if 57343 < a0 then (if a0 ≤ 1114111 then (some true) else (some false)) else (some false)) = some r := by rw [if_neg (show ¬ (false = true) by decide)] at H; exact H
        clear H
        have H := H1
        clear H1
        by_cases c5 : 57343 < a0
        · rw [if_pos c5] at H
          have c5b0 : decide (57343 < a0) = true := decide_eq_true c5
          clear c5
          by_cases c6 : a0 ≤ 1114111
          · rw [if_pos c6] at H
            have c6b0 : decide (a0 ≤ 1114111) = true := decide_eq_true c6
            clear c6
            obtain rfl := Option.some.inj H
            go_wp2
            go_ret
            exact ⟨by first | rfl | (simp; done) | (simp [*]; done), by repeat (first | exact Drawn0.refl _ | apply Drawn0.step)⟩
          · rw [if_neg c6] at H
            have c6b0 : decide (a0 ≤ 1114111) = false := decide_eq_false c6
            clear c6
            obtain rfl := Option.some.inj H
            go_wp2
            go_ret
            exact ⟨by first | rfl | (simp; done) | (simp [*]; done), by repeat (first | exact Drawn0.refl _ | apply Drawn0.step)⟩
        · rw [if_neg c5] at H
          have c5b0 : decide (57343 < a0) = false := decide_eq_false c5
          clear c5
          obtain rfl := Option.some.inj H
          go_wp2
          go_ret
          exact ⟨by first | rfl | (simp; done) | (simp [*]; done), by repeat (first | exact Drawn0.refl _ | apply Drawn0.step)⟩

end Go.Proofs.YtjichkjnodabiaaDoor.P
