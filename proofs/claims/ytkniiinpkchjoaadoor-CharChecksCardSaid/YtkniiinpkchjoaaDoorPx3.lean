-- PRINTED by a program of this session over the kit's print.py.
import Derived.Test.YtkniiinpkchjoaaDoorPx0
import Derived.Test.YtkniiinpkchjoaaDoorPx1
import Derived.Test.YtkniiinpkchjoaaDoorPx2
namespace Go.Proofs.YtkniiinpkchjoaaDoor.P
open Go.Own Go.RowKit Go.Proofs.YtkniiinpkchjoaaDoorW.PrintWords Go.Proofs.YtkniiinpkchjoaaDoorW.PrintLast Go.Proofs.YtkniiinpkchjoaaDoorW.PrintMore
attribute [local go_sem] max2_int min2_int max_two min_two max_three min_three max_four min_four   -- for this text's walks alone
set_option linter.unusedVariables false
set_option linter.unusedSimpArgs false

/-! ### char_Bare: function 15 (given) -/
def classN.c5 (x : Int) : Int := if 65 ≤ x ∧ x ≤ 90 then 2 else if 48 ≤ x ∧ x ≤ 57 then 3 else 0
def classN.c4 (x : Int) : Int := if 97 ≤ x ∧ x ≤ 122 then 1 else classN.c5 x
def classN.c3 (x : Int) : Int := if x = 39 then 8 else if x = 95 then 2 else classN.c4 x
def classN.c2 (x : Int) : Int := if x = 40 then 7 else if x = 41 then 7 else if x = 91 then 7 else if x = 93 then 7 else if x = 123 then 7 else if x = 125 then 7 else classN.c3 x
def classN.c1 (x : Int) : Int := if x = 33 then 6 else if x = 59 then 6 else if x = 44 then 6 else if x = 124 then 6 else classN.c2 x
def classN.c0 (x : Int) : Int := if x = 9 then 5 else if x = 10 then 5 else if x = 13 then 5 else if x = 32 then 5 else classN.c1 x
/-- a rune's class -/
def classN (x : Int) : Int := if x = 43 then 4 else if x = 45 then 4 else if x = 42 then 4 else if x = 47 then 4 else if x = 92 then 4 else if x = 94 then 4 else if x = 60 then 4 else if x = 62 then 4 else if x = 61 then 4 else if x = 126 then 4 else if x = 58 then 4 else if x = 46 then 4 else if x = 63 then 4 else if x = 64 then 4 else if x = 35 then 4 else if x = 38 then 4 else if x = 36 then 4 else classN.c0 x
theorem classN.e5 (k : Nat) (x : Int) (b : Bool) : char_Class.j4 (k + 2) x b = some (if b = true then 1 else classN.c5 x) := by
  cases b
  · simp only [char_Class.j4, char_Class.j5, classN.c5]
    by_cases h1 : 65 ≤ x <;> by_cases h2 : x ≤ 90 <;> by_cases h3 : 48 ≤ x <;> by_cases h4 : x ≤ 57 <;> simp [h1, h2, h3, h4]
  · simp [char_Class.j4]
theorem classN.e4 (k : Nat) (x y : Int) (b : Bool) : char_Class.j3 (k + 3) x y b = some (if b = true then 7 else if y = 39 then 8 else if y = 95 then 2 else classN.c4 x) := by
  cases b
  · simp only [char_Class.j3, classN.e5, classN.c4]
    by_cases h1 : 97 ≤ x <;> by_cases h2 : x ≤ 122 <;> by_cases h3 : y = 39 <;> by_cases h4 : y = 95 <;> simp [h1, h2, h3, h4]
  · simp [char_Class.j3]
theorem classN.e3 (k : Nat) (x : Int) (b : Bool) : char_Class.j2 (k + 4) x x b = some (if b = true then 6 else classN.c2 x) := by
  cases b
  · simp only [char_Class.j2, classN.e4, classN.c2, classN.c3]
    by_cases h1 : x = 40 <;> by_cases h2 : x = 41 <;> by_cases h3 : x = 91 <;> by_cases h4 : x = 93 <;> by_cases h5 : x = 123 <;> by_cases h6 : x = 125 <;> simp [h1, h2, h3, h4, h5, h6]
  · simp [char_Class.j2]
theorem classN.e2 (k : Nat) (x : Int) (b : Bool) : char_Class.j1 (k + 5) x x b = some (if b = true then 5 else classN.c1 x) := by
  cases b
  · simp only [char_Class.j1, classN.e3, classN.c1]
    by_cases h1 : x = 33 <;> by_cases h2 : x = 59 <;> by_cases h3 : x = 44 <;> by_cases h4 : x = 124 <;> simp [h1, h2, h3, h4]
  · simp [char_Class.j1]
theorem classN.e1 (k : Nat) (x : Int) (b : Bool) : char_Class.j0 (k + 6) x x b = some (if b = true then 4 else classN.c0 x) := by
  cases b
  · simp only [char_Class.j0, classN.e2, classN.c0]
    by_cases h1 : x = 9 <;> by_cases h2 : x = 10 <;> by_cases h3 : x = 13 <;> by_cases h4 : x = 32 <;> simp [h1, h2, h3, h4]
  · simp [char_Class.j0]
theorem class_all (k : Nat) (x : Int) : char_Class.f (k + 6) x = some (classN x) := by
  unfold char_Class.f classN
  simp only [classN.e1]
  by_cases h43 : x = 43
  · rw [if_pos h43, if_pos h43, if_pos (by simpa using h43)]
  rw [if_neg h43, if_neg h43]
  by_cases h45 : x = 45
  · rw [if_pos h45, if_pos h45, if_pos (by simpa using h45)]
  rw [if_neg h45, if_neg h45]
  by_cases h42 : x = 42
  · rw [if_pos h42, if_pos h42, if_pos (by simpa using h42)]
  rw [if_neg h42, if_neg h42]
  by_cases h47 : x = 47
  · rw [if_pos h47, if_pos h47, if_pos (by simpa using h47)]
  rw [if_neg h47, if_neg h47]
  by_cases h92 : x = 92
  · rw [if_pos h92, if_pos h92, if_pos (by simpa using h92)]
  rw [if_neg h92, if_neg h92]
  by_cases h94 : x = 94
  · rw [if_pos h94, if_pos h94, if_pos (by simpa using h94)]
  rw [if_neg h94, if_neg h94]
  by_cases h60 : x = 60
  · rw [if_pos h60, if_pos h60, if_pos (by simpa using h60)]
  rw [if_neg h60, if_neg h60]
  by_cases h62 : x = 62
  · rw [if_pos h62, if_pos h62, if_pos (by simpa using h62)]
  rw [if_neg h62, if_neg h62]
  by_cases h61 : x = 61
  · rw [if_pos h61, if_pos h61, if_pos (by simpa using h61)]
  rw [if_neg h61, if_neg h61]
  by_cases h126 : x = 126
  · rw [if_pos h126, if_pos h126, if_pos (by simpa using h126)]
  rw [if_neg h126, if_neg h126]
  by_cases h58 : x = 58
  · rw [if_pos h58, if_pos h58, if_pos (by simpa using h58)]
  rw [if_neg h58, if_neg h58]
  by_cases h46 : x = 46
  · rw [if_pos h46, if_pos h46, if_pos (by simpa using h46)]
  rw [if_neg h46, if_neg h46]
  by_cases h63 : x = 63
  · rw [if_pos h63, if_pos h63, if_pos (by simpa using h63)]
  rw [if_neg h63, if_neg h63]
  by_cases h64 : x = 64
  · rw [if_pos h64, if_pos h64, if_pos (by simpa using h64)]
  rw [if_neg h64, if_neg h64]
  by_cases h35 : x = 35
  · rw [if_pos h35, if_pos h35, if_pos (by simpa using h35)]
  rw [if_neg h35, if_neg h35]
  by_cases h38 : x = 38
  · rw [if_pos h38, if_pos h38, if_pos (by simpa using h38)]
  rw [if_neg h38, if_neg h38]
  by_cases h : x = 36
  · rw [if_pos (by simpa using h), if_pos h]
  · rw [if_neg (by simpa using h), if_neg h]
theorem class_some (c : Int) : char_Class.f 8 c = some (classN c) := class_all 2 c
/-- what char.Bare tells of the runes that are left -/
def char_Bare.go (n : Int) : Int → List (Nat × Nat) → Bool
  | _, [] => decide (n ≤ 255)
  | a, x :: l =>
    if (if x.1 = 0 then classN x.2 else a) = 1 then (if classN x.2 < 1 then false else if classN x.2 > 3 then false else char_Bare.go n (if x.1 = 0 then classN x.2 else a) l)
    else if (if x.1 = 0 then classN x.2 else a) = 4 then (if classN x.2 = 4 then char_Bare.go n (if x.1 = 0 then classN x.2 else a) l else false) else false
theorem pre_some (a b : ByteArray) : ∃ r, strings_HasPrefix.f a b = some r := by
  unfold strings_HasPrefix.f stringslite_HasPrefix.f
  by_cases h : (a.size : Int) ≥ (b.size : Int)
  · rw [if_pos h, if_pos (by omega), if_pos (by omega)]; exact ⟨_, rfl⟩
  · rw [if_neg h]; exact ⟨_, rfl⟩
def preB (a b : ByteArray) : Bool := (strings_HasPrefix.f a b).getD false
theorem preB_eq (a b : ByteArray) : strings_HasPrefix.f a b = some (preB a b) := by
  obtain ⟨r, h⟩ := pre_some a b
  unfold preB
  rw [h]; rfl
def char_Bare.val (a0 : ByteArray) : Bool :=
  if a0.toList = ([91, 93] : List UInt8) then true else if a0.toList = ([123, 125] : List UInt8) then true else if a0.toList = ([33] : List UInt8) then true else if a0.toList = ([59] : List UInt8) then true
  else if a0.toList = ([] : List UInt8) then false else if a0.toList = ([46] : List UInt8) then false else if preB a0 (⟨#[47, 42]⟩ : ByteArray) = true then false else char_Bare.go a0.size 0 (runesOf a0)
def char_Bare.f (a0 : ByteArray) : Option Bool := if a0.size ≤ 9223372036854775807 then some (char_Bare.val a0) else none
theorem drawn_heap {w w' : World} (h : Drawn0 w w') : w'.heap = w.heap := by
  obtain ⟨n, rfl⟩ := h
  induction n generalizing w with
  | zero => rfl
  | succ n ih => exact (ih (w := w.drew)).trans rfl
set_option maxRecDepth 100000 in
set_option maxHeartbeats 2000000 in
theorem char_Bare.walk (s : ByteArray) (w : World) (hs : s.size ≤ 9223372036854775807) :
    Calls Tryd.prog 15 #[.string s] w fun e w' => e = .returned (.bool (char_Bare.val s)) ∧ Below w.heap.size w w' := by
  unfold char_Bare.val
  by_cases c1 : s.toList = ([91, 93] : List UInt8)
  · rw [if_pos c1]
    have d1 : (s.toList == ([91, 93] : List UInt8)) = true := beq_iff_eq.mpr c1
    clear c1
    go_enter Tryd.func15, Tryd.ntmps15
    go_wp2
    go_ret
    exact ⟨rfl, Below.refl _ _⟩
  rw [if_neg c1]
  have d1 : (s.toList == ([91, 93] : List UInt8)) = false := beq_eq_false_iff_ne.mpr c1
  clear c1
  by_cases c2 : s.toList = ([123, 125] : List UInt8)
  · rw [if_pos c2]
    have d2 : (s.toList == ([123, 125] : List UInt8)) = true := beq_iff_eq.mpr c2
    clear c2
    go_enter Tryd.func15, Tryd.ntmps15
    go_wp2
    go_ret
    exact ⟨rfl, Below.refl _ _⟩
  rw [if_neg c2]
  have d2 : (s.toList == ([123, 125] : List UInt8)) = false := beq_eq_false_iff_ne.mpr c2
  clear c2
  by_cases c3 : s.toList = ([33] : List UInt8)
  · rw [if_pos c3]
    have d3 : (s.toList == ([33] : List UInt8)) = true := beq_iff_eq.mpr c3
    clear c3
    go_enter Tryd.func15, Tryd.ntmps15
    go_wp2
    go_ret
    exact ⟨rfl, Below.refl _ _⟩
  rw [if_neg c3]
  have d3 : (s.toList == ([33] : List UInt8)) = false := beq_eq_false_iff_ne.mpr c3
  clear c3
  by_cases c4 : s.toList = ([59] : List UInt8)
  · rw [if_pos c4]
    have d4 : (s.toList == ([59] : List UInt8)) = true := beq_iff_eq.mpr c4
    clear c4
    go_enter Tryd.func15, Tryd.ntmps15
    go_wp2
    go_ret
    exact ⟨rfl, Below.refl _ _⟩
  rw [if_neg c4]
  have d4 : (s.toList == ([59] : List UInt8)) = false := beq_eq_false_iff_ne.mpr c4
  clear c4
  by_cases c5 : s.toList = ([] : List UInt8)
  · rw [if_pos c5]
    have d5 : (s.toList == ([] : List UInt8)) = true := beq_iff_eq.mpr c5
    have d5b : s.toList.isEmpty = true := by rw [c5]; rfl
    clear c5
    go_enter Tryd.func15, Tryd.ntmps15
    go_wp2
    go_ret
    exact ⟨rfl, Below.refl _ _⟩
  rw [if_neg c5]
  have d5 : (s.toList == ([] : List UInt8)) = false := beq_eq_false_iff_ne.mpr c5
  have d5b : s.toList.isEmpty = false := by cases h : s.toList with
    | nil => exact absurd h c5
    | cons _ _ => rfl
  clear c5
  by_cases c6 : s.toList = ([46] : List UInt8)
  · rw [if_pos c6]
    have d6 : (s.toList == ([46] : List UInt8)) = true := beq_iff_eq.mpr c6
    clear c6
    go_enter Tryd.func15, Tryd.ntmps15
    go_wp2
    go_ret
    exact ⟨rfl, Below.refl _ _⟩
  rw [if_neg c6]
  have d6 : (s.toList == ([46] : List UInt8)) = false := beq_eq_false_iff_ne.mpr c6
  clear c6
  have hp := preB_eq s (⟨#[47, 42]⟩ : ByteArray)
  generalize preB s (⟨#[47, 42]⟩ : ByteArray) = pb at hp ⊢
  have HP := Aside0.mk hp
  clear hp
  cases pb with
  | true =>
    rw [if_pos rfl]
    go_enter Tryd.func15, Tryd.ntmps15
    go_wp2_with (go_at_call 24; (with_reducible refine (strings_HasPrefix.calls _ _ _ _ HP.out).mono ?_); rintro e w2 ⟨rfl, hd⟩; have HD := Aside0.mk hd; clear hd)
    go_ret
    exact ⟨rfl, HD.out.below⟩
  | false =>
    rw [if_neg (by simp)]
    go_enter Tryd.func15, Tryd.ntmps15
    go_wp2_with (go_at_call 24; (with_reducible refine (strings_HasPrefix.calls _ _ _ _ HP.out).mono ?_); rintro e w2 ⟨rfl, hd⟩; have HD := Aside0.mk hd; clear hd)
    go_loopw [3] (fun fv wr => ∃ (pos fuel : Nat) (a : Int), fv = .int .i64 a ∧ wr.heap[w2.heap.size]? = some (.stringIter s pos) ∧ Aside0 (Below w2.heap.size w2 wr) ∧ Aside0 (s.size ≤ pos + fuel ∧ char_Bare.go s.size a (runesAt s fuel pos) = char_Bare.go s.size 0 (runesOf s))) (fun _ wr => s.size - wr.iterPos w2.heap.size)
    case atStart => exact ⟨0, s.size, 0, rfl, World.iter_heap w2 s 0, ⟨(Below.refl _ w2).alloc (Nat.le_refl _) _⟩, ⟨by omega, rfl⟩⟩
    case round =>
      obtain ⟨pos, fuel, a, rfl, hit, HB, HA⟩ := hrel
      have HIT := Aside0.mk hit
      by_cases hp : pos < s.size
      · have hnx : ∀ ty, (Instr.next (.pointer (some ⟨w2.heap.size, 0, none⟩)) true ty).run Tryd.prog wr = _ := fun ty => Lib.run_next_any_at wr w2.heap.size s pos ty hit hp
        clear hit
        obtain ⟨f', -, hf', hst⟩ := runesAt_step hp HA.out.1
        have hgo := HA.out.2
        rw [hst] at hgo
        clear hst
        have hwd := Lib.decode_width_pos s pos hp
        generalize hc : (Utf8.decode s pos).1 = c at hgo hnx
        generalize hn : (Utf8.decode s pos).2 = n at hgo hnx hf' hwd
        obtain ⟨kk, hkk⟩ : ∃ kk, classN c = kk := ⟨_, rfl⟩
        have HC := Aside0.mk (hkk ▸ class_some c)
        simp only [char_Bare.go, hkk] at hgo
        have HF := Aside0.mk hf'
        have HW := Aside0.mk (And.intro hwd hp)
        have HB2 := Aside0.mk (Lib.below_iterAt HB.out (Nat.le_refl _) s (pos + n))
        have HI2 := Aside0.mk (Lib.iterAt_heap wr w2.heap.size s pos (pos + n) HIT.out)
        clear hkk hc hn hf' hwd HA
        by_cases h0 : pos = 0
        · rw [if_pos h0] at hgo
          have hz : ((pos : Int) == 0) = true := by simp [h0]
          clear h0
          by_cases b1 : kk = 1
          · rw [if_pos b1, if_neg (by omega), if_neg (by omega)] at hgo
            have x1 : (kk == 1) = true := by simp [b1]
            have x2 : decide (kk < 1) = false := decide_eq_false (by omega)
            have x3 : decide (3 < kk) = false := decide_eq_false (by omega)
            clear b1
            have HGO := Aside0.mk hgo; clear hgo
            go_wp2_with (go_at_call 12; (with_reducible refine (char_Class.calls 8 _ kk _ HC.out).mono ?_); rintro e w5 ⟨rfl, hd5⟩; have hh5 := drawn_heap hd5; have HD5 := Aside0.mk hd5; clear hd5)
            go_roundw
            case rel => exact ⟨pos + n, f', _, rfl, by rw [hh5]; exact HI2.out, ⟨HB2.out.trans (HD5.out.below.mono (by rw [Lib.iterAt_size]; exact HB.out.size))⟩, ⟨HF.out, HGO.out⟩⟩
            case measure => simp only [World.iterPos, hh5, HI2.out, HIT.out]; have := HW.out; omega
          · rw [if_neg b1] at hgo
            by_cases b4 : kk = 4
            · rw [if_pos b4, if_pos b4] at hgo
              have x1 : (kk == 1) = false := by simp [b1]
              have x4 : (kk == 4) = true := by simp [b4]
              have x2 : (kk != 4) = false := by simp [b4]
              clear b1 b4
              have HGO := Aside0.mk hgo; clear hgo
              go_wp2_with (go_at_call 12; (with_reducible refine (char_Class.calls 8 _ kk _ HC.out).mono ?_); rintro e w5 ⟨rfl, hd5⟩; have hh5 := drawn_heap hd5; have HD5 := Aside0.mk hd5; clear hd5)
              go_roundw
              case rel => exact ⟨pos + n, f', _, rfl, by rw [hh5]; exact HI2.out, ⟨HB2.out.trans (HD5.out.below.mono (by rw [Lib.iterAt_size]; exact HB.out.size))⟩, ⟨HF.out, HGO.out⟩⟩
              case measure => simp only [World.iterPos, hh5, HI2.out, HIT.out]; have := HW.out; omega
            · rw [if_neg b4] at hgo
              have x1 : (kk == 1) = false := by simp [b1]
              have x4 : (kk == 4) = false := by simp [b4]
              clear b1 b4
              have HGO := Aside0.mk hgo; clear hgo
              go_wp2_with (go_at_call 12; (with_reducible refine (char_Class.calls 8 _ kk _ HC.out).mono ?_); rintro e w5 ⟨rfl, hd5⟩; have hh5 := drawn_heap hd5; have HD5 := Aside0.mk hd5; clear hd5)
              go_ret
              exact ⟨by rw [← HGO.out]; rfl, ((HD.out.below).trans (HB2.out.mono (by rw [drawn_heap HD.out]; exact Nat.le_refl _))).trans (HD5.out.below.mono (by rw [Lib.iterAt_size]; have := HB.out.size; rw [drawn_heap HD.out] at this; exact this))⟩
        · rw [if_neg h0] at hgo
          have hz : ((pos : Int) == 0) = false := by simp; omega
          clear h0
          by_cases a1 : a = 1
          · rw [if_pos a1] at hgo
            have x1 : (a == 1) = true := by simp [a1]
            clear a1
            by_cases b1 : kk < 1
            · rw [if_pos b1] at hgo
              have x2 : decide (kk < 1) = true := decide_eq_true b1
              clear b1
              have HGO := Aside0.mk hgo; clear hgo
              go_wp2_with (go_at_call 12; (with_reducible refine (char_Class.calls 8 _ kk _ HC.out).mono ?_); rintro e w5 ⟨rfl, hd5⟩; have hh5 := drawn_heap hd5; have HD5 := Aside0.mk hd5; clear hd5)
              go_ret
              exact ⟨by rw [← HGO.out]; rfl, ((HD.out.below).trans (HB2.out.mono (by rw [drawn_heap HD.out]; exact Nat.le_refl _))).trans (HD5.out.below.mono (by rw [Lib.iterAt_size]; have := HB.out.size; rw [drawn_heap HD.out] at this; exact this))⟩
            · rw [if_neg b1] at hgo
              have x2 : decide (kk < 1) = false := decide_eq_false b1
              clear b1
              by_cases b3 : kk > 3
              · rw [if_pos b3] at hgo
                have x3 : decide (3 < kk) = true := decide_eq_true b3
                clear b3
                have HGO := Aside0.mk hgo; clear hgo
                go_wp2_with (go_at_call 12; (with_reducible refine (char_Class.calls 8 _ kk _ HC.out).mono ?_); rintro e w5 ⟨rfl, hd5⟩; have hh5 := drawn_heap hd5; have HD5 := Aside0.mk hd5; clear hd5)
                go_ret
                exact ⟨by rw [← HGO.out]; rfl, ((HD.out.below).trans (HB2.out.mono (by rw [drawn_heap HD.out]; exact Nat.le_refl _))).trans (HD5.out.below.mono (by rw [Lib.iterAt_size]; have := HB.out.size; rw [drawn_heap HD.out] at this; exact this))⟩
              · rw [if_neg b3] at hgo
                have x3 : decide (3 < kk) = false := decide_eq_false b3
                clear b3
                have HGO := Aside0.mk hgo; clear hgo
                go_wp2_with (go_at_call 12; (with_reducible refine (char_Class.calls 8 _ kk _ HC.out).mono ?_); rintro e w5 ⟨rfl, hd5⟩; have hh5 := drawn_heap hd5; have HD5 := Aside0.mk hd5; clear hd5)
                go_roundw
                case rel => exact ⟨pos + n, f', _, rfl, by rw [hh5]; exact HI2.out, ⟨HB2.out.trans (HD5.out.below.mono (by rw [Lib.iterAt_size]; exact HB.out.size))⟩, ⟨HF.out, HGO.out⟩⟩
                case measure => simp only [World.iterPos, hh5, HI2.out, HIT.out]; have := HW.out; omega
          · rw [if_neg a1] at hgo
            have x1 : (a == 1) = false := by simp [a1]
            by_cases a4 : a = 4
            · rw [if_pos a4] at hgo
              have x4 : (a == 4) = true := by simp [a4]
              clear a1 a4
              by_cases b4 : kk = 4
              · rw [if_pos b4] at hgo
                have x2 : (kk != 4) = false := by simp [b4]
                clear b4
                have HGO := Aside0.mk hgo; clear hgo
                go_wp2_with (go_at_call 12; (with_reducible refine (char_Class.calls 8 _ kk _ HC.out).mono ?_); rintro e w5 ⟨rfl, hd5⟩; have hh5 := drawn_heap hd5; have HD5 := Aside0.mk hd5; clear hd5)
                go_roundw
                case rel => exact ⟨pos + n, f', _, rfl, by rw [hh5]; exact HI2.out, ⟨HB2.out.trans (HD5.out.below.mono (by rw [Lib.iterAt_size]; exact HB.out.size))⟩, ⟨HF.out, HGO.out⟩⟩
                case measure => simp only [World.iterPos, hh5, HI2.out, HIT.out]; have := HW.out; omega
              · rw [if_neg b4] at hgo
                have x2 : (kk != 4) = true := by simp [b4]
                clear b4
                have HGO := Aside0.mk hgo; clear hgo
                go_wp2_with (go_at_call 12; (with_reducible refine (char_Class.calls 8 _ kk _ HC.out).mono ?_); rintro e w5 ⟨rfl, hd5⟩; have hh5 := drawn_heap hd5; have HD5 := Aside0.mk hd5; clear hd5)
                go_ret
                exact ⟨by rw [← HGO.out]; rfl, ((HD.out.below).trans (HB2.out.mono (by rw [drawn_heap HD.out]; exact Nat.le_refl _))).trans (HD5.out.below.mono (by rw [Lib.iterAt_size]; have := HB.out.size; rw [drawn_heap HD.out] at this; exact this))⟩
            · rw [if_neg a4] at hgo
              have x4 : (a == 4) = false := by simp [a4]
              clear a1 a4
              have HGO := Aside0.mk hgo; clear hgo
              go_wp2_with (go_at_call 12; (with_reducible refine (char_Class.calls 8 _ kk _ HC.out).mono ?_); rintro e w5 ⟨rfl, hd5⟩; have hh5 := drawn_heap hd5; have HD5 := Aside0.mk hd5; clear hd5)
              go_ret
              exact ⟨by rw [← HGO.out]; rfl, ((HD.out.below).trans (HB2.out.mono (by rw [drawn_heap HD.out]; exact Nat.le_refl _))).trans (HD5.out.below.mono (by rw [Lib.iterAt_size]; have := HB.out.size; rw [drawn_heap HD.out] at this; exact this))⟩
      · have hnx : ∀ ty, (Instr.next (.pointer (some ⟨w2.heap.size, 0, none⟩)) true ty).run Tryd.prog wr = _ := fun ty => Lib.run_next_end_at wr w2.heap.size s pos ty hit hp
        have hgo := HA.out.2
        rw [runesAt_end hp] at hgo
        have HGO := Aside0.mk hgo
        clear hgo hit HA
        go_wp2
        go_ret
        exact ⟨by rw [← HGO.out]; rfl, (HD.out.below).trans (HB.out.mono (by rw [drawn_heap HD.out]; exact Nat.le_refl _))⟩
theorem char_Bare.calls (a0 : ByteArray) (r : Bool) (w : World) (h : char_Bare.f a0 = some r) :
    Calls Tryd.prog 15 #[.string a0] w fun e w' => e = .returned (.bool r) ∧ Below w.heap.size w w' := by
  unfold char_Bare.f at h
  split at h
  case isTrue hs => injection h with h; subst h; exact char_Bare.walk a0 w hs
  case isFalse => exact absurd h (by simp)

-- NOT PRINTED: function 43 (abi_NoEscape)

-- NOT PRINTED: function 37 (strings_Builder_copyCheck)

-- NOT PRINTED: function 25 (strings_Builder_WriteByte)

-- NOT PRINTED: function 44 (utf8_appendRuneNonASCII)

-- NOT PRINTED: function 38 (utf8_AppendRune)

-- NOT PRINTED: function 26 (strings_Builder_WriteRune)

-- NOT PRINTED: function 27 (strings_Builder_WriteString)

-- NOT PRINTED: function 45 (strconv_small)

-- NOT PRINTED: function 52 (strconv_log10Pow2)

-- NOT PRINTED: function 53 (bits_Len64)

-- NOT PRINTED: function 54 (strconv_bool2_int)

-- NOT PRINTED: function 46 (strconv_numDigits)

-- NOT PRINTED: function 47 (strconv_formatBase10)

-- NOT PRINTED: function 55 (strconv_isPowerOfTwo)

-- NOT PRINTED: function 60 (bits_TrailingZeros32)

-- NOT PRINTED: function 61 (bits_TrailingZeros64)

-- NOT PRINTED: function 56 (bits_TrailingZeros)

-- NOT PRINTED: function 48 (strconv_formatBits)

-- NOT PRINTED: function 39 (strconv_FormatInt_39)

end Go.Proofs.YtkniiinpkchjoaaDoor.P
