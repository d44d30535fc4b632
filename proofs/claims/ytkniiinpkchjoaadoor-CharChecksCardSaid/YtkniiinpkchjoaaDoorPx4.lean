-- PRINTED by a program of this session over the kit's print.py.
import Derived.Test.YtkniiinpkchjoaaDoorPx0
import Derived.Test.YtkniiinpkchjoaaDoorPx2
import Derived.Test.YtkniiinpkchjoaaDoorPx3
namespace Go.Proofs.YtkniiinpkchjoaaDoor.P
open Go.Own Go.RowKit Go.Proofs.YtkniiinpkchjoaaDoorW.PrintWords Go.Proofs.YtkniiinpkchjoaaDoorW.PrintLast Go.Proofs.YtkniiinpkchjoaaDoorW.PrintMore
attribute [local go_sem] max2_int min2_int max_two min_two max_three min_three max_four min_four   -- for this text's walks alone
set_option linter.unusedVariables false
set_option linter.unusedSimpArgs false

/-! ### strconv_FormatInt: function 28 (given) -/
/-- a digit of base 16 -/
def hexD (x : Int) : UInt8 := if x < 10 then UInt8.ofNat (48 + x.toNat) else UInt8.ofNat (87 + x.toNat)
def hexL (x : Int) : List UInt8 := if x < 16 then [hexD x] else [49, hexD (x - 16)]
def strconv_FormatInt.f (a0 a1 : Int) : Option ByteArray := if 0 ≤ a0 ∧ a0 < 32 ∧ a1 = 16 then some ⟨(hexL a0).toArray⟩ else none
set_option maxRecDepth 100000 in
theorem strconv_FormatInt.pow2 (w : World) : Calls Tryd.prog 55 #[.int .i64 16] w fun e w' => e = .returned (.bool true) ∧ w' = w := by
  go_enter Tryd.func55, Tryd.ntmps55
  go_wp2
  go_ret
  exact ⟨by first | rfl | decide, rfl⟩
set_option maxRecDepth 100000 in
theorem strconv_FormatInt.tz0 (x : Int) (w : World) (hz : (x == 0) = false) (h0 : 0 ≤ IntKind.u64.wrap (Go.bits .and .u64 x (IntKind.u64.wrap (-x)) * 285870213051353865) / 288230376151711744) (h1 : IntKind.u64.wrap (Go.bits .and .u64 x (IntKind.u64.wrap (-x)) * 285870213051353865) / 288230376151711744 < 64)
    (hc : w.cell? ⟨4, (IntKind.u64.wrap (Go.bits .and .u64 x (IntKind.u64.wrap (-x)) * 285870213051353865) / 288230376151711744).toNat, none⟩ = some (.int .u8 4)) :
    Calls Tryd.prog 56 #[.int .u64 x] w fun e w' => e = .returned (.int .i64 4) ∧ w' = w := by
  go_enter Tryd.func56, Tryd.ntmps56
  go_wp2
  go_ret
  exact ⟨by first | rfl | decide, rfl⟩
theorem strconv_FormatInt.e1 : IntKind.u64.wrap (Go.bits .and .u64 16 (IntKind.u64.wrap (-16)) * 285870213051353865) / 288230376151711744 = 15 := by decide +kernel
theorem strconv_FormatInt.tz (w : World) (hT : Tabs w) : Calls Tryd.prog 56 #[.int .u64 16] w fun e w' => e = .returned (.int .i64 4) ∧ w' = w :=
  strconv_FormatInt.tz0 16 w (by decide) (by rw [strconv_FormatInt.e1]; decide) (by rw [strconv_FormatInt.e1]; decide) (by rw [strconv_FormatInt.e1]; exact hT.2.1)
theorem strconv_FormatInt.zs : Tryd.zeroCells75 = Array.replicate 65 (Value.int .u8 0) := by kernel_rfl
theorem strconv_FormatInt.conv1 (w : World) (b : UInt8) : (convert 34 9 (.slice (some ⟨w.heap.size, 64, none⟩) 1 1)).run Tryd.prog (w.alloc (.cells (Tryd.zeroCells75.setIfInBounds 64 (.int .u8 (b.toNat : Nat))) 75)) = .ok (.string ⟨#[b]⟩) (w.alloc (.cells (Tryd.zeroCells75.setIfInBounds 64 (.int .u8 (b.toNat : Nat))) 75)) :=
  conv_arr (ArrAt.alloc w _ 75) 34 5 9 (by kernel_rfl) (by kernel_rfl) (by kernel_rfl) [b] 1 1 (fun i hi => by
    obtain rfl : i = 0 := by simpa using hi
    rw [strconv_FormatInt.zs]; simp) rfl
theorem strconv_FormatInt.conv2 (w : World) (a b : UInt8) : (convert 34 9 (.slice (some ⟨w.heap.size, 63, none⟩) 2 2)).run Tryd.prog (w.alloc (.cells ((Tryd.zeroCells75.setIfInBounds 64 (.int .u8 (b.toNat : Nat))).setIfInBounds 63 (.int .u8 (a.toNat : Nat))) 75)) = .ok (.string ⟨#[a, b]⟩) (w.alloc (.cells ((Tryd.zeroCells75.setIfInBounds 64 (.int .u8 (b.toNat : Nat))).setIfInBounds 63 (.int .u8 (a.toNat : Nat))) 75)) :=
  conv_arr (ArrAt.alloc w _ 75) 34 5 9 (by kernel_rfl) (by kernel_rfl) (by kernel_rfl) [a, b] 2 2 (fun i hi => by
    rw [strconv_FormatInt.zs]
    match i, hi with
    | 0, _ => rfl
    | 1, _ => rfl
    | i + 2, h => exact absurd (show i + 2 < 2 from h) (by omega)) rfl
theorem strconv_FormatInt.dig : ∀ n : Fin 16, hexD (n.val : Int) = (⟨#[48, 49, 50, 51, 52, 53, 54, 55, 56, 57, 97, 98, 99, 100, 101, 102, 103, 104, 105, 106, 107, 108, 109, 110, 111, 112, 113, 114, 115, 116, 117, 118, 119, 120, 121, 122]⟩ : ByteArray).data[n.val]'(by have := n.2; show n.val < 36; omega) := by decide
theorem strconv_FormatInt.and15 : ∀ n : Fin 16, Go.bits .and .u64 (16 + n.val) 15 = n.val := by decide +kernel
theorem strconv_FormatInt.digs {n : Nat} (h : n < 16) (h2 : n < (⟨#[48, 49, 50, 51, 52, 53, 54, 55, 56, 57, 97, 98, 99, 100, 101, 102, 103, 104, 105, 106, 107, 108, 109, 110, 111, 112, 113, 114, 115, 116, 117, 118, 119, 120, 121, 122]⟩ : ByteArray).size) : (⟨#[48, 49, 50, 51, 52, 53, 54, 55, 56, 57, 97, 98, 99, 100, 101, 102, 103, 104, 105, 106, 107, 108, 109, 110, 111, 112, 113, 114, 115, 116, 117, 118, 119, 120, 121, 122]⟩ : ByteArray)[n]'h2 = hexD (n : Int) := (strconv_FormatInt.dig ⟨n, h⟩).symm
theorem strconv_FormatInt.hx1 {c : Int} (h0 : 0 ≤ c) (h1 : c < 16) (h2 : c.toNat < (⟨#[48, 49, 50, 51, 52, 53, 54, 55, 56, 57, 97, 98, 99, 100, 101, 102, 103, 104, 105, 106, 107, 108, 109, 110, 111, 112, 113, 114, 115, 116, 117, 118, 119, 120, 121, 122]⟩ : ByteArray).size) : (hexL c).toArray = #[(⟨#[48, 49, 50, 51, 52, 53, 54, 55, 56, 57, 97, 98, 99, 100, 101, 102, 103, 104, 105, 106, 107, 108, 109, 110, 111, 112, 113, 114, 115, 116, 117, 118, 119, 120, 121, 122]⟩ : ByteArray)[c.toNat]'h2] := by
  rw [strconv_FormatInt.digs (by omega) h2, show ((c.toNat : Nat) : Int) = c by omega]
  unfold hexL
  rw [if_pos h1]
theorem strconv_FormatInt.hx2 {n : Nat} (h1 : n < 16) (h2 : n < (⟨#[48, 49, 50, 51, 52, 53, 54, 55, 56, 57, 97, 98, 99, 100, 101, 102, 103, 104, 105, 106, 107, 108, 109, 110, 111, 112, 113, 114, 115, 116, 117, 118, 119, 120, 121, 122]⟩ : ByteArray).size) : (hexL (16 + (n : Int))).toArray = #[49, (⟨#[48, 49, 50, 51, 52, 53, 54, 55, 56, 57, 97, 98, 99, 100, 101, 102, 103, 104, 105, 106, 107, 108, 109, 110, 111, 112, 113, 114, 115, 116, 117, 118, 119, 120, 121, 122]⟩ : ByteArray)[n]'h2] := by
  rw [strconv_FormatInt.digs h1 h2]
  unfold hexL
  rw [if_neg (by omega), show (16 + (n : Int)) - 16 = n by omega]
set_option maxRecDepth 100000 in
theorem strconv_FormatInt.bits1 (c : Int) (h0 : 0 ≤ c) (h1 : c < 16) (w : World) (hT : Tabs w) : Calls Tryd.prog 48 #[.slice none 0 0, .int .u64 c, .int .i64 16, .bool false, .bool false] w fun e w' => e = .returned (.tuple #[.slice none 0 0, .string ⟨(hexL c).toArray⟩]) ∧ Below w.heap.size w w' := by
  have hcv := fun b => strconv_FormatInt.conv1 w b
  go_enter Tryd.func48, Tryd.ntmps48
  go_wp2_with (first | (go_at_call 55; refine (strconv_FormatInt.pow2 _).mono ?_; rintro e w2 ⟨rfl, rfl⟩) | (go_at_call 56; refine (strconv_FormatInt.tz _ (hT.below ((Below.refl _ _).alloc (Nat.le_refl _) _))).mono ?_; rintro e w2 ⟨rfl, rfl⟩))
  refine wp_loop_rounds 1 ?_
  rw [rounds_succ]
  go_wp2
  go_ret2
  exact ⟨by rw [strconv_FormatInt.hx1 h0 h1]; rfl, (Below.refl _ _).alloc (Nat.le_refl _) _⟩
set_option maxRecDepth 100000 in
theorem strconv_FormatInt.bits2 (n : Nat) (h1 : n < 16) (w : World) (hT : Tabs w) : Calls Tryd.prog 48 #[.slice none 0 0, .int .u64 (16 + (n : Int)), .int .i64 16, .bool false, .bool false] w fun e w' => e = .returned (.tuple #[.slice none 0 0, .string ⟨(hexL (16 + (n : Int))).toArray⟩]) ∧ Below w.heap.size w w' := by
  have hcv := fun a b => strconv_FormatInt.conv2 w a b
  have ha := strconv_FormatInt.and15 ⟨n, h1⟩
  dsimp only at ha
  have hd : (16 + (n : Int)) / 16 = 1 := by omega
  go_enter Tryd.func48, Tryd.ntmps48
  go_wp2_with (first | (go_at_call 55; refine (strconv_FormatInt.pow2 _).mono ?_; rintro e w2 ⟨rfl, rfl⟩) | (go_at_call 56; refine (strconv_FormatInt.tz _ (hT.below ((Below.refl _ _).alloc (Nat.le_refl _) _))).mono ?_; rintro e w2 ⟨rfl, rfl⟩))
  refine wp_loop_rounds 2 ?_
  rw [rounds_succ]
  go_wp2
  rw [rounds_succ]
  go_wp2
  go_ret2
  exact ⟨by rw [strconv_FormatInt.hx2 h1]; rfl, (Below.refl _ _).alloc (Nat.le_refl _) _⟩
set_option maxRecDepth 100000 in
theorem strconv_FormatInt.bits (c : Int) (h0 : 0 ≤ c) (h1 : c < 32) (w : World) (hT : Tabs w) : Calls Tryd.prog 48 #[.slice none 0 0, .int .u64 c, .int .i64 16, .bool false, .bool false] w fun e w' => e = .returned (.tuple #[.slice none 0 0, .string ⟨(hexL c).toArray⟩]) ∧ Below w.heap.size w w' := by
  by_cases hc : c < 16
  · exact strconv_FormatInt.bits1 c h0 hc w hT
  · obtain ⟨n, rfl⟩ : ∃ n : Nat, c = 16 + (n : Int) := ⟨(c - 16).toNat, by omega⟩
    exact strconv_FormatInt.bits2 n (by omega) w hT
set_option maxRecDepth 100000 in
theorem strconv_FormatInt.inner (c : Int) (h0 : 0 ≤ c) (h1 : c < 32) (w : World) (hT : Tabs w) : Calls Tryd.prog 39 #[.int .i64 c, .int .i64 16] w fun e w' => e = .returned (.string ⟨(hexL c).toArray⟩) ∧ Below w.heap.size w w' := by
  go_enter Tryd.func39, Tryd.ntmps39
  have hw : IntKind.u64.wrap c = c := by unfold IntKind.wrap; simp [IntKind.bits, IntKind.signed]; omega
  have hlt : decide (c < 0) = false := decide_eq_false (by omega)
  go_wp2_with (go_at_call 48; (with_reducible refine (strconv_FormatInt.bits c h0 h1 _ hT).mono ?_); rintro e w2 ⟨rfl, hb⟩; have HB := Aside0.mk hb; clear hb)
  go_ret
  exact ⟨rfl, HB.out⟩
set_option maxRecDepth 100000 in
theorem strconv_FormatInt.calls (a0 a1 : Int) (r : ByteArray) (w : World) (h : strconv_FormatInt.f a0 a1 = some r) (hT : Tabs w) :
    Calls Tryd.prog 28 #[.int .i64 a0, .int .i64 a1] w fun e w' => e = .returned (.string r) ∧ Below w.heap.size w w' := by
  unfold strconv_FormatInt.f at h
  split at h
  case isFalse => exact absurd h (by simp)
  case isTrue hh =>
  injection h with h
  subst h
  obtain ⟨h0, h1, rfl⟩ := hh
  go_enter Tryd.func28, Tryd.ntmps28
  go_wp2_with (go_at_call 39; (with_reducible refine (strconv_FormatInt.inner a0 h0 h1 _ hT).mono ?_); rintro e w2 ⟨rfl, hb⟩; have HB := Aside0.mk hb; clear hb)
  go_ret
  exact ⟨rfl, HB.out⟩

-- NOT PRINTED: function 29 (strings_Builder_String)

/-! ### char_Write: function 16 (given) -/
/-- a rune between quotes -/
def char_Write.one (c : Int) : List UInt8 := if c = 39 then 92 :: Lib.encodeRune c else if c = 92 then 92 :: Lib.encodeRune c else if c = 10 then [92, 110] else if c = 9 then [92, 116] else if c < 32 then [92, 120] ++ hexL c ++ [92] else Lib.encodeRune c
-- strconv_FormatInt.calls
def char_Write.go : List (Nat × Nat) → List UInt8
  | [] => [39]
  | x :: l => char_Write.one x.2 ++ char_Write.go l
def char_Write.quoted (a0 : ByteArray) : ByteArray := ⟨([39] ++ char_Write.go (runesOf a0)).toArray⟩
def char_Write.f (a0 : ByteArray) : Option ByteArray := (char_Check.f a0).bind fun b => if b = true then (char_Bare.f a0).bind fun c => if c = true then some a0 else some (char_Write.quoted a0) else some (⟨#[]⟩ : ByteArray)
theorem char_Check.small {a : ByteArray} (h : char_Check.f a = some true) : a.size ≤ 255 := by
  unfold char_Check.f at h
  split at h
  · omega
  · simp at h
theorem bsz (l : List UInt8) : (⟨l.toArray⟩ : ByteArray).size = l.length := by show l.toArray.size = _; simp
theorem hexL_len (c : Int) : (hexL c).length ≤ 2 := by unfold hexL; split <;> simp
theorem encode_len4 (c : Int) : (Lib.encodeRune c).length ≤ 4 := by
  have := Lib.encodeRuneZ_length c
  unfold Lib.encodeRune
  rw [List.length_map]
  omega
set_option maxRecDepth 100000 in
theorem char_Write.no (s : ByteArray) (w : World) (hT : Tabs w) (h : char_Check.f s = some false) :
    Calls Tryd.prog 16 #[.string s] w fun e w' => e = .returned (.string (⟨#[]⟩ : ByteArray)) ∧ Below w.heap.size w w' := by
  have HT := Aside0.mk hT
  have H := Aside0.mk h
  clear hT h
  go_enter Tryd.func16, Tryd.ntmps16
  go_wp2_with (go_at_call 14; (with_reducible refine (char_Check.calls _ _ _ H.out HT.out).mono ?_); rintro e w2 ⟨rfl, hb⟩; have HB := Aside0.mk hb; clear hb)
  go_ret
  exact ⟨rfl, HB.out⟩
set_option maxRecDepth 100000 in
theorem char_Write.bare (s : ByteArray) (w : World) (hT : Tabs w) (h : char_Check.f s = some true) (h2 : char_Bare.f s = some true) :
    Calls Tryd.prog 16 #[.string s] w fun e w' => e = .returned (.string s) ∧ Below w.heap.size w w' := by
  have HT := Aside0.mk hT
  have H := Aside0.mk h
  have H2 := Aside0.mk h2
  clear hT h h2
  go_enter Tryd.func16, Tryd.ntmps16
  go_wp2_with (first
    | (go_at_call 14; (with_reducible refine (char_Check.calls _ _ _ H.out HT.out).mono ?_); rintro e w2 ⟨rfl, hb⟩; have HB := Aside0.mk hb; clear hb)
    | (go_at_call 15; (with_reducible refine (char_Bare.calls _ _ _ H2.out).mono ?_); rintro e w3 ⟨rfl, hb⟩; have HB3 := Aside0.mk (HB.out.trans (hb.mono HB.out.size)); clear hb))
  go_ret
  exact ⟨rfl, HB3.out⟩
set_option maxRecDepth 100000 in
set_option maxHeartbeats 4000000 in
theorem char_Write.walk (s : ByteArray) (w : World) (hT : Tabs w) (h : char_Check.f s = some true) (h2 : char_Bare.f s = some false) :
    Calls Tryd.prog 16 #[.string s] w fun e w' => e = .returned (.string (char_Write.quoted s)) ∧ Below w.heap.size w w' := by
  have HS := Aside0.mk (char_Check.small h)
  have HT := Aside0.mk hT
  have H := Aside0.mk h
  have H2 := Aside0.mk h2
  clear hT h h2
  go_enter Tryd.func16, Tryd.ntmps16
  go_wp2_with (first
    | (go_at_call 14; (with_reducible refine (char_Check.calls _ _ _ H.out HT.out).mono ?_); rintro e w2 ⟨rfl, hb⟩; have HB := Aside0.mk hb; clear hb)
    | (go_at_call 15; (with_reducible refine (char_Bare.calls _ _ _ H2.out).mono ?_); rintro e w3 ⟨rfl, hb⟩; have HB3 := Aside0.mk (HB.out.trans (hb.mono HB.out.size)); clear hb HB)
    | (go_at_call 25; go_loud (refine (Tryd.Builder_WriteByte_k w3.heap.size w3.heap.size [] 39 _ (Lib.IsBuilderF.of (Lib.fresh_isBuilder 36 5 w3)) (by simp) (by simp)).mono ?_); rintro e W1 ⟨rfl, h1, b1, k1⟩; have HI1 := Aside0.mk (And.intro h1 b1); clear h1 b1 k1))
  have HK := Aside0.mk (show BIt w3.heap.size w3.heap.size W1.heap.size s 0 [39] w3 (W1.iter s 0) from
    ⟨Lib.IsBuilderF.alloc (.inr HI1.out.1) _, World.iter_heap W1 s 0, (((Below.refl _ w3).alloc (Nat.le_refl _) _).trans HI1.out.2).alloc (by have := HI1.out.2.size; simp at this; omega) _, by have := HI1.out.2.size; simp at this; omega, by have := HI1.out.2.size; simp at this; omega⟩)
  go_loopw [] (fun wr => ∃ (pos fuel : Nat) (acc : List UInt8), Aside0 (BIt w3.heap.size w3.heap.size W1.heap.size s pos acc w3 wr ∧ s.size ≤ pos + fuel ∧ acc ++ char_Write.go (runesAt s fuel pos) = [39] ++ char_Write.go (runesOf s) ∧ acc.length ≤ 1 + 5 * pos ∧ pos ≤ s.size)) (fun wr => s.size - wr.iterPos W1.heap.size)
  case atStart => exact ⟨0, s.size, [39], ⟨HK.out, by omega, rfl, by simp, by omega⟩⟩
  case round =>
    obtain ⟨pos, fuel, acc, HA⟩ := hrel
    clear HK
    have HI0 := Aside0.mk HA.out.1
    have hsm := HS.out
    by_cases hp : pos < s.size
    · have hnx : ∀ ty, (Instr.next (.pointer (some ⟨W1.heap.size, 0, none⟩)) true ty).run Tryd.prog wr = _ := fun ty => Lib.run_next_any_at wr W1.heap.size s pos ty HI0.out.iter hp
      obtain ⟨f', -, hf', hst⟩ := runesAt_step hp HA.out.2.1
      have hg := HA.out.2.2.1
      rw [hst] at hg
      clear hst
      have hwd := Lib.decode_width_pos s pos hp
      have hdl := decode_end s pos hp
      have hc31 := decode_le s pos
      generalize (Utf8.decode s pos).1 = c at hg hnx hc31
      generalize (Utf8.decode s pos).2 = n at hg hnx hf' hwd hdl
      have hg2 : acc ++ (char_Write.one c ++ char_Write.go (runesAt s f' (pos + n))) = [39] ++ char_Write.go (runesOf s) := hg
      have HF := Aside0.mk hf'
      have HC31 := Aside0.mk hc31
      have HW := Aside0.mk (And.intro hwd hp)
      have HL := Aside0.mk (show acc.length ≤ 2000 by have := HA.out.2.2.2.1; omega)
      have he4 := encode_len4 (c : Int)
      have HX := Aside0.mk (hexL_len (c : Int))
      have HL2 := Aside0.mk (show acc.length + 5 ≤ 1 + 5 * (pos + n) ∧ (Lib.encodeRune (c : Int)).length ≤ 4 ∧ (hexL (c : Int)).length ≤ 2 by have := HA.out.2.2.2.1; have := HX.out; omega)
      have HD := Aside0.mk hdl
      have HN := Aside0.mk (HI0.out.next (pos + n))
      clear HA hg hf' hwd hdl hc31 he4 hsm
      unfold char_Write.one at hg2
      by_cases c1 : (c : Int) = 39
      · rw [if_pos c1] at hg2
        have HG := Aside0.mk hg2
        have x1 : ((c : Int) == 39) = true := by simp [c1]
        clear hg2 c1
        go_wp2_with (first | (go_at_call 25; (with_reducible refine (Tryd.Builder_WriteByte_k w3.heap.size w3.heap.size _ 92 _ HN.out.bld (by rw [Lib.byteCells_length]; have := HL.out; simp; omega) HN.out.hB).mono ?_); rintro e WHI2 ⟨rfl, h1, b1, k1⟩; have HI2 := Aside0.mk (HN.out.wrote [92] h1 b1 k1); clear h1 b1 k1) | (go_at_call 26; (with_reducible refine (Tryd.Builder_WriteRune_k w3.heap.size w3.heap.size _ _ (by have := HC31.out; omega) (by have := HC31.out; omega) _ HI2.out.bld (by rw [Lib.byteCells_length]; have := HL.out; simp; omega) HI2.out.hB).mono ?_); rintro e WHI3 ⟨rfl, h1, b1, k1⟩; have HI3 := Aside0.mk (HI2.out.wrote (Lib.encodeRune (c : Int)) (by rw [Lib.byteCells_encodeRune]; exact h1) b1 k1); clear h1 b1 k1))
        go_roundw
        case rel => exact ⟨pos + n, f', _, ⟨HI3.out, HF.out, by rw [← HG.out]; simp only [List.append_assoc, List.cons_append, List.nil_append], by have := HL2.out; simp only [List.length_append, List.length_cons, List.length_nil]; omega, HD.out⟩⟩
        case measure => simp only [World.iterPos, HI3.out.iter, HI0.out.iter]; have := HW.out; omega
      rw [if_neg c1] at hg2
      have x1 : ((c : Int) == 39) = false := by simpa using c1
      clear c1
      by_cases c2 : (c : Int) = 92
      · rw [if_pos c2] at hg2
        have HG := Aside0.mk hg2
        have x2 : ((c : Int) == 92) = true := by simp [c2]
        clear hg2 c2
        go_wp2_with (first | (go_at_call 25; (with_reducible refine (Tryd.Builder_WriteByte_k w3.heap.size w3.heap.size _ 92 _ HN.out.bld (by rw [Lib.byteCells_length]; have := HL.out; simp; omega) HN.out.hB).mono ?_); rintro e WHI2 ⟨rfl, h1, b1, k1⟩; have HI2 := Aside0.mk (HN.out.wrote [92] h1 b1 k1); clear h1 b1 k1) | (go_at_call 26; (with_reducible refine (Tryd.Builder_WriteRune_k w3.heap.size w3.heap.size _ _ (by have := HC31.out; omega) (by have := HC31.out; omega) _ HI2.out.bld (by rw [Lib.byteCells_length]; have := HL.out; simp; omega) HI2.out.hB).mono ?_); rintro e WHI3 ⟨rfl, h1, b1, k1⟩; have HI3 := Aside0.mk (HI2.out.wrote (Lib.encodeRune (c : Int)) (by rw [Lib.byteCells_encodeRune]; exact h1) b1 k1); clear h1 b1 k1))
        go_roundw
        case rel => exact ⟨pos + n, f', _, ⟨HI3.out, HF.out, by rw [← HG.out]; simp only [List.append_assoc, List.cons_append, List.nil_append], by have := HL2.out; simp only [List.length_append, List.length_cons, List.length_nil]; omega, HD.out⟩⟩
        case measure => simp only [World.iterPos, HI3.out.iter, HI0.out.iter]; have := HW.out; omega
      rw [if_neg c2] at hg2
      have x2 : ((c : Int) == 92) = false := by simpa using c2
      clear c2
      by_cases c3 : (c : Int) = 10
      · rw [if_pos c3] at hg2
        have HG := Aside0.mk hg2
        have x3 : ((c : Int) == 10) = true := by simp [c3]
        clear hg2 c3
        go_wp2_with (go_at_call 27; (with_reducible refine (Tryd.Builder_WriteString_k w3.heap.size w3.heap.size _ (⟨#[92, 110]⟩ : ByteArray) _ HN.out.bld (by have q0 := HL.out; have q2 : ((⟨#[92, 110]⟩ : ByteArray) : ByteArray).size ≤ 2 := (by decide); rw [Lib.byteCells_length]; (try simp only [List.length_append, List.length_cons, List.length_nil]); omega) HN.out.hB).mono ?_); rintro e WHI2 ⟨rfl, h1, b1, k1⟩; have HI2 := Aside0.mk (HN.out.wrote [92, 110] h1 b1 k1); clear h1 b1 k1)
        go_roundw
        case rel => exact ⟨pos + n, f', _, ⟨HI2.out, HF.out, by rw [← HG.out]; simp only [List.append_assoc, List.cons_append, List.nil_append], by have := HL2.out; simp only [List.length_append, List.length_cons, List.length_nil]; omega, HD.out⟩⟩
        case measure => simp only [World.iterPos, HI2.out.iter, HI0.out.iter]; have := HW.out; omega
      rw [if_neg c3] at hg2
      have x3 : ((c : Int) == 10) = false := by simpa using c3
      clear c3
      by_cases c4 : (c : Int) = 9
      · rw [if_pos c4] at hg2
        have HG := Aside0.mk hg2
        have x4 : ((c : Int) == 9) = true := by simp [c4]
        clear hg2 c4
        go_wp2_with (go_at_call 27; (with_reducible refine (Tryd.Builder_WriteString_k w3.heap.size w3.heap.size _ (⟨#[92, 116]⟩ : ByteArray) _ HN.out.bld (by have q0 := HL.out; have q2 : ((⟨#[92, 116]⟩ : ByteArray) : ByteArray).size ≤ 2 := (by decide); rw [Lib.byteCells_length]; (try simp only [List.length_append, List.length_cons, List.length_nil]); omega) HN.out.hB).mono ?_); rintro e WHI2 ⟨rfl, h1, b1, k1⟩; have HI2 := Aside0.mk (HN.out.wrote [92, 116] h1 b1 k1); clear h1 b1 k1)
        go_roundw
        case rel => exact ⟨pos + n, f', _, ⟨HI2.out, HF.out, by rw [← HG.out]; simp only [List.append_assoc, List.cons_append, List.nil_append], by have := HL2.out; simp only [List.length_append, List.length_cons, List.length_nil]; omega, HD.out⟩⟩
        case measure => simp only [World.iterPos, HI2.out.iter, HI0.out.iter]; have := HW.out; omega
      rw [if_neg c4] at hg2
      have x4 : ((c : Int) == 9) = false := by simpa using c4
      clear c4
      by_cases c5 : (c : Int) < 32
      · rw [if_pos c5] at hg2
        have HG := Aside0.mk hg2
        have x5 : decide ((c : Int) < 32) = true := decide_eq_true c5
        have HFM := Aside0.mk (show strconv_FormatInt.f (c : Int) 16 = some ⟨(hexL (c : Int)).toArray⟩ by unfold strconv_FormatInt.f; rw [if_pos ⟨by omega, c5, rfl⟩])
        clear hg2
        have tok1 : True := trivial
        have tok2 : True := trivial
        go_wp2_with (first | (go_at_call 27; (have _t := tok1); (with_reducible refine (Tryd.Builder_WriteString_k w3.heap.size w3.heap.size _ (⟨#[92, 120]⟩ : ByteArray) _ HN.out.bld (by have q0 := HL.out; have q2 : ((⟨#[92, 120]⟩ : ByteArray) : ByteArray).size ≤ 2 := (by decide); rw [Lib.byteCells_length]; (try simp only [List.length_append, List.length_cons, List.length_nil]); omega) HN.out.hB).mono ?_); rintro e WHI2 ⟨rfl, h1, b1, k1⟩; have HI2 := Aside0.mk (HN.out.wrote [92, 120] h1 b1 k1); clear h1 b1 k1; clear tok1) | (go_at_call 28; (with_reducible refine (strconv_FormatInt.calls _ _ _ _ HFM.out (HT.out.below (HB3.out.trans (HI2.out.low.mono HB3.out.size)))).mono ?_); rintro e W3 ⟨rfl, hb3⟩; have HI3 := Aside0.mk (HI2.out.below hb3); clear hb3) | (go_at_call 27; (have _t := tok2); (with_reducible refine (Tryd.Builder_WriteString_k w3.heap.size w3.heap.size _ ⟨(hexL (c : Int)).toArray⟩ _ HI3.out.bld (by have q0 := HL.out; have q2 : (⟨(hexL (c : Int)).toArray⟩ : ByteArray).size ≤ 2 := (by rw [bsz]; exact HX.out); rw [Lib.byteCells_length]; (try simp only [List.length_append, List.length_cons, List.length_nil]); omega) HI3.out.hB).mono ?_); rintro e WHI4 ⟨rfl, h1, b1, k1⟩; have HI4 := Aside0.mk (HI3.out.wrote (hexL (c : Int)) h1 b1 k1); clear h1 b1 k1; clear tok2) | (go_at_call 25; (with_reducible refine (Tryd.Builder_WriteByte_k w3.heap.size w3.heap.size _ 92 _ HI4.out.bld (by rw [Lib.byteCells_length]; have := HL.out; have := HX.out; simp; omega) HI4.out.hB).mono ?_); rintro e WHI5 ⟨rfl, h1, b1, k1⟩; have HI5 := Aside0.mk (HI4.out.wrote [92] h1 b1 k1); clear h1 b1 k1))
        go_roundw
        case rel => exact ⟨pos + n, f', _, ⟨HI5.out, HF.out, by rw [← HG.out]; simp only [List.append_assoc, List.cons_append, List.nil_append], by have := HL2.out; simp only [List.length_append, List.length_cons, List.length_nil]; omega, HD.out⟩⟩
        case measure => simp only [World.iterPos, HI5.out.iter, HI0.out.iter]; have := HW.out; omega
      rw [if_neg c5] at hg2
      have HG := Aside0.mk hg2
      have x5 : decide ((c : Int) < 32) = false := decide_eq_false c5
      clear hg2 c5
      go_wp2_with (go_at_call 26; (with_reducible refine (Tryd.Builder_WriteRune_k w3.heap.size w3.heap.size _ _ (by have := HC31.out; omega) (by have := HC31.out; omega) _ HN.out.bld (by rw [Lib.byteCells_length]; have := HL.out; simp; omega) HN.out.hB).mono ?_); rintro e WHI2 ⟨rfl, h1, b1, k1⟩; have HI2 := Aside0.mk (HN.out.wrote (Lib.encodeRune (c : Int)) (by rw [Lib.byteCells_encodeRune]; exact h1) b1 k1); clear h1 b1 k1)
      go_roundw
      case rel => exact ⟨pos + n, f', _, ⟨HI2.out, HF.out, by rw [← HG.out]; simp only [List.append_assoc, List.cons_append, List.nil_append], by have := HL2.out; simp only [List.length_append, List.length_cons, List.length_nil]; omega, HD.out⟩⟩
      case measure => simp only [World.iterPos, HI2.out.iter, HI0.out.iter]; have := HW.out; omega
    · have hnx : ∀ ty, (Instr.next (.pointer (some ⟨W1.heap.size, 0, none⟩)) true ty).run Tryd.prog wr = _ := fun ty => Lib.run_next_end_at wr W1.heap.size s pos ty HI0.out.iter hp
      have hg := HA.out.2.2.1
      rw [runesAt_end hp] at hg
      have HG := Aside0.mk hg
      have HL := Aside0.mk (show acc.length ≤ 2000 by have := HA.out.2.2.2; omega)
      clear hg HA hsm
      go_wp2_with (first | (go_at_call 25; (with_reducible refine (Tryd.Builder_WriteByte_k w3.heap.size w3.heap.size _ 39 _ HI0.out.bld (by rw [Lib.byteCells_length]; have := HL.out; simp; omega) HI0.out.hB).mono ?_); rintro e WHI2 ⟨rfl, h1, b1, k1⟩; have HI2 := Aside0.mk (HI0.out.wrote [39] h1 b1 k1); clear h1 b1 k1) | (go_at_call 29; (with_reducible refine (Tryd.Builder_String_any_k w3.heap.size w3.heap.size _ _ HI2.out.bld HI2.out.hB).mono ?_); rintro e W9 ⟨rfl, h1, b1, k1⟩; have HB9 := Aside0.mk (HI2.out.low.trans b1); clear h1 b1 k1))
      go_ret
      exact ⟨by have e := HG.out; simp only [char_Write.go] at e; unfold char_Write.quoted; rw [← e]; rfl, HB3.out.trans (HB9.out.mono HB3.out.size)⟩
theorem char_Write.calls (a0 : ByteArray) (r : ByteArray) (w : World) (h : char_Write.f a0 = some r) (hT : Tabs w) :
    Calls Tryd.prog 16 #[.string a0] w fun e w' => e = .returned (.string r) ∧ Below w.heap.size w w' := by
  unfold char_Write.f at h
  obtain ⟨b, hb, h⟩ := Option.bind_eq_some_iff.1 h
  cases b with
  | false =>
    rw [if_neg (by simp)] at h
    injection h with h
    subst h
    exact char_Write.no a0 w hT hb
  | true =>
    rw [if_pos rfl] at h
    obtain ⟨c, hc, h⟩ := Option.bind_eq_some_iff.1 h
    cases c with
    | false =>
      rw [if_neg (by simp)] at h
      injection h with h
      subst h
      exact char_Write.walk a0 w hT hb hc
    | true =>
      rw [if_pos rfl] at h
      injection h with h
      subst h
      exact char_Write.bare a0 w hT hb hc

-- NOT PRINTED: function 62 (bytealg_IndexByteString)

-- NOT PRINTED: function 57 (stringslite_IndexByte)

-- NOT PRINTED: function 49 (strings_IndexByte)

-- NOT PRINTED: function 63 (strconv_lower)

-- NOT PRINTED: function 64 (strconv_underscoreOK)

-- NOT PRINTED: function 58 (strconv_ParseUint_58)

-- NOT PRINTED: function 69 (stringslite_Clone)

-- NOT PRINTED: function 65 (strconv_syntaxError)

-- NOT PRINTED: function 66 (strconv_rangeError)

-- NOT PRINTED: function 70 (errors_New)

-- NOT PRINTED: function 72 (strconv_Itoa_72)

-- NOT PRINTED: function 71 (strconv_Itoa_71)

-- NOT PRINTED: function 67 (strconv_baseError)

-- NOT PRINTED: function 68 (strconv_bitSizeError)

-- NOT PRINTED: function 59 (strconv_toError)

-- NOT PRINTED: function 50 (strconv_ParseUint_50)

end Go.Proofs.YtkniiinpkchjoaaDoor.P
