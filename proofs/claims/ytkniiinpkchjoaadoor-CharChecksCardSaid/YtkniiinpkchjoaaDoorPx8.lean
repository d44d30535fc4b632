-- PRINTED by a program of this session over the kit's print.py.
import Derived.Test.YtkniiinpkchjoaaDoorPx0
import Derived.Test.YtkniiinpkchjoaaDoorPx2
import Derived.Test.YtkniiinpkchjoaaDoorPx3
import Derived.Test.YtkniiinpkchjoaaDoorPx4
import Derived.Test.YtkniiinpkchjoaaDoorPx6
import Derived.Test.YtkniiinpkchjoaaDoorPx7
namespace Go.Proofs.YtkniiinpkchjoaaDoor.P
open Go.Own Go.RowKit Go.Proofs.YtkniiinpkchjoaaDoorW.PrintWords Go.Proofs.YtkniiinpkchjoaaDoorW.PrintLast Go.Proofs.YtkniiinpkchjoaaDoorW.PrintMore
attribute [local go_sem] max2_int min2_int max_two min_two max_three min_three max_four min_four   -- for this text's walks alone
set_option linter.unusedVariables false
set_option linter.unusedSimpArgs false

/-! ### char_Read: function 17 (given) -/
-- char_code.calls char_Bare.calls char_Write.calls
/-- what stands behind a \\ -/
def escN (s : ByteArray) : Int × Int := (char_escape.f 2 s).getD (0, 0)
theorem code_range {s : ByteArray} {r n : Int} (h : char_code.f s = some (r, n)) : 0 ≤ r ∧ r ≤ 1114111 ∧ 0 ≤ n ∧ n ≤ 7 := by
  unfold char_code.f at h
  split at h
  case isFalse => cases h
  case isTrue hs =>
  injection h with h
  unfold char_code.val at h
  split at h
  · cases h; omega
  · split at h
    · cases h; omega
    · split at h
      · cases h; omega
      · rename_i v _
        split at h
        · rename_i hv
          cases h
          unfold Lib.validRune at hv
          have := of_decide_eq_true hv
          omega
        · cases h; omega
theorem code_total {s : ByteArray} (h : s.size ≤ 9223372036854775807) : ∃ r n, char_code.f s = some (r, n) := by
  unfold char_code.f
  rw [if_pos h]
  exact ⟨_, _, rfl⟩
theorem esc_some (s : ByteArray) (hs : s.size ≤ 9223372036854775807) : char_escape.f 2 s = some (escN s) ∧ 0 ≤ (escN s).1 ∧ (escN s).1 ≤ 1114111 ∧ 0 ≤ (escN s).2 ∧ (escN s).2 ≤ 8 := by
  have key : ∃ r n, char_escape.f 2 s = some (r, n) ∧ 0 ≤ r ∧ r ≤ 1114111 ∧ 0 ≤ n ∧ n ≤ 8 := by
    have hj : ∀ (t : ByteArray) (c : Int) (b : Bool), t.size ≤ 9223372036854775807 → 1 ≤ (t.size : Int) → 0 ≤ c → c ≤ 255 → ∃ r n, char_escape.j0 2 t c c b = some (r, n) ∧ 0 ≤ r ∧ r ≤ 1114111 ∧ 0 ≤ n ∧ n ≤ 8 := by
      intro t c b ht ht1 h0 h1
      have hc := code_total (s := t.extract 1 t.size) (by rw [ByteArray.size_extract]; omega)
      obtain ⟨r, n, hc⟩ := hc
      have hr := code_range hc
      unfold char_escape.j0
      simp only [hc, Option.bind_some, if_pos ht1]
      repeat' split
      all_goals first
        | exact ⟨_, _, rfl, by unfold wrap32; omega, by unfold wrap32; omega, by omega, by omega⟩
        | exact ⟨_, _, rfl, by omega, by omega, by unfold wrap64; omega, by unfold wrap64; omega⟩
        | exact ⟨_, _, rfl, by decide, by decide, by decide, by decide⟩
    unfold char_escape.f
    have hb := bt_range s 0
    by_cases he : s.toList = ([] : List UInt8)
    · rw [if_pos he]; exact ⟨_, _, rfl, by omega, by omega, by omega, by omega⟩
    · rw [if_neg he]
      have h0 : 0 < (s.size : Int) := by
        rcases Nat.eq_zero_or_pos s.size with h0 | h0
        · exfalso
          apply he
          have := isEmpty_size s
          rw [decide_eq_true h0] at this
          exact List.isEmpty_iff.1 this
        · omega
      rw [if_pos h0]
      split
      · exact hj _ _ _ hs (by omega) hb.1 hb.2
      · exact hj _ _ _ hs (by omega) hb.1 hb.2
  obtain ⟨r, n, h, hr⟩ := key
  unfold escN
  rw [h]
  exact ⟨rfl, hr⟩
@[reducible] def fffd : ByteArray := ⟨#[239, 191, 189]⟩
def char_Read.go (s : ByteArray) : Int → List UInt8 → List (Nat × Nat) → List UInt8 × Int × Int
  | _, _, [] => ([], 0, 20)
  | skip, acc, x :: l =>
    if skip > x.1 then char_Read.go s skip acc l
    else if (x.2 : Int) = 39 then (if preB (s.extract (x.1 + 1) s.size) (⟨#[39]⟩ : ByteArray) = true then char_Read.go s (x.1 + 2) (acc ++ Lib.encodeRune x.2) l else (acc, x.1 + 1, 0))
    else if (x.2 : Int) = 92 then (if (escN (s.extract (x.1 + 1) s.size)).2 = 0 then ([], 0, 20) else char_Read.go s (x.1 + 1 + (escN (s.extract (x.1 + 1) s.size)).2) (acc ++ Lib.encodeRune (escN (s.extract (x.1 + 1) s.size)).1) l)
    else if (x.2 : Int) < 32 then ([], 0, 20)
    else if (x.2 : Int) = 65533 then (if preB (s.extract x.1 s.size) fffd = true then char_Read.go s skip (acc ++ Lib.encodeRune x.2) l else ([], 0, 20))
    else char_Read.go s skip (acc ++ Lib.encodeRune x.2) l
def char_Read.val (a0 : ByteArray) : List UInt8 × Int × Int := if a0.toList = ([] : List UInt8) then ([], 0, 20) else if bt a0 0 = 39 then char_Read.go a0 1 [] (runesOf a0) else ([], 0, 20)
def char_Read.f (a0 : ByteArray) : Option (ByteArray × Int × Int) := if a0.size ≤ 35184372088832 then some (⟨(char_Read.val a0).1.toArray⟩, (char_Read.val a0).2.1, (char_Read.val a0).2.2) else none
theorem char_Read.empty (s : ByteArray) (w : World) (h : s.toList = ([] : List UInt8)) : Calls Tryd.prog 17 #[.string s] w fun e w' => e = .returned (.tuple #[.string ⟨(([] : List UInt8)).toArray⟩, .int .i64 0, .int .i64 20]) ∧ Below w.heap.size w w' := by
  have d5 : (s.toList == ([] : List UInt8)) = true := beq_iff_eq.mpr h
  have d5b : s.toList.isEmpty = true := by rw [h]; rfl
  clear h
  go_enter Tryd.func17, Tryd.ntmps17
  go_wp2
  go_ret3
  exact ⟨rfl, (Below.refl _ _).alloc (Nat.le_refl _) _⟩
theorem char_Read.noquote (s : ByteArray) (w : World) (h : s.toList ≠ ([] : List UInt8)) (h0 : 0 < s.size) (hq : ((s[0]'h0).toNat : Int) ≠ 39) : Calls Tryd.prog 17 #[.string s] w fun e w' => e = .returned (.tuple #[.string ⟨(([] : List UInt8)).toArray⟩, .int .i64 0, .int .i64 20]) ∧ Below w.heap.size w w' := by
  have d5 : (s.toList == ([] : List UInt8)) = false := beq_eq_false_iff_ne.mpr h
  have d5b : s.toList.isEmpty = false := toList_ne s h0
  have d6 : (((s[0]'h0).toNat : Int) != 39) = true := by simpa using hq
  clear h hq
  go_enter Tryd.func17, Tryd.ntmps17
  go_wp2
  go_ret3
  exact ⟨rfl, (Below.refl _ _).alloc (Nat.le_refl _) _⟩
set_option maxRecDepth 100000 in
set_option maxHeartbeats 4000000 in
theorem char_Read.walk (s : ByteArray) (w : World) (hT : Tabs w) (hs : s.size ≤ 35184372088832) (h : s.toList ≠ ([] : List UInt8)) (h0 : 0 < s.size) (hq : ((s[0]'h0).toNat : Int) = 39) :
    Calls Tryd.prog 17 #[.string s] w fun e w' => e = .returned (.tuple #[.string ⟨(char_Read.go s 1 [] (runesOf s)).1.toArray⟩, .int .i64 (char_Read.go s 1 [] (runesOf s)).2.1, .int .i64 (char_Read.go s 1 [] (runesOf s)).2.2]) ∧ Below w.heap.size w w' := by
  have d5 : (s.toList == ([] : List UInt8)) = false := beq_eq_false_iff_ne.mpr h
  have d5b : s.toList.isEmpty = false := toList_ne s h0
  have d6 : (((s[0]'h0).toNat : Int) != 39) = false := by simpa using hq
  have HS := Aside0.mk hs
  have HT := Aside0.mk hT
  clear h hq hs hT
  have HK := Aside0.mk (show BIt w.heap.size w.heap.size (w.heap.size + 1) s 0 [] w ((w.alloc (.cells #[.pointer none, .slice none 0 0] 36)).iter s 0) from
    ⟨Lib.IsBuilderF.alloc (Lib.IsBuilderF.of (Lib.fresh_isBuilder 36 5 w)) _, by have := World.iter_heap (w.alloc (.cells #[.pointer none, .slice none 0 0] 36)) s 0; simpa using this, ((Below.refl _ w).alloc (Nat.le_refl _) _).alloc (by simp) _, by omega, by omega⟩)
  obtain ⟨R, hR⟩ : ∃ R, char_Read.go s 1 [] (runesOf s) = R := ⟨_, rfl⟩
  rw [hR]
  have HR := Aside0.mk hR
  clear hR
  go_enter Tryd.func17, Tryd.ntmps17
  go_wp2
  go_loopw [6] (fun sv wr => ∃ (pos fuel : Nat) (skip : Int) (acc : List UInt8), sv = .int .i64 skip ∧ Aside0 (BIt w.heap.size w.heap.size (w.heap.size + 1) s pos acc w wr ∧ s.size ≤ pos + fuel ∧ char_Read.go s skip acc (runesAt s fuel pos) = R ∧ acc.length ≤ 4 * pos ∧ pos ≤ s.size)) (fun _ wr => s.size - wr.iterPos (w.heap.size + 1))
  case atStart => exact ⟨0, s.size, 1, [], rfl, ⟨HK.out, by omega, HR.out, by simp, by omega⟩⟩
  case round =>
    obtain ⟨pos, fuel, skip, acc, rfl, HA⟩ := hrel
    clear HK d5 d5b
    have HI0 := Aside0.mk HA.out.1
    have hsm := HS.out
    by_cases hp : pos < s.size
    · have hnx : ∀ ty, (Instr.next (.pointer (some ⟨w.heap.size + 1, 0, none⟩)) true ty).run Tryd.prog wr = _ := fun ty => Lib.run_next_any_at wr (w.heap.size + 1) s pos ty HI0.out.iter hp
      obtain ⟨f', -, hf', hst⟩ := runesAt_step hp HA.out.2.1
      have hg := HA.out.2.2.1
      rw [hst] at hg
      clear hst
      have hwd := Lib.decode_width_pos s pos hp
      have hdl := decode_end s pos hp
      have hc31 := decode_le s pos
      generalize (Utf8.decode s pos).1 = c at hg hnx hc31
      generalize (Utf8.decode s pos).2 = n at hg hnx hf' hwd hdl
      unfold char_Read.go at hg
      dsimp only at hg
      have HF := Aside0.mk hf'
      have HC31 := Aside0.mk hc31
      have HW := Aside0.mk (And.intro hwd hp)
      have HL := Aside0.mk (show acc.length + 4 ≤ 140737488355328 by have := HA.out.2.2.2; omega)
      have HL2 := Aside0.mk (show acc.length + 4 ≤ 4 * (pos + n) ∧ (Lib.encodeRune (c : Int)).length ≤ 4 by have := HA.out.2.2.2.1; have := encode_len4 (c : Int); omega)
      have HD := Aside0.mk hdl
      have HN := Aside0.mk (HI0.out.next (pos + n))
      have hp63 : (pos : Int) < 35184372088832 := by omega
      have HP63 := Aside0.mk hp63
      have hsl : pos + 1 ≤ s.size := by omega
      clear HA hf' hwd hdl hc31 hsm hp63
      have hwp1 : wrap64 ((pos : Int) + 1) = (pos : Int) + 1 := by have := HP63.out; unfold wrap64; omega
      have hwp2 : wrap64 ((pos : Int) + 2) = (pos : Int) + 2 := by have := HP63.out; unfold wrap64; omega
      by_cases ck : skip > (pos : Int)
      · rw [if_pos ck] at hg
        have HG := Aside0.mk hg
        have x0 : decide ((pos : Int) < skip) = true := decide_eq_true ck
        clear hg ck
        go_wp2
        go_roundw
        case rel => exact ⟨pos + n, f', _, _, rfl, ⟨HN.out, HF.out, HG.out, by have := HL2.out; (try simp only [List.length_append]); omega, HD.out⟩⟩
        case measure => simp only [World.iterPos, HN.out.iter, HI0.out.iter]; have := HW.out; omega
      rw [if_neg ck] at hg
      have x0 : decide ((pos : Int) < skip) = false := decide_eq_false ck
      clear ck
      by_cases c1 : (c : Int) = 39
      · rw [if_pos c1] at hg
        have x1 : ((c : Int) == 39) = true := by simp [c1]
        clear c1
        have hpe := preB_eq (s.extract (pos + 1) s.size) (⟨#[39]⟩ : ByteArray)
        cases hpb : preB (s.extract (pos + 1) s.size) (⟨#[39]⟩ : ByteArray) with
        | true =>
          rw [hpb] at hg hpe
          rw [if_pos rfl] at hg
          have HG := Aside0.mk hg
          have HPE := Aside0.mk hpe
          clear hg hpe hpb
          go_wp2_with (first | (go_at_call 24; (with_reducible refine (strings_HasPrefix.calls _ _ _ _ HPE.out).mono ?_); rintro e WHI2 ⟨rfl, hd⟩; have HI2 := Aside0.mk (HN.out.below hd.below); clear hd) | (go_at_call 26; (with_reducible refine (Tryd.Builder_WriteRune_k w.heap.size w.heap.size _ _ (by have := HC31.out; omega) (by have := HC31.out; omega) _ HI2.out.bld (by rw [Lib.byteCells_length]; have := HL.out; omega) HI2.out.hB).mono ?_); rintro e WHI3 ⟨rfl, h1, b1, k1⟩; have HI3 := Aside0.mk (HI2.out.wrote (Lib.encodeRune (c : Int)) (by rw [Lib.byteCells_encodeRune]; exact h1) b1 k1); clear h1 b1 k1))
          go_roundw
          case rel => exact ⟨pos + n, f', _, _, rfl, ⟨HI3.out, HF.out, HG.out, by have := HL2.out; (try simp only [List.length_append]); omega, HD.out⟩⟩
          case measure => simp only [World.iterPos, HI3.out.iter, HI0.out.iter]; have := HW.out; omega
        | false =>
          rw [hpb] at hg hpe
          rw [if_neg (by simp)] at hg
          have HG := Aside0.mk hg
          have HPE := Aside0.mk hpe
          clear hg hpe hpb
          go_wp2_with (first | (go_at_call 24; (with_reducible refine (strings_HasPrefix.calls _ _ _ _ HPE.out).mono ?_); rintro e WHI2 ⟨rfl, hd⟩; have HI2 := Aside0.mk (HN.out.below hd.below); clear hd) | (go_at_call 29; (with_reducible refine (Tryd.Builder_String_any_k w.heap.size w.heap.size _ _ HI2.out.bld HI2.out.hB).mono ?_); rintro e W9 ⟨rfl, h1, b1, k1⟩; have HB9 := Aside0.mk (HI2.out.low.trans b1); clear h1 b1 k1))
          go_ret3
          exact ⟨by rw [← HG.out]; show Ending.returned (.tuple #[_, .int .i64 (wrap64 ((pos : Int) + 1)), _]) = _; rw [hwp1]; rfl, HB9.out⟩
      rw [if_neg c1] at hg
      have x1 : ((c : Int) == 39) = false := by simpa using c1
      clear c1
      by_cases c2 : (c : Int) = 92
      · rw [if_pos c2] at hg
        have x2 : ((c : Int) == 92) = true := by simp [c2]
        clear c2
        obtain ⟨hes, hr0, hr1, hn0, hn1⟩ := esc_some (s.extract (pos + 1) s.size) (by rw [ByteArray.size_extract]; have := HS.out; omega)
        generalize escN (s.extract (pos + 1) s.size) = er at hg hes hr0 hr1 hn0 hn1
        obtain ⟨r, m⟩ := er
        dsimp only at hg hr0 hr1 hn0 hn1
        have HE := Aside0.mk hes
        clear hes
        by_cases hm : m = 0
        · rw [if_pos hm] at hg
          have HG := Aside0.mk hg
          have x3 : (m == 0) = true := by simp [hm]
          clear hg hm hr0 hr1 hn0 hn1
          go_wp2_with (go_at_call 30; (with_reducible refine (char_escape.calls 2 _ _ _ _ HE.out (HT.out.below HN.out.low)).mono ?_); rintro e WHI2 ⟨rfl, hb⟩; have HI2 := Aside0.mk (HN.out.below hb); clear hb)
          go_ret3
          exact ⟨by rw [← HG.out]; rfl, HI2.out.low⟩
        · rw [if_neg hm] at hg
          have HG := Aside0.mk hg
          have x3 : (m == 0) = false := by simpa using hm
          have HRR := Aside0.mk (And.intro hr0 hr1)
          have hwp3 : wrap64 ((pos : Int) + 1 + m) = (pos : Int) + 1 + m := by have := HP63.out; unfold wrap64; omega
          have HLR := Aside0.mk (encode_len4 r)
          clear hg hm hr0 hr1 hn0 hn1
          go_wp2_with (first | (go_at_call 30; (with_reducible refine (char_escape.calls 2 _ _ _ _ HE.out (HT.out.below HN.out.low)).mono ?_); rintro e WHI2 ⟨rfl, hb⟩; have HI2 := Aside0.mk (HN.out.below hb); clear hb) | (go_at_call 26; (with_reducible refine (Tryd.Builder_WriteRune_k w.heap.size w.heap.size _ _ (by have := HRR.out; omega) (by have := HRR.out; omega) _ HI2.out.bld (by rw [Lib.byteCells_length]; have := HL.out; omega) HI2.out.hB).mono ?_); rintro e WHI3 ⟨rfl, h1, b1, k1⟩; have HI3 := Aside0.mk (HI2.out.wrote (Lib.encodeRune r) (by rw [Lib.byteCells_encodeRune]; exact h1) b1 k1); clear h1 b1 k1))
          go_roundw
          case rel => exact ⟨pos + n, f', _, _, rfl, ⟨HI3.out, HF.out, HG.out, by have := HL2.out; have := HLR.out; (try simp only [List.length_append]); omega, HD.out⟩⟩
          case measure => simp only [World.iterPos, HI3.out.iter, HI0.out.iter]; have := HW.out; omega
      rw [if_neg c2] at hg
      have x2 : ((c : Int) == 92) = false := by simpa using c2
      clear c2
      by_cases c3 : (c : Int) < 32
      · rw [if_pos c3] at hg
        have HG := Aside0.mk hg
        have x3 : decide ((c : Int) < 32) = true := decide_eq_true c3
        clear hg c3
        go_wp2
        go_ret3
        exact ⟨by rw [← HG.out]; rfl, HN.out.low⟩
      rw [if_neg c3] at hg
      have x3 : decide ((c : Int) < 32) = false := decide_eq_false c3
      clear c3
      by_cases c4 : (c : Int) = 65533
      · rw [if_pos c4] at hg
        have x4 : ((c : Int) == 65533) = true := by simp [c4]
        clear c4
        have hpe := preB_eq (s.extract pos s.size) fffd
        cases hpb : preB (s.extract pos s.size) fffd with
        | true =>
          rw [hpb] at hg hpe
          rw [if_pos rfl] at hg
          have HG := Aside0.mk hg
          have HPE := Aside0.mk hpe
          clear hg hpe hpb
          go_wp2_with (first | (go_at_call 24; (with_reducible refine (strings_HasPrefix.calls _ _ _ _ HPE.out).mono ?_); rintro e WHI2 ⟨rfl, hd⟩; have HI2 := Aside0.mk (HN.out.below hd.below); clear hd) | (go_at_call 26; (with_reducible refine (Tryd.Builder_WriteRune_k w.heap.size w.heap.size _ _ (by have := HC31.out; omega) (by have := HC31.out; omega) _ HI2.out.bld (by rw [Lib.byteCells_length]; have := HL.out; omega) HI2.out.hB).mono ?_); rintro e WHI3 ⟨rfl, h1, b1, k1⟩; have HI3 := Aside0.mk (HI2.out.wrote (Lib.encodeRune (c : Int)) (by rw [Lib.byteCells_encodeRune]; exact h1) b1 k1); clear h1 b1 k1))
          go_roundw
          case rel => exact ⟨pos + n, f', _, _, rfl, ⟨HI3.out, HF.out, HG.out, by have := HL2.out; (try simp only [List.length_append]); omega, HD.out⟩⟩
          case measure => simp only [World.iterPos, HI3.out.iter, HI0.out.iter]; have := HW.out; omega
        | false =>
          rw [hpb] at hg hpe
          rw [if_neg (by simp)] at hg
          have HG := Aside0.mk hg
          have HPE := Aside0.mk hpe
          clear hg hpe hpb
          go_wp2_with (go_at_call 24; (with_reducible refine (strings_HasPrefix.calls _ _ _ _ HPE.out).mono ?_); rintro e WHI2 ⟨rfl, hd⟩; have HI2 := Aside0.mk (HN.out.below hd.below); clear hd)
          go_ret3
          exact ⟨by rw [← HG.out]; rfl, HI2.out.low⟩
      rw [if_neg c4] at hg
      have HG := Aside0.mk hg
      have x4 : ((c : Int) == 65533) = false := by simpa using c4
      clear hg c4
      go_wp2_with (go_at_call 26; (with_reducible refine (Tryd.Builder_WriteRune_k w.heap.size w.heap.size _ _ (by have := HC31.out; omega) (by have := HC31.out; omega) _ HN.out.bld (by rw [Lib.byteCells_length]; have := HL.out; omega) HN.out.hB).mono ?_); rintro e WHI2 ⟨rfl, h1, b1, k1⟩; have HI2 := Aside0.mk (HN.out.wrote (Lib.encodeRune (c : Int)) (by rw [Lib.byteCells_encodeRune]; exact h1) b1 k1); clear h1 b1 k1)
      go_roundw
      case rel => exact ⟨pos + n, f', _, _, rfl, ⟨HI2.out, HF.out, HG.out, by have := HL2.out; (try simp only [List.length_append]); omega, HD.out⟩⟩
      case measure => simp only [World.iterPos, HI2.out.iter, HI0.out.iter]; have := HW.out; omega
    · have hnx : ∀ ty, (Instr.next (.pointer (some ⟨w.heap.size + 1, 0, none⟩)) true ty).run Tryd.prog wr = _ := fun ty => Lib.run_next_end_at wr (w.heap.size + 1) s pos ty HI0.out.iter hp
      have hg := HA.out.2.2.1
      rw [runesAt_end hp] at hg
      have HG := Aside0.mk hg
      clear hg HA hsm
      go_wp2
      go_ret3
      exact ⟨by rw [← HG.out]; rfl, HI0.out.low⟩
theorem char_Read.calls (a0 : ByteArray) (r1 : ByteArray) (r2 r3 : Int) (w : World) (h : char_Read.f a0 = some (r1, r2, r3)) (hT : Tabs w) :
    Calls Tryd.prog 17 #[.string a0] w fun e w' => e = .returned (.tuple #[.string r1, .int .i64 r2, .int .i64 r3]) ∧ Below w.heap.size w w' := by
  unfold char_Read.f at h
  split at h
  case isFalse => exact absurd h (by simp)
  case isTrue hs =>
  simp only [Option.some.injEq, Prod.mk.injEq] at h
  obtain ⟨rfl, rfl, rfl⟩ := h
  unfold char_Read.val
  by_cases he : a0.toList = ([] : List UInt8)
  · rw [if_pos he]; exact char_Read.empty a0 w he
  · rw [if_neg he]
    have h0 : 0 < a0.size := by
      rcases Nat.eq_zero_or_pos a0.size with h0 | h0
      · exfalso
        apply he
        have := isEmpty_size a0
        rw [decide_eq_true h0] at this
        exact List.isEmpty_iff.1 this
      · exact h0
    have hb : bt a0 0 = ((a0[0]'h0).toNat : Int) := (bt_at a0 0 h0).symm
    by_cases hq : bt a0 0 = 39
    · rw [if_pos hq]; exact char_Read.walk a0 w hT hs he h0 (hb ▸ hq)
    · rw [if_neg hq]; exact char_Read.noquote a0 w he h0 (hb ▸ hq)

end Go.Proofs.YtkniiinpkchjoaaDoor.P
