-- PRINTED by a program of this session over the kit's print.py.
import Derived.Test.YtkniiinpkchjoaaDoorPx0
import Derived.Test.YtkniiinpkchjoaaDoorPx1
import Derived.Test.YtkniiinpkchjoaaDoorPx2
import Derived.Test.YtkniiinpkchjoaaDoorPx3
namespace Go.Proofs.YtkniiinpkchjoaaDoor.P
open Go.Own Go.RowKit Go.Proofs.YtkniiinpkchjoaaDoorW.PrintWords Go.Proofs.YtkniiinpkchjoaaDoorW.PrintLast Go.Proofs.YtkniiinpkchjoaaDoorW.PrintMore
attribute [local go_sem] max2_int min2_int max_two min_two max_three min_three max_four min_four   -- for this text's walks alone
set_option linter.unusedVariables false
set_option linter.unusedSimpArgs false

/-! ### char_Read: function 17 (given) -/
-- char_code.calls char_Bare.calls char_Write.calls
/-- what stands behind a \\ -/
def escN (s : ByteArray) : Int × Int := (char_escape.f 2 s).getD (0, 0)
theorem code_range {s : ByteArray} {r n : Int} (h : char_code.f s = some (r, n)) : 0 ≤ r ∧ r ≤ 1114111 ∧ 0 ≤ n ∧ n ≤ 7 := by
  unfold char_code.f at h
  split at h
  case isFalse => cases h
  case isTrue hs =>
  injection h with h
  unfold char_code.val at h
  split at h
  · cases h; omega
  · split at h
    · cases h; omega
    · split at h
      · cases h; omega
      · rename_i v _
        split at h
        · rename_i hv
          cases h
          unfold Lib.validRune at hv
          have := of_decide_eq_true hv
          omega
        · cases h; omega
theorem code_total {s : ByteArray} (h : s.size ≤ 9223372036854775807) : ∃ r n, char_code.f s = some (r, n) := by
  unfold char_code.f
  rw [if_pos h]
  exact ⟨_, _, rfl⟩
theorem esc_some (s : ByteArray) (hs : s.size ≤ 9223372036854775807) : char_escape.f 2 s = some (escN s) ∧ 0 ≤ (escN s).1 ∧ (escN s).1 ≤ 1114111 ∧ 0 ≤ (escN s).2 ∧ (escN s).2 ≤ 8 := by
  have key : ∃ r n, char_escape.f 2 s = some (r, n) ∧ 0 ≤ r ∧ r ≤ 1114111 ∧ 0 ≤ n ∧ n ≤ 8 := by
    have hj : ∀ (t : ByteArray) (c : Int) (b : Bool), t.size ≤ 9223372036854775807 → 1 ≤ (t.size : Int) → 0 ≤ c → c ≤ 255 → ∃ r n, char_escape.j0 2 t c c b = some (r, n) ∧ 0 ≤ r ∧ r ≤ 1114111 ∧ 0 ≤ n ∧ n ≤ 8 := by
      intro t c b ht ht1 h0 h1
      have hc := code_total (s := t.extract 1 t.size) (by rw [ByteArray.size_extract]; omega)
      obtain ⟨r, n, hc⟩ := hc
      have hr := code_range hc
      unfold char_escape.j0
      simp only [hc, Option.bind_some, if_pos ht1]
      repeat' split
      all_goals first
        | exact ⟨_, _, rfl, by unfold wrap32; omega, by unfold wrap32; omega, by omega, by omega⟩
        | exact ⟨_, _, rfl, by omega, by omega, by unfold wrap64; omega, by unfold wrap64; omega⟩
        | exact ⟨_, _, rfl, by decide, by decide, by decide, by decide⟩
    unfold char_escape.f
    have hb := bt_range s 0
    by_cases he : s.toList = ([] : List UInt8)
    · rw [if_pos he]; exact ⟨_, _, rfl, by omega, by omega, by omega, by omega⟩
    · rw [if_neg he]
      have h0 : 0 < (s.size : Int) := by
        rcases Nat.eq_zero_or_pos s.size with h0 | h0
        · exfalso
          apply he
          have := isEmpty_size s
          rw [decide_eq_true h0] at this
          exact List.isEmpty_iff.1 this
        · omega
      rw [if_pos h0]
      split
      · exact hj _ _ _ hs (by omega) hb.1 hb.2
      · exact hj _ _ _ hs (by omega) hb.1 hb.2
  obtain ⟨r, n, h, hr⟩ := key
  unfold escN
  rw [h]
  exact ⟨rfl, hr⟩
@[reducible] def fffd : ByteArray := ⟨#[239, 191, 189]⟩
def char_Read.go (s : ByteArray) : Int → List UInt8 → List (Nat × Nat) → List UInt8 × Int × Int
  | _, _, [] => ([], 0, 20)
  | skip, acc, x :: l =>
    if skip > x.1 then char_Read.go s skip acc l
    else if (x.2 : Int) = 39 then (if preB (s.extract (x.1 + 1) s.size) (⟨#[39]⟩ : ByteArray) = true then char_Read.go s (x.1 + 2) (acc ++ Lib.encodeRune x.2) l else (acc, x.1 + 1, 0))
    else if (x.2 : Int) = 92 then (if (escN (s.extract (x.1 + 1) s.size)).2 = 0 then ([], 0, 20) else char_Read.go s (x.1 + 1 + (escN (s.extract (x.1 + 1) s.size)).2) (acc ++ Lib.encodeRune (escN (s.extract (x.1 + 1) s.size)).1) l)
    else if (x.2 : Int) < 32 then ([], 0, 20)
    else if (x.2 : Int) = 65533 then (if preB (s.extract x.1 s.size) fffd = true then char_Read.go s skip (acc ++ Lib.encodeRune x.2) l else ([], 0, 20))
    else char_Read.go s skip (acc ++ Lib.encodeRune x.2) l
def char_Read.val (a0 : ByteArray) : List UInt8 × Int × Int := if a0.toList = ([] : List UInt8) then ([], 0, 20) else if bt a0 0 = 39 then char_Read.go a0 1 [] (runesOf a0) else ([], 0, 20)
def char_Read.f (a0 : ByteArray) : Option (ByteArray × Int × Int) := if a0.size ≤ 35184372088832 then some (⟨(char_Read.val a0).1.toArray⟩, (char_Read.val a0).2.1, (char_Read.val a0).2.2) else none
theorem char_Read.empty (s : ByteArray) (w : World) (h : s.toList = ([] : List UInt8)) : Calls Tryd.prog 17 #[.string s] w fun e w' => e = .returned (.tuple #[.string ⟨(([] : List UInt8)).toArray⟩, .int .i64 0, .int .i64 20]) ∧ Below w.heap.size w w' := by
  have d5 : (s.toList == ([] : List UInt8)) = true := beq_iff_eq.mpr h
  have d5b : s.toList.isEmpty = true := by rw [h]; rfl
  clear h
  go_enter Tryd.func17, Tryd.ntmps17
  go_wp2
  go_ret3
  exact ⟨rfl, (Below.refl _ _).alloc (Nat.le_refl _) _⟩
theorem char_Read.noquote (s : ByteArray) (w : World) (h : s.toList ≠ ([] : List UInt8)) (h0 : 0 < s.size) (hq : ((s[0]'h0).toNat : Int) ≠ 39) : Calls Tryd.prog 17 #[.string s] w fun e w' => e = .returned (.tuple #[.string ⟨(([] : List UInt8)).toArray⟩, .int .i64 0, .int .i64 20]) ∧ Below w.heap.size w w' := by
  have d5 : (s.toList == ([] : List UInt8)) = false := beq_eq_false_iff_ne.mpr h
  have d5b : s.toList.isEmpty = false := toList_ne s h0
  have d6 : (((s[0]'h0).toNat : Int) != 39) = true := by simpa using hq
  clear h hq
  go_enter Tryd.func17, Tryd.ntmps17
  go_wp2
  go_ret3
  exact ⟨rfl, (Below.refl _ _).alloc (Nat.le_refl _) _⟩
set_option maxRecDepth 100000 in
set_option maxHeartbeats 4000000 in
theorem char_Read.walk (s : ByteArray) (w : World) (hT : Tabs w) (hs : s.size ≤ 35184372088832) (h : s.toList ≠ ([] : List UInt8)) (h0 : 0 < s.size) (hq : ((s[0]'h0).toNat : Int) = 39) :
    Calls Tryd.prog 17 #[.string s] w fun e w' => e = .returned (.tuple #[.string ⟨(char_Read.go s 1 [] (runesOf s)).1.toArray⟩, .int .i64 (char_Read.go s 1 [] (runesOf s)).2.1, .int .i64 (char_Read.go s 1 [] (runesOf s)).2.2]) ∧ Below w.heap.size w w' := by
  have d5 : (s.toList == ([] : List UInt8)) = false := beq_eq_false_iff_ne.mpr h
  have d5b : s.toList.isEmpty = false := toList_ne s h0
  have d6 : (((s[0]'h0).toNat : Int) != 39) = false := by simpa using hq
  have HS := Aside0.mk hs
  have HT := Aside0.mk hT
  clear h hq hs hT
  have HK := Aside0.mk (show BIt w.heap.size w.heap.size (w.heap.size + 1) s 0 [] w ((w.alloc (.cells #[.pointer none, .slice none 0 0] 36)).iter s 0) from
    ⟨Lib.IsBuilderF.alloc (Lib.IsBuilderF.of (Lib.fresh_isBuilder 36 5 w)) _, by have := World.iter_heap (w.alloc (.cells #[.pointer none, .slice none 0 0] 36)) s 0; simpa using this, ((Below.refl _ w).alloc (Nat.le_refl _) _).alloc (by simp) _, by omega, by omega⟩)
  obtain ⟨R, hR⟩ : ∃ R, char_Read.go s 1 [] (runesOf s) = R := ⟨_, rfl⟩
  rw [hR]
  have HR := Aside0.mk hR
  clear hR
  go_enter Tryd.func17, Tryd.ntmps17
  go_wp2
  go_loopw [6] (fun sv wr => ∃ (pos fuel : Nat) (skip : Int) (acc : List UInt8), sv = .int .i64 skip ∧ Aside0 (BIt w.heap.size w.heap.size (w.heap.size + 1) s pos acc w wr ∧ s.size ≤ pos + fuel ∧ char_Read.go s skip acc (runesAt s fuel pos) = R ∧ acc.length ≤ 4 * pos ∧ pos ≤ s.size)) (fun _ wr => s.size - wr.iterPos (w.heap.size + 1))
  case atStart => exact ⟨0, s.size, 1, [], rfl, ⟨HK.out, by omega, HR.out, by simp, by omega⟩⟩
  case round =>
    obtain ⟨pos, fuel, skip, acc, rfl, HA⟩ := hrel
    clear HK d5 d5b
    have HI0 := Aside0.mk HA.out.1
    have hsm := HS.out
    by_cases hp : pos < s.size
    · have hnx : ∀ ty, (Instr.next (.pointer (some ⟨w.heap.size + 1, 0, none⟩)) true ty).run Tryd.prog wr = _ := fun ty => Lib.run_next_any_at wr (w.heap.size + 1) s pos ty HI0.out.iter hp
      obtain ⟨f', -, hf', hst⟩ := runesAt_step hp HA.out.2.1
      have hg := HA.out.2.2.1
      rw [hst] at hg
      clear hst
      have hwd := Lib.decode_width_pos s pos hp
      have hdl := decode_end s pos hp
      have hc31 := decode_le s pos
      generalize (Utf8.decode s pos).1 = c at hg hnx hc31
      generalize (Utf8.decode s pos).2 = n at hg hnx hf' hwd hdl
      unfold char_Read.go at hg
      dsimp only at hg
      have HF := Aside0.mk hf'
      have HC31 := Aside0.mk hc31
      have HW := Aside0.mk (And.intro hwd hp)
      have HL := Aside0.mk (show acc.length + 4 ≤ 140737488355328 by have := HA.out.2.2.2; omega)
      have HL2 := Aside0.mk (show acc.length + 4 ≤ 4 * (pos + n) ∧ (Lib.encodeRune (c : Int)).length ≤ 4 by have := HA.out.2.2.2.1; have := encode_len4 (c : Int); omega)
      have HD := Aside0.mk hdl
      have HN := Aside0.mk (HI0.out.next (pos + n))
      have hp63 : (pos : Int) < 35184372088832 := by omega
      have HP63 := Aside0.mk hp63
      have hsl : pos + 1 ≤ s.size := by omega
      clear HA hf' hwd hdl hc31 hsm hp63
      have hwp1 : wrap64 ((pos : Int) + 1) = (pos : Int) + 1 := by have := HP63.out; unfold wrap64; omega
      have hwp2 : wrap64 ((pos : Int) + 2) = (pos : Int) + 2 := by have := HP63.out; unfold wrap64; omega
      by_cases ck : skip > (pos : Int)
      · rw [if_pos ck] at hg
        have HG := Aside0.mk hg
        have x0 : decide ((pos : Int) < skip) = true := decide_eq_true ck
        clear hg ck
        go_wp2
        go_roundw
        case rel => exact ⟨pos + n, f', _, _, rfl, ⟨HN.out, HF.out, HG.out, by have := HL2.out; (try simp only [List.length_append]); omega, HD.out⟩⟩
        case measure => simp only [World.iterPos, HN.out.iter, HI0.out.iter]; have := HW.out; omega
      rw [if_neg ck] at hg
      have x0 : decide ((pos : Int) < skip) = false := decide_eq_false ck
      clear ck
      by_cases c1 : (c : Int) = 39
      · rw [if_pos c1] at hg
        have x1 : ((c : Int) == 39) = true := by simp [c1]
        clear c1
        have hpe := preB_eq (s.extract (pos + 1) s.size) (⟨#[39]⟩ : ByteArray)
        cases hpb : preB (s.extract (pos + 1) s.size) (⟨#[39]⟩ : ByteArray) with
        | true =>
          rw [hpb] at hg hpe
          rw [if_pos rfl] at hg
          have HG := Aside0.mk hg
          have HPE := Aside0.mk hpe
          clear hg hpe hpb
          go_wp2_with (first | (go_at_call 24; (with_reducible refine (strings_HasPrefix.calls _ _ _ _ HPE.out).mono ?_); rintro e WHI2 ⟨rfl, hd⟩; have HI2 := Aside0.mk (HN.out.below hd.below); clear hd) | (go_at_call 26; (with_reducible refine (Tryd.Builder_WriteRune_k w.heap.size w.heap.size _ _ (by have := HC31.out; omega) (by have := HC31.out; omega) _ HI2.out.bld (by rw [Lib.byteCells_length]; have := HL.out; omega) HI2.out.hB).mono ?_); rintro e WHI3 ⟨rfl, h1, b1, k1⟩; have HI3 := Aside0.mk (HI2.out.wrote (Lib.encodeRune (c : Int)) (by rw [Lib.byteCells_encodeRune]; exact h1) b1 k1); clear h1 b1 k1))
          go_roundw
          case rel => exact ⟨pos + n, f', _, _, rfl, ⟨HI3.out, HF.out, HG.out, by have := HL2.out; (try simp only [List.length_append]); omega, HD.out⟩⟩
          case measure => simp only [World.iterPos, HI3.out.iter, HI0.out.iter]; have := HW.out; omega
        | false =>
          rw [hpb] at hg hpe
          rw [if_neg (by simp)] at hg
          have HG := Aside0.mk hg
          have HPE := Aside0.mk hpe
          clear hg hpe hpb
          go_wp2_with (first | (go_at_call 24; (with_reducible refine (strings_HasPrefix.calls _ _ _ _ HPE.out).mono ?_); rintro e WHI2 ⟨rfl, hd⟩; have HI2 := Aside0.mk (HN.out.below hd.below); clear hd) | (go_at_call 29; (with_reducible refine (Tryd.Builder_String_any_k w.heap.size w.heap.size _ _ HI2.out.bld HI2.out.hB).mono ?_); rintro e W9 ⟨rfl, h1, b1, k1⟩; have HB9 := Aside0.mk (HI2.out.low.trans b1); clear h1 b1 k1))
          go_ret3
          exact ⟨by rw [← HG.out]; show Ending.returned (.tuple #[_, .int .i64 (wrap64 ((pos : Int) + 1)), _]) = _; rw [hwp1]; rfl, HB9.out⟩
      rw [if_neg c1] at hg
      have x1 : ((c : Int) == 39) = false := by simpa using c1
      clear c1
      by_cases c2 : (c : Int) = 92
      · rw [if_pos c2] at hg
        have x2 : ((c : Int) == 92) = true := by simp [c2]
        clear c2
        obtain ⟨hes, hr0, hr1, hn0, hn1⟩ := esc_some (s.extract (pos + 1) s.size) (by rw [ByteArray.size_extract]; have := HS.out; omega)
        generalize escN (s.extract (pos + 1) s.size) = er at hg hes hr0 hr1 hn0 hn1
        obtain ⟨r, m⟩ := er
        dsimp only at hg hr0 hr1 hn0 hn1
        have HE := Aside0.mk hes
        clear hes
        by_cases hm : m = 0
        · rw [if_pos hm] at hg
          have HG := Aside0.mk hg
          have x3 : (m == 0) = true := by simp [hm]
          clear hg hm hr0 hr1 hn0 hn1
          go_wp2_with (go_at_call 30; (with_reducible refine (char_escape.calls 2 _ _ _ _ HE.out (HT.out.below HN.out.low)).mono ?_); rintro e WHI2 ⟨rfl, hb⟩; have HI2 := Aside0.mk (HN.out.below hb); clear hb)
          go_ret3
          exact ⟨by rw [← HG.out]; rfl, HI2.out.low⟩
        · rw [if_neg hm] at hg
          have HG := Aside0.mk hg
          have x3 : (m == 0) = false := by simpa using hm
          have HRR := Aside0.mk (And.intro hr0 hr1)
          have hwp3 : wrap64 ((pos : Int) + 1 + m) = (pos : Int) + 1 + m := by have := HP63.out; unfold wrap64; omega
          have HLR := Aside0.mk (encode_len4 r)
          clear hg hm hr0 hr1 hn0 hn1
          go_wp2_with (first | (go_at_call 30; (with_reducible refine (char_escape.calls 2 _ _ _ _ HE.out (HT.out.below HN.out.low)).mono ?_); rintro e WHI2 ⟨rfl, hb⟩; have HI2 := Aside0.mk (HN.out.below hb); clear hb) | (go_at_call 26; (with_reducible refine (Tryd.Builder_WriteRune_k w.heap.size w.heap.size _ _ (by have := HRR.out; omega) (by have := HRR.out; omega) _ HI2.out.bld (by rw [Lib.byteCells_length]; have := HL.out; omega) HI2.out.hB).mono ?_); rintro e WHI3 ⟨rfl, h1, b1, k1⟩; have HI3 := Aside0.mk (HI2.out.wrote (Lib.encodeRune r) (by rw [Lib.byteCells_encodeRune]; exact h1) b1 k1); clear h1 b1 k1))
          go_roundw
          case rel => exact ⟨pos + n, f', _, _, rfl, ⟨HI3.out, HF.out, HG.out, by have := HL2.out; have := HLR.out; (try simp only [List.length_append]); omega, HD.out⟩⟩
          case measure => simp only [World.iterPos, HI3.out.iter, HI0.out.iter]; have := HW.out; omega
      rw [if_neg c2] at hg
      have x2 : ((c : Int) == 92) = false := by simpa using c2
      clear c2
      by_cases c3 : (c : Int) < 32
      · rw [if_pos c3] at hg
        have HG := Aside0.mk hg
        have x3 : decide ((c : Int) < 32) = true := decide_eq_true c3
        clear hg c3
        go_wp2
        go_ret3
        exact ⟨by rw [← HG.out]; rfl, HN.out.low⟩
      rw [if_neg c3] at hg
      have x3 : decide ((c : Int) < 32) = false := decide_eq_false c3
      clear c3
      by_cases c4 : (c : Int) = 65533
      · rw [if_pos c4] at hg
        have x4 : ((c : Int) == 65533) = true := by simp [c4]
        clear c4
        have hpe := preB_eq (s.extract pos s.size) fffd
        cases hpb : preB (s.extract pos s.size) fffd with
        | true =>
          rw [hpb] at hg hpe
          rw [if_pos rfl] at hg
          have HG := Aside0.mk hg
          have HPE := Aside0.mk hpe
          clear hg hpe hpb
          go_wp2_with (first | (go_at_call 24; (with_reducible refine (strings_HasPrefix.calls _ _ _ _ HPE.out).mono ?_); rintro e WHI2 ⟨rfl, hd⟩; have HI2 := Aside0.mk (HN.out.below hd.below); clear hd) | (go_at_call 26; (with_reducible refine (Tryd.Builder_WriteRune_k w.heap.size w.heap.size _ _ (by have := HC31.out; omega) (by have := HC31.out; omega) _ HI2.out.bld (by rw [Lib.byteCells_length]; have := HL.out; omega) HI2.out.hB).mono ?_); rintro e WHI3 ⟨rfl, h1, b1, k1⟩; have HI3 := Aside0.mk (HI2.out.wrote (Lib.encodeRune (c : Int)) (by rw [Lib.byteCells_encodeRune]; exact h1) b1 k1); clear h1 b1 k1))
          go_roundw
          case rel => exact ⟨pos + n, f', _, _, rfl, ⟨HI3.out, HF.out, HG.out, by have := HL2.out; (try simp only [List.length_append]); omega, HD.out⟩⟩
          case measure => simp only [World.iterPos, HI3.out.iter, HI0.out.iter]; have := HW.out; omega
        | false =>
          rw [hpb] at hg hpe
          rw [if_neg (by simp)] at hg
          have HG := Aside0.mk hg
          have HPE := Aside0.mk hpe
          clear hg hpe hpb
          go_wp2_with (go_at_call 24; (with_reducible refine (strings_HasPrefix.calls _ _ _ _ HPE.out).mono ?_); rintro e WHI2 ⟨rfl, hd⟩; have HI2 := Aside0.mk (HN.out.below hd.below); clear hd)
          go_ret3
          exact ⟨by rw [← HG.out]; rfl, HI2.out.low⟩
      rw [if_neg c4] at hg
      have HG := Aside0.mk hg
      have x4 : ((c : Int) == 65533) = false := by simpa using c4
      clear hg c4
      go_wp2_with (go_at_call 26; (with_reducible refine (Tryd.Builder_WriteRune_k w.heap.size w.heap.size _ _ (by have := HC31.out; omega) (by have := HC31.out; omega) _ HN.out.bld (by rw [Lib.byteCells_length]; have := HL.out; omega) HN.out.hB).mono ?_); rintro e WHI2 ⟨rfl, h1, b1, k1⟩; have HI2 := Aside0.mk (HN.out.wrote (Lib.encodeRune (c : Int)) (by rw [Lib.byteCells_encodeRune]; exact h1) b1 k1); clear h1 b1 k1)
      go_roundw
      case rel => exact ⟨pos + n, f', _, _, rfl, ⟨HI2.out, HF.out, HG.out, by have := HL2.out; (try simp only [List.length_append]); omega, HD.out⟩⟩
      case measure => simp only [World.iterPos, HI2.out.iter, HI0.out.iter]; have := HW.out; omega
    · have hnx : ∀ ty, (Instr.next (.pointer (some ⟨w.heap.size + 1, 0, none⟩)) true ty).run Tryd.prog wr = _ := fun ty => Lib.run_next_end_at wr (w.heap.size + 1) s pos ty HI0.out.iter hp
      have hg := HA.out.2.2.1
      rw [runesAt_end hp] at hg
      have HG := Aside0.mk hg
      clear hg HA hsm
      go_wp2
      go_ret3
      exact ⟨by rw [← HG.out]; rfl, HI0.out.low⟩
theorem char_Read.calls (a0 : ByteArray) (r1 : ByteArray) (r2 r3 : Int) (w : World) (h : char_Read.f a0 = some (r1, r2, r3)) (hT : Tabs w) :
    Calls Tryd.prog 17 #[.string a0] w fun e w' => e = .returned (.tuple #[.string r1, .int .i64 r2, .int .i64 r3]) ∧ Below w.heap.size w w' := by
  unfold char_Read.f at h
  split at h
  case isFalse => exact absurd h (by simp)
  case isTrue hs =>
  simp only [Option.some.injEq, Prod.mk.injEq] at h
  obtain ⟨rfl, rfl, rfl⟩ := h
  unfold char_Read.val
  by_cases he : a0.toList = ([] : List UInt8)
  · rw [if_pos he]; exact char_Read.empty a0 w he
  · rw [if_neg he]
    have h0 : 0 < a0.size := by
      rcases Nat.eq_zero_or_pos a0.size with h0 | h0
      · exfalso
        apply he
        have := isEmpty_size a0
        rw [decide_eq_true h0] at this
        exact List.isEmpty_iff.1 this
      · exact h0
    have hb : bt a0 0 = ((a0[0]'h0).toNat : Int) := (bt_at a0 0 h0).symm
    by_cases hq : bt a0 0 = 39
    · rw [if_pos hq]; exact char_Read.walk a0 w hT hs he h0 (hb ▸ hq)
    · rw [if_neg hq]; exact char_Read.noquote a0 w he h0 (hb ▸ hq)

/-! ### spinneylaw02_live: function 11 -/
def spinneylaw02_live.f (k : Nat)  : Option (Bool) := (char_Read.f (⟨#[39, 97, 39, 39, 98, 39, 32, 120]⟩ : ByteArray)).bind fun bt109 => ((char_Write.f (⟨#[102, 111, 111]⟩ : ByteArray)).bind fun t112 => (if t112.toList = ([102, 111, 111] : List UInt8) then ((char_Write.f (⟨#[70, 111, 111]⟩ : ByteArray)).bind fun t113 => (if t113.toList = ([39, 70, 111, 111, 39] : List UInt8) then ((char_Write.f (⟨#[105, 116, 39, 115]⟩ : ByteArray)).bind fun t114 => (if t114.toList = ([39, 105, 116, 92, 39, 115, 39] : List UInt8) then ((char_Write.f (⟨#[]⟩ : ByteArray)).bind fun t115 => (if t115.toList = ([39, 39] : List UInt8) then (if bt109.1.toList = ([97, 39, 98] : List UInt8) then (if bt109.2.1 = 6 then (if bt109.2.2 = 0 then ((char_Class.f k 97).bind fun t116 => (if t116 = 1 then ((char_Bare.f (⟨#[61]⟩ : ByteArray)).bind fun t117 => (if t117 = true then ((char_Check.f (⟨#[]⟩ : ByteArray)).bind fun t118 => (some t118)) else (none))) else (none))) else (none)) else (none)) else (none)) else (none))) else (none))) else (none))) else (none)))
theorem spinneylaw02_live.mono : ∀ k, LeO (spinneylaw02_live.f k ) (spinneylaw02_live.f (k + 1) ) := by
  intro  k
  unfold spinneylaw02_live.f
  repeat' first
      | (with_reducible exact char_Class.mono _ _)
      | (with_reducible exact LeO.refl _)
      | (with_reducible exact LeO.none _)
      | (with_reducible refine LeO.ite ?_ ?_)
      | (with_reducible refine LeO.bind ?_ (fun _ => ?_))
      | exact char_Class.mono _ _
      | exact LeO.none _
      | refine LeO.ite ?_ ?_
      | refine LeO.bind ?_ (fun _ => ?_)
set_option maxHeartbeats 8000000 in
set_option maxRecDepth 100000 in
theorem spinneylaw02_live.calls (k : Nat)  (r : Bool) (w : World) (h : spinneylaw02_live.f k  = some r) (hT : Tabs w) :
    Calls Tryd.prog 11 #[] w fun e w' => e = .returned (.bool r) ∧ Below w.heap.size w w' := by
  have HT := Aside0.mk hT
  clear hT
  have HB := Aside0.mk (Below.refl w.heap.size w)
  have H : ((char_Read.f (⟨#[39, 97, 39, 39, 98, 39, 32, 120]⟩ : ByteArray)).bind fun bt109 => ((char_Write.f (⟨#[102, 111, 111]⟩ : ByteArray)).bind fun t112 => (if t112.toList = ([102, 111, 111] : List UInt8) then ((char_Write.f (⟨#[70, 111, 111]⟩ : ByteArray)).bind fun t113 => (if t113.toList = ([39, 70, 111, 111, 39] : List UInt8) then ((char_Write.f (⟨#[105, 116, 39, 115]⟩ : ByteArray)).bind fun t114 => (if t114.toList = ([39, 105, 116, 92, 39, 115, 39] : List UInt8) then ((char_Write.f (⟨#[]⟩ : ByteArray)).bind fun t115 => (if t115.toList = ([39, 39] : List UInt8) then (if bt109.1.toList = ([97, 39, 98] : List UInt8) then (if bt109.2.1 = 6 then (if bt109.2.2 = 0 then ((char_Class.f k 97).bind fun t116 => (if t116 = 1 then ((char_Bare.f (⟨#[61]⟩ : ByteArray)).bind fun t117 => (if t117 = true then ((char_Check.f (⟨#[]⟩ : ByteArray)).bind fun t118 => (some t118)) else (none))) else (none))) else (none)) else (none)) else (none)) else (none))) else (none))) else (none))) else (none)))) = some r := h
  clear h
  replace H := Option.bind_eq_some_iff.mp H
  obtain ⟨⟨t109, t110, t111⟩, A10, H⟩ := H
  replace H : ((char_Write.f (⟨#[102, 111, 111]⟩ : ByteArray)).bind fun t112 => (if t112.toList = ([102, 111, 111] : List UInt8) then ((char_Write.f (⟨#[70, 111, 111]⟩ : ByteArray)).bind fun t113 => (if t113.toList = ([39, 70, 111, 111, 39] : List UInt8) then ((char_Write.f (⟨#[105, 116, 39, 115]⟩ : ByteArray)).bind fun t114 => (if t114.toList = ([39, 105, 116, 92, 39, 115, 39] : List UInt8) then ((char_Write.f (⟨#[]⟩ : ByteArray)).bind fun t115 => (if t115.toList = ([39, 39] : List UInt8) then (if t109.toList = ([97, 39, 98] : List UInt8) then (if t110 = 6 then (if t111 = 0 then ((char_Class.f k 97).bind fun t116 => (if t116 = 1 then ((char_Bare.f (⟨#[61]⟩ : ByteArray)).bind fun t117 => (if t117 = true then ((char_Check.f (⟨#[]⟩ : ByteArray)).bind fun t118 => (some t118)) else (none))) else (none))) else (none)) else (none)) else (none)) else (none))) else (none))) else (none))) else (none))) = some r := H
  have A1 := Aside0.mk A10
  clear A10
  replace H := Option.bind_eq_some_iff.mp H
  obtain ⟨t112, A20, H⟩ := H
  replace H : (if t112.toList = ([102, 111, 111] : List UInt8) then ((char_Write.f (⟨#[70, 111, 111]⟩ : ByteArray)).bind fun t113 => (if t113.toList = ([39, 70, 111, 111, 39] : List UInt8) then ((char_Write.f (⟨#[105, 116, 39, 115]⟩ : ByteArray)).bind fun t114 => (if t114.toList = ([39, 105, 116, 92, 39, 115, 39] : List UInt8) then ((char_Write.f (⟨#[]⟩ : ByteArray)).bind fun t115 => (if t115.toList = ([39, 39] : List UInt8) then (if t109.toList = ([97, 39, 98] : List UInt8) then (if t110 = 6 then (if t111 = 0 then ((char_Class.f k 97).bind fun t116 => (if t116 = 1 then ((char_Bare.f (⟨#[61]⟩ : ByteArray)).bind fun t117 => (if t117 = true then ((char_Check.f (⟨#[]⟩ : ByteArray)).bind fun t118 => (some t118)) else (none))) else (none))) else (none)) else (none)) else (none)) else (none))) else (none))) else (none))) else (none)) = some r := H
  have A2 := Aside0.mk A20
  clear A20
  by_cases c3 : t112.toList = ([102, 111, 111] : List UInt8)
  · rw [if_pos c3] at H
    have c3b0 : (t112.toList == ([102, 111, 111] : List UInt8)) = true := beq_iff_eq.mpr c3
    have c3b1 : (t112.toList != ([102, 111, 111] : List UInt8)) = false := bne_eq_false_iff_eq.mpr c3
    clear c3
    replace H := Option.bind_eq_some_iff.mp H
    obtain ⟨t113, A40, H⟩ := H
    replace H : (if t113.toList = ([39, 70, 111, 111, 39] : List UInt8) then ((char_Write.f (⟨#[105, 116, 39, 115]⟩ : ByteArray)).bind fun t114 => (if t114.toList = ([39, 105, 116, 92, 39, 115, 39] : List UInt8) then ((char_Write.f (⟨#[]⟩ : ByteArray)).bind fun t115 => (if t115.toList = ([39, 39] : List UInt8) then (if t109.toList = ([97, 39, 98] : List UInt8) then (if t110 = 6 then (if t111 = 0 then ((char_Class.f k 97).bind fun t116 => (if t116 = 1 then ((char_Bare.f (⟨#[61]⟩ : ByteArray)).bind fun t117 => (if t117 = true then ((char_Check.f (⟨#[]⟩ : ByteArray)).bind fun t118 => (some t118)) else (none))) else (none))) else (none)) else (none)) else (none)) else (none))) else (none))) else (none)) = some r := H
    have A4 := Aside0.mk A40
    clear A40
    by_cases c5 : t113.toList = ([39, 70, 111, 111, 39] : List UInt8)
    · rw [if_pos c5] at H
      have c5b0 : (t113.toList == ([39, 70, 111, 111, 39] : List UInt8)) = true := beq_iff_eq.mpr c5
      have c5b1 : (t113.toList != ([39, 70, 111, 111, 39] : List UInt8)) = false := bne_eq_false_iff_eq.mpr c5
      clear c5
      replace H := Option.bind_eq_some_iff.mp H
      obtain ⟨t114, A60, H⟩ := H
      replace H : (if t114.toList = ([39, 105, 116, 92, 39, 115, 39] : List UInt8) then ((char_Write.f (⟨#[]⟩ : ByteArray)).bind fun t115 => (if t115.toList = ([39, 39] : List UInt8) then (if t109.toList = ([97, 39, 98] : List UInt8) then (if t110 = 6 then (if t111 = 0 then ((char_Class.f k 97).bind fun t116 => (if t116 = 1 then ((char_Bare.f (⟨#[61]⟩ : ByteArray)).bind fun t117 => (if t117 = true then ((char_Check.f (⟨#[]⟩ : ByteArray)).bind fun t118 => (some t118)) else (none))) else (none))) else (none)) else (none)) else (none)) else (none))) else (none)) = some r := H
      have A6 := Aside0.mk A60
      clear A60
      by_cases c7 : t114.toList = ([39, 105, 116, 92, 39, 115, 39] : List UInt8)
      · rw [if_pos c7] at H
        have c7b0 : (t114.toList == ([39, 105, 116, 92, 39, 115, 39] : List UInt8)) = true := beq_iff_eq.mpr c7
        have c7b1 : (t114.toList != ([39, 105, 116, 92, 39, 115, 39] : List UInt8)) = false := bne_eq_false_iff_eq.mpr c7
        clear c7
        replace H := Option.bind_eq_some_iff.mp H
        obtain ⟨t115, A80, H⟩ := H
        replace H : (if t115.toList = ([39, 39] : List UInt8) then (if t109.toList = ([97, 39, 98] : List UInt8) then (if t110 = 6 then (if t111 = 0 then ((char_Class.f k 97).bind fun t116 => (if t116 = 1 then ((char_Bare.f (⟨#[61]⟩ : ByteArray)).bind fun t117 => (if t117 = true then ((char_Check.f (⟨#[]⟩ : ByteArray)).bind fun t118 => (some t118)) else (none))) else (none))) else (none)) else (none)) else (none)) else (none)) = some r := H
        have A8 := Aside0.mk A80
        clear A80
        by_cases c9 : t115.toList = ([39, 39] : List UInt8)
        · rw [if_pos c9] at H
          have c9b0 : (t115.toList == ([39, 39] : List UInt8)) = true := beq_iff_eq.mpr c9
          have c9b1 : (t115.toList != ([39, 39] : List UInt8)) = false := bne_eq_false_iff_eq.mpr c9
          clear c9
          by_cases c10 : t109.toList = ([97, 39, 98] : List UInt8)
          · rw [if_pos c10] at H
            have c10b0 : (t109.toList == ([97, 39, 98] : List UInt8)) = true := beq_iff_eq.mpr c10
            have c10b1 : (t109.toList != ([97, 39, 98] : List UInt8)) = false := bne_eq_false_iff_eq.mpr c10
            clear c10
            by_cases c11 : t110 = 6
            · rw [if_pos c11] at H
              have c11b0 : (t110 == 6) = true := beq_iff_eq.mpr c11
              have c11b1 : (t110 != 6) = false := bne_eq_false_iff_eq.mpr c11
              clear c11
              by_cases c12 : t111 = 0
              · rw [if_pos c12] at H
                have c12b0 : (t111 == 0) = true := beq_iff_eq.mpr c12
                have c12b1 : (t111 != 0) = false := bne_eq_false_iff_eq.mpr c12
                clear c12
                replace H := Option.bind_eq_some_iff.mp H
                obtain ⟨t116, A130, H⟩ := H
                replace H : (if t116 = 1 then ((char_Bare.f (⟨#[61]⟩ : ByteArray)).bind fun t117 => (if t117 = true then ((char_Check.f (⟨#[]⟩ : ByteArray)).bind fun t118 => (some t118)) else (none))) else (none)) = some r := H
                have A13 := Aside0.mk A130
                clear A130
                by_cases c14 : t116 = 1
                · rw [if_pos c14] at H
                  have c14b0 : (t116 == 1) = true := beq_iff_eq.mpr c14
                  have c14b1 : (t116 != 1) = false := bne_eq_false_iff_eq.mpr c14
                  clear c14
                  replace H := Option.bind_eq_some_iff.mp H
                  obtain ⟨t117, A150, H⟩ := H
                  replace H : (if t117 = true then ((char_Check.f (⟨#[]⟩ : ByteArray)).bind fun t118 => (some t118)) else (none)) = some r := H
                  have A15 := Aside0.mk A150
                  clear A150
                  by_cases c16 : t117 = true
                  · subst c16
                    have H1 : ((char_Check.f (⟨#[]⟩ : ByteArray)).bind fun t118 => (some t118)) = some r := by rw [if_pos rfl] at H; exact H
                    clear H
                    have H := H1
                    clear H1
                    replace H := Option.bind_eq_some_iff.mp H
                    obtain ⟨t118, A170, H⟩ := H
                    replace H : (some t118) = some r := H
                    have A17 := Aside0.mk A170
                    clear A170
                    obtain rfl := Option.some.inj H
                    go_enter Tryd.func11, Tryd.ntmps11
                    go_wp2_with (first | ((with_reducible refine gate_callee (f := 17) rfl ?_); refine goesL_ (some 5) rfl rfl Tryd.func17 (by kernel_rfl) rfl #[.string (⟨#[39, 97, 39, 39, 98, 39, 32, 120]⟩ : ByteArray)] rfl (by (try simp only [List.map_toArray, List.map_cons, List.map_nil]); first | done | rfl | (simp only [List.length_drop, List.length_take]; rfl)) ?_; (with_reducible refine (char_Read.calls (⟨#[39, 97, 39, 39, 98, 39, 32, 120]⟩ : ByteArray) t109 t110 t111 _ A1.out (HT.out.below (by first | exact Below.refl _ _ | (repeat (first | (with_reducible first | exact HB.out | apply below_alloc | apply pw_below_drewN | apply below_drew1) | exact HB.out))))).mono ?_); rintro e w18 ⟨rfl, hb⟩; refine ⟨_, rfl, ?_⟩; have n0_ := Aside0.mk (below_step (by repeat (first | (with_reducible first | exact HB.out | apply below_alloc | apply pw_below_drewN | apply below_drew1) | exact HB.out)) hb); clear HB; have HB := n0_; clear n0_; (try clear hb); (try clear hb2); (try clear hk); (try clear hi)) | ((with_reducible refine gate_callee (f := 16) rfl ?_); refine goesL_ (some 9) rfl rfl Tryd.func16 (by kernel_rfl) rfl #[.string (⟨#[102, 111, 111]⟩ : ByteArray)] rfl (by (try simp only [List.map_toArray, List.map_cons, List.map_nil]); first | done | rfl | (simp only [List.length_drop, List.length_take]; rfl)) ?_; (with_reducible refine (char_Write.calls (⟨#[102, 111, 111]⟩ : ByteArray) t112 _ A2.out (HT.out.below (by first | exact Below.refl _ _ | (repeat (first | (with_reducible first | exact HB.out | apply below_alloc | apply pw_below_drewN | apply below_drew1) | exact HB.out))))).mono ?_); rintro e w19 ⟨rfl, hb⟩; refine ⟨_, rfl, ?_⟩; have n0_ := Aside0.mk (below_step (by repeat (first | (with_reducible first | exact HB.out | apply below_alloc | apply pw_below_drewN | apply below_drew1) | exact HB.out)) hb); clear HB; have HB := n0_; clear n0_; (try clear hb); (try clear hb2); (try clear hk); (try clear hi)) | (go_at_call 16; (with_reducible refine (char_Write.calls (⟨#[70, 111, 111]⟩ : ByteArray) t113 _ A4.out (HT.out.below (by first | exact Below.refl _ _ | (repeat (first | (with_reducible first | exact HB.out | apply below_alloc | apply pw_below_drewN | apply below_drew1) | exact HB.out))))).mono ?_); rintro e w20 ⟨rfl, hb⟩; have n0_ := Aside0.mk (below_step (by repeat (first | (with_reducible first | exact HB.out | apply below_alloc | apply pw_below_drewN | apply below_drew1) | exact HB.out)) hb); clear HB; have HB := n0_; clear n0_; (try clear hb); (try clear hb2); (try clear hk); (try clear hi)) | (go_at_call 16; (with_reducible refine (char_Write.calls (⟨#[105, 116, 39, 115]⟩ : ByteArray) t114 _ A6.out (HT.out.below (by first | exact Below.refl _ _ | (repeat (first | (with_reducible first | exact HB.out | apply below_alloc | apply pw_below_drewN | apply below_drew1) | exact HB.out))))).mono ?_); rintro e w21 ⟨rfl, hb⟩; have n0_ := Aside0.mk (below_step (by repeat (first | (with_reducible first | exact HB.out | apply below_alloc | apply pw_below_drewN | apply below_drew1) | exact HB.out)) hb); clear HB; have HB := n0_; clear n0_; (try clear hb); (try clear hb2); (try clear hk); (try clear hi)) | (go_at_call 16; (with_reducible refine (char_Write.calls (⟨#[]⟩ : ByteArray) t115 _ A8.out (HT.out.below (by first | exact Below.refl _ _ | (repeat (first | (with_reducible first | exact HB.out | apply below_alloc | apply pw_below_drewN | apply below_drew1) | exact HB.out))))).mono ?_); rintro e w22 ⟨rfl, hb⟩; have n0_ := Aside0.mk (below_step (by repeat (first | (with_reducible first | exact HB.out | apply below_alloc | apply pw_below_drewN | apply below_drew1) | exact HB.out)) hb); clear HB; have HB := n0_; clear n0_; (try clear hb); (try clear hb2); (try clear hk); (try clear hi)) | (go_at_call 12; (with_reducible refine (char_Class.calls k 97 t116 _ A13.out).mono ?_); rintro e w' ⟨rfl, ⟨nd, rfl⟩⟩) | (go_at_call 15; (with_reducible refine (char_Bare.calls (⟨#[61]⟩ : ByteArray) true _ A15.out).mono ?_); rintro e w23 ⟨rfl, hb⟩; have n0_ := Aside0.mk (below_step (by repeat (first | (with_reducible first | exact HB.out | apply below_alloc | apply pw_below_drewN | apply below_drew1) | exact HB.out)) hb); clear HB; have HB := n0_; clear n0_; (try clear hb); (try clear hb2); (try clear hk); (try clear hi)) | (go_at_call 14; (with_reducible refine (char_Check.calls (⟨#[]⟩ : ByteArray) t118 _ A17.out (HT.out.below (by first | exact Below.refl _ _ | (repeat (first | (with_reducible first | exact HB.out | apply below_alloc | apply pw_below_drewN | apply below_drew1) | exact HB.out))))).mono ?_); rintro e w24 ⟨rfl, hb⟩; have n0_ := Aside0.mk (below_step (by repeat (first | (with_reducible first | exact HB.out | apply below_alloc | apply pw_below_drewN | apply below_drew1) | exact HB.out)) hb); clear HB; have HB := n0_; clear n0_; (try clear hb); (try clear hb2); (try clear hk); (try clear hi)))
                    go_ret
                    exact ⟨by first | rfl | (simp [errW_none, errW_some] <;> rfl) | (simp [*, errW_none, errW_some] <;> rfl), by repeat (first | (with_reducible first | exact HB.out | apply below_alloc | apply pw_below_drewN | apply below_drew1) | exact HB.out)⟩
                  · replace c16 := Bool.eq_false_iff.mpr c16
                    subst c16
                    have H1 : (none) = some r := by rw [if_neg (show ¬ (false = true) by decide)] at H; exact H
                    clear H
                    have H := H1
                    clear H1
                    exact absurd H (by simp)
                · rw [if_neg c14] at H
                  exact absurd H (by simp)
              · rw [if_neg c12] at H
                exact absurd H (by simp)
            · rw [if_neg c11] at H
              exact absurd H (by simp)
          · rw [if_neg c10] at H
            exact absurd H (by simp)
        · rw [if_neg c9] at H
          exact absurd H (by simp)
      · rw [if_neg c7] at H
        exact absurd H (by simp)
    · rw [if_neg c5] at H
      exact absurd H (by simp)
  · rw [if_neg c3] at H
    exact absurd H (by simp)

/-! ### spinneyref02_among: function 22 -/
def spinneyref02_among.l0 : Nat → Int → ByteArray → Int → Option (Bool)
  | 0, _, _, _ => none
  | k + 1, x0, x1, x5 => if x5 < (x1.size : Int) then (if 0 ≤ x5 then (if x0 = (wrap32 (bt x1 x5)) then (some true) else (spinneyref02_among.l0 k x0 x1 (wrap64 (x5 + 1)))) else (none)) else (some false)
def spinneyref02_among.f (k : Nat) (a0 : Int) (a1 : ByteArray) : Option (Bool) := spinneyref02_among.l0 k a0 a1 0
theorem spinneyref02_among.mono_l : ∀ k, (∀ y0 y1 y2, LeO (spinneyref02_among.l0 k y0 y1 y2) (spinneyref02_among.l0 (k + 1) y0 y1 y2))
  | 0 => fun _ _ _ r h => by simp [spinneyref02_among.l0] at h
  | k + 1 => by
    have ih0 := spinneyref02_among.mono_l k
    · intro y0 y1 y2
      unfold spinneyref02_among.l0
      repeat' first
      | (with_reducible exact ih0 _ _ _)
      | (with_reducible exact LeO.refl _)
      | (with_reducible exact LeO.none _)
      | (with_reducible refine LeO.ite ?_ ?_)
      | (with_reducible refine LeO.bind ?_ (fun _ => ?_))
      | exact ih0 _ _ _
      | exact LeO.none _
      | refine LeO.ite ?_ ?_
      | refine LeO.bind ?_ (fun _ => ?_)
theorem spinneyref02_among.mono : ∀ a0 a1 k, LeO (spinneyref02_among.f k a0 a1) (spinneyref02_among.f (k + 1) a0 a1) := by
  intro a0 a1 k
  have ih0 := spinneyref02_among.mono_l k
  unfold spinneyref02_among.f
  repeat' first
      | (with_reducible exact ih0 _ _ _)
      | (with_reducible exact LeO.refl _)
      | (with_reducible exact LeO.none _)
      | (with_reducible refine LeO.ite ?_ ?_)
      | (with_reducible refine LeO.bind ?_ (fun _ => ?_))
      | exact ih0 _ _ _
      | exact LeO.none _
      | refine LeO.ite ?_ ?_
      | refine LeO.bind ?_ (fun _ => ?_)
set_option maxHeartbeats 8000000 in
set_option maxRecDepth 100000 in
theorem spinneyref02_among.calls (k : Nat) (a0 : Int) (a1 : ByteArray) (r : Bool) (w : World) (h : spinneyref02_among.f k a0 a1 = some r) :
    Calls Tryd.prog 22 #[.int .i32 a0, .string a1] w fun e w' => e = .returned (.bool r) ∧ Drawn0 w w' := by
  have H : (spinneyref02_among.l0 k a0 a1 0) = some r := h
  clear h
  have H' := Aside0.mk H
  clear H
  go_enter Tryd.func22, Tryd.ntmps22
  go_wp2
  go_loopg [5] k (fun kq v5 w' => ∃ (x5_1 : Int), v5 = .int .i64 x5_1 ∧ Aside0 (spinneyref02_among.l0 kq a0 a1 x5_1 = some r) ∧ Aside0 (kq ≤ k) ∧ Drawn0 w w')
  case atStart => exact ⟨(0), (by first | rfl | (simp; done) | (simp [*]; done)), H', ⟨Nat.le_refl _⟩, by repeat (first | exact Drawn0.refl _ | apply Drawn0.step)⟩
  case round =>
    clear H'
    try clear c2
    try clear p2
    obtain ⟨x5_1, rfl, HA, HK1, ⟨m1, rfl⟩⟩ := hrel
    cases gk with
    | zero => exact absurd HA.out (by simp [spinneyref02_among.l0])
    | succ k1 =>
      have H := HA.out
      clear HA
      simp only [spinneyref02_among.l0] at H
      by_cases c3 : x5_1 < (a1.size : Int)
      · rw [if_pos c3] at H
        have c3b0 : decide (x5_1 < (a1.size : Int)) = true := decide_eq_true c3
        clear c3
        by_cases c4 : 0 ≤ x5_1
        · rw [if_pos c4] at H
          have c4b0 : decide (0 ≤ x5_1) = true := decide_eq_true c4
          clear c4
          by_cases c6 : a0 = (wrap32 (bt a1 x5_1))
          · rw [if_pos c6] at H
            have c6b0 : (a0 == (wrap32 (bt a1 x5_1))) = true := beq_iff_eq.mpr c6
            have c6b1 : (a0 != (wrap32 (bt a1 x5_1))) = false := bne_eq_false_iff_eq.mpr c6
            clear c6
            obtain rfl := Option.some.inj H
            have p5 : 0 ≤ (x5_1 : Int) := of_decide_eq_true (by first | (with_reducible assumption) | assumption)
            have q5 : x5_1 < (a1.size : Int) := of_decide_eq_true (by first | (with_reducible assumption) | assumption)
            have hx5 := bt_at a1 x5_1
            replace p5 := eq_true p5
            replace q5 := eq_true q5
            go_wp2
            go_ret
            exact ⟨by first | rfl | (simp; done) | (simp [*]; done), by repeat (first | exact Drawn0.refl _ | apply Drawn0.step)⟩
          · rw [if_neg c6] at H
            have c6b0 : (a0 == (wrap32 (bt a1 x5_1))) = false := beq_eq_false_iff_ne.mpr c6
            have c6b1 : (a0 != (wrap32 (bt a1 x5_1))) = true := bne_iff_ne.mpr c6
            have H' := Aside0.mk H
            clear H
            have p5 : 0 ≤ (x5_1 : Int) := of_decide_eq_true (by first | (with_reducible assumption) | assumption)
            have q5 : x5_1 < (a1.size : Int) := of_decide_eq_true (by first | (with_reducible assumption) | assumption)
            have hx5 := bt_at a1 x5_1
            replace p5 := eq_true p5
            replace q5 := eq_true q5
            go_wp2
            go_roundg k1
            case measure => have := HK1.out; omega
            case rel => exact ⟨(wrap64 (x5_1 + 1)), (by first | rfl | (simp; done) | (simp [*]; done)), H', ⟨by have := HK1.out; omega⟩, by repeat (first | exact Drawn0.refl _ | apply Drawn0.step)⟩
        · rw [if_neg c4] at H
          exact absurd H (by simp)
      · rw [if_neg c3] at H
        have c3b0 : decide (x5_1 < (a1.size : Int)) = false := decide_eq_false c3
        clear c3
        obtain rfl := Option.some.inj H
        go_wp2
        go_ret
        exact ⟨by first | rfl | (simp; done) | (simp [*]; done), by repeat (first | exact Drawn0.refl _ | apply Drawn0.step)⟩

end Go.Proofs.YtkniiinpkchjoaaDoor.P
