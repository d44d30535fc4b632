-- PRINTED by a program of this session over the kit's print.py.
import Derived.Test.YtkniiinpkchjoaaDoorPx0
import Derived.Test.YtkniiinpkchjoaaDoorPx1
import Derived.Test.YtkniiinpkchjoaaDoorPx2
import Derived.Test.YtkniiinpkchjoaaDoorPx4
namespace Go.Proofs.YtkniiinpkchjoaaDoor.P
open Go.Own Go.RowKit Go.Proofs.YtkniiinpkchjoaaDoorW.PrintWords Go.Proofs.YtkniiinpkchjoaaDoorW.PrintLast Go.Proofs.YtkniiinpkchjoaaDoorW.PrintMore
attribute [local go_sem] max2_int min2_int max_two min_two max_three min_three max_four min_four   -- for this text's walks alone
set_option linter.unusedVariables false
set_option linter.unusedSimpArgs false

/-! ### spinneylaw02_CharParts: function 5 (given) -/
-- char_Bare.calls char_Class.calls spinneylaw02_live.calls
structure PIt (B k : Nat) (s : ByteArray) (pos : Nat) (W0 wr : World) : Prop where
  iter : wr.heap[k]? = some (.stringIter s pos)
  low : Below B W0 wr
  Bk : B ≤ k
theorem PIt.next {B k : Nat} {s : ByteArray} {pos : Nat} {W0 wr : World} (h : PIt B k s pos W0 wr) (p2 : Nat) : PIt B k s p2 W0 (wr.iterAt k s p2) :=
  ⟨Lib.iterAt_heap wr k s pos p2 h.iter, Lib.below_iterAt h.low h.Bk s p2, h.Bk⟩
theorem PIt.drawn {B k : Nat} {s : ByteArray} {pos : Nat} {W0 wr W1 : World} (h : PIt B k s pos W0 wr) (hd : Drawn0 wr W1) : PIt B k s pos W0 W1 :=
  ⟨by rw [drawn_heap hd]; exact h.iter, h.low.trans ((hd.below).mono (by have := (Array.getElem?_eq_some_iff.1 h.iter).1; have := h.Bk; omega)), h.Bk⟩
theorem parts_enc (c : Int) : (Utf8.encode c).size ≤ 4 := by
  unfold Utf8.encode
  dsimp only
  repeat' split
  all_goals (show Array.size _ ≤ 4; simp)
/-- the first rune's class -/
def partsF (s : ByteArray) : Int := classN ((Utf8.decode s 0).1 : Int)
def partsV (s : ByteArray) (c : Int) : Bool :=
  if char_Bare.val s = true then (if (s.size : Int) > 250 then true
    else if s.toList = ([47] : List UInt8) ∧ c = 42 then !(char_Bare.val (s ++ Utf8.encode c))
    else if partsF s = 1 then char_Bare.val (s ++ Utf8.encode c) == (classN c == 1 || classN c == 2 || classN c == 3)
    else if partsF s = 4 then char_Bare.val (s ++ Utf8.encode c) == (classN c == 4) else !(char_Bare.val (s ++ Utf8.encode c)))
  else true
def spinneylaw02_CharParts.Pure : Prop := ∀ (a0 : ByteArray) (a1 : Int), a0.size ≤ 140737488351232 → (Lit.int .i32 a1).wf = true → spinneylaw02_live.f 20 = some true ∧ partsV a0 a1 = true ∧ (char_Bare.val a0 = true → 0 < a0.size)
def spinneylaw02_CharParts.f (a0 : ByteArray) (a1 : Int) : Option Bool := if partsV a0 a1 = true then some true else none
theorem spinneylaw02_CharParts.no (s : ByteArray) (c : Int) (w : World) (hT : Tabs w) (hs : s.size ≤ 140737488351232) (hl : spinneylaw02_live.f 20 = some true) (hb : char_Bare.val s = false) :
    Calls Tryd.prog 5 #[.string s, .int .i32 c] w fun e w' => e = .returned (.bool true) ∧ Below w.heap.size w w' := by
  have HT := Aside0.mk hT
  have HL := Aside0.mk hl
  have HBR := Aside0.mk (show char_Bare.f s = some false by unfold char_Bare.f; rw [if_pos (by omega), hb])
  clear hT hl hs hb
  go_enter Tryd.func5, Tryd.ntmps5
  go_wp2_with (first | (go_at_call 11; (with_reducible refine (spinneylaw02_live.calls 20 true _ HL.out HT.out).mono ?_); rintro e w1 ⟨rfl, hb⟩; have HB1 := Aside0.mk hb; clear hb) | (go_at_call 15; (with_reducible refine (char_Bare.calls s false _ HBR.out).mono ?_); rintro e w2 ⟨rfl, hb⟩; have HB2 := Aside0.mk (below_step HB1.out hb); clear hb))
  go_ret
  exact ⟨rfl, HB2.out⟩
theorem spinneylaw02_CharParts.big (s : ByteArray) (c : Int) (w : World) (hT : Tabs w) (hs : s.size ≤ 140737488351232) (hl : spinneylaw02_live.f 20 = some true) (hb : char_Bare.val s = true) (h250 : (s.size : Int) > 250) :
    Calls Tryd.prog 5 #[.string s, .int .i32 c] w fun e w' => e = .returned (.bool true) ∧ Below w.heap.size w w' := by
  have HT := Aside0.mk hT
  have HL := Aside0.mk hl
  have HBR := Aside0.mk (show char_Bare.f s = some true by unfold char_Bare.f; rw [if_pos (by omega), hb])
  have d1 : decide ((250 : Int) < (s.size : Int)) = true := decide_eq_true h250
  clear hT hl hs hb h250
  go_enter Tryd.func5, Tryd.ntmps5
  go_wp2_with (first | (go_at_call 11; (with_reducible refine (spinneylaw02_live.calls 20 true _ HL.out HT.out).mono ?_); rintro e w1 ⟨rfl, hb⟩; have HB1 := Aside0.mk hb; clear hb) | (go_at_call 15; (with_reducible refine (char_Bare.calls s true _ HBR.out).mono ?_); rintro e w2 ⟨rfl, hb⟩; have HB2 := Aside0.mk (below_step HB1.out hb); clear hb))
  go_ret
  exact ⟨rfl, HB2.out⟩
set_option maxRecDepth 100000 in
set_option maxHeartbeats 2000000 in
theorem spinneylaw02_CharParts.main (s : ByteArray) (c : Int) (w : World) (hT : Tabs w) (hs : s.size ≤ 140737488351232) (hl : spinneylaw02_live.f 20 = some true) (hb : char_Bare.val s = true) (h250 : ¬ (s.size : Int) > 250) (hpos : 0 < s.size) :
    Calls Tryd.prog 5 #[.string s, .int .i32 c] w fun e w' => e = .returned (.bool (partsV s c)) ∧ Below w.heap.size w w' := by
  obtain ⟨V, hV⟩ : ∃ V, partsV s c = V := ⟨_, rfl⟩
  rw [hV]
  unfold partsV at hV
  rw [if_pos hb, if_neg h250] at hV
  have HV := Aside0.mk hV
  clear hV
  have HT := Aside0.mk hT
  have HL := Aside0.mk hl
  have HBR := Aside0.mk (show char_Bare.f s = some true by unfold char_Bare.f; rw [if_pos (by omega), hb])
  have HCL := Aside0.mk (show char_Class.f 8 c = some (classN c) from class_all 2 c)
  have HSZ := Aside0.mk (show s.size ≤ 250 by omega)
  have hfit : (9223372036854775807 < s.size + (Utf8.encode c).size) = False := eq_false (by have := parts_enc c; omega)
  have d1 : decide ((250 : Int) < (s.size : Int)) = false := decide_eq_false (by omega)
  have HPOS := Aside0.mk hpos
  clear hT hl hs hb h250 hpos
  go_enter Tryd.func5, Tryd.ntmps5
  go_wp2_with (first | (go_at_call 11; (with_reducible refine (spinneylaw02_live.calls 20 true _ HL.out HT.out).mono ?_); rintro e w1 ⟨rfl, hb⟩; have HB1 := Aside0.mk hb; clear hb) | (go_at_call 15; (with_reducible refine (char_Bare.calls s true _ HBR.out).mono ?_); rintro e w2 ⟨rfl, hb⟩; have HB2 := Aside0.mk (below_step HB1.out hb); clear hb) | (go_at_call 12; (with_reducible refine (char_Class.calls 8 c (classN c) _ HCL.out).mono ?_); rintro e w3 ⟨rfl, hd⟩; have HB3 := Aside0.mk (below_step HB2.out hd.below); clear hd))
  have HK := Aside0.mk (show PIt w.heap.size w3.heap.size s 0 w (w3.iter s 0) from ⟨World.iter_heap w3 s 0, HB3.out.alloc HB3.out.size _, HB3.out.size⟩)
  go_loopw [7] (fun v7 wr => ∃ (pos : Nat) (v : Int), v7 = .int .i64 v ∧ Aside0 (PIt w.heap.size w3.heap.size s pos w wr ∧ pos ≤ s.size ∧ ((pos = 0 ∧ v = 0) ∨ (0 < pos ∧ v = partsF s)))) (fun _ wr => s.size - wr.iterPos w3.heap.size)
  case atStart => exact ⟨0, 0, rfl, ⟨HK.out, by omega, Or.inl ⟨rfl, rfl⟩⟩⟩
  case round =>
    obtain ⟨pos, v, rfl, HA⟩ := hrel
    clear HK
    have HI0 := Aside0.mk HA.out.1
    by_cases hp : pos < s.size
    · have hnx : ∀ ty, (Instr.next (.pointer (some ⟨w3.heap.size, 0, none⟩)) true ty).run Tryd.prog wr = _ := fun ty => Lib.run_next_any_at wr w3.heap.size s pos ty HI0.out.iter hp
      have HW := Aside0.mk (show 1 ≤ (Utf8.decode s pos).2 ∧ pos < s.size ∧ pos + (Utf8.decode s pos).2 ≤ s.size from ⟨Lib.decode_width_pos s pos hp, hp, decode_end s pos hp⟩)
      have HN := Aside0.mk (HI0.out.next (pos + (Utf8.decode s pos).2))
      by_cases h0 : pos = 0
      · subst h0
        have hr : partsF s = classN ((Utf8.decode s 0).1 : Int) := rfl
        have HF := Aside0.mk (show char_Class.f 8 ((Utf8.decode s 0).1 : Int) = some (partsF s) from class_all 2 _)
        generalize (Utf8.decode s 0).1 = x at hnx HF
        generalize (Utf8.decode s 0).2 = n at hnx HW HN
        have HN := Aside0.mk (HI0.out.next n)
        clear hr HA
        go_wp2_with (go_at_call 12; (with_reducible refine (char_Class.calls 8 _ (partsF s) _ HF.out).mono ?_); rintro e w4 ⟨rfl, hd⟩; have HN2 := Aside0.mk (HN.out.drawn hd); clear hd)
        go_roundw
        case rel => exact ⟨n, partsF s, rfl, ⟨HN2.out, by have := HW.out; omega, Or.inr ⟨by have := HW.out; omega, rfl⟩⟩⟩
        case measure => simp only [World.iterPos, HN2.out.iter, HI0.out.iter]; have := HW.out; omega
      · have x0 : ((pos : Int) == 0) = false := by simpa using h0
        have hv : v = partsF s := by rcases HA.out.2.2 with h | h; · exact absurd h.1 h0
                                     exact h.2
        have HVV := Aside0.mk hv
        clear hv
        generalize (Utf8.decode s pos).1 = x at hnx
        generalize (Utf8.decode s pos).2 = n at hnx HW HN
        clear HA h0
        go_wp2
        go_roundw
        case rel => exact ⟨pos + n, v, rfl, ⟨HN.out, HW.out.2.2, Or.inr ⟨by have := HW.out; omega, HVV.out⟩⟩⟩
        case measure => simp only [World.iterPos, HN.out.iter, HI0.out.iter]; have := HW.out; omega
    · have hnx : ∀ ty, (Instr.next (.pointer (some ⟨w3.heap.size, 0, none⟩)) true ty).run Tryd.prog wr = _ := fun ty => Lib.run_next_end_at wr w3.heap.size s pos ty HI0.out.iter hp
      have hv : v = partsF s := by
        rcases HA.out.2.2 with h | h
        · exact absurd h.1 (by have := HPOS.out; omega)
        · exact h.2
      subst hv
      clear HA hp
      have HB2' := Aside0.mk (show char_Bare.f (s ++ Utf8.encode c) = some (char_Bare.val (s ++ Utf8.encode c)) from by unfold char_Bare.f; rw [if_pos (by rw [ByteArray.size_append]; have := parts_enc c; have := HSZ.out; omega)])
      generalize char_Bare.val (s ++ Utf8.encode c) = bv at HB2' HV
      generalize partsF s = F at HV
      have hV := HV.out
      by_cases c47 : s.toList = ([47] : List UInt8)
      · have d47 : (s.toList == ([47] : List UInt8)) = true := beq_iff_eq.mpr c47
        by_cases c42 : c = 42
        · rw [if_pos ⟨c47, c42⟩] at hV
          have d42 : (c == 42) = true := beq_iff_eq.mpr c42
          clear c47 c42
          clear HV
          have HV := Aside0.mk hV
          clear hV
          cases bv
          · go_wp2_with (go_at_call 15; (with_reducible refine (char_Bare.calls (s ++ Utf8.encode c) _ _ HB2'.out).mono ?_); rintro e w9 ⟨rfl, hb⟩; have HB9 := Aside0.mk (below_step HI0.out.low hb); clear hb)
            go_ret
            exact ⟨by rw [← HV.out]; rfl, HB9.out⟩
          · go_wp2_with (go_at_call 15; (with_reducible refine (char_Bare.calls (s ++ Utf8.encode c) _ _ HB2'.out).mono ?_); rintro e w9 ⟨rfl, hb⟩; have HB9 := Aside0.mk (below_step HI0.out.low hb); clear hb)
            go_ret
            exact ⟨by rw [← HV.out]; rfl, HB9.out⟩
        · rw [if_neg (fun h => c42 h.2)] at hV
          have d42 : (c == 42) = false := beq_eq_false_iff_ne.mpr c42
          clear c47 c42
          by_cases f1 : F = 1
          · rw [if_pos f1] at hV
            have g1 : (F == 1) = true := beq_iff_eq.mpr f1
            clear f1
            by_cases k1 : classN c = 1
            · have e1 : (classN c == 1) = true := beq_iff_eq.mpr k1
              rw [e1] at hV
              clear k1
              clear HV
              have HV := Aside0.mk hV
              clear hV
              cases bv
              · go_wp2_with (go_at_call 15; (with_reducible refine (char_Bare.calls (s ++ Utf8.encode c) _ _ HB2'.out).mono ?_); rintro e w9 ⟨rfl, hb⟩; have HB9 := Aside0.mk (below_step HI0.out.low hb); clear hb)
                go_ret
                exact ⟨by rw [← HV.out]; rfl, HB9.out⟩
              · go_wp2_with (go_at_call 15; (with_reducible refine (char_Bare.calls (s ++ Utf8.encode c) _ _ HB2'.out).mono ?_); rintro e w9 ⟨rfl, hb⟩; have HB9 := Aside0.mk (below_step HI0.out.low hb); clear hb)
                go_ret
                exact ⟨by rw [← HV.out]; rfl, HB9.out⟩
            have e1 : (classN c == 1) = false := beq_eq_false_iff_ne.mpr k1
            clear k1
            by_cases k2 : classN c = 2
            · have e2 : (classN c == 2) = true := beq_iff_eq.mpr k2
              rw [e1, e2] at hV
              clear k2
              clear HV
              have HV := Aside0.mk hV
              clear hV
              cases bv
              · go_wp2_with (go_at_call 15; (with_reducible refine (char_Bare.calls (s ++ Utf8.encode c) _ _ HB2'.out).mono ?_); rintro e w9 ⟨rfl, hb⟩; have HB9 := Aside0.mk (below_step HI0.out.low hb); clear hb)
                go_ret
                exact ⟨by rw [← HV.out]; rfl, HB9.out⟩
              · go_wp2_with (go_at_call 15; (with_reducible refine (char_Bare.calls (s ++ Utf8.encode c) _ _ HB2'.out).mono ?_); rintro e w9 ⟨rfl, hb⟩; have HB9 := Aside0.mk (below_step HI0.out.low hb); clear hb)
                go_ret
                exact ⟨by rw [← HV.out]; rfl, HB9.out⟩
            have e2 : (classN c == 2) = false := beq_eq_false_iff_ne.mpr k2
            clear k2
            by_cases k3 : classN c = 3
            · have e3 : (classN c == 3) = true := beq_iff_eq.mpr k3
              rw [e1, e2, e3] at hV
              clear k3
              clear HV
              have HV := Aside0.mk hV
              clear hV
              cases bv
              · go_wp2_with (go_at_call 15; (with_reducible refine (char_Bare.calls (s ++ Utf8.encode c) _ _ HB2'.out).mono ?_); rintro e w9 ⟨rfl, hb⟩; have HB9 := Aside0.mk (below_step HI0.out.low hb); clear hb)
                go_ret
                exact ⟨by rw [← HV.out]; rfl, HB9.out⟩
              · go_wp2_with (go_at_call 15; (with_reducible refine (char_Bare.calls (s ++ Utf8.encode c) _ _ HB2'.out).mono ?_); rintro e w9 ⟨rfl, hb⟩; have HB9 := Aside0.mk (below_step HI0.out.low hb); clear hb)
                go_ret
                exact ⟨by rw [← HV.out]; rfl, HB9.out⟩
            have e3 : (classN c == 3) = false := beq_eq_false_iff_ne.mpr k3
            clear k3
            rw [e1, e2, e3] at hV
            clear HV
            have HV := Aside0.mk hV
            clear hV
            cases bv
            · go_wp2_with (go_at_call 15; (with_reducible refine (char_Bare.calls (s ++ Utf8.encode c) _ _ HB2'.out).mono ?_); rintro e w9 ⟨rfl, hb⟩; have HB9 := Aside0.mk (below_step HI0.out.low hb); clear hb)
              go_ret
              exact ⟨by rw [← HV.out]; rfl, HB9.out⟩
            · go_wp2_with (go_at_call 15; (with_reducible refine (char_Bare.calls (s ++ Utf8.encode c) _ _ HB2'.out).mono ?_); rintro e w9 ⟨rfl, hb⟩; have HB9 := Aside0.mk (below_step HI0.out.low hb); clear hb)
              go_ret
              exact ⟨by rw [← HV.out]; rfl, HB9.out⟩
          rw [if_neg f1] at hV
          have g1 : (F == 1) = false := beq_eq_false_iff_ne.mpr f1
          clear f1
          by_cases f4 : F = 4
          · rw [if_pos f4] at hV
            have g4 : (F == 4) = true := beq_iff_eq.mpr f4
            clear f4
            by_cases k4 : classN c = 4
            · have e4 : (classN c == 4) = true := beq_iff_eq.mpr k4
              rw [e4] at hV
              clear k4
              clear HV
              have HV := Aside0.mk hV
              clear hV
              cases bv
              · go_wp2_with (go_at_call 15; (with_reducible refine (char_Bare.calls (s ++ Utf8.encode c) _ _ HB2'.out).mono ?_); rintro e w9 ⟨rfl, hb⟩; have HB9 := Aside0.mk (below_step HI0.out.low hb); clear hb)
                go_ret
                exact ⟨by rw [← HV.out]; rfl, HB9.out⟩
              · go_wp2_with (go_at_call 15; (with_reducible refine (char_Bare.calls (s ++ Utf8.encode c) _ _ HB2'.out).mono ?_); rintro e w9 ⟨rfl, hb⟩; have HB9 := Aside0.mk (below_step HI0.out.low hb); clear hb)
                go_ret
                exact ⟨by rw [← HV.out]; rfl, HB9.out⟩
            have e4 : (classN c == 4) = false := beq_eq_false_iff_ne.mpr k4
            clear k4
            rw [e4] at hV
            clear HV
            have HV := Aside0.mk hV
            clear hV
            cases bv
            · go_wp2_with (go_at_call 15; (with_reducible refine (char_Bare.calls (s ++ Utf8.encode c) _ _ HB2'.out).mono ?_); rintro e w9 ⟨rfl, hb⟩; have HB9 := Aside0.mk (below_step HI0.out.low hb); clear hb)
              go_ret
              exact ⟨by rw [← HV.out]; rfl, HB9.out⟩
            · go_wp2_with (go_at_call 15; (with_reducible refine (char_Bare.calls (s ++ Utf8.encode c) _ _ HB2'.out).mono ?_); rintro e w9 ⟨rfl, hb⟩; have HB9 := Aside0.mk (below_step HI0.out.low hb); clear hb)
              go_ret
              exact ⟨by rw [← HV.out]; rfl, HB9.out⟩
          rw [if_neg f4] at hV
          have g4 : (F == 4) = false := beq_eq_false_iff_ne.mpr f4
          clear f4
          clear HV
          have HV := Aside0.mk hV
          clear hV
          cases bv
          · go_wp2_with (go_at_call 15; (with_reducible refine (char_Bare.calls (s ++ Utf8.encode c) _ _ HB2'.out).mono ?_); rintro e w9 ⟨rfl, hb⟩; have HB9 := Aside0.mk (below_step HI0.out.low hb); clear hb)
            go_ret
            exact ⟨by rw [← HV.out]; rfl, HB9.out⟩
          · go_wp2_with (go_at_call 15; (with_reducible refine (char_Bare.calls (s ++ Utf8.encode c) _ _ HB2'.out).mono ?_); rintro e w9 ⟨rfl, hb⟩; have HB9 := Aside0.mk (below_step HI0.out.low hb); clear hb)
            go_ret
            exact ⟨by rw [← HV.out]; rfl, HB9.out⟩
      · rw [if_neg (fun h => c47 h.1)] at hV
        have d47 : (s.toList == ([47] : List UInt8)) = false := beq_eq_false_iff_ne.mpr c47
        clear c47
        by_cases f1 : F = 1
        · rw [if_pos f1] at hV
          have g1 : (F == 1) = true := beq_iff_eq.mpr f1
          clear f1
          by_cases k1 : classN c = 1
          · have e1 : (classN c == 1) = true := beq_iff_eq.mpr k1
            rw [e1] at hV
            clear k1
            clear HV
            have HV := Aside0.mk hV
            clear hV
            cases bv
            · go_wp2_with (go_at_call 15; (with_reducible refine (char_Bare.calls (s ++ Utf8.encode c) _ _ HB2'.out).mono ?_); rintro e w9 ⟨rfl, hb⟩; have HB9 := Aside0.mk (below_step HI0.out.low hb); clear hb)
              go_ret
              exact ⟨by rw [← HV.out]; rfl, HB9.out⟩
            · go_wp2_with (go_at_call 15; (with_reducible refine (char_Bare.calls (s ++ Utf8.encode c) _ _ HB2'.out).mono ?_); rintro e w9 ⟨rfl, hb⟩; have HB9 := Aside0.mk (below_step HI0.out.low hb); clear hb)
              go_ret
              exact ⟨by rw [← HV.out]; rfl, HB9.out⟩
          have e1 : (classN c == 1) = false := beq_eq_false_iff_ne.mpr k1
          clear k1
          by_cases k2 : classN c = 2
          · have e2 : (classN c == 2) = true := beq_iff_eq.mpr k2
            rw [e1, e2] at hV
            clear k2
            clear HV
            have HV := Aside0.mk hV
            clear hV
            cases bv
            · go_wp2_with (go_at_call 15; (with_reducible refine (char_Bare.calls (s ++ Utf8.encode c) _ _ HB2'.out).mono ?_); rintro e w9 ⟨rfl, hb⟩; have HB9 := Aside0.mk (below_step HI0.out.low hb); clear hb)
              go_ret
              exact ⟨by rw [← HV.out]; rfl, HB9.out⟩
            · go_wp2_with (go_at_call 15; (with_reducible refine (char_Bare.calls (s ++ Utf8.encode c) _ _ HB2'.out).mono ?_); rintro e w9 ⟨rfl, hb⟩; have HB9 := Aside0.mk (below_step HI0.out.low hb); clear hb)
              go_ret
              exact ⟨by rw [← HV.out]; rfl, HB9.out⟩
          have e2 : (classN c == 2) = false := beq_eq_false_iff_ne.mpr k2
          clear k2
          by_cases k3 : classN c = 3
          · have e3 : (classN c == 3) = true := beq_iff_eq.mpr k3
            rw [e1, e2, e3] at hV
            clear k3
            clear HV
            have HV := Aside0.mk hV
            clear hV
            cases bv
            · go_wp2_with (go_at_call 15; (with_reducible refine (char_Bare.calls (s ++ Utf8.encode c) _ _ HB2'.out).mono ?_); rintro e w9 ⟨rfl, hb⟩; have HB9 := Aside0.mk (below_step HI0.out.low hb); clear hb)
              go_ret
              exact ⟨by rw [← HV.out]; rfl, HB9.out⟩
            · go_wp2_with (go_at_call 15; (with_reducible refine (char_Bare.calls (s ++ Utf8.encode c) _ _ HB2'.out).mono ?_); rintro e w9 ⟨rfl, hb⟩; have HB9 := Aside0.mk (below_step HI0.out.low hb); clear hb)
              go_ret
              exact ⟨by rw [← HV.out]; rfl, HB9.out⟩
          have e3 : (classN c == 3) = false := beq_eq_false_iff_ne.mpr k3
          clear k3
          rw [e1, e2, e3] at hV
          clear HV
          have HV := Aside0.mk hV
          clear hV
          cases bv
          · go_wp2_with (go_at_call 15; (with_reducible refine (char_Bare.calls (s ++ Utf8.encode c) _ _ HB2'.out).mono ?_); rintro e w9 ⟨rfl, hb⟩; have HB9 := Aside0.mk (below_step HI0.out.low hb); clear hb)
            go_ret
            exact ⟨by rw [← HV.out]; rfl, HB9.out⟩
          · go_wp2_with (go_at_call 15; (with_reducible refine (char_Bare.calls (s ++ Utf8.encode c) _ _ HB2'.out).mono ?_); rintro e w9 ⟨rfl, hb⟩; have HB9 := Aside0.mk (below_step HI0.out.low hb); clear hb)
            go_ret
            exact ⟨by rw [← HV.out]; rfl, HB9.out⟩
        rw [if_neg f1] at hV
        have g1 : (F == 1) = false := beq_eq_false_iff_ne.mpr f1
        clear f1
        by_cases f4 : F = 4
        · rw [if_pos f4] at hV
          have g4 : (F == 4) = true := beq_iff_eq.mpr f4
          clear f4
          by_cases k4 : classN c = 4
          · have e4 : (classN c == 4) = true := beq_iff_eq.mpr k4
            rw [e4] at hV
            clear k4
            clear HV
            have HV := Aside0.mk hV
            clear hV
            cases bv
            · go_wp2_with (go_at_call 15; (with_reducible refine (char_Bare.calls (s ++ Utf8.encode c) _ _ HB2'.out).mono ?_); rintro e w9 ⟨rfl, hb⟩; have HB9 := Aside0.mk (below_step HI0.out.low hb); clear hb)
              go_ret
              exact ⟨by rw [← HV.out]; rfl, HB9.out⟩
            · go_wp2_with (go_at_call 15; (with_reducible refine (char_Bare.calls (s ++ Utf8.encode c) _ _ HB2'.out).mono ?_); rintro e w9 ⟨rfl, hb⟩; have HB9 := Aside0.mk (below_step HI0.out.low hb); clear hb)
              go_ret
              exact ⟨by rw [← HV.out]; rfl, HB9.out⟩
          have e4 : (classN c == 4) = false := beq_eq_false_iff_ne.mpr k4
          clear k4
          rw [e4] at hV
          clear HV
          have HV := Aside0.mk hV
          clear hV
          cases bv
          · go_wp2_with (go_at_call 15; (with_reducible refine (char_Bare.calls (s ++ Utf8.encode c) _ _ HB2'.out).mono ?_); rintro e w9 ⟨rfl, hb⟩; have HB9 := Aside0.mk (below_step HI0.out.low hb); clear hb)
            go_ret
            exact ⟨by rw [← HV.out]; rfl, HB9.out⟩
          · go_wp2_with (go_at_call 15; (with_reducible refine (char_Bare.calls (s ++ Utf8.encode c) _ _ HB2'.out).mono ?_); rintro e w9 ⟨rfl, hb⟩; have HB9 := Aside0.mk (below_step HI0.out.low hb); clear hb)
            go_ret
            exact ⟨by rw [← HV.out]; rfl, HB9.out⟩
        rw [if_neg f4] at hV
        have g4 : (F == 4) = false := beq_eq_false_iff_ne.mpr f4
        clear f4
        clear HV
        have HV := Aside0.mk hV
        clear hV
        cases bv
        · go_wp2_with (go_at_call 15; (with_reducible refine (char_Bare.calls (s ++ Utf8.encode c) _ _ HB2'.out).mono ?_); rintro e w9 ⟨rfl, hb⟩; have HB9 := Aside0.mk (below_step HI0.out.low hb); clear hb)
          go_ret
          exact ⟨by rw [← HV.out]; rfl, HB9.out⟩
        · go_wp2_with (go_at_call 15; (with_reducible refine (char_Bare.calls (s ++ Utf8.encode c) _ _ HB2'.out).mono ?_); rintro e w9 ⟨rfl, hb⟩; have HB9 := Aside0.mk (below_step HI0.out.low hb); clear hb)
          go_ret
          exact ⟨by rw [← HV.out]; rfl, HB9.out⟩
theorem spinneylaw02_CharParts.walk (P : spinneylaw02_CharParts.Pure) (w : World) (a0 : ByteArray) (a1 : Int) (w0_ : a0.size ≤ 140737488351232) (w1_ : (Lit.int .i32 a1).wf = true) (hT : Tabs w) :
    Calls Tryd.prog 5 #[.string a0, .int .i32 a1] w fun e w' => e = .returned (.bool true) ∧ Below w.heap.size w w' := by
  obtain ⟨hl, hV, hp⟩ := P a0 a1 w0_ w1_
  cases hb : char_Bare.val a0 with
  | false => exact spinneylaw02_CharParts.no a0 a1 w hT w0_ hl hb
  | true =>
    by_cases h : (a0.size : Int) > 250
    · exact spinneylaw02_CharParts.big a0 a1 w hT w0_ hl hb h
    · have := spinneylaw02_CharParts.main a0 a1 w hT w0_ hl hb h (hp hb)
      rw [hV] at this
      exact this
theorem spinneylaw02_CharParts.calls (a0 : ByteArray) (a1 : Int) (r : Bool) (w : World) (h : spinneylaw02_CharParts.f a0 a1 = some r) (hT : Tabs w) (P : spinneylaw02_CharParts.Pure) (w0_ : a0.size ≤ 140737488351232) (w1_ : (Lit.int .i32 a1).wf = true) :
    Calls Tryd.prog 5 #[.string a0, .int .i32 a1] w fun e w' => e = .returned (.bool true) ∧ Below w.heap.size w w' :=
  spinneylaw02_CharParts.walk P w a0 a1 w0_ w1_ hT

/-! ### spinneylaw02_CharQuotes: function 6 -/
def spinneylaw02_CharQuotes.l0 : Nat → Bool → ByteArray → Int → Option (Bool)
  | 0, _, _, _ => none
  | k + 1, x3, x4, x5 => if x5 < (x4.size : Int) then (if 0 ≤ x5 then (if (bt x4 x5) < 32 then (none) else (spinneylaw02_CharQuotes.l0 k x3 x4 (wrap64 (x5 + 1)))) else (none)) else (if x3 = true then (if (x4.size : Int) ≥ 2 then (if 0 < (x4.size : Int) then (if (bt x4 0) = 39 then (if 0 ≤ (wrap64 ((x4.size : Int) - 1)) then (if (wrap64 ((x4.size : Int) - 1)) < (x4.size : Int) then (some ((bt x4 (wrap64 ((x4.size : Int) - 1))) == 39)) else (none)) else (none)) else (none)) else (none)) else (none)) else (none))
def spinneylaw02_CharQuotes.f (k : Nat) (a0 : ByteArray) : Option (Bool) := (spinneylaw02_live.f k).bind fun t132 => ((char_Write.f a0).bind fun t133 => ((char_Check.f a0).bind fun t134 => (if t134 = true then ((char_Bare.f a0).bind fun t135 => (if t135 = true then (if t132 = true then (some (t133.toList == a0.toList)) else (none)) else (spinneylaw02_CharQuotes.l0 k t132 t133 0))) else (if t132 = true then (some (t133.toList == ([] : List UInt8))) else (none)))))
theorem spinneylaw02_CharQuotes.mono_l : ∀ k, (∀ y0 y1 y2, LeO (spinneylaw02_CharQuotes.l0 k y0 y1 y2) (spinneylaw02_CharQuotes.l0 (k + 1) y0 y1 y2))
  | 0 => fun _ _ _ r h => by simp [spinneylaw02_CharQuotes.l0] at h
  | k + 1 => by
    have ih0 := spinneylaw02_CharQuotes.mono_l k
    · intro y0 y1 y2
      unfold spinneylaw02_CharQuotes.l0
      repeat' first
      | (with_reducible exact ih0 _ _ _)
      | (with_reducible exact spinneylaw02_live.mono _)
      | (with_reducible exact LeO.refl _)
      | (with_reducible exact LeO.none _)
      | (with_reducible refine LeO.ite ?_ ?_)
      | (with_reducible refine LeO.bind ?_ (fun _ => ?_))
      | exact ih0 _ _ _
      | exact spinneylaw02_live.mono _
      | exact LeO.none _
      | refine LeO.ite ?_ ?_
      | refine LeO.bind ?_ (fun _ => ?_)
theorem spinneylaw02_CharQuotes.mono : ∀ a0 k, LeO (spinneylaw02_CharQuotes.f k a0) (spinneylaw02_CharQuotes.f (k + 1) a0) := by
  intro a0 k
  have ih0 := spinneylaw02_CharQuotes.mono_l k
  unfold spinneylaw02_CharQuotes.f
  repeat' first
      | (with_reducible exact ih0 _ _ _)
      | (with_reducible exact spinneylaw02_live.mono _)
      | (with_reducible exact LeO.refl _)
      | (with_reducible exact LeO.none _)
      | (with_reducible refine LeO.ite ?_ ?_)
      | (with_reducible refine LeO.bind ?_ (fun _ => ?_))
      | exact ih0 _ _ _
      | exact spinneylaw02_live.mono _
      | exact LeO.none _
      | refine LeO.ite ?_ ?_
      | refine LeO.bind ?_ (fun _ => ?_)
set_option maxHeartbeats 8000000 in
set_option maxRecDepth 100000 in
theorem spinneylaw02_CharQuotes.calls (k : Nat) (a0 : ByteArray) (r : Bool) (w : World) (h : spinneylaw02_CharQuotes.f k a0 = some r) (hT : Tabs w) :
    Calls Tryd.prog 6 #[.string a0] w fun e w' => e = .returned (.bool r) ∧ Below w.heap.size w w' := by
  have HT := Aside0.mk hT
  clear hT
  have HB := Aside0.mk (Below.refl w.heap.size w)
  have H : ((spinneylaw02_live.f k).bind fun t132 => ((char_Write.f a0).bind fun t133 => ((char_Check.f a0).bind fun t134 => (if t134 = true then ((char_Bare.f a0).bind fun t135 => (if t135 = true then (if t132 = true then (some (t133.toList == a0.toList)) else (none)) else (spinneylaw02_CharQuotes.l0 k t132 t133 0))) else (if t132 = true then (some (t133.toList == ([] : List UInt8))) else (none)))))) = some r := h
  clear h
  replace H := Option.bind_eq_some_iff.mp H
  obtain ⟨t132, A20, H⟩ := H
  replace H : ((char_Write.f a0).bind fun t133 => ((char_Check.f a0).bind fun t134 => (if t134 = true then ((char_Bare.f a0).bind fun t135 => (if t135 = true then (if t132 = true then (some (t133.toList == a0.toList)) else (none)) else (spinneylaw02_CharQuotes.l0 k t132 t133 0))) else (if t132 = true then (some (t133.toList == ([] : List UInt8))) else (none))))) = some r := H
  have A2 := Aside0.mk A20
  clear A20
  replace H := Option.bind_eq_some_iff.mp H
  obtain ⟨t133, A30, H⟩ := H
  replace H : ((char_Check.f a0).bind fun t134 => (if t134 = true then ((char_Bare.f a0).bind fun t135 => (if t135 = true then (if t132 = true then (some (t133.toList == a0.toList)) else (none)) else (spinneylaw02_CharQuotes.l0 k t132 t133 0))) else (if t132 = true then (some (t133.toList == ([] : List UInt8))) else (none)))) = some r := H
  have A3 := Aside0.mk A30
  clear A30
  replace H := Option.bind_eq_some_iff.mp H
  obtain ⟨t134, A40, H⟩ := H
  replace H : (if t134 = true then ((char_Bare.f a0).bind fun t135 => (if t135 = true then (if t132 = true then (some (t133.toList == a0.toList)) else (none)) else (spinneylaw02_CharQuotes.l0 k t132 t133 0))) else (if t132 = true then (some (t133.toList == ([] : List UInt8))) else (none))) = some r := H
  have A4 := Aside0.mk A40
  clear A40
  by_cases c5 : t134 = true
  · subst c5
    have H1 : ((char_Bare.f a0).bind fun t135 => (if t135 = true then (if t132 = true then (some (t133.toList == a0.toList)) else (none)) else (spinneylaw02_CharQuotes.l0 k t132 t133 0))) = some r := by rw [if_pos rfl] at H; exact H
    clear H
    have H := H1
    clear H1
    replace H := Option.bind_eq_some_iff.mp H
    obtain ⟨t135, A60, H⟩ := H
    replace H : (if t135 = true then (if t132 = true then (some (t133.toList == a0.toList)) else (none)) else (spinneylaw02_CharQuotes.l0 k t132 t133 0)) = some r := H
    have A6 := Aside0.mk A60
    clear A60
    by_cases c7 : t135 = true
    · subst c7
      have H1 : (if t132 = true then (some (t133.toList == a0.toList)) else (none)) = some r := by rw [if_pos rfl] at H; exact H
      clear H
      have H := H1
      clear H1
      by_cases c8 : t132 = true
      · subst c8
        have H1 : (some (t133.toList == a0.toList)) = some r := by rw [if_pos rfl] at H; exact H
        clear H
        have H := H1
        clear H1
        obtain rfl := Option.some.inj H
        go_enter Tryd.func6, Tryd.ntmps6
        go_wp2_with (first | ((with_reducible refine gate_callee (f := 11) rfl ?_); refine goesL_ (some 6) rfl rfl Tryd.func11 (by kernel_rfl) rfl #[] rfl (by (try simp only [List.map_toArray, List.map_cons, List.map_nil]); first | done | rfl | (simp only [List.length_drop, List.length_take]; rfl)) ?_; (with_reducible refine (spinneylaw02_live.calls k  true _ A2.out (HT.out.below (by first | exact Below.refl _ _ | (repeat (first | (with_reducible first | exact HB.out | apply below_alloc | apply pw_below_drewN | apply below_drew1) | exact HB.out))))).mono ?_); rintro e w9 ⟨rfl, hb⟩; refine ⟨_, rfl, ?_⟩; have n0_ := Aside0.mk (below_step (by repeat (first | (with_reducible first | exact HB.out | apply below_alloc | apply pw_below_drewN | apply below_drew1) | exact HB.out)) hb); clear HB; have HB := n0_; clear n0_; (try clear hb); (try clear hb2); (try clear hk); (try clear hi)) | ((with_reducible refine gate_callee (f := 16) rfl ?_); refine goesL_ (some 8) rfl rfl Tryd.func16 (by kernel_rfl) rfl #[.string a0] rfl (by (try simp only [List.map_toArray, List.map_cons, List.map_nil]); first | done | rfl | (simp only [List.length_drop, List.length_take]; rfl)) ?_; (with_reducible refine (char_Write.calls a0 t133 _ A3.out (HT.out.below (by first | exact Below.refl _ _ | (repeat (first | (with_reducible first | exact HB.out | apply below_alloc | apply pw_below_drewN | apply below_drew1) | exact HB.out))))).mono ?_); rintro e w10 ⟨rfl, hb⟩; refine ⟨_, rfl, ?_⟩; have n0_ := Aside0.mk (below_step (by repeat (first | (with_reducible first | exact HB.out | apply below_alloc | apply pw_below_drewN | apply below_drew1) | exact HB.out)) hb); clear HB; have HB := n0_; clear n0_; (try clear hb); (try clear hb2); (try clear hk); (try clear hi)) | ((with_reducible refine gate_callee (f := 14) rfl ?_); refine goesL_ (some 10) rfl rfl Tryd.func14 (by kernel_rfl) rfl #[.string a0] rfl (by (try simp only [List.map_toArray, List.map_cons, List.map_nil]); first | done | rfl | (simp only [List.length_drop, List.length_take]; rfl)) ?_; (with_reducible refine (char_Check.calls a0 true _ A4.out (HT.out.below (by first | exact Below.refl _ _ | (repeat (first | (with_reducible first | exact HB.out | apply below_alloc | apply pw_below_drewN | apply below_drew1) | exact HB.out))))).mono ?_); rintro e w11 ⟨rfl, hb⟩; refine ⟨_, rfl, ?_⟩; have n0_ := Aside0.mk (below_step (by repeat (first | (with_reducible first | exact HB.out | apply below_alloc | apply pw_below_drewN | apply below_drew1) | exact HB.out)) hb); clear HB; have HB := n0_; clear n0_; (try clear hb); (try clear hb2); (try clear hk); (try clear hi)) | ((with_reducible refine gate_callee (f := 15) rfl ?_); refine goesL_ (some 18) rfl rfl Tryd.func15 (by kernel_rfl) rfl #[.string a0] rfl (by (try simp only [List.map_toArray, List.map_cons, List.map_nil]); first | done | rfl | (simp only [List.length_drop, List.length_take]; rfl)) ?_; (with_reducible refine (char_Bare.calls a0 true _ A6.out).mono ?_); rintro e w12 ⟨rfl, hb⟩; refine ⟨_, rfl, ?_⟩; have n0_ := Aside0.mk (below_step (by repeat (first | (with_reducible first | exact HB.out | apply below_alloc | apply pw_below_drewN | apply below_drew1) | exact HB.out)) hb); clear HB; have HB := n0_; clear n0_; (try clear hb); (try clear hb2); (try clear hk); (try clear hi)))
        go_ret
        exact ⟨by first | rfl | (simp [errW_none, errW_some] <;> rfl) | (simp [*, errW_none, errW_some] <;> rfl), by repeat (first | (with_reducible first | exact HB.out | apply below_alloc | apply pw_below_drewN | apply below_drew1) | exact HB.out)⟩
      · replace c8 := Bool.eq_false_iff.mpr c8
        subst c8
        have H1 : (none) = some r := by rw [if_neg (show ¬ (false = true) by decide)] at H; exact H
        clear H
        have H := H1
        clear H1
        exact absurd H (by simp)
    · replace c7 := Bool.eq_false_iff.mpr c7
      subst c7
      have H1 : (spinneylaw02_CharQuotes.l0 k t132 t133 0) = some r := by rw [if_neg (show ¬ (false = true) by decide)] at H; exact H
      clear H
      have H := H1
      clear H1
      have H' := Aside0.mk H
      clear H
      go_enter Tryd.func6, Tryd.ntmps6
      go_wp2_with (first | ((with_reducible refine gate_callee (f := 11) rfl ?_); refine goesL_ (some 6) rfl rfl Tryd.func11 (by kernel_rfl) rfl #[] rfl (by (try simp only [List.map_toArray, List.map_cons, List.map_nil]); first | done | rfl | (simp only [List.length_drop, List.length_take]; rfl)) ?_; (with_reducible refine (spinneylaw02_live.calls k  t132 _ A2.out (HT.out.below (by first | exact Below.refl _ _ | (repeat (first | (with_reducible first | exact HB.out | apply below_alloc | apply pw_below_drewN | apply below_drew1) | exact HB.out))))).mono ?_); rintro e w13 ⟨rfl, hb⟩; refine ⟨_, rfl, ?_⟩; have n0_ := Aside0.mk (below_step (by repeat (first | (with_reducible first | exact HB.out | apply below_alloc | apply pw_below_drewN | apply below_drew1) | exact HB.out)) hb); clear HB; have HB := n0_; clear n0_; (try clear hb); (try clear hb2); (try clear hk); (try clear hi)) | ((with_reducible refine gate_callee (f := 16) rfl ?_); refine goesL_ (some 8) rfl rfl Tryd.func16 (by kernel_rfl) rfl #[.string a0] rfl (by (try simp only [List.map_toArray, List.map_cons, List.map_nil]); first | done | rfl | (simp only [List.length_drop, List.length_take]; rfl)) ?_; (with_reducible refine (char_Write.calls a0 t133 _ A3.out (HT.out.below (by first | exact Below.refl _ _ | (repeat (first | (with_reducible first | exact HB.out | apply below_alloc | apply pw_below_drewN | apply below_drew1) | exact HB.out))))).mono ?_); rintro e w14 ⟨rfl, hb⟩; refine ⟨_, rfl, ?_⟩; have n0_ := Aside0.mk (below_step (by repeat (first | (with_reducible first | exact HB.out | apply below_alloc | apply pw_below_drewN | apply below_drew1) | exact HB.out)) hb); clear HB; have HB := n0_; clear n0_; (try clear hb); (try clear hb2); (try clear hk); (try clear hi)) | ((with_reducible refine gate_callee (f := 14) rfl ?_); refine goesL_ (some 10) rfl rfl Tryd.func14 (by kernel_rfl) rfl #[.string a0] rfl (by (try simp only [List.map_toArray, List.map_cons, List.map_nil]); first | done | rfl | (simp only [List.length_drop, List.length_take]; rfl)) ?_; (with_reducible refine (char_Check.calls a0 true _ A4.out (HT.out.below (by first | exact Below.refl _ _ | (repeat (first | (with_reducible first | exact HB.out | apply below_alloc | apply pw_below_drewN | apply below_drew1) | exact HB.out))))).mono ?_); rintro e w15 ⟨rfl, hb⟩; refine ⟨_, rfl, ?_⟩; have n0_ := Aside0.mk (below_step (by repeat (first | (with_reducible first | exact HB.out | apply below_alloc | apply pw_below_drewN | apply below_drew1) | exact HB.out)) hb); clear HB; have HB := n0_; clear n0_; (try clear hb); (try clear hb2); (try clear hk); (try clear hi)) | ((with_reducible refine gate_callee (f := 15) rfl ?_); refine goesL_ (some 18) rfl rfl Tryd.func15 (by kernel_rfl) rfl #[.string a0] rfl (by (try simp only [List.map_toArray, List.map_cons, List.map_nil]); first | done | rfl | (simp only [List.length_drop, List.length_take]; rfl)) ?_; (with_reducible refine (char_Bare.calls a0 false _ A6.out).mono ?_); rintro e w16 ⟨rfl, hb⟩; refine ⟨_, rfl, ?_⟩; have n0_ := Aside0.mk (below_step (by repeat (first | (with_reducible first | exact HB.out | apply below_alloc | apply pw_below_drewN | apply below_drew1) | exact HB.out)) hb); clear HB; have HB := n0_; clear n0_; (try clear hb); (try clear hb2); (try clear hk); (try clear hi)))
      go_loopg [5] k (fun kq v5 w' => ∃ (x5_1 : Int), v5 = .int .i64 x5_1 ∧ Aside0 (spinneylaw02_CharQuotes.l0 kq t132 t133 x5_1 = some r) ∧ Aside0 (kq ≤ k) ∧ Aside0 (Below w.heap.size w w'))
      case atStart => exact ⟨(0), (by first | rfl | (simp; done) | (simp [*]; done)), H', ⟨Nat.le_refl _⟩, ⟨by repeat (first | (with_reducible first | exact HB.out | apply below_alloc | apply pw_below_drewN | apply below_drew1) | exact HB.out)⟩⟩
      case round =>
        clear H'
        try clear c1
        try clear p2
        try clear c5
        try clear c6
        try clear c7
        try clear c8
        try clear c11
        try clear c14
        try clear c15
        try clear c16
        obtain ⟨x5_1, rfl, HA, HK1, HB⟩ := hrel
        cases gk with
        | zero => exact absurd HA.out (by simp [spinneylaw02_CharQuotes.l0])
        | succ k1 =>
          have H := HA.out
          clear HA
          simp only [spinneylaw02_CharQuotes.l0] at H
          by_cases c17 : x5_1 < (t133.size : Int)
          · rw [if_pos c17] at H
            have c17b0 : decide (x5_1 < (t133.size : Int)) = true := decide_eq_true c17
            clear c17
            by_cases c18 : 0 ≤ x5_1
            · rw [if_pos c18] at H
              have c18b0 : decide (0 ≤ x5_1) = true := decide_eq_true c18
              clear c18
              by_cases c20 : (bt t133 x5_1) < 32
              · rw [if_pos c20] at H
                exact absurd H (by simp)
              · rw [if_neg c20] at H
                have c20b0 : decide ((bt t133 x5_1) < 32) = false := decide_eq_false c20
                clear c20
                have H' := Aside0.mk H
                clear H
                have p19 : 0 ≤ (x5_1 : Int) := of_decide_eq_true (by first | (with_reducible assumption) | assumption)
                have q19 : x5_1 < (t133.size : Int) := of_decide_eq_true (by first | (with_reducible assumption) | assumption)
                have hx19 := bt_at t133 x5_1
                replace p19 := eq_true p19
                replace q19 := eq_true q19
                go_wp2
                go_roundg k1
                case measure => have := HK1.out; omega
                case rel => exact ⟨(wrap64 (x5_1 + 1)), (by first | rfl | (simp; done) | (simp [*]; done)), H', ⟨by have := HK1.out; omega⟩, ⟨by repeat (first | (with_reducible first | exact HB.out | apply below_alloc | apply pw_below_drewN | apply below_drew1) | exact HB.out)⟩⟩
            · rw [if_neg c18] at H
              exact absurd H (by simp)
          · rw [if_neg c17] at H
            have c17b0 : decide (x5_1 < (t133.size : Int)) = false := decide_eq_false c17
            clear c17
            by_cases c21 : t132 = true
            · subst c21
              have H1 : (if (t133.size : Int) ≥ 2 then (if 0 < (t133.size : Int) then (if (bt t133 0) = 39 then (if 0 ≤ (wrap64 ((t133.size : Int) - 1)) then (if (wrap64 ((t133.size : Int) - 1)) < (t133.size : Int) then (some ((bt t133 (wrap64 ((t133.size : Int) - 1))) == 39)) else (none)) else (none)) else (none)) else (none)) else (none)) = some r := by rw [if_pos rfl] at H; exact H
              clear H
              have H := H1
              clear H1
              by_cases c22 : (t133.size : Int) ≥ 2
              · rw [if_pos c22] at H
                have c22b0 : decide (2 ≤ (t133.size : Int)) = true := decide_eq_true c22
                have c22b1 : decide (2 ≤ t133.size) = true := decide_eq_true (by omega)
                clear c22
                by_cases c23 : 0 < (t133.size : Int)
                · rw [if_pos c23] at H
                  have c23b0 : decide (0 < (t133.size : Int)) = true := decide_eq_true c23
                  have c23b1 : decide (0 < t133.size) = true := decide_eq_true (by omega)
                  clear c23
                  by_cases c25 : (bt t133 0) = 39
                  · rw [if_pos c25] at H
                    have c25b0 : ((bt t133 0) == 39) = true := beq_iff_eq.mpr c25
                    have c25b1 : ((bt t133 0) != 39) = false := bne_eq_false_iff_eq.mpr c25
                    clear c25
                    obtain ⟨ji26, hji26⟩ : ∃ j_ : Int, (wrap64 ((t133.size : Int) - 1)) = j_ := ⟨_, rfl⟩
                    replace H : (if 0 ≤ (ji26) then (if (ji26) < (t133.size : Int) then (some ((bt t133 (ji26)) == 39)) else (none)) else (none)) = some r := by first | (rw [hji26] at H; exact H) | (simp only [hji26] at H ⊢; exact H)
                    have hji26w : (IntKind.i64.wrap ((t133.size : Int) - 1)) = ji26 := (i64_w _).trans hji26
                    by_cases c27 : 0 ≤ (ji26)
                    · rw [if_pos c27] at H
                      have c27b0 : decide (0 ≤ (ji26)) = true := decide_eq_true c27
                      clear c27
                      by_cases c28 : (ji26) < (t133.size : Int)
                      · rw [if_pos c28] at H
                        have c28b0 : decide ((ji26) < (t133.size : Int)) = true := decide_eq_true c28
                        clear c28
                        obtain rfl := Option.some.inj H
                        have p24 : 0 ≤ (0 : Int) := (by omega)
                        have q24 : 0 < t133.size := (by have : (0 : Int) < (t133.size : Int) := of_decide_eq_true (by first | (with_reducible assumption) | assumption); omega)
                        have hx24 : ∀ h : 0 < t133.size, ((t133[0]'h).toNat : Int) = bt t133 0 := bt_at t133 0
                        clear p24
                        have qi24 : (0 < (t133.size : Int)) = True := eq_true (of_decide_eq_true (by first | (with_reducible assumption) | assumption))
                        replace q24 := eq_true q24
                        have p29 : 0 ≤ ((ji26) : Int) := of_decide_eq_true (by first | (with_reducible assumption) | assumption)
                        have q29 : (ji26) < (t133.size : Int) := of_decide_eq_true (by first | (with_reducible assumption) | assumption)
                        have hx29 := bt_at t133 (ji26)
                        replace p29 := eq_true p29
                        replace q29 := eq_true q29
                        go_wp2
                        go_ret
                        exact ⟨by first | rfl | (simp [errW_none, errW_some] <;> rfl) | (simp only [← hji26]; first | rfl | (simp [errW_none, errW_some] <;> rfl)) | (simp [*, errW_none, errW_some] <;> rfl), by repeat (first | (with_reducible first | exact HB.out | apply below_alloc | apply pw_below_drewN | apply below_drew1) | exact HB.out)⟩
                      · rw [if_neg c28] at H
                        exact absurd H (by simp)
                    · rw [if_neg c27] at H
                      exact absurd H (by simp)
                  · rw [if_neg c25] at H
                    exact absurd H (by simp)
                · rw [if_neg c23] at H
                  exact absurd H (by simp)
              · rw [if_neg c22] at H
                exact absurd H (by simp)
            · replace c21 := Bool.eq_false_iff.mpr c21
              subst c21
              have H1 : (none) = some r := by rw [if_neg (show ¬ (false = true) by decide)] at H; exact H
              clear H
              have H := H1
              clear H1
              exact absurd H (by simp)
  · replace c5 := Bool.eq_false_iff.mpr c5
    subst c5
    have H1 : (if t132 = true then (some (t133.toList == ([] : List UInt8))) else (none)) = some r := by rw [if_neg (show ¬ (false = true) by decide)] at H; exact H
    clear H
    have H := H1
    clear H1
    by_cases c30 : t132 = true
    · subst c30
      have H1 : (some (t133.toList == ([] : List UInt8))) = some r := by rw [if_pos rfl] at H; exact H
      clear H
      have H := H1
      clear H1
      obtain rfl := Option.some.inj H
      go_enter Tryd.func6, Tryd.ntmps6
      go_wp2_with (first | ((with_reducible refine gate_callee (f := 11) rfl ?_); refine goesL_ (some 6) rfl rfl Tryd.func11 (by kernel_rfl) rfl #[] rfl (by (try simp only [List.map_toArray, List.map_cons, List.map_nil]); first | done | rfl | (simp only [List.length_drop, List.length_take]; rfl)) ?_; (with_reducible refine (spinneylaw02_live.calls k  true _ A2.out (HT.out.below (by first | exact Below.refl _ _ | (repeat (first | (with_reducible first | exact HB.out | apply below_alloc | apply pw_below_drewN | apply below_drew1) | exact HB.out))))).mono ?_); rintro e w31 ⟨rfl, hb⟩; refine ⟨_, rfl, ?_⟩; have n0_ := Aside0.mk (below_step (by repeat (first | (with_reducible first | exact HB.out | apply below_alloc | apply pw_below_drewN | apply below_drew1) | exact HB.out)) hb); clear HB; have HB := n0_; clear n0_; (try clear hb); (try clear hb2); (try clear hk); (try clear hi)) | ((with_reducible refine gate_callee (f := 16) rfl ?_); refine goesL_ (some 8) rfl rfl Tryd.func16 (by kernel_rfl) rfl #[.string a0] rfl (by (try simp only [List.map_toArray, List.map_cons, List.map_nil]); first | done | rfl | (simp only [List.length_drop, List.length_take]; rfl)) ?_; (with_reducible refine (char_Write.calls a0 t133 _ A3.out (HT.out.below (by first | exact Below.refl _ _ | (repeat (first | (with_reducible first | exact HB.out | apply below_alloc | apply pw_below_drewN | apply below_drew1) | exact HB.out))))).mono ?_); rintro e w32 ⟨rfl, hb⟩; refine ⟨_, rfl, ?_⟩; have n0_ := Aside0.mk (below_step (by repeat (first | (with_reducible first | exact HB.out | apply below_alloc | apply pw_below_drewN | apply below_drew1) | exact HB.out)) hb); clear HB; have HB := n0_; clear n0_; (try clear hb); (try clear hb2); (try clear hk); (try clear hi)) | ((with_reducible refine gate_callee (f := 14) rfl ?_); refine goesL_ (some 10) rfl rfl Tryd.func14 (by kernel_rfl) rfl #[.string a0] rfl (by (try simp only [List.map_toArray, List.map_cons, List.map_nil]); first | done | rfl | (simp only [List.length_drop, List.length_take]; rfl)) ?_; (with_reducible refine (char_Check.calls a0 false _ A4.out (HT.out.below (by first | exact Below.refl _ _ | (repeat (first | (with_reducible first | exact HB.out | apply below_alloc | apply pw_below_drewN | apply below_drew1) | exact HB.out))))).mono ?_); rintro e w33 ⟨rfl, hb⟩; refine ⟨_, rfl, ?_⟩; have n0_ := Aside0.mk (below_step (by repeat (first | (with_reducible first | exact HB.out | apply below_alloc | apply pw_below_drewN | apply below_drew1) | exact HB.out)) hb); clear HB; have HB := n0_; clear n0_; (try clear hb); (try clear hb2); (try clear hk); (try clear hi)))
      go_ret
      exact ⟨by first | rfl | (simp [errW_none, errW_some] <;> rfl) | (simp [*, errW_none, errW_some] <;> rfl), by repeat (first | (with_reducible first | exact HB.out | apply below_alloc | apply pw_below_drewN | apply below_drew1) | exact HB.out)⟩
    · replace c30 := Bool.eq_false_iff.mpr c30
      subst c30
      have H1 : (none) = some r := by rw [if_neg (show ¬ (false = true) by decide)] at H; exact H
      clear H
      have H := H1
      clear H1
      exact absurd H (by simp)

/-- THE ONE PURE STATEMENT of spinneylaw02_CharQuotes: yours. -/
def spinneylaw02_CharQuotes.Pure : Prop := ∀ (a0 : ByteArray), a0.size ≤ 140737488351232 → ∃ k, spinneylaw02_CharQuotes.f k a0 = some true
theorem spinneylaw02_CharQuotes.walk (P : spinneylaw02_CharQuotes.Pure) (a0 : ByteArray) (w : World) (w0 : a0.size ≤ 140737488351232) (hT : Tabs w) :
    Calls Tryd.prog 6 #[.string a0] w fun e w' => e = .returned (.bool true) ∧ Below w.heap.size w w' := by
  have HT := Aside0.mk hT
  clear hT
  obtain ⟨k, h⟩ := P a0 w0
  refine (spinneylaw02_CharQuotes.calls k a0 true w h (HT.out.below (by first | exact Below.refl _ _ | (repeat (first | (with_reducible first | exact HB.out | apply below_alloc | apply pw_below_drewN | apply below_drew1) | exact HB.out))))).mono ?_
  rintro e w' ⟨rfl, hd⟩
  exact ⟨rfl, hd⟩

/-! ### spinneylaw02_CharAgain: function 7 -/
def spinneylaw02_CharAgain.j0 : Nat → Bool → ByteArray → Bool → Option (Bool)
  | 0, _, _, _ => none
  | k + 1, x3, x4, x39 => if x39 = true then (none) else ((char_Check.f x4).bind fun t140 => (if t140 = true then ((char_Bare.f x4).bind fun t141 => (if t141 = true then (some x3) else ((char_Write.f x4).bind fun t142 => ((char_Read.f t142).bind fun bt143 => (if x3 = true then (if bt143.2.2 = 0 then (if bt143.1.toList = x4.toList then (some (bt143.2.1 == (t142.size : Int))) else (none)) else (none)) else (none)))))) else (if x3 = true then (some (decide ((x4.size : Int) > 255))) else (none))))
def spinneylaw02_CharAgain.f (k : Nat) (a0 : ByteArray) : Option (Bool) := (spinneylaw02_live.f k).bind fun t136 => (if (a0.size : Int) > 100000 then (some t136) else ((char_Read.f a0).bind fun bt137 => (if bt137.2.2 = 0 then (if bt137.2.1 < 2 then (spinneylaw02_CharAgain.j0 k t136 bt137.1 true) else (spinneylaw02_CharAgain.j0 k t136 bt137.1 (decide (bt137.2.1 > (a0.size : Int))))) else (if t136 = true then (if bt137.1.toList = ([] : List UInt8) then (some (bt137.2.1 == 0)) else (none)) else (none)))))
theorem spinneylaw02_CharAgain.mono_l : ∀ k, (∀ y0 y1 y2, LeO (spinneylaw02_CharAgain.j0 k y0 y1 y2) (spinneylaw02_CharAgain.j0 (k + 1) y0 y1 y2))
  | 0 => fun _ _ _ r h => by simp [spinneylaw02_CharAgain.j0] at h
  | k + 1 => by
    have ih0 := spinneylaw02_CharAgain.mono_l k
    · intro y0 y1 y2
      unfold spinneylaw02_CharAgain.j0
      repeat' first
      | (with_reducible exact ih0 _ _ _)
      | (with_reducible exact spinneylaw02_live.mono _)
      | (with_reducible exact LeO.refl _)
      | (with_reducible exact LeO.none _)
      | (with_reducible refine LeO.ite ?_ ?_)
      | (with_reducible refine LeO.bind ?_ (fun _ => ?_))
      | exact ih0 _ _ _
      | exact spinneylaw02_live.mono _
      | exact LeO.none _
      | refine LeO.ite ?_ ?_
      | refine LeO.bind ?_ (fun _ => ?_)
theorem spinneylaw02_CharAgain.mono : ∀ a0 k, LeO (spinneylaw02_CharAgain.f k a0) (spinneylaw02_CharAgain.f (k + 1) a0) := by
  intro a0 k
  have ih0 := spinneylaw02_CharAgain.mono_l k
  unfold spinneylaw02_CharAgain.f
  repeat' first
      | (with_reducible exact ih0 _ _ _)
      | (with_reducible exact spinneylaw02_live.mono _)
      | (with_reducible exact LeO.refl _)
      | (with_reducible exact LeO.none _)
      | (with_reducible refine LeO.ite ?_ ?_)
      | (with_reducible refine LeO.bind ?_ (fun _ => ?_))
      | exact ih0 _ _ _
      | exact spinneylaw02_live.mono _
      | exact LeO.none _
      | refine LeO.ite ?_ ?_
      | refine LeO.bind ?_ (fun _ => ?_)
set_option maxHeartbeats 8000000 in
set_option maxRecDepth 100000 in
theorem spinneylaw02_CharAgain.calls (k : Nat) (a0 : ByteArray) (r : Bool) (w : World) (h : spinneylaw02_CharAgain.f k a0 = some r) (hT : Tabs w) :
    Calls Tryd.prog 7 #[.string a0] w fun e w' => e = .returned (.bool r) ∧ Below w.heap.size w w' := by
  have HT := Aside0.mk hT
  clear hT
  have HB := Aside0.mk (Below.refl w.heap.size w)
  have H : ((spinneylaw02_live.f k).bind fun t136 => (if (a0.size : Int) > 100000 then (some t136) else ((char_Read.f a0).bind fun bt137 => (if bt137.2.2 = 0 then (if bt137.2.1 < 2 then (spinneylaw02_CharAgain.j0 k t136 bt137.1 true) else (spinneylaw02_CharAgain.j0 k t136 bt137.1 (decide (bt137.2.1 > (a0.size : Int))))) else (if t136 = true then (if bt137.1.toList = ([] : List UInt8) then (some (bt137.2.1 == 0)) else (none)) else (none)))))) = some r := h
  clear h
  replace H := Option.bind_eq_some_iff.mp H
  obtain ⟨t136, A20, H⟩ := H
  replace H : (if (a0.size : Int) > 100000 then (some t136) else ((char_Read.f a0).bind fun bt137 => (if bt137.2.2 = 0 then (if bt137.2.1 < 2 then (spinneylaw02_CharAgain.j0 k t136 bt137.1 true) else (spinneylaw02_CharAgain.j0 k t136 bt137.1 (decide (bt137.2.1 > (a0.size : Int))))) else (if t136 = true then (if bt137.1.toList = ([] : List UInt8) then (some (bt137.2.1 == 0)) else (none)) else (none))))) = some r := H
  have A2 := Aside0.mk A20
  clear A20
  by_cases c3 : (a0.size : Int) > 100000
  · rw [if_pos c3] at H
    have c3b0 : decide (100000 < (a0.size : Int)) = true := decide_eq_true c3
    have c3b1 : decide (100000 < a0.size) = true := decide_eq_true (by omega)
    clear c3
    obtain rfl := Option.some.inj H
    go_enter Tryd.func7, Tryd.ntmps7
    go_wp2_with (first | ((with_reducible refine gate_callee (f := 11) rfl ?_); refine goesL_ (some 10) rfl rfl Tryd.func11 (by kernel_rfl) rfl #[] rfl (by (try simp only [List.map_toArray, List.map_cons, List.map_nil]); first | done | rfl | (simp only [List.length_drop, List.length_take]; rfl)) ?_; (with_reducible refine (spinneylaw02_live.calls k  t136 _ A2.out (HT.out.below (by first | exact Below.refl _ _ | (repeat (first | (with_reducible first | exact HB.out | apply below_alloc | apply pw_below_drewN | apply below_drew1) | exact HB.out))))).mono ?_); rintro e w4 ⟨rfl, hb⟩; refine ⟨_, rfl, ?_⟩; have n0_ := Aside0.mk (below_step (by repeat (first | (with_reducible first | exact HB.out | apply below_alloc | apply pw_below_drewN | apply below_drew1) | exact HB.out)) hb); clear HB; have HB := n0_; clear n0_; (try clear hb); (try clear hb2); (try clear hk); (try clear hi)) | (go_at_call 11; (with_reducible refine (spinneylaw02_live.calls k  t136 _ A2.out (HT.out.below (by first | exact Below.refl _ _ | (repeat (first | (with_reducible first | exact HB.out | apply below_alloc | apply pw_below_drewN | apply below_drew1) | exact HB.out))))).mono ?_); rintro e w4 ⟨rfl, hb⟩; have n0_ := Aside0.mk (below_step (by repeat (first | (with_reducible first | exact HB.out | apply below_alloc | apply pw_below_drewN | apply below_drew1) | exact HB.out)) hb); clear HB; have HB := n0_; clear n0_; (try clear hb); (try clear hb2); (try clear hk); (try clear hi)))
    go_ret
    exact ⟨by first | rfl | (simp [errW_none, errW_some] <;> rfl) | (simp [*, errW_none, errW_some] <;> rfl), by repeat (first | (with_reducible first | exact HB.out | apply below_alloc | apply pw_below_drewN | apply below_drew1) | exact HB.out)⟩
  · rw [if_neg c3] at H
    have c3b0 : decide (100000 < (a0.size : Int)) = false := decide_eq_false c3
    have c3b1 : decide (100000 < a0.size) = false := decide_eq_false (by omega)
    clear c3
    replace H := Option.bind_eq_some_iff.mp H
    obtain ⟨⟨t137, t138, t139⟩, A50, H⟩ := H
    replace H : (if t139 = 0 then (if t138 < 2 then (spinneylaw02_CharAgain.j0 k t136 t137 true) else (spinneylaw02_CharAgain.j0 k t136 t137 (decide (t138 > (a0.size : Int))))) else (if t136 = true then (if t137.toList = ([] : List UInt8) then (some (t138 == 0)) else (none)) else (none))) = some r := H
    have A5 := Aside0.mk A50
    clear A50
    by_cases c6 : t139 = 0
    · rw [if_pos c6] at H
      have c6b0 : (t139 == 0) = true := beq_iff_eq.mpr c6
      have c6b1 : (t139 != 0) = false := bne_eq_false_iff_eq.mpr c6
      clear c6
      have HC7 := Aside0.mk H
      clear H
      go_enter Tryd.func7, Tryd.ntmps7
      go_upto_region 7 with (first | ((with_reducible refine gate_callee (f := 11) rfl ?_); refine goesL_ (some 10) rfl rfl Tryd.func11 (by kernel_rfl) rfl #[] rfl (by (try simp only [List.map_toArray, List.map_cons, List.map_nil]); first | done | rfl | (simp only [List.length_drop, List.length_take]; rfl)) ?_; (with_reducible refine (spinneylaw02_live.calls k  t136 _ A2.out (HT.out.below (by first | exact Below.refl _ _ | (repeat (first | (with_reducible first | exact HB.out | apply below_alloc | apply pw_below_drewN | apply below_drew1) | exact HB.out))))).mono ?_); rintro e w8 ⟨rfl, hb⟩; refine ⟨_, rfl, ?_⟩; have n0_ := Aside0.mk (below_step (by repeat (first | (with_reducible first | exact HB.out | apply below_alloc | apply pw_below_drewN | apply below_drew1) | exact HB.out)) hb); clear HB; have HB := n0_; clear n0_; (try clear hb); (try clear hb2); (try clear hk); (try clear hi)) | ((with_reducible refine gate_callee (f := 17) rfl ?_); refine goesL_ (some 17) rfl rfl Tryd.func17 (by kernel_rfl) rfl #[.string a0] rfl (by (try simp only [List.map_toArray, List.map_cons, List.map_nil]); first | done | rfl | (simp only [List.length_drop, List.length_take]; rfl)) ?_; (with_reducible refine (char_Read.calls a0 t137 t138 t139 _ A5.out (HT.out.below (by first | exact Below.refl _ _ | (repeat (first | (with_reducible first | exact HB.out | apply below_alloc | apply pw_below_drewN | apply below_drew1) | exact HB.out))))).mono ?_); rintro e w9 ⟨rfl, hb⟩; refine ⟨_, rfl, ?_⟩; have n0_ := Aside0.mk (below_step (by repeat (first | (with_reducible first | exact HB.out | apply below_alloc | apply pw_below_drewN | apply below_drew1) | exact HB.out)) hb); clear HB; have HB := n0_; clear n0_; (try clear hb); (try clear hb2); (try clear hk); (try clear hi)))
      (try simp only [Act.put, List.setIfInBounds_toArray, List.set_cons_zero, List.set_cons_succ])
      go_cut [39] (fun v39 wc => ∃ (kq : Nat) (x39_6 : Bool), v39 = .bool x39_6 ∧ Aside0 (spinneylaw02_CharAgain.j0 kq t136 t137 x39_6 = some r) ∧ Aside0 (kq ≤ k) ∧ Aside0 (Below w.heap.size w wc))
      case first =>
        have H := HC7.out
        clear HC7
        by_cases c10 : t138 < 2
        · rw [if_pos c10] at H
          have c10b0 : decide (t138 < 2) = true := decide_eq_true c10
          clear c10
          (first | rw [c10b0] | (simp only [i64_w, i32_w]; rw [c10b0]) | skip)
          have H' := Aside0.mk H
          clear H
          go_wp2
          go_meet
          case rel => exact ⟨_, (true), (by first | rfl | (simp; done) | (simp [*]; done)), H', ⟨by first | omega | exact Nat.le_refl _⟩, ⟨by repeat (first | (with_reducible first | exact HB.out | apply below_alloc | apply pw_below_drewN | apply below_drew1) | exact HB.out)⟩⟩
        · rw [if_neg c10] at H
          have c10b0 : decide (t138 < 2) = false := decide_eq_false c10
          clear c10
          (first | rw [c10b0] | (simp only [i64_w, i32_w]; rw [c10b0]) | skip)
          have H' := Aside0.mk H
          clear H
          go_wp2
          go_meet
          case rel => exact ⟨_, (decide (t138 > (a0.size : Int))), (by first | rfl | (simp; done) | (simp [*]; done)), H', ⟨by first | omega | exact Nat.le_refl _⟩, ⟨by repeat (first | (with_reducible first | exact HB.out | apply below_alloc | apply pw_below_drewN | apply below_drew1) | exact HB.out)⟩⟩
      case rest =>
        clear HC7
        try clear c1
        try clear p2
        try clear c3
        try clear c3b0
        try clear c3b1
        try clear c6
        try clear c6b0
        try clear c6b1
        try clear c7
        try clear c10
        try clear c10b0
        obtain ⟨kq, x39_6, rfl, HA, HJ6, HB⟩ := hcut
        cases kq with
        | zero => exact absurd HA.out (by simp [spinneylaw02_CharAgain.j0])
        | succ kj6 =>
          have H := HA.out
          clear HA
          simp only [spinneylaw02_CharAgain.j0] at H
          by_cases c11 : x39_6 = true
          · subst c11
            have H1 : (none) = some r := by rw [if_pos rfl] at H; exact H
            clear H
            have H := H1
            clear H1
            exact absurd H (by simp)
          · replace c11 := Bool.eq_false_iff.mpr c11
            subst c11
            have H1 : ((char_Check.f t137).bind fun t140 => (if t140 = true then ((char_Bare.f t137).bind fun t141 => (if t141 = true then (some t136) else ((char_Write.f t137).bind fun t142 => ((char_Read.f t142).bind fun bt143 => (if t136 = true then (if bt143.2.2 = 0 then (if bt143.1.toList = t137.toList then (some (bt143.2.1 == (t142.size : Int))) else (none)) else (none)) else (none)))))) else (if t136 = true then (some (decide ((t137.size : Int) > 255))) else (none)))) = some r := by rw [if_neg (show ¬ (false = true) by decide)] at H; exact H
            clear H
            have H := H1
            clear H1
            replace H := Option.bind_eq_some_iff.mp H
            obtain ⟨t140, A120, H⟩ := H
            replace H : (if t140 = true then ((char_Bare.f t137).bind fun t141 => (if t141 = true then (some t136) else ((char_Write.f t137).bind fun t142 => ((char_Read.f t142).bind fun bt143 => (if t136 = true then (if bt143.2.2 = 0 then (if bt143.1.toList = t137.toList then (some (bt143.2.1 == (t142.size : Int))) else (none)) else (none)) else (none)))))) else (if t136 = true then (some (decide ((t137.size : Int) > 255))) else (none))) = some r := H
            have A12 := Aside0.mk A120
            clear A120
            by_cases c13 : t140 = true
            · subst c13
              have H1 : ((char_Bare.f t137).bind fun t141 => (if t141 = true then (some t136) else ((char_Write.f t137).bind fun t142 => ((char_Read.f t142).bind fun bt143 => (if t136 = true then (if bt143.2.2 = 0 then (if bt143.1.toList = t137.toList then (some (bt143.2.1 == (t142.size : Int))) else (none)) else (none)) else (none)))))) = some r := by rw [if_pos rfl] at H; exact H
              clear H
              have H := H1
              clear H1
              replace H := Option.bind_eq_some_iff.mp H
              obtain ⟨t141, A140, H⟩ := H
              replace H : (if t141 = true then (some t136) else ((char_Write.f t137).bind fun t142 => ((char_Read.f t142).bind fun bt143 => (if t136 = true then (if bt143.2.2 = 0 then (if bt143.1.toList = t137.toList then (some (bt143.2.1 == (t142.size : Int))) else (none)) else (none)) else (none))))) = some r := H
              have A14 := Aside0.mk A140
              clear A140
              by_cases c15 : t141 = true
              · subst c15
                have H1 : (some t136) = some r := by rw [if_pos rfl] at H; exact H
                clear H
                have H := H1
                clear H1
                obtain rfl := Option.some.inj H
                go_wp2_with (first | ((with_reducible refine gate_callee (f := 14) rfl ?_); refine goesL_ (some 41) rfl rfl Tryd.func14 (by kernel_rfl) rfl #[.string t137] rfl (by (try simp only [List.map_toArray, List.map_cons, List.map_nil]); first | done | rfl | (simp only [List.length_drop, List.length_take]; rfl)) ?_; (with_reducible refine (char_Check.calls t137 true _ A12.out (HT.out.below (by first | exact Below.refl _ _ | (repeat (first | (with_reducible first | exact HB.out | apply below_alloc | apply pw_below_drewN | apply below_drew1) | exact HB.out))))).mono ?_); rintro e w16 ⟨rfl, hb⟩; refine ⟨_, rfl, ?_⟩; have n0_ := Aside0.mk (below_step (by repeat (first | (with_reducible first | exact HB.out | apply below_alloc | apply pw_below_drewN | apply below_drew1) | exact HB.out)) hb); clear HB; have HB := n0_; clear n0_; (try clear hb); (try clear hb2); (try clear hk); (try clear hi)) | ((with_reducible refine gate_callee (f := 15) rfl ?_); refine goesL_ (some 50) rfl rfl Tryd.func15 (by kernel_rfl) rfl #[.string t137] rfl (by (try simp only [List.map_toArray, List.map_cons, List.map_nil]); first | done | rfl | (simp only [List.length_drop, List.length_take]; rfl)) ?_; (with_reducible refine (char_Bare.calls t137 true _ A14.out).mono ?_); rintro e w17 ⟨rfl, hb⟩; refine ⟨_, rfl, ?_⟩; have n0_ := Aside0.mk (below_step (by repeat (first | (with_reducible first | exact HB.out | apply below_alloc | apply pw_below_drewN | apply below_drew1) | exact HB.out)) hb); clear HB; have HB := n0_; clear n0_; (try clear hb); (try clear hb2); (try clear hk); (try clear hi)) | (go_at_call 14; (with_reducible refine (char_Check.calls t137 true _ A12.out (HT.out.below (by first | exact Below.refl _ _ | (repeat (first | (with_reducible first | exact HB.out | apply below_alloc | apply pw_below_drewN | apply below_drew1) | exact HB.out))))).mono ?_); rintro e w16 ⟨rfl, hb⟩; have n0_ := Aside0.mk (below_step (by repeat (first | (with_reducible first | exact HB.out | apply below_alloc | apply pw_below_drewN | apply below_drew1) | exact HB.out)) hb); clear HB; have HB := n0_; clear n0_; (try clear hb); (try clear hb2); (try clear hk); (try clear hi)) | (go_at_call 15; (with_reducible refine (char_Bare.calls t137 true _ A14.out).mono ?_); rintro e w17 ⟨rfl, hb⟩; have n0_ := Aside0.mk (below_step (by repeat (first | (with_reducible first | exact HB.out | apply below_alloc | apply pw_below_drewN | apply below_drew1) | exact HB.out)) hb); clear HB; have HB := n0_; clear n0_; (try clear hb); (try clear hb2); (try clear hk); (try clear hi)))
                go_ret
                exact ⟨by first | rfl | (simp [errW_none, errW_some] <;> rfl) | (simp [*, errW_none, errW_some] <;> rfl), by repeat (first | (with_reducible first | exact HB.out | apply below_alloc | apply pw_below_drewN | apply below_drew1) | exact HB.out)⟩
              · replace c15 := Bool.eq_false_iff.mpr c15
                subst c15
                have H1 : ((char_Write.f t137).bind fun t142 => ((char_Read.f t142).bind fun bt143 => (if t136 = true then (if bt143.2.2 = 0 then (if bt143.1.toList = t137.toList then (some (bt143.2.1 == (t142.size : Int))) else (none)) else (none)) else (none)))) = some r := by rw [if_neg (show ¬ (false = true) by decide)] at H; exact H
                clear H
                have H := H1
                clear H1
                replace H := Option.bind_eq_some_iff.mp H
                obtain ⟨t142, A180, H⟩ := H
                replace H : ((char_Read.f t142).bind fun bt143 => (if t136 = true then (if bt143.2.2 = 0 then (if bt143.1.toList = t137.toList then (some (bt143.2.1 == (t142.size : Int))) else (none)) else (none)) else (none))) = some r := H
                have A18 := Aside0.mk A180
                clear A180
                replace H := Option.bind_eq_some_iff.mp H
                obtain ⟨⟨t143, t144, t145⟩, A190, H⟩ := H
                replace H : (if t136 = true then (if t145 = 0 then (if t143.toList = t137.toList then (some (t144 == (t142.size : Int))) else (none)) else (none)) else (none)) = some r := H
                have A19 := Aside0.mk A190
                clear A190
                by_cases c20 : t136 = true
                · subst c20
                  have H1 : (if t145 = 0 then (if t143.toList = t137.toList then (some (t144 == (t142.size : Int))) else (none)) else (none)) = some r := by rw [if_pos rfl] at H; exact H
                  clear H
                  have H := H1
                  clear H1
                  by_cases c21 : t145 = 0
                  · rw [if_pos c21] at H
                    have c21b0 : (t145 == 0) = true := beq_iff_eq.mpr c21
                    have c21b1 : (t145 != 0) = false := bne_eq_false_iff_eq.mpr c21
                    clear c21
                    by_cases c22 : t143.toList = t137.toList
                    · rw [if_pos c22] at H
                      have c22b0 : (t143.toList == t137.toList) = true := beq_iff_eq.mpr c22
                      have c22b1 : (t143.toList != t137.toList) = false := bne_eq_false_iff_eq.mpr c22
                      clear c22
                      obtain rfl := Option.some.inj H
                      go_wp2_with (first | ((with_reducible refine gate_callee (f := 14) rfl ?_); refine goesL_ (some 41) rfl rfl Tryd.func14 (by kernel_rfl) rfl #[.string t137] rfl (by (try simp only [List.map_toArray, List.map_cons, List.map_nil]); first | done | rfl | (simp only [List.length_drop, List.length_take]; rfl)) ?_; (with_reducible refine (char_Check.calls t137 true _ A12.out (HT.out.below (by first | exact Below.refl _ _ | (repeat (first | (with_reducible first | exact HB.out | apply below_alloc | apply pw_below_drewN | apply below_drew1) | exact HB.out))))).mono ?_); rintro e w23 ⟨rfl, hb⟩; refine ⟨_, rfl, ?_⟩; have n0_ := Aside0.mk (below_step (by repeat (first | (with_reducible first | exact HB.out | apply below_alloc | apply pw_below_drewN | apply below_drew1) | exact HB.out)) hb); clear HB; have HB := n0_; clear n0_; (try clear hb); (try clear hb2); (try clear hk); (try clear hi)) | ((with_reducible refine gate_callee (f := 15) rfl ?_); refine goesL_ (some 50) rfl rfl Tryd.func15 (by kernel_rfl) rfl #[.string t137] rfl (by (try simp only [List.map_toArray, List.map_cons, List.map_nil]); first | done | rfl | (simp only [List.length_drop, List.length_take]; rfl)) ?_; (with_reducible refine (char_Bare.calls t137 false _ A14.out).mono ?_); rintro e w24 ⟨rfl, hb⟩; refine ⟨_, rfl, ?_⟩; have n0_ := Aside0.mk (below_step (by repeat (first | (with_reducible first | exact HB.out | apply below_alloc | apply pw_below_drewN | apply below_drew1) | exact HB.out)) hb); clear HB; have HB := n0_; clear n0_; (try clear hb); (try clear hb2); (try clear hk); (try clear hi)) | ((with_reducible refine gate_callee (f := 16) rfl ?_); refine goesL_ (some 54) rfl rfl Tryd.func16 (by kernel_rfl) rfl #[.string t137] rfl (by (try simp only [List.map_toArray, List.map_cons, List.map_nil]); first | done | rfl | (simp only [List.length_drop, List.length_take]; rfl)) ?_; (with_reducible refine (char_Write.calls t137 t142 _ A18.out (HT.out.below (by first | exact Below.refl _ _ | (repeat (first | (with_reducible first | exact HB.out | apply below_alloc | apply pw_below_drewN | apply below_drew1) | exact HB.out))))).mono ?_); rintro e w25 ⟨rfl, hb⟩; refine ⟨_, rfl, ?_⟩; have n0_ := Aside0.mk (below_step (by repeat (first | (with_reducible first | exact HB.out | apply below_alloc | apply pw_below_drewN | apply below_drew1) | exact HB.out)) hb); clear HB; have HB := n0_; clear n0_; (try clear hb); (try clear hb2); (try clear hk); (try clear hi)) | ((with_reducible refine gate_callee (f := 17) rfl ?_); refine goesL_ (some 55) rfl rfl Tryd.func17 (by kernel_rfl) rfl #[.string t142] rfl (by (try simp only [List.map_toArray, List.map_cons, List.map_nil]); first | done | rfl | (simp only [List.length_drop, List.length_take]; rfl)) ?_; (with_reducible refine (char_Read.calls t142 t143 t144 t145 _ A19.out (HT.out.below (by first | exact Below.refl _ _ | (repeat (first | (with_reducible first | exact HB.out | apply below_alloc | apply pw_below_drewN | apply below_drew1) | exact HB.out))))).mono ?_); rintro e w26 ⟨rfl, hb⟩; refine ⟨_, rfl, ?_⟩; have n0_ := Aside0.mk (below_step (by repeat (first | (with_reducible first | exact HB.out | apply below_alloc | apply pw_below_drewN | apply below_drew1) | exact HB.out)) hb); clear HB; have HB := n0_; clear n0_; (try clear hb); (try clear hb2); (try clear hk); (try clear hi)) | (go_at_call 14; (with_reducible refine (char_Check.calls t137 true _ A12.out (HT.out.below (by first | exact Below.refl _ _ | (repeat (first | (with_reducible first | exact HB.out | apply below_alloc | apply pw_below_drewN | apply below_drew1) | exact HB.out))))).mono ?_); rintro e w23 ⟨rfl, hb⟩; have n0_ := Aside0.mk (below_step (by repeat (first | (with_reducible first | exact HB.out | apply below_alloc | apply pw_below_drewN | apply below_drew1) | exact HB.out)) hb); clear HB; have HB := n0_; clear n0_; (try clear hb); (try clear hb2); (try clear hk); (try clear hi)) | (go_at_call 15; (with_reducible refine (char_Bare.calls t137 false _ A14.out).mono ?_); rintro e w24 ⟨rfl, hb⟩; have n0_ := Aside0.mk (below_step (by repeat (first | (with_reducible first | exact HB.out | apply below_alloc | apply pw_below_drewN | apply below_drew1) | exact HB.out)) hb); clear HB; have HB := n0_; clear n0_; (try clear hb); (try clear hb2); (try clear hk); (try clear hi)) | (go_at_call 16; (with_reducible refine (char_Write.calls t137 t142 _ A18.out (HT.out.below (by first | exact Below.refl _ _ | (repeat (first | (with_reducible first | exact HB.out | apply below_alloc | apply pw_below_drewN | apply below_drew1) | exact HB.out))))).mono ?_); rintro e w25 ⟨rfl, hb⟩; have n0_ := Aside0.mk (below_step (by repeat (first | (with_reducible first | exact HB.out | apply below_alloc | apply pw_below_drewN | apply below_drew1) | exact HB.out)) hb); clear HB; have HB := n0_; clear n0_; (try clear hb); (try clear hb2); (try clear hk); (try clear hi)) | (go_at_call 17; (with_reducible refine (char_Read.calls t142 t143 t144 t145 _ A19.out (HT.out.below (by first | exact Below.refl _ _ | (repeat (first | (with_reducible first | exact HB.out | apply below_alloc | apply pw_below_drewN | apply below_drew1) | exact HB.out))))).mono ?_); rintro e w26 ⟨rfl, hb⟩; have n0_ := Aside0.mk (below_step (by repeat (first | (with_reducible first | exact HB.out | apply below_alloc | apply pw_below_drewN | apply below_drew1) | exact HB.out)) hb); clear HB; have HB := n0_; clear n0_; (try clear hb); (try clear hb2); (try clear hk); (try clear hi)))
                      go_ret
                      exact ⟨by first | rfl | (simp [errW_none, errW_some] <;> rfl) | (simp [*, errW_none, errW_some] <;> rfl), by repeat (first | (with_reducible first | exact HB.out | apply below_alloc | apply pw_below_drewN | apply below_drew1) | exact HB.out)⟩
                    · rw [if_neg c22] at H
                      exact absurd H (by simp)
                  · rw [if_neg c21] at H
                    exact absurd H (by simp)
                · replace c20 := Bool.eq_false_iff.mpr c20
                  subst c20
                  have H1 : (none) = some r := by rw [if_neg (show ¬ (false = true) by decide)] at H; exact H
                  clear H
                  have H := H1
                  clear H1
                  exact absurd H (by simp)
            · replace c13 := Bool.eq_false_iff.mpr c13
              subst c13
              have H1 : (if t136 = true then (some (decide ((t137.size : Int) > 255))) else (none)) = some r := by rw [if_neg (show ¬ (false = true) by decide)] at H; exact H
              clear H
              have H := H1
              clear H1
              by_cases c27 : t136 = true
              · subst c27
                have H1 : (some (decide ((t137.size : Int) > 255))) = some r := by rw [if_pos rfl] at H; exact H
                clear H
                have H := H1
                clear H1
                obtain rfl := Option.some.inj H
                go_wp2_with (first | ((with_reducible refine gate_callee (f := 14) rfl ?_); refine goesL_ (some 41) rfl rfl Tryd.func14 (by kernel_rfl) rfl #[.string t137] rfl (by (try simp only [List.map_toArray, List.map_cons, List.map_nil]); first | done | rfl | (simp only [List.length_drop, List.length_take]; rfl)) ?_; (with_reducible refine (char_Check.calls t137 false _ A12.out (HT.out.below (by first | exact Below.refl _ _ | (repeat (first | (with_reducible first | exact HB.out | apply below_alloc | apply pw_below_drewN | apply below_drew1) | exact HB.out))))).mono ?_); rintro e w28 ⟨rfl, hb⟩; refine ⟨_, rfl, ?_⟩; have n0_ := Aside0.mk (below_step (by repeat (first | (with_reducible first | exact HB.out | apply below_alloc | apply pw_below_drewN | apply below_drew1) | exact HB.out)) hb); clear HB; have HB := n0_; clear n0_; (try clear hb); (try clear hb2); (try clear hk); (try clear hi)) | (go_at_call 14; (with_reducible refine (char_Check.calls t137 false _ A12.out (HT.out.below (by first | exact Below.refl _ _ | (repeat (first | (with_reducible first | exact HB.out | apply below_alloc | apply pw_below_drewN | apply below_drew1) | exact HB.out))))).mono ?_); rintro e w28 ⟨rfl, hb⟩; have n0_ := Aside0.mk (below_step (by repeat (first | (with_reducible first | exact HB.out | apply below_alloc | apply pw_below_drewN | apply below_drew1) | exact HB.out)) hb); clear HB; have HB := n0_; clear n0_; (try clear hb); (try clear hb2); (try clear hk); (try clear hi)))
                go_ret
                exact ⟨by first | rfl | (simp [errW_none, errW_some] <;> rfl) | (simp [*, errW_none, errW_some] <;> rfl), by repeat (first | (with_reducible first | exact HB.out | apply below_alloc | apply pw_below_drewN | apply below_drew1) | exact HB.out)⟩
              · replace c27 := Bool.eq_false_iff.mpr c27
                subst c27
                have H1 : (none) = some r := by rw [if_neg (show ¬ (false = true) by decide)] at H; exact H
                clear H
                have H := H1
                clear H1
                exact absurd H (by simp)
    · rw [if_neg c6] at H
      have c6b0 : (t139 == 0) = false := beq_eq_false_iff_ne.mpr c6
      have c6b1 : (t139 != 0) = true := bne_iff_ne.mpr c6
      by_cases c29 : t136 = true
      · subst c29
        have H1 : (if t137.toList = ([] : List UInt8) then (some (t138 == 0)) else (none)) = some r := by rw [if_pos rfl] at H; exact H
        clear H
        have H := H1
        clear H1
        by_cases c30 : t137.toList = ([] : List UInt8)
        · rw [if_pos c30] at H
          have c30b0 : (t137.toList == ([] : List UInt8)) = true := beq_iff_eq.mpr c30
          have c30b1 : (t137.toList != ([] : List UInt8)) = false := bne_eq_false_iff_eq.mpr c30
          clear c30
          obtain rfl := Option.some.inj H
          go_enter Tryd.func7, Tryd.ntmps7
          go_wp2_with (first | ((with_reducible refine gate_callee (f := 11) rfl ?_); refine goesL_ (some 10) rfl rfl Tryd.func11 (by kernel_rfl) rfl #[] rfl (by (try simp only [List.map_toArray, List.map_cons, List.map_nil]); first | done | rfl | (simp only [List.length_drop, List.length_take]; rfl)) ?_; (with_reducible refine (spinneylaw02_live.calls k  true _ A2.out (HT.out.below (by first | exact Below.refl _ _ | (repeat (first | (with_reducible first | exact HB.out | apply below_alloc | apply pw_below_drewN | apply below_drew1) | exact HB.out))))).mono ?_); rintro e w31 ⟨rfl, hb⟩; refine ⟨_, rfl, ?_⟩; have n0_ := Aside0.mk (below_step (by repeat (first | (with_reducible first | exact HB.out | apply below_alloc | apply pw_below_drewN | apply below_drew1) | exact HB.out)) hb); clear HB; have HB := n0_; clear n0_; (try clear hb); (try clear hb2); (try clear hk); (try clear hi)) | ((with_reducible refine gate_callee (f := 17) rfl ?_); refine goesL_ (some 17) rfl rfl Tryd.func17 (by kernel_rfl) rfl #[.string a0] rfl (by (try simp only [List.map_toArray, List.map_cons, List.map_nil]); first | done | rfl | (simp only [List.length_drop, List.length_take]; rfl)) ?_; (with_reducible refine (char_Read.calls a0 t137 t138 t139 _ A5.out (HT.out.below (by first | exact Below.refl _ _ | (repeat (first | (with_reducible first | exact HB.out | apply below_alloc | apply pw_below_drewN | apply below_drew1) | exact HB.out))))).mono ?_); rintro e w32 ⟨rfl, hb⟩; refine ⟨_, rfl, ?_⟩; have n0_ := Aside0.mk (below_step (by repeat (first | (with_reducible first | exact HB.out | apply below_alloc | apply pw_below_drewN | apply below_drew1) | exact HB.out)) hb); clear HB; have HB := n0_; clear n0_; (try clear hb); (try clear hb2); (try clear hk); (try clear hi)) | (go_at_call 11; (with_reducible refine (spinneylaw02_live.calls k  true _ A2.out (HT.out.below (by first | exact Below.refl _ _ | (repeat (first | (with_reducible first | exact HB.out | apply below_alloc | apply pw_below_drewN | apply below_drew1) | exact HB.out))))).mono ?_); rintro e w31 ⟨rfl, hb⟩; have n0_ := Aside0.mk (below_step (by repeat (first | (with_reducible first | exact HB.out | apply below_alloc | apply pw_below_drewN | apply below_drew1) | exact HB.out)) hb); clear HB; have HB := n0_; clear n0_; (try clear hb); (try clear hb2); (try clear hk); (try clear hi)) | (go_at_call 17; (with_reducible refine (char_Read.calls a0 t137 t138 t139 _ A5.out (HT.out.below (by first | exact Below.refl _ _ | (repeat (first | (with_reducible first | exact HB.out | apply below_alloc | apply pw_below_drewN | apply below_drew1) | exact HB.out))))).mono ?_); rintro e w32 ⟨rfl, hb⟩; have n0_ := Aside0.mk (below_step (by repeat (first | (with_reducible first | exact HB.out | apply below_alloc | apply pw_below_drewN | apply below_drew1) | exact HB.out)) hb); clear HB; have HB := n0_; clear n0_; (try clear hb); (try clear hb2); (try clear hk); (try clear hi)))
          go_ret
          exact ⟨by first | rfl | (simp [errW_none, errW_some] <;> rfl) | (simp [*, errW_none, errW_some] <;> rfl), by repeat (first | (with_reducible first | exact HB.out | apply below_alloc | apply pw_below_drewN | apply below_drew1) | exact HB.out)⟩
        · rw [if_neg c30] at H
          exact absurd H (by simp)
      · replace c29 := Bool.eq_false_iff.mpr c29
        subst c29
        have H1 : (none) = some r := by rw [if_neg (show ¬ (false = true) by decide)] at H; exact H
        clear H
        have H := H1
        clear H1
        exact absurd H (by simp)

/-- THE ONE PURE STATEMENT of spinneylaw02_CharAgain: yours. -/
def spinneylaw02_CharAgain.Pure : Prop := ∀ (a0 : ByteArray), a0.size ≤ 140737488351232 → ∃ k, spinneylaw02_CharAgain.f k a0 = some true
theorem spinneylaw02_CharAgain.walk (P : spinneylaw02_CharAgain.Pure) (a0 : ByteArray) (w : World) (w0 : a0.size ≤ 140737488351232) (hT : Tabs w) :
    Calls Tryd.prog 7 #[.string a0] w fun e w' => e = .returned (.bool true) ∧ Below w.heap.size w w' := by
  have HT := Aside0.mk hT
  clear hT
  obtain ⟨k, h⟩ := P a0 w0
  refine (spinneylaw02_CharAgain.calls k a0 true w h (HT.out.below (by first | exact Below.refl _ _ | (repeat (first | (with_reducible first | exact HB.out | apply below_alloc | apply pw_below_drewN | apply below_drew1) | exact HB.out))))).mono ?_
  rintro e w' ⟨rfl, hd⟩
  exact ⟨rfl, hd⟩

end Go.Proofs.YtkniiinpkchjoaaDoor.P
