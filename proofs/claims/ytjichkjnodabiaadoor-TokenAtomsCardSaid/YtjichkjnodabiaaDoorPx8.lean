-- PRINTED by a program of this session over the kit's print.py.
import Derived.Test.YtjichkjnodabiaaDoorPx0
import Derived.Test.YtjichkjnodabiaaDoorPx5
import Derived.Test.YtjichkjnodabiaaDoorPx6
import Derived.Test.YtjichkjnodabiaaDoorPx7
namespace Go.Proofs.YtjichkjnodabiaaDoor.P
open Go.Own Go.RowKit Go.Proofs.YtjichkjnodabiaaDoorW.PrintWords Go.Proofs.YtjichkjnodabiaaDoorW.PrintLast Go.Proofs.YtjichkjnodabiaaDoorW.PrintMore
attribute [local go_sem] max2_int min2_int max_two min_two max_three min_three max_four min_four   -- for this text's walks alone
set_option linter.unusedVariables false
set_option linter.unusedSimpArgs false

/-! ### spinneyref02_Write: function 13 -/
mutual
def spinneyref02_Write.l0 : Nat → ByteArray → List Int → Int → Int → Option (ByteArray)
  | 0, _, _, _, _ => none
  | k + 1, x3, x13, x14, x15 => if x15 < x14 then (if 0 ≤ x15 then (if x15 < (x13.length : Int) then (if (rd x13 x15) = 39 then (spinneyref02_Write.j1 k x3 (rd x13 x15) x13 x14 x15 true) else (spinneyref02_Write.j1 k x3 (rd x13 x15) x13 x14 x15 ((rd x13 x15) == 92))) else (none)) else (none)) else (if x3.size + 1 ≤ 9223372036854775807 then (some (x3 ++ (⟨#[39]⟩ : ByteArray))) else (none))
def spinneyref02_Write.j1 : Nat → ByteArray → Int → List Int → Int → Int → Bool → Option (ByteArray)
  | 0, _, _, _, _, _, _ => none
  | k + 1, x3, x5, x13, x14, x15, x23 => if x23 = true then (if 1 + (Utf8.encode x5).size ≤ 9223372036854775807 then (if x3.size + ((⟨#[92]⟩ : ByteArray) ++ (Utf8.encode x5)).size ≤ 9223372036854775807 then (spinneyref02_Write.l0 k (x3 ++ ((⟨#[92]⟩ : ByteArray) ++ (Utf8.encode x5))) x13 x14 (wrap64 (x15 + 1))) else (none)) else (none)) else (if x5 = 10 then (if x3.size + 2 ≤ 9223372036854775807 then (spinneyref02_Write.l0 k (x3 ++ (⟨#[92, 110]⟩ : ByteArray)) x13 x14 (wrap64 (x15 + 1))) else (none)) else (if x5 = 9 then (if x3.size + 2 ≤ 9223372036854775807 then (spinneyref02_Write.l0 k (x3 ++ (⟨#[92, 116]⟩ : ByteArray)) x13 x14 (wrap64 (x15 + 1))) else (none)) else (if x5 < 32 then ((spinneyref02_hex.f k x5).bind fun t153 => (if 2 + t153.size ≤ 9223372036854775807 then (if ((⟨#[92, 120]⟩ : ByteArray) ++ t153).size + 1 ≤ 9223372036854775807 then (if x3.size + (((⟨#[92, 120]⟩ : ByteArray) ++ t153) ++ (⟨#[92]⟩ : ByteArray)).size ≤ 9223372036854775807 then (spinneyref02_Write.l0 k (x3 ++ (((⟨#[92, 120]⟩ : ByteArray) ++ t153) ++ (⟨#[92]⟩ : ByteArray))) x13 x14 (wrap64 (x15 + 1))) else (none)) else (none)) else (none))) else (if x3.size + (Utf8.encode x5).size ≤ 9223372036854775807 then (spinneyref02_Write.l0 k (x3 ++ (Utf8.encode x5)) x13 x14 (wrap64 (x15 + 1))) else (none)))))
end
def spinneyref02_Write.f (k : Nat) (a0 : ByteArray) : Option (ByteArray) := (spinneyref02_Check.f a0).bind fun t147 => (if t147 = true then ((spinneyref02_Bare.f k a0).bind fun t148 => (if t148 = true then (some a0) else ((spinneyref02_Runes.f k a0).bind fun t149 => (spinneyref02_Write.l0 k (⟨#[39]⟩ : ByteArray) t149 (t149.length : Int) 0)))) else (some (⟨#[]⟩ : ByteArray)))
theorem spinneyref02_Write.mono_l : ∀ k, (∀ y0 y1 y2 y3, LeO (spinneyref02_Write.l0 k y0 y1 y2 y3) (spinneyref02_Write.l0 (k + 1) y0 y1 y2 y3)) ∧ (∀ y0 y1 y2 y3 y4 y5, LeO (spinneyref02_Write.j1 k y0 y1 y2 y3 y4 y5) (spinneyref02_Write.j1 (k + 1) y0 y1 y2 y3 y4 y5))
  | 0 => ⟨fun _ _ _ _ r h => by simp [spinneyref02_Write.l0] at h, fun _ _ _ _ _ _ r h => by simp [spinneyref02_Write.j1] at h⟩
  | k + 1 => by
    obtain ⟨ih0, ih1⟩ := spinneyref02_Write.mono_l k
    refine ⟨?_, ?_⟩
    · intro y0 y1 y2 y3
      unfold spinneyref02_Write.l0
      repeat' first
      | (with_reducible exact ih0 _ _ _ _)
      | (with_reducible exact ih1 _ _ _ _ _ _)
      | (with_reducible exact spinneyref02_Bare.mono _ _)
      | (with_reducible exact spinneyref02_Runes.mono _ _)
      | (with_reducible exact spinneyref02_hex.mono _ _)
      | (with_reducible exact LeO.refl _)
      | (with_reducible exact LeO.none _)
      | (with_reducible refine LeO.ite ?_ ?_)
      | (with_reducible refine LeO.bind ?_ (fun _ => ?_))
      | exact ih0 _ _ _ _
      | exact ih1 _ _ _ _ _ _
      | exact spinneyref02_Bare.mono _ _
      | exact spinneyref02_Runes.mono _ _
      | exact spinneyref02_hex.mono _ _
      | exact LeO.none _
      | refine LeO.ite ?_ ?_
      | refine LeO.bind ?_ (fun _ => ?_)
    · intro y0 y1 y2 y3 y4 y5
      unfold spinneyref02_Write.j1
      repeat' first
      | (with_reducible exact ih0 _ _ _ _)
      | (with_reducible exact ih1 _ _ _ _ _ _)
      | (with_reducible exact spinneyref02_Bare.mono _ _)
      | (with_reducible exact spinneyref02_Runes.mono _ _)
      | (with_reducible exact spinneyref02_hex.mono _ _)
      | (with_reducible exact LeO.refl _)
      | (with_reducible exact LeO.none _)
      | (with_reducible refine LeO.ite ?_ ?_)
      | (with_reducible refine LeO.bind ?_ (fun _ => ?_))
      | exact ih0 _ _ _ _
      | exact ih1 _ _ _ _ _ _
      | exact spinneyref02_Bare.mono _ _
      | exact spinneyref02_Runes.mono _ _
      | exact spinneyref02_hex.mono _ _
      | exact LeO.none _
      | refine LeO.ite ?_ ?_
      | refine LeO.bind ?_ (fun _ => ?_)
theorem spinneyref02_Write.mono : ∀ a0 k, LeO (spinneyref02_Write.f k a0) (spinneyref02_Write.f (k + 1) a0) := by
  intro a0 k
  obtain ⟨ih0, ih1⟩ := spinneyref02_Write.mono_l k
  unfold spinneyref02_Write.f
  repeat' first
      | (with_reducible exact ih0 _ _ _ _)
      | (with_reducible exact ih1 _ _ _ _ _ _)
      | (with_reducible exact spinneyref02_Bare.mono _ _)
      | (with_reducible exact spinneyref02_Runes.mono _ _)
      | (with_reducible exact spinneyref02_hex.mono _ _)
      | (with_reducible exact LeO.refl _)
      | (with_reducible exact LeO.none _)
      | (with_reducible refine LeO.ite ?_ ?_)
      | (with_reducible refine LeO.bind ?_ (fun _ => ?_))
      | exact ih0 _ _ _ _
      | exact ih1 _ _ _ _ _ _
      | exact spinneyref02_Bare.mono _ _
      | exact spinneyref02_Runes.mono _ _
      | exact spinneyref02_hex.mono _ _
      | exact LeO.none _
      | refine LeO.ite ?_ ?_
      | refine LeO.bind ?_ (fun _ => ?_)
set_option maxHeartbeats 8000000 in
set_option maxRecDepth 100000 in
theorem spinneyref02_Write.calls (k : Nat) (a0 : ByteArray) (r : ByteArray) (w : World) (h : spinneyref02_Write.f k a0 = some r) (hT : Tabs w) :
    Calls Tryd.prog 13 #[.string a0] w fun e w' => e = .returned (.string r) ∧ Below w.heap.size w w' := by
  have HT := Aside0.mk hT
  clear hT
  have HB := Aside0.mk (Below.refl w.heap.size w)
  have H : ((spinneyref02_Check.f a0).bind fun t147 => (if t147 = true then ((spinneyref02_Bare.f k a0).bind fun t148 => (if t148 = true then (some a0) else ((spinneyref02_Runes.f k a0).bind fun t149 => (spinneyref02_Write.l0 k (⟨#[39]⟩ : ByteArray) t149 (t149.length : Int) 0)))) else (some (⟨#[]⟩ : ByteArray)))) = some r := h
  clear h
  replace H := Option.bind_eq_some_iff.mp H
  obtain ⟨t147, A20, H⟩ := H
  replace H : (if t147 = true then ((spinneyref02_Bare.f k a0).bind fun t148 => (if t148 = true then (some a0) else ((spinneyref02_Runes.f k a0).bind fun t149 => (spinneyref02_Write.l0 k (⟨#[39]⟩ : ByteArray) t149 (t149.length : Int) 0)))) else (some (⟨#[]⟩ : ByteArray))) = some r := H
  have A2 := Aside0.mk A20
  clear A20
  by_cases c3 : t147 = true
  · subst c3
    have H1 : ((spinneyref02_Bare.f k a0).bind fun t148 => (if t148 = true then (some a0) else ((spinneyref02_Runes.f k a0).bind fun t149 => (spinneyref02_Write.l0 k (⟨#[39]⟩ : ByteArray) t149 (t149.length : Int) 0)))) = some r := by rw [if_pos rfl] at H; exact H
    clear H
    have H := H1
    clear H1
    replace H := Option.bind_eq_some_iff.mp H
    obtain ⟨t148, A40, H⟩ := H
    replace H : (if t148 = true then (some a0) else ((spinneyref02_Runes.f k a0).bind fun t149 => (spinneyref02_Write.l0 k (⟨#[39]⟩ : ByteArray) t149 (t149.length : Int) 0))) = some r := H
    have A4 := Aside0.mk A40
    clear A40
    by_cases c5 : t148 = true
    · subst c5
      have H1 : (some a0) = some r := by rw [if_pos rfl] at H; exact H
      clear H
      have H := H1
      clear H1
      obtain rfl := Option.some.inj H
      go_enter Tryd.func13, Tryd.ntmps13
      go_wp2_with (first | ((with_reducible refine gate_callee (f := 14) rfl ?_); refine goesL_ (some 7) rfl rfl Tryd.func14 (by kernel_rfl) rfl #[.string a0] rfl (by (try simp only [List.map_toArray, List.map_cons, List.map_nil]); first | done | rfl | (simp only [List.length_drop, List.length_take]; rfl)) ?_; (with_reducible refine (spinneyref02_Check.calls a0 true _ A2.out (HT.out.below (by first | exact Below.refl _ _ | (repeat (first | (with_reducible first | exact HB.out | apply below_alloc | apply pw_below_drewN | apply below_drew1) | exact HB.out))))).mono ?_); rintro e w6 ⟨rfl, hb⟩; refine ⟨_, rfl, ?_⟩; have n0_ := Aside0.mk (below_step (by repeat (first | (with_reducible first | exact HB.out | apply below_alloc | apply pw_below_drewN | apply below_drew1) | exact HB.out)) hb); clear HB; have HB := n0_; clear n0_; (try clear hb); (try clear hb2); (try clear hk); (try clear hi)) | ((with_reducible refine gate_callee (f := 20) rfl ?_); refine goesL_ (some 10) rfl rfl Tryd.func20 (by kernel_rfl) rfl #[.string a0] rfl (by (try simp only [List.map_toArray, List.map_cons, List.map_nil]); first | done | rfl | (simp only [List.length_drop, List.length_take]; rfl)) ?_; (with_reducible refine (spinneyref02_Bare.calls k a0 true _ A4.out (HT.out.below (by first | exact Below.refl _ _ | (repeat (first | (with_reducible first | exact HB.out | apply below_alloc | apply pw_below_drewN | apply below_drew1) | exact HB.out))))).mono ?_); rintro e w7 ⟨rfl, hb⟩; refine ⟨_, rfl, ?_⟩; have n0_ := Aside0.mk (below_step (by repeat (first | (with_reducible first | exact HB.out | apply below_alloc | apply pw_below_drewN | apply below_drew1) | exact HB.out)) hb); clear HB; have HB := n0_; clear n0_; (try clear hb); (try clear hb2); (try clear hk); (try clear hi)))
      go_ret
      exact ⟨by first | rfl | (simp [errW_none, errW_some] <;> rfl) | (simp [*, errW_none, errW_some] <;> rfl), by repeat (first | (with_reducible first | exact HB.out | apply below_alloc | apply pw_below_drewN | apply below_drew1) | exact HB.out)⟩
    · replace c5 := Bool.eq_false_iff.mpr c5
      subst c5
      have H1 : ((spinneyref02_Runes.f k a0).bind fun t149 => (spinneyref02_Write.l0 k (⟨#[39]⟩ : ByteArray) t149 (t149.length : Int) 0)) = some r := by rw [if_neg (show ¬ (false = true) by decide)] at H; exact H
      clear H
      have H := H1
      clear H1
      replace H := Option.bind_eq_some_iff.mp H
      obtain ⟨t149, A80, H⟩ := H
      replace H : (spinneyref02_Write.l0 k (⟨#[39]⟩ : ByteArray) t149 (t149.length : Int) 0) = some r := H
      have A8 := Aside0.mk A80
      clear A80
      have H' := Aside0.mk H
      clear H
      go_enter Tryd.func13, Tryd.ntmps13
      go_wp2_with (first | ((with_reducible refine gate_callee (f := 14) rfl ?_); refine goesL_ (some 7) rfl rfl Tryd.func14 (by kernel_rfl) rfl #[.string a0] rfl (by (try simp only [List.map_toArray, List.map_cons, List.map_nil]); first | done | rfl | (simp only [List.length_drop, List.length_take]; rfl)) ?_; (with_reducible refine (spinneyref02_Check.calls a0 true _ A2.out (HT.out.below (by first | exact Below.refl _ _ | (repeat (first | (with_reducible first | exact HB.out | apply below_alloc | apply pw_below_drewN | apply below_drew1) | exact HB.out))))).mono ?_); rintro e w9 ⟨rfl, hb⟩; refine ⟨_, rfl, ?_⟩; have n0_ := Aside0.mk (below_step (by repeat (first | (with_reducible first | exact HB.out | apply below_alloc | apply pw_below_drewN | apply below_drew1) | exact HB.out)) hb); clear HB; have HB := n0_; clear n0_; (try clear hb); (try clear hb2); (try clear hk); (try clear hi)) | ((with_reducible refine gate_callee (f := 20) rfl ?_); refine goesL_ (some 10) rfl rfl Tryd.func20 (by kernel_rfl) rfl #[.string a0] rfl (by (try simp only [List.map_toArray, List.map_cons, List.map_nil]); first | done | rfl | (simp only [List.length_drop, List.length_take]; rfl)) ?_; (with_reducible refine (spinneyref02_Bare.calls k a0 false _ A4.out (HT.out.below (by first | exact Below.refl _ _ | (repeat (first | (with_reducible first | exact HB.out | apply below_alloc | apply pw_below_drewN | apply below_drew1) | exact HB.out))))).mono ?_); rintro e w10 ⟨rfl, hb⟩; refine ⟨_, rfl, ?_⟩; have n0_ := Aside0.mk (below_step (by repeat (first | (with_reducible first | exact HB.out | apply below_alloc | apply pw_below_drewN | apply below_drew1) | exact HB.out)) hb); clear HB; have HB := n0_; clear n0_; (try clear hb); (try clear hb2); (try clear hk); (try clear hi)) | ((with_reducible refine gate_callee (f := 21) rfl ?_); refine goesL_ (some 13) rfl rfl Tryd.func21 (by kernel_rfl) rfl #[.string a0] rfl (by (try simp only [List.map_toArray, List.map_cons, List.map_nil]); first | done | rfl | (simp only [List.length_drop, List.length_take]; rfl)) ?_; (with_reducible refine (spinneyref02_Runes.calls k a0 t149 _ A8.out (HT.out.below (by first | exact Below.refl _ _ | (repeat (first | (with_reducible first | exact HB.out | apply below_alloc | apply pw_below_drewN | apply below_drew1) | exact HB.out))))).mono ?_); rintro e w11 ⟨v150, rfl, ho0, hb⟩; refine ⟨_, rfl, ?_⟩; have n0_ := Aside0.mk (Kd.R_lower ho0 (below_size (by repeat (first | (with_reducible first | exact HB.out | apply below_alloc | apply pw_below_drewN | apply below_drew1) | exact HB.out)))); have n1_ := Aside0.mk (below_step (by repeat (first | (with_reducible first | exact HB.out | apply below_alloc | apply pw_below_drewN | apply below_drew1) | exact HB.out)) hb); clear HB; have HO151 := n0_; have HB := n1_; clear n0_ n1_; (try clear hb); (try clear hb2); (try clear hk); (try clear hi); (try clear ho0); obtain ⟨Ao12, co12, eo12⟩ := Kd.R_slice HO151.out; subst eo12))
      go_loopg [3, 15] k (fun kq v3 v15 w' => ∃ (x3_1 : ByteArray) (x15_1 : Int), v3 = .string x3_1 ∧ v15 = .int .i64 x15_1 ∧ Aside0 (spinneyref02_Write.l0 kq x3_1 t149 (t149.length : Int) x15_1 = some r) ∧ Aside0 (kq ≤ k) ∧ Aside0 (Kd.R (Kd.int .i32) 21 w' w.heap.size (fun _ => True) (.slice Ao12 t149.length co12) t149) ∧ Aside0 (Below w.heap.size w w'))
      case atStart => exact ⟨((⟨#[39]⟩ : ByteArray)), (0), (by first | rfl | (simp; done) | (simp [*]; done)), (by first | rfl | (simp; done) | (simp [*]; done)), H', ⟨Nat.le_refl _⟩, ⟨by (with_reducible repeat (first | apply Kd.R_alloc | apply Kd.R_drewN | apply Kd.R_drew)); exact HO151.out⟩, ⟨by repeat (first | (with_reducible first | exact HB.out | apply below_alloc | apply pw_below_drewN | apply below_drew1) | exact HB.out)⟩⟩
      case round =>
        clear H'
        try clear c1
        try clear c2
        try clear p2
        try clear c3
        try clear c5
        obtain ⟨x3_1, x15_1, rfl, rfl, HA, HK1, HO_13, HB⟩ := hrel
        cases gk with
        | zero => exact absurd HA.out (by simp [spinneyref02_Write.l0])
        | succ k1 =>
          have H := HA.out
          clear HA
          simp only [spinneyref02_Write.l0] at H
          by_cases c13 : x15_1 < (t149.length : Int)
          · rw [if_pos c13] at H
            have c13b0 : decide (x15_1 < (t149.length : Int)) = true := decide_eq_true c13
            clear c13
            by_cases c14 : 0 ≤ x15_1
            · rw [if_pos c14] at H
              have c14b0 : decide (0 ≤ x15_1) = true := decide_eq_true c14
              clear c14
              by_cases c15 : x15_1 < (t149.length : Int)
              · rw [if_pos c15] at H
                have c15b0 : decide (x15_1 < (t149.length : Int)) = true := decide_eq_true c15
                clear c15
                have HC16 := Aside0.mk H
                clear H
                have p152 : 0 ≤ (x15_1 : Int) := of_decide_eq_true (by first | (with_reducible assumption) | assumption)
                have q152 : x15_1 < (t149.length : Int) := of_decide_eq_true (by first | (with_reducible assumption) | assumption)
                obtain ⟨ad152, e152, hx152_0⟩ := Kd.at_int (Kd.R_reads' HO_13.out).2.2 x15_1 p152 q152
                cases e152
                replace p152 := eq_true p152
                replace q152 := eq_true q152
                go_upto_region 10 with (fail)
                go_cut [23] (fun v23 wc => ∃ (kq : Nat) (x23_15 : Bool), v23 = .bool x23_15 ∧ Aside0 (spinneyref02_Write.j1 kq x3_1 (rd t149 x15_1) t149 (t149.length : Int) x15_1 x23_15 = some r) ∧ Aside0 (kq ≤ k1) ∧ Aside0 (Kd.R (Kd.int .i32) 21 wc w.heap.size (fun _ => True) (.slice (some ad152) t149.length co12) t149) ∧ Aside0 (Below w.heap.size w wc))
                case first =>
                  have H := HC16.out
                  clear HC16
                  by_cases c17 : (rd t149 x15_1) = 39
                  · rw [if_pos c17] at H
                    have c17b0 : ((rd t149 x15_1) == 39) = true := beq_iff_eq.mpr c17
                    have c17b1 : ((rd t149 x15_1) != 39) = false := bne_eq_false_iff_eq.mpr c17
                    clear c17
                    (first | rw [c17b0] | (simp only [i64_w, i32_w]; rw [c17b0]) | skip)
                    have H' := Aside0.mk H
                    clear H
                    go_wp2
                    go_meet
                    case rel => exact ⟨_, (true), (by first | rfl | (simp; done) | (simp [*]; done)), H', ⟨by have := HK1.out; first | omega | exact Nat.le_refl _⟩, ⟨by (with_reducible repeat (first | apply Kd.R_alloc | apply Kd.R_drewN | apply Kd.R_drew)); exact HO_13.out⟩, ⟨by repeat (first | (with_reducible first | exact HB.out | apply below_alloc | apply pw_below_drewN | apply below_drew1) | exact HB.out)⟩⟩
                  · rw [if_neg c17] at H
                    have c17b0 : ((rd t149 x15_1) == 39) = false := beq_eq_false_iff_ne.mpr c17
                    have c17b1 : ((rd t149 x15_1) != 39) = true := bne_iff_ne.mpr c17
                    (first | rw [c17b0] | (simp only [i64_w, i32_w]; rw [c17b0]) | skip)
                    have H' := Aside0.mk H
                    clear H
                    go_wp2
                    go_meet
                    case rel => exact ⟨_, (((rd t149 x15_1) == 92)), (by first | rfl | (simp; done) | (simp [*]; done)), H', ⟨by have := HK1.out; first | omega | exact Nat.le_refl _⟩, ⟨by (with_reducible repeat (first | apply Kd.R_alloc | apply Kd.R_drewN | apply Kd.R_drew)); exact HO_13.out⟩, ⟨by repeat (first | (with_reducible first | exact HB.out | apply below_alloc | apply pw_below_drewN | apply below_drew1) | exact HB.out)⟩⟩
                case rest =>
                  clear HC16
                  try clear c1
                  try clear p1
                  try clear q1
                  try clear hx1
                  try clear c2
                  try clear p2
                  try clear c3
                  try clear c5
                  try clear c13
                  try clear c13b0
                  try clear c14
                  try clear c14b0
                  try clear c15
                  try clear c15b0
                  try clear p15
                  try clear q15
                  try clear hx15
                  try clear c17
                  try clear c17b0
                  try clear c17b1
                  try clear hx152_0
                  try clear p152
                  try clear p2
                  try clear q152
                  obtain ⟨kq, x23_15, rfl, HA, HJ15, HO_13, HB⟩ := hcut
                  cases kq with
                  | zero => exact absurd HA.out (by simp [spinneyref02_Write.j1])
                  | succ kj15 =>
                    have H := HA.out
                    clear HA
                    simp only [spinneyref02_Write.j1] at H
                    by_cases c18 : x23_15 = true
                    · subst c18
                      have H1 : (if 1 + (Utf8.encode (rd t149 x15_1)).size ≤ 9223372036854775807 then (if x3_1.size + ((⟨#[92]⟩ : ByteArray) ++ (Utf8.encode (rd t149 x15_1))).size ≤ 9223372036854775807 then (spinneyref02_Write.l0 kj15 (x3_1 ++ ((⟨#[92]⟩ : ByteArray) ++ (Utf8.encode (rd t149 x15_1)))) t149 (t149.length : Int) (wrap64 (x15_1 + 1))) else (none)) else (none)) = some r := by rw [if_pos rfl] at H; exact H
                      clear H
                      have H := H1
                      clear H1
                      by_cases c19 : 1 + (Utf8.encode (rd t149 x15_1)).size ≤ 9223372036854775807
                      · rw [if_pos c19] at H
                        have c19b0 := eq_true c19
                        have c19b1 : decide (1 + (Utf8.encode (rd t149 x15_1)).size ≤ 9223372036854775807) = true := decide_eq_true c19
                        try have c19b2 : (9223372036854775807 < 1 + (Utf8.encode (rd t149 x15_1)).size) = False := eq_false (Nat.not_lt.2 c19)
                        by_cases c20 : x3_1.size + ((⟨#[92]⟩ : ByteArray) ++ (Utf8.encode (rd t149 x15_1))).size ≤ 9223372036854775807
                        · rw [if_pos c20] at H
                          have c20b0 := eq_true c20
                          have c20b1 : decide (x3_1.size + ((⟨#[92]⟩ : ByteArray) ++ (Utf8.encode (rd t149 x15_1))).size ≤ 9223372036854775807) = true := decide_eq_true c20
                          try have c20b2 : (9223372036854775807 < x3_1.size + ((⟨#[92]⟩ : ByteArray) ++ (Utf8.encode (rd t149 x15_1))).size) = False := eq_false (Nat.not_lt.2 c20)
                          try have c20b3 : (9223372036854775807 < x3_1.size + (1 + (Utf8.encode (rd t149 x15_1)).size)) = False := by have hq_ := c20; simp only [ByteArray.size_append] at hq_; exact eq_false (Nat.not_lt.2 hq_)
                          have H' := Aside0.mk H
                          clear H
                          go_wp2
                          go_roundg kj15
                          case measure => have := HK1.out; have := HJ15.out; omega
                          case rel => exact ⟨(x3_1 ++ ((⟨#[92]⟩ : ByteArray) ++ (Utf8.encode (rd t149 x15_1)))), (wrap64 (x15_1 + 1)), (by first | rfl | (simp; done) | (simp [*]; done)), (by first | rfl | (simp; done) | (simp [*]; done)), H', ⟨by have := HK1.out; have := HJ15.out; omega⟩, ⟨by (with_reducible repeat (first | apply Kd.R_alloc | apply Kd.R_drewN | apply Kd.R_drew)); exact HO_13.out⟩, ⟨by repeat (first | (with_reducible first | exact HB.out | apply below_alloc | apply pw_below_drewN | apply below_drew1) | exact HB.out)⟩⟩
                        · rw [if_neg c20] at H
                          exact absurd H (by simp)
                      · rw [if_neg c19] at H
                        exact absurd H (by simp)
                    · replace c18 := Bool.eq_false_iff.mpr c18
                      subst c18
                      have H1 : (if (rd t149 x15_1) = 10 then (if x3_1.size + 2 ≤ 9223372036854775807 then (spinneyref02_Write.l0 kj15 (x3_1 ++ (⟨#[92, 110]⟩ : ByteArray)) t149 (t149.length : Int) (wrap64 (x15_1 + 1))) else (none)) else (if (rd t149 x15_1) = 9 then (if x3_1.size + 2 ≤ 9223372036854775807 then (spinneyref02_Write.l0 kj15 (x3_1 ++ (⟨#[92, 116]⟩ : ByteArray)) t149 (t149.length : Int) (wrap64 (x15_1 + 1))) else (none)) else (if (rd t149 x15_1) < 32 then ((spinneyref02_hex.f kj15 (rd t149 x15_1)).bind fun t153 => (if 2 + t153.size ≤ 9223372036854775807 then (if ((⟨#[92, 120]⟩ : ByteArray) ++ t153).size + 1 ≤ 9223372036854775807 then (if x3_1.size + (((⟨#[92, 120]⟩ : ByteArray) ++ t153) ++ (⟨#[92]⟩ : ByteArray)).size ≤ 9223372036854775807 then (spinneyref02_Write.l0 kj15 (x3_1 ++ (((⟨#[92, 120]⟩ : ByteArray) ++ t153) ++ (⟨#[92]⟩ : ByteArray))) t149 (t149.length : Int) (wrap64 (x15_1 + 1))) else (none)) else (none)) else (none))) else (if x3_1.size + (Utf8.encode (rd t149 x15_1)).size ≤ 9223372036854775807 then (spinneyref02_Write.l0 kj15 (x3_1 ++ (Utf8.encode (rd t149 x15_1))) t149 (t149.length : Int) (wrap64 (x15_1 + 1))) else (none))))) = some r := by rw [if_neg (show ¬ (false = true) by decide)] at H; exact H
                      clear H
                      have H := H1
                      clear H1
                      by_cases c21 : (rd t149 x15_1) = 10
                      · rw [if_pos c21] at H
                        have c21b0 : ((rd t149 x15_1) == 10) = true := beq_iff_eq.mpr c21
                        have c21b1 : ((rd t149 x15_1) != 10) = false := bne_eq_false_iff_eq.mpr c21
                        clear c21
                        by_cases c22 : x3_1.size + 2 ≤ 9223372036854775807
                        · rw [if_pos c22] at H
                          have c22b0 := eq_true c22
                          have c22b1 : decide (x3_1.size + 2 ≤ 9223372036854775807) = true := decide_eq_true c22
                          try have c22b2 : (9223372036854775807 < x3_1.size + 2) = False := eq_false (Nat.not_lt.2 c22)
                          have H' := Aside0.mk H
                          clear H
                          go_wp2
                          go_roundg kj15
                          case measure => have := HK1.out; have := HJ15.out; omega
                          case rel => exact ⟨(x3_1 ++ (⟨#[92, 110]⟩ : ByteArray)), (wrap64 (x15_1 + 1)), (by first | rfl | (simp; done) | (simp [*]; done)), (by first | rfl | (simp; done) | (simp [*]; done)), H', ⟨by have := HK1.out; have := HJ15.out; omega⟩, ⟨by (with_reducible repeat (first | apply Kd.R_alloc | apply Kd.R_drewN | apply Kd.R_drew)); exact HO_13.out⟩, ⟨by repeat (first | (with_reducible first | exact HB.out | apply below_alloc | apply pw_below_drewN | apply below_drew1) | exact HB.out)⟩⟩
                        · rw [if_neg c22] at H
                          exact absurd H (by simp)
                      · rw [if_neg c21] at H
                        have c21b0 : ((rd t149 x15_1) == 10) = false := beq_eq_false_iff_ne.mpr c21
                        have c21b1 : ((rd t149 x15_1) != 10) = true := bne_iff_ne.mpr c21
                        by_cases c23 : (rd t149 x15_1) = 9
                        · rw [if_pos c23] at H
                          have c23b0 : ((rd t149 x15_1) == 9) = true := beq_iff_eq.mpr c23
                          have c23b1 : ((rd t149 x15_1) != 9) = false := bne_eq_false_iff_eq.mpr c23
                          clear c23
                          by_cases c24 : x3_1.size + 2 ≤ 9223372036854775807
                          · rw [if_pos c24] at H
                            have c24b0 := eq_true c24
                            have c24b1 : decide (x3_1.size + 2 ≤ 9223372036854775807) = true := decide_eq_true c24
                            try have c24b2 : (9223372036854775807 < x3_1.size + 2) = False := eq_false (Nat.not_lt.2 c24)
                            have H' := Aside0.mk H
                            clear H
                            go_wp2
                            go_roundg kj15
                            case measure => have := HK1.out; have := HJ15.out; omega
                            case rel => exact ⟨(x3_1 ++ (⟨#[92, 116]⟩ : ByteArray)), (wrap64 (x15_1 + 1)), (by first | rfl | (simp; done) | (simp [*]; done)), (by first | rfl | (simp; done) | (simp [*]; done)), H', ⟨by have := HK1.out; have := HJ15.out; omega⟩, ⟨by (with_reducible repeat (first | apply Kd.R_alloc | apply Kd.R_drewN | apply Kd.R_drew)); exact HO_13.out⟩, ⟨by repeat (first | (with_reducible first | exact HB.out | apply below_alloc | apply pw_below_drewN | apply below_drew1) | exact HB.out)⟩⟩
                          · rw [if_neg c24] at H
                            exact absurd H (by simp)
                        · rw [if_neg c23] at H
                          have c23b0 : ((rd t149 x15_1) == 9) = false := beq_eq_false_iff_ne.mpr c23
                          have c23b1 : ((rd t149 x15_1) != 9) = true := bne_iff_ne.mpr c23
                          by_cases c25 : (rd t149 x15_1) < 32
                          · rw [if_pos c25] at H
                            have c25b0 : decide ((rd t149 x15_1) < 32) = true := decide_eq_true c25
                            clear c25
                            replace H := Option.bind_eq_some_iff.mp H
                            obtain ⟨t153, A260, H⟩ := H
                            replace H : (if 2 + t153.size ≤ 9223372036854775807 then (if ((⟨#[92, 120]⟩ : ByteArray) ++ t153).size + 1 ≤ 9223372036854775807 then (if x3_1.size + (((⟨#[92, 120]⟩ : ByteArray) ++ t153) ++ (⟨#[92]⟩ : ByteArray)).size ≤ 9223372036854775807 then (spinneyref02_Write.l0 kj15 (x3_1 ++ (((⟨#[92, 120]⟩ : ByteArray) ++ t153) ++ (⟨#[92]⟩ : ByteArray))) t149 (t149.length : Int) (wrap64 (x15_1 + 1))) else (none)) else (none)) else (none)) = some r := H
                            have A26 := Aside0.mk A260
                            clear A260
                            by_cases c27 : 2 + t153.size ≤ 9223372036854775807
                            · rw [if_pos c27] at H
                              have c27b0 := eq_true c27
                              have c27b1 : decide (2 + t153.size ≤ 9223372036854775807) = true := decide_eq_true c27
                              try have c27b2 : (9223372036854775807 < 2 + t153.size) = False := eq_false (Nat.not_lt.2 c27)
                              by_cases c28 : ((⟨#[92, 120]⟩ : ByteArray) ++ t153).size + 1 ≤ 9223372036854775807
                              · rw [if_pos c28] at H
                                have c28b0 := eq_true c28
                                have c28b1 : decide (((⟨#[92, 120]⟩ : ByteArray) ++ t153).size + 1 ≤ 9223372036854775807) = true := decide_eq_true c28
                                try have c28b2 : (9223372036854775807 < ((⟨#[92, 120]⟩ : ByteArray) ++ t153).size + 1) = False := eq_false (Nat.not_lt.2 c28)
                                try have c28b3 : (9223372036854775807 < (2 + t153.size) + 1) = False := by have hq_ := c28; simp only [ByteArray.size_append] at hq_; exact eq_false (Nat.not_lt.2 hq_)
                                try have c28b4 : (9223372036854775807 < 2 + t153.size + 1) = False := c28b3
                                by_cases c29 : x3_1.size + (((⟨#[92, 120]⟩ : ByteArray) ++ t153) ++ (⟨#[92]⟩ : ByteArray)).size ≤ 9223372036854775807
                                · rw [if_pos c29] at H
                                  have c29b0 := eq_true c29
                                  have c29b1 : decide (x3_1.size + (((⟨#[92, 120]⟩ : ByteArray) ++ t153) ++ (⟨#[92]⟩ : ByteArray)).size ≤ 9223372036854775807) = true := decide_eq_true c29
                                  try have c29b2 : (9223372036854775807 < x3_1.size + (((⟨#[92, 120]⟩ : ByteArray) ++ t153) ++ (⟨#[92]⟩ : ByteArray)).size) = False := eq_false (Nat.not_lt.2 c29)
                                  try have c29b3 : (9223372036854775807 < x3_1.size + ((2 + t153.size) + 1)) = False := by have hq_ := c29; simp only [ByteArray.size_append] at hq_; exact eq_false (Nat.not_lt.2 hq_)
                                  have H' := Aside0.mk H
                                  clear H
                                  go_wp2_with (first | ((with_reducible refine gate_callee (f := 22) rfl ?_); refine goesL_ (some 50) rfl rfl Tryd.func22 (by kernel_rfl) rfl #[.int .i32 (rd t149 x15_1)] rfl (by (try simp only [List.map_toArray, List.map_cons, List.map_nil]); first | done | rfl | (simp only [List.length_drop, List.length_take]; rfl)) ?_; (with_reducible refine (spinneyref02_hex.calls kj15 (rd t149 x15_1) t153 _ A26.out).mono ?_); rintro e w' ⟨rfl, ⟨nd, rfl⟩⟩; refine ⟨_, rfl, ?_⟩))
                                  go_roundg kj15
                                  case measure => have := HK1.out; have := HJ15.out; omega
                                  case rel => exact ⟨(x3_1 ++ (((⟨#[92, 120]⟩ : ByteArray) ++ t153) ++ (⟨#[92]⟩ : ByteArray))), (wrap64 (x15_1 + 1)), (by first | rfl | (simp; done) | (simp [*]; done)), (by first | rfl | (simp; done) | (simp [*]; done)), H', ⟨by have := HK1.out; have := HJ15.out; omega⟩, ⟨by (with_reducible repeat (first | apply Kd.R_alloc | apply Kd.R_drewN | apply Kd.R_drew)); exact HO_13.out⟩, ⟨by repeat (first | (with_reducible first | exact HB.out | apply below_alloc | apply pw_below_drewN | apply below_drew1) | exact HB.out)⟩⟩
                                · rw [if_neg c29] at H
                                  exact absurd H (by simp)
                              · rw [if_neg c28] at H
                                exact absurd H (by simp)
                            · rw [if_neg c27] at H
                              exact absurd H (by simp)
                          · rw [if_neg c25] at H
                            have c25b0 : decide ((rd t149 x15_1) < 32) = false := decide_eq_false c25
                            clear c25
                            by_cases c30 : x3_1.size + (Utf8.encode (rd t149 x15_1)).size ≤ 9223372036854775807
                            · rw [if_pos c30] at H
                              have c30b0 := eq_true c30
                              have c30b1 : decide (x3_1.size + (Utf8.encode (rd t149 x15_1)).size ≤ 9223372036854775807) = true := decide_eq_true c30
                              try have c30b2 : (9223372036854775807 < x3_1.size + (Utf8.encode (rd t149 x15_1)).size) = False := eq_false (Nat.not_lt.2 c30)
                              have H' := Aside0.mk H
                              clear H
                              go_wp2
                              go_roundg kj15
                              case measure => have := HK1.out; have := HJ15.out; omega
                              case rel => exact ⟨(x3_1 ++ (Utf8.encode (rd t149 x15_1))), (wrap64 (x15_1 + 1)), (by first | rfl | (simp; done) | (simp [*]; done)), (by first | rfl | (simp; done) | (simp [*]; done)), H', ⟨by have := HK1.out; have := HJ15.out; omega⟩, ⟨by (with_reducible repeat (first | apply Kd.R_alloc | apply Kd.R_drewN | apply Kd.R_drew)); exact HO_13.out⟩, ⟨by repeat (first | (with_reducible first | exact HB.out | apply below_alloc | apply pw_below_drewN | apply below_drew1) | exact HB.out)⟩⟩
                            · rw [if_neg c30] at H
                              exact absurd H (by simp)
              · rw [if_neg c15] at H
                exact absurd H (by simp)
            · rw [if_neg c14] at H
              exact absurd H (by simp)
          · rw [if_neg c13] at H
            have c13b0 : decide (x15_1 < (t149.length : Int)) = false := decide_eq_false c13
            clear c13
            by_cases c31 : x3_1.size + 1 ≤ 9223372036854775807
            · rw [if_pos c31] at H
              have c31b0 := eq_true c31
              have c31b1 : decide (x3_1.size + 1 ≤ 9223372036854775807) = true := decide_eq_true c31
              try have c31b2 : (9223372036854775807 < x3_1.size + 1) = False := eq_false (Nat.not_lt.2 c31)
              obtain rfl := Option.some.inj H
              go_wp2
              go_ret
              exact ⟨by first | rfl | (simp [errW_none, errW_some] <;> rfl) | (simp [*, errW_none, errW_some] <;> rfl), by repeat (first | (with_reducible first | exact HB.out | apply below_alloc | apply pw_below_drewN | apply below_drew1) | exact HB.out)⟩
            · rw [if_neg c31] at H
              exact absurd H (by simp)
  · replace c3 := Bool.eq_false_iff.mpr c3
    subst c3
    have H1 : (some (⟨#[]⟩ : ByteArray)) = some r := by rw [if_neg (show ¬ (false = true) by decide)] at H; exact H
    clear H
    have H := H1
    clear H1
    obtain rfl := Option.some.inj H
    go_enter Tryd.func13, Tryd.ntmps13
    go_wp2_with (first | ((with_reducible refine gate_callee (f := 14) rfl ?_); refine goesL_ (some 7) rfl rfl Tryd.func14 (by kernel_rfl) rfl #[.string a0] rfl (by (try simp only [List.map_toArray, List.map_cons, List.map_nil]); first | done | rfl | (simp only [List.length_drop, List.length_take]; rfl)) ?_; (with_reducible refine (spinneyref02_Check.calls a0 false _ A2.out (HT.out.below (by first | exact Below.refl _ _ | (repeat (first | (with_reducible first | exact HB.out | apply below_alloc | apply pw_below_drewN | apply below_drew1) | exact HB.out))))).mono ?_); rintro e w32 ⟨rfl, hb⟩; refine ⟨_, rfl, ?_⟩; have n0_ := Aside0.mk (below_step (by repeat (first | (with_reducible first | exact HB.out | apply below_alloc | apply pw_below_drewN | apply below_drew1) | exact HB.out)) hb); clear HB; have HB := n0_; clear n0_; (try clear hb); (try clear hb2); (try clear hk); (try clear hi)))
    go_ret
    exact ⟨by first | rfl | (simp [errW_none, errW_some] <;> rfl) | (simp [*, errW_none, errW_some] <;> rfl), by repeat (first | (with_reducible first | exact HB.out | apply below_alloc | apply pw_below_drewN | apply below_drew1) | exact HB.out)⟩

/-! ### spinneylaw05_TokenAtoms: function 8 -/
def spinneylaw05_TokenAtoms.j0 : Nat → ByteArray → Bool → ByteArray → Bool → Option (Bool)
  | 0, _, _, _, _ => none
  | k + 1, x0, x3, x4, x18 => if x18 = true then (some x3) else (if x4.size + 1 ≤ 9223372036854775807 then ((token_Cut.f (x4 ++ (⟨#[32]⟩ : ByteArray))).bind fun bt157 => (if x0.toList = ([91, 93] : List UInt8) then (if x3 = true then (if bt157.2.2 = 0 then (if (bt157.1.length : Int) = 3 then (if 0 < (bt157.1.length : Int) then (if ((rd_T30 bt157.1 0).f0) = 6 then (if 1 < (bt157.1.length : Int) then (some (((rd_T30 bt157.1 1).f0) == 6)) else (none)) else (none)) else (none)) else (none)) else (none)) else (none)) else (if x0.toList = ([123, 125] : List UInt8) then (if x3 = true then (if bt157.2.2 = 0 then (if (bt157.1.length : Int) = 3 then (if 0 < (bt157.1.length : Int) then (if ((rd_T30 bt157.1 0).f0) = 6 then (if 1 < (bt157.1.length : Int) then (some (((rd_T30 bt157.1 1).f0) == 6)) else (none)) else (none)) else (none)) else (none)) else (none)) else (none)) else (if x3 = true then (if bt157.2.2 = 0 then (if (bt157.1.length : Int) = 2 then (if 0 < (bt157.1.length : Int) then (if ((rd_T30 bt157.1 0).f1).toList = x0.toList then (if ((rd_T30 bt157.1 0).f0) = 1 then (some true) else (if ((rd_T30 bt157.1 0).f0) = 2 then (some true) else (some (((rd_T30 bt157.1 0).f0) == 3)))) else (none)) else (none)) else (none)) else (none)) else (none))))) else (none))
def spinneylaw05_TokenAtoms.f (k : Nat) (a0 : ByteArray) : Option (Bool) := (spinneylaw05_live.f).bind fun t154 => ((spinneyref02_Write.f k a0).bind fun t155 => ((spinneyref02_Check.f a0).bind fun t156 => (if t156 = true then (spinneylaw05_TokenAtoms.j0 k a0 t154 t155 (decide ((t155.size : Int) > 4000))) else (spinneylaw05_TokenAtoms.j0 k a0 t154 t155 true))))
theorem spinneylaw05_TokenAtoms.mono_l : ∀ k, (∀ y0 y1 y2 y3, LeO (spinneylaw05_TokenAtoms.j0 k y0 y1 y2 y3) (spinneylaw05_TokenAtoms.j0 (k + 1) y0 y1 y2 y3))
  | 0 => fun _ _ _ _ r h => by simp [spinneylaw05_TokenAtoms.j0] at h
  | k + 1 => by
    have ih0 := spinneylaw05_TokenAtoms.mono_l k
    · intro y0 y1 y2 y3
      unfold spinneylaw05_TokenAtoms.j0
      repeat' first
      | (with_reducible exact ih0 _ _ _ _)
      | (with_reducible exact spinneyref02_Write.mono _ _)
      | (with_reducible exact LeO.refl _)
      | (with_reducible exact LeO.none _)
      | (with_reducible refine LeO.ite ?_ ?_)
      | (with_reducible refine LeO.bind ?_ (fun _ => ?_))
      | exact ih0 _ _ _ _
      | exact spinneyref02_Write.mono _ _
      | exact LeO.none _
      | refine LeO.ite ?_ ?_
      | refine LeO.bind ?_ (fun _ => ?_)
theorem spinneylaw05_TokenAtoms.mono : ∀ a0 k, LeO (spinneylaw05_TokenAtoms.f k a0) (spinneylaw05_TokenAtoms.f (k + 1) a0) := by
  intro a0 k
  have ih0 := spinneylaw05_TokenAtoms.mono_l k
  unfold spinneylaw05_TokenAtoms.f
  repeat' first
      | (with_reducible exact ih0 _ _ _ _)
      | (with_reducible exact spinneyref02_Write.mono _ _)
      | (with_reducible exact LeO.refl _)
      | (with_reducible exact LeO.none _)
      | (with_reducible refine LeO.ite ?_ ?_)
      | (with_reducible refine LeO.bind ?_ (fun _ => ?_))
      | exact ih0 _ _ _ _
      | exact spinneyref02_Write.mono _ _
      | exact LeO.none _
      | refine LeO.ite ?_ ?_
      | refine LeO.bind ?_ (fun _ => ?_)
set_option maxHeartbeats 8000000 in
set_option maxRecDepth 100000 in
theorem spinneylaw05_TokenAtoms.calls (k : Nat) (a0 : ByteArray) (r : Bool) (w : World) (h : spinneylaw05_TokenAtoms.f k a0 = some r) (hT : Tabs w) :
    Calls Tryd.prog 8 #[.string a0] w fun e w' => e = .returned (.bool r) ∧ Below w.heap.size w w' := by
  have HT := Aside0.mk hT
  clear hT
  have HB := Aside0.mk (Below.refl w.heap.size w)
  have H : ((spinneylaw05_live.f).bind fun t154 => ((spinneyref02_Write.f k a0).bind fun t155 => ((spinneyref02_Check.f a0).bind fun t156 => (if t156 = true then (spinneylaw05_TokenAtoms.j0 k a0 t154 t155 (decide ((t155.size : Int) > 4000))) else (spinneylaw05_TokenAtoms.j0 k a0 t154 t155 true))))) = some r := h
  clear h
  replace H := Option.bind_eq_some_iff.mp H
  obtain ⟨t154, A20, H⟩ := H
  replace H : ((spinneyref02_Write.f k a0).bind fun t155 => ((spinneyref02_Check.f a0).bind fun t156 => (if t156 = true then (spinneylaw05_TokenAtoms.j0 k a0 t154 t155 (decide ((t155.size : Int) > 4000))) else (spinneylaw05_TokenAtoms.j0 k a0 t154 t155 true)))) = some r := H
  have A2 := Aside0.mk A20
  clear A20
  replace H := Option.bind_eq_some_iff.mp H
  obtain ⟨t155, A30, H⟩ := H
  replace H : ((spinneyref02_Check.f a0).bind fun t156 => (if t156 = true then (spinneylaw05_TokenAtoms.j0 k a0 t154 t155 (decide ((t155.size : Int) > 4000))) else (spinneylaw05_TokenAtoms.j0 k a0 t154 t155 true))) = some r := H
  have A3 := Aside0.mk A30
  clear A30
  have HC4 := Aside0.mk H
  clear H
  go_enter Tryd.func8, Tryd.ntmps8
  go_upto_region 3 with (first | ((with_reducible refine gate_callee (f := 9) rfl ?_); refine goesL_ (some 8) rfl rfl Tryd.func9 (by kernel_rfl) rfl #[] rfl (by (try simp only [List.map_toArray, List.map_cons, List.map_nil]); first | done | rfl | (simp only [List.length_drop, List.length_take]; rfl)) ?_; (with_reducible refine (spinneylaw05_live.calls  t154 _ A2.out (HT.out.below (by first | exact Below.refl _ _ | (repeat (first | (with_reducible first | exact HB.out | apply below_alloc | apply pw_below_drewN | apply below_drew1) | exact HB.out))))).mono ?_); rintro e w5 ⟨rfl, hb⟩; refine ⟨_, rfl, ?_⟩; have n0_ := Aside0.mk (below_step (by repeat (first | (with_reducible first | exact HB.out | apply below_alloc | apply pw_below_drewN | apply below_drew1) | exact HB.out)) hb); clear HB; have HB := n0_; clear n0_; (try clear hb); (try clear hb2); (try clear hk); (try clear hi)) | ((with_reducible refine gate_callee (f := 13) rfl ?_); refine goesL_ (some 10) rfl rfl Tryd.func13 (by kernel_rfl) rfl #[.string a0] rfl (by (try simp only [List.map_toArray, List.map_cons, List.map_nil]); first | done | rfl | (simp only [List.length_drop, List.length_take]; rfl)) ?_; (with_reducible refine (spinneyref02_Write.calls k a0 t155 _ A3.out (HT.out.below (by first | exact Below.refl _ _ | (repeat (first | (with_reducible first | exact HB.out | apply below_alloc | apply pw_below_drewN | apply below_drew1) | exact HB.out))))).mono ?_); rintro e w6 ⟨rfl, hb⟩; refine ⟨_, rfl, ?_⟩; have n0_ := Aside0.mk (below_step (by repeat (first | (with_reducible first | exact HB.out | apply below_alloc | apply pw_below_drewN | apply below_drew1) | exact HB.out)) hb); clear HB; have HB := n0_; clear n0_; (try clear hb); (try clear hb2); (try clear hk); (try clear hi)))
  (try simp only [Act.put, List.setIfInBounds_toArray, List.set_cons_zero, List.set_cons_succ])
  go_cut [18] (fun v18 wc => ∃ (kq : Nat) (x18_3 : Bool), v18 = .bool x18_3 ∧ Aside0 (spinneylaw05_TokenAtoms.j0 kq a0 t154 t155 x18_3 = some r) ∧ Aside0 (kq ≤ k) ∧ Aside0 (Below w.heap.size w wc))
  case first =>
    have H := HC4.out
    clear HC4
    replace H := Option.bind_eq_some_iff.mp H
    obtain ⟨t156, A70, H⟩ := H
    replace H : (if t156 = true then (spinneylaw05_TokenAtoms.j0 k a0 t154 t155 (decide ((t155.size : Int) > 4000))) else (spinneylaw05_TokenAtoms.j0 k a0 t154 t155 true)) = some r := H
    have A7 := Aside0.mk A70
    clear A70
    by_cases c8 : t156 = true
    · subst c8
      have H1 : (spinneylaw05_TokenAtoms.j0 k a0 t154 t155 (decide ((t155.size : Int) > 4000))) = some r := by rw [if_pos rfl] at H; exact H
      clear H
      have H := H1
      clear H1
      have H' := Aside0.mk H
      clear H
      go_wp2_with (first | ((with_reducible refine gate_callee (f := 14) rfl ?_); refine goesL_ (some 12) rfl rfl Tryd.func14 (by kernel_rfl) rfl #[.string a0] rfl (by (try simp only [List.map_toArray, List.map_cons, List.map_nil]); first | done | rfl | (simp only [List.length_drop, List.length_take]; rfl)) ?_; (with_reducible refine (spinneyref02_Check.calls a0 true _ A7.out (HT.out.below (by first | exact Below.refl _ _ | (repeat (first | (with_reducible first | exact HB.out | apply below_alloc | apply pw_below_drewN | apply below_drew1) | exact HB.out))))).mono ?_); rintro e w9 ⟨rfl, hb⟩; refine ⟨_, rfl, ?_⟩; have n0_ := Aside0.mk (below_step (by repeat (first | (with_reducible first | exact HB.out | apply below_alloc | apply pw_below_drewN | apply below_drew1) | exact HB.out)) hb); clear HB; have HB := n0_; clear n0_; (try clear hb); (try clear hb2); (try clear hk); (try clear hi)))
      go_meet
      case rel => exact ⟨_, (decide ((t155.size : Int) > 4000)), (by first | rfl | (simp; done) | (simp [*]; done)), H', ⟨by first | omega | exact Nat.le_refl _⟩, ⟨by repeat (first | (with_reducible first | exact HB.out | apply below_alloc | apply pw_below_drewN | apply below_drew1) | exact HB.out)⟩⟩
    · replace c8 := Bool.eq_false_iff.mpr c8
      subst c8
      have H1 : (spinneylaw05_TokenAtoms.j0 k a0 t154 t155 true) = some r := by rw [if_neg (show ¬ (false = true) by decide)] at H; exact H
      clear H
      have H := H1
      clear H1
      have H' := Aside0.mk H
      clear H
      go_wp2_with (first | ((with_reducible refine gate_callee (f := 14) rfl ?_); refine goesL_ (some 12) rfl rfl Tryd.func14 (by kernel_rfl) rfl #[.string a0] rfl (by (try simp only [List.map_toArray, List.map_cons, List.map_nil]); first | done | rfl | (simp only [List.length_drop, List.length_take]; rfl)) ?_; (with_reducible refine (spinneyref02_Check.calls a0 false _ A7.out (HT.out.below (by first | exact Below.refl _ _ | (repeat (first | (with_reducible first | exact HB.out | apply below_alloc | apply pw_below_drewN | apply below_drew1) | exact HB.out))))).mono ?_); rintro e w10 ⟨rfl, hb⟩; refine ⟨_, rfl, ?_⟩; have n0_ := Aside0.mk (below_step (by repeat (first | (with_reducible first | exact HB.out | apply below_alloc | apply pw_below_drewN | apply below_drew1) | exact HB.out)) hb); clear HB; have HB := n0_; clear n0_; (try clear hb); (try clear hb2); (try clear hk); (try clear hi)))
      go_meet
      case rel => exact ⟨_, (true), (by first | rfl | (simp; done) | (simp [*]; done)), H', ⟨by first | omega | exact Nat.le_refl _⟩, ⟨by repeat (first | (with_reducible first | exact HB.out | apply below_alloc | apply pw_below_drewN | apply below_drew1) | exact HB.out)⟩⟩
  case rest =>
    clear HC4
    try clear c1
    try clear p2
    try clear c8
    try clear c9
    obtain ⟨kq, x18_3, rfl, HA, HJ3, HB⟩ := hcut
    cases kq with
    | zero => exact absurd HA.out (by simp [spinneylaw05_TokenAtoms.j0])
    | succ kj3 =>
      have H := HA.out
      clear HA
      simp only [spinneylaw05_TokenAtoms.j0] at H
      by_cases c11 : x18_3 = true
      · subst c11
        have H1 : (some t154) = some r := by rw [if_pos rfl] at H; exact H
        clear H
        have H := H1
        clear H1
        obtain rfl := Option.some.inj H
        go_wp2
        go_ret
        exact ⟨by first | rfl | (simp [errW_none, errW_some] <;> rfl) | (simp [*, errW_none, errW_some] <;> rfl), by repeat (first | (with_reducible first | exact HB.out | apply below_alloc | apply pw_below_drewN | apply below_drew1) | exact HB.out)⟩
      · replace c11 := Bool.eq_false_iff.mpr c11
        subst c11
        have H1 : (if t155.size + 1 ≤ 9223372036854775807 then ((token_Cut.f (t155 ++ (⟨#[32]⟩ : ByteArray))).bind fun bt157 => (if a0.toList = ([91, 93] : List UInt8) then (if t154 = true then (if bt157.2.2 = 0 then (if (bt157.1.length : Int) = 3 then (if 0 < (bt157.1.length : Int) then (if ((rd_T30 bt157.1 0).f0) = 6 then (if 1 < (bt157.1.length : Int) then (some (((rd_T30 bt157.1 1).f0) == 6)) else (none)) else (none)) else (none)) else (none)) else (none)) else (none)) else (if a0.toList = ([123, 125] : List UInt8) then (if t154 = true then (if bt157.2.2 = 0 then (if (bt157.1.length : Int) = 3 then (if 0 < (bt157.1.length : Int) then (if ((rd_T30 bt157.1 0).f0) = 6 then (if 1 < (bt157.1.length : Int) then (some (((rd_T30 bt157.1 1).f0) == 6)) else (none)) else (none)) else (none)) else (none)) else (none)) else (none)) else (if t154 = true then (if bt157.2.2 = 0 then (if (bt157.1.length : Int) = 2 then (if 0 < (bt157.1.length : Int) then (if ((rd_T30 bt157.1 0).f1).toList = a0.toList then (if ((rd_T30 bt157.1 0).f0) = 1 then (some true) else (if ((rd_T30 bt157.1 0).f0) = 2 then (some true) else (some (((rd_T30 bt157.1 0).f0) == 3)))) else (none)) else (none)) else (none)) else (none)) else (none))))) else (none)) = some r := by rw [if_neg (show ¬ (false = true) by decide)] at H; exact H
        clear H
        have H := H1
        clear H1
        by_cases c12 : t155.size + 1 ≤ 9223372036854775807
        · rw [if_pos c12] at H
          have c12b0 := eq_true c12
          have c12b1 : decide (t155.size + 1 ≤ 9223372036854775807) = true := decide_eq_true c12
          try have c12b2 : (9223372036854775807 < t155.size + 1) = False := eq_false (Nat.not_lt.2 c12)
          replace H := Option.bind_eq_some_iff.mp H
          obtain ⟨⟨t157, t158, t159⟩, A130, H⟩ := H
          replace H : (if a0.toList = ([91, 93] : List UInt8) then (if t154 = true then (if t159 = 0 then (if (t157.length : Int) = 3 then (if 0 < (t157.length : Int) then (if ((rd_T30 t157 0).f0) = 6 then (if 1 < (t157.length : Int) then (some (((rd_T30 t157 1).f0) == 6)) else (none)) else (none)) else (none)) else (none)) else (none)) else (none)) else (if a0.toList = ([123, 125] : List UInt8) then (if t154 = true then (if t159 = 0 then (if (t157.length : Int) = 3 then (if 0 < (t157.length : Int) then (if ((rd_T30 t157 0).f0) = 6 then (if 1 < (t157.length : Int) then (some (((rd_T30 t157 1).f0) == 6)) else (none)) else (none)) else (none)) else (none)) else (none)) else (none)) else (if t154 = true then (if t159 = 0 then (if (t157.length : Int) = 2 then (if 0 < (t157.length : Int) then (if ((rd_T30 t157 0).f1).toList = a0.toList then (if ((rd_T30 t157 0).f0) = 1 then (some true) else (if ((rd_T30 t157 0).f0) = 2 then (some true) else (some (((rd_T30 t157 0).f0) == 3)))) else (none)) else (none)) else (none)) else (none)) else (none)))) = some r := H
          have A13 := Aside0.mk A130
          clear A130
          by_cases c14 : a0.toList = ([91, 93] : List UInt8)
          · rw [if_pos c14] at H
            have c14b0 : (a0.toList == ([91, 93] : List UInt8)) = true := beq_iff_eq.mpr c14
            have c14b1 : (a0.toList != ([91, 93] : List UInt8)) = false := bne_eq_false_iff_eq.mpr c14
            clear c14
            by_cases c15 : t154 = true
            · subst c15
              have H1 : (if t159 = 0 then (if (t157.length : Int) = 3 then (if 0 < (t157.length : Int) then (if ((rd_T30 t157 0).f0) = 6 then (if 1 < (t157.length : Int) then (some (((rd_T30 t157 1).f0) == 6)) else (none)) else (none)) else (none)) else (none)) else (none)) = some r := by rw [if_pos rfl] at H; exact H
              clear H
              have H := H1
              clear H1
              by_cases c16 : t159 = 0
              · rw [if_pos c16] at H
                have c16b0 : (t159 == 0) = true := beq_iff_eq.mpr c16
                have c16b1 : (t159 != 0) = false := bne_eq_false_iff_eq.mpr c16
                clear c16
                by_cases c17 : (t157.length : Int) = 3
                · rw [if_pos c17] at H
                  have c17b0 : ((t157.length : Int) == 3) = true := beq_iff_eq.mpr c17
                  have c17b1 : ((t157.length : Int) != 3) = false := bne_eq_false_iff_eq.mpr c17
                  clear c17
                  by_cases c18 : 0 < (t157.length : Int)
                  · rw [if_pos c18] at H
                    have c18b0 : decide (0 < (t157.length : Int)) = true := decide_eq_true c18
                    have c18b1 : decide (0 < t157.length) = true := decide_eq_true (by omega)
                    clear c18
                    by_cases c19 : ((rd_T30 t157 0).f0) = 6
                    · rw [if_pos c19] at H
                      have c19b0 : (((rd_T30 t157 0).f0) == 6) = true := beq_iff_eq.mpr c19
                      have c19b1 : (((rd_T30 t157 0).f0) != 6) = false := bne_eq_false_iff_eq.mpr c19
                      clear c19
                      by_cases c20 : 1 < (t157.length : Int)
                      · rw [if_pos c20] at H
                        have c20b0 : decide (1 < (t157.length : Int)) = true := decide_eq_true c20
                        have c20b1 : decide (1 < t157.length) = true := decide_eq_true (by omega)
                        clear c20
                        obtain rfl := Option.some.inj H
                        go_wp2_with (first | ((with_reducible refine gate_callee (f := 10) rfl ?_); refine goesL_ (some 23) rfl rfl Tryd.func10 (by kernel_rfl) rfl #[.string (t155 ++ (⟨#[32]⟩ : ByteArray))] rfl (by (try simp only [List.map_toArray, List.map_cons, List.map_nil]); first | done | rfl | (simp only [List.length_drop, List.length_take]; rfl)) ?_; (with_reducible refine (token_Cut.calls (t155 ++ (⟨#[32]⟩ : ByteArray)) t157 t158 t159 _ A13.out (HT.out.below (by first | exact Below.refl _ _ | (repeat (first | (with_reducible first | exact HB.out | apply below_alloc | apply pw_below_drewN | apply below_drew1) | exact HB.out))))).mono ?_); rintro e w21 ⟨v160, rfl, ho0, hb⟩; refine ⟨_, rfl, ?_⟩; have n0_ := Aside0.mk (Kd.R_lower ho0 (below_size (by repeat (first | (with_reducible first | exact HB.out | apply below_alloc | apply pw_below_drewN | apply below_drew1) | exact HB.out)))); have n1_ := Aside0.mk (below_step (by repeat (first | (with_reducible first | exact HB.out | apply below_alloc | apply pw_below_drewN | apply below_drew1) | exact HB.out)) hb); clear HB; have HO161 := n0_; have HB := n1_; clear n0_ n1_; (try clear hb); (try clear hb2); (try clear hk); (try clear hi); (try clear ho0); obtain ⟨Ao22, co22, eo22⟩ := Kd.R_slice HO161.out; subst eo22; have p162 : 0 ≤ (0 : Int) := (by omega); have q162 : 0 < (t157.length : Int) := of_decide_eq_true (by first | (with_reducible assumption) | assumption); obtain ⟨ad162, e162, hx162_0, hx162_1, hx162_2, hx162_3⟩ := at_T30 (Kd.R_reads' HO161.out).2.2 0 p162 q162; cases e162; have qi162 : (0 < t157.length) = True := eq_true (by omega); (try rw [show ((0 : Int)).toNat = 0 from rfl] at hx162_0); (try rw [show 0 * 4 = 0 from rfl] at hx162_0); (try rw [Addr.add_zero'] at hx162_0); (try rw [show ((0 : Int)).toNat = 0 from rfl] at hx162_1); (try rw [show 0 * 4 = 0 from rfl] at hx162_1); (try rw [Addr.add_zero'] at hx162_1); (try rw [show ((0 : Int)).toNat = 0 from rfl] at hx162_2); (try rw [show 0 * 4 = 0 from rfl] at hx162_2); (try rw [Addr.add_zero'] at hx162_2); (try rw [show ((0 : Int)).toNat = 0 from rfl] at hx162_3); (try rw [show 0 * 4 = 0 from rfl] at hx162_3); (try rw [Addr.add_zero'] at hx162_3); replace p162 := eq_true p162; replace q162 := eq_true q162; have p163 : 0 ≤ (1 : Int) := (by omega); have q163 : 1 < (t157.length : Int) := of_decide_eq_true (by first | (with_reducible assumption) | assumption); obtain ⟨ad163, e163, hx163_0, hx163_1, hx163_2, hx163_3⟩ := at_T30 (Kd.R_reads' HO161.out).2.2 1 p163 q163; obtain rfl : ad162 = ad163 := (by injection e163); (try simp only [show (1 : Int).toNat = 1 from rfl, Nat.reduceMul, Nat.reduceEqDiff, Go.Addr.add, ↓reduceIte] at hx163_0); (try simp only [show (1 : Int).toNat = 1 from rfl, Nat.reduceMul, Nat.reduceEqDiff, Go.Addr.add, ↓reduceIte] at hx163_1); (try simp only [show (1 : Int).toNat = 1 from rfl, Nat.reduceMul, Nat.reduceEqDiff, Go.Addr.add, ↓reduceIte] at hx163_2); (try simp only [show (1 : Int).toNat = 1 from rfl, Nat.reduceMul, Nat.reduceEqDiff, Go.Addr.add, ↓reduceIte] at hx163_3); have qi163 : (1 < t157.length) = True := eq_true (by omega); (try rw [show ((1 : Int)).toNat = 1 from rfl] at hx163_0); (try rw [show 1 * 4 = 4 from rfl] at hx163_0); (try rw [show ((1 : Int)).toNat = 1 from rfl] at hx163_1); (try rw [show 1 * 4 = 4 from rfl] at hx163_1); (try rw [show ((1 : Int)).toNat = 1 from rfl] at hx163_2); (try rw [show 1 * 4 = 4 from rfl] at hx163_2); (try rw [show ((1 : Int)).toNat = 1 from rfl] at hx163_3); (try rw [show 1 * 4 = 4 from rfl] at hx163_3); replace p163 := eq_true p163; replace q163 := eq_true q163))
                        go_ret
                        exact ⟨by first | rfl | (simp [errW_none, errW_some] <;> rfl) | (simp [*, errW_none, errW_some] <;> rfl), by repeat (first | (with_reducible first | exact HB.out | apply below_alloc | apply pw_below_drewN | apply below_drew1) | exact HB.out)⟩
                      · rw [if_neg c20] at H
                        exact absurd H (by simp)
                    · rw [if_neg c19] at H
                      exact absurd H (by simp)
                  · rw [if_neg c18] at H
                    exact absurd H (by simp)
                · rw [if_neg c17] at H
                  exact absurd H (by simp)
              · rw [if_neg c16] at H
                exact absurd H (by simp)
            · replace c15 := Bool.eq_false_iff.mpr c15
              subst c15
              have H1 : (none) = some r := by rw [if_neg (show ¬ (false = true) by decide)] at H; exact H
              clear H
              have H := H1
              clear H1
              exact absurd H (by simp)
          · rw [if_neg c14] at H
            have c14b0 : (a0.toList == ([91, 93] : List UInt8)) = false := beq_eq_false_iff_ne.mpr c14
            have c14b1 : (a0.toList != ([91, 93] : List UInt8)) = true := bne_iff_ne.mpr c14
            by_cases c23 : a0.toList = ([123, 125] : List UInt8)
            · rw [if_pos c23] at H
              have c23b0 : (a0.toList == ([123, 125] : List UInt8)) = true := beq_iff_eq.mpr c23
              have c23b1 : (a0.toList != ([123, 125] : List UInt8)) = false := bne_eq_false_iff_eq.mpr c23
              clear c23
              by_cases c24 : t154 = true
              · subst c24
                have H1 : (if t159 = 0 then (if (t157.length : Int) = 3 then (if 0 < (t157.length : Int) then (if ((rd_T30 t157 0).f0) = 6 then (if 1 < (t157.length : Int) then (some (((rd_T30 t157 1).f0) == 6)) else (none)) else (none)) else (none)) else (none)) else (none)) = some r := by rw [if_pos rfl] at H; exact H
                clear H
                have H := H1
                clear H1
                by_cases c25 : t159 = 0
                · rw [if_pos c25] at H
                  have c25b0 : (t159 == 0) = true := beq_iff_eq.mpr c25
                  have c25b1 : (t159 != 0) = false := bne_eq_false_iff_eq.mpr c25
                  clear c25
                  by_cases c26 : (t157.length : Int) = 3
                  · rw [if_pos c26] at H
                    have c26b0 : ((t157.length : Int) == 3) = true := beq_iff_eq.mpr c26
                    have c26b1 : ((t157.length : Int) != 3) = false := bne_eq_false_iff_eq.mpr c26
                    clear c26
                    by_cases c27 : 0 < (t157.length : Int)
                    · rw [if_pos c27] at H
                      have c27b0 : decide (0 < (t157.length : Int)) = true := decide_eq_true c27
                      have c27b1 : decide (0 < t157.length) = true := decide_eq_true (by omega)
                      clear c27
                      by_cases c28 : ((rd_T30 t157 0).f0) = 6
                      · rw [if_pos c28] at H
                        have c28b0 : (((rd_T30 t157 0).f0) == 6) = true := beq_iff_eq.mpr c28
                        have c28b1 : (((rd_T30 t157 0).f0) != 6) = false := bne_eq_false_iff_eq.mpr c28
                        clear c28
                        by_cases c29 : 1 < (t157.length : Int)
                        · rw [if_pos c29] at H
                          have c29b0 : decide (1 < (t157.length : Int)) = true := decide_eq_true c29
                          have c29b1 : decide (1 < t157.length) = true := decide_eq_true (by omega)
                          clear c29
                          obtain rfl := Option.some.inj H
                          go_wp2_with (first | ((with_reducible refine gate_callee (f := 10) rfl ?_); refine goesL_ (some 23) rfl rfl Tryd.func10 (by kernel_rfl) rfl #[.string (t155 ++ (⟨#[32]⟩ : ByteArray))] rfl (by (try simp only [List.map_toArray, List.map_cons, List.map_nil]); first | done | rfl | (simp only [List.length_drop, List.length_take]; rfl)) ?_; (with_reducible refine (token_Cut.calls (t155 ++ (⟨#[32]⟩ : ByteArray)) t157 t158 t159 _ A13.out (HT.out.below (by first | exact Below.refl _ _ | (repeat (first | (with_reducible first | exact HB.out | apply below_alloc | apply pw_below_drewN | apply below_drew1) | exact HB.out))))).mono ?_); rintro e w30 ⟨v160, rfl, ho0, hb⟩; refine ⟨_, rfl, ?_⟩; have n0_ := Aside0.mk (Kd.R_lower ho0 (below_size (by repeat (first | (with_reducible first | exact HB.out | apply below_alloc | apply pw_below_drewN | apply below_drew1) | exact HB.out)))); have n1_ := Aside0.mk (below_step (by repeat (first | (with_reducible first | exact HB.out | apply below_alloc | apply pw_below_drewN | apply below_drew1) | exact HB.out)) hb); clear HB; have HO161 := n0_; have HB := n1_; clear n0_ n1_; (try clear hb); (try clear hb2); (try clear hk); (try clear hi); (try clear ho0); obtain ⟨Ao31, co31, eo31⟩ := Kd.R_slice HO161.out; subst eo31; have p164 : 0 ≤ (0 : Int) := (by omega); have q164 : 0 < (t157.length : Int) := of_decide_eq_true (by first | (with_reducible assumption) | assumption); obtain ⟨ad164, e164, hx164_0, hx164_1, hx164_2, hx164_3⟩ := at_T30 (Kd.R_reads' HO161.out).2.2 0 p164 q164; cases e164; have qi164 : (0 < t157.length) = True := eq_true (by omega); (try rw [show ((0 : Int)).toNat = 0 from rfl] at hx164_0); (try rw [show 0 * 4 = 0 from rfl] at hx164_0); (try rw [Addr.add_zero'] at hx164_0); (try rw [show ((0 : Int)).toNat = 0 from rfl] at hx164_1); (try rw [show 0 * 4 = 0 from rfl] at hx164_1); (try rw [Addr.add_zero'] at hx164_1); (try rw [show ((0 : Int)).toNat = 0 from rfl] at hx164_2); (try rw [show 0 * 4 = 0 from rfl] at hx164_2); (try rw [Addr.add_zero'] at hx164_2); (try rw [show ((0 : Int)).toNat = 0 from rfl] at hx164_3); (try rw [show 0 * 4 = 0 from rfl] at hx164_3); (try rw [Addr.add_zero'] at hx164_3); replace p164 := eq_true p164; replace q164 := eq_true q164; have p165 : 0 ≤ (1 : Int) := (by omega); have q165 : 1 < (t157.length : Int) := of_decide_eq_true (by first | (with_reducible assumption) | assumption); obtain ⟨ad165, e165, hx165_0, hx165_1, hx165_2, hx165_3⟩ := at_T30 (Kd.R_reads' HO161.out).2.2 1 p165 q165; obtain rfl : ad164 = ad165 := (by injection e165); (try simp only [show (1 : Int).toNat = 1 from rfl, Nat.reduceMul, Nat.reduceEqDiff, Go.Addr.add, ↓reduceIte] at hx165_0); (try simp only [show (1 : Int).toNat = 1 from rfl, Nat.reduceMul, Nat.reduceEqDiff, Go.Addr.add, ↓reduceIte] at hx165_1); (try simp only [show (1 : Int).toNat = 1 from rfl, Nat.reduceMul, Nat.reduceEqDiff, Go.Addr.add, ↓reduceIte] at hx165_2); (try simp only [show (1 : Int).toNat = 1 from rfl, Nat.reduceMul, Nat.reduceEqDiff, Go.Addr.add, ↓reduceIte] at hx165_3); have qi165 : (1 < t157.length) = True := eq_true (by omega); (try rw [show ((1 : Int)).toNat = 1 from rfl] at hx165_0); (try rw [show 1 * 4 = 4 from rfl] at hx165_0); (try rw [show ((1 : Int)).toNat = 1 from rfl] at hx165_1); (try rw [show 1 * 4 = 4 from rfl] at hx165_1); (try rw [show ((1 : Int)).toNat = 1 from rfl] at hx165_2); (try rw [show 1 * 4 = 4 from rfl] at hx165_2); (try rw [show ((1 : Int)).toNat = 1 from rfl] at hx165_3); (try rw [show 1 * 4 = 4 from rfl] at hx165_3); replace p165 := eq_true p165; replace q165 := eq_true q165))
                          go_ret
                          exact ⟨by first | rfl | (simp [errW_none, errW_some] <;> rfl) | (simp [*, errW_none, errW_some] <;> rfl), by repeat (first | (with_reducible first | exact HB.out | apply below_alloc | apply pw_below_drewN | apply below_drew1) | exact HB.out)⟩
                        · rw [if_neg c29] at H
                          exact absurd H (by simp)
                      · rw [if_neg c28] at H
                        exact absurd H (by simp)
                    · rw [if_neg c27] at H
                      exact absurd H (by simp)
                  · rw [if_neg c26] at H
                    exact absurd H (by simp)
                · rw [if_neg c25] at H
                  exact absurd H (by simp)
              · replace c24 := Bool.eq_false_iff.mpr c24
                subst c24
                have H1 : (none) = some r := by rw [if_neg (show ¬ (false = true) by decide)] at H; exact H
                clear H
                have H := H1
                clear H1
                exact absurd H (by simp)
            · rw [if_neg c23] at H
              have c23b0 : (a0.toList == ([123, 125] : List UInt8)) = false := beq_eq_false_iff_ne.mpr c23
              have c23b1 : (a0.toList != ([123, 125] : List UInt8)) = true := bne_iff_ne.mpr c23
              by_cases c32 : t154 = true
              · subst c32
                have H1 : (if t159 = 0 then (if (t157.length : Int) = 2 then (if 0 < (t157.length : Int) then (if ((rd_T30 t157 0).f1).toList = a0.toList then (if ((rd_T30 t157 0).f0) = 1 then (some true) else (if ((rd_T30 t157 0).f0) = 2 then (some true) else (some (((rd_T30 t157 0).f0) == 3)))) else (none)) else (none)) else (none)) else (none)) = some r := by rw [if_pos rfl] at H; exact H
                clear H
                have H := H1
                clear H1
                by_cases c33 : t159 = 0
                · rw [if_pos c33] at H
                  have c33b0 : (t159 == 0) = true := beq_iff_eq.mpr c33
                  have c33b1 : (t159 != 0) = false := bne_eq_false_iff_eq.mpr c33
                  clear c33
                  by_cases c34 : (t157.length : Int) = 2
                  · rw [if_pos c34] at H
                    have c34b0 : ((t157.length : Int) == 2) = true := beq_iff_eq.mpr c34
                    have c34b1 : ((t157.length : Int) != 2) = false := bne_eq_false_iff_eq.mpr c34
                    clear c34
                    by_cases c35 : 0 < (t157.length : Int)
                    · rw [if_pos c35] at H
                      have c35b0 : decide (0 < (t157.length : Int)) = true := decide_eq_true c35
                      have c35b1 : decide (0 < t157.length) = true := decide_eq_true (by omega)
                      clear c35
                      by_cases c36 : ((rd_T30 t157 0).f1).toList = a0.toList
                      · rw [if_pos c36] at H
                        have c36b0 : (((rd_T30 t157 0).f1).toList == a0.toList) = true := beq_iff_eq.mpr c36
                        have c36b1 : (((rd_T30 t157 0).f1).toList != a0.toList) = false := bne_eq_false_iff_eq.mpr c36
                        clear c36
                        by_cases c37 : ((rd_T30 t157 0).f0) = 1
                        · rw [if_pos c37] at H
                          have c37b0 : (((rd_T30 t157 0).f0) == 1) = true := beq_iff_eq.mpr c37
                          have c37b1 : (((rd_T30 t157 0).f0) != 1) = false := bne_eq_false_iff_eq.mpr c37
                          clear c37
                          obtain rfl := Option.some.inj H
                          go_wp2_with (first | ((with_reducible refine gate_callee (f := 10) rfl ?_); refine goesL_ (some 23) rfl rfl Tryd.func10 (by kernel_rfl) rfl #[.string (t155 ++ (⟨#[32]⟩ : ByteArray))] rfl (by (try simp only [List.map_toArray, List.map_cons, List.map_nil]); first | done | rfl | (simp only [List.length_drop, List.length_take]; rfl)) ?_; (with_reducible refine (token_Cut.calls (t155 ++ (⟨#[32]⟩ : ByteArray)) t157 t158 t159 _ A13.out (HT.out.below (by first | exact Below.refl _ _ | (repeat (first | (with_reducible first | exact HB.out | apply below_alloc | apply pw_below_drewN | apply below_drew1) | exact HB.out))))).mono ?_); rintro e w38 ⟨v160, rfl, ho0, hb⟩; refine ⟨_, rfl, ?_⟩; have n0_ := Aside0.mk (Kd.R_lower ho0 (below_size (by repeat (first | (with_reducible first | exact HB.out | apply below_alloc | apply pw_below_drewN | apply below_drew1) | exact HB.out)))); have n1_ := Aside0.mk (below_step (by repeat (first | (with_reducible first | exact HB.out | apply below_alloc | apply pw_below_drewN | apply below_drew1) | exact HB.out)) hb); clear HB; have HO161 := n0_; have HB := n1_; clear n0_ n1_; (try clear hb); (try clear hb2); (try clear hk); (try clear hi); (try clear ho0); obtain ⟨Ao39, co39, eo39⟩ := Kd.R_slice HO161.out; subst eo39; have p166 : 0 ≤ (0 : Int) := (by omega); have q166 : 0 < (t157.length : Int) := of_decide_eq_true (by first | (with_reducible assumption) | assumption); obtain ⟨ad166, e166, hx166_0, hx166_1, hx166_2, hx166_3⟩ := at_T30 (Kd.R_reads' HO161.out).2.2 0 p166 q166; cases e166; have qi166 : (0 < t157.length) = True := eq_true (by omega); (try rw [show ((0 : Int)).toNat = 0 from rfl] at hx166_0); (try rw [show 0 * 4 = 0 from rfl] at hx166_0); (try rw [Addr.add_zero'] at hx166_0); (try rw [show ((0 : Int)).toNat = 0 from rfl] at hx166_1); (try rw [show 0 * 4 = 0 from rfl] at hx166_1); (try rw [Addr.add_zero'] at hx166_1); (try rw [show ((0 : Int)).toNat = 0 from rfl] at hx166_2); (try rw [show 0 * 4 = 0 from rfl] at hx166_2); (try rw [Addr.add_zero'] at hx166_2); (try rw [show ((0 : Int)).toNat = 0 from rfl] at hx166_3); (try rw [show 0 * 4 = 0 from rfl] at hx166_3); (try rw [Addr.add_zero'] at hx166_3); replace p166 := eq_true p166; replace q166 := eq_true q166; have p167 : 0 ≤ (0 : Int) := (by omega); have q167 : 0 < (t157.length : Int) := of_decide_eq_true (by first | (with_reducible assumption) | assumption); obtain ⟨ad167, e167, hx167_0, hx167_1, hx167_2, hx167_3⟩ := at_T30 (Kd.R_reads' HO161.out).2.2 0 p167 q167; obtain rfl : ad166 = ad167 := (by injection e167); have qi167 : (0 < t157.length) = True := eq_true (by omega); (try rw [show ((0 : Int)).toNat = 0 from rfl] at hx167_0); (try rw [show 0 * 4 = 0 from rfl] at hx167_0); (try rw [Addr.add_zero'] at hx167_0); (try rw [show ((0 : Int)).toNat = 0 from rfl] at hx167_1); (try rw [show 0 * 4 = 0 from rfl] at hx167_1); (try rw [Addr.add_zero'] at hx167_1); (try rw [show ((0 : Int)).toNat = 0 from rfl] at hx167_2); (try rw [show 0 * 4 = 0 from rfl] at hx167_2); (try rw [Addr.add_zero'] at hx167_2); (try rw [show ((0 : Int)).toNat = 0 from rfl] at hx167_3); (try rw [show 0 * 4 = 0 from rfl] at hx167_3); (try rw [Addr.add_zero'] at hx167_3); replace p167 := eq_true p167; replace q167 := eq_true q167))
                          go_ret
                          exact ⟨by first | rfl | (simp [errW_none, errW_some] <;> rfl) | (simp [*, errW_none, errW_some] <;> rfl), by repeat (first | (with_reducible first | exact HB.out | apply below_alloc | apply pw_below_drewN | apply below_drew1) | exact HB.out)⟩
                        · rw [if_neg c37] at H
                          have c37b0 : (((rd_T30 t157 0).f0) == 1) = false := beq_eq_false_iff_ne.mpr c37
                          have c37b1 : (((rd_T30 t157 0).f0) != 1) = true := bne_iff_ne.mpr c37
                          by_cases c40 : ((rd_T30 t157 0).f0) = 2
                          · rw [if_pos c40] at H
                            have c40b0 : (((rd_T30 t157 0).f0) == 2) = true := beq_iff_eq.mpr c40
                            have c40b1 : (((rd_T30 t157 0).f0) != 2) = false := bne_eq_false_iff_eq.mpr c40
                            clear c40
                            obtain rfl := Option.some.inj H
                            go_wp2_with (first | ((with_reducible refine gate_callee (f := 10) rfl ?_); refine goesL_ (some 23) rfl rfl Tryd.func10 (by kernel_rfl) rfl #[.string (t155 ++ (⟨#[32]⟩ : ByteArray))] rfl (by (try simp only [List.map_toArray, List.map_cons, List.map_nil]); first | done | rfl | (simp only [List.length_drop, List.length_take]; rfl)) ?_; (with_reducible refine (token_Cut.calls (t155 ++ (⟨#[32]⟩ : ByteArray)) t157 t158 t159 _ A13.out (HT.out.below (by first | exact Below.refl _ _ | (repeat (first | (with_reducible first | exact HB.out | apply below_alloc | apply pw_below_drewN | apply below_drew1) | exact HB.out))))).mono ?_); rintro e w41 ⟨v160, rfl, ho0, hb⟩; refine ⟨_, rfl, ?_⟩; have n0_ := Aside0.mk (Kd.R_lower ho0 (below_size (by repeat (first | (with_reducible first | exact HB.out | apply below_alloc | apply pw_below_drewN | apply below_drew1) | exact HB.out)))); have n1_ := Aside0.mk (below_step (by repeat (first | (with_reducible first | exact HB.out | apply below_alloc | apply pw_below_drewN | apply below_drew1) | exact HB.out)) hb); clear HB; have HO161 := n0_; have HB := n1_; clear n0_ n1_; (try clear hb); (try clear hb2); (try clear hk); (try clear hi); (try clear ho0); obtain ⟨Ao42, co42, eo42⟩ := Kd.R_slice HO161.out; subst eo42; have p166 : 0 ≤ (0 : Int) := (by omega); have q166 : 0 < (t157.length : Int) := of_decide_eq_true (by first | (with_reducible assumption) | assumption); obtain ⟨ad166, e166, hx166_0, hx166_1, hx166_2, hx166_3⟩ := at_T30 (Kd.R_reads' HO161.out).2.2 0 p166 q166; cases e166; have qi166 : (0 < t157.length) = True := eq_true (by omega); (try rw [show ((0 : Int)).toNat = 0 from rfl] at hx166_0); (try rw [show 0 * 4 = 0 from rfl] at hx166_0); (try rw [Addr.add_zero'] at hx166_0); (try rw [show ((0 : Int)).toNat = 0 from rfl] at hx166_1); (try rw [show 0 * 4 = 0 from rfl] at hx166_1); (try rw [Addr.add_zero'] at hx166_1); (try rw [show ((0 : Int)).toNat = 0 from rfl] at hx166_2); (try rw [show 0 * 4 = 0 from rfl] at hx166_2); (try rw [Addr.add_zero'] at hx166_2); (try rw [show ((0 : Int)).toNat = 0 from rfl] at hx166_3); (try rw [show 0 * 4 = 0 from rfl] at hx166_3); (try rw [Addr.add_zero'] at hx166_3); replace p166 := eq_true p166; replace q166 := eq_true q166; have p167 : 0 ≤ (0 : Int) := (by omega); have q167 : 0 < (t157.length : Int) := of_decide_eq_true (by first | (with_reducible assumption) | assumption); obtain ⟨ad167, e167, hx167_0, hx167_1, hx167_2, hx167_3⟩ := at_T30 (Kd.R_reads' HO161.out).2.2 0 p167 q167; obtain rfl : ad166 = ad167 := (by injection e167); have qi167 : (0 < t157.length) = True := eq_true (by omega); (try rw [show ((0 : Int)).toNat = 0 from rfl] at hx167_0); (try rw [show 0 * 4 = 0 from rfl] at hx167_0); (try rw [Addr.add_zero'] at hx167_0); (try rw [show ((0 : Int)).toNat = 0 from rfl] at hx167_1); (try rw [show 0 * 4 = 0 from rfl] at hx167_1); (try rw [Addr.add_zero'] at hx167_1); (try rw [show ((0 : Int)).toNat = 0 from rfl] at hx167_2); (try rw [show 0 * 4 = 0 from rfl] at hx167_2); (try rw [Addr.add_zero'] at hx167_2); (try rw [show ((0 : Int)).toNat = 0 from rfl] at hx167_3); (try rw [show 0 * 4 = 0 from rfl] at hx167_3); (try rw [Addr.add_zero'] at hx167_3); replace p167 := eq_true p167; replace q167 := eq_true q167; have p168 : 0 ≤ (0 : Int) := (by omega); have q168 : 0 < (t157.length : Int) := of_decide_eq_true (by first | (with_reducible assumption) | assumption); obtain ⟨ad168, e168, hx168_0, hx168_1, hx168_2, hx168_3⟩ := at_T30 (Kd.R_reads' HO161.out).2.2 0 p168 q168; obtain rfl : ad166 = ad168 := (by injection e168); have qi168 : (0 < t157.length) = True := eq_true (by omega); (try rw [show ((0 : Int)).toNat = 0 from rfl] at hx168_0); (try rw [show 0 * 4 = 0 from rfl] at hx168_0); (try rw [Addr.add_zero'] at hx168_0); (try rw [show ((0 : Int)).toNat = 0 from rfl] at hx168_1); (try rw [show 0 * 4 = 0 from rfl] at hx168_1); (try rw [Addr.add_zero'] at hx168_1); (try rw [show ((0 : Int)).toNat = 0 from rfl] at hx168_2); (try rw [show 0 * 4 = 0 from rfl] at hx168_2); (try rw [Addr.add_zero'] at hx168_2); (try rw [show ((0 : Int)).toNat = 0 from rfl] at hx168_3); (try rw [show 0 * 4 = 0 from rfl] at hx168_3); (try rw [Addr.add_zero'] at hx168_3); replace p168 := eq_true p168; replace q168 := eq_true q168))
                            go_ret
                            exact ⟨by first | rfl | (simp [errW_none, errW_some] <;> rfl) | (simp [*, errW_none, errW_some] <;> rfl), by repeat (first | (with_reducible first | exact HB.out | apply below_alloc | apply pw_below_drewN | apply below_drew1) | exact HB.out)⟩
                          · rw [if_neg c40] at H
                            have c40b0 : (((rd_T30 t157 0).f0) == 2) = false := beq_eq_false_iff_ne.mpr c40
                            have c40b1 : (((rd_T30 t157 0).f0) != 2) = true := bne_iff_ne.mpr c40
                            obtain rfl := Option.some.inj H
                            go_wp2_with (first | ((with_reducible refine gate_callee (f := 10) rfl ?_); refine goesL_ (some 23) rfl rfl Tryd.func10 (by kernel_rfl) rfl #[.string (t155 ++ (⟨#[32]⟩ : ByteArray))] rfl (by (try simp only [List.map_toArray, List.map_cons, List.map_nil]); first | done | rfl | (simp only [List.length_drop, List.length_take]; rfl)) ?_; (with_reducible refine (token_Cut.calls (t155 ++ (⟨#[32]⟩ : ByteArray)) t157 t158 t159 _ A13.out (HT.out.below (by first | exact Below.refl _ _ | (repeat (first | (with_reducible first | exact HB.out | apply below_alloc | apply pw_below_drewN | apply below_drew1) | exact HB.out))))).mono ?_); rintro e w43 ⟨v160, rfl, ho0, hb⟩; refine ⟨_, rfl, ?_⟩; have n0_ := Aside0.mk (Kd.R_lower ho0 (below_size (by repeat (first | (with_reducible first | exact HB.out | apply below_alloc | apply pw_below_drewN | apply below_drew1) | exact HB.out)))); have n1_ := Aside0.mk (below_step (by repeat (first | (with_reducible first | exact HB.out | apply below_alloc | apply pw_below_drewN | apply below_drew1) | exact HB.out)) hb); clear HB; have HO161 := n0_; have HB := n1_; clear n0_ n1_; (try clear hb); (try clear hb2); (try clear hk); (try clear hi); (try clear ho0); obtain ⟨Ao44, co44, eo44⟩ := Kd.R_slice HO161.out; subst eo44; have p166 : 0 ≤ (0 : Int) := (by omega); have q166 : 0 < (t157.length : Int) := of_decide_eq_true (by first | (with_reducible assumption) | assumption); obtain ⟨ad166, e166, hx166_0, hx166_1, hx166_2, hx166_3⟩ := at_T30 (Kd.R_reads' HO161.out).2.2 0 p166 q166; cases e166; have qi166 : (0 < t157.length) = True := eq_true (by omega); (try rw [show ((0 : Int)).toNat = 0 from rfl] at hx166_0); (try rw [show 0 * 4 = 0 from rfl] at hx166_0); (try rw [Addr.add_zero'] at hx166_0); (try rw [show ((0 : Int)).toNat = 0 from rfl] at hx166_1); (try rw [show 0 * 4 = 0 from rfl] at hx166_1); (try rw [Addr.add_zero'] at hx166_1); (try rw [show ((0 : Int)).toNat = 0 from rfl] at hx166_2); (try rw [show 0 * 4 = 0 from rfl] at hx166_2); (try rw [Addr.add_zero'] at hx166_2); (try rw [show ((0 : Int)).toNat = 0 from rfl] at hx166_3); (try rw [show 0 * 4 = 0 from rfl] at hx166_3); (try rw [Addr.add_zero'] at hx166_3); replace p166 := eq_true p166; replace q166 := eq_true q166; have p167 : 0 ≤ (0 : Int) := (by omega); have q167 : 0 < (t157.length : Int) := of_decide_eq_true (by first | (with_reducible assumption) | assumption); obtain ⟨ad167, e167, hx167_0, hx167_1, hx167_2, hx167_3⟩ := at_T30 (Kd.R_reads' HO161.out).2.2 0 p167 q167; obtain rfl : ad166 = ad167 := (by injection e167); have qi167 : (0 < t157.length) = True := eq_true (by omega); (try rw [show ((0 : Int)).toNat = 0 from rfl] at hx167_0); (try rw [show 0 * 4 = 0 from rfl] at hx167_0); (try rw [Addr.add_zero'] at hx167_0); (try rw [show ((0 : Int)).toNat = 0 from rfl] at hx167_1); (try rw [show 0 * 4 = 0 from rfl] at hx167_1); (try rw [Addr.add_zero'] at hx167_1); (try rw [show ((0 : Int)).toNat = 0 from rfl] at hx167_2); (try rw [show 0 * 4 = 0 from rfl] at hx167_2); (try rw [Addr.add_zero'] at hx167_2); (try rw [show ((0 : Int)).toNat = 0 from rfl] at hx167_3); (try rw [show 0 * 4 = 0 from rfl] at hx167_3); (try rw [Addr.add_zero'] at hx167_3); replace p167 := eq_true p167; replace q167 := eq_true q167; have p168 : 0 ≤ (0 : Int) := (by omega); have q168 : 0 < (t157.length : Int) := of_decide_eq_true (by first | (with_reducible assumption) | assumption); obtain ⟨ad168, e168, hx168_0, hx168_1, hx168_2, hx168_3⟩ := at_T30 (Kd.R_reads' HO161.out).2.2 0 p168 q168; obtain rfl : ad166 = ad168 := (by injection e168); have qi168 : (0 < t157.length) = True := eq_true (by omega); (try rw [show ((0 : Int)).toNat = 0 from rfl] at hx168_0); (try rw [show 0 * 4 = 0 from rfl] at hx168_0); (try rw [Addr.add_zero'] at hx168_0); (try rw [show ((0 : Int)).toNat = 0 from rfl] at hx168_1); (try rw [show 0 * 4 = 0 from rfl] at hx168_1); (try rw [Addr.add_zero'] at hx168_1); (try rw [show ((0 : Int)).toNat = 0 from rfl] at hx168_2); (try rw [show 0 * 4 = 0 from rfl] at hx168_2); (try rw [Addr.add_zero'] at hx168_2); (try rw [show ((0 : Int)).toNat = 0 from rfl] at hx168_3); (try rw [show 0 * 4 = 0 from rfl] at hx168_3); (try rw [Addr.add_zero'] at hx168_3); replace p168 := eq_true p168; replace q168 := eq_true q168; have p169 : 0 ≤ (0 : Int) := (by omega); have q169 : 0 < (t157.length : Int) := of_decide_eq_true (by first | (with_reducible assumption) | assumption); obtain ⟨ad169, e169, hx169_0, hx169_1, hx169_2, hx169_3⟩ := at_T30 (Kd.R_reads' HO161.out).2.2 0 p169 q169; obtain rfl : ad166 = ad169 := (by injection e169); have qi169 : (0 < t157.length) = True := eq_true (by omega); (try rw [show ((0 : Int)).toNat = 0 from rfl] at hx169_0); (try rw [show 0 * 4 = 0 from rfl] at hx169_0); (try rw [Addr.add_zero'] at hx169_0); (try rw [show ((0 : Int)).toNat = 0 from rfl] at hx169_1); (try rw [show 0 * 4 = 0 from rfl] at hx169_1); (try rw [Addr.add_zero'] at hx169_1); (try rw [show ((0 : Int)).toNat = 0 from rfl] at hx169_2); (try rw [show 0 * 4 = 0 from rfl] at hx169_2); (try rw [Addr.add_zero'] at hx169_2); (try rw [show ((0 : Int)).toNat = 0 from rfl] at hx169_3); (try rw [show 0 * 4 = 0 from rfl] at hx169_3); (try rw [Addr.add_zero'] at hx169_3); replace p169 := eq_true p169; replace q169 := eq_true q169))
                            go_ret
                            exact ⟨by first | rfl | (simp [errW_none, errW_some] <;> rfl) | (simp [*, errW_none, errW_some] <;> rfl), by repeat (first | (with_reducible first | exact HB.out | apply below_alloc | apply pw_below_drewN | apply below_drew1) | exact HB.out)⟩
                      · rw [if_neg c36] at H
                        exact absurd H (by simp)
                    · rw [if_neg c35] at H
                      exact absurd H (by simp)
                  · rw [if_neg c34] at H
                    exact absurd H (by simp)
                · rw [if_neg c33] at H
                  exact absurd H (by simp)
              · replace c32 := Bool.eq_false_iff.mpr c32
                subst c32
                have H1 : (none) = some r := by rw [if_neg (show ¬ (false = true) by decide)] at H; exact H
                clear H
                have H := H1
                clear H1
                exact absurd H (by simp)
        · rw [if_neg c12] at H
          exact absurd H (by simp)

/-- THE ONE PURE STATEMENT of spinneylaw05_TokenAtoms: yours. -/
def spinneylaw05_TokenAtoms.Pure : Prop := ∀ (a0 : ByteArray), a0.size ≤ 140737488351232 → ∃ k, spinneylaw05_TokenAtoms.f k a0 = some true
theorem spinneylaw05_TokenAtoms.walk (P : spinneylaw05_TokenAtoms.Pure) (a0 : ByteArray) (w : World) (w0 : a0.size ≤ 140737488351232) (hT : Tabs w) :
    Calls Tryd.prog 8 #[.string a0] w fun e w' => e = .returned (.bool true) ∧ Below w.heap.size w w' := by
  have HT := Aside0.mk hT
  clear hT
  obtain ⟨k, h⟩ := P a0 w0
  refine (spinneylaw05_TokenAtoms.calls k a0 true w h (HT.out.below (by first | exact Below.refl _ _ | (repeat (first | (with_reducible first | exact HB.out | apply below_alloc | apply pw_below_drewN | apply below_drew1) | exact HB.out))))).mono ?_
  rintro e w' ⟨rfl, hd⟩
  exact ⟨rfl, hd⟩

end Go.Proofs.YtjichkjnodabiaaDoor.P
