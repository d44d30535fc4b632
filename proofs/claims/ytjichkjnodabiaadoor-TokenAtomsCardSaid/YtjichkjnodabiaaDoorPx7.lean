-- PRINTED by a program of this session over the kit's print.py.
import Derived.Test.YtjichkjnodabiaaDoorPx0
import Derived.Test.YtjichkjnodabiaaDoorPx6
namespace Go.Proofs.YtjichkjnodabiaaDoor.P
open Go.Own Go.RowKit Go.Proofs.YtjichkjnodabiaaDoorW.PrintWords Go.Proofs.YtjichkjnodabiaaDoorW.PrintLast Go.Proofs.YtjichkjnodabiaaDoorW.PrintMore
attribute [local go_sem] max2_int min2_int max_two min_two max_three min_three max_four min_four   -- for this text's walks alone
set_option linter.unusedVariables false
set_option linter.unusedSimpArgs false

/-! ### spinneyref02_Bare: function 20 -/
mutual
def spinneyref02_Bare.j0 : Nat → ByteArray → Bool → Option (Bool)
  | 0, _, _ => none
  | k + 1, x0, x29 => if x29 = true then (some false) else (if x0.toList = ([91, 93] : List UInt8) then (spinneyref02_Bare.j1 k x0 true) else (if x0.toList = ([123, 125] : List UInt8) then (spinneyref02_Bare.j1 k x0 true) else (if x0.toList = ([33] : List UInt8) then (spinneyref02_Bare.j1 k x0 true) else (spinneyref02_Bare.j1 k x0 (x0.toList == ([59] : List UInt8))))))
def spinneyref02_Bare.j1 : Nat → ByteArray → Bool → Option (Bool)
  | 0, _, _ => none
  | k + 1, x0, x43 => if x43 = true then (some true) else ((spinneyref02_Runes.f k x0).bind fun t139 => (if 0 < (t139.length : Int) then ((spinneyref02_Class.f k (rd t139 0)).bind fun t143 => (spinneyref02_Bare.l0 k (t143 == 1) true t139 (t139.length : Int) 0)) else (none)))
def spinneyref02_Bare.l0 : Nat → Bool → Bool → List Int → Int → Int → Option (Bool)
  | 0, _, _, _, _, _ => none
  | k + 1, x4, x5, x51, x52, x53 => if x53 < x52 then (if 0 ≤ x53 then (if x53 < (x51.length : Int) then ((spinneyref02_Class.f k (rd x51 x53)).bind fun t145 => (if x4 = true then (if t145 = 1 then (if x5 = true then (spinneyref02_Bare.l0 k true (t145 == 4) x51 x52 (wrap64 (x53 + 1))) else (spinneyref02_Bare.l0 k true false x51 x52 (wrap64 (x53 + 1)))) else (if t145 = 2 then (if x5 = true then (spinneyref02_Bare.l0 k true (t145 == 4) x51 x52 (wrap64 (x53 + 1))) else (spinneyref02_Bare.l0 k true false x51 x52 (wrap64 (x53 + 1)))) else (if x5 = true then (spinneyref02_Bare.l0 k (t145 == 3) (t145 == 4) x51 x52 (wrap64 (x53 + 1))) else (spinneyref02_Bare.l0 k (t145 == 3) false x51 x52 (wrap64 (x53 + 1)))))) else (if x5 = true then (spinneyref02_Bare.l0 k false (t145 == 4) x51 x52 (wrap64 (x53 + 1))) else (spinneyref02_Bare.l0 k false false x51 x52 (wrap64 (x53 + 1)))))) else (none)) else (none)) else (if x4 = true then (some true) else (some x5))
end
def spinneyref02_Bare.f (k : Nat) (a0 : ByteArray) : Option (Bool) := (spinneyref02_Check.f a0).bind fun t138 => (if t138 = true then (if a0.toList = ([] : List UInt8) then (spinneyref02_Bare.j0 k a0 true) else (if a0.toList = ([46] : List UInt8) then (spinneyref02_Bare.j0 k a0 true) else (if (a0.size : Int) > 1 then (if 0 ≤ 2 then (if 2 ≤ (a0.size : Int) then (spinneyref02_Bare.j0 k a0 ((a0.extract 0 2).toList == ([47, 42] : List UInt8))) else (none)) else (none)) else (spinneyref02_Bare.j0 k a0 false)))) else (spinneyref02_Bare.j0 k a0 true))
theorem spinneyref02_Bare.mono_l : ∀ k, (∀ y0 y1, LeO (spinneyref02_Bare.j0 k y0 y1) (spinneyref02_Bare.j0 (k + 1) y0 y1)) ∧ (∀ y0 y1, LeO (spinneyref02_Bare.j1 k y0 y1) (spinneyref02_Bare.j1 (k + 1) y0 y1)) ∧ (∀ y0 y1 y2 y3 y4, LeO (spinneyref02_Bare.l0 k y0 y1 y2 y3 y4) (spinneyref02_Bare.l0 (k + 1) y0 y1 y2 y3 y4))
  | 0 => ⟨fun _ _ r h => by simp [spinneyref02_Bare.j0] at h, fun _ _ r h => by simp [spinneyref02_Bare.j1] at h, fun _ _ _ _ _ r h => by simp [spinneyref02_Bare.l0] at h⟩
  | k + 1 => by
    obtain ⟨ih0, ih1, ih2⟩ := spinneyref02_Bare.mono_l k
    refine ⟨?_, ?_, ?_⟩
    · intro y0 y1
      unfold spinneyref02_Bare.j0
      repeat' first
      | (with_reducible exact ih0 _ _)
      | (with_reducible exact ih1 _ _)
      | (with_reducible exact ih2 _ _ _ _ _)
      | (with_reducible exact spinneyref02_Class.mono _ _)
      | (with_reducible exact spinneyref02_Runes.mono _ _)
      | (with_reducible exact LeO.refl _)
      | (with_reducible exact LeO.none _)
      | (with_reducible refine LeO.ite ?_ ?_)
      | (with_reducible refine LeO.bind ?_ (fun _ => ?_))
      | exact ih0 _ _
      | exact ih1 _ _
      | exact ih2 _ _ _ _ _
      | exact spinneyref02_Class.mono _ _
      | exact spinneyref02_Runes.mono _ _
      | exact LeO.none _
      | refine LeO.ite ?_ ?_
      | refine LeO.bind ?_ (fun _ => ?_)
    · intro y0 y1
      unfold spinneyref02_Bare.j1
      repeat' first
      | (with_reducible exact ih0 _ _)
      | (with_reducible exact ih1 _ _)
      | (with_reducible exact ih2 _ _ _ _ _)
      | (with_reducible exact spinneyref02_Class.mono _ _)
      | (with_reducible exact spinneyref02_Runes.mono _ _)
      | (with_reducible exact LeO.refl _)
      | (with_reducible exact LeO.none _)
      | (with_reducible refine LeO.ite ?_ ?_)
      | (with_reducible refine LeO.bind ?_ (fun _ => ?_))
      | exact ih0 _ _
      | exact ih1 _ _
      | exact ih2 _ _ _ _ _
      | exact spinneyref02_Class.mono _ _
      | exact spinneyref02_Runes.mono _ _
      | exact LeO.none _
      | refine LeO.ite ?_ ?_
      | refine LeO.bind ?_ (fun _ => ?_)
    · intro y0 y1 y2 y3 y4
      unfold spinneyref02_Bare.l0
      repeat' first
      | (with_reducible exact ih0 _ _)
      | (with_reducible exact ih1 _ _)
      | (with_reducible exact ih2 _ _ _ _ _)
      | (with_reducible exact spinneyref02_Class.mono _ _)
      | (with_reducible exact spinneyref02_Runes.mono _ _)
      | (with_reducible exact LeO.refl _)
      | (with_reducible exact LeO.none _)
      | (with_reducible refine LeO.ite ?_ ?_)
      | (with_reducible refine LeO.bind ?_ (fun _ => ?_))
      | exact ih0 _ _
      | exact ih1 _ _
      | exact ih2 _ _ _ _ _
      | exact spinneyref02_Class.mono _ _
      | exact spinneyref02_Runes.mono _ _
      | exact LeO.none _
      | refine LeO.ite ?_ ?_
      | refine LeO.bind ?_ (fun _ => ?_)
theorem spinneyref02_Bare.mono : ∀ a0 k, LeO (spinneyref02_Bare.f k a0) (spinneyref02_Bare.f (k + 1) a0) := by
  intro a0 k
  obtain ⟨ih0, ih1, ih2⟩ := spinneyref02_Bare.mono_l k
  unfold spinneyref02_Bare.f
  repeat' first
      | (with_reducible exact ih0 _ _)
      | (with_reducible exact ih1 _ _)
      | (with_reducible exact ih2 _ _ _ _ _)
      | (with_reducible exact spinneyref02_Class.mono _ _)
      | (with_reducible exact spinneyref02_Runes.mono _ _)
      | (with_reducible exact LeO.refl _)
      | (with_reducible exact LeO.none _)
      | (with_reducible refine LeO.ite ?_ ?_)
      | (with_reducible refine LeO.bind ?_ (fun _ => ?_))
      | exact ih0 _ _
      | exact ih1 _ _
      | exact ih2 _ _ _ _ _
      | exact spinneyref02_Class.mono _ _
      | exact spinneyref02_Runes.mono _ _
      | exact LeO.none _
      | refine LeO.ite ?_ ?_
      | refine LeO.bind ?_ (fun _ => ?_)
set_option maxHeartbeats 8000000 in
set_option maxRecDepth 100000 in
theorem spinneyref02_Bare.calls (k : Nat) (a0 : ByteArray) (r : Bool) (w : World) (h : spinneyref02_Bare.f k a0 = some r) (hT : Tabs w) :
    Calls Tryd.prog 20 #[.string a0] w fun e w' => e = .returned (.bool r) ∧ Below w.heap.size w w' := by
  have HT := Aside0.mk hT
  clear hT
  have HB := Aside0.mk (Below.refl w.heap.size w)
  have H : ((spinneyref02_Check.f a0).bind fun t138 => (if t138 = true then (if a0.toList = ([] : List UInt8) then (spinneyref02_Bare.j0 k a0 true) else (if a0.toList = ([46] : List UInt8) then (spinneyref02_Bare.j0 k a0 true) else (if (a0.size : Int) > 1 then (if 0 ≤ 2 then (if 2 ≤ (a0.size : Int) then (spinneyref02_Bare.j0 k a0 ((a0.extract 0 2).toList == ([47, 42] : List UInt8))) else (none)) else (none)) else (spinneyref02_Bare.j0 k a0 false)))) else (spinneyref02_Bare.j0 k a0 true))) = some r := h
  clear h
  have HC2 := Aside0.mk H
  clear H
  go_enter Tryd.func20, Tryd.ntmps20
  go_upto_region 1 with (fail)
  go_cut [29] (fun v29 wc => ∃ (kq : Nat) (x29_1 : Bool), v29 = .bool x29_1 ∧ Aside0 (spinneyref02_Bare.j0 kq a0 x29_1 = some r) ∧ Aside0 (kq ≤ k) ∧ Aside0 (Below w.heap.size w wc))
  case first =>
    have H := HC2.out
    clear HC2
    replace H := Option.bind_eq_some_iff.mp H
    obtain ⟨t138, A30, H⟩ := H
    replace H : (if t138 = true then (if a0.toList = ([] : List UInt8) then (spinneyref02_Bare.j0 k a0 true) else (if a0.toList = ([46] : List UInt8) then (spinneyref02_Bare.j0 k a0 true) else (if (a0.size : Int) > 1 then (if 0 ≤ 2 then (if 2 ≤ (a0.size : Int) then (spinneyref02_Bare.j0 k a0 ((a0.extract 0 2).toList == ([47, 42] : List UInt8))) else (none)) else (none)) else (spinneyref02_Bare.j0 k a0 false)))) else (spinneyref02_Bare.j0 k a0 true)) = some r := H
    have A3 := Aside0.mk A30
    clear A30
    by_cases c4 : t138 = true
    · subst c4
      have H1 : (if a0.toList = ([] : List UInt8) then (spinneyref02_Bare.j0 k a0 true) else (if a0.toList = ([46] : List UInt8) then (spinneyref02_Bare.j0 k a0 true) else (if (a0.size : Int) > 1 then (if 0 ≤ 2 then (if 2 ≤ (a0.size : Int) then (spinneyref02_Bare.j0 k a0 ((a0.extract 0 2).toList == ([47, 42] : List UInt8))) else (none)) else (none)) else (spinneyref02_Bare.j0 k a0 false)))) = some r := by rw [if_pos rfl] at H; exact H
      clear H
      have H := H1
      clear H1
      by_cases c5 : a0.toList = ([] : List UInt8)
      · rw [if_pos c5] at H
        have c5b0 : (a0.toList == ([] : List UInt8)) = true := beq_iff_eq.mpr c5
        have c5b1 : (a0.toList != ([] : List UInt8)) = false := bne_eq_false_iff_eq.mpr c5
        clear c5
        (first | rw [c5b0] | (simp only [i64_w, i32_w]; rw [c5b0]) | skip)
        have H' := Aside0.mk H
        clear H
        go_wp2_with (first | ((with_reducible refine gate_callee (f := 14) rfl ?_); refine goesL_ (some 10) rfl rfl Tryd.func14 (by kernel_rfl) rfl #[.string a0] rfl (by (try simp only [List.map_toArray, List.map_cons, List.map_nil]); first | done | rfl | (simp only [List.length_drop, List.length_take]; rfl)) ?_; (with_reducible refine (spinneyref02_Check.calls a0 true _ A3.out (HT.out.below (by first | exact Below.refl _ _ | (repeat (first | (with_reducible first | exact HB.out | apply below_alloc | apply pw_below_drewN | apply below_drew1) | exact HB.out))))).mono ?_); rintro e w6 ⟨rfl, hb⟩; refine ⟨_, rfl, ?_⟩; have n0_ := Aside0.mk (below_step (by repeat (first | (with_reducible first | exact HB.out | apply below_alloc | apply pw_below_drewN | apply below_drew1) | exact HB.out)) hb); clear HB; have HB := n0_; clear n0_; (try clear hb); (try clear hb2); (try clear hk); (try clear hi)))
        go_meet
        case rel => exact ⟨_, (true), (by first | rfl | (simp; done) | (simp [*]; done)), H', ⟨by first | omega | exact Nat.le_refl _⟩, ⟨by repeat (first | (with_reducible first | exact HB.out | apply below_alloc | apply pw_below_drewN | apply below_drew1) | exact HB.out)⟩⟩
      · rw [if_neg c5] at H
        have c5b0 : (a0.toList == ([] : List UInt8)) = false := beq_eq_false_iff_ne.mpr c5
        have c5b1 : (a0.toList != ([] : List UInt8)) = true := bne_iff_ne.mpr c5
        (first | rw [c5b0] | (simp only [i64_w, i32_w]; rw [c5b0]) | skip)
        by_cases c7 : a0.toList = ([46] : List UInt8)
        · rw [if_pos c7] at H
          have c7b0 : (a0.toList == ([46] : List UInt8)) = true := beq_iff_eq.mpr c7
          have c7b1 : (a0.toList != ([46] : List UInt8)) = false := bne_eq_false_iff_eq.mpr c7
          clear c7
          have H' := Aside0.mk H
          clear H
          go_wp2_with (first | ((with_reducible refine gate_callee (f := 14) rfl ?_); refine goesL_ (some 10) rfl rfl Tryd.func14 (by kernel_rfl) rfl #[.string a0] rfl (by (try simp only [List.map_toArray, List.map_cons, List.map_nil]); first | done | rfl | (simp only [List.length_drop, List.length_take]; rfl)) ?_; (with_reducible refine (spinneyref02_Check.calls a0 true _ A3.out (HT.out.below (by first | exact Below.refl _ _ | (repeat (first | (with_reducible first | exact HB.out | apply below_alloc | apply pw_below_drewN | apply below_drew1) | exact HB.out))))).mono ?_); rintro e w8 ⟨rfl, hb⟩; refine ⟨_, rfl, ?_⟩; have n0_ := Aside0.mk (below_step (by repeat (first | (with_reducible first | exact HB.out | apply below_alloc | apply pw_below_drewN | apply below_drew1) | exact HB.out)) hb); clear HB; have HB := n0_; clear n0_; (try clear hb); (try clear hb2); (try clear hk); (try clear hi)))
          go_meet
          case rel => exact ⟨_, (true), (by first | rfl | (simp; done) | (simp [*]; done)), H', ⟨by first | omega | exact Nat.le_refl _⟩, ⟨by repeat (first | (with_reducible first | exact HB.out | apply below_alloc | apply pw_below_drewN | apply below_drew1) | exact HB.out)⟩⟩
        · rw [if_neg c7] at H
          have c7b0 : (a0.toList == ([46] : List UInt8)) = false := beq_eq_false_iff_ne.mpr c7
          have c7b1 : (a0.toList != ([46] : List UInt8)) = true := bne_iff_ne.mpr c7
          by_cases c9 : (a0.size : Int) > 1
          · rw [if_pos c9] at H
            have c9b0 : decide (1 < (a0.size : Int)) = true := decide_eq_true c9
            have c9b1 : decide (1 < a0.size) = true := decide_eq_true (by omega)
            clear c9
            by_cases c10 : 0 ≤ 2
            · rw [if_pos c10] at H
              have c10b0 := eq_true c10
              have c10b1 : decide (0 ≤ 2) = true := decide_eq_true c10
              clear c10
              by_cases c11 : 2 ≤ (a0.size : Int)
              · rw [if_pos c11] at H
                have c11b0 := eq_true c11
                have c11b1 : decide (2 ≤ (a0.size : Int)) = true := decide_eq_true c11
                clear c11
                have H' := Aside0.mk H
                clear H
                go_wp2_with (first | ((with_reducible refine gate_callee (f := 14) rfl ?_); refine goesL_ (some 10) rfl rfl Tryd.func14 (by kernel_rfl) rfl #[.string a0] rfl (by (try simp only [List.map_toArray, List.map_cons, List.map_nil]); first | done | rfl | (simp only [List.length_drop, List.length_take]; rfl)) ?_; (with_reducible refine (spinneyref02_Check.calls a0 true _ A3.out (HT.out.below (by first | exact Below.refl _ _ | (repeat (first | (with_reducible first | exact HB.out | apply below_alloc | apply pw_below_drewN | apply below_drew1) | exact HB.out))))).mono ?_); rintro e w12 ⟨rfl, hb⟩; refine ⟨_, rfl, ?_⟩; have n0_ := Aside0.mk (below_step (by repeat (first | (with_reducible first | exact HB.out | apply below_alloc | apply pw_below_drewN | apply below_drew1) | exact HB.out)) hb); clear HB; have HB := n0_; clear n0_; (try clear hb); (try clear hb2); (try clear hk); (try clear hi)))
                go_meet
                case rel => exact ⟨_, (((a0.extract 0 2).toList == ([47, 42] : List UInt8))), (by first | rfl | (simp; done) | (simp [*]; done)), H', ⟨by first | omega | exact Nat.le_refl _⟩, ⟨by repeat (first | (with_reducible first | exact HB.out | apply below_alloc | apply pw_below_drewN | apply below_drew1) | exact HB.out)⟩⟩
              · rw [if_neg c11] at H
                exact absurd H (by simp)
            · rw [if_neg c10] at H
              exact absurd H (by simp)
          · rw [if_neg c9] at H
            have c9b0 : decide (1 < (a0.size : Int)) = false := decide_eq_false c9
            have c9b1 : decide (1 < a0.size) = false := decide_eq_false (by omega)
            clear c9
            have H' := Aside0.mk H
            clear H
            go_wp2_with (first | ((with_reducible refine gate_callee (f := 14) rfl ?_); refine goesL_ (some 10) rfl rfl Tryd.func14 (by kernel_rfl) rfl #[.string a0] rfl (by (try simp only [List.map_toArray, List.map_cons, List.map_nil]); first | done | rfl | (simp only [List.length_drop, List.length_take]; rfl)) ?_; (with_reducible refine (spinneyref02_Check.calls a0 true _ A3.out (HT.out.below (by first | exact Below.refl _ _ | (repeat (first | (with_reducible first | exact HB.out | apply below_alloc | apply pw_below_drewN | apply below_drew1) | exact HB.out))))).mono ?_); rintro e w13 ⟨rfl, hb⟩; refine ⟨_, rfl, ?_⟩; have n0_ := Aside0.mk (below_step (by repeat (first | (with_reducible first | exact HB.out | apply below_alloc | apply pw_below_drewN | apply below_drew1) | exact HB.out)) hb); clear HB; have HB := n0_; clear n0_; (try clear hb); (try clear hb2); (try clear hk); (try clear hi)))
            go_meet
            case rel => exact ⟨_, (false), (by first | rfl | (simp; done) | (simp [*]; done)), H', ⟨by first | omega | exact Nat.le_refl _⟩, ⟨by repeat (first | (with_reducible first | exact HB.out | apply below_alloc | apply pw_below_drewN | apply below_drew1) | exact HB.out)⟩⟩
    · replace c4 := Bool.eq_false_iff.mpr c4
      subst c4
      have H1 : (spinneyref02_Bare.j0 k a0 true) = some r := by rw [if_neg (show ¬ (false = true) by decide)] at H; exact H
      clear H
      have H := H1
      clear H1
      have H' := Aside0.mk H
      clear H
      go_wp2_with (first | ((with_reducible refine gate_callee (f := 14) rfl ?_); refine goesL_ (some 10) rfl rfl Tryd.func14 (by kernel_rfl) rfl #[.string a0] rfl (by (try simp only [List.map_toArray, List.map_cons, List.map_nil]); first | done | rfl | (simp only [List.length_drop, List.length_take]; rfl)) ?_; (with_reducible refine (spinneyref02_Check.calls a0 false _ A3.out (HT.out.below (by first | exact Below.refl _ _ | (repeat (first | (with_reducible first | exact HB.out | apply below_alloc | apply pw_below_drewN | apply below_drew1) | exact HB.out))))).mono ?_); rintro e w14 ⟨rfl, hb⟩; refine ⟨_, rfl, ?_⟩; have n0_ := Aside0.mk (below_step (by repeat (first | (with_reducible first | exact HB.out | apply below_alloc | apply pw_below_drewN | apply below_drew1) | exact HB.out)) hb); clear HB; have HB := n0_; clear n0_; (try clear hb); (try clear hb2); (try clear hk); (try clear hi)))
      go_meet
      case rel => exact ⟨_, (true), (by first | rfl | (simp; done) | (simp [*]; done)), H', ⟨by first | omega | exact Nat.le_refl _⟩, ⟨by repeat (first | (with_reducible first | exact HB.out | apply below_alloc | apply pw_below_drewN | apply below_drew1) | exact HB.out)⟩⟩
  case rest =>
    clear HC2
    try clear c1
    try clear c2
    try clear p2
    try clear c4
    try clear c5
    try clear c5b0
    try clear c5b1
    try clear c7
    try clear c7b0
    try clear c7b1
    try clear c9
    try clear c9b0
    try clear c9b1
    try clear c10
    try clear c10b0
    try clear c10b1
    try clear c11
    try clear c11b0
    try clear c11b1
    try clear c14
    obtain ⟨kq, x29_1, rfl, HA, HJ1, HB⟩ := hcut
    cases kq with
    | zero => exact absurd HA.out (by simp [spinneyref02_Bare.j0])
    | succ kj1 =>
      have H := HA.out
      clear HA
      simp only [spinneyref02_Bare.j0] at H
      by_cases c15 : x29_1 = true
      · subst c15
        have H1 : (some false) = some r := by rw [if_pos rfl] at H; exact H
        clear H
        have H := H1
        clear H1
        obtain rfl := Option.some.inj H
        go_wp2
        go_ret
        exact ⟨by first | rfl | (simp [errW_none, errW_some] <;> rfl) | (simp [*, errW_none, errW_some] <;> rfl), by repeat (first | (with_reducible first | exact HB.out | apply below_alloc | apply pw_below_drewN | apply below_drew1) | exact HB.out)⟩
      · replace c15 := Bool.eq_false_iff.mpr c15
        subst c15
        have H1 : (if a0.toList = ([91, 93] : List UInt8) then (spinneyref02_Bare.j1 kj1 a0 true) else (if a0.toList = ([123, 125] : List UInt8) then (spinneyref02_Bare.j1 kj1 a0 true) else (if a0.toList = ([33] : List UInt8) then (spinneyref02_Bare.j1 kj1 a0 true) else (spinneyref02_Bare.j1 kj1 a0 (a0.toList == ([59] : List UInt8)))))) = some r := by rw [if_neg (show ¬ (false = true) by decide)] at H; exact H
        clear H
        have H := H1
        clear H1
        have HC16 := Aside0.mk H
        clear H
        go_upto_region 3 with (fail)
        go_cut [43] (fun v43 wc => ∃ (kq : Nat) (x43_15 : Bool), v43 = .bool x43_15 ∧ Aside0 (spinneyref02_Bare.j1 kq a0 x43_15 = some r) ∧ Aside0 (kq ≤ kj1) ∧ Aside0 (Below w.heap.size w wc))
        case first =>
          have H := HC16.out
          clear HC16
          by_cases c17 : a0.toList = ([91, 93] : List UInt8)
          · rw [if_pos c17] at H
            have c17b0 : (a0.toList == ([91, 93] : List UInt8)) = true := beq_iff_eq.mpr c17
            have c17b1 : (a0.toList != ([91, 93] : List UInt8)) = false := bne_eq_false_iff_eq.mpr c17
            clear c17
            (first | rw [c17b0] | (simp only [i64_w, i32_w]; rw [c17b0]) | skip)
            have H' := Aside0.mk H
            clear H
            go_wp2
            go_meet
            case rel => exact ⟨_, (true), (by first | rfl | (simp; done) | (simp [*]; done)), H', ⟨by have := HJ1.out; first | omega | exact Nat.le_refl _⟩, ⟨by repeat (first | (with_reducible first | exact HB.out | apply below_alloc | apply pw_below_drewN | apply below_drew1) | exact HB.out)⟩⟩
          · rw [if_neg c17] at H
            have c17b0 : (a0.toList == ([91, 93] : List UInt8)) = false := beq_eq_false_iff_ne.mpr c17
            have c17b1 : (a0.toList != ([91, 93] : List UInt8)) = true := bne_iff_ne.mpr c17
            (first | rw [c17b0] | (simp only [i64_w, i32_w]; rw [c17b0]) | skip)
            by_cases c18 : a0.toList = ([123, 125] : List UInt8)
            · rw [if_pos c18] at H
              have c18b0 : (a0.toList == ([123, 125] : List UInt8)) = true := beq_iff_eq.mpr c18
              have c18b1 : (a0.toList != ([123, 125] : List UInt8)) = false := bne_eq_false_iff_eq.mpr c18
              clear c18
              have H' := Aside0.mk H
              clear H
              go_wp2
              go_meet
              case rel => exact ⟨_, (true), (by first | rfl | (simp; done) | (simp [*]; done)), H', ⟨by have := HJ1.out; first | omega | exact Nat.le_refl _⟩, ⟨by repeat (first | (with_reducible first | exact HB.out | apply below_alloc | apply pw_below_drewN | apply below_drew1) | exact HB.out)⟩⟩
            · rw [if_neg c18] at H
              have c18b0 : (a0.toList == ([123, 125] : List UInt8)) = false := beq_eq_false_iff_ne.mpr c18
              have c18b1 : (a0.toList != ([123, 125] : List UInt8)) = true := bne_iff_ne.mpr c18
              by_cases c19 : a0.toList = ([33] : List UInt8)
              · rw [if_pos c19] at H
                have c19b0 : (a0.toList == ([33] : List UInt8)) = true := beq_iff_eq.mpr c19
                have c19b1 : (a0.toList != ([33] : List UInt8)) = false := bne_eq_false_iff_eq.mpr c19
                clear c19
                have H' := Aside0.mk H
                clear H
                go_wp2
                go_meet
                case rel => exact ⟨_, (true), (by first | rfl | (simp; done) | (simp [*]; done)), H', ⟨by have := HJ1.out; first | omega | exact Nat.le_refl _⟩, ⟨by repeat (first | (with_reducible first | exact HB.out | apply below_alloc | apply pw_below_drewN | apply below_drew1) | exact HB.out)⟩⟩
              · rw [if_neg c19] at H
                have c19b0 : (a0.toList == ([33] : List UInt8)) = false := beq_eq_false_iff_ne.mpr c19
                have c19b1 : (a0.toList != ([33] : List UInt8)) = true := bne_iff_ne.mpr c19
                have H' := Aside0.mk H
                clear H
                go_wp2
                go_meet
                case rel => exact ⟨_, ((a0.toList == ([59] : List UInt8))), (by first | rfl | (simp; done) | (simp [*]; done)), H', ⟨by have := HJ1.out; first | omega | exact Nat.le_refl _⟩, ⟨by repeat (first | (with_reducible first | exact HB.out | apply below_alloc | apply pw_below_drewN | apply below_drew1) | exact HB.out)⟩⟩
        case rest =>
          clear HC16
          try clear c1
          try clear c2
          try clear p2
          try clear c4
          try clear c5
          try clear c5b0
          try clear c5b1
          try clear c7
          try clear c7b0
          try clear c7b1
          try clear c9
          try clear c9b0
          try clear c9b1
          try clear c10
          try clear c10b0
          try clear c10b1
          try clear c11
          try clear c11b0
          try clear c11b1
          try clear c14
          try clear c15
          try clear c17
          try clear c17b0
          try clear c17b1
          try clear c18
          try clear c18b0
          try clear c18b1
          try clear c19
          try clear c19b0
          try clear c19b1
          try clear p2
          obtain ⟨kq, x43_15, rfl, HA, HJ15, HB⟩ := hcut
          cases kq with
          | zero => exact absurd HA.out (by simp [spinneyref02_Bare.j1])
          | succ kj15 =>
            have H := HA.out
            clear HA
            simp only [spinneyref02_Bare.j1] at H
            by_cases c20 : x43_15 = true
            · subst c20
              have H1 : (some true) = some r := by rw [if_pos rfl] at H; exact H
              clear H
              have H := H1
              clear H1
              obtain rfl := Option.some.inj H
              go_wp2
              go_ret
              exact ⟨by first | rfl | (simp [errW_none, errW_some] <;> rfl) | (simp [*, errW_none, errW_some] <;> rfl), by repeat (first | (with_reducible first | exact HB.out | apply below_alloc | apply pw_below_drewN | apply below_drew1) | exact HB.out)⟩
            · replace c20 := Bool.eq_false_iff.mpr c20
              subst c20
              have H1 : ((spinneyref02_Runes.f kj15 a0).bind fun t139 => (if 0 < (t139.length : Int) then ((spinneyref02_Class.f kj15 (rd t139 0)).bind fun t143 => (spinneyref02_Bare.l0 kj15 (t143 == 1) true t139 (t139.length : Int) 0)) else (none))) = some r := by rw [if_neg (show ¬ (false = true) by decide)] at H; exact H
              clear H
              have H := H1
              clear H1
              replace H := Option.bind_eq_some_iff.mp H
              obtain ⟨t139, A210, H⟩ := H
              replace H : (if 0 < (t139.length : Int) then ((spinneyref02_Class.f kj15 (rd t139 0)).bind fun t143 => (spinneyref02_Bare.l0 kj15 (t143 == 1) true t139 (t139.length : Int) 0)) else (none)) = some r := H
              have A21 := Aside0.mk A210
              clear A210
              by_cases c22 : 0 < (t139.length : Int)
              · rw [if_pos c22] at H
                have c22b0 : decide (0 < (t139.length : Int)) = true := decide_eq_true c22
                have c22b1 : decide (0 < t139.length) = true := decide_eq_true (by omega)
                clear c22
                replace H := Option.bind_eq_some_iff.mp H
                obtain ⟨t143, A230, H⟩ := H
                replace H : (spinneyref02_Bare.l0 kj15 (t143 == 1) true t139 (t139.length : Int) 0) = some r := H
                have A23 := Aside0.mk A230
                clear A230
                have H' := Aside0.mk H
                clear H
                go_wp2_with (first | ((with_reducible refine gate_callee (f := 21) rfl ?_); refine goesL_ (some 45) rfl rfl Tryd.func21 (by kernel_rfl) rfl #[.string a0] rfl (by (try simp only [List.map_toArray, List.map_cons, List.map_nil]); first | done | rfl | (simp only [List.length_drop, List.length_take]; rfl)) ?_; (with_reducible refine (spinneyref02_Runes.calls kj15 a0 t139 _ A21.out (HT.out.below (by first | exact Below.refl _ _ | (repeat (first | (with_reducible first | exact HB.out | apply below_alloc | apply pw_below_drewN | apply below_drew1) | exact HB.out))))).mono ?_); rintro e w24 ⟨v140, rfl, ho0, hb⟩; refine ⟨_, rfl, ?_⟩; have n0_ := Aside0.mk (Kd.R_lower ho0 (below_size (by repeat (first | (with_reducible first | exact HB.out | apply below_alloc | apply pw_below_drewN | apply below_drew1) | exact HB.out)))); have n1_ := Aside0.mk (below_step (by repeat (first | (with_reducible first | exact HB.out | apply below_alloc | apply pw_below_drewN | apply below_drew1) | exact HB.out)) hb); clear HB; have HO141 := n0_; have HB := n1_; clear n0_ n1_; (try clear hb); (try clear hb2); (try clear hk); (try clear hi); (try clear ho0); obtain ⟨Ao25, co25, eo25⟩ := Kd.R_slice HO141.out; subst eo25; have p142 : 0 ≤ (0 : Int) := (by omega); have q142 : 0 < (t139.length : Int) := of_decide_eq_true (by first | (with_reducible assumption) | assumption); obtain ⟨ad142, e142, hx142_0⟩ := Kd.at_int (Kd.R_reads' HO141.out).2.2 0 p142 q142; cases e142; have qi142 : (0 < t139.length) = True := eq_true (by omega); (try rw [show ((0 : Int)).toNat = 0 from rfl] at hx142_0); (try rw [Addr.add_zero'] at hx142_0); replace p142 := eq_true p142; replace q142 := eq_true q142) | ((with_reducible refine gate_callee (f := 42) rfl ?_); refine goesL_ (some 49) rfl rfl Tryd.func42 (by kernel_rfl) rfl #[.int .i32 (rd t139 0)] rfl (by (try simp only [List.map_toArray, List.map_cons, List.map_nil]); first | done | rfl | (simp only [List.length_drop, List.length_take]; rfl)) ?_; (with_reducible refine (spinneyref02_Class.calls kj15 (rd t139 0) t143 _ A23.out).mono ?_); rintro e w' ⟨rfl, ⟨nd, rfl⟩⟩; refine ⟨_, rfl, ?_⟩))
                go_loopg [4, 5, 53] kj15 (fun kq v4 v5 v53 w' => ∃ (x4_3 : Bool) (x5_3 : Bool) (x53_3 : Int), v4 = .bool x4_3 ∧ v5 = .bool x5_3 ∧ v53 = .int .i64 x53_3 ∧ Aside0 (spinneyref02_Bare.l0 kq x4_3 x5_3 t139 (t139.length : Int) x53_3 = some r) ∧ Aside0 (kq ≤ kj15) ∧ Aside0 (Kd.R (Kd.int .i32) 21 w' w.heap.size (fun _ => True) (.slice (some ad142) t139.length co25) t139) ∧ Aside0 (Below w.heap.size w w'))
                case atStart => exact ⟨((t143 == 1)), (true), (0), (by first | rfl | (simp; done) | (simp [*]; done)), (by first | rfl | (simp; done) | (simp [*]; done)), (by first | rfl | (simp; done) | (simp [*]; done)), H', ⟨Nat.le_refl _⟩, ⟨by (with_reducible repeat (first | apply Kd.R_alloc | apply Kd.R_drewN | apply Kd.R_drew)); exact HO141.out⟩, ⟨by repeat (first | (with_reducible first | exact HB.out | apply below_alloc | apply pw_below_drewN | apply below_drew1) | exact HB.out)⟩⟩
                case round =>
                  clear H'
                  try clear c1
                  try clear p1
                  try clear q1
                  try clear hx1
                  try clear qi1
                  try clear c2
                  try clear p2
                  try clear c4
                  try clear c5
                  try clear c5b0
                  try clear c5b1
                  try clear c7
                  try clear c7b0
                  try clear c7b1
                  try clear c9
                  try clear c9b0
                  try clear c9b1
                  try clear c10
                  try clear c10b0
                  try clear c10b1
                  try clear c11
                  try clear c11b0
                  try clear c11b1
                  try clear c14
                  try clear p14
                  try clear q14
                  try clear hx14
                  try clear qi14
                  try clear c15
                  try clear c17
                  try clear c17b0
                  try clear c17b1
                  try clear c18
                  try clear c18b0
                  try clear c18b1
                  try clear c19
                  try clear c19b0
                  try clear c19b1
                  try clear c20
                  try clear c21
                  try clear c22
                  try clear c22b0
                  try clear c22b1
                  try clear hx142_0
                  try clear p142
                  try clear p2
                  try clear q142
                  obtain ⟨x4_3, x5_3, x53_3, rfl, rfl, rfl, HA, HK3, HO_51, HB⟩ := hrel
                  cases gk with
                  | zero => exact absurd HA.out (by simp [spinneyref02_Bare.l0])
                  | succ k3 =>
                    have H := HA.out
                    clear HA
                    simp only [spinneyref02_Bare.l0] at H
                    by_cases c26 : x53_3 < (t139.length : Int)
                    · rw [if_pos c26] at H
                      have c26b0 : decide (x53_3 < (t139.length : Int)) = true := decide_eq_true c26
                      clear c26
                      by_cases c27 : 0 ≤ x53_3
                      · rw [if_pos c27] at H
                        have c27b0 : decide (0 ≤ x53_3) = true := decide_eq_true c27
                        clear c27
                        by_cases c28 : x53_3 < (t139.length : Int)
                        · rw [if_pos c28] at H
                          have c28b0 : decide (x53_3 < (t139.length : Int)) = true := decide_eq_true c28
                          clear c28
                          replace H := Option.bind_eq_some_iff.mp H
                          obtain ⟨t145, A290, H⟩ := H
                          replace H : (if x4_3 = true then (if t145 = 1 then (if x5_3 = true then (spinneyref02_Bare.l0 k3 true (t145 == 4) t139 (t139.length : Int) (wrap64 (x53_3 + 1))) else (spinneyref02_Bare.l0 k3 true false t139 (t139.length : Int) (wrap64 (x53_3 + 1)))) else (if t145 = 2 then (if x5_3 = true then (spinneyref02_Bare.l0 k3 true (t145 == 4) t139 (t139.length : Int) (wrap64 (x53_3 + 1))) else (spinneyref02_Bare.l0 k3 true false t139 (t139.length : Int) (wrap64 (x53_3 + 1)))) else (if x5_3 = true then (spinneyref02_Bare.l0 k3 (t145 == 3) (t145 == 4) t139 (t139.length : Int) (wrap64 (x53_3 + 1))) else (spinneyref02_Bare.l0 k3 (t145 == 3) false t139 (t139.length : Int) (wrap64 (x53_3 + 1)))))) else (if x5_3 = true then (spinneyref02_Bare.l0 k3 false (t145 == 4) t139 (t139.length : Int) (wrap64 (x53_3 + 1))) else (spinneyref02_Bare.l0 k3 false false t139 (t139.length : Int) (wrap64 (x53_3 + 1))))) = some r := H
                          have A29 := Aside0.mk A290
                          clear A290
                          by_cases c30 : x4_3 = true
                          · subst c30
                            have H1 : (if t145 = 1 then (if x5_3 = true then (spinneyref02_Bare.l0 k3 true (t145 == 4) t139 (t139.length : Int) (wrap64 (x53_3 + 1))) else (spinneyref02_Bare.l0 k3 true false t139 (t139.length : Int) (wrap64 (x53_3 + 1)))) else (if t145 = 2 then (if x5_3 = true then (spinneyref02_Bare.l0 k3 true (t145 == 4) t139 (t139.length : Int) (wrap64 (x53_3 + 1))) else (spinneyref02_Bare.l0 k3 true false t139 (t139.length : Int) (wrap64 (x53_3 + 1)))) else (if x5_3 = true then (spinneyref02_Bare.l0 k3 (t145 == 3) (t145 == 4) t139 (t139.length : Int) (wrap64 (x53_3 + 1))) else (spinneyref02_Bare.l0 k3 (t145 == 3) false t139 (t139.length : Int) (wrap64 (x53_3 + 1)))))) = some r := by rw [if_pos rfl] at H; exact H
                            clear H
                            have H := H1
                            clear H1
                            by_cases c31 : t145 = 1
                            · rw [if_pos c31] at H
                              have c31b0 : (t145 == 1) = true := beq_iff_eq.mpr c31
                              have c31b1 : (t145 != 1) = false := bne_eq_false_iff_eq.mpr c31
                              clear c31
                              by_cases c32 : x5_3 = true
                              · subst c32
                                have H1 : (spinneyref02_Bare.l0 k3 true (t145 == 4) t139 (t139.length : Int) (wrap64 (x53_3 + 1))) = some r := by rw [if_pos rfl] at H; exact H
                                clear H
                                have H := H1
                                clear H1
                                have H' := Aside0.mk H
                                clear H
                                have p144 : 0 ≤ (x53_3 : Int) := of_decide_eq_true (by first | (with_reducible assumption) | assumption)
                                have q144 : x53_3 < (t139.length : Int) := of_decide_eq_true (by first | (with_reducible assumption) | assumption)
                                obtain ⟨ad144, e144, hx144_0⟩ := Kd.at_int (Kd.R_reads' HO_51.out).2.2 x53_3 p144 q144
                                obtain rfl : ad142 = ad144 := (by injection e144)
                                replace p144 := eq_true p144
                                replace q144 := eq_true q144
                                go_wp2_with (first | ((with_reducible refine gate_callee (f := 42) rfl ?_); refine goesL_ (some 58) rfl rfl Tryd.func42 (by kernel_rfl) rfl #[.int .i32 (rd t139 x53_3)] rfl (by (try simp only [List.map_toArray, List.map_cons, List.map_nil]); first | done | rfl | (simp only [List.length_drop, List.length_take]; rfl)) ?_; (with_reducible refine (spinneyref02_Class.calls k3 (rd t139 x53_3) t145 _ A29.out).mono ?_); rintro e w' ⟨rfl, ⟨nd, rfl⟩⟩; refine ⟨_, rfl, ?_⟩))
                                go_roundg k3
                                case measure => have := HJ1.out; have := HJ15.out; have := HK3.out; omega
                                case rel => exact ⟨(true), ((t145 == 4)), (wrap64 (x53_3 + 1)), (by first | rfl | (simp; done) | (simp [*]; done)), (by first | rfl | (simp; done) | (simp [*]; done)), (by first | rfl | (simp; done) | (simp [*]; done)), H', ⟨by have := HJ1.out; have := HJ15.out; have := HK3.out; omega⟩, ⟨by (with_reducible repeat (first | apply Kd.R_alloc | apply Kd.R_drewN | apply Kd.R_drew)); exact HO_51.out⟩, ⟨by repeat (first | (with_reducible first | exact HB.out | apply below_alloc | apply pw_below_drewN | apply below_drew1) | exact HB.out)⟩⟩
                              · replace c32 := Bool.eq_false_iff.mpr c32
                                subst c32
                                have H1 : (spinneyref02_Bare.l0 k3 true false t139 (t139.length : Int) (wrap64 (x53_3 + 1))) = some r := by rw [if_neg (show ¬ (false = true) by decide)] at H; exact H
                                clear H
                                have H := H1
                                clear H1
                                have H' := Aside0.mk H
                                clear H
                                have p144 : 0 ≤ (x53_3 : Int) := of_decide_eq_true (by first | (with_reducible assumption) | assumption)
                                have q144 : x53_3 < (t139.length : Int) := of_decide_eq_true (by first | (with_reducible assumption) | assumption)
                                obtain ⟨ad144, e144, hx144_0⟩ := Kd.at_int (Kd.R_reads' HO_51.out).2.2 x53_3 p144 q144
                                obtain rfl : ad142 = ad144 := (by injection e144)
                                replace p144 := eq_true p144
                                replace q144 := eq_true q144
                                go_wp2_with (first | ((with_reducible refine gate_callee (f := 42) rfl ?_); refine goesL_ (some 58) rfl rfl Tryd.func42 (by kernel_rfl) rfl #[.int .i32 (rd t139 x53_3)] rfl (by (try simp only [List.map_toArray, List.map_cons, List.map_nil]); first | done | rfl | (simp only [List.length_drop, List.length_take]; rfl)) ?_; (with_reducible refine (spinneyref02_Class.calls k3 (rd t139 x53_3) t145 _ A29.out).mono ?_); rintro e w' ⟨rfl, ⟨nd, rfl⟩⟩; refine ⟨_, rfl, ?_⟩))
                                go_roundg k3
                                case measure => have := HJ1.out; have := HJ15.out; have := HK3.out; omega
                                case rel => exact ⟨(true), (false), (wrap64 (x53_3 + 1)), (by first | rfl | (simp; done) | (simp [*]; done)), (by first | rfl | (simp; done) | (simp [*]; done)), (by first | rfl | (simp; done) | (simp [*]; done)), H', ⟨by have := HJ1.out; have := HJ15.out; have := HK3.out; omega⟩, ⟨by (with_reducible repeat (first | apply Kd.R_alloc | apply Kd.R_drewN | apply Kd.R_drew)); exact HO_51.out⟩, ⟨by repeat (first | (with_reducible first | exact HB.out | apply below_alloc | apply pw_below_drewN | apply below_drew1) | exact HB.out)⟩⟩
                            · rw [if_neg c31] at H
                              have c31b0 : (t145 == 1) = false := beq_eq_false_iff_ne.mpr c31
                              have c31b1 : (t145 != 1) = true := bne_iff_ne.mpr c31
                              by_cases c33 : t145 = 2
                              · rw [if_pos c33] at H
                                have c33b0 : (t145 == 2) = true := beq_iff_eq.mpr c33
                                have c33b1 : (t145 != 2) = false := bne_eq_false_iff_eq.mpr c33
                                clear c33
                                by_cases c34 : x5_3 = true
                                · subst c34
                                  have H1 : (spinneyref02_Bare.l0 k3 true (t145 == 4) t139 (t139.length : Int) (wrap64 (x53_3 + 1))) = some r := by rw [if_pos rfl] at H; exact H
                                  clear H
                                  have H := H1
                                  clear H1
                                  have H' := Aside0.mk H
                                  clear H
                                  have p144 : 0 ≤ (x53_3 : Int) := of_decide_eq_true (by first | (with_reducible assumption) | assumption)
                                  have q144 : x53_3 < (t139.length : Int) := of_decide_eq_true (by first | (with_reducible assumption) | assumption)
                                  obtain ⟨ad144, e144, hx144_0⟩ := Kd.at_int (Kd.R_reads' HO_51.out).2.2 x53_3 p144 q144
                                  obtain rfl : ad142 = ad144 := (by injection e144)
                                  replace p144 := eq_true p144
                                  replace q144 := eq_true q144
                                  go_wp2_with (first | ((with_reducible refine gate_callee (f := 42) rfl ?_); refine goesL_ (some 58) rfl rfl Tryd.func42 (by kernel_rfl) rfl #[.int .i32 (rd t139 x53_3)] rfl (by (try simp only [List.map_toArray, List.map_cons, List.map_nil]); first | done | rfl | (simp only [List.length_drop, List.length_take]; rfl)) ?_; (with_reducible refine (spinneyref02_Class.calls k3 (rd t139 x53_3) t145 _ A29.out).mono ?_); rintro e w' ⟨rfl, ⟨nd, rfl⟩⟩; refine ⟨_, rfl, ?_⟩))
                                  go_roundg k3
                                  case measure => have := HJ1.out; have := HJ15.out; have := HK3.out; omega
                                  case rel => exact ⟨(true), ((t145 == 4)), (wrap64 (x53_3 + 1)), (by first | rfl | (simp; done) | (simp [*]; done)), (by first | rfl | (simp; done) | (simp [*]; done)), (by first | rfl | (simp; done) | (simp [*]; done)), H', ⟨by have := HJ1.out; have := HJ15.out; have := HK3.out; omega⟩, ⟨by (with_reducible repeat (first | apply Kd.R_alloc | apply Kd.R_drewN | apply Kd.R_drew)); exact HO_51.out⟩, ⟨by repeat (first | (with_reducible first | exact HB.out | apply below_alloc | apply pw_below_drewN | apply below_drew1) | exact HB.out)⟩⟩
                                · replace c34 := Bool.eq_false_iff.mpr c34
                                  subst c34
                                  have H1 : (spinneyref02_Bare.l0 k3 true false t139 (t139.length : Int) (wrap64 (x53_3 + 1))) = some r := by rw [if_neg (show ¬ (false = true) by decide)] at H; exact H
                                  clear H
                                  have H := H1
                                  clear H1
                                  have H' := Aside0.mk H
                                  clear H
                                  have p144 : 0 ≤ (x53_3 : Int) := of_decide_eq_true (by first | (with_reducible assumption) | assumption)
                                  have q144 : x53_3 < (t139.length : Int) := of_decide_eq_true (by first | (with_reducible assumption) | assumption)
                                  obtain ⟨ad144, e144, hx144_0⟩ := Kd.at_int (Kd.R_reads' HO_51.out).2.2 x53_3 p144 q144
                                  obtain rfl : ad142 = ad144 := (by injection e144)
                                  replace p144 := eq_true p144
                                  replace q144 := eq_true q144
                                  go_wp2_with (first | ((with_reducible refine gate_callee (f := 42) rfl ?_); refine goesL_ (some 58) rfl rfl Tryd.func42 (by kernel_rfl) rfl #[.int .i32 (rd t139 x53_3)] rfl (by (try simp only [List.map_toArray, List.map_cons, List.map_nil]); first | done | rfl | (simp only [List.length_drop, List.length_take]; rfl)) ?_; (with_reducible refine (spinneyref02_Class.calls k3 (rd t139 x53_3) t145 _ A29.out).mono ?_); rintro e w' ⟨rfl, ⟨nd, rfl⟩⟩; refine ⟨_, rfl, ?_⟩))
                                  go_roundg k3
                                  case measure => have := HJ1.out; have := HJ15.out; have := HK3.out; omega
                                  case rel => exact ⟨(true), (false), (wrap64 (x53_3 + 1)), (by first | rfl | (simp; done) | (simp [*]; done)), (by first | rfl | (simp; done) | (simp [*]; done)), (by first | rfl | (simp; done) | (simp [*]; done)), H', ⟨by have := HJ1.out; have := HJ15.out; have := HK3.out; omega⟩, ⟨by (with_reducible repeat (first | apply Kd.R_alloc | apply Kd.R_drewN | apply Kd.R_drew)); exact HO_51.out⟩, ⟨by repeat (first | (with_reducible first | exact HB.out | apply below_alloc | apply pw_below_drewN | apply below_drew1) | exact HB.out)⟩⟩
                              · rw [if_neg c33] at H
                                have c33b0 : (t145 == 2) = false := beq_eq_false_iff_ne.mpr c33
                                have c33b1 : (t145 != 2) = true := bne_iff_ne.mpr c33
                                by_cases c35 : x5_3 = true
                                · subst c35
                                  have H1 : (spinneyref02_Bare.l0 k3 (t145 == 3) (t145 == 4) t139 (t139.length : Int) (wrap64 (x53_3 + 1))) = some r := by rw [if_pos rfl] at H; exact H
                                  clear H
                                  have H := H1
                                  clear H1
                                  have H' := Aside0.mk H
                                  clear H
                                  have p144 : 0 ≤ (x53_3 : Int) := of_decide_eq_true (by first | (with_reducible assumption) | assumption)
                                  have q144 : x53_3 < (t139.length : Int) := of_decide_eq_true (by first | (with_reducible assumption) | assumption)
                                  obtain ⟨ad144, e144, hx144_0⟩ := Kd.at_int (Kd.R_reads' HO_51.out).2.2 x53_3 p144 q144
                                  obtain rfl : ad142 = ad144 := (by injection e144)
                                  replace p144 := eq_true p144
                                  replace q144 := eq_true q144
                                  go_wp2_with (first | ((with_reducible refine gate_callee (f := 42) rfl ?_); refine goesL_ (some 58) rfl rfl Tryd.func42 (by kernel_rfl) rfl #[.int .i32 (rd t139 x53_3)] rfl (by (try simp only [List.map_toArray, List.map_cons, List.map_nil]); first | done | rfl | (simp only [List.length_drop, List.length_take]; rfl)) ?_; (with_reducible refine (spinneyref02_Class.calls k3 (rd t139 x53_3) t145 _ A29.out).mono ?_); rintro e w' ⟨rfl, ⟨nd, rfl⟩⟩; refine ⟨_, rfl, ?_⟩))
                                  go_roundg k3
                                  case measure => have := HJ1.out; have := HJ15.out; have := HK3.out; omega
                                  case rel => exact ⟨((t145 == 3)), ((t145 == 4)), (wrap64 (x53_3 + 1)), (by first | rfl | (simp; done) | (simp [*]; done)), (by first | rfl | (simp; done) | (simp [*]; done)), (by first | rfl | (simp; done) | (simp [*]; done)), H', ⟨by have := HJ1.out; have := HJ15.out; have := HK3.out; omega⟩, ⟨by (with_reducible repeat (first | apply Kd.R_alloc | apply Kd.R_drewN | apply Kd.R_drew)); exact HO_51.out⟩, ⟨by repeat (first | (with_reducible first | exact HB.out | apply below_alloc | apply pw_below_drewN | apply below_drew1) | exact HB.out)⟩⟩
                                · replace c35 := Bool.eq_false_iff.mpr c35
                                  subst c35
                                  have H1 : (spinneyref02_Bare.l0 k3 (t145 == 3) false t139 (t139.length : Int) (wrap64 (x53_3 + 1))) = some r := by rw [if_neg (show ¬ (false = true) by decide)] at H; exact H
                                  clear H
                                  have H := H1
                                  clear H1
                                  have H' := Aside0.mk H
                                  clear H
                                  have p144 : 0 ≤ (x53_3 : Int) := of_decide_eq_true (by first | (with_reducible assumption) | assumption)
                                  have q144 : x53_3 < (t139.length : Int) := of_decide_eq_true (by first | (with_reducible assumption) | assumption)
                                  obtain ⟨ad144, e144, hx144_0⟩ := Kd.at_int (Kd.R_reads' HO_51.out).2.2 x53_3 p144 q144
                                  obtain rfl : ad142 = ad144 := (by injection e144)
                                  replace p144 := eq_true p144
                                  replace q144 := eq_true q144
                                  go_wp2_with (first | ((with_reducible refine gate_callee (f := 42) rfl ?_); refine goesL_ (some 58) rfl rfl Tryd.func42 (by kernel_rfl) rfl #[.int .i32 (rd t139 x53_3)] rfl (by (try simp only [List.map_toArray, List.map_cons, List.map_nil]); first | done | rfl | (simp only [List.length_drop, List.length_take]; rfl)) ?_; (with_reducible refine (spinneyref02_Class.calls k3 (rd t139 x53_3) t145 _ A29.out).mono ?_); rintro e w' ⟨rfl, ⟨nd, rfl⟩⟩; refine ⟨_, rfl, ?_⟩))
                                  go_roundg k3
                                  case measure => have := HJ1.out; have := HJ15.out; have := HK3.out; omega
                                  case rel => exact ⟨((t145 == 3)), (false), (wrap64 (x53_3 + 1)), (by first | rfl | (simp; done) | (simp [*]; done)), (by first | rfl | (simp; done) | (simp [*]; done)), (by first | rfl | (simp; done) | (simp [*]; done)), H', ⟨by have := HJ1.out; have := HJ15.out; have := HK3.out; omega⟩, ⟨by (with_reducible repeat (first | apply Kd.R_alloc | apply Kd.R_drewN | apply Kd.R_drew)); exact HO_51.out⟩, ⟨by repeat (first | (with_reducible first | exact HB.out | apply below_alloc | apply pw_below_drewN | apply below_drew1) | exact HB.out)⟩⟩
                          · replace c30 := Bool.eq_false_iff.mpr c30
                            subst c30
                            have H1 : (if x5_3 = true then (spinneyref02_Bare.l0 k3 false (t145 == 4) t139 (t139.length : Int) (wrap64 (x53_3 + 1))) else (spinneyref02_Bare.l0 k3 false false t139 (t139.length : Int) (wrap64 (x53_3 + 1)))) = some r := by rw [if_neg (show ¬ (false = true) by decide)] at H; exact H
                            clear H
                            have H := H1
                            clear H1
                            by_cases c36 : x5_3 = true
                            · subst c36
                              have H1 : (spinneyref02_Bare.l0 k3 false (t145 == 4) t139 (t139.length : Int) (wrap64 (x53_3 + 1))) = some r := by rw [if_pos rfl] at H; exact H
                              clear H
                              have H := H1
                              clear H1
                              have H' := Aside0.mk H
                              clear H
                              have p144 : 0 ≤ (x53_3 : Int) := of_decide_eq_true (by first | (with_reducible assumption) | assumption)
                              have q144 : x53_3 < (t139.length : Int) := of_decide_eq_true (by first | (with_reducible assumption) | assumption)
                              obtain ⟨ad144, e144, hx144_0⟩ := Kd.at_int (Kd.R_reads' HO_51.out).2.2 x53_3 p144 q144
                              obtain rfl : ad142 = ad144 := (by injection e144)
                              replace p144 := eq_true p144
                              replace q144 := eq_true q144
                              go_wp2_with (first | ((with_reducible refine gate_callee (f := 42) rfl ?_); refine goesL_ (some 58) rfl rfl Tryd.func42 (by kernel_rfl) rfl #[.int .i32 (rd t139 x53_3)] rfl (by (try simp only [List.map_toArray, List.map_cons, List.map_nil]); first | done | rfl | (simp only [List.length_drop, List.length_take]; rfl)) ?_; (with_reducible refine (spinneyref02_Class.calls k3 (rd t139 x53_3) t145 _ A29.out).mono ?_); rintro e w' ⟨rfl, ⟨nd, rfl⟩⟩; refine ⟨_, rfl, ?_⟩))
                              go_roundg k3
                              case measure => have := HJ1.out; have := HJ15.out; have := HK3.out; omega
                              case rel => exact ⟨(false), ((t145 == 4)), (wrap64 (x53_3 + 1)), (by first | rfl | (simp; done) | (simp [*]; done)), (by first | rfl | (simp; done) | (simp [*]; done)), (by first | rfl | (simp; done) | (simp [*]; done)), H', ⟨by have := HJ1.out; have := HJ15.out; have := HK3.out; omega⟩, ⟨by (with_reducible repeat (first | apply Kd.R_alloc | apply Kd.R_drewN | apply Kd.R_drew)); exact HO_51.out⟩, ⟨by repeat (first | (with_reducible first | exact HB.out | apply below_alloc | apply pw_below_drewN | apply below_drew1) | exact HB.out)⟩⟩
                            · replace c36 := Bool.eq_false_iff.mpr c36
                              subst c36
                              have H1 : (spinneyref02_Bare.l0 k3 false false t139 (t139.length : Int) (wrap64 (x53_3 + 1))) = some r := by rw [if_neg (show ¬ (false = true) by decide)] at H; exact H
                              clear H
                              have H := H1
                              clear H1
                              have H' := Aside0.mk H
                              clear H
                              have p144 : 0 ≤ (x53_3 : Int) := of_decide_eq_true (by first | (with_reducible assumption) | assumption)
                              have q144 : x53_3 < (t139.length : Int) := of_decide_eq_true (by first | (with_reducible assumption) | assumption)
                              obtain ⟨ad144, e144, hx144_0⟩ := Kd.at_int (Kd.R_reads' HO_51.out).2.2 x53_3 p144 q144
                              obtain rfl : ad142 = ad144 := (by injection e144)
                              replace p144 := eq_true p144
                              replace q144 := eq_true q144
                              go_wp2_with (first | ((with_reducible refine gate_callee (f := 42) rfl ?_); refine goesL_ (some 58) rfl rfl Tryd.func42 (by kernel_rfl) rfl #[.int .i32 (rd t139 x53_3)] rfl (by (try simp only [List.map_toArray, List.map_cons, List.map_nil]); first | done | rfl | (simp only [List.length_drop, List.length_take]; rfl)) ?_; (with_reducible refine (spinneyref02_Class.calls k3 (rd t139 x53_3) t145 _ A29.out).mono ?_); rintro e w' ⟨rfl, ⟨nd, rfl⟩⟩; refine ⟨_, rfl, ?_⟩))
                              go_roundg k3
                              case measure => have := HJ1.out; have := HJ15.out; have := HK3.out; omega
                              case rel => exact ⟨(false), (false), (wrap64 (x53_3 + 1)), (by first | rfl | (simp; done) | (simp [*]; done)), (by first | rfl | (simp; done) | (simp [*]; done)), (by first | rfl | (simp; done) | (simp [*]; done)), H', ⟨by have := HJ1.out; have := HJ15.out; have := HK3.out; omega⟩, ⟨by (with_reducible repeat (first | apply Kd.R_alloc | apply Kd.R_drewN | apply Kd.R_drew)); exact HO_51.out⟩, ⟨by repeat (first | (with_reducible first | exact HB.out | apply below_alloc | apply pw_below_drewN | apply below_drew1) | exact HB.out)⟩⟩
                        · rw [if_neg c28] at H
                          exact absurd H (by simp)
                      · rw [if_neg c27] at H
                        exact absurd H (by simp)
                    · rw [if_neg c26] at H
                      have c26b0 : decide (x53_3 < (t139.length : Int)) = false := decide_eq_false c26
                      clear c26
                      by_cases c37 : x4_3 = true
                      · subst c37
                        have H1 : (some true) = some r := by rw [if_pos rfl] at H; exact H
                        clear H
                        have H := H1
                        clear H1
                        obtain rfl := Option.some.inj H
                        go_wp2
                        go_ret
                        exact ⟨by first | rfl | (simp [errW_none, errW_some] <;> rfl) | (simp [*, errW_none, errW_some] <;> rfl), by repeat (first | (with_reducible first | exact HB.out | apply below_alloc | apply pw_below_drewN | apply below_drew1) | exact HB.out)⟩
                      · replace c37 := Bool.eq_false_iff.mpr c37
                        subst c37
                        have H1 : (some x5_3) = some r := by rw [if_neg (show ¬ (false = true) by decide)] at H; exact H
                        clear H
                        have H := H1
                        clear H1
                        obtain rfl := Option.some.inj H
                        go_wp2
                        go_ret
                        exact ⟨by first | rfl | (simp [errW_none, errW_some] <;> rfl) | (simp [*, errW_none, errW_some] <;> rfl), by repeat (first | (with_reducible first | exact HB.out | apply below_alloc | apply pw_below_drewN | apply below_drew1) | exact HB.out)⟩
              · rw [if_neg c22] at H
                exact absurd H (by simp)

/-! ### spinneyref02_hex: function 22 -/
def spinneyref02_hex.f : Nat → Int → Option (ByteArray)
  | 0, _ => none
  | k + 1, a0 => if 0 ≤ (Int.tmod a0 16) then (if (Int.tmod a0 16) ≤ (wrap32 ((Int.tmod a0 16) + 1)) then (if (wrap32 ((Int.tmod a0 16) + 1)) ≤ 16 then (if a0 < 16 then (some ((⟨#[48, 49, 50, 51, 52, 53, 54, 55, 56, 57, 97, 98, 99, 100, 101, 102]⟩ : ByteArray).extract ((Int.tmod a0 16) : Int).toNat ((wrap32 ((Int.tmod a0 16) + 1)) : Int).toNat)) else ((spinneyref02_hex.f k (wrap32 (Int.tdiv a0 16))).bind fun t146 => (if t146.size + ((⟨#[48, 49, 50, 51, 52, 53, 54, 55, 56, 57, 97, 98, 99, 100, 101, 102]⟩ : ByteArray).extract ((Int.tmod a0 16) : Int).toNat ((wrap32 ((Int.tmod a0 16) + 1)) : Int).toNat).size ≤ 9223372036854775807 then (some (t146 ++ ((⟨#[48, 49, 50, 51, 52, 53, 54, 55, 56, 57, 97, 98, 99, 100, 101, 102]⟩ : ByteArray).extract ((Int.tmod a0 16) : Int).toNat ((wrap32 ((Int.tmod a0 16) + 1)) : Int).toNat))) else (none)))) else (none)) else (none)) else (none)
theorem spinneyref02_hex.mono_l : ∀ k, (∀ y0, LeO (spinneyref02_hex.f k y0) (spinneyref02_hex.f (k + 1) y0))
  | 0 => fun _ r h => by simp [spinneyref02_hex.f] at h
  | k + 1 => by
    have ih0 := spinneyref02_hex.mono_l k
    · intro y0
      unfold spinneyref02_hex.f
      repeat' first
      | (with_reducible exact ih0 _)
      | (with_reducible exact LeO.refl _)
      | (with_reducible exact LeO.none _)
      | (with_reducible refine LeO.ite ?_ ?_)
      | (with_reducible refine LeO.bind ?_ (fun _ => ?_))
      | exact ih0 _
      | exact LeO.none _
      | refine LeO.ite ?_ ?_
      | refine LeO.bind ?_ (fun _ => ?_)
theorem spinneyref02_hex.mono : ∀ a0 k, LeO (spinneyref02_hex.f k a0) (spinneyref02_hex.f (k + 1) a0) := by
  intro a0 k
  have ih0 := spinneyref02_hex.mono_l k
  exact ih0 a0
set_option maxHeartbeats 8000000 in
set_option maxRecDepth 100000 in
theorem spinneyref02_hex.calls (k : Nat) : ∀ (a0 : Int) (r : ByteArray) (w : World) (h : spinneyref02_hex.f k a0 = some r),
    Calls Tryd.prog 22 #[.int .i32 a0] w fun e w' => e = .returned (.string r) ∧ Drawn0 w w' := by
  induction k using Nat.strongRecOn with
  | _ k ih =>
  intro a0 r w h
  cases k with
  | zero => exact absurd h (by simp [spinneyref02_hex.f])
  | succ k =>
  simp only [spinneyref02_hex.f] at h
  have H : (if 0 ≤ (Int.tmod a0 16) then (if (Int.tmod a0 16) ≤ (wrap32 ((Int.tmod a0 16) + 1)) then (if (wrap32 ((Int.tmod a0 16) + 1)) ≤ 16 then (if a0 < 16 then (some ((⟨#[48, 49, 50, 51, 52, 53, 54, 55, 56, 57, 97, 98, 99, 100, 101, 102]⟩ : ByteArray).extract ((Int.tmod a0 16) : Int).toNat ((wrap32 ((Int.tmod a0 16) + 1)) : Int).toNat)) else ((spinneyref02_hex.f k (wrap32 (Int.tdiv a0 16))).bind fun t146 => (if t146.size + ((⟨#[48, 49, 50, 51, 52, 53, 54, 55, 56, 57, 97, 98, 99, 100, 101, 102]⟩ : ByteArray).extract ((Int.tmod a0 16) : Int).toNat ((wrap32 ((Int.tmod a0 16) + 1)) : Int).toNat).size ≤ 9223372036854775807 then (some (t146 ++ ((⟨#[48, 49, 50, 51, 52, 53, 54, 55, 56, 57, 97, 98, 99, 100, 101, 102]⟩ : ByteArray).extract ((Int.tmod a0 16) : Int).toNat ((wrap32 ((Int.tmod a0 16) + 1)) : Int).toNat))) else (none)))) else (none)) else (none)) else (none)) = some r := h
  clear h
  obtain ⟨ji2, hji2⟩ : ∃ j_ : Int, (Int.tmod a0 16) = j_ := ⟨_, rfl⟩
  replace H : (if 0 ≤ (ji2) then (if (ji2) ≤ (wrap32 ((ji2) + 1)) then (if (wrap32 ((ji2) + 1)) ≤ 16 then (if a0 < 16 then (some ((⟨#[48, 49, 50, 51, 52, 53, 54, 55, 56, 57, 97, 98, 99, 100, 101, 102]⟩ : ByteArray).extract ((ji2) : Int).toNat ((wrap32 ((ji2) + 1)) : Int).toNat)) else ((spinneyref02_hex.f k (wrap32 (Int.tdiv a0 16))).bind fun t146 => (if t146.size + ((⟨#[48, 49, 50, 51, 52, 53, 54, 55, 56, 57, 97, 98, 99, 100, 101, 102]⟩ : ByteArray).extract ((ji2) : Int).toNat ((wrap32 ((ji2) + 1)) : Int).toNat).size ≤ 9223372036854775807 then (some (t146 ++ ((⟨#[48, 49, 50, 51, 52, 53, 54, 55, 56, 57, 97, 98, 99, 100, 101, 102]⟩ : ByteArray).extract ((ji2) : Int).toNat ((wrap32 ((ji2) + 1)) : Int).toNat))) else (none)))) else (none)) else (none)) else (none)) = some r := by first | (rw [hji2] at H; exact H) | (simp only [hji2] at H ⊢; exact H)
  by_cases c3 : 0 ≤ (ji2)
  · rw [if_pos c3] at H
    have c3b0 := eq_true c3
    have c3b1 : decide (0 ≤ (ji2)) = true := decide_eq_true c3
    clear c3
    by_cases c4 : (ji2) ≤ (wrap32 ((ji2) + 1))
    · rw [if_pos c4] at H
      have c4b0 := eq_true c4
      have c4b1 : decide ((ji2) ≤ (wrap32 ((ji2) + 1))) = true := decide_eq_true c4
      by_cases c5 : (wrap32 ((ji2) + 1)) ≤ 16
      · rw [if_pos c5] at H
        have c5b0 := eq_true c5
        have c5b1 : decide ((wrap32 ((ji2) + 1)) ≤ 16) = true := decide_eq_true c5
        by_cases c6 : a0 < 16
        · rw [if_pos c6] at H
          have c6b0 : decide (a0 < 16) = true := decide_eq_true c6
          clear c6
          obtain rfl := Option.some.inj H
          go_enter Tryd.func22, Tryd.ntmps22
          go_wp2
          go_ret
          exact ⟨by first | rfl | (simp; done) | (simp only [← hji2] <;> (first | rfl | simp)) | (simp [*]; done), by repeat (first | exact Drawn0.refl _ | apply Drawn0.step)⟩
        · rw [if_neg c6] at H
          have c6b0 : decide (a0 < 16) = false := decide_eq_false c6
          clear c6
          replace H := Option.bind_eq_some_iff.mp H
          obtain ⟨t146, A70, H⟩ := H
          replace H : (if t146.size + ((⟨#[48, 49, 50, 51, 52, 53, 54, 55, 56, 57, 97, 98, 99, 100, 101, 102]⟩ : ByteArray).extract ((ji2) : Int).toNat ((wrap32 ((ji2) + 1)) : Int).toNat).size ≤ 9223372036854775807 then (some (t146 ++ ((⟨#[48, 49, 50, 51, 52, 53, 54, 55, 56, 57, 97, 98, 99, 100, 101, 102]⟩ : ByteArray).extract ((ji2) : Int).toNat ((wrap32 ((ji2) + 1)) : Int).toNat))) else (none)) = some r := H
          have A7 := Aside0.mk A70
          clear A70
          by_cases c8 : t146.size + ((⟨#[48, 49, 50, 51, 52, 53, 54, 55, 56, 57, 97, 98, 99, 100, 101, 102]⟩ : ByteArray).extract ((ji2) : Int).toNat ((wrap32 ((ji2) + 1)) : Int).toNat).size ≤ 9223372036854775807
          · rw [if_pos c8] at H
            have c8b0 := eq_true c8
            have c8b1 : decide (t146.size + ((⟨#[48, 49, 50, 51, 52, 53, 54, 55, 56, 57, 97, 98, 99, 100, 101, 102]⟩ : ByteArray).extract ((ji2) : Int).toNat ((wrap32 ((ji2) + 1)) : Int).toNat).size ≤ 9223372036854775807) = true := decide_eq_true c8
            try have c8b2 : (9223372036854775807 < t146.size + ((⟨#[48, 49, 50, 51, 52, 53, 54, 55, 56, 57, 97, 98, 99, 100, 101, 102]⟩ : ByteArray).extract ((ji2) : Int).toNat ((wrap32 ((ji2) + 1)) : Int).toNat).size) = False := eq_false (Nat.not_lt.2 c8)
            obtain rfl := Option.some.inj H
            go_enter Tryd.func22, Tryd.ntmps22
            go_wp2_with (first | ((with_reducible refine gate_callee (f := 22) rfl ?_); refine goesL_ (some 17) rfl rfl Tryd.func22 (by kernel_rfl) rfl #[.int .i32 (wrap32 (Int.tdiv a0 16))] rfl (by (try simp only [List.map_toArray, List.map_cons, List.map_nil]); first | done | rfl | (simp only [List.length_drop, List.length_take]; rfl)) ?_; (with_reducible refine (ih k (by omega) (wrap32 (Int.tdiv a0 16)) t146 _ A7.out).mono ?_); rintro e w' ⟨rfl, ⟨nd, rfl⟩⟩; refine ⟨_, rfl, ?_⟩))
            go_ret
            exact ⟨by first | rfl | (simp; done) | (simp only [← hji2] <;> (first | rfl | simp)) | (simp [*]; done), by repeat (first | exact Drawn0.refl _ | apply Drawn0.step)⟩
          · rw [if_neg c8] at H
            exact absurd H (by simp)
      · rw [if_neg c5] at H
        exact absurd H (by simp)
    · rw [if_neg c4] at H
      exact absurd H (by simp)
  · rw [if_neg c3] at H
    exact absurd H (by simp)

end Go.Proofs.YtjichkjnodabiaaDoor.P
