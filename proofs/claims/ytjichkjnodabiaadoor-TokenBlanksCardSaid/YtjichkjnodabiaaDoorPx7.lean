-- PRINTED by a program of this session over the kit's print.py.
import Derived.Test.YtjichkjnodabiaaDoorPx0
import Derived.Test.YtjichkjnodabiaaDoorPx1
import Derived.Test.YtjichkjnodabiaaDoorPx5
import Derived.Test.YtjichkjnodabiaaDoorPx6
namespace Go.Proofs.YtjichkjnodabiaaDoor.P
open Go.Own Go.RowKit Go.Proofs.YtjichkjnodabiaaDoorW.PrintWords Go.Proofs.YtjichkjnodabiaaDoorW.PrintLast Go.Proofs.YtjichkjnodabiaaDoorW.PrintMore
attribute [local go_sem] max2_int min2_int max_two min_two max_three min_three max_four min_four   -- for this text's walks alone
set_option linter.unusedVariables false
set_option linter.unusedSimpArgs false

attribute [local go_sem high] eqA30
/-! ### spinneylaw05_TokenPlaces: function 4 -/
mutual
def spinneylaw05_TokenPlaces.j0 : Nat → ByteArray → Int → Bool → List (S30) → Bool → Option (Bool)
  | 0, _, _, _, _, _ => none
  | k + 1, x0, x1, x5, x6, x45 => if x45 = true then (none) else (spinneylaw05_TokenPlaces.l0 k x0 x1 x5 x6 1)
def spinneylaw05_TokenPlaces.l0 : Nat → ByteArray → Int → Bool → List (S30) → Int → Option (Bool)
  | 0, _, _, _, _, _ => none
  | k + 1, x0, x1, x5, x6, x9 => if x9 < (x6.length : Int) then (if 0 ≤ (wrap64 (x9 - 1)) then (if (wrap64 (x9 - 1)) < (x6.length : Int) then (if 0 ≤ x9 then (if ((rd_T30 x6 (wrap64 (x9 - 1))).f3) ≥ ((rd_T30 x6 x9).f3) then (if ((rd_T30 x6 x9).f0) = 9 then (if ((rd_T30 x6 (wrap64 (x9 - 1))).f3) > ((rd_T30 x6 x9).f3) then (none) else (spinneylaw05_TokenPlaces.l0 k x0 x1 x5 x6 (wrap64 (x9 + 1)))) else (none)) else (spinneylaw05_TokenPlaces.l0 k x0 x1 x5 x6 (wrap64 (x9 + 1)))) else (none)) else (none)) else (none)) else (if (x6.length : Int) = 0 then (none) else (if 0 ≤ (Int.tmod (wrap64 ((Int.tmod x1 (x6.length : Int)) + (x6.length : Int))) (x6.length : Int)) then (if (Int.tmod (wrap64 ((Int.tmod x1 (x6.length : Int)) + (x6.length : Int))) (x6.length : Int)) < (x6.length : Int) then (if 0 ≤ ((rd_T30 x6 (Int.tmod (wrap64 ((Int.tmod x1 (x6.length : Int)) + (x6.length : Int))) (x6.length : Int))).f3) then (if ((rd_T30 x6 (Int.tmod (wrap64 ((Int.tmod x1 (x6.length : Int)) + (x6.length : Int))) (x6.length : Int))).f3) ≤ (x0.size : Int) then ((token_Cut.f (x0.extract (((rd_T30 x6 (Int.tmod (wrap64 ((Int.tmod x1 (x6.length : Int)) + (x6.length : Int))) (x6.length : Int))).f3) : Int).toNat x0.size)).bind fun bt150 => (if bt150.2.2 = 0 then (spinneylaw05_TokenPlaces.j2 k (Int.tmod (wrap64 ((Int.tmod x1 (x6.length : Int)) + (x6.length : Int))) (x6.length : Int)) x5 x6 ((rd_T30 x6 (Int.tmod (wrap64 ((Int.tmod x1 (x6.length : Int)) + (x6.length : Int))) (x6.length : Int))).f3) bt150.1 ((bt150.1.length : Int) != (wrap64 ((x6.length : Int) - (Int.tmod (wrap64 ((Int.tmod x1 (x6.length : Int)) + (x6.length : Int))) (x6.length : Int)))))) else (spinneylaw05_TokenPlaces.j2 k (Int.tmod (wrap64 ((Int.tmod x1 (x6.length : Int)) + (x6.length : Int))) (x6.length : Int)) x5 x6 ((rd_T30 x6 (Int.tmod (wrap64 ((Int.tmod x1 (x6.length : Int)) + (x6.length : Int))) (x6.length : Int))).f3) bt150.1 true))) else (none)) else (none)) else (none)) else (none)))
def spinneylaw05_TokenPlaces.j2 : Nat → Int → Bool → List (S30) → Int → List (S30) → Bool → Option (Bool)
  | 0, _, _, _, _, _, _ => none
  | k + 1, x1, x5, x6, x10, x11, x119 => if x119 = true then (none) else (spinneylaw05_TokenPlaces.l1 k x1 x5 x6 x10 x11 (x11.length : Int) 0)
def spinneylaw05_TokenPlaces.l1 : Nat → Int → Bool → List (S30) → Int → List (S30) → Int → Int → Option (Bool)
  | 0, _, _, _, _, _, _, _ => none
  | k + 1, x1, x5, x6, x10, x120, x121, x122 => if x122 < x121 then (if 0 ≤ x122 then (if x122 < (x120.length : Int) then (if x122 = 0 then (if 0 ≤ x1 then (if x1 < (x6.length : Int) then (if ((rd_T30 x6 x1).f0) = 7 then (spinneylaw05_TokenPlaces.j4 k x1 x5 x6 x10 x122 x120 x121 x122 (((rd_T30 x120 x122).f0) == 6) ((rd_T30 x120 x122).f0) ((rd_T30 x120 x122).f1) ((rd_T30 x120 x122).f2) (wrap64 (((rd_T30 x120 x122).f3) + x10))) else (spinneylaw05_TokenPlaces.j4 k x1 x5 x6 x10 x122 x120 x121 x122 false ((rd_T30 x120 x122).f0) ((rd_T30 x120 x122).f1) ((rd_T30 x120 x122).f2) (wrap64 (((rd_T30 x120 x122).f3) + x10)))) else (none)) else (none)) else (spinneylaw05_TokenPlaces.j4 k x1 x5 x6 x10 x122 x120 x121 x122 false ((rd_T30 x120 x122).f0) ((rd_T30 x120 x122).f1) ((rd_T30 x120 x122).f2) (wrap64 (((rd_T30 x120 x122).f3) + x10)))) else (none)) else (none)) else (some x5)
def spinneylaw05_TokenPlaces.j4 : Nat → Int → Bool → List (S30) → Int → Int → List (S30) → Int → Int → Bool → Int → ByteArray → Int → Int → Option (Bool)
  | 0, _, _, _, _, _, _, _, _, _, _, _, _, _ => none
  | k + 1, x1, x5, x6, x10, x14, x120, x121, x122, x146, x157000, x157001, x157002, x157003 => if x146 = true then (if 0 ≤ (wrap64 (x1 + x14)) then (if (wrap64 (x1 + x14)) < (x6.length : Int) then (if (!(7 == ((rd_T30 x6 (wrap64 (x1 + x14))).f0)) || (!(x157001.toList == (((rd_T30 x6 (wrap64 (x1 + x14))).f1).toList)) || (!(x157002 == ((rd_T30 x6 (wrap64 (x1 + x14))).f2)) || (!(x157003 == ((rd_T30 x6 (wrap64 (x1 + x14))).f3)))))) = true then (none) else (spinneylaw05_TokenPlaces.l1 k x1 x5 x6 x10 x120 x121 (wrap64 (x122 + 1)))) else (none)) else (none)) else (if 0 ≤ (wrap64 (x1 + x14)) then (if (wrap64 (x1 + x14)) < (x6.length : Int) then (if (!(x157000 == ((rd_T30 x6 (wrap64 (x1 + x14))).f0)) || (!(x157001.toList == (((rd_T30 x6 (wrap64 (x1 + x14))).f1).toList)) || (!(x157002 == ((rd_T30 x6 (wrap64 (x1 + x14))).f2)) || (!(x157003 == ((rd_T30 x6 (wrap64 (x1 + x14))).f3)))))) = true then (none) else (spinneylaw05_TokenPlaces.l1 k x1 x5 x6 x10 x120 x121 (wrap64 (x122 + 1)))) else (none)) else (none))
end
def spinneylaw05_TokenPlaces.f (k : Nat) (a0 : ByteArray) (a1 : Int) : Option (Bool) := (spinneylaw05_live.f).bind fun t137 => ((token_Cut.f a0).bind fun bt138 => (if bt138.2.2 = 0 then (if (bt138.1.length : Int) = 0 then (spinneylaw05_TokenPlaces.j0 k a0 a1 t137 bt138.1 true) else (if 0 ≤ (wrap64 ((bt138.1.length : Int) - 1)) then (if (wrap64 ((bt138.1.length : Int) - 1)) < (bt138.1.length : Int) then (spinneylaw05_TokenPlaces.j0 k a0 a1 t137 bt138.1 (!(((rd_T30 bt138.1 (wrap64 ((bt138.1.length : Int) - 1))).f0) == 9) || (!((((rd_T30 bt138.1 (wrap64 ((bt138.1.length : Int) - 1))).f1).toList) == ([] : List UInt8)) || (!(((rd_T30 bt138.1 (wrap64 ((bt138.1.length : Int) - 1))).f2) == 0) || (!(((rd_T30 bt138.1 (wrap64 ((bt138.1.length : Int) - 1))).f3) == (a0.size : Int))))))) else (none)) else (none))) else (if t137 = true then (some ((bt138.1.length : Int) == 0)) else (none))))
theorem spinneylaw05_TokenPlaces.mono_l : ∀ k, (∀ y0 y1 y2 y3 y4, LeO (spinneylaw05_TokenPlaces.j0 k y0 y1 y2 y3 y4) (spinneylaw05_TokenPlaces.j0 (k + 1) y0 y1 y2 y3 y4)) ∧ (∀ y0 y1 y2 y3 y4, LeO (spinneylaw05_TokenPlaces.l0 k y0 y1 y2 y3 y4) (spinneylaw05_TokenPlaces.l0 (k + 1) y0 y1 y2 y3 y4)) ∧ (∀ y0 y1 y2 y3 y4 y5, LeO (spinneylaw05_TokenPlaces.j2 k y0 y1 y2 y3 y4 y5) (spinneylaw05_TokenPlaces.j2 (k + 1) y0 y1 y2 y3 y4 y5)) ∧ (∀ y0 y1 y2 y3 y4 y5 y6, LeO (spinneylaw05_TokenPlaces.l1 k y0 y1 y2 y3 y4 y5 y6) (spinneylaw05_TokenPlaces.l1 (k + 1) y0 y1 y2 y3 y4 y5 y6)) ∧ (∀ y0 y1 y2 y3 y4 y5 y6 y7 y8 y9 y10 y11 y12, LeO (spinneylaw05_TokenPlaces.j4 k y0 y1 y2 y3 y4 y5 y6 y7 y8 y9 y10 y11 y12) (spinneylaw05_TokenPlaces.j4 (k + 1) y0 y1 y2 y3 y4 y5 y6 y7 y8 y9 y10 y11 y12))
  | 0 => ⟨fun _ _ _ _ _ r h => by simp [spinneylaw05_TokenPlaces.j0] at h, fun _ _ _ _ _ r h => by simp [spinneylaw05_TokenPlaces.l0] at h, fun _ _ _ _ _ _ r h => by simp [spinneylaw05_TokenPlaces.j2] at h, fun _ _ _ _ _ _ _ r h => by simp [spinneylaw05_TokenPlaces.l1] at h, fun _ _ _ _ _ _ _ _ _ _ _ _ _ r h => by simp [spinneylaw05_TokenPlaces.j4] at h⟩
  | k + 1 => by
    obtain ⟨ih0, ih1, ih2, ih3, ih4⟩ := spinneylaw05_TokenPlaces.mono_l k
    refine ⟨?_, ?_, ?_, ?_, ?_⟩
    · intro y0 y1 y2 y3 y4
      unfold spinneylaw05_TokenPlaces.j0
      repeat' first
      | (with_reducible exact ih0 _ _ _ _ _)
      | (with_reducible exact ih1 _ _ _ _ _)
      | (with_reducible exact ih2 _ _ _ _ _ _)
      | (with_reducible exact ih3 _ _ _ _ _ _ _)
      | (with_reducible exact ih4 _ _ _ _ _ _ _ _ _ _ _ _ _)
      | (with_reducible exact LeO.refl _)
      | (with_reducible exact LeO.none _)
      | (with_reducible refine LeO.ite ?_ ?_)
      | (with_reducible refine LeO.bind ?_ (fun _ => ?_))
      | exact ih0 _ _ _ _ _
      | exact ih1 _ _ _ _ _
      | exact ih2 _ _ _ _ _ _
      | exact ih3 _ _ _ _ _ _ _
      | exact ih4 _ _ _ _ _ _ _ _ _ _ _ _ _
      | exact LeO.none _
      | refine LeO.ite ?_ ?_
      | refine LeO.bind ?_ (fun _ => ?_)
    · intro y0 y1 y2 y3 y4
      unfold spinneylaw05_TokenPlaces.l0
      repeat' first
      | (with_reducible exact ih0 _ _ _ _ _)
      | (with_reducible exact ih1 _ _ _ _ _)
      | (with_reducible exact ih2 _ _ _ _ _ _)
      | (with_reducible exact ih3 _ _ _ _ _ _ _)
      | (with_reducible exact ih4 _ _ _ _ _ _ _ _ _ _ _ _ _)
      | (with_reducible exact LeO.refl _)
      | (with_reducible exact LeO.none _)
      | (with_reducible refine LeO.ite ?_ ?_)
      | (with_reducible refine LeO.bind ?_ (fun _ => ?_))
      | exact ih0 _ _ _ _ _
      | exact ih1 _ _ _ _ _
      | exact ih2 _ _ _ _ _ _
      | exact ih3 _ _ _ _ _ _ _
      | exact ih4 _ _ _ _ _ _ _ _ _ _ _ _ _
      | exact LeO.none _
      | refine LeO.ite ?_ ?_
      | refine LeO.bind ?_ (fun _ => ?_)
    · intro y0 y1 y2 y3 y4 y5
      unfold spinneylaw05_TokenPlaces.j2
      repeat' first
      | (with_reducible exact ih0 _ _ _ _ _)
      | (with_reducible exact ih1 _ _ _ _ _)
      | (with_reducible exact ih2 _ _ _ _ _ _)
      | (with_reducible exact ih3 _ _ _ _ _ _ _)
      | (with_reducible exact ih4 _ _ _ _ _ _ _ _ _ _ _ _ _)
      | (with_reducible exact LeO.refl _)
      | (with_reducible exact LeO.none _)
      | (with_reducible refine LeO.ite ?_ ?_)
      | (with_reducible refine LeO.bind ?_ (fun _ => ?_))
      | exact ih0 _ _ _ _ _
      | exact ih1 _ _ _ _ _
      | exact ih2 _ _ _ _ _ _
      | exact ih3 _ _ _ _ _ _ _
      | exact ih4 _ _ _ _ _ _ _ _ _ _ _ _ _
      | exact LeO.none _
      | refine LeO.ite ?_ ?_
      | refine LeO.bind ?_ (fun _ => ?_)
    · intro y0 y1 y2 y3 y4 y5 y6
      unfold spinneylaw05_TokenPlaces.l1
      repeat' first
      | (with_reducible exact ih0 _ _ _ _ _)
      | (with_reducible exact ih1 _ _ _ _ _)
      | (with_reducible exact ih2 _ _ _ _ _ _)
      | (with_reducible exact ih3 _ _ _ _ _ _ _)
      | (with_reducible exact ih4 _ _ _ _ _ _ _ _ _ _ _ _ _)
      | (with_reducible exact LeO.refl _)
      | (with_reducible exact LeO.none _)
      | (with_reducible refine LeO.ite ?_ ?_)
      | (with_reducible refine LeO.bind ?_ (fun _ => ?_))
      | exact ih0 _ _ _ _ _
      | exact ih1 _ _ _ _ _
      | exact ih2 _ _ _ _ _ _
      | exact ih3 _ _ _ _ _ _ _
      | exact ih4 _ _ _ _ _ _ _ _ _ _ _ _ _
      | exact LeO.none _
      | refine LeO.ite ?_ ?_
      | refine LeO.bind ?_ (fun _ => ?_)
    · intro y0 y1 y2 y3 y4 y5 y6 y7 y8 y9 y10 y11 y12
      unfold spinneylaw05_TokenPlaces.j4
      repeat' first
      | (with_reducible exact ih0 _ _ _ _ _)
      | (with_reducible exact ih1 _ _ _ _ _)
      | (with_reducible exact ih2 _ _ _ _ _ _)
      | (with_reducible exact ih3 _ _ _ _ _ _ _)
      | (with_reducible exact ih4 _ _ _ _ _ _ _ _ _ _ _ _ _)
      | (with_reducible exact LeO.refl _)
      | (with_reducible exact LeO.none _)
      | (with_reducible refine LeO.ite ?_ ?_)
      | (with_reducible refine LeO.bind ?_ (fun _ => ?_))
      | exact ih0 _ _ _ _ _
      | exact ih1 _ _ _ _ _
      | exact ih2 _ _ _ _ _ _
      | exact ih3 _ _ _ _ _ _ _
      | exact ih4 _ _ _ _ _ _ _ _ _ _ _ _ _
      | exact LeO.none _
      | refine LeO.ite ?_ ?_
      | refine LeO.bind ?_ (fun _ => ?_)
theorem spinneylaw05_TokenPlaces.mono : ∀ a0 a1 k, LeO (spinneylaw05_TokenPlaces.f k a0 a1) (spinneylaw05_TokenPlaces.f (k + 1) a0 a1) := by
  intro a0 a1 k
  obtain ⟨ih0, ih1, ih2, ih3, ih4⟩ := spinneylaw05_TokenPlaces.mono_l k
  unfold spinneylaw05_TokenPlaces.f
  repeat' first
      | (with_reducible exact ih0 _ _ _ _ _)
      | (with_reducible exact ih1 _ _ _ _ _)
      | (with_reducible exact ih2 _ _ _ _ _ _)
      | (with_reducible exact ih3 _ _ _ _ _ _ _)
      | (with_reducible exact ih4 _ _ _ _ _ _ _ _ _ _ _ _ _)
      | (with_reducible exact LeO.refl _)
      | (with_reducible exact LeO.none _)
      | (with_reducible refine LeO.ite ?_ ?_)
      | (with_reducible refine LeO.bind ?_ (fun _ => ?_))
      | exact ih0 _ _ _ _ _
      | exact ih1 _ _ _ _ _
      | exact ih2 _ _ _ _ _ _
      | exact ih3 _ _ _ _ _ _ _
      | exact ih4 _ _ _ _ _ _ _ _ _ _ _ _ _
      | exact LeO.none _
      | refine LeO.ite ?_ ?_
      | refine LeO.bind ?_ (fun _ => ?_)
set_option maxHeartbeats 8000000 in
set_option maxRecDepth 100000 in
theorem spinneylaw05_TokenPlaces.calls (k : Nat) (a0 : ByteArray) (a1 : Int) (r : Bool) (w : World) (h : spinneylaw05_TokenPlaces.f k a0 a1 = some r) (hT : Tabs w) :
    Calls Tryd.prog 4 #[.string a0, .int .i64 a1] w fun e w' => e = .returned (.bool r) ∧ Below w.heap.size w w' := by
  have HT := Aside0.mk hT
  clear hT
  have hu30 := Tryd.underlying30
  have HB := Aside0.mk (Below.refl w.heap.size w)
  have H : ((spinneylaw05_live.f).bind fun t137 => ((token_Cut.f a0).bind fun bt138 => (if bt138.2.2 = 0 then (if (bt138.1.length : Int) = 0 then (spinneylaw05_TokenPlaces.j0 k a0 a1 t137 bt138.1 true) else (if 0 ≤ (wrap64 ((bt138.1.length : Int) - 1)) then (if (wrap64 ((bt138.1.length : Int) - 1)) < (bt138.1.length : Int) then (spinneylaw05_TokenPlaces.j0 k a0 a1 t137 bt138.1 (!(((rd_T30 bt138.1 (wrap64 ((bt138.1.length : Int) - 1))).f0) == 9) || (!((((rd_T30 bt138.1 (wrap64 ((bt138.1.length : Int) - 1))).f1).toList) == ([] : List UInt8)) || (!(((rd_T30 bt138.1 (wrap64 ((bt138.1.length : Int) - 1))).f2) == 0) || (!(((rd_T30 bt138.1 (wrap64 ((bt138.1.length : Int) - 1))).f3) == (a0.size : Int))))))) else (none)) else (none))) else (if t137 = true then (some ((bt138.1.length : Int) == 0)) else (none))))) = some r := h
  clear h
  replace H := Option.bind_eq_some_iff.mp H
  obtain ⟨t137, A30, H⟩ := H
  replace H : ((token_Cut.f a0).bind fun bt138 => (if bt138.2.2 = 0 then (if (bt138.1.length : Int) = 0 then (spinneylaw05_TokenPlaces.j0 k a0 a1 t137 bt138.1 true) else (if 0 ≤ (wrap64 ((bt138.1.length : Int) - 1)) then (if (wrap64 ((bt138.1.length : Int) - 1)) < (bt138.1.length : Int) then (spinneylaw05_TokenPlaces.j0 k a0 a1 t137 bt138.1 (!(((rd_T30 bt138.1 (wrap64 ((bt138.1.length : Int) - 1))).f0) == 9) || (!((((rd_T30 bt138.1 (wrap64 ((bt138.1.length : Int) - 1))).f1).toList) == ([] : List UInt8)) || (!(((rd_T30 bt138.1 (wrap64 ((bt138.1.length : Int) - 1))).f2) == 0) || (!(((rd_T30 bt138.1 (wrap64 ((bt138.1.length : Int) - 1))).f3) == (a0.size : Int))))))) else (none)) else (none))) else (if t137 = true then (some ((bt138.1.length : Int) == 0)) else (none)))) = some r := H
  have A3 := Aside0.mk A30
  clear A30
  replace H := Option.bind_eq_some_iff.mp H
  obtain ⟨⟨t138, t139, t140⟩, A40, H⟩ := H
  replace H : (if t140 = 0 then (if (t138.length : Int) = 0 then (spinneylaw05_TokenPlaces.j0 k a0 a1 t137 t138 true) else (if 0 ≤ (wrap64 ((t138.length : Int) - 1)) then (if (wrap64 ((t138.length : Int) - 1)) < (t138.length : Int) then (spinneylaw05_TokenPlaces.j0 k a0 a1 t137 t138 (!(((rd_T30 t138 (wrap64 ((t138.length : Int) - 1))).f0) == 9) || (!((((rd_T30 t138 (wrap64 ((t138.length : Int) - 1))).f1).toList) == ([] : List UInt8)) || (!(((rd_T30 t138 (wrap64 ((t138.length : Int) - 1))).f2) == 0) || (!(((rd_T30 t138 (wrap64 ((t138.length : Int) - 1))).f3) == (a0.size : Int))))))) else (none)) else (none))) else (if t137 = true then (some ((t138.length : Int) == 0)) else (none))) = some r := H
  have A4 := Aside0.mk A40
  clear A40
  by_cases c5 : t140 = 0
  · rw [if_pos c5] at H
    have c5b0 : (t140 == 0) = true := beq_iff_eq.mpr c5
    have c5b1 : (t140 != 0) = false := bne_eq_false_iff_eq.mpr c5
    clear c5
    have HC6 := Aside0.mk H
    clear H
    go_enter Tryd.func4, Tryd.ntmps4
    go_upto_region 5 with (first | (go_at_call 9; (with_reducible refine (spinneylaw05_live.calls  t137 _ A3.out (HT.out.below (by first | exact Below.refl _ _ | (repeat (first | (with_reducible first | exact HB.out | apply below_alloc | apply pw_below_drewN | apply below_drew1 | refine below_set ?_ GE156.out) | exact HB.out))))).mono ?_); rintro e w7 ⟨rfl, hb⟩; have n0_ := Aside0.mk (below_step (by repeat (first | (with_reducible first | exact HB.out | apply below_alloc | apply pw_below_drewN | apply below_drew1) | exact HB.out)) hb); clear HB; have HB := n0_; clear n0_; (try clear hb); (try clear hb2); (try clear hk); (try clear hi)) | (go_at_call 10; (with_reducible refine (token_Cut.calls a0 t138 t139 t140 _ A4.out (HT.out.below (by first | exact Below.refl _ _ | (repeat (first | (with_reducible first | exact HB.out | apply below_alloc | apply pw_below_drewN | apply below_drew1 | refine below_set ?_ GE156.out) | exact HB.out))))).mono ?_); rintro e w8 ⟨v141, rfl, ho0, hb⟩; have n0_ := Aside0.mk (Kd.R_lower ho0 (below_size (by repeat (first | (with_reducible first | exact HB.out | apply below_alloc | apply pw_below_drewN | apply below_drew1) | exact HB.out)))); have n1_ := Aside0.mk (below_step (by repeat (first | (with_reducible first | exact HB.out | apply below_alloc | apply pw_below_drewN | apply below_drew1) | exact HB.out)) hb); clear HB; have HO142 := n0_; have HB := n1_; clear n0_ n1_; (try clear hb); (try clear hb2); (try clear hk); (try clear hi); (try clear ho0)))
    repeat (go_quiet (first | (go_at_call 9; (with_reducible refine (spinneylaw05_live.calls  t137 _ A3.out (HT.out.below (by first | exact Below.refl _ _ | (repeat (first | (with_reducible first | exact HB.out | apply below_alloc | apply pw_below_drewN | apply below_drew1 | refine below_set ?_ GE156.out) | exact HB.out))))).mono ?_); rintro e w7 ⟨rfl, hb⟩; have n0_ := Aside0.mk (below_step (by repeat (first | (with_reducible first | exact HB.out | apply below_alloc | apply pw_below_drewN | apply below_drew1) | exact HB.out)) hb); clear HB; have HB := n0_; clear n0_; (try clear hb); (try clear hb2); (try clear hk); (try clear hi)) | (go_at_call 10; (with_reducible refine (token_Cut.calls a0 t138 t139 t140 _ A4.out (HT.out.below (by first | exact Below.refl _ _ | (repeat (first | (with_reducible first | exact HB.out | apply below_alloc | apply pw_below_drewN | apply below_drew1 | refine below_set ?_ GE156.out) | exact HB.out))))).mono ?_); rintro e w8 ⟨v141, rfl, ho0, hb⟩; have n0_ := Aside0.mk (Kd.R_lower ho0 (below_size (by repeat (first | (with_reducible first | exact HB.out | apply below_alloc | apply pw_below_drewN | apply below_drew1) | exact HB.out)))); have n1_ := Aside0.mk (below_step (by repeat (first | (with_reducible first | exact HB.out | apply below_alloc | apply pw_below_drewN | apply below_drew1) | exact HB.out)) hb); clear HB; have HO142 := n0_; have HB := n1_; clear n0_ n1_; (try clear hb); (try clear hb2); (try clear hk); (try clear hi); (try clear ho0))); go_upto_region 5 with (first | (go_at_call 9; (with_reducible refine (spinneylaw05_live.calls  t137 _ A3.out (HT.out.below (by first | exact Below.refl _ _ | (repeat (first | (with_reducible first | exact HB.out | apply below_alloc | apply pw_below_drewN | apply below_drew1 | refine below_set ?_ GE156.out) | exact HB.out))))).mono ?_); rintro e w7 ⟨rfl, hb⟩; have n0_ := Aside0.mk (below_step (by repeat (first | (with_reducible first | exact HB.out | apply below_alloc | apply pw_below_drewN | apply below_drew1) | exact HB.out)) hb); clear HB; have HB := n0_; clear n0_; (try clear hb); (try clear hb2); (try clear hk); (try clear hi)) | (go_at_call 10; (with_reducible refine (token_Cut.calls a0 t138 t139 t140 _ A4.out (HT.out.below (by first | exact Below.refl _ _ | (repeat (first | (with_reducible first | exact HB.out | apply below_alloc | apply pw_below_drewN | apply below_drew1 | refine below_set ?_ GE156.out) | exact HB.out))))).mono ?_); rintro e w8 ⟨v141, rfl, ho0, hb⟩; have n0_ := Aside0.mk (Kd.R_lower ho0 (below_size (by repeat (first | (with_reducible first | exact HB.out | apply below_alloc | apply pw_below_drewN | apply below_drew1) | exact HB.out)))); have n1_ := Aside0.mk (below_step (by repeat (first | (with_reducible first | exact HB.out | apply below_alloc | apply pw_below_drewN | apply below_drew1) | exact HB.out)) hb); clear HB; have HO142 := n0_; have HB := n1_; clear n0_ n1_; (try clear hb); (try clear hb2); (try clear hk); (try clear hi); (try clear ho0))))
    (try simp only [Act.put, List.setIfInBounds_toArray, List.set_cons_zero, List.set_cons_succ])
    go_cut [45] (fun v45 wc => ∃ (kq : Nat) (x45_5 : Bool), v45 = .bool x45_5 ∧ Aside0 (spinneylaw05_TokenPlaces.j0 kq a0 a1 t137 t138 x45_5 = some r) ∧ Aside0 (kq ≤ k) ∧ Aside0 (Kd.R k30 30 wc w.heap.size (fun _ => True) v141 t138) ∧ Aside0 (Below w.heap.size w wc))
    case first =>
      have H := HC6.out
      clear HC6
      by_cases c9 : (t138.length : Int) = 0
      · rw [if_pos c9] at H
        have c9b0 : ((t138.length : Int) == 0) = true := beq_iff_eq.mpr c9
        have c9b1 : ((t138.length : Int) != 0) = false := bne_eq_false_iff_eq.mpr c9
        clear c9
        (first | rw [c9b0] | (simp only [i64_w, i32_w]; rw [c9b0]) | skip)
        have H' := Aside0.mk H
        clear H
        obtain ⟨Ao10, co10, eo10⟩ := Kd.R_slice HO142.out
        subst eo10
        go_wp2
        repeat (go_quiet (fail); try go_wp2)
        go_meet
        case rel => exact ⟨_, (true), (by first | rfl | (simp; done) | (simp [*]; done)), H', ⟨by first | omega | exact Nat.le_refl _⟩, ⟨by (with_reducible repeat (first | apply Kd.R_alloc | apply Kd.R_drewN | apply Kd.R_drew)); exact HO142.out⟩, ⟨by repeat (first | (with_reducible first | exact HB.out | apply below_alloc | apply pw_below_drewN | apply below_drew1) | exact HB.out)⟩⟩
      · rw [if_neg c9] at H
        have c9b0 : ((t138.length : Int) == 0) = false := beq_eq_false_iff_ne.mpr c9
        have c9b1 : ((t138.length : Int) != 0) = true := bne_iff_ne.mpr c9
        have c9b2 : ¬ (t138 = []) := fun h_ => c9 (by rw [h_]; rfl)
        (first | rw [c9b0] | (simp only [i64_w, i32_w]; rw [c9b0]) | skip)
        obtain ⟨ji11, hji11⟩ : ∃ j_ : Int, (wrap64 ((t138.length : Int) - 1)) = j_ := ⟨_, rfl⟩
        replace H : (if 0 ≤ (ji11) then (if (ji11) < (t138.length : Int) then (spinneylaw05_TokenPlaces.j0 k a0 a1 t137 t138 (!(((rd_T30 t138 (ji11)).f0) == 9) || (!((((rd_T30 t138 (ji11)).f1).toList) == ([] : List UInt8)) || (!(((rd_T30 t138 (ji11)).f2) == 0) || (!(((rd_T30 t138 (ji11)).f3) == (a0.size : Int))))))) else (none)) else (none)) = some r := by first | (rw [hji11] at H; exact H) | (simp only [hji11] at H ⊢; exact H)
        have hji11w : (IntKind.i64.wrap ((t138.length : Int) - 1)) = ji11 := (i64_w _).trans hji11
        by_cases c12 : 0 ≤ (ji11)
        · rw [if_pos c12] at H
          have c12b0 : decide (0 ≤ (ji11)) = true := decide_eq_true c12
          clear c12
          by_cases c13 : (ji11) < (t138.length : Int)
          · rw [if_pos c13] at H
            have c13b0 : decide ((ji11) < (t138.length : Int)) = true := decide_eq_true c13
            clear c13
            have H' := Aside0.mk H
            clear H
            obtain ⟨Ao14, co14, eo14⟩ := Kd.R_slice HO142.out
            subst eo14
            have p143 : 0 ≤ ((ji11) : Int) := of_decide_eq_true (by first | (with_reducible assumption) | assumption)
            have q143 : (ji11) < (t138.length : Int) := of_decide_eq_true (by first | (with_reducible assumption) | assumption)
            obtain ⟨ad143, e143, hx143_0, hx143_1, hx143_2, hx143_3⟩ := at_T30 (Kd.R_reads' HO142.out).2.2 (ji11) p143 q143
            cases e143
            replace p143 := eq_true p143
            replace q143 := eq_true q143
            go_wp2
            repeat (go_quiet (fail); try go_wp2)
            go_meet
            case rel => exact ⟨_, ((!(((rd_T30 t138 (ji11)).f0) == 9) || (!((((rd_T30 t138 (ji11)).f1).toList) == ([] : List UInt8)) || (!(((rd_T30 t138 (ji11)).f2) == 0) || (!(((rd_T30 t138 (ji11)).f3) == (a0.size : Int))))))), (by first | rfl | (simp; done) | (simp only [← hji11] <;> (first | rfl | simp)) | (simp [*]; done)), H', ⟨by first | omega | exact Nat.le_refl _⟩, ⟨by (with_reducible repeat (first | apply Kd.R_alloc | apply Kd.R_drewN | apply Kd.R_drew)); exact HO142.out⟩, ⟨by repeat (first | (with_reducible first | exact HB.out | apply below_alloc | apply pw_below_drewN | apply below_drew1) | exact HB.out)⟩⟩
          · rw [if_neg c13] at H
            exact absurd H (by simp)
        · rw [if_neg c12] at H
          exact absurd H (by simp)
    case rest =>
      clear HC6
      try clear c1
      try clear p1
      try clear q1
      try clear hx1
      try clear p2
      try clear c4
      try clear c5
      try clear c5b0
      try clear c5b1
      try clear p6
      try clear c9
      try clear c9b0
      try clear c9b1
      try clear c9b2
      try clear c12
      try clear c12b0
      try clear c13
      try clear c13b0
      try clear p14
      try clear q14
      try clear hx14
      try clear hx143_0
      try clear hx143_1
      try clear hx143_2
      try clear hx143_3
      try clear p143
      try clear q143
      obtain ⟨kq, x45_5, rfl, HA, HJ5, HO_6, HB⟩ := hcut
      cases kq with
      | zero => exact absurd HA.out (by simp [spinneylaw05_TokenPlaces.j0])
      | succ kj5 =>
        have H := HA.out
        clear HA
        simp only [spinneylaw05_TokenPlaces.j0] at H
        by_cases c15 : x45_5 = true
        · subst c15
          have H1 : (none) = some r := by rw [if_pos rfl] at H; exact H
          clear H
          have H := H1
          clear H1
          exact absurd H (by simp)
        · replace c15 := Bool.eq_false_iff.mpr c15
          subst c15
          have H1 : (spinneylaw05_TokenPlaces.l0 kj5 a0 a1 t137 t138 1) = some r := by rw [if_neg (show ¬ (false = true) by decide)] at H; exact H
          clear H
          have H := H1
          clear H1
          have H' := Aside0.mk H
          clear H
          go_wp2
          repeat (go_quiet (fail); try go_wp2)
          go_loopg [9] kj5 (fun kq v9 w' => ∃ (x9_2 : Int), v9 = .int .i64 x9_2 ∧ Aside0 (spinneylaw05_TokenPlaces.l0 kq a0 a1 t137 t138 x9_2 = some r) ∧ Aside0 (kq ≤ kj5) ∧ Aside0 (Kd.R k30 30 w' w.heap.size (fun _ => True) v141 t138) ∧ Aside0 (Below w.heap.size w w'))
          case atStart => exact ⟨(1), (by first | rfl | (simp; done) | (simp [*]; done)), H', ⟨Nat.le_refl _⟩, ⟨by (with_reducible repeat (first | apply Kd.R_alloc | apply Kd.R_drewN | apply Kd.R_drew)); exact HO_6.out⟩, ⟨by repeat (first | (with_reducible first | exact HB.out | apply below_alloc | apply pw_below_drewN | apply below_drew1) | exact HB.out)⟩⟩
          case round =>
            clear H'
            try clear c1
            try clear p1
            try clear q1
            try clear hx1
            try clear p2
            try clear c4
            try clear c5
            try clear c5b0
            try clear c5b1
            try clear p6
            try clear c9
            try clear c9b0
            try clear c9b1
            try clear c9b2
            try clear c12
            try clear c12b0
            try clear c13
            try clear c13b0
            try clear p14
            try clear q14
            try clear hx14
            try clear c15
            try clear hx143_0
            try clear hx143_1
            try clear hx143_2
            try clear hx143_3
            try clear p1
            try clear p14
            try clear p143
            try clear p2
            try clear p6
            try clear q1
            try clear q14
            try clear q143
            obtain ⟨x9_2, rfl, HA, HK2, HO_6, HB⟩ := hrel
            cases gk with
            | zero => exact absurd HA.out (by simp [spinneylaw05_TokenPlaces.l0])
            | succ k2 =>
              have H := HA.out
              clear HA
              simp only [spinneylaw05_TokenPlaces.l0] at H
              by_cases c16 : x9_2 < (t138.length : Int)
              · rw [if_pos c16] at H
                have c16b0 : decide (x9_2 < (t138.length : Int)) = true := decide_eq_true c16
                clear c16
                obtain ⟨ji17, hji17⟩ : ∃ j_ : Int, (wrap64 (x9_2 - 1)) = j_ := ⟨_, rfl⟩
                replace H : (if 0 ≤ (ji17) then (if (ji17) < (t138.length : Int) then (if 0 ≤ x9_2 then (if ((rd_T30 t138 (ji17)).f3) ≥ ((rd_T30 t138 x9_2).f3) then (if ((rd_T30 t138 x9_2).f0) = 9 then (if ((rd_T30 t138 (ji17)).f3) > ((rd_T30 t138 x9_2).f3) then (none) else (spinneylaw05_TokenPlaces.l0 k2 a0 a1 t137 t138 (wrap64 (x9_2 + 1)))) else (none)) else (spinneylaw05_TokenPlaces.l0 k2 a0 a1 t137 t138 (wrap64 (x9_2 + 1)))) else (none)) else (none)) else (none)) = some r := by first | (rw [hji17] at H; exact H) | (simp only [hji17] at H ⊢; exact H)
                have hji17w : (IntKind.i64.wrap (x9_2 - 1)) = ji17 := (i64_w _).trans hji17
                by_cases c18 : 0 ≤ (ji17)
                · rw [if_pos c18] at H
                  have c18b0 : decide (0 ≤ (ji17)) = true := decide_eq_true c18
                  clear c18
                  by_cases c19 : (ji17) < (t138.length : Int)
                  · rw [if_pos c19] at H
                    have c19b0 : decide ((ji17) < (t138.length : Int)) = true := decide_eq_true c19
                    clear c19
                    by_cases c20 : 0 ≤ x9_2
                    · rw [if_pos c20] at H
                      have c20b0 : decide (0 ≤ x9_2) = true := decide_eq_true c20
                      clear c20
                      by_cases c21 : ((rd_T30 t138 (ji17)).f3) ≥ ((rd_T30 t138 x9_2).f3)
                      · rw [if_pos c21] at H
                        have c21b0 : decide (((rd_T30 t138 x9_2).f3) ≤ ((rd_T30 t138 (ji17)).f3)) = true := decide_eq_true c21
                        clear c21
                        by_cases c22 : ((rd_T30 t138 x9_2).f0) = 9
                        · rw [if_pos c22] at H
                          have c22b0 : (((rd_T30 t138 x9_2).f0) == 9) = true := beq_iff_eq.mpr c22
                          have c22b1 : (((rd_T30 t138 x9_2).f0) != 9) = false := bne_eq_false_iff_eq.mpr c22
                          clear c22
                          by_cases c23 : ((rd_T30 t138 (ji17)).f3) > ((rd_T30 t138 x9_2).f3)
                          · rw [if_pos c23] at H
                            exact absurd H (by simp)
                          · rw [if_neg c23] at H
                            have c23b0 : decide (((rd_T30 t138 x9_2).f3) < ((rd_T30 t138 (ji17)).f3)) = false := decide_eq_false c23
                            clear c23
                            have H' := Aside0.mk H
                            clear H
                            obtain ⟨Ao24, co24, eo24⟩ := Kd.R_slice HO_6.out
                            subst eo24
                            have p144 : 0 ≤ ((ji17) : Int) := of_decide_eq_true (by first | (with_reducible assumption) | assumption)
                            have q144 : (ji17) < (t138.length : Int) := of_decide_eq_true (by first | (with_reducible assumption) | assumption)
                            obtain ⟨ad144, e144, hx144_0, hx144_1, hx144_2, hx144_3⟩ := at_T30 (Kd.R_reads' HO_6.out).2.2 (ji17) p144 q144
                            cases e144
                            replace p144 := eq_true p144
                            replace q144 := eq_true q144
                            have p145 : 0 ≤ (x9_2 : Int) := of_decide_eq_true (by first | (with_reducible assumption) | assumption)
                            have q145 : x9_2 < (t138.length : Int) := of_decide_eq_true (by first | (with_reducible assumption) | assumption)
                            obtain ⟨ad145, e145, hx145_0, hx145_1, hx145_2, hx145_3⟩ := at_T30 (Kd.R_reads' HO_6.out).2.2 x9_2 p145 q145
                            obtain rfl : ad144 = ad145 := (by injection e145)
                            replace p145 := eq_true p145
                            replace q145 := eq_true q145
                            have p146 : 0 ≤ (x9_2 : Int) := of_decide_eq_true (by first | (with_reducible assumption) | assumption)
                            have q146 : x9_2 < (t138.length : Int) := of_decide_eq_true (by first | (with_reducible assumption) | assumption)
                            obtain ⟨ad146, e146, hx146_0, hx146_1, hx146_2, hx146_3⟩ := at_T30 (Kd.R_reads' HO_6.out).2.2 x9_2 p146 q146
                            obtain rfl : ad144 = ad146 := (by injection e146)
                            replace p146 := eq_true p146
                            replace q146 := eq_true q146
                            have p147 : 0 ≤ ((ji17) : Int) := of_decide_eq_true (by first | (with_reducible assumption) | assumption)
                            have q147 : (ji17) < (t138.length : Int) := of_decide_eq_true (by first | (with_reducible assumption) | assumption)
                            obtain ⟨ad147, e147, hx147_0, hx147_1, hx147_2, hx147_3⟩ := at_T30 (Kd.R_reads' HO_6.out).2.2 (ji17) p147 q147
                            obtain rfl : ad144 = ad147 := (by injection e147)
                            replace p147 := eq_true p147
                            replace q147 := eq_true q147
                            have p148 : 0 ≤ (x9_2 : Int) := of_decide_eq_true (by first | (with_reducible assumption) | assumption)
                            have q148 : x9_2 < (t138.length : Int) := of_decide_eq_true (by first | (with_reducible assumption) | assumption)
                            obtain ⟨ad148, e148, hx148_0, hx148_1, hx148_2, hx148_3⟩ := at_T30 (Kd.R_reads' HO_6.out).2.2 x9_2 p148 q148
                            obtain rfl : ad144 = ad148 := (by injection e148)
                            replace p148 := eq_true p148
                            replace q148 := eq_true q148
                            go_wp2
                            repeat (go_quiet (fail); try go_wp2)
                            go_roundg k2
                            case measure => have := HJ5.out; have := HK2.out; omega
                            case rel => exact ⟨(wrap64 (x9_2 + 1)), (by first | rfl | (simp; done) | (simp [*]; done)), H', ⟨by have := HJ5.out; have := HK2.out; omega⟩, ⟨by (with_reducible repeat (first | apply Kd.R_alloc | apply Kd.R_drewN | apply Kd.R_drew)); exact HO_6.out⟩, ⟨by repeat (first | (with_reducible first | exact HB.out | apply below_alloc | apply pw_below_drewN | apply below_drew1) | exact HB.out)⟩⟩
                        · rw [if_neg c22] at H
                          exact absurd H (by simp)
                      · rw [if_neg c21] at H
                        have c21b0 : decide (((rd_T30 t138 x9_2).f3) ≤ ((rd_T30 t138 (ji17)).f3)) = false := decide_eq_false c21
                        clear c21
                        have H' := Aside0.mk H
                        clear H
                        obtain ⟨Ao25, co25, eo25⟩ := Kd.R_slice HO_6.out
                        subst eo25
                        have p144 : 0 ≤ ((ji17) : Int) := of_decide_eq_true (by first | (with_reducible assumption) | assumption)
                        have q144 : (ji17) < (t138.length : Int) := of_decide_eq_true (by first | (with_reducible assumption) | assumption)
                        obtain ⟨ad144, e144, hx144_0, hx144_1, hx144_2, hx144_3⟩ := at_T30 (Kd.R_reads' HO_6.out).2.2 (ji17) p144 q144
                        cases e144
                        replace p144 := eq_true p144
                        replace q144 := eq_true q144
                        have p145 : 0 ≤ (x9_2 : Int) := of_decide_eq_true (by first | (with_reducible assumption) | assumption)
                        have q145 : x9_2 < (t138.length : Int) := of_decide_eq_true (by first | (with_reducible assumption) | assumption)
                        obtain ⟨ad145, e145, hx145_0, hx145_1, hx145_2, hx145_3⟩ := at_T30 (Kd.R_reads' HO_6.out).2.2 x9_2 p145 q145
                        obtain rfl : ad144 = ad145 := (by injection e145)
                        replace p145 := eq_true p145
                        replace q145 := eq_true q145
                        go_wp2
                        repeat (go_quiet (fail); try go_wp2)
                        go_roundg k2
                        case measure => have := HJ5.out; have := HK2.out; omega
                        case rel => exact ⟨(wrap64 (x9_2 + 1)), (by first | rfl | (simp; done) | (simp [*]; done)), H', ⟨by have := HJ5.out; have := HK2.out; omega⟩, ⟨by (with_reducible repeat (first | apply Kd.R_alloc | apply Kd.R_drewN | apply Kd.R_drew)); exact HO_6.out⟩, ⟨by repeat (first | (with_reducible first | exact HB.out | apply below_alloc | apply pw_below_drewN | apply below_drew1) | exact HB.out)⟩⟩
                    · rw [if_neg c20] at H
                      exact absurd H (by simp)
                  · rw [if_neg c19] at H
                    exact absurd H (by simp)
                · rw [if_neg c18] at H
                  exact absurd H (by simp)
              · rw [if_neg c16] at H
                have c16b0 : decide (x9_2 < (t138.length : Int)) = false := decide_eq_false c16
                clear c16
                by_cases c26 : (t138.length : Int) = 0
                · rw [if_pos c26] at H
                  exact absurd H (by simp)
                · rw [if_neg c26] at H
                  have c26b0 : ((t138.length : Int) == 0) = false := beq_eq_false_iff_ne.mpr c26
                  have c26b1 : ((t138.length : Int) != 0) = true := bne_iff_ne.mpr c26
                  have c26b2 : ¬ (t138 = []) := fun h_ => c26 (by rw [h_]; rfl)
                  obtain ⟨ji27, hji27⟩ : ∃ j_ : Int, (Int.tmod (wrap64 ((Int.tmod a1 (t138.length : Int)) + (t138.length : Int))) (t138.length : Int)) = j_ := ⟨_, rfl⟩
                  replace H : (if 0 ≤ (ji27) then (if (ji27) < (t138.length : Int) then (if 0 ≤ ((rd_T30 t138 (ji27)).f3) then (if ((rd_T30 t138 (ji27)).f3) ≤ (a0.size : Int) then ((token_Cut.f (a0.extract (((rd_T30 t138 (ji27)).f3) : Int).toNat a0.size)).bind fun bt150 => (if bt150.2.2 = 0 then (spinneylaw05_TokenPlaces.j2 k2 ji27 t137 t138 ((rd_T30 t138 (ji27)).f3) bt150.1 ((bt150.1.length : Int) != (wrap64 ((t138.length : Int) - (ji27))))) else (spinneylaw05_TokenPlaces.j2 k2 ji27 t137 t138 ((rd_T30 t138 (ji27)).f3) bt150.1 true))) else (none)) else (none)) else (none)) else (none)) = some r := by first | (rw [hji27] at H; exact H) | (simp only [hji27] at H ⊢; exact H)
                  by_cases c28 : 0 ≤ (ji27)
                  · rw [if_pos c28] at H
                    have c28b0 : decide (0 ≤ (ji27)) = true := decide_eq_true c28
                    clear c28
                    by_cases c29 : (ji27) < (t138.length : Int)
                    · rw [if_pos c29] at H
                      have c29b0 : decide ((ji27) < (t138.length : Int)) = true := decide_eq_true c29
                      clear c29
                      by_cases c30 : 0 ≤ ((rd_T30 t138 (ji27)).f3)
                      · rw [if_pos c30] at H
                        have c30b0 := eq_true c30
                        have c30b1 : decide (0 ≤ ((rd_T30 t138 (ji27)).f3)) = true := decide_eq_true c30
                        clear c30
                        by_cases c31 : ((rd_T30 t138 (ji27)).f3) ≤ (a0.size : Int)
                        · rw [if_pos c31] at H
                          have c31b0 := eq_true c31
                          have c31b1 : decide (((rd_T30 t138 (ji27)).f3) ≤ (a0.size : Int)) = true := decide_eq_true c31
                          clear c31
                          replace H := Option.bind_eq_some_iff.mp H
                          obtain ⟨⟨t150, t151, t152⟩, A320, H⟩ := H
                          replace H : (if t152 = 0 then (spinneylaw05_TokenPlaces.j2 k2 ji27 t137 t138 ((rd_T30 t138 (ji27)).f3) t150 ((t150.length : Int) != (wrap64 ((t138.length : Int) - (ji27))))) else (spinneylaw05_TokenPlaces.j2 k2 ji27 t137 t138 ((rd_T30 t138 (ji27)).f3) t150 true)) = some r := H
                          have A32 := Aside0.mk A320
                          clear A320
                          have HC33 := Aside0.mk H
                          clear H
                          obtain ⟨Ao34, co34, eo34⟩ := Kd.R_slice HO_6.out
                          subst eo34
                          have p149 : 0 ≤ ((ji27) : Int) := of_decide_eq_true (by first | (with_reducible assumption) | assumption)
                          have q149 : (ji27) < (t138.length : Int) := of_decide_eq_true (by first | (with_reducible assumption) | assumption)
                          obtain ⟨ad149, e149, hx149_0, hx149_1, hx149_2, hx149_3⟩ := at_T30 (Kd.R_reads' HO_6.out).2.2 (ji27) p149 q149
                          cases e149
                          replace p149 := eq_true p149
                          replace q149 := eq_true q149
                          go_upto_region 15 with (first | (go_at_call 10; (with_reducible refine (token_Cut.calls (a0.extract (((rd_T30 t138 (ji27)).f3) : Int).toNat a0.size) t150 t151 t152 _ A32.out (HT.out.below (by first | exact Below.refl _ _ | (repeat (first | (with_reducible first | exact HB.out | apply below_alloc | apply pw_below_drewN | apply below_drew1 | refine below_set ?_ GE156.out) | exact HB.out))))).mono ?_); rintro e w35 ⟨v153, rfl, ho0, hb⟩; have n0_ := Aside0.mk (Kd.R_elder' (by (with_reducible repeat (first | apply Kd.R_alloc | apply Kd.R_drewN | apply Kd.R_drew)); exact HO_6.out) (Kd.R_base ho0) hb); have n1_ := Aside0.mk (Kd.R_lower (Kd.R_new' ho0 (Kd.R_lt (by (with_reducible repeat (first | apply Kd.R_alloc | apply Kd.R_drewN | apply Kd.R_drew)); exact HO_6.out))) (below_size (by repeat (first | (with_reducible first | exact HB.out | apply below_alloc | apply pw_below_drewN | apply below_drew1) | exact HB.out)))); have n2_ := Aside0.mk (below_step (by repeat (first | (with_reducible first | exact HB.out | apply below_alloc | apply pw_below_drewN | apply below_drew1) | exact HB.out)) hb); clear HO_6; clear HB; have HO_6 := n0_; have HO154 := n1_; have HB := n2_; clear n0_ n1_ n2_; (try clear hb); (try clear hb2); (try clear hk); (try clear hi); (try clear ho0)))
                          repeat (go_quiet (first | (go_at_call 10; (with_reducible refine (token_Cut.calls (a0.extract (((rd_T30 t138 (ji27)).f3) : Int).toNat a0.size) t150 t151 t152 _ A32.out (HT.out.below (by first | exact Below.refl _ _ | (repeat (first | (with_reducible first | exact HB.out | apply below_alloc | apply pw_below_drewN | apply below_drew1 | refine below_set ?_ GE156.out) | exact HB.out))))).mono ?_); rintro e w35 ⟨v153, rfl, ho0, hb⟩; have n0_ := Aside0.mk (Kd.R_elder' (by (with_reducible repeat (first | apply Kd.R_alloc | apply Kd.R_drewN | apply Kd.R_drew)); exact HO_6.out) (Kd.R_base ho0) hb); have n1_ := Aside0.mk (Kd.R_lower (Kd.R_new' ho0 (Kd.R_lt (by (with_reducible repeat (first | apply Kd.R_alloc | apply Kd.R_drewN | apply Kd.R_drew)); exact HO_6.out))) (below_size (by repeat (first | (with_reducible first | exact HB.out | apply below_alloc | apply pw_below_drewN | apply below_drew1) | exact HB.out)))); have n2_ := Aside0.mk (below_step (by repeat (first | (with_reducible first | exact HB.out | apply below_alloc | apply pw_below_drewN | apply below_drew1) | exact HB.out)) hb); clear HO_6; clear HB; have HO_6 := n0_; have HO154 := n1_; have HB := n2_; clear n0_ n1_ n2_; (try clear hb); (try clear hb2); (try clear hk); (try clear hi); (try clear ho0))); go_upto_region 15 with (first | (go_at_call 10; (with_reducible refine (token_Cut.calls (a0.extract (((rd_T30 t138 (ji27)).f3) : Int).toNat a0.size) t150 t151 t152 _ A32.out (HT.out.below (by first | exact Below.refl _ _ | (repeat (first | (with_reducible first | exact HB.out | apply below_alloc | apply pw_below_drewN | apply below_drew1 | refine below_set ?_ GE156.out) | exact HB.out))))).mono ?_); rintro e w35 ⟨v153, rfl, ho0, hb⟩; have n0_ := Aside0.mk (Kd.R_elder' (by (with_reducible repeat (first | apply Kd.R_alloc | apply Kd.R_drewN | apply Kd.R_drew)); exact HO_6.out) (Kd.R_base ho0) hb); have n1_ := Aside0.mk (Kd.R_lower (Kd.R_new' ho0 (Kd.R_lt (by (with_reducible repeat (first | apply Kd.R_alloc | apply Kd.R_drewN | apply Kd.R_drew)); exact HO_6.out))) (below_size (by repeat (first | (with_reducible first | exact HB.out | apply below_alloc | apply pw_below_drewN | apply below_drew1) | exact HB.out)))); have n2_ := Aside0.mk (below_step (by repeat (first | (with_reducible first | exact HB.out | apply below_alloc | apply pw_below_drewN | apply below_drew1) | exact HB.out)) hb); clear HO_6; clear HB; have HO_6 := n0_; have HO154 := n1_; have HB := n2_; clear n0_ n1_ n2_; (try clear hb); (try clear hb2); (try clear hk); (try clear hi); (try clear ho0))))
                          (try simp only [Act.put, List.setIfInBounds_toArray, List.set_cons_zero, List.set_cons_succ])
                          go_cut [119] (fun v119 wc => ∃ (kq : Nat) (x119_32 : Bool), v119 = .bool x119_32 ∧ Aside0 (spinneylaw05_TokenPlaces.j2 kq ji27 t137 t138 ((rd_T30 t138 (ji27)).f3) t150 x119_32 = some r) ∧ Aside0 (kq ≤ k2) ∧ Aside0 (Kd.R k30 30 wc w.heap.size (fun k_ => some k_ ≠ (v153 : Value).ownBlock) (.slice (some ad149) t138.length co34) t138) ∧ Aside0 (Kd.R k30 30 wc w.heap.size (fun k_ => some k_ ≠ ((.slice (some ad149) t138.length co34) : Value).ownBlock) v153 t150) ∧ Aside0 (Below w.heap.size w wc))
                          case first =>
                            have H := HC33.out
                            clear HC33
                            by_cases c36 : t152 = 0
                            · rw [if_pos c36] at H
                              have c36b0 : (t152 == 0) = true := beq_iff_eq.mpr c36
                              have c36b1 : (t152 != 0) = false := bne_eq_false_iff_eq.mpr c36
                              clear c36
                              (first | rw [c36b0] | (simp only [i64_w, i32_w]; rw [c36b0]) | skip)
                              have H' := Aside0.mk H
                              clear H
                              obtain ⟨Ao37, co37, eo37⟩ := Kd.R_slice HO154.out
                              subst eo37
                              go_wp2
                              repeat (go_quiet (fail); try go_wp2)
                              go_meet
                              case rel => exact ⟨_, (((t150.length : Int) != (wrap64 ((t138.length : Int) - (ji27))))), (by first | rfl | (simp; done) | (simp only [← hji27] <;> (first | rfl | simp)) | (simp [*]; done)), H', ⟨by have := HJ5.out; have := HK2.out; first | omega | exact Nat.le_refl _⟩, ⟨by (with_reducible repeat (first | apply Kd.R_alloc | apply Kd.R_drewN | apply Kd.R_drew)); exact Kd.R_mono HO_6.out (fun _ hk => hk.2)⟩, ⟨by (with_reducible repeat (first | apply Kd.R_alloc | apply Kd.R_drewN | apply Kd.R_drew)); exact Kd.R_mono HO154.out (fun _ hk => hk.2)⟩, ⟨by repeat (first | (with_reducible first | exact HB.out | apply below_alloc | apply pw_below_drewN | apply below_drew1) | exact HB.out)⟩⟩
                            · rw [if_neg c36] at H
                              have c36b0 : (t152 == 0) = false := beq_eq_false_iff_ne.mpr c36
                              have c36b1 : (t152 != 0) = true := bne_iff_ne.mpr c36
                              (first | rw [c36b0] | (simp only [i64_w, i32_w]; rw [c36b0]) | skip)
                              have H' := Aside0.mk H
                              clear H
                              go_wp2
                              repeat (go_quiet (fail); try go_wp2)
                              go_meet
                              case rel => exact ⟨_, (true), (by first | rfl | (simp; done) | (simp [*]; done)), H', ⟨by have := HJ5.out; have := HK2.out; first | omega | exact Nat.le_refl _⟩, ⟨by (with_reducible repeat (first | apply Kd.R_alloc | apply Kd.R_drewN | apply Kd.R_drew)); exact Kd.R_mono HO_6.out (fun _ hk => hk.2)⟩, ⟨by (with_reducible repeat (first | apply Kd.R_alloc | apply Kd.R_drewN | apply Kd.R_drew)); exact Kd.R_mono HO154.out (fun _ hk => hk.2)⟩, ⟨by repeat (first | (with_reducible first | exact HB.out | apply below_alloc | apply pw_below_drewN | apply below_drew1) | exact HB.out)⟩⟩
                          case rest =>
                            clear HC33
                            try clear c1
                            try clear p1
                            try clear q1
                            try clear hx1
                            try clear c2
                            try clear p2
                            try clear c3
                            try clear c4
                            try clear c5
                            try clear c5b0
                            try clear c5b1
                            try clear p6
                            try clear c9
                            try clear c9b0
                            try clear c9b1
                            try clear c9b2
                            try clear c12
                            try clear c12b0
                            try clear c13
                            try clear c13b0
                            try clear p14
                            try clear q14
                            try clear hx14
                            try clear c15
                            try clear c16
                            try clear c16b0
                            try clear c18
                            try clear c18b0
                            try clear c19
                            try clear c19b0
                            try clear c20
                            try clear c20b0
                            try clear c21
                            try clear c21b0
                            try clear c22
                            try clear c22b0
                            try clear c22b1
                            try clear c23
                            try clear c23b0
                            try clear c26
                            try clear c26b0
                            try clear c26b1
                            try clear c26b2
                            try clear c28
                            try clear c28b0
                            try clear c29
                            try clear c29b0
                            try clear c30
                            try clear c30b0
                            try clear c30b1
                            try clear c31
                            try clear c31b0
                            try clear c31b1
                            try clear c36
                            try clear c36b0
                            try clear c36b1
                            try clear hx143_0
                            try clear hx143_1
                            try clear hx143_2
                            try clear hx143_3
                            try clear hx144_0
                            try clear hx144_1
                            try clear hx144_2
                            try clear hx144_3
                            try clear hx145_0
                            try clear hx145_1
                            try clear hx145_2
                            try clear hx145_3
                            try clear hx146_0
                            try clear hx146_1
                            try clear hx146_2
                            try clear hx146_3
                            try clear hx147_0
                            try clear hx147_1
                            try clear hx147_2
                            try clear hx147_3
                            try clear hx148_0
                            try clear hx148_1
                            try clear hx148_2
                            try clear hx148_3
                            try clear hx149_0
                            try clear hx149_1
                            try clear hx149_2
                            try clear hx149_3
                            try clear p1
                            try clear p14
                            try clear p143
                            try clear p144
                            try clear p145
                            try clear p146
                            try clear p147
                            try clear p148
                            try clear p149
                            try clear p2
                            try clear p6
                            try clear q1
                            try clear q14
                            try clear q143
                            try clear q144
                            try clear q145
                            try clear q146
                            try clear q147
                            try clear q148
                            try clear q149
                            obtain ⟨kq, x119_32, rfl, HA, HJ32, HO_6, HO_11, HB⟩ := hcut
                            cases kq with
                            | zero => exact absurd HA.out (by simp [spinneylaw05_TokenPlaces.j2])
                            | succ kj32 =>
                              have H := HA.out
                              clear HA
                              simp only [spinneylaw05_TokenPlaces.j2] at H
                              by_cases c38 : x119_32 = true
                              · subst c38
                                have H1 : (none) = some r := by rw [if_pos rfl] at H; exact H
                                clear H
                                have H := H1
                                clear H1
                                exact absurd H (by simp)
                              · replace c38 := Bool.eq_false_iff.mpr c38
                                subst c38
                                have H1 : (spinneylaw05_TokenPlaces.l1 kj32 ji27 t137 t138 ((rd_T30 t138 (ji27)).f3) t150 (t150.length : Int) 0) = some r := by rw [if_neg (show ¬ (false = true) by decide)] at H; exact H
                                clear H
                                have H := H1
                                clear H1
                                have H' := Aside0.mk H
                                clear H
                                obtain ⟨Ao39, co39, eo39⟩ := Kd.R_slice HO_11.out
                                subst eo39
                                go_wp2
                                repeat (go_quiet (fail); try go_wp2)
                                go_loopg [122] kj32 (fun kq v122 w' => ∃ (x122_4 : Int), v122 = .int .i64 x122_4 ∧ Aside0 (spinneylaw05_TokenPlaces.l1 kq ji27 t137 t138 ((rd_T30 t138 (ji27)).f3) t150 (t150.length : Int) x122_4 = some r) ∧ Aside0 (kq ≤ kj32) ∧ Aside0 (Kd.R k30 30 w' w.heap.size (fun k_ => some k_ ≠ ((.slice Ao39 t150.length co39) : Value).ownBlock) (.slice (some ad149) t138.length co34) t138) ∧ Aside0 (Kd.R k30 30 w' w.heap.size (fun k_ => some k_ ≠ ((.slice (some ad149) t138.length co34) : Value).ownBlock) (.slice Ao39 t150.length co39) t150) ∧ Aside0 (Below w.heap.size w w'))
                                case atStart => exact ⟨(0), (by first | rfl | (simp; done) | (simp [*]; done)), H', ⟨Nat.le_refl _⟩, ⟨by (with_reducible repeat (first | apply Kd.R_alloc | apply Kd.R_drewN | apply Kd.R_drew)); exact HO_6.out⟩, ⟨by (with_reducible repeat (first | apply Kd.R_alloc | apply Kd.R_drewN | apply Kd.R_drew)); exact HO_11.out⟩, ⟨by repeat (first | (with_reducible first | exact HB.out | apply below_alloc | apply pw_below_drewN | apply below_drew1) | exact HB.out)⟩⟩
                                case round =>
                                  clear H'
                                  try clear c1
                                  try clear p1
                                  try clear q1
                                  try clear hx1
                                  try clear c2
                                  try clear p2
                                  try clear c3
                                  try clear c4
                                  try clear c5
                                  try clear c5b0
                                  try clear c5b1
                                  try clear p6
                                  try clear c9
                                  try clear c9b0
                                  try clear c9b1
                                  try clear c9b2
                                  try clear c12
                                  try clear c12b0
                                  try clear c13
                                  try clear c13b0
                                  try clear p14
                                  try clear q14
                                  try clear hx14
                                  try clear c15
                                  try clear c16
                                  try clear c16b0
                                  try clear c18
                                  try clear c18b0
                                  try clear c19
                                  try clear c19b0
                                  try clear c20
                                  try clear c20b0
                                  try clear c21
                                  try clear c21b0
                                  try clear c22
                                  try clear c22b0
                                  try clear c22b1
                                  try clear c23
                                  try clear c23b0
                                  try clear c26
                                  try clear c26b0
                                  try clear c26b1
                                  try clear c26b2
                                  try clear c28
                                  try clear c28b0
                                  try clear c29
                                  try clear c29b0
                                  try clear c30
                                  try clear c30b0
                                  try clear c30b1
                                  try clear c31
                                  try clear c31b0
                                  try clear c31b1
                                  try clear c36
                                  try clear c36b0
                                  try clear c36b1
                                  try clear c38
                                  try clear hx143_0
                                  try clear hx143_1
                                  try clear hx143_2
                                  try clear hx143_3
                                  try clear hx144_0
                                  try clear hx144_1
                                  try clear hx144_2
                                  try clear hx144_3
                                  try clear hx145_0
                                  try clear hx145_1
                                  try clear hx145_2
                                  try clear hx145_3
                                  try clear hx146_0
                                  try clear hx146_1
                                  try clear hx146_2
                                  try clear hx146_3
                                  try clear hx147_0
                                  try clear hx147_1
                                  try clear hx147_2
                                  try clear hx147_3
                                  try clear hx148_0
                                  try clear hx148_1
                                  try clear hx148_2
                                  try clear hx148_3
                                  try clear hx149_0
                                  try clear hx149_1
                                  try clear hx149_2
                                  try clear hx149_3
                                  try clear p1
                                  try clear p14
                                  try clear p143
                                  try clear p144
                                  try clear p145
                                  try clear p146
                                  try clear p147
                                  try clear p148
                                  try clear p149
                                  try clear p2
                                  try clear p6
                                  try clear q1
                                  try clear q14
                                  try clear q143
                                  try clear q144
                                  try clear q145
                                  try clear q146
                                  try clear q147
                                  try clear q148
                                  try clear q149
                                  obtain ⟨x122_4, rfl, HA, HK4, HO_6, HO_120, HB⟩ := hrel
                                  cases gk with
                                  | zero => exact absurd HA.out (by simp [spinneylaw05_TokenPlaces.l1])
                                  | succ k4 =>
                                    have H := HA.out
                                    clear HA
                                    simp only [spinneylaw05_TokenPlaces.l1] at H
                                    by_cases c40 : x122_4 < (t150.length : Int)
                                    · rw [if_pos c40] at H
                                      have c40b0 : decide (x122_4 < (t150.length : Int)) = true := decide_eq_true c40
                                      clear c40
                                      by_cases c41 : 0 ≤ x122_4
                                      · rw [if_pos c41] at H
                                        have c41b0 : decide (0 ≤ x122_4) = true := decide_eq_true c41
                                        clear c41
                                        by_cases c42 : x122_4 < (t150.length : Int)
                                        · rw [if_pos c42] at H
                                          have c42b0 : decide (x122_4 < (t150.length : Int)) = true := decide_eq_true c42
                                          clear c42
                                          have HC43 := Aside0.mk H
                                          clear H
                                          have p155 : 0 ≤ (x122_4 : Int) := of_decide_eq_true (by first | (with_reducible assumption) | assumption)
                                          have q155 : x122_4 < (t150.length : Int) := of_decide_eq_true (by first | (with_reducible assumption) | assumption)
                                          obtain ⟨ad155, e155, hx155_0, hx155_1, hx155_2, hx155_3⟩ := at_T30 (Kd.R_reads' HO_120.out).2.2 x122_4 p155 q155
                                          cases e155
                                          replace p155 := eq_true p155
                                          replace q155 := eq_true q155
                                          go_upto_region 21 with (first | ((with_reducible refine gate_dst (N := 15) rfl ?_); (try (refine gate_guard (by rfl) ?_; dsimp only)); refine box_event ?hg (N := 15) ?hd (cs := #[.int .i64 0, .string (⟨#[]⟩ : ByteArray), .int .i64 0, .int .i64 0]) (t := 30) ?hr ?_; (case hd => rfl); (case hg => rfl); (case hr => first | (go_simp; done) | (go_simp; rfl)); intro gb156 hg w44 hbox hb; (try have hnb155 := box_far hx155_0 hg); (try have hx155_0b := (Below.cell hb (cell_lt hx155_0)).trans hx155_0); (try have hx155_1b := (Below.cell hb (cell_lt hx155_1)).trans hx155_1); (try have hx155_2b := (Below.cell hb (cell_lt hx155_2)).trans hx155_2); (try have hx155_3b := (Below.cell hb (cell_lt hx155_3)).trans hx155_3); (try have NE156_HO_6 := Aside0.mk (box_ne (by (with_reducible repeat (first | apply Kd.R_alloc | apply Kd.R_drewN | apply Kd.R_drew)); exact HO_6.out) hg)); have n0_ := Aside0.mk (Kd.R_below (Kd.R_elderB (by (with_reducible repeat (first | apply Kd.R_alloc | apply Kd.R_drewN | apply Kd.R_drew)); exact HO_6.out) gb156 (Nat.le_of_eq hg.symm)) hb); have n1_ := Aside0.mk (Kd.R_below (Kd.R_elderB (by (with_reducible repeat (first | apply Kd.R_alloc | apply Kd.R_drewN | apply Kd.R_drew)); exact HO_120.out) gb156 (Nat.le_of_eq hg.symm)) hb); have n2_ := Aside0.mk (below_step (by repeat (first | (with_reducible first | exact HB.out | apply below_alloc | apply pw_below_drewN | apply below_drew1) | exact HB.out)) hb); have n3_ := Aside0.mk (hbox); have n4_ := Aside0.mk ((by rw [hg]; exact (below_size (by repeat (first | (with_reducible first | exact HB.out | apply below_alloc | apply pw_below_drewN | apply below_drew1) | exact HB.out))) : w.heap.size ≤ gb156)); have n5_ := Aside0.mk ((by rw [hg]; exact (below_size (by repeat (first | (with_reducible first | exact HB.out | apply below_alloc | apply pw_below_drewN | apply below_drew1) | exact HB.out))) : w.heap.size ≤ gb156)); clear HO_6; clear HO_120; clear HB; have HO_6 := n0_; have HO_120 := n1_; have HB := n2_; have BK156 := n3_; have GW156 := n4_; have GE156 := n5_; clear n0_ n1_ n2_ n3_ n4_ n5_; clear hb hbox hg; have hcz45_0 : w44.cell? ⟨gb156, 0, none⟩ = some (.int .i64 0) := (blk_cell BK156.out 0).trans rfl; have hcz45_1 : w44.cell? ⟨gb156, 1, none⟩ = some (.string (⟨#[]⟩ : ByteArray)) := (blk_cell BK156.out 1).trans rfl; have hcz45_2 : w44.cell? ⟨gb156, 2, none⟩ = some (.int .i64 0) := (blk_cell BK156.out 2).trans rfl; have hcz45_3 : w44.cell? ⟨gb156, 3, none⟩ = some (.int .i64 0) := (blk_cell BK156.out 3).trans rfl; have hfz45_0 := blk_frozen BK156.out 0; have hfz45_1 := blk_frozen BK156.out 1; have hfz45_2 := blk_frozen BK156.out 2; have hfz45_3 := blk_frozen BK156.out 3))
                                          repeat (go_quiet (first | ((with_reducible refine gate_dst (N := 15) rfl ?_); (try (refine gate_guard (by rfl) ?_; dsimp only)); refine box_event ?hg (N := 15) ?hd (cs := #[.int .i64 0, .string (⟨#[]⟩ : ByteArray), .int .i64 0, .int .i64 0]) (t := 30) ?hr ?_; (case hd => rfl); (case hg => rfl); (case hr => first | (go_simp; done) | (go_simp; rfl)); intro gb156 hg w44 hbox hb; (try have NE156_HO_6 := Aside0.mk (box_ne (by (with_reducible repeat (first | apply Kd.R_alloc | apply Kd.R_drewN | apply Kd.R_drew)); exact HO_6.out) hg)); have n0_ := Aside0.mk (Kd.R_below (Kd.R_elderB (by (with_reducible repeat (first | apply Kd.R_alloc | apply Kd.R_drewN | apply Kd.R_drew)); exact HO_6.out) gb156 (Nat.le_of_eq hg.symm)) hb); have n1_ := Aside0.mk (Kd.R_below (Kd.R_elderB (by (with_reducible repeat (first | apply Kd.R_alloc | apply Kd.R_drewN | apply Kd.R_drew)); exact HO_120.out) gb156 (Nat.le_of_eq hg.symm)) hb); have n2_ := Aside0.mk (below_step (by repeat (first | (with_reducible first | exact HB.out | apply below_alloc | apply pw_below_drewN | apply below_drew1) | exact HB.out)) hb); have n3_ := Aside0.mk (hbox); have n4_ := Aside0.mk ((by rw [hg]; exact (below_size (by repeat (first | (with_reducible first | exact HB.out | apply below_alloc | apply pw_below_drewN | apply below_drew1) | exact HB.out))) : w.heap.size ≤ gb156)); have n5_ := Aside0.mk ((by rw [hg]; exact (below_size (by repeat (first | (with_reducible first | exact HB.out | apply below_alloc | apply pw_below_drewN | apply below_drew1) | exact HB.out))) : w.heap.size ≤ gb156)); clear HO_6; clear HO_120; clear HB; have HO_6 := n0_; have HO_120 := n1_; have HB := n2_; have BK156 := n3_; have GW156 := n4_; have GE156 := n5_; clear n0_ n1_ n2_ n3_ n4_ n5_; clear hb hbox hg; have hcz45_0 : w44.cell? ⟨gb156, 0, none⟩ = some (.int .i64 0) := (blk_cell BK156.out 0).trans rfl; have hcz45_1 : w44.cell? ⟨gb156, 1, none⟩ = some (.string (⟨#[]⟩ : ByteArray)) := (blk_cell BK156.out 1).trans rfl; have hcz45_2 : w44.cell? ⟨gb156, 2, none⟩ = some (.int .i64 0) := (blk_cell BK156.out 2).trans rfl; have hcz45_3 : w44.cell? ⟨gb156, 3, none⟩ = some (.int .i64 0) := (blk_cell BK156.out 3).trans rfl; have hfz45_0 := blk_frozen BK156.out 0; have hfz45_1 := blk_frozen BK156.out 1; have hfz45_2 := blk_frozen BK156.out 2; have hfz45_3 := blk_frozen BK156.out 3)); go_upto_region 21 with (first | ((with_reducible refine gate_dst (N := 15) rfl ?_); (try (refine gate_guard (by rfl) ?_; dsimp only)); refine box_event ?hg (N := 15) ?hd (cs := #[.int .i64 0, .string (⟨#[]⟩ : ByteArray), .int .i64 0, .int .i64 0]) (t := 30) ?hr ?_; (case hd => rfl); (case hg => rfl); (case hr => first | (go_simp; done) | (go_simp; rfl)); intro gb156 hg w44 hbox hb; (try have NE156_HO_6 := Aside0.mk (box_ne (by (with_reducible repeat (first | apply Kd.R_alloc | apply Kd.R_drewN | apply Kd.R_drew)); exact HO_6.out) hg)); have n0_ := Aside0.mk (Kd.R_below (Kd.R_elderB (by (with_reducible repeat (first | apply Kd.R_alloc | apply Kd.R_drewN | apply Kd.R_drew)); exact HO_6.out) gb156 (Nat.le_of_eq hg.symm)) hb); have n1_ := Aside0.mk (Kd.R_below (Kd.R_elderB (by (with_reducible repeat (first | apply Kd.R_alloc | apply Kd.R_drewN | apply Kd.R_drew)); exact HO_120.out) gb156 (Nat.le_of_eq hg.symm)) hb); have n2_ := Aside0.mk (below_step (by repeat (first | (with_reducible first | exact HB.out | apply below_alloc | apply pw_below_drewN | apply below_drew1) | exact HB.out)) hb); have n3_ := Aside0.mk (hbox); have n4_ := Aside0.mk ((by rw [hg]; exact (below_size (by repeat (first | (with_reducible first | exact HB.out | apply below_alloc | apply pw_below_drewN | apply below_drew1) | exact HB.out))) : w.heap.size ≤ gb156)); have n5_ := Aside0.mk ((by rw [hg]; exact (below_size (by repeat (first | (with_reducible first | exact HB.out | apply below_alloc | apply pw_below_drewN | apply below_drew1) | exact HB.out))) : w.heap.size ≤ gb156)); clear HO_6; clear HO_120; clear HB; have HO_6 := n0_; have HO_120 := n1_; have HB := n2_; have BK156 := n3_; have GW156 := n4_; have GE156 := n5_; clear n0_ n1_ n2_ n3_ n4_ n5_; clear hb hbox hg; have hcz45_0 : w44.cell? ⟨gb156, 0, none⟩ = some (.int .i64 0) := (blk_cell BK156.out 0).trans rfl; have hcz45_1 : w44.cell? ⟨gb156, 1, none⟩ = some (.string (⟨#[]⟩ : ByteArray)) := (blk_cell BK156.out 1).trans rfl; have hcz45_2 : w44.cell? ⟨gb156, 2, none⟩ = some (.int .i64 0) := (blk_cell BK156.out 2).trans rfl; have hcz45_3 : w44.cell? ⟨gb156, 3, none⟩ = some (.int .i64 0) := (blk_cell BK156.out 3).trans rfl; have hfz45_0 := blk_frozen BK156.out 0; have hfz45_1 := blk_frozen BK156.out 1; have hfz45_2 := blk_frozen BK156.out 2; have hfz45_3 := blk_frozen BK156.out 3)))
                                          (try simp only [Act.put, List.setIfInBounds_toArray, List.set_cons_zero, List.set_cons_succ])
                                          go_cut [146] (fun v146 wc => ∃ (kq : Nat) (x146_42 : Bool), v146 = .bool x146_42 ∧ Aside0 (spinneylaw05_TokenPlaces.j4 kq ji27 t137 t138 ((rd_T30 t138 (ji27)).f3) x122_4 t150 (t150.length : Int) x122_4 x146_42 ((rd_T30 t150 x122_4).f0) ((rd_T30 t150 x122_4).f1) ((rd_T30 t150 x122_4).f2) (wrap64 (((rd_T30 t150 x122_4).f3) + ((rd_T30 t138 (ji27)).f3))) = some r) ∧ Aside0 (kq ≤ k4) ∧ Aside0 (Kd.R k30 30 wc w.heap.size (fun k_ => some k_ ≠ ((.slice (some ad155) t150.length co39) : Value).ownBlock ∧ k_ ≠ gb156) (.slice (some ad149) t138.length co34) t138) ∧ Aside0 (Kd.R k30 30 wc w.heap.size (fun k_ => some k_ ≠ ((.slice (some ad149) t138.length co34) : Value).ownBlock ∧ k_ ≠ gb156) (.slice (some ad155) t150.length co39) t150) ∧ Aside0 (wc.heap[gb156]? = some (.cells #[.int .i64 ((rd_T30 t150 x122_4).f0), .string ((rd_T30 t150 x122_4).f1), .int .i64 ((rd_T30 t150 x122_4).f2), .int .i64 (wrap64 (((rd_T30 t150 x122_4).f3) + ((rd_T30 t138 (ji27)).f3)))] 30 (0, 0))) ∧ Aside0 (Below w.heap.size w wc))
                                          case first =>
                                            have H := HC43.out
                                            clear HC43
                                            by_cases c46 : x122_4 = 0
                                            · rw [if_pos c46] at H
                                              have c46b0 : (x122_4 == 0) = true := beq_iff_eq.mpr c46
                                              have c46b1 : (x122_4 != 0) = false := bne_eq_false_iff_eq.mpr c46
                                              clear c46
                                              (first | rw [c46b0] | (simp only [i64_w, i32_w]; rw [c46b0]) | skip)
                                              by_cases c47 : 0 ≤ ji27
                                              · rw [if_pos c47] at H
                                                have c47b0 : decide (0 ≤ ji27) = true := decide_eq_true c47
                                                clear c47
                                                by_cases c48 : ji27 < (t138.length : Int)
                                                · rw [if_pos c48] at H
                                                  have c48b0 : decide (ji27 < (t138.length : Int)) = true := decide_eq_true c48
                                                  clear c48
                                                  by_cases c49 : ((rd_T30 t138 ji27).f0) = 7
                                                  · rw [if_pos c49] at H
                                                    have c49b0 : (((rd_T30 t138 ji27).f0) == 7) = true := beq_iff_eq.mpr c49
                                                    have c49b1 : (((rd_T30 t138 ji27).f0) != 7) = false := bne_eq_false_iff_eq.mpr c49
                                                    clear c49
                                                    have H' := Aside0.mk H
                                                    clear H
                                                    have p157 : 0 ≤ (ji27 : Int) := of_decide_eq_true (by first | (with_reducible assumption) | assumption)
                                                    have q157 : ji27 < (t138.length : Int) := of_decide_eq_true (by first | (with_reducible assumption) | assumption)
                                                    obtain ⟨ad157, e157, hx157_0, hx157_1, hx157_2, hx157_3⟩ := at_T30 (Kd.R_reads' HO_6.out).2.2 ji27 p157 q157
                                                    obtain rfl : ad149 = ad157 := (by injection e157)
                                                    have hn157_0 : ad149.block ≠ gb156 := Kd.own_blk ((show _ ≠ _ from by first | exact Kd.R_ne HO_6.out BK156.out (by decide) | exact NE156_HO_6.out))
                                                    have hn157_1 : ad149.block ≠ gb156 := Kd.own_blk ((show _ ≠ _ from by first | exact Kd.R_ne HO_6.out BK156.out (by decide) | exact NE156_HO_6.out))
                                                    have hn157_2 : ad149.block ≠ gb156 := Kd.own_blk ((show _ ≠ _ from by first | exact Kd.R_ne HO_6.out BK156.out (by decide) | exact NE156_HO_6.out))
                                                    have hn157_3 : ad149.block ≠ gb156 := Kd.own_blk ((show _ ≠ _ from by first | exact Kd.R_ne HO_6.out BK156.out (by decide) | exact NE156_HO_6.out))
                                                    have hn157_4 : ad149.block ≠ gb156 := Kd.own_blk ((show _ ≠ _ from by first | exact Kd.R_ne HO_6.out BK156.out (by decide) | exact NE156_HO_6.out))
                                                    replace hx157_0 := (cell_far (p := ⟨gb156, 0, none⟩) (by first | (rw [add_block]; exact hn157_0) | (show (Addr.add _ _).block ≠ _; rw [add_block]; exact hn157_0) | exact hn157_0) (.int .i64 ((rd_T30 t150 x122_4).f0))).trans hx157_0
                                                    replace hx157_1 := (cell_far (p := ⟨gb156, 0, none⟩) (by first | (rw [add_block]; exact hn157_0) | (show (Addr.add _ _).block ≠ _; rw [add_block]; exact hn157_0) | exact hn157_0) (.int .i64 ((rd_T30 t150 x122_4).f0))).trans hx157_1
                                                    replace hx157_2 := (cell_far (p := ⟨gb156, 0, none⟩) (by first | (rw [add_block]; exact hn157_0) | (show (Addr.add _ _).block ≠ _; rw [add_block]; exact hn157_0) | exact hn157_0) (.int .i64 ((rd_T30 t150 x122_4).f0))).trans hx157_2
                                                    replace hx157_3 := (cell_far (p := ⟨gb156, 0, none⟩) (by first | (rw [add_block]; exact hn157_0) | (show (Addr.add _ _).block ≠ _; rw [add_block]; exact hn157_0) | exact hn157_0) (.int .i64 ((rd_T30 t150 x122_4).f0))).trans hx157_3
                                                    replace hx157_0 := (cell_far (p := ⟨gb156, 1, none⟩) (by first | (rw [add_block]; exact hn157_1) | (show (Addr.add _ _).block ≠ _; rw [add_block]; exact hn157_1) | exact hn157_1) (.string ((rd_T30 t150 x122_4).f1))).trans hx157_0
                                                    replace hx157_1 := (cell_far (p := ⟨gb156, 1, none⟩) (by first | (rw [add_block]; exact hn157_1) | (show (Addr.add _ _).block ≠ _; rw [add_block]; exact hn157_1) | exact hn157_1) (.string ((rd_T30 t150 x122_4).f1))).trans hx157_1
                                                    replace hx157_2 := (cell_far (p := ⟨gb156, 1, none⟩) (by first | (rw [add_block]; exact hn157_1) | (show (Addr.add _ _).block ≠ _; rw [add_block]; exact hn157_1) | exact hn157_1) (.string ((rd_T30 t150 x122_4).f1))).trans hx157_2
                                                    replace hx157_3 := (cell_far (p := ⟨gb156, 1, none⟩) (by first | (rw [add_block]; exact hn157_1) | (show (Addr.add _ _).block ≠ _; rw [add_block]; exact hn157_1) | exact hn157_1) (.string ((rd_T30 t150 x122_4).f1))).trans hx157_3
                                                    replace hx157_0 := (cell_far (p := ⟨gb156, 2, none⟩) (by first | (rw [add_block]; exact hn157_2) | (show (Addr.add _ _).block ≠ _; rw [add_block]; exact hn157_2) | exact hn157_2) (.int .i64 ((rd_T30 t150 x122_4).f2))).trans hx157_0
                                                    replace hx157_1 := (cell_far (p := ⟨gb156, 2, none⟩) (by first | (rw [add_block]; exact hn157_2) | (show (Addr.add _ _).block ≠ _; rw [add_block]; exact hn157_2) | exact hn157_2) (.int .i64 ((rd_T30 t150 x122_4).f2))).trans hx157_1
                                                    replace hx157_2 := (cell_far (p := ⟨gb156, 2, none⟩) (by first | (rw [add_block]; exact hn157_2) | (show (Addr.add _ _).block ≠ _; rw [add_block]; exact hn157_2) | exact hn157_2) (.int .i64 ((rd_T30 t150 x122_4).f2))).trans hx157_2
                                                    replace hx157_3 := (cell_far (p := ⟨gb156, 2, none⟩) (by first | (rw [add_block]; exact hn157_2) | (show (Addr.add _ _).block ≠ _; rw [add_block]; exact hn157_2) | exact hn157_2) (.int .i64 ((rd_T30 t150 x122_4).f2))).trans hx157_3
                                                    replace hx157_0 := (cell_far (p := ⟨gb156, 3, none⟩) (by first | (rw [add_block]; exact hn157_3) | (show (Addr.add _ _).block ≠ _; rw [add_block]; exact hn157_3) | exact hn157_3) (.int .i64 ((rd_T30 t150 x122_4).f3))).trans hx157_0
                                                    replace hx157_1 := (cell_far (p := ⟨gb156, 3, none⟩) (by first | (rw [add_block]; exact hn157_3) | (show (Addr.add _ _).block ≠ _; rw [add_block]; exact hn157_3) | exact hn157_3) (.int .i64 ((rd_T30 t150 x122_4).f3))).trans hx157_1
                                                    replace hx157_2 := (cell_far (p := ⟨gb156, 3, none⟩) (by first | (rw [add_block]; exact hn157_3) | (show (Addr.add _ _).block ≠ _; rw [add_block]; exact hn157_3) | exact hn157_3) (.int .i64 ((rd_T30 t150 x122_4).f3))).trans hx157_2
                                                    replace hx157_3 := (cell_far (p := ⟨gb156, 3, none⟩) (by first | (rw [add_block]; exact hn157_3) | (show (Addr.add _ _).block ≠ _; rw [add_block]; exact hn157_3) | exact hn157_3) (.int .i64 ((rd_T30 t150 x122_4).f3))).trans hx157_3
                                                    replace hx157_0 := (cell_far (p := ⟨gb156, 3, none⟩) (by first | (rw [add_block]; exact hn157_4) | (show (Addr.add _ _).block ≠ _; rw [add_block]; exact hn157_4) | exact hn157_4) (.int .i64 (wrap64 (((rd_T30 t150 x122_4).f3) + ((rd_T30 t138 (ji27)).f3))))).trans hx157_0
                                                    replace hx157_1 := (cell_far (p := ⟨gb156, 3, none⟩) (by first | (rw [add_block]; exact hn157_4) | (show (Addr.add _ _).block ≠ _; rw [add_block]; exact hn157_4) | exact hn157_4) (.int .i64 (wrap64 (((rd_T30 t150 x122_4).f3) + ((rd_T30 t138 (ji27)).f3))))).trans hx157_1
                                                    replace hx157_2 := (cell_far (p := ⟨gb156, 3, none⟩) (by first | (rw [add_block]; exact hn157_4) | (show (Addr.add _ _).block ≠ _; rw [add_block]; exact hn157_4) | exact hn157_4) (.int .i64 (wrap64 (((rd_T30 t150 x122_4).f3) + ((rd_T30 t138 (ji27)).f3))))).trans hx157_2
                                                    replace hx157_3 := (cell_far (p := ⟨gb156, 3, none⟩) (by first | (rw [add_block]; exact hn157_4) | (show (Addr.add _ _).block ≠ _; rw [add_block]; exact hn157_4) | exact hn157_4) (.int .i64 (wrap64 (((rd_T30 t150 x122_4).f3) + ((rd_T30 t138 (ji27)).f3))))).trans hx157_3
                                                    (try have hy157_0 := fun (n_ : Nat) => (show (((((((w44.drewN n_).setCell ⟨gb156, 0, none⟩ (.int .i64 ((rd_T30 t150 x122_4).f0))).setCell ⟨gb156, 1, none⟩ (.string ((rd_T30 t150 x122_4).f1))).setCell ⟨gb156, 2, none⟩ (.int .i64 ((rd_T30 t150 x122_4).f2))).setCell ⟨gb156, 3, none⟩ (.int .i64 ((rd_T30 t150 x122_4).f3))).setCell ⟨gb156, 3, none⟩ (.int .i64 (wrap64 (((rd_T30 t150 x122_4).f3) + ((rd_T30 t138 (ji27)).f3)))))).cell? _ = some _ from hx157_0))
                                                    (try have hy157_1 := fun (n_ : Nat) => (show (((((((w44.drewN n_).setCell ⟨gb156, 0, none⟩ (.int .i64 ((rd_T30 t150 x122_4).f0))).setCell ⟨gb156, 1, none⟩ (.string ((rd_T30 t150 x122_4).f1))).setCell ⟨gb156, 2, none⟩ (.int .i64 ((rd_T30 t150 x122_4).f2))).setCell ⟨gb156, 3, none⟩ (.int .i64 ((rd_T30 t150 x122_4).f3))).setCell ⟨gb156, 3, none⟩ (.int .i64 (wrap64 (((rd_T30 t150 x122_4).f3) + ((rd_T30 t138 (ji27)).f3)))))).cell? _ = some _ from hx157_1))
                                                    (try have hy157_2 := fun (n_ : Nat) => (show (((((((w44.drewN n_).setCell ⟨gb156, 0, none⟩ (.int .i64 ((rd_T30 t150 x122_4).f0))).setCell ⟨gb156, 1, none⟩ (.string ((rd_T30 t150 x122_4).f1))).setCell ⟨gb156, 2, none⟩ (.int .i64 ((rd_T30 t150 x122_4).f2))).setCell ⟨gb156, 3, none⟩ (.int .i64 ((rd_T30 t150 x122_4).f3))).setCell ⟨gb156, 3, none⟩ (.int .i64 (wrap64 (((rd_T30 t150 x122_4).f3) + ((rd_T30 t138 (ji27)).f3)))))).cell? _ = some _ from hx157_2))
                                                    (try have hy157_3 := fun (n_ : Nat) => (show (((((((w44.drewN n_).setCell ⟨gb156, 0, none⟩ (.int .i64 ((rd_T30 t150 x122_4).f0))).setCell ⟨gb156, 1, none⟩ (.string ((rd_T30 t150 x122_4).f1))).setCell ⟨gb156, 2, none⟩ (.int .i64 ((rd_T30 t150 x122_4).f2))).setCell ⟨gb156, 3, none⟩ (.int .i64 ((rd_T30 t150 x122_4).f3))).setCell ⟨gb156, 3, none⟩ (.int .i64 (wrap64 (((rd_T30 t150 x122_4).f3) + ((rd_T30 t138 (ji27)).f3)))))).cell? _ = some _ from hx157_3))
                                                    clear hn157_0
                                                    clear hn157_1
                                                    clear hn157_2
                                                    clear hn157_3
                                                    clear hn157_4
                                                    replace p157 := eq_true p157
                                                    replace q157 := eq_true q157
                                                    have hcz50_0 : w44.cell? ⟨gb156, 0, none⟩ = some (.int .i64 0) := (blk_cell BK156.out 0).trans rfl
                                                    have hcz50_1 : w44.cell? ⟨gb156, 1, none⟩ = some (.string (⟨#[]⟩ : ByteArray)) := (blk_cell BK156.out 1).trans rfl
                                                    have hcz50_2 : w44.cell? ⟨gb156, 2, none⟩ = some (.int .i64 0) := (blk_cell BK156.out 2).trans rfl
                                                    have hcz50_3 : w44.cell? ⟨gb156, 3, none⟩ = some (.int .i64 0) := (blk_cell BK156.out 3).trans rfl
                                                    have hfz50_0 := blk_frozen BK156.out 0
                                                    have hfz50_1 := blk_frozen BK156.out 1
                                                    have hfz50_2 := blk_frozen BK156.out 2
                                                    have hfz50_3 := blk_frozen BK156.out 3
                                                    go_wp2
                                                    repeat (go_quiet (fail); try go_wp2)
                                                    go_meet
                                                    case rel => exact ⟨_, ((((rd_T30 t150 x122_4).f0) == 6)), (by first | rfl | (simp; done) | (simp [*]; done)), H', ⟨by have := HJ5.out; have := HK2.out; have := HJ32.out; have := HK4.out; first | omega | exact Nat.le_refl _⟩, ⟨by (with_reducible repeat (first | apply Kd.R_alloc | apply Kd.R_drewN | apply Kd.R_drew)); exact Kd.R_mono (Kd.R_far (p := ⟨gb156, 3, none⟩) (Kd.R_far (p := ⟨gb156, 3, none⟩) (Kd.R_far (p := ⟨gb156, 2, none⟩) (Kd.R_far (p := ⟨gb156, 1, none⟩) (Kd.R_far (p := ⟨gb156, 0, none⟩) (Kd.R_mono HO_6.out (fun k_ hk => (⟨hk, hk.2⟩ : _ ∧ k_ ≠ gb156))) (fun _ hk => hk.2) (.int .i64 ((rd_T30 t150 x122_4).f0))) (fun _ hk => hk.2) (.string ((rd_T30 t150 x122_4).f1))) (fun _ hk => hk.2) (.int .i64 ((rd_T30 t150 x122_4).f2))) (fun _ hk => hk.2) (.int .i64 ((rd_T30 t150 x122_4).f3))) (fun _ hk => hk.2) (.int .i64 (wrap64 (((rd_T30 t150 x122_4).f3) + ((rd_T30 t138 (ji27)).f3))))) (fun _ hk => ⟨hk.1.1, hk.1.2⟩)⟩, ⟨by (with_reducible repeat (first | apply Kd.R_alloc | apply Kd.R_drewN | apply Kd.R_drew)); exact Kd.R_mono (Kd.R_far (p := ⟨gb156, 3, none⟩) (Kd.R_far (p := ⟨gb156, 3, none⟩) (Kd.R_far (p := ⟨gb156, 2, none⟩) (Kd.R_far (p := ⟨gb156, 1, none⟩) (Kd.R_far (p := ⟨gb156, 0, none⟩) (Kd.R_mono HO_120.out (fun k_ hk => (⟨hk, hk.2⟩ : _ ∧ k_ ≠ gb156))) (fun _ hk => hk.2) (.int .i64 ((rd_T30 t150 x122_4).f0))) (fun _ hk => hk.2) (.string ((rd_T30 t150 x122_4).f1))) (fun _ hk => hk.2) (.int .i64 ((rd_T30 t150 x122_4).f2))) (fun _ hk => hk.2) (.int .i64 ((rd_T30 t150 x122_4).f3))) (fun _ hk => hk.2) (.int .i64 (wrap64 (((rd_T30 t150 x122_4).f3) + ((rd_T30 t138 (ji27)).f3))))) (fun _ hk => ⟨hk.1.1, hk.1.2⟩)⟩, ⟨by (with_reducible repeat (first | refine blk_drewN ?_ _ | refine blk_drew ?_ | refine blk_alloc ?_ _)); refine blk_put (cs := #[.int .i64 ((rd_T30 t150 x122_4).f0), .string ((rd_T30 t150 x122_4).f1), .int .i64 ((rd_T30 t150 x122_4).f2), .int .i64 ((rd_T30 t150 x122_4).f3)]) ?_ 3 _ rfl; (with_reducible repeat (first | refine blk_drewN ?_ _ | refine blk_drew ?_ | refine blk_alloc ?_ _)); refine blk_put (cs := #[.int .i64 ((rd_T30 t150 x122_4).f0), .string ((rd_T30 t150 x122_4).f1), .int .i64 ((rd_T30 t150 x122_4).f2), .int .i64 0]) ?_ 3 _ rfl; (with_reducible repeat (first | refine blk_drewN ?_ _ | refine blk_drew ?_ | refine blk_alloc ?_ _)); refine blk_put (cs := #[.int .i64 ((rd_T30 t150 x122_4).f0), .string ((rd_T30 t150 x122_4).f1), .int .i64 0, .int .i64 0]) ?_ 2 _ rfl; (with_reducible repeat (first | refine blk_drewN ?_ _ | refine blk_drew ?_ | refine blk_alloc ?_ _)); refine blk_put (cs := #[.int .i64 ((rd_T30 t150 x122_4).f0), .string (⟨#[]⟩ : ByteArray), .int .i64 0, .int .i64 0]) ?_ 1 _ rfl; (with_reducible repeat (first | refine blk_drewN ?_ _ | refine blk_drew ?_ | refine blk_alloc ?_ _)); refine blk_put (cs := #[.int .i64 0, .string (⟨#[]⟩ : ByteArray), .int .i64 0, .int .i64 0]) ?_ 0 _ rfl; (with_reducible repeat (first | refine blk_drewN ?_ _ | refine blk_drew ?_ | refine blk_alloc ?_ _)); exact BK156.out⟩, ⟨by repeat (first | (with_reducible first | exact HB.out | apply below_alloc | apply pw_below_drewN | apply below_drew1 | refine below_set ?_ GE156.out) | exact HB.out)⟩⟩
                                                  · rw [if_neg c49] at H
                                                    have c49b0 : (((rd_T30 t138 ji27).f0) == 7) = false := beq_eq_false_iff_ne.mpr c49
                                                    have c49b1 : (((rd_T30 t138 ji27).f0) != 7) = true := bne_iff_ne.mpr c49
                                                    have H' := Aside0.mk H
                                                    clear H
                                                    have p157 : 0 ≤ (ji27 : Int) := of_decide_eq_true (by first | (with_reducible assumption) | assumption)
                                                    have q157 : ji27 < (t138.length : Int) := of_decide_eq_true (by first | (with_reducible assumption) | assumption)
                                                    obtain ⟨ad157, e157, hx157_0, hx157_1, hx157_2, hx157_3⟩ := at_T30 (Kd.R_reads' HO_6.out).2.2 ji27 p157 q157
                                                    obtain rfl : ad149 = ad157 := (by injection e157)
                                                    have hn157_0 : ad149.block ≠ gb156 := Kd.own_blk ((show _ ≠ _ from by first | exact Kd.R_ne HO_6.out BK156.out (by decide) | exact NE156_HO_6.out))
                                                    have hn157_1 : ad149.block ≠ gb156 := Kd.own_blk ((show _ ≠ _ from by first | exact Kd.R_ne HO_6.out BK156.out (by decide) | exact NE156_HO_6.out))
                                                    have hn157_2 : ad149.block ≠ gb156 := Kd.own_blk ((show _ ≠ _ from by first | exact Kd.R_ne HO_6.out BK156.out (by decide) | exact NE156_HO_6.out))
                                                    have hn157_3 : ad149.block ≠ gb156 := Kd.own_blk ((show _ ≠ _ from by first | exact Kd.R_ne HO_6.out BK156.out (by decide) | exact NE156_HO_6.out))
                                                    have hn157_4 : ad149.block ≠ gb156 := Kd.own_blk ((show _ ≠ _ from by first | exact Kd.R_ne HO_6.out BK156.out (by decide) | exact NE156_HO_6.out))
                                                    replace hx157_0 := (cell_far (p := ⟨gb156, 0, none⟩) (by first | (rw [add_block]; exact hn157_0) | (show (Addr.add _ _).block ≠ _; rw [add_block]; exact hn157_0) | exact hn157_0) (.int .i64 ((rd_T30 t150 x122_4).f0))).trans hx157_0
                                                    replace hx157_1 := (cell_far (p := ⟨gb156, 0, none⟩) (by first | (rw [add_block]; exact hn157_0) | (show (Addr.add _ _).block ≠ _; rw [add_block]; exact hn157_0) | exact hn157_0) (.int .i64 ((rd_T30 t150 x122_4).f0))).trans hx157_1
                                                    replace hx157_2 := (cell_far (p := ⟨gb156, 0, none⟩) (by first | (rw [add_block]; exact hn157_0) | (show (Addr.add _ _).block ≠ _; rw [add_block]; exact hn157_0) | exact hn157_0) (.int .i64 ((rd_T30 t150 x122_4).f0))).trans hx157_2
                                                    replace hx157_3 := (cell_far (p := ⟨gb156, 0, none⟩) (by first | (rw [add_block]; exact hn157_0) | (show (Addr.add _ _).block ≠ _; rw [add_block]; exact hn157_0) | exact hn157_0) (.int .i64 ((rd_T30 t150 x122_4).f0))).trans hx157_3
                                                    replace hx157_0 := (cell_far (p := ⟨gb156, 1, none⟩) (by first | (rw [add_block]; exact hn157_1) | (show (Addr.add _ _).block ≠ _; rw [add_block]; exact hn157_1) | exact hn157_1) (.string ((rd_T30 t150 x122_4).f1))).trans hx157_0
                                                    replace hx157_1 := (cell_far (p := ⟨gb156, 1, none⟩) (by first | (rw [add_block]; exact hn157_1) | (show (Addr.add _ _).block ≠ _; rw [add_block]; exact hn157_1) | exact hn157_1) (.string ((rd_T30 t150 x122_4).f1))).trans hx157_1
                                                    replace hx157_2 := (cell_far (p := ⟨gb156, 1, none⟩) (by first | (rw [add_block]; exact hn157_1) | (show (Addr.add _ _).block ≠ _; rw [add_block]; exact hn157_1) | exact hn157_1) (.string ((rd_T30 t150 x122_4).f1))).trans hx157_2
                                                    replace hx157_3 := (cell_far (p := ⟨gb156, 1, none⟩) (by first | (rw [add_block]; exact hn157_1) | (show (Addr.add _ _).block ≠ _; rw [add_block]; exact hn157_1) | exact hn157_1) (.string ((rd_T30 t150 x122_4).f1))).trans hx157_3
                                                    replace hx157_0 := (cell_far (p := ⟨gb156, 2, none⟩) (by first | (rw [add_block]; exact hn157_2) | (show (Addr.add _ _).block ≠ _; rw [add_block]; exact hn157_2) | exact hn157_2) (.int .i64 ((rd_T30 t150 x122_4).f2))).trans hx157_0
                                                    replace hx157_1 := (cell_far (p := ⟨gb156, 2, none⟩) (by first | (rw [add_block]; exact hn157_2) | (show (Addr.add _ _).block ≠ _; rw [add_block]; exact hn157_2) | exact hn157_2) (.int .i64 ((rd_T30 t150 x122_4).f2))).trans hx157_1
                                                    replace hx157_2 := (cell_far (p := ⟨gb156, 2, none⟩) (by first | (rw [add_block]; exact hn157_2) | (show (Addr.add _ _).block ≠ _; rw [add_block]; exact hn157_2) | exact hn157_2) (.int .i64 ((rd_T30 t150 x122_4).f2))).trans hx157_2
                                                    replace hx157_3 := (cell_far (p := ⟨gb156, 2, none⟩) (by first | (rw [add_block]; exact hn157_2) | (show (Addr.add _ _).block ≠ _; rw [add_block]; exact hn157_2) | exact hn157_2) (.int .i64 ((rd_T30 t150 x122_4).f2))).trans hx157_3
                                                    replace hx157_0 := (cell_far (p := ⟨gb156, 3, none⟩) (by first | (rw [add_block]; exact hn157_3) | (show (Addr.add _ _).block ≠ _; rw [add_block]; exact hn157_3) | exact hn157_3) (.int .i64 ((rd_T30 t150 x122_4).f3))).trans hx157_0
                                                    replace hx157_1 := (cell_far (p := ⟨gb156, 3, none⟩) (by first | (rw [add_block]; exact hn157_3) | (show (Addr.add _ _).block ≠ _; rw [add_block]; exact hn157_3) | exact hn157_3) (.int .i64 ((rd_T30 t150 x122_4).f3))).trans hx157_1
                                                    replace hx157_2 := (cell_far (p := ⟨gb156, 3, none⟩) (by first | (rw [add_block]; exact hn157_3) | (show (Addr.add _ _).block ≠ _; rw [add_block]; exact hn157_3) | exact hn157_3) (.int .i64 ((rd_T30 t150 x122_4).f3))).trans hx157_2
                                                    replace hx157_3 := (cell_far (p := ⟨gb156, 3, none⟩) (by first | (rw [add_block]; exact hn157_3) | (show (Addr.add _ _).block ≠ _; rw [add_block]; exact hn157_3) | exact hn157_3) (.int .i64 ((rd_T30 t150 x122_4).f3))).trans hx157_3
                                                    replace hx157_0 := (cell_far (p := ⟨gb156, 3, none⟩) (by first | (rw [add_block]; exact hn157_4) | (show (Addr.add _ _).block ≠ _; rw [add_block]; exact hn157_4) | exact hn157_4) (.int .i64 (wrap64 (((rd_T30 t150 x122_4).f3) + ((rd_T30 t138 (ji27)).f3))))).trans hx157_0
                                                    replace hx157_1 := (cell_far (p := ⟨gb156, 3, none⟩) (by first | (rw [add_block]; exact hn157_4) | (show (Addr.add _ _).block ≠ _; rw [add_block]; exact hn157_4) | exact hn157_4) (.int .i64 (wrap64 (((rd_T30 t150 x122_4).f3) + ((rd_T30 t138 (ji27)).f3))))).trans hx157_1
                                                    replace hx157_2 := (cell_far (p := ⟨gb156, 3, none⟩) (by first | (rw [add_block]; exact hn157_4) | (show (Addr.add _ _).block ≠ _; rw [add_block]; exact hn157_4) | exact hn157_4) (.int .i64 (wrap64 (((rd_T30 t150 x122_4).f3) + ((rd_T30 t138 (ji27)).f3))))).trans hx157_2
                                                    replace hx157_3 := (cell_far (p := ⟨gb156, 3, none⟩) (by first | (rw [add_block]; exact hn157_4) | (show (Addr.add _ _).block ≠ _; rw [add_block]; exact hn157_4) | exact hn157_4) (.int .i64 (wrap64 (((rd_T30 t150 x122_4).f3) + ((rd_T30 t138 (ji27)).f3))))).trans hx157_3
                                                    (try have hy157_0 := fun (n_ : Nat) => (show (((((((w44.drewN n_).setCell ⟨gb156, 0, none⟩ (.int .i64 ((rd_T30 t150 x122_4).f0))).setCell ⟨gb156, 1, none⟩ (.string ((rd_T30 t150 x122_4).f1))).setCell ⟨gb156, 2, none⟩ (.int .i64 ((rd_T30 t150 x122_4).f2))).setCell ⟨gb156, 3, none⟩ (.int .i64 ((rd_T30 t150 x122_4).f3))).setCell ⟨gb156, 3, none⟩ (.int .i64 (wrap64 (((rd_T30 t150 x122_4).f3) + ((rd_T30 t138 (ji27)).f3)))))).cell? _ = some _ from hx157_0))
                                                    (try have hy157_1 := fun (n_ : Nat) => (show (((((((w44.drewN n_).setCell ⟨gb156, 0, none⟩ (.int .i64 ((rd_T30 t150 x122_4).f0))).setCell ⟨gb156, 1, none⟩ (.string ((rd_T30 t150 x122_4).f1))).setCell ⟨gb156, 2, none⟩ (.int .i64 ((rd_T30 t150 x122_4).f2))).setCell ⟨gb156, 3, none⟩ (.int .i64 ((rd_T30 t150 x122_4).f3))).setCell ⟨gb156, 3, none⟩ (.int .i64 (wrap64 (((rd_T30 t150 x122_4).f3) + ((rd_T30 t138 (ji27)).f3)))))).cell? _ = some _ from hx157_1))
                                                    (try have hy157_2 := fun (n_ : Nat) => (show (((((((w44.drewN n_).setCell ⟨gb156, 0, none⟩ (.int .i64 ((rd_T30 t150 x122_4).f0))).setCell ⟨gb156, 1, none⟩ (.string ((rd_T30 t150 x122_4).f1))).setCell ⟨gb156, 2, none⟩ (.int .i64 ((rd_T30 t150 x122_4).f2))).setCell ⟨gb156, 3, none⟩ (.int .i64 ((rd_T30 t150 x122_4).f3))).setCell ⟨gb156, 3, none⟩ (.int .i64 (wrap64 (((rd_T30 t150 x122_4).f3) + ((rd_T30 t138 (ji27)).f3)))))).cell? _ = some _ from hx157_2))
                                                    (try have hy157_3 := fun (n_ : Nat) => (show (((((((w44.drewN n_).setCell ⟨gb156, 0, none⟩ (.int .i64 ((rd_T30 t150 x122_4).f0))).setCell ⟨gb156, 1, none⟩ (.string ((rd_T30 t150 x122_4).f1))).setCell ⟨gb156, 2, none⟩ (.int .i64 ((rd_T30 t150 x122_4).f2))).setCell ⟨gb156, 3, none⟩ (.int .i64 ((rd_T30 t150 x122_4).f3))).setCell ⟨gb156, 3, none⟩ (.int .i64 (wrap64 (((rd_T30 t150 x122_4).f3) + ((rd_T30 t138 (ji27)).f3)))))).cell? _ = some _ from hx157_3))
                                                    clear hn157_0
                                                    clear hn157_1
                                                    clear hn157_2
                                                    clear hn157_3
                                                    clear hn157_4
                                                    replace p157 := eq_true p157
                                                    replace q157 := eq_true q157
                                                    go_wp2
                                                    repeat (go_quiet (fail); try go_wp2)
                                                    go_meet
                                                    case rel => exact ⟨_, (false), (by first | rfl | (simp; done) | (simp [*]; done)), H', ⟨by have := HJ5.out; have := HK2.out; have := HJ32.out; have := HK4.out; first | omega | exact Nat.le_refl _⟩, ⟨by (with_reducible repeat (first | apply Kd.R_alloc | apply Kd.R_drewN | apply Kd.R_drew)); exact Kd.R_mono (Kd.R_far (p := ⟨gb156, 3, none⟩) (Kd.R_far (p := ⟨gb156, 3, none⟩) (Kd.R_far (p := ⟨gb156, 2, none⟩) (Kd.R_far (p := ⟨gb156, 1, none⟩) (Kd.R_far (p := ⟨gb156, 0, none⟩) (Kd.R_mono HO_6.out (fun k_ hk => (⟨hk, hk.2⟩ : _ ∧ k_ ≠ gb156))) (fun _ hk => hk.2) (.int .i64 ((rd_T30 t150 x122_4).f0))) (fun _ hk => hk.2) (.string ((rd_T30 t150 x122_4).f1))) (fun _ hk => hk.2) (.int .i64 ((rd_T30 t150 x122_4).f2))) (fun _ hk => hk.2) (.int .i64 ((rd_T30 t150 x122_4).f3))) (fun _ hk => hk.2) (.int .i64 (wrap64 (((rd_T30 t150 x122_4).f3) + ((rd_T30 t138 (ji27)).f3))))) (fun _ hk => ⟨hk.1.1, hk.1.2⟩)⟩, ⟨by (with_reducible repeat (first | apply Kd.R_alloc | apply Kd.R_drewN | apply Kd.R_drew)); exact Kd.R_mono (Kd.R_far (p := ⟨gb156, 3, none⟩) (Kd.R_far (p := ⟨gb156, 3, none⟩) (Kd.R_far (p := ⟨gb156, 2, none⟩) (Kd.R_far (p := ⟨gb156, 1, none⟩) (Kd.R_far (p := ⟨gb156, 0, none⟩) (Kd.R_mono HO_120.out (fun k_ hk => (⟨hk, hk.2⟩ : _ ∧ k_ ≠ gb156))) (fun _ hk => hk.2) (.int .i64 ((rd_T30 t150 x122_4).f0))) (fun _ hk => hk.2) (.string ((rd_T30 t150 x122_4).f1))) (fun _ hk => hk.2) (.int .i64 ((rd_T30 t150 x122_4).f2))) (fun _ hk => hk.2) (.int .i64 ((rd_T30 t150 x122_4).f3))) (fun _ hk => hk.2) (.int .i64 (wrap64 (((rd_T30 t150 x122_4).f3) + ((rd_T30 t138 (ji27)).f3))))) (fun _ hk => ⟨hk.1.1, hk.1.2⟩)⟩, ⟨by (with_reducible repeat (first | refine blk_drewN ?_ _ | refine blk_drew ?_ | refine blk_alloc ?_ _)); refine blk_put (cs := #[.int .i64 ((rd_T30 t150 x122_4).f0), .string ((rd_T30 t150 x122_4).f1), .int .i64 ((rd_T30 t150 x122_4).f2), .int .i64 ((rd_T30 t150 x122_4).f3)]) ?_ 3 _ rfl; (with_reducible repeat (first | refine blk_drewN ?_ _ | refine blk_drew ?_ | refine blk_alloc ?_ _)); refine blk_put (cs := #[.int .i64 ((rd_T30 t150 x122_4).f0), .string ((rd_T30 t150 x122_4).f1), .int .i64 ((rd_T30 t150 x122_4).f2), .int .i64 0]) ?_ 3 _ rfl; (with_reducible repeat (first | refine blk_drewN ?_ _ | refine blk_drew ?_ | refine blk_alloc ?_ _)); refine blk_put (cs := #[.int .i64 ((rd_T30 t150 x122_4).f0), .string ((rd_T30 t150 x122_4).f1), .int .i64 0, .int .i64 0]) ?_ 2 _ rfl; (with_reducible repeat (first | refine blk_drewN ?_ _ | refine blk_drew ?_ | refine blk_alloc ?_ _)); refine blk_put (cs := #[.int .i64 ((rd_T30 t150 x122_4).f0), .string (⟨#[]⟩ : ByteArray), .int .i64 0, .int .i64 0]) ?_ 1 _ rfl; (with_reducible repeat (first | refine blk_drewN ?_ _ | refine blk_drew ?_ | refine blk_alloc ?_ _)); refine blk_put (cs := #[.int .i64 0, .string (⟨#[]⟩ : ByteArray), .int .i64 0, .int .i64 0]) ?_ 0 _ rfl; (with_reducible repeat (first | refine blk_drewN ?_ _ | refine blk_drew ?_ | refine blk_alloc ?_ _)); exact BK156.out⟩, ⟨by repeat (first | (with_reducible first | exact HB.out | apply below_alloc | apply pw_below_drewN | apply below_drew1 | refine below_set ?_ GE156.out) | exact HB.out)⟩⟩
                                                · rw [if_neg c48] at H
                                                  exact absurd H (by simp)
                                              · rw [if_neg c47] at H
                                                exact absurd H (by simp)
                                            · rw [if_neg c46] at H
                                              have c46b0 : (x122_4 == 0) = false := beq_eq_false_iff_ne.mpr c46
                                              have c46b1 : (x122_4 != 0) = true := bne_iff_ne.mpr c46
                                              (first | rw [c46b0] | (simp only [i64_w, i32_w]; rw [c46b0]) | skip)
                                              have H' := Aside0.mk H
                                              clear H
                                              go_wp2
                                              repeat (go_quiet (fail); try go_wp2)
                                              go_meet
                                              case rel => exact ⟨_, (false), (by first | rfl | (simp; done) | (simp [*]; done)), H', ⟨by have := HJ5.out; have := HK2.out; have := HJ32.out; have := HK4.out; first | omega | exact Nat.le_refl _⟩, ⟨by (with_reducible repeat (first | apply Kd.R_alloc | apply Kd.R_drewN | apply Kd.R_drew)); exact Kd.R_mono (Kd.R_far (p := ⟨gb156, 3, none⟩) (Kd.R_far (p := ⟨gb156, 3, none⟩) (Kd.R_far (p := ⟨gb156, 2, none⟩) (Kd.R_far (p := ⟨gb156, 1, none⟩) (Kd.R_far (p := ⟨gb156, 0, none⟩) (Kd.R_mono HO_6.out (fun k_ hk => (⟨hk, hk.2⟩ : _ ∧ k_ ≠ gb156))) (fun _ hk => hk.2) (.int .i64 ((rd_T30 t150 x122_4).f0))) (fun _ hk => hk.2) (.string ((rd_T30 t150 x122_4).f1))) (fun _ hk => hk.2) (.int .i64 ((rd_T30 t150 x122_4).f2))) (fun _ hk => hk.2) (.int .i64 ((rd_T30 t150 x122_4).f3))) (fun _ hk => hk.2) (.int .i64 (wrap64 (((rd_T30 t150 x122_4).f3) + ((rd_T30 t138 (ji27)).f3))))) (fun _ hk => ⟨hk.1.1, hk.1.2⟩)⟩, ⟨by (with_reducible repeat (first | apply Kd.R_alloc | apply Kd.R_drewN | apply Kd.R_drew)); exact Kd.R_mono (Kd.R_far (p := ⟨gb156, 3, none⟩) (Kd.R_far (p := ⟨gb156, 3, none⟩) (Kd.R_far (p := ⟨gb156, 2, none⟩) (Kd.R_far (p := ⟨gb156, 1, none⟩) (Kd.R_far (p := ⟨gb156, 0, none⟩) (Kd.R_mono HO_120.out (fun k_ hk => (⟨hk, hk.2⟩ : _ ∧ k_ ≠ gb156))) (fun _ hk => hk.2) (.int .i64 ((rd_T30 t150 x122_4).f0))) (fun _ hk => hk.2) (.string ((rd_T30 t150 x122_4).f1))) (fun _ hk => hk.2) (.int .i64 ((rd_T30 t150 x122_4).f2))) (fun _ hk => hk.2) (.int .i64 ((rd_T30 t150 x122_4).f3))) (fun _ hk => hk.2) (.int .i64 (wrap64 (((rd_T30 t150 x122_4).f3) + ((rd_T30 t138 (ji27)).f3))))) (fun _ hk => ⟨hk.1.1, hk.1.2⟩)⟩, ⟨by (with_reducible repeat (first | refine blk_drewN ?_ _ | refine blk_drew ?_ | refine blk_alloc ?_ _)); refine blk_put (cs := #[.int .i64 ((rd_T30 t150 x122_4).f0), .string ((rd_T30 t150 x122_4).f1), .int .i64 ((rd_T30 t150 x122_4).f2), .int .i64 ((rd_T30 t150 x122_4).f3)]) ?_ 3 _ rfl; (with_reducible repeat (first | refine blk_drewN ?_ _ | refine blk_drew ?_ | refine blk_alloc ?_ _)); refine blk_put (cs := #[.int .i64 ((rd_T30 t150 x122_4).f0), .string ((rd_T30 t150 x122_4).f1), .int .i64 ((rd_T30 t150 x122_4).f2), .int .i64 0]) ?_ 3 _ rfl; (with_reducible repeat (first | refine blk_drewN ?_ _ | refine blk_drew ?_ | refine blk_alloc ?_ _)); refine blk_put (cs := #[.int .i64 ((rd_T30 t150 x122_4).f0), .string ((rd_T30 t150 x122_4).f1), .int .i64 0, .int .i64 0]) ?_ 2 _ rfl; (with_reducible repeat (first | refine blk_drewN ?_ _ | refine blk_drew ?_ | refine blk_alloc ?_ _)); refine blk_put (cs := #[.int .i64 ((rd_T30 t150 x122_4).f0), .string (⟨#[]⟩ : ByteArray), .int .i64 0, .int .i64 0]) ?_ 1 _ rfl; (with_reducible repeat (first | refine blk_drewN ?_ _ | refine blk_drew ?_ | refine blk_alloc ?_ _)); refine blk_put (cs := #[.int .i64 0, .string (⟨#[]⟩ : ByteArray), .int .i64 0, .int .i64 0]) ?_ 0 _ rfl; (with_reducible repeat (first | refine blk_drewN ?_ _ | refine blk_drew ?_ | refine blk_alloc ?_ _)); exact BK156.out⟩, ⟨by repeat (first | (with_reducible first | exact HB.out | apply below_alloc | apply pw_below_drewN | apply below_drew1 | refine below_set ?_ GE156.out) | exact HB.out)⟩⟩
                                          case rest =>
                                            clear HC43
                                            try clear c1
                                            try clear p1
                                            try clear q1
                                            try clear hx1
                                            try clear c2
                                            try clear p2
                                            try clear c3
                                            try clear c4
                                            try clear c5
                                            try clear c5b0
                                            try clear c5b1
                                            try clear p6
                                            try clear c9
                                            try clear c9b0
                                            try clear c9b1
                                            try clear c9b2
                                            try clear c12
                                            try clear c12b0
                                            try clear c13
                                            try clear c13b0
                                            try clear p14
                                            try clear q14
                                            try clear hx14
                                            try clear c15
                                            try clear p15
                                            try clear q15
                                            try clear hx15
                                            try clear c16
                                            try clear c16b0
                                            try clear c18
                                            try clear c18b0
                                            try clear c19
                                            try clear c19b0
                                            try clear c20
                                            try clear c20b0
                                            try clear c21
                                            try clear c21b0
                                            try clear c22
                                            try clear c22b0
                                            try clear c22b1
                                            try clear c23
                                            try clear c23b0
                                            try clear c26
                                            try clear c26b0
                                            try clear c26b1
                                            try clear c26b2
                                            try clear c28
                                            try clear c28b0
                                            try clear c29
                                            try clear c29b0
                                            try clear c30
                                            try clear c30b0
                                            try clear c30b1
                                            try clear c31
                                            try clear c31b0
                                            try clear c31b1
                                            try clear c36
                                            try clear c36b0
                                            try clear c36b1
                                            try clear c38
                                            try clear c40
                                            try clear c40b0
                                            try clear c41
                                            try clear c41b0
                                            try clear c42
                                            try clear c42b0
                                            try clear c46
                                            try clear c46b0
                                            try clear c46b1
                                            try clear c47
                                            try clear c47b0
                                            try clear c48
                                            try clear c48b0
                                            try clear c49
                                            try clear c49b0
                                            try clear c49b1
                                            try clear hcz45_0
                                            try clear hcz45_1
                                            try clear hcz45_2
                                            try clear hcz45_3
                                            try clear hcz50_0
                                            try clear hcz50_1
                                            try clear hcz50_2
                                            try clear hcz50_3
                                            try clear hfz45_0
                                            try clear hfz45_1
                                            try clear hfz45_2
                                            try clear hfz45_3
                                            try clear hfz50_0
                                            try clear hfz50_1
                                            try clear hfz50_2
                                            try clear hfz50_3
                                            try clear hx143_0
                                            try clear hx143_1
                                            try clear hx143_2
                                            try clear hx143_3
                                            try clear hx144_0
                                            try clear hx144_1
                                            try clear hx144_2
                                            try clear hx144_3
                                            try clear hx145_0
                                            try clear hx145_1
                                            try clear hx145_2
                                            try clear hx145_3
                                            try clear hx146_0
                                            try clear hx146_1
                                            try clear hx146_2
                                            try clear hx146_3
                                            try clear hx147_0
                                            try clear hx147_1
                                            try clear hx147_2
                                            try clear hx147_3
                                            try clear hx148_0
                                            try clear hx148_1
                                            try clear hx148_2
                                            try clear hx148_3
                                            try clear hx149_0
                                            try clear hx149_1
                                            try clear hx149_2
                                            try clear hx149_3
                                            try clear hx155_0
                                            try clear hx155_1
                                            try clear hx155_2
                                            try clear hx155_3
                                            try clear hx157_0
                                            try clear hx157_1
                                            try clear hx157_2
                                            try clear hx157_3
                                            try clear p1
                                            try clear p14
                                            try clear p143
                                            try clear p144
                                            try clear p145
                                            try clear p146
                                            try clear p147
                                            try clear p148
                                            try clear p149
                                            try clear p155
                                            try clear p157
                                            try clear p2
                                            try clear p6
                                            try clear q1
                                            try clear q14
                                            try clear q143
                                            try clear q144
                                            try clear q145
                                            try clear q146
                                            try clear q147
                                            try clear q148
                                            try clear q149
                                            try clear q155
                                            try clear q157
                                            obtain ⟨kq, x146_42, rfl, HA, HJ42, HO_6, HO_120, BK156, HB⟩ := hcut
                                            cases kq with
                                            | zero => exact absurd HA.out (by simp [spinneylaw05_TokenPlaces.j4])
                                            | succ kj42 =>
                                              have H := HA.out
                                              clear HA
                                              simp only [spinneylaw05_TokenPlaces.j4] at H
                                              by_cases c51 : x146_42 = true
                                              · subst c51
                                                have H1 : (if 0 ≤ (wrap64 (ji27 + x122_4)) then (if (wrap64 (ji27 + x122_4)) < (t138.length : Int) then (if (!(7 == ((rd_T30 t138 (wrap64 (ji27 + x122_4))).f0)) || (!(((rd_T30 t150 x122_4).f1).toList == (((rd_T30 t138 (wrap64 (ji27 + x122_4))).f1).toList)) || (!(((rd_T30 t150 x122_4).f2) == ((rd_T30 t138 (wrap64 (ji27 + x122_4))).f2)) || (!((wrap64 (((rd_T30 t150 x122_4).f3) + ((rd_T30 t138 (ji27)).f3))) == ((rd_T30 t138 (wrap64 (ji27 + x122_4))).f3)))))) = true then (none) else (spinneylaw05_TokenPlaces.l1 kj42 ji27 t137 t138 ((rd_T30 t138 (ji27)).f3) t150 (t150.length : Int) (wrap64 (x122_4 + 1)))) else (none)) else (none)) = some r := by rw [if_pos rfl] at H; exact H
                                                clear H
                                                have H := H1
                                                clear H1
                                                obtain ⟨ji52, hji52⟩ : ∃ j_ : Int, (wrap64 (ji27 + x122_4)) = j_ := ⟨_, rfl⟩
                                                replace H : (if 0 ≤ (ji52) then (if (ji52) < (t138.length : Int) then (if (!(7 == ((rd_T30 t138 (ji52)).f0)) || (!(((rd_T30 t150 x122_4).f1).toList == (((rd_T30 t138 (ji52)).f1).toList)) || (!(((rd_T30 t150 x122_4).f2) == ((rd_T30 t138 (ji52)).f2)) || (!((wrap64 (((rd_T30 t150 x122_4).f3) + ((rd_T30 t138 (ji27)).f3))) == ((rd_T30 t138 (ji52)).f3)))))) = true then (none) else (spinneylaw05_TokenPlaces.l1 kj42 ji27 t137 t138 ((rd_T30 t138 (ji27)).f3) t150 (t150.length : Int) (wrap64 (x122_4 + 1)))) else (none)) else (none)) = some r := by first | (rw [hji52] at H; exact H) | (simp only [hji52] at H ⊢; exact H)
                                                have hji52w : (IntKind.i64.wrap (ji27 + x122_4)) = ji52 := (i64_w _).trans hji52
                                                by_cases c53 : 0 ≤ (ji52)
                                                · rw [if_pos c53] at H
                                                  have c53b0 : decide (0 ≤ (ji52)) = true := decide_eq_true c53
                                                  clear c53
                                                  by_cases c54 : (ji52) < (t138.length : Int)
                                                  · rw [if_pos c54] at H
                                                    have c54b0 : decide ((ji52) < (t138.length : Int)) = true := decide_eq_true c54
                                                    clear c54
                                                    by_cases c55 : (!(7 == ((rd_T30 t138 (ji52)).f0)) || (!(((rd_T30 t150 x122_4).f1).toList == (((rd_T30 t138 (ji52)).f1).toList)) || (!(((rd_T30 t150 x122_4).f2) == ((rd_T30 t138 (ji52)).f2)) || (!((wrap64 (((rd_T30 t150 x122_4).f3) + ((rd_T30 t138 (ji27)).f3))) == ((rd_T30 t138 (ji52)).f3)))))) = true
                                                    · rw [if_pos c55] at H
                                                      exact absurd H (by simp)
                                                    · rw [if_neg c55] at H
                                                      have c55b0 : (!(7 == ((rd_T30 t138 (ji52)).f0)) || (!(((rd_T30 t150 x122_4).f1).toList == (((rd_T30 t138 (ji52)).f1).toList)) || (!(((rd_T30 t150 x122_4).f2) == ((rd_T30 t138 (ji52)).f2)) || (!((wrap64 (((rd_T30 t150 x122_4).f3) + ((rd_T30 t138 (ji27)).f3))) == ((rd_T30 t138 (ji52)).f3)))))) = false := by simpa using c55
                                                      clear c55
                                                      have H' := Aside0.mk H
                                                      clear H
                                                      have hcz56_0 : wc.cell? ⟨gb156, 0, none⟩ = some (.int .i64 ((rd_T30 t150 x122_4).f0)) := (blk_cell BK156.out 0).trans rfl
                                                      have hcz56_1 : wc.cell? ⟨gb156, 1, none⟩ = some (.string ((rd_T30 t150 x122_4).f1)) := (blk_cell BK156.out 1).trans rfl
                                                      have hcz56_2 : wc.cell? ⟨gb156, 2, none⟩ = some (.int .i64 ((rd_T30 t150 x122_4).f2)) := (blk_cell BK156.out 2).trans rfl
                                                      have hcz56_3 : wc.cell? ⟨gb156, 3, none⟩ = some (.int .i64 (wrap64 (((rd_T30 t150 x122_4).f3) + ((rd_T30 t138 (ji27)).f3)))) := (blk_cell BK156.out 3).trans rfl
                                                      have hfz56_0 := blk_frozen BK156.out 0
                                                      have hfz56_1 := blk_frozen BK156.out 1
                                                      have hfz56_2 := blk_frozen BK156.out 2
                                                      have hfz56_3 := blk_frozen BK156.out 3
                                                      have p158 : 0 ≤ ((ji52) : Int) := of_decide_eq_true (by first | (with_reducible assumption) | assumption)
                                                      have q158 : (ji52) < (t138.length : Int) := of_decide_eq_true (by first | (with_reducible assumption) | assumption)
                                                      obtain ⟨ad158, e158, hx158_0, hx158_1, hx158_2, hx158_3⟩ := at_T30 (Kd.R_reads' HO_6.out).2.2 (ji52) p158 q158
                                                      obtain rfl : ad149 = ad158 := (by injection e158)
                                                      have hn158_0 : ad149.block ≠ gb156 := Kd.own_blk ((show _ ≠ _ from by first | exact Kd.R_ne HO_6.out BK156.out (by decide) | exact NE156_HO_6.out))
                                                      replace hx158_0 := (cell_far (p := ⟨gb156, 0, none⟩) (by first | (rw [add_block]; exact hn158_0) | (show (Addr.add _ _).block ≠ _; rw [add_block]; exact hn158_0) | exact hn158_0) (.int .i64 7)).trans hx158_0
                                                      replace hx158_1 := (cell_far (p := ⟨gb156, 0, none⟩) (by first | (rw [add_block]; exact hn158_0) | (show (Addr.add _ _).block ≠ _; rw [add_block]; exact hn158_0) | exact hn158_0) (.int .i64 7)).trans hx158_1
                                                      replace hx158_2 := (cell_far (p := ⟨gb156, 0, none⟩) (by first | (rw [add_block]; exact hn158_0) | (show (Addr.add _ _).block ≠ _; rw [add_block]; exact hn158_0) | exact hn158_0) (.int .i64 7)).trans hx158_2
                                                      replace hx158_3 := (cell_far (p := ⟨gb156, 0, none⟩) (by first | (rw [add_block]; exact hn158_0) | (show (Addr.add _ _).block ≠ _; rw [add_block]; exact hn158_0) | exact hn158_0) (.int .i64 7)).trans hx158_3
                                                      (try have hy158_0 := fun (n_ : Nat) => (show (((wc.drewN n_).setCell ⟨gb156, 0, none⟩ (.int .i64 7))).cell? _ = some _ from hx158_0))
                                                      (try have hy158_1 := fun (n_ : Nat) => (show (((wc.drewN n_).setCell ⟨gb156, 0, none⟩ (.int .i64 7))).cell? _ = some _ from hx158_1))
                                                      (try have hy158_2 := fun (n_ : Nat) => (show (((wc.drewN n_).setCell ⟨gb156, 0, none⟩ (.int .i64 7))).cell? _ = some _ from hx158_2))
                                                      (try have hy158_3 := fun (n_ : Nat) => (show (((wc.drewN n_).setCell ⟨gb156, 0, none⟩ (.int .i64 7))).cell? _ = some _ from hx158_3))
                                                      clear hn158_0
                                                      replace p158 := eq_true p158
                                                      replace q158 := eq_true q158
                                                      go_wp2
                                                      repeat (go_quiet (fail); try go_wp2)
                                                      go_roundg kj42
                                                      case measure => have := HJ5.out; have := HK2.out; have := HJ32.out; have := HK4.out; have := HJ42.out; omega
                                                      case rel => exact ⟨(wrap64 (x122_4 + 1)), (by first | rfl | (simp; done) | (simp [*]; done)), H', ⟨by have := HJ5.out; have := HK2.out; have := HJ32.out; have := HK4.out; have := HJ42.out; omega⟩, ⟨by (with_reducible repeat (first | apply Kd.R_alloc | apply Kd.R_drewN | apply Kd.R_drew)); exact Kd.R_mono (Kd.R_far (p := ⟨gb156, 0, none⟩) (Kd.R_mono HO_6.out (fun k_ hk => (⟨hk, hk.2⟩ : _ ∧ k_ ≠ gb156))) (fun _ hk => hk.2) (.int .i64 7)) (fun _ hk => hk.1.1)⟩, ⟨by (with_reducible repeat (first | apply Kd.R_alloc | apply Kd.R_drewN | apply Kd.R_drew)); exact Kd.R_mono (Kd.R_far (p := ⟨gb156, 0, none⟩) (Kd.R_mono HO_120.out (fun k_ hk => (⟨hk, hk.2⟩ : _ ∧ k_ ≠ gb156))) (fun _ hk => hk.2) (.int .i64 7)) (fun _ hk => hk.1.1)⟩, ⟨by repeat (first | (with_reducible first | exact HB.out | apply below_alloc | apply pw_below_drewN | apply below_drew1 | refine below_set ?_ GE156.out) | exact HB.out)⟩⟩
                                                  · rw [if_neg c54] at H
                                                    exact absurd H (by simp)
                                                · rw [if_neg c53] at H
                                                  exact absurd H (by simp)
                                              · replace c51 := Bool.eq_false_iff.mpr c51
                                                subst c51
                                                have H1 : (if 0 ≤ (wrap64 (ji27 + x122_4)) then (if (wrap64 (ji27 + x122_4)) < (t138.length : Int) then (if (!(((rd_T30 t150 x122_4).f0) == ((rd_T30 t138 (wrap64 (ji27 + x122_4))).f0)) || (!(((rd_T30 t150 x122_4).f1).toList == (((rd_T30 t138 (wrap64 (ji27 + x122_4))).f1).toList)) || (!(((rd_T30 t150 x122_4).f2) == ((rd_T30 t138 (wrap64 (ji27 + x122_4))).f2)) || (!((wrap64 (((rd_T30 t150 x122_4).f3) + ((rd_T30 t138 (ji27)).f3))) == ((rd_T30 t138 (wrap64 (ji27 + x122_4))).f3)))))) = true then (none) else (spinneylaw05_TokenPlaces.l1 kj42 ji27 t137 t138 ((rd_T30 t138 (ji27)).f3) t150 (t150.length : Int) (wrap64 (x122_4 + 1)))) else (none)) else (none)) = some r := by rw [if_neg (show ¬ (false = true) by decide)] at H; exact H
                                                clear H
                                                have H := H1
                                                clear H1
                                                obtain ⟨ji57, hji57⟩ : ∃ j_ : Int, (wrap64 (ji27 + x122_4)) = j_ := ⟨_, rfl⟩
                                                replace H : (if 0 ≤ (ji57) then (if (ji57) < (t138.length : Int) then (if (!(((rd_T30 t150 x122_4).f0) == ((rd_T30 t138 (ji57)).f0)) || (!(((rd_T30 t150 x122_4).f1).toList == (((rd_T30 t138 (ji57)).f1).toList)) || (!(((rd_T30 t150 x122_4).f2) == ((rd_T30 t138 (ji57)).f2)) || (!((wrap64 (((rd_T30 t150 x122_4).f3) + ((rd_T30 t138 (ji27)).f3))) == ((rd_T30 t138 (ji57)).f3)))))) = true then (none) else (spinneylaw05_TokenPlaces.l1 kj42 ji27 t137 t138 ((rd_T30 t138 (ji27)).f3) t150 (t150.length : Int) (wrap64 (x122_4 + 1)))) else (none)) else (none)) = some r := by first | (rw [hji57] at H; exact H) | (simp only [hji57] at H ⊢; exact H)
                                                have hji57w : (IntKind.i64.wrap (ji27 + x122_4)) = ji57 := (i64_w _).trans hji57
                                                by_cases c58 : 0 ≤ (ji57)
                                                · rw [if_pos c58] at H
                                                  have c58b0 : decide (0 ≤ (ji57)) = true := decide_eq_true c58
                                                  clear c58
                                                  by_cases c59 : (ji57) < (t138.length : Int)
                                                  · rw [if_pos c59] at H
                                                    have c59b0 : decide ((ji57) < (t138.length : Int)) = true := decide_eq_true c59
                                                    clear c59
                                                    by_cases c60 : (!(((rd_T30 t150 x122_4).f0) == ((rd_T30 t138 (ji57)).f0)) || (!(((rd_T30 t150 x122_4).f1).toList == (((rd_T30 t138 (ji57)).f1).toList)) || (!(((rd_T30 t150 x122_4).f2) == ((rd_T30 t138 (ji57)).f2)) || (!((wrap64 (((rd_T30 t150 x122_4).f3) + ((rd_T30 t138 (ji27)).f3))) == ((rd_T30 t138 (ji57)).f3)))))) = true
                                                    · rw [if_pos c60] at H
                                                      exact absurd H (by simp)
                                                    · rw [if_neg c60] at H
                                                      have c60b0 : (!(((rd_T30 t150 x122_4).f0) == ((rd_T30 t138 (ji57)).f0)) || (!(((rd_T30 t150 x122_4).f1).toList == (((rd_T30 t138 (ji57)).f1).toList)) || (!(((rd_T30 t150 x122_4).f2) == ((rd_T30 t138 (ji57)).f2)) || (!((wrap64 (((rd_T30 t150 x122_4).f3) + ((rd_T30 t138 (ji27)).f3))) == ((rd_T30 t138 (ji57)).f3)))))) = false := by simpa using c60
                                                      clear c60
                                                      have H' := Aside0.mk H
                                                      clear H
                                                      have hcz61_0 : wc.cell? ⟨gb156, 0, none⟩ = some (.int .i64 ((rd_T30 t150 x122_4).f0)) := (blk_cell BK156.out 0).trans rfl
                                                      have hcz61_1 : wc.cell? ⟨gb156, 1, none⟩ = some (.string ((rd_T30 t150 x122_4).f1)) := (blk_cell BK156.out 1).trans rfl
                                                      have hcz61_2 : wc.cell? ⟨gb156, 2, none⟩ = some (.int .i64 ((rd_T30 t150 x122_4).f2)) := (blk_cell BK156.out 2).trans rfl
                                                      have hcz61_3 : wc.cell? ⟨gb156, 3, none⟩ = some (.int .i64 (wrap64 (((rd_T30 t150 x122_4).f3) + ((rd_T30 t138 (ji27)).f3)))) := (blk_cell BK156.out 3).trans rfl
                                                      have hfz61_0 := blk_frozen BK156.out 0
                                                      have hfz61_1 := blk_frozen BK156.out 1
                                                      have hfz61_2 := blk_frozen BK156.out 2
                                                      have hfz61_3 := blk_frozen BK156.out 3
                                                      have p159 : 0 ≤ ((ji57) : Int) := of_decide_eq_true (by first | (with_reducible assumption) | assumption)
                                                      have q159 : (ji57) < (t138.length : Int) := of_decide_eq_true (by first | (with_reducible assumption) | assumption)
                                                      obtain ⟨ad159, e159, hx159_0, hx159_1, hx159_2, hx159_3⟩ := at_T30 (Kd.R_reads' HO_6.out).2.2 (ji57) p159 q159
                                                      obtain rfl : ad149 = ad159 := (by injection e159)
                                                      replace p159 := eq_true p159
                                                      replace q159 := eq_true q159
                                                      go_wp2
                                                      repeat (go_quiet (fail); try go_wp2)
                                                      go_roundg kj42
                                                      case measure => have := HJ5.out; have := HK2.out; have := HJ32.out; have := HK4.out; have := HJ42.out; omega
                                                      case rel => exact ⟨(wrap64 (x122_4 + 1)), (by first | rfl | (simp; done) | (simp [*]; done)), H', ⟨by have := HJ5.out; have := HK2.out; have := HJ32.out; have := HK4.out; have := HJ42.out; omega⟩, ⟨by (with_reducible repeat (first | apply Kd.R_alloc | apply Kd.R_drewN | apply Kd.R_drew)); exact Kd.R_mono HO_6.out (fun _ hk => hk.1)⟩, ⟨by (with_reducible repeat (first | apply Kd.R_alloc | apply Kd.R_drewN | apply Kd.R_drew)); exact Kd.R_mono HO_120.out (fun _ hk => hk.1)⟩, ⟨by repeat (first | (with_reducible first | exact HB.out | apply below_alloc | apply pw_below_drewN | apply below_drew1 | refine below_set ?_ GE156.out) | exact HB.out)⟩⟩
                                                  · rw [if_neg c59] at H
                                                    exact absurd H (by simp)
                                                · rw [if_neg c58] at H
                                                  exact absurd H (by simp)
                                        · rw [if_neg c42] at H
                                          exact absurd H (by simp)
                                      · rw [if_neg c41] at H
                                        exact absurd H (by simp)
                                    · rw [if_neg c40] at H
                                      have c40b0 : decide (x122_4 < (t150.length : Int)) = false := decide_eq_false c40
                                      clear c40
                                      obtain rfl := Option.some.inj H
                                      go_wp2
                                      repeat (go_quiet (fail); try go_wp2)
                                      go_ret
                                      exact ⟨by first | rfl | (simp [errW_none, errW_some] <;> rfl) | (simp only [← hji27]; first | rfl | (simp [errW_none, errW_some] <;> rfl)) | (simp [*, errW_none, errW_some] <;> rfl), by repeat (first | (with_reducible first | exact HB.out | apply below_alloc | apply pw_below_drewN | apply below_drew1) | exact HB.out)⟩
                        · rw [if_neg c31] at H
                          exact absurd H (by simp)
                      · rw [if_neg c30] at H
                        exact absurd H (by simp)
                    · rw [if_neg c29] at H
                      exact absurd H (by simp)
                  · rw [if_neg c28] at H
                    exact absurd H (by simp)
  · rw [if_neg c5] at H
    have c5b0 : (t140 == 0) = false := beq_eq_false_iff_ne.mpr c5
    have c5b1 : (t140 != 0) = true := bne_iff_ne.mpr c5
    by_cases c62 : t137 = true
    · subst c62
      have H1 : (some ((t138.length : Int) == 0)) = some r := by rw [if_pos rfl] at H; exact H
      clear H
      have H := H1
      clear H1
      obtain rfl := Option.some.inj H
      go_enter Tryd.func4, Tryd.ntmps4
      go_wp2_with (first | (go_at_call 9; (with_reducible refine (spinneylaw05_live.calls  true _ A3.out (HT.out.below (by first | exact Below.refl _ _ | (repeat (first | (with_reducible first | exact HB.out | apply below_alloc | apply pw_below_drewN | apply below_drew1 | refine below_set ?_ GE156.out) | exact HB.out))))).mono ?_); rintro e w63 ⟨rfl, hb⟩; have n0_ := Aside0.mk (below_step (by repeat (first | (with_reducible first | exact HB.out | apply below_alloc | apply pw_below_drewN | apply below_drew1) | exact HB.out)) hb); clear HB; have HB := n0_; clear n0_; (try clear hb); (try clear hb2); (try clear hk); (try clear hi)) | (go_at_call 10; (with_reducible refine (token_Cut.calls a0 t138 t139 t140 _ A4.out (HT.out.below (by first | exact Below.refl _ _ | (repeat (first | (with_reducible first | exact HB.out | apply below_alloc | apply pw_below_drewN | apply below_drew1 | refine below_set ?_ GE156.out) | exact HB.out))))).mono ?_); rintro e w64 ⟨v141, rfl, ho0, hb⟩; have n0_ := Aside0.mk (Kd.R_lower ho0 (below_size (by repeat (first | (with_reducible first | exact HB.out | apply below_alloc | apply pw_below_drewN | apply below_drew1) | exact HB.out)))); have n1_ := Aside0.mk (below_step (by repeat (first | (with_reducible first | exact HB.out | apply below_alloc | apply pw_below_drewN | apply below_drew1) | exact HB.out)) hb); clear HB; have HO142 := n0_; have HB := n1_; clear n0_ n1_; (try clear hb); (try clear hb2); (try clear hk); (try clear hi); (try clear ho0); obtain ⟨Ao65, co65, eo65⟩ := Kd.R_slice HO142.out; subst eo65))
      repeat (go_quiet (first | (go_at_call 9; (with_reducible refine (spinneylaw05_live.calls  true _ A3.out (HT.out.below (by first | exact Below.refl _ _ | (repeat (first | (with_reducible first | exact HB.out | apply below_alloc | apply pw_below_drewN | apply below_drew1 | refine below_set ?_ GE156.out) | exact HB.out))))).mono ?_); rintro e w63 ⟨rfl, hb⟩; have n0_ := Aside0.mk (below_step (by repeat (first | (with_reducible first | exact HB.out | apply below_alloc | apply pw_below_drewN | apply below_drew1) | exact HB.out)) hb); clear HB; have HB := n0_; clear n0_; (try clear hb); (try clear hb2); (try clear hk); (try clear hi)) | (go_at_call 10; (with_reducible refine (token_Cut.calls a0 t138 t139 t140 _ A4.out (HT.out.below (by first | exact Below.refl _ _ | (repeat (first | (with_reducible first | exact HB.out | apply below_alloc | apply pw_below_drewN | apply below_drew1 | refine below_set ?_ GE156.out) | exact HB.out))))).mono ?_); rintro e w64 ⟨v141, rfl, ho0, hb⟩; have n0_ := Aside0.mk (Kd.R_lower ho0 (below_size (by repeat (first | (with_reducible first | exact HB.out | apply below_alloc | apply pw_below_drewN | apply below_drew1) | exact HB.out)))); have n1_ := Aside0.mk (below_step (by repeat (first | (with_reducible first | exact HB.out | apply below_alloc | apply pw_below_drewN | apply below_drew1) | exact HB.out)) hb); clear HB; have HO142 := n0_; have HB := n1_; clear n0_ n1_; (try clear hb); (try clear hb2); (try clear hk); (try clear hi); (try clear ho0); obtain ⟨Ao65, co65, eo65⟩ := Kd.R_slice HO142.out; subst eo65)); try go_wp2_with (first | (go_at_call 9; (with_reducible refine (spinneylaw05_live.calls  true _ A3.out (HT.out.below (by first | exact Below.refl _ _ | (repeat (first | (with_reducible first | exact HB.out | apply below_alloc | apply pw_below_drewN | apply below_drew1 | refine below_set ?_ GE156.out) | exact HB.out))))).mono ?_); rintro e w63 ⟨rfl, hb⟩; have n0_ := Aside0.mk (below_step (by repeat (first | (with_reducible first | exact HB.out | apply below_alloc | apply pw_below_drewN | apply below_drew1) | exact HB.out)) hb); clear HB; have HB := n0_; clear n0_; (try clear hb); (try clear hb2); (try clear hk); (try clear hi)) | (go_at_call 10; (with_reducible refine (token_Cut.calls a0 t138 t139 t140 _ A4.out (HT.out.below (by first | exact Below.refl _ _ | (repeat (first | (with_reducible first | exact HB.out | apply below_alloc | apply pw_below_drewN | apply below_drew1 | refine below_set ?_ GE156.out) | exact HB.out))))).mono ?_); rintro e w64 ⟨v141, rfl, ho0, hb⟩; have n0_ := Aside0.mk (Kd.R_lower ho0 (below_size (by repeat (first | (with_reducible first | exact HB.out | apply below_alloc | apply pw_below_drewN | apply below_drew1) | exact HB.out)))); have n1_ := Aside0.mk (below_step (by repeat (first | (with_reducible first | exact HB.out | apply below_alloc | apply pw_below_drewN | apply below_drew1) | exact HB.out)) hb); clear HB; have HO142 := n0_; have HB := n1_; clear n0_ n1_; (try clear hb); (try clear hb2); (try clear hk); (try clear hi); (try clear ho0); obtain ⟨Ao65, co65, eo65⟩ := Kd.R_slice HO142.out; subst eo65)))
      go_ret
      exact ⟨by first | rfl | (simp [errW_none, errW_some] <;> rfl) | (simp [*, errW_none, errW_some] <;> rfl), by repeat (first | (with_reducible first | exact HB.out | apply below_alloc | apply pw_below_drewN | apply below_drew1) | exact HB.out)⟩
    · replace c62 := Bool.eq_false_iff.mpr c62
      subst c62
      have H1 : (none) = some r := by rw [if_neg (show ¬ (false = true) by decide)] at H; exact H
      clear H
      have H := H1
      clear H1
      exact absurd H (by simp)

/-- THE ONE PURE STATEMENT of spinneylaw05_TokenPlaces: yours. -/
def spinneylaw05_TokenPlaces.Pure : Prop := ∀ (a0 : ByteArray) (a1 : Int), a0.size ≤ 140737488351232 → (Lit.int .i64 a1).wf = true → ∃ k, spinneylaw05_TokenPlaces.f k a0 a1 = some true
theorem spinneylaw05_TokenPlaces.walk (P : spinneylaw05_TokenPlaces.Pure) (a0 : ByteArray) (a1 : Int) (w : World) (w0 : a0.size ≤ 140737488351232) (w1 : (Lit.int .i64 a1).wf = true) (hT : Tabs w) :
    Calls Tryd.prog 4 #[.string a0, .int .i64 a1] w fun e w' => e = .returned (.bool true) ∧ Below w.heap.size w w' := by
  have HT := Aside0.mk hT
  clear hT
  obtain ⟨k, h⟩ := P a0 a1 w0 w1
  refine (spinneylaw05_TokenPlaces.calls k a0 a1 true w h (HT.out.below (by first | exact Below.refl _ _ | (repeat (first | (with_reducible first | exact HB.out | apply below_alloc | apply pw_below_drewN | apply below_drew1 | refine below_set ?_ GE156.out) | exact HB.out))))).mono ?_
  rintro e w' ⟨rfl, hd⟩
  exact ⟨rfl, hd⟩

end Go.Proofs.YtjichkjnodabiaaDoor.P
