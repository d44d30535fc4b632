-- PRINTED by a program of this session over the kit's print.py.
import Derived.Test.YtmiapolhklapnaaPx0
import Derived.Test.YtmiapolhklapnaaPx3
namespace Go.Proofs.Ytmiapolhklapnaa.P
open Go.Own Go.RowKit Go.Proofs.YtmiapolhklapnaaW.PrintWords Go.Proofs.YtmiapolhklapnaaW.PrintLast Go.Proofs.YtmiapolhklapnaaW.PrintMore
attribute [local go_sem] max2_int min2_int max_two min_two max_three min_three max_four min_four   -- for this text's walks alone
set_option linter.unusedVariables false
set_option linter.unusedSimpArgs false

/-! ### arith_Holds: function 11 -/
def arith_Holds.j0 : Nat → List (S45) → Bool → Bool → Bool → Int → ByteArray → Int → List (S25) → Int → ByteArray → Int → List (S25) → Option (Bool × Int)
  | 0, _, _, _, _, _, _, _, _, _, _, _, _ => none
  | k + 1, x0, x10, x11, x12, x137000, x137001, x137002, x137003, x138000, x138001, x138002, x138003 => (arith_Eval.f k x0 x137000 x137001 x137002 x137003).bind fun bt138 => (if bt138.2 = 0 then ((arith_Eval.f k x0 x138000 x138001 x138002 x138003).bind fun bt140 => (if bt140.2 = 0 then (if x11 = true then (if bt138.1 < bt140.1 then (some ((true != x10), 0)) else (if x12 = true then (some (((bt138.1 == bt140.1) != x10), 0)) else (some ((false != x10), 0)))) else (if x12 = true then (some (((bt138.1 == bt140.1) != x10), 0)) else (some ((false != x10), 0)))) else (some (false, bt140.2)))) else (some (false, bt138.2)))
def arith_Holds.f (k : Nat) (l0 : List (S45)) (a1 : ByteArray) (a2_0 : Int) (a2_1 : ByteArray) (a2_2 : Int) (l2_3 : List (S25)) (a3_0 : Int) (a3_1 : ByteArray) (a3_2 : Int) (l3_3 : List (S25)) : Option (Bool × Int) := if a1.toList = ([61, 92, 61] : List UInt8) then (arith_Holds.j0 k l0 true false true a2_0 a2_1 a2_2 l2_3 a3_0 a3_1 a3_2 l3_3) else (if a1.toList = ([61, 58, 61] : List UInt8) then (arith_Holds.j0 k l0 false false true a2_0 a2_1 a2_2 l2_3 a3_0 a3_1 a3_2 l3_3) else (if a1.toList = ([62, 61] : List UInt8) then (arith_Holds.j0 k l0 true true false a2_0 a2_1 a2_2 l2_3 a3_0 a3_1 a3_2 l3_3) else (if a1.toList = ([60] : List UInt8) then (arith_Holds.j0 k l0 false true false a2_0 a2_1 a2_2 l2_3 a3_0 a3_1 a3_2 l3_3) else (if a1.toList = ([62] : List UInt8) then (arith_Holds.j0 k l0 true true true a2_0 a2_1 a2_2 l2_3 a3_0 a3_1 a3_2 l3_3) else (if a1.toList = ([61, 60] : List UInt8) then (arith_Holds.j0 k l0 false true true a2_0 a2_1 a2_2 l2_3 a3_0 a3_1 a3_2 l3_3) else (some (false, 1)))))))
theorem arith_Holds.mono_l : ∀ k, (∀ y0 y1 y2 y3 y4 y5 y6 y7 y8 y9 y10 y11, LeO (arith_Holds.j0 k y0 y1 y2 y3 y4 y5 y6 y7 y8 y9 y10 y11) (arith_Holds.j0 (k + 1) y0 y1 y2 y3 y4 y5 y6 y7 y8 y9 y10 y11))
  | 0 => fun _ _ _ _ _ _ _ _ _ _ _ _ r h => by simp [arith_Holds.j0] at h
  | k + 1 => by
    have ih0 := arith_Holds.mono_l k
    · intro y0 y1 y2 y3 y4 y5 y6 y7 y8 y9 y10 y11
      unfold arith_Holds.j0
      repeat' first
      | (with_reducible exact ih0 _ _ _ _ _ _ _ _ _ _ _ _)
      | (with_reducible exact arith_Eval.mono _ _ _ _ _ _)
      | (with_reducible exact LeO.refl _)
      | (with_reducible exact LeO.none _)
      | (with_reducible refine LeO.ite ?_ ?_)
      | (with_reducible refine LeO.bind ?_ (fun _ => ?_))
      | exact ih0 _ _ _ _ _ _ _ _ _ _ _ _
      | exact arith_Eval.mono _ _ _ _ _ _
      | exact LeO.none _
      | refine LeO.ite ?_ ?_
      | refine LeO.bind ?_ (fun _ => ?_)
theorem arith_Holds.mono : ∀ a0 a1 a2 a3 a4 a5 a6 a7 a8 a9 k, LeO (arith_Holds.f k a0 a1 a2 a3 a4 a5 a6 a7 a8 a9) (arith_Holds.f (k + 1) a0 a1 a2 a3 a4 a5 a6 a7 a8 a9) := by
  intro a0 a1 a2 a3 a4 a5 a6 a7 a8 a9 k
  have ih0 := arith_Holds.mono_l k
  unfold arith_Holds.f
  repeat' first
      | (with_reducible exact ih0 _ _ _ _ _ _ _ _ _ _ _ _)
      | (with_reducible exact arith_Eval.mono _ _ _ _ _ _)
      | (with_reducible exact LeO.refl _)
      | (with_reducible exact LeO.none _)
      | (with_reducible refine LeO.ite ?_ ?_)
      | (with_reducible refine LeO.bind ?_ (fun _ => ?_))
      | exact ih0 _ _ _ _ _ _ _ _ _ _ _ _
      | exact arith_Eval.mono _ _ _ _ _ _
      | exact LeO.none _
      | refine LeO.ite ?_ ?_
      | refine LeO.bind ?_ (fun _ => ?_)
set_option maxHeartbeats 8000000 in
set_option maxRecDepth 100000 in
theorem arith_Holds.calls (k : Nat) (A0 : Option Addr) (c0 : Nat) (l0 : List (S45)) (a1 : ByteArray) (a2_0 : Int) (a2_1 : ByteArray) (a2_2 : Int) (A2_3 : Option Addr) (c2_3 : Nat) (l2_3 : List (S25)) (a3_0 : Int) (a3_1 : ByteArray) (a3_2 : Int) (A3_3 : Option Addr) (c3_3 : Nat) (l3_3 : List (S25)) (r1 : Bool) (r2 : Int) (w : World) (hr0 : Kd.C k45 w A0 l0.length l0) (hc0 : l0.length ≤ c0) (hr2_3 : Kd.C k25 w A2_3 l2_3.length l2_3) (hc2_3 : l2_3.length ≤ c2_3) (hr3_3 : Kd.C k25 w A3_3 l3_3.length l3_3) (hc3_3 : l3_3.length ≤ c3_3) (h : arith_Holds.f k l0 a1 a2_0 a2_1 a2_2 l2_3 a3_0 a3_1 a3_2 l3_3 = some (r1, r2)) :
    Calls Try.prog 11 #[.slice A0 l0.length c0, .string a1, .agg #[.int .i64 a2_0, .string a2_1, .int .i64 a2_2, .slice A2_3 l2_3.length c2_3], .agg #[.int .i64 a3_0, .string a3_1, .int .i64 a3_2, .slice A3_3 l3_3.length c3_3]] w fun e w' => e = .returned (.tuple #[.bool r1, .int .i64 r2]) ∧ Below w.heap.size w w' := by
  have hu25 := Try.underlying25
  have HR0 := Aside0.mk hr0
  have HC0 := Aside0.mk hc0
  clear hr0 hc0
  have HR2_3 := Aside0.mk hr2_3
  have HC2_3 := Aside0.mk hc2_3
  clear hr2_3 hc2_3
  have HR3_3 := Aside0.mk hr3_3
  have HC3_3 := Aside0.mk hc3_3
  clear hr3_3 hc3_3
  have HB := Aside0.mk (Below.refl w.heap.size w)
  have H : (if a1.toList = ([61, 92, 61] : List UInt8) then (arith_Holds.j0 k l0 true false true a2_0 a2_1 a2_2 l2_3 a3_0 a3_1 a3_2 l3_3) else (if a1.toList = ([61, 58, 61] : List UInt8) then (arith_Holds.j0 k l0 false false true a2_0 a2_1 a2_2 l2_3 a3_0 a3_1 a3_2 l3_3) else (if a1.toList = ([62, 61] : List UInt8) then (arith_Holds.j0 k l0 true true false a2_0 a2_1 a2_2 l2_3 a3_0 a3_1 a3_2 l3_3) else (if a1.toList = ([60] : List UInt8) then (arith_Holds.j0 k l0 false true false a2_0 a2_1 a2_2 l2_3 a3_0 a3_1 a3_2 l3_3) else (if a1.toList = ([62] : List UInt8) then (arith_Holds.j0 k l0 true true true a2_0 a2_1 a2_2 l2_3 a3_0 a3_1 a3_2 l3_3) else (if a1.toList = ([61, 60] : List UInt8) then (arith_Holds.j0 k l0 false true true a2_0 a2_1 a2_2 l2_3 a3_0 a3_1 a3_2 l3_3) else (some (false, 1)))))))) = some (r1, r2) := h
  clear h
  have HC5 := Aside0.mk H
  clear H
  go_enter Try.func11, Try.ntmps11
  go_upto_block 0 with (first | ((with_reducible refine gate_dst (N := 6) rfl ?_); refine box_event ?hg (N := 6) ?hd (cs := #[.int .i64 a2_0, .string a2_1, .int .i64 a2_2, .slice A2_3 l2_3.length c2_3]) (t := 25) ?hr ?_; (case hd => rfl); (case hg => rfl); (case hr => first | (go_simp; done) | (go_simp; rfl)); intro gb136 hg w6 hbox hb; have n0_ := Aside0.mk (below_step (by repeat (first | (with_reducible first | exact HB.out | apply below_alloc | apply pw_below_drewN | apply below_drew1) | exact HB.out)) hb); have n1_ := Aside0.mk (hbox); have n2_ := Aside0.mk ((by rw [hg]; exact (below_size (by repeat (first | (with_reducible first | exact HB.out | apply below_alloc | apply pw_below_drewN | apply below_drew1) | exact HB.out))) : w.heap.size ≤ gb136)); have n3_ := Aside0.mk ((by rw [hg]; exact (below_size (by repeat (first | (with_reducible first | exact HB.out | apply below_alloc | apply pw_below_drewN | apply below_drew1) | exact HB.out))) : w.heap.size ≤ gb136)); clear HB; have HB := n0_; have BK136 := n1_; have GW136 := n2_; have GE136 := n3_; clear n0_ n1_ n2_ n3_; clear hb hbox hg) | ((with_reducible refine gate_dst (N := 7) rfl ?_); refine box_event ?hg (N := 7) ?hd (cs := #[.int .i64 a3_0, .string a3_1, .int .i64 a3_2, .slice A3_3 l3_3.length c3_3]) (t := 25) ?hr ?_; (case hd => rfl); (case hg => rfl); (case hr => first | (go_simp; done) | (go_simp; rfl)); intro gb137 hg w7 hbox hb; have n0_ := Aside0.mk (blk_below (g := gb136) (o := .cells #[.int .i64 a2_0, .string a2_1, .int .i64 a2_2, .slice A2_3 l2_3.length c2_3] 25 (0, 0)) (by (with_reducible repeat (first | refine blk_drewN ?_ _ | refine blk_drew ?_ | refine blk_alloc ?_ _)); exact BK136.out) hb); have n1_ := Aside0.mk (below_step (by repeat (first | (with_reducible first | exact HB.out | apply below_alloc | apply pw_below_drewN | apply below_drew1 | refine below_set ?_ GE136.out) | exact HB.out)) hb); have n2_ := Aside0.mk (hbox); have n3_ := Aside0.mk ((by rw [hg]; exact (below_size (by repeat (first | (with_reducible first | exact HB.out | apply below_alloc | apply pw_below_drewN | apply below_drew1 | refine below_set ?_ GE136.out) | exact HB.out))) : w.heap.size ≤ gb137)); have n4_ := Aside0.mk ((by rw [hg]; exact (below_size (by repeat (first | (with_reducible first | exact HB.out | apply below_alloc | apply pw_below_drewN | apply below_drew1 | refine below_set ?_ GE136.out) | exact HB.out))) : w.heap.size ≤ gb137)); have n5_ := Aside0.mk ((by rw [hg]; exact Nat.ne_of_lt (blk_lt (g := gb136) (o := .cells #[.int .i64 a2_0, .string a2_1, .int .i64 a2_2, .slice A2_3 l2_3.length c2_3] 25 (0, 0)) (by (with_reducible repeat (first | refine blk_drewN ?_ _ | refine blk_drew ?_ | refine blk_alloc ?_ _)); exact BK136.out)) : gb136 ≠ gb137)); have n6_ := Aside0.mk ((by rw [hg]; exact Nat.ne_of_gt (blk_lt (g := gb136) (o := .cells #[.int .i64 a2_0, .string a2_1, .int .i64 a2_2, .slice A2_3 l2_3.length c2_3] 25 (0, 0)) (by (with_reducible repeat (first | refine blk_drewN ?_ _ | refine blk_drew ?_ | refine blk_alloc ?_ _)); exact BK136.out)) : gb137 ≠ gb136)); clear BK136; clear HB; have BK136 := n0_; have HB := n1_; have BK137 := n2_; have GW137 := n3_; have GE137 := n4_; have NB136_137 := n5_; have NB137_136 := n6_; clear n0_ n1_ n2_ n3_ n4_ n5_ n6_; clear hb hbox hg))
  (try simp only [Act.put, List.setIfInBounds_toArray, List.set_cons_zero, List.set_cons_succ])
  go_cut [10, 11, 12] (fun v10 v11 v12 wc => ∃ (kq : Nat) (x10_4 : Bool) (x11_4 : Bool) (x12_4 : Bool), v10 = .bool x10_4 ∧ v11 = .bool x11_4 ∧ v12 = .bool x12_4 ∧ Aside0 (arith_Holds.j0 kq l0 x10_4 x11_4 x12_4 a2_0 a2_1 a2_2 l2_3 a3_0 a3_1 a3_2 l3_3 = some (r1, r2)) ∧ Aside0 (kq ≤ k) ∧ Aside0 (wc.heap[gb136]? = some (.cells #[.int .i64 a2_0, .string a2_1, .int .i64 a2_2, (.slice A2_3 l2_3.length c2_3)] 25 (0, 0))) ∧ Aside0 (wc.heap[gb137]? = some (.cells #[.int .i64 a3_0, .string a3_1, .int .i64 a3_2, (.slice A3_3 l3_3.length c3_3)] 25 (0, 0))) ∧ Aside0 (Below w.heap.size w wc))
  case first =>
    have H := HC5.out
    clear HC5
    by_cases c8 : a1.toList = ([61, 92, 61] : List UInt8)
    · rw [if_pos c8] at H
      have c8b0 : (a1.toList == ([61, 92, 61] : List UInt8)) = true := beq_iff_eq.mpr c8
      have c8b1 : (a1.toList != ([61, 92, 61] : List UInt8)) = false := bne_eq_false_iff_eq.mpr c8
      clear c8
      (first | rw [c8b0] | (simp only [i64_w, i32_w]; rw [c8b0]) | skip)
      have H' := Aside0.mk H
      clear H
      go_wp2
      go_meet
      case rel => exact ⟨_, (true), (false), (true), (by first | rfl | (simp; done) | (simp [*]; done)), (by first | rfl | (simp; done) | (simp [*]; done)), (by first | rfl | (simp; done) | (simp [*]; done)), H', ⟨by first | omega | exact Nat.le_refl _⟩, ⟨by (with_reducible repeat (first | refine blk_drewN ?_ _ | refine blk_drew ?_ | refine blk_alloc ?_ _)); exact BK136.out⟩, ⟨by (with_reducible repeat (first | refine blk_drewN ?_ _ | refine blk_drew ?_ | refine blk_alloc ?_ _)); exact BK137.out⟩, ⟨by repeat (first | (with_reducible first | exact HB.out | apply below_alloc | apply pw_below_drewN | apply below_drew1 | refine below_set ?_ GE136.out | refine below_set ?_ GE137.out) | exact HB.out)⟩⟩
    · rw [if_neg c8] at H
      have c8b0 : (a1.toList == ([61, 92, 61] : List UInt8)) = false := beq_eq_false_iff_ne.mpr c8
      have c8b1 : (a1.toList != ([61, 92, 61] : List UInt8)) = true := bne_iff_ne.mpr c8
      (first | rw [c8b0] | (simp only [i64_w, i32_w]; rw [c8b0]) | skip)
      by_cases c9 : a1.toList = ([61, 58, 61] : List UInt8)
      · rw [if_pos c9] at H
        have c9b0 : (a1.toList == ([61, 58, 61] : List UInt8)) = true := beq_iff_eq.mpr c9
        have c9b1 : (a1.toList != ([61, 58, 61] : List UInt8)) = false := bne_eq_false_iff_eq.mpr c9
        clear c9
        have H' := Aside0.mk H
        clear H
        go_wp2
        go_meet
        case rel => exact ⟨_, (false), (false), (true), (by first | rfl | (simp; done) | (simp [*]; done)), (by first | rfl | (simp; done) | (simp [*]; done)), (by first | rfl | (simp; done) | (simp [*]; done)), H', ⟨by first | omega | exact Nat.le_refl _⟩, ⟨by (with_reducible repeat (first | refine blk_drewN ?_ _ | refine blk_drew ?_ | refine blk_alloc ?_ _)); exact BK136.out⟩, ⟨by (with_reducible repeat (first | refine blk_drewN ?_ _ | refine blk_drew ?_ | refine blk_alloc ?_ _)); exact BK137.out⟩, ⟨by repeat (first | (with_reducible first | exact HB.out | apply below_alloc | apply pw_below_drewN | apply below_drew1 | refine below_set ?_ GE136.out | refine below_set ?_ GE137.out) | exact HB.out)⟩⟩
      · rw [if_neg c9] at H
        have c9b0 : (a1.toList == ([61, 58, 61] : List UInt8)) = false := beq_eq_false_iff_ne.mpr c9
        have c9b1 : (a1.toList != ([61, 58, 61] : List UInt8)) = true := bne_iff_ne.mpr c9
        by_cases c10 : a1.toList = ([62, 61] : List UInt8)
        · rw [if_pos c10] at H
          have c10b0 : (a1.toList == ([62, 61] : List UInt8)) = true := beq_iff_eq.mpr c10
          have c10b1 : (a1.toList != ([62, 61] : List UInt8)) = false := bne_eq_false_iff_eq.mpr c10
          clear c10
          have H' := Aside0.mk H
          clear H
          go_wp2
          go_meet
          case rel => exact ⟨_, (true), (true), (false), (by first | rfl | (simp; done) | (simp [*]; done)), (by first | rfl | (simp; done) | (simp [*]; done)), (by first | rfl | (simp; done) | (simp [*]; done)), H', ⟨by first | omega | exact Nat.le_refl _⟩, ⟨by (with_reducible repeat (first | refine blk_drewN ?_ _ | refine blk_drew ?_ | refine blk_alloc ?_ _)); exact BK136.out⟩, ⟨by (with_reducible repeat (first | refine blk_drewN ?_ _ | refine blk_drew ?_ | refine blk_alloc ?_ _)); exact BK137.out⟩, ⟨by repeat (first | (with_reducible first | exact HB.out | apply below_alloc | apply pw_below_drewN | apply below_drew1 | refine below_set ?_ GE136.out | refine below_set ?_ GE137.out) | exact HB.out)⟩⟩
        · rw [if_neg c10] at H
          have c10b0 : (a1.toList == ([62, 61] : List UInt8)) = false := beq_eq_false_iff_ne.mpr c10
          have c10b1 : (a1.toList != ([62, 61] : List UInt8)) = true := bne_iff_ne.mpr c10
          by_cases c11 : a1.toList = ([60] : List UInt8)
          · rw [if_pos c11] at H
            have c11b0 : (a1.toList == ([60] : List UInt8)) = true := beq_iff_eq.mpr c11
            have c11b1 : (a1.toList != ([60] : List UInt8)) = false := bne_eq_false_iff_eq.mpr c11
            clear c11
            have H' := Aside0.mk H
            clear H
            go_wp2
            go_meet
            case rel => exact ⟨_, (false), (true), (false), (by first | rfl | (simp; done) | (simp [*]; done)), (by first | rfl | (simp; done) | (simp [*]; done)), (by first | rfl | (simp; done) | (simp [*]; done)), H', ⟨by first | omega | exact Nat.le_refl _⟩, ⟨by (with_reducible repeat (first | refine blk_drewN ?_ _ | refine blk_drew ?_ | refine blk_alloc ?_ _)); exact BK136.out⟩, ⟨by (with_reducible repeat (first | refine blk_drewN ?_ _ | refine blk_drew ?_ | refine blk_alloc ?_ _)); exact BK137.out⟩, ⟨by repeat (first | (with_reducible first | exact HB.out | apply below_alloc | apply pw_below_drewN | apply below_drew1 | refine below_set ?_ GE136.out | refine below_set ?_ GE137.out) | exact HB.out)⟩⟩
          · rw [if_neg c11] at H
            have c11b0 : (a1.toList == ([60] : List UInt8)) = false := beq_eq_false_iff_ne.mpr c11
            have c11b1 : (a1.toList != ([60] : List UInt8)) = true := bne_iff_ne.mpr c11
            by_cases c12 : a1.toList = ([62] : List UInt8)
            · rw [if_pos c12] at H
              have c12b0 : (a1.toList == ([62] : List UInt8)) = true := beq_iff_eq.mpr c12
              have c12b1 : (a1.toList != ([62] : List UInt8)) = false := bne_eq_false_iff_eq.mpr c12
              clear c12
              have H' := Aside0.mk H
              clear H
              go_wp2
              go_meet
              case rel => exact ⟨_, (true), (true), (true), (by first | rfl | (simp; done) | (simp [*]; done)), (by first | rfl | (simp; done) | (simp [*]; done)), (by first | rfl | (simp; done) | (simp [*]; done)), H', ⟨by first | omega | exact Nat.le_refl _⟩, ⟨by (with_reducible repeat (first | refine blk_drewN ?_ _ | refine blk_drew ?_ | refine blk_alloc ?_ _)); exact BK136.out⟩, ⟨by (with_reducible repeat (first | refine blk_drewN ?_ _ | refine blk_drew ?_ | refine blk_alloc ?_ _)); exact BK137.out⟩, ⟨by repeat (first | (with_reducible first | exact HB.out | apply below_alloc | apply pw_below_drewN | apply below_drew1 | refine below_set ?_ GE136.out | refine below_set ?_ GE137.out) | exact HB.out)⟩⟩
            · rw [if_neg c12] at H
              have c12b0 : (a1.toList == ([62] : List UInt8)) = false := beq_eq_false_iff_ne.mpr c12
              have c12b1 : (a1.toList != ([62] : List UInt8)) = true := bne_iff_ne.mpr c12
              by_cases c13 : a1.toList = ([61, 60] : List UInt8)
              · rw [if_pos c13] at H
                have c13b0 : (a1.toList == ([61, 60] : List UInt8)) = true := beq_iff_eq.mpr c13
                have c13b1 : (a1.toList != ([61, 60] : List UInt8)) = false := bne_eq_false_iff_eq.mpr c13
                clear c13
                have H' := Aside0.mk H
                clear H
                go_wp2
                go_meet
                case rel => exact ⟨_, (false), (true), (true), (by first | rfl | (simp; done) | (simp [*]; done)), (by first | rfl | (simp; done) | (simp [*]; done)), (by first | rfl | (simp; done) | (simp [*]; done)), H', ⟨by first | omega | exact Nat.le_refl _⟩, ⟨by (with_reducible repeat (first | refine blk_drewN ?_ _ | refine blk_drew ?_ | refine blk_alloc ?_ _)); exact BK136.out⟩, ⟨by (with_reducible repeat (first | refine blk_drewN ?_ _ | refine blk_drew ?_ | refine blk_alloc ?_ _)); exact BK137.out⟩, ⟨by repeat (first | (with_reducible first | exact HB.out | apply below_alloc | apply pw_below_drewN | apply below_drew1 | refine below_set ?_ GE136.out | refine below_set ?_ GE137.out) | exact HB.out)⟩⟩
              · rw [if_neg c13] at H
                have c13b0 : (a1.toList == ([61, 60] : List UInt8)) = false := beq_eq_false_iff_ne.mpr c13
                have c13b1 : (a1.toList != ([61, 60] : List UInt8)) = true := bne_iff_ne.mpr c13
                simp only [Option.some.injEq, Prod.mk.injEq] at H
                obtain ⟨rfl, rfl⟩ := H
                go_wp2
                go_ret2
                exact ⟨by first | rfl | (simp [errW_none, errW_some] <;> rfl) | (simp [*, errW_none, errW_some] <;> rfl), by repeat (first | (with_reducible first | exact HB.out | apply below_alloc | apply pw_below_drewN | apply below_drew1 | refine below_set ?_ GE136.out | refine below_set ?_ GE137.out) | exact HB.out)⟩
  case rest =>
    clear HC5
    try clear c1
    try clear c2
    try clear p2
    try clear c3
    try clear c8
    try clear c8b0
    try clear c8b1
    try clear c9
    try clear c9b0
    try clear c9b1
    try clear c10
    try clear c10b0
    try clear c10b1
    try clear c11
    try clear c11b0
    try clear c11b1
    try clear c12
    try clear c12b0
    try clear c12b1
    try clear c13
    try clear c13b0
    try clear c13b1
    obtain ⟨kq, x10_4, x11_4, x12_4, rfl, rfl, rfl, HA, HJ4, BK136, BK137, HB⟩ := hcut
    cases kq with
    | zero => exact absurd HA.out (by simp [arith_Holds.j0])
    | succ kj4 =>
      have H := HA.out
      clear HA
      simp only [arith_Holds.j0] at H
      replace H := Option.bind_eq_some_iff.mp H
      obtain ⟨⟨t138, t139⟩, A140, H⟩ := H
      replace H : (if t139 = 0 then ((arith_Eval.f kj4 l0 a3_0 a3_1 a3_2 l3_3).bind fun bt140 => (if bt140.2 = 0 then (if x11_4 = true then (if t138 < bt140.1 then (some ((true != x10_4), 0)) else (if x12_4 = true then (some (((t138 == bt140.1) != x10_4), 0)) else (some ((false != x10_4), 0)))) else (if x12_4 = true then (some (((t138 == bt140.1) != x10_4), 0)) else (some ((false != x10_4), 0)))) else (some (false, bt140.2)))) else (some (false, t139))) = some (r1, r2) := H
      have A14 := Aside0.mk A140
      clear A140
      by_cases c15 : t139 = 0
      · rw [if_pos c15] at H
        have c15b0 : (t139 == 0) = true := beq_iff_eq.mpr c15
        have c15b1 : (t139 != 0) = false := bne_eq_false_iff_eq.mpr c15
        clear c15
        replace H := Option.bind_eq_some_iff.mp H
        obtain ⟨⟨t140, t141⟩, A160, H⟩ := H
        replace H : (if t141 = 0 then (if x11_4 = true then (if t138 < t140 then (some ((true != x10_4), 0)) else (if x12_4 = true then (some (((t138 == t140) != x10_4), 0)) else (some ((false != x10_4), 0)))) else (if x12_4 = true then (some (((t138 == t140) != x10_4), 0)) else (some ((false != x10_4), 0)))) else (some (false, t141))) = some (r1, r2) := H
        have A16 := Aside0.mk A160
        clear A160
        by_cases c17 : t141 = 0
        · rw [if_pos c17] at H
          have c17b0 : (t141 == 0) = true := beq_iff_eq.mpr c17
          have c17b1 : (t141 != 0) = false := bne_eq_false_iff_eq.mpr c17
          clear c17
          by_cases c18 : x11_4 = true
          · subst c18
            have H1 : (if t138 < t140 then (some ((true != x10_4), 0)) else (if x12_4 = true then (some (((t138 == t140) != x10_4), 0)) else (some ((false != x10_4), 0)))) = some (r1, r2) := by rw [if_pos rfl] at H; exact H
            clear H
            have H := H1
            clear H1
            by_cases c19 : t138 < t140
            · rw [if_pos c19] at H
              have c19b0 : decide (t138 < t140) = true := decide_eq_true c19
              clear c19
              simp only [Option.some.injEq, Prod.mk.injEq] at H
              obtain ⟨rfl, rfl⟩ := H
              have hnb20 := NB136_137.out
              have hnc20 := NB137_136.out
              have hcz21_0 : wc.cell? ⟨gb136, 0, none⟩ = some (.int .i64 a2_0) := (blk_cell BK136.out 0).trans rfl
              have hcz21_1 : wc.cell? ⟨gb136, 1, none⟩ = some (.string a2_1) := (blk_cell BK136.out 1).trans rfl
              have hcz21_2 : wc.cell? ⟨gb136, 2, none⟩ = some (.int .i64 a2_2) := (blk_cell BK136.out 2).trans rfl
              have hcz21_3 : wc.cell? ⟨gb136, 3, none⟩ = some (.slice A2_3 l2_3.length c2_3) := (blk_cell BK136.out 3).trans rfl
              have hfz21_0 := blk_frozen BK136.out 0
              have hfz21_1 := blk_frozen BK136.out 1
              have hfz21_2 := blk_frozen BK136.out 2
              have hfz21_3 := blk_frozen BK136.out 3
              go_wp2_with (first | ((with_reducible refine gate_callee (f := 9) rfl ?_); refine goesL_ (some 32) rfl rfl Try.func9 (by kernel_rfl) rfl #[.slice A0 l0.length c0, .agg #[.int .i64 a2_0, .string a2_1, .int .i64 a2_2, .slice A2_3 l2_3.length c2_3]] rfl (by (try simp only [List.map_toArray, List.map_cons, List.map_nil]); first | done | rfl | (simp only [List.length_drop, List.length_take]; rfl)) ?_; (with_reducible refine (arith_Eval.calls kj4 _ _ l0 a2_0 a2_1 a2_2 _ _ l2_3 t138 t139 _ ?side1 ?side2 ?side3 ?side4 A14.out).mono ?_); (case side1 => repeat (first | exact (Kd.C_below HR0.out HB.out) | (with_reducible refine Kd.C_alloc ?_ _) | (with_reducible refine Kd.C_drewN ?_ _) | (with_reducible refine Kd.C_drew ?_))); (case side2 => exact HC0.out); (case side3 => repeat (first | exact (Kd.C_below HR2_3.out HB.out) | (with_reducible refine Kd.C_alloc ?_ _) | (with_reducible refine Kd.C_drewN ?_ _) | (with_reducible refine Kd.C_drew ?_))); (case side4 => exact HC2_3.out); rintro e w22 ⟨rfl, hb⟩; refine ⟨_, rfl, ?_⟩; have n0_ := Aside0.mk (blk_below (g := gb136) (o := .cells #[.int .i64 a2_0, .string a2_1, .int .i64 a2_2, .slice A2_3 l2_3.length c2_3] 25 (0, 0)) (by (with_reducible repeat (first | refine blk_drewN ?_ _ | refine blk_drew ?_ | refine blk_alloc ?_ _)); exact BK136.out) hb); have n1_ := Aside0.mk (blk_below (g := gb137) (o := .cells #[.int .i64 a3_0, .string a3_1, .int .i64 a3_2, .slice A3_3 l3_3.length c3_3] 25 (0, 0)) (by (with_reducible repeat (first | refine blk_drewN ?_ _ | refine blk_drew ?_ | refine blk_alloc ?_ _)); exact BK137.out) hb); have n2_ := Aside0.mk (below_step (by repeat (first | (with_reducible first | exact HB.out | apply below_alloc | apply pw_below_drewN | apply below_drew1 | refine below_set ?_ GE136.out | refine below_set ?_ GE137.out) | exact HB.out)) hb); clear BK136; clear BK137; clear HB; have BK136 := n0_; have BK137 := n1_; have HB := n2_; clear n0_ n1_ n2_; (try clear hb); (try clear hb2); (try clear hk); (try clear hi); have hcz23_0 : w22.cell? ⟨gb137, 0, none⟩ = some (.int .i64 a3_0) := (blk_cell BK137.out 0).trans rfl; have hcz23_1 : w22.cell? ⟨gb137, 1, none⟩ = some (.string a3_1) := (blk_cell BK137.out 1).trans rfl; have hcz23_2 : w22.cell? ⟨gb137, 2, none⟩ = some (.int .i64 a3_2) := (blk_cell BK137.out 2).trans rfl; have hcz23_3 : w22.cell? ⟨gb137, 3, none⟩ = some (.slice A3_3 l3_3.length c3_3) := (blk_cell BK137.out 3).trans rfl; have hfz23_0 := blk_frozen BK137.out 0; have hfz23_1 := blk_frozen BK137.out 1; have hfz23_2 := blk_frozen BK137.out 2; have hfz23_3 := blk_frozen BK137.out 3) | ((with_reducible refine gate_callee (f := 9) rfl ?_); refine goesL_ (some 41) rfl rfl Try.func9 (by kernel_rfl) rfl #[.slice A0 l0.length c0, .agg #[.int .i64 a3_0, .string a3_1, .int .i64 a3_2, .slice A3_3 l3_3.length c3_3]] rfl (by (try simp only [List.map_toArray, List.map_cons, List.map_nil]); first | done | rfl | (simp only [List.length_drop, List.length_take]; rfl)) ?_; (with_reducible refine (arith_Eval.calls kj4 _ _ l0 a3_0 a3_1 a3_2 _ _ l3_3 t140 t141 _ ?side1 ?side2 ?side3 ?side4 A16.out).mono ?_); (case side1 => repeat (first | exact (Kd.C_below HR0.out HB.out) | (with_reducible refine Kd.C_alloc ?_ _) | (with_reducible refine Kd.C_drewN ?_ _) | (with_reducible refine Kd.C_drew ?_))); (case side2 => exact HC0.out); (case side3 => repeat (first | exact (Kd.C_below HR3_3.out HB.out) | (with_reducible refine Kd.C_alloc ?_ _) | (with_reducible refine Kd.C_drewN ?_ _) | (with_reducible refine Kd.C_drew ?_))); (case side4 => exact HC3_3.out); rintro e w24 ⟨rfl, hb⟩; refine ⟨_, rfl, ?_⟩; have n0_ := Aside0.mk (blk_below (g := gb136) (o := .cells #[.int .i64 a2_0, .string a2_1, .int .i64 a2_2, .slice A2_3 l2_3.length c2_3] 25 (0, 0)) (by (with_reducible repeat (first | refine blk_drewN ?_ _ | refine blk_drew ?_ | refine blk_alloc ?_ _)); exact BK136.out) hb); have n1_ := Aside0.mk (blk_below (g := gb137) (o := .cells #[.int .i64 a3_0, .string a3_1, .int .i64 a3_2, .slice A3_3 l3_3.length c3_3] 25 (0, 0)) (by (with_reducible repeat (first | refine blk_drewN ?_ _ | refine blk_drew ?_ | refine blk_alloc ?_ _)); exact BK137.out) hb); have n2_ := Aside0.mk (below_step (by repeat (first | (with_reducible first | exact HB.out | apply below_alloc | apply pw_below_drewN | apply below_drew1 | refine below_set ?_ GE136.out | refine below_set ?_ GE137.out) | exact HB.out)) hb); clear BK136; clear BK137; clear HB; have BK136 := n0_; have BK137 := n1_; have HB := n2_; clear n0_ n1_ n2_; (try clear hb); (try clear hb2); (try clear hk); (try clear hi)))
              go_ret2
              exact ⟨by first | rfl | (simp [errW_none, errW_some] <;> rfl) | (simp [*, errW_none, errW_some] <;> rfl), by repeat (first | (with_reducible first | exact HB.out | apply below_alloc | apply pw_below_drewN | apply below_drew1 | refine below_set ?_ GE136.out | refine below_set ?_ GE137.out) | exact HB.out)⟩
            · rw [if_neg c19] at H
              have c19b0 : decide (t138 < t140) = false := decide_eq_false c19
              clear c19
              by_cases c25 : x12_4 = true
              · subst c25
                have H1 : (some (((t138 == t140) != x10_4), 0)) = some (r1, r2) := by rw [if_pos rfl] at H; exact H
                clear H
                have H := H1
                clear H1
                simp only [Option.some.injEq, Prod.mk.injEq] at H
                obtain ⟨rfl, rfl⟩ := H
                have hnb26 := NB136_137.out
                have hnc26 := NB137_136.out
                have hcz27_0 : wc.cell? ⟨gb136, 0, none⟩ = some (.int .i64 a2_0) := (blk_cell BK136.out 0).trans rfl
                have hcz27_1 : wc.cell? ⟨gb136, 1, none⟩ = some (.string a2_1) := (blk_cell BK136.out 1).trans rfl
                have hcz27_2 : wc.cell? ⟨gb136, 2, none⟩ = some (.int .i64 a2_2) := (blk_cell BK136.out 2).trans rfl
                have hcz27_3 : wc.cell? ⟨gb136, 3, none⟩ = some (.slice A2_3 l2_3.length c2_3) := (blk_cell BK136.out 3).trans rfl
                have hfz27_0 := blk_frozen BK136.out 0
                have hfz27_1 := blk_frozen BK136.out 1
                have hfz27_2 := blk_frozen BK136.out 2
                have hfz27_3 := blk_frozen BK136.out 3
                go_wp2_with (first | ((with_reducible refine gate_callee (f := 9) rfl ?_); refine goesL_ (some 32) rfl rfl Try.func9 (by kernel_rfl) rfl #[.slice A0 l0.length c0, .agg #[.int .i64 a2_0, .string a2_1, .int .i64 a2_2, .slice A2_3 l2_3.length c2_3]] rfl (by (try simp only [List.map_toArray, List.map_cons, List.map_nil]); first | done | rfl | (simp only [List.length_drop, List.length_take]; rfl)) ?_; (with_reducible refine (arith_Eval.calls kj4 _ _ l0 a2_0 a2_1 a2_2 _ _ l2_3 t138 t139 _ ?side1 ?side2 ?side3 ?side4 A14.out).mono ?_); (case side1 => repeat (first | exact (Kd.C_below HR0.out HB.out) | (with_reducible refine Kd.C_alloc ?_ _) | (with_reducible refine Kd.C_drewN ?_ _) | (with_reducible refine Kd.C_drew ?_))); (case side2 => exact HC0.out); (case side3 => repeat (first | exact (Kd.C_below HR2_3.out HB.out) | (with_reducible refine Kd.C_alloc ?_ _) | (with_reducible refine Kd.C_drewN ?_ _) | (with_reducible refine Kd.C_drew ?_))); (case side4 => exact HC2_3.out); rintro e w28 ⟨rfl, hb⟩; refine ⟨_, rfl, ?_⟩; have n0_ := Aside0.mk (blk_below (g := gb136) (o := .cells #[.int .i64 a2_0, .string a2_1, .int .i64 a2_2, .slice A2_3 l2_3.length c2_3] 25 (0, 0)) (by (with_reducible repeat (first | refine blk_drewN ?_ _ | refine blk_drew ?_ | refine blk_alloc ?_ _)); exact BK136.out) hb); have n1_ := Aside0.mk (blk_below (g := gb137) (o := .cells #[.int .i64 a3_0, .string a3_1, .int .i64 a3_2, .slice A3_3 l3_3.length c3_3] 25 (0, 0)) (by (with_reducible repeat (first | refine blk_drewN ?_ _ | refine blk_drew ?_ | refine blk_alloc ?_ _)); exact BK137.out) hb); have n2_ := Aside0.mk (below_step (by repeat (first | (with_reducible first | exact HB.out | apply below_alloc | apply pw_below_drewN | apply below_drew1 | refine below_set ?_ GE136.out | refine below_set ?_ GE137.out) | exact HB.out)) hb); clear BK136; clear BK137; clear HB; have BK136 := n0_; have BK137 := n1_; have HB := n2_; clear n0_ n1_ n2_; (try clear hb); (try clear hb2); (try clear hk); (try clear hi); have hcz29_0 : w28.cell? ⟨gb137, 0, none⟩ = some (.int .i64 a3_0) := (blk_cell BK137.out 0).trans rfl; have hcz29_1 : w28.cell? ⟨gb137, 1, none⟩ = some (.string a3_1) := (blk_cell BK137.out 1).trans rfl; have hcz29_2 : w28.cell? ⟨gb137, 2, none⟩ = some (.int .i64 a3_2) := (blk_cell BK137.out 2).trans rfl; have hcz29_3 : w28.cell? ⟨gb137, 3, none⟩ = some (.slice A3_3 l3_3.length c3_3) := (blk_cell BK137.out 3).trans rfl; have hfz29_0 := blk_frozen BK137.out 0; have hfz29_1 := blk_frozen BK137.out 1; have hfz29_2 := blk_frozen BK137.out 2; have hfz29_3 := blk_frozen BK137.out 3) | ((with_reducible refine gate_callee (f := 9) rfl ?_); refine goesL_ (some 41) rfl rfl Try.func9 (by kernel_rfl) rfl #[.slice A0 l0.length c0, .agg #[.int .i64 a3_0, .string a3_1, .int .i64 a3_2, .slice A3_3 l3_3.length c3_3]] rfl (by (try simp only [List.map_toArray, List.map_cons, List.map_nil]); first | done | rfl | (simp only [List.length_drop, List.length_take]; rfl)) ?_; (with_reducible refine (arith_Eval.calls kj4 _ _ l0 a3_0 a3_1 a3_2 _ _ l3_3 t140 t141 _ ?side1 ?side2 ?side3 ?side4 A16.out).mono ?_); (case side1 => repeat (first | exact (Kd.C_below HR0.out HB.out) | (with_reducible refine Kd.C_alloc ?_ _) | (with_reducible refine Kd.C_drewN ?_ _) | (with_reducible refine Kd.C_drew ?_))); (case side2 => exact HC0.out); (case side3 => repeat (first | exact (Kd.C_below HR3_3.out HB.out) | (with_reducible refine Kd.C_alloc ?_ _) | (with_reducible refine Kd.C_drewN ?_ _) | (with_reducible refine Kd.C_drew ?_))); (case side4 => exact HC3_3.out); rintro e w30 ⟨rfl, hb⟩; refine ⟨_, rfl, ?_⟩; have n0_ := Aside0.mk (blk_below (g := gb136) (o := .cells #[.int .i64 a2_0, .string a2_1, .int .i64 a2_2, .slice A2_3 l2_3.length c2_3] 25 (0, 0)) (by (with_reducible repeat (first | refine blk_drewN ?_ _ | refine blk_drew ?_ | refine blk_alloc ?_ _)); exact BK136.out) hb); have n1_ := Aside0.mk (blk_below (g := gb137) (o := .cells #[.int .i64 a3_0, .string a3_1, .int .i64 a3_2, .slice A3_3 l3_3.length c3_3] 25 (0, 0)) (by (with_reducible repeat (first | refine blk_drewN ?_ _ | refine blk_drew ?_ | refine blk_alloc ?_ _)); exact BK137.out) hb); have n2_ := Aside0.mk (below_step (by repeat (first | (with_reducible first | exact HB.out | apply below_alloc | apply pw_below_drewN | apply below_drew1 | refine below_set ?_ GE136.out | refine below_set ?_ GE137.out) | exact HB.out)) hb); clear BK136; clear BK137; clear HB; have BK136 := n0_; have BK137 := n1_; have HB := n2_; clear n0_ n1_ n2_; (try clear hb); (try clear hb2); (try clear hk); (try clear hi)))
                go_ret2
                exact ⟨by first | rfl | (simp [errW_none, errW_some] <;> rfl) | (simp [*, errW_none, errW_some] <;> rfl), by repeat (first | (with_reducible first | exact HB.out | apply below_alloc | apply pw_below_drewN | apply below_drew1 | refine below_set ?_ GE136.out | refine below_set ?_ GE137.out) | exact HB.out)⟩
              · replace c25 := Bool.eq_false_iff.mpr c25
                subst c25
                have H1 : (some ((false != x10_4), 0)) = some (r1, r2) := by rw [if_neg (show ¬ (false = true) by decide)] at H; exact H
                clear H
                have H := H1
                clear H1
                simp only [Option.some.injEq, Prod.mk.injEq] at H
                obtain ⟨rfl, rfl⟩ := H
                have hnb31 := NB136_137.out
                have hnc31 := NB137_136.out
                have hcz32_0 : wc.cell? ⟨gb136, 0, none⟩ = some (.int .i64 a2_0) := (blk_cell BK136.out 0).trans rfl
                have hcz32_1 : wc.cell? ⟨gb136, 1, none⟩ = some (.string a2_1) := (blk_cell BK136.out 1).trans rfl
                have hcz32_2 : wc.cell? ⟨gb136, 2, none⟩ = some (.int .i64 a2_2) := (blk_cell BK136.out 2).trans rfl
                have hcz32_3 : wc.cell? ⟨gb136, 3, none⟩ = some (.slice A2_3 l2_3.length c2_3) := (blk_cell BK136.out 3).trans rfl
                have hfz32_0 := blk_frozen BK136.out 0
                have hfz32_1 := blk_frozen BK136.out 1
                have hfz32_2 := blk_frozen BK136.out 2
                have hfz32_3 := blk_frozen BK136.out 3
                go_wp2_with (first | ((with_reducible refine gate_callee (f := 9) rfl ?_); refine goesL_ (some 32) rfl rfl Try.func9 (by kernel_rfl) rfl #[.slice A0 l0.length c0, .agg #[.int .i64 a2_0, .string a2_1, .int .i64 a2_2, .slice A2_3 l2_3.length c2_3]] rfl (by (try simp only [List.map_toArray, List.map_cons, List.map_nil]); first | done | rfl | (simp only [List.length_drop, List.length_take]; rfl)) ?_; (with_reducible refine (arith_Eval.calls kj4 _ _ l0 a2_0 a2_1 a2_2 _ _ l2_3 t138 t139 _ ?side1 ?side2 ?side3 ?side4 A14.out).mono ?_); (case side1 => repeat (first | exact (Kd.C_below HR0.out HB.out) | (with_reducible refine Kd.C_alloc ?_ _) | (with_reducible refine Kd.C_drewN ?_ _) | (with_reducible refine Kd.C_drew ?_))); (case side2 => exact HC0.out); (case side3 => repeat (first | exact (Kd.C_below HR2_3.out HB.out) | (with_reducible refine Kd.C_alloc ?_ _) | (with_reducible refine Kd.C_drewN ?_ _) | (with_reducible refine Kd.C_drew ?_))); (case side4 => exact HC2_3.out); rintro e w33 ⟨rfl, hb⟩; refine ⟨_, rfl, ?_⟩; have n0_ := Aside0.mk (blk_below (g := gb136) (o := .cells #[.int .i64 a2_0, .string a2_1, .int .i64 a2_2, .slice A2_3 l2_3.length c2_3] 25 (0, 0)) (by (with_reducible repeat (first | refine blk_drewN ?_ _ | refine blk_drew ?_ | refine blk_alloc ?_ _)); exact BK136.out) hb); have n1_ := Aside0.mk (blk_below (g := gb137) (o := .cells #[.int .i64 a3_0, .string a3_1, .int .i64 a3_2, .slice A3_3 l3_3.length c3_3] 25 (0, 0)) (by (with_reducible repeat (first | refine blk_drewN ?_ _ | refine blk_drew ?_ | refine blk_alloc ?_ _)); exact BK137.out) hb); have n2_ := Aside0.mk (below_step (by repeat (first | (with_reducible first | exact HB.out | apply below_alloc | apply pw_below_drewN | apply below_drew1 | refine below_set ?_ GE136.out | refine below_set ?_ GE137.out) | exact HB.out)) hb); clear BK136; clear BK137; clear HB; have BK136 := n0_; have BK137 := n1_; have HB := n2_; clear n0_ n1_ n2_; (try clear hb); (try clear hb2); (try clear hk); (try clear hi); have hcz34_0 : w33.cell? ⟨gb137, 0, none⟩ = some (.int .i64 a3_0) := (blk_cell BK137.out 0).trans rfl; have hcz34_1 : w33.cell? ⟨gb137, 1, none⟩ = some (.string a3_1) := (blk_cell BK137.out 1).trans rfl; have hcz34_2 : w33.cell? ⟨gb137, 2, none⟩ = some (.int .i64 a3_2) := (blk_cell BK137.out 2).trans rfl; have hcz34_3 : w33.cell? ⟨gb137, 3, none⟩ = some (.slice A3_3 l3_3.length c3_3) := (blk_cell BK137.out 3).trans rfl; have hfz34_0 := blk_frozen BK137.out 0; have hfz34_1 := blk_frozen BK137.out 1; have hfz34_2 := blk_frozen BK137.out 2; have hfz34_3 := blk_frozen BK137.out 3) | ((with_reducible refine gate_callee (f := 9) rfl ?_); refine goesL_ (some 41) rfl rfl Try.func9 (by kernel_rfl) rfl #[.slice A0 l0.length c0, .agg #[.int .i64 a3_0, .string a3_1, .int .i64 a3_2, .slice A3_3 l3_3.length c3_3]] rfl (by (try simp only [List.map_toArray, List.map_cons, List.map_nil]); first | done | rfl | (simp only [List.length_drop, List.length_take]; rfl)) ?_; (with_reducible refine (arith_Eval.calls kj4 _ _ l0 a3_0 a3_1 a3_2 _ _ l3_3 t140 t141 _ ?side1 ?side2 ?side3 ?side4 A16.out).mono ?_); (case side1 => repeat (first | exact (Kd.C_below HR0.out HB.out) | (with_reducible refine Kd.C_alloc ?_ _) | (with_reducible refine Kd.C_drewN ?_ _) | (with_reducible refine Kd.C_drew ?_))); (case side2 => exact HC0.out); (case side3 => repeat (first | exact (Kd.C_below HR3_3.out HB.out) | (with_reducible refine Kd.C_alloc ?_ _) | (with_reducible refine Kd.C_drewN ?_ _) | (with_reducible refine Kd.C_drew ?_))); (case side4 => exact HC3_3.out); rintro e w35 ⟨rfl, hb⟩; refine ⟨_, rfl, ?_⟩; have n0_ := Aside0.mk (blk_below (g := gb136) (o := .cells #[.int .i64 a2_0, .string a2_1, .int .i64 a2_2, .slice A2_3 l2_3.length c2_3] 25 (0, 0)) (by (with_reducible repeat (first | refine blk_drewN ?_ _ | refine blk_drew ?_ | refine blk_alloc ?_ _)); exact BK136.out) hb); have n1_ := Aside0.mk (blk_below (g := gb137) (o := .cells #[.int .i64 a3_0, .string a3_1, .int .i64 a3_2, .slice A3_3 l3_3.length c3_3] 25 (0, 0)) (by (with_reducible repeat (first | refine blk_drewN ?_ _ | refine blk_drew ?_ | refine blk_alloc ?_ _)); exact BK137.out) hb); have n2_ := Aside0.mk (below_step (by repeat (first | (with_reducible first | exact HB.out | apply below_alloc | apply pw_below_drewN | apply below_drew1 | refine below_set ?_ GE136.out | refine below_set ?_ GE137.out) | exact HB.out)) hb); clear BK136; clear BK137; clear HB; have BK136 := n0_; have BK137 := n1_; have HB := n2_; clear n0_ n1_ n2_; (try clear hb); (try clear hb2); (try clear hk); (try clear hi)))
                go_ret2
                exact ⟨by first | rfl | (simp [errW_none, errW_some] <;> rfl) | (simp [*, errW_none, errW_some] <;> rfl), by repeat (first | (with_reducible first | exact HB.out | apply below_alloc | apply pw_below_drewN | apply below_drew1 | refine below_set ?_ GE136.out | refine below_set ?_ GE137.out) | exact HB.out)⟩
          · replace c18 := Bool.eq_false_iff.mpr c18
            subst c18
            have H1 : (if x12_4 = true then (some (((t138 == t140) != x10_4), 0)) else (some ((false != x10_4), 0))) = some (r1, r2) := by rw [if_neg (show ¬ (false = true) by decide)] at H; exact H
            clear H
            have H := H1
            clear H1
            by_cases c36 : x12_4 = true
            · subst c36
              have H1 : (some (((t138 == t140) != x10_4), 0)) = some (r1, r2) := by rw [if_pos rfl] at H; exact H
              clear H
              have H := H1
              clear H1
              simp only [Option.some.injEq, Prod.mk.injEq] at H
              obtain ⟨rfl, rfl⟩ := H
              have hnb37 := NB136_137.out
              have hnc37 := NB137_136.out
              have hcz38_0 : wc.cell? ⟨gb136, 0, none⟩ = some (.int .i64 a2_0) := (blk_cell BK136.out 0).trans rfl
              have hcz38_1 : wc.cell? ⟨gb136, 1, none⟩ = some (.string a2_1) := (blk_cell BK136.out 1).trans rfl
              have hcz38_2 : wc.cell? ⟨gb136, 2, none⟩ = some (.int .i64 a2_2) := (blk_cell BK136.out 2).trans rfl
              have hcz38_3 : wc.cell? ⟨gb136, 3, none⟩ = some (.slice A2_3 l2_3.length c2_3) := (blk_cell BK136.out 3).trans rfl
              have hfz38_0 := blk_frozen BK136.out 0
              have hfz38_1 := blk_frozen BK136.out 1
              have hfz38_2 := blk_frozen BK136.out 2
              have hfz38_3 := blk_frozen BK136.out 3
              go_wp2_with (first | ((with_reducible refine gate_callee (f := 9) rfl ?_); refine goesL_ (some 32) rfl rfl Try.func9 (by kernel_rfl) rfl #[.slice A0 l0.length c0, .agg #[.int .i64 a2_0, .string a2_1, .int .i64 a2_2, .slice A2_3 l2_3.length c2_3]] rfl (by (try simp only [List.map_toArray, List.map_cons, List.map_nil]); first | done | rfl | (simp only [List.length_drop, List.length_take]; rfl)) ?_; (with_reducible refine (arith_Eval.calls kj4 _ _ l0 a2_0 a2_1 a2_2 _ _ l2_3 t138 t139 _ ?side1 ?side2 ?side3 ?side4 A14.out).mono ?_); (case side1 => repeat (first | exact (Kd.C_below HR0.out HB.out) | (with_reducible refine Kd.C_alloc ?_ _) | (with_reducible refine Kd.C_drewN ?_ _) | (with_reducible refine Kd.C_drew ?_))); (case side2 => exact HC0.out); (case side3 => repeat (first | exact (Kd.C_below HR2_3.out HB.out) | (with_reducible refine Kd.C_alloc ?_ _) | (with_reducible refine Kd.C_drewN ?_ _) | (with_reducible refine Kd.C_drew ?_))); (case side4 => exact HC2_3.out); rintro e w39 ⟨rfl, hb⟩; refine ⟨_, rfl, ?_⟩; have n0_ := Aside0.mk (blk_below (g := gb136) (o := .cells #[.int .i64 a2_0, .string a2_1, .int .i64 a2_2, .slice A2_3 l2_3.length c2_3] 25 (0, 0)) (by (with_reducible repeat (first | refine blk_drewN ?_ _ | refine blk_drew ?_ | refine blk_alloc ?_ _)); exact BK136.out) hb); have n1_ := Aside0.mk (blk_below (g := gb137) (o := .cells #[.int .i64 a3_0, .string a3_1, .int .i64 a3_2, .slice A3_3 l3_3.length c3_3] 25 (0, 0)) (by (with_reducible repeat (first | refine blk_drewN ?_ _ | refine blk_drew ?_ | refine blk_alloc ?_ _)); exact BK137.out) hb); have n2_ := Aside0.mk (below_step (by repeat (first | (with_reducible first | exact HB.out | apply below_alloc | apply pw_below_drewN | apply below_drew1 | refine below_set ?_ GE136.out | refine below_set ?_ GE137.out) | exact HB.out)) hb); clear BK136; clear BK137; clear HB; have BK136 := n0_; have BK137 := n1_; have HB := n2_; clear n0_ n1_ n2_; (try clear hb); (try clear hb2); (try clear hk); (try clear hi); have hcz40_0 : w39.cell? ⟨gb137, 0, none⟩ = some (.int .i64 a3_0) := (blk_cell BK137.out 0).trans rfl; have hcz40_1 : w39.cell? ⟨gb137, 1, none⟩ = some (.string a3_1) := (blk_cell BK137.out 1).trans rfl; have hcz40_2 : w39.cell? ⟨gb137, 2, none⟩ = some (.int .i64 a3_2) := (blk_cell BK137.out 2).trans rfl; have hcz40_3 : w39.cell? ⟨gb137, 3, none⟩ = some (.slice A3_3 l3_3.length c3_3) := (blk_cell BK137.out 3).trans rfl; have hfz40_0 := blk_frozen BK137.out 0; have hfz40_1 := blk_frozen BK137.out 1; have hfz40_2 := blk_frozen BK137.out 2; have hfz40_3 := blk_frozen BK137.out 3) | ((with_reducible refine gate_callee (f := 9) rfl ?_); refine goesL_ (some 41) rfl rfl Try.func9 (by kernel_rfl) rfl #[.slice A0 l0.length c0, .agg #[.int .i64 a3_0, .string a3_1, .int .i64 a3_2, .slice A3_3 l3_3.length c3_3]] rfl (by (try simp only [List.map_toArray, List.map_cons, List.map_nil]); first | done | rfl | (simp only [List.length_drop, List.length_take]; rfl)) ?_; (with_reducible refine (arith_Eval.calls kj4 _ _ l0 a3_0 a3_1 a3_2 _ _ l3_3 t140 t141 _ ?side1 ?side2 ?side3 ?side4 A16.out).mono ?_); (case side1 => repeat (first | exact (Kd.C_below HR0.out HB.out) | (with_reducible refine Kd.C_alloc ?_ _) | (with_reducible refine Kd.C_drewN ?_ _) | (with_reducible refine Kd.C_drew ?_))); (case side2 => exact HC0.out); (case side3 => repeat (first | exact (Kd.C_below HR3_3.out HB.out) | (with_reducible refine Kd.C_alloc ?_ _) | (with_reducible refine Kd.C_drewN ?_ _) | (with_reducible refine Kd.C_drew ?_))); (case side4 => exact HC3_3.out); rintro e w41 ⟨rfl, hb⟩; refine ⟨_, rfl, ?_⟩; have n0_ := Aside0.mk (blk_below (g := gb136) (o := .cells #[.int .i64 a2_0, .string a2_1, .int .i64 a2_2, .slice A2_3 l2_3.length c2_3] 25 (0, 0)) (by (with_reducible repeat (first | refine blk_drewN ?_ _ | refine blk_drew ?_ | refine blk_alloc ?_ _)); exact BK136.out) hb); have n1_ := Aside0.mk (blk_below (g := gb137) (o := .cells #[.int .i64 a3_0, .string a3_1, .int .i64 a3_2, .slice A3_3 l3_3.length c3_3] 25 (0, 0)) (by (with_reducible repeat (first | refine blk_drewN ?_ _ | refine blk_drew ?_ | refine blk_alloc ?_ _)); exact BK137.out) hb); have n2_ := Aside0.mk (below_step (by repeat (first | (with_reducible first | exact HB.out | apply below_alloc | apply pw_below_drewN | apply below_drew1 | refine below_set ?_ GE136.out | refine below_set ?_ GE137.out) | exact HB.out)) hb); clear BK136; clear BK137; clear HB; have BK136 := n0_; have BK137 := n1_; have HB := n2_; clear n0_ n1_ n2_; (try clear hb); (try clear hb2); (try clear hk); (try clear hi)))
              go_ret2
              exact ⟨by first | rfl | (simp [errW_none, errW_some] <;> rfl) | (simp [*, errW_none, errW_some] <;> rfl), by repeat (first | (with_reducible first | exact HB.out | apply below_alloc | apply pw_below_drewN | apply below_drew1 | refine below_set ?_ GE136.out | refine below_set ?_ GE137.out) | exact HB.out)⟩
            · replace c36 := Bool.eq_false_iff.mpr c36
              subst c36
              have H1 : (some ((false != x10_4), 0)) = some (r1, r2) := by rw [if_neg (show ¬ (false = true) by decide)] at H; exact H
              clear H
              have H := H1
              clear H1
              simp only [Option.some.injEq, Prod.mk.injEq] at H
              obtain ⟨rfl, rfl⟩ := H
              have hnb42 := NB136_137.out
              have hnc42 := NB137_136.out
              have hcz43_0 : wc.cell? ⟨gb136, 0, none⟩ = some (.int .i64 a2_0) := (blk_cell BK136.out 0).trans rfl
              have hcz43_1 : wc.cell? ⟨gb136, 1, none⟩ = some (.string a2_1) := (blk_cell BK136.out 1).trans rfl
              have hcz43_2 : wc.cell? ⟨gb136, 2, none⟩ = some (.int .i64 a2_2) := (blk_cell BK136.out 2).trans rfl
              have hcz43_3 : wc.cell? ⟨gb136, 3, none⟩ = some (.slice A2_3 l2_3.length c2_3) := (blk_cell BK136.out 3).trans rfl
              have hfz43_0 := blk_frozen BK136.out 0
              have hfz43_1 := blk_frozen BK136.out 1
              have hfz43_2 := blk_frozen BK136.out 2
              have hfz43_3 := blk_frozen BK136.out 3
              go_wp2_with (first | ((with_reducible refine gate_callee (f := 9) rfl ?_); refine goesL_ (some 32) rfl rfl Try.func9 (by kernel_rfl) rfl #[.slice A0 l0.length c0, .agg #[.int .i64 a2_0, .string a2_1, .int .i64 a2_2, .slice A2_3 l2_3.length c2_3]] rfl (by (try simp only [List.map_toArray, List.map_cons, List.map_nil]); first | done | rfl | (simp only [List.length_drop, List.length_take]; rfl)) ?_; (with_reducible refine (arith_Eval.calls kj4 _ _ l0 a2_0 a2_1 a2_2 _ _ l2_3 t138 t139 _ ?side1 ?side2 ?side3 ?side4 A14.out).mono ?_); (case side1 => repeat (first | exact (Kd.C_below HR0.out HB.out) | (with_reducible refine Kd.C_alloc ?_ _) | (with_reducible refine Kd.C_drewN ?_ _) | (with_reducible refine Kd.C_drew ?_))); (case side2 => exact HC0.out); (case side3 => repeat (first | exact (Kd.C_below HR2_3.out HB.out) | (with_reducible refine Kd.C_alloc ?_ _) | (with_reducible refine Kd.C_drewN ?_ _) | (with_reducible refine Kd.C_drew ?_))); (case side4 => exact HC2_3.out); rintro e w44 ⟨rfl, hb⟩; refine ⟨_, rfl, ?_⟩; have n0_ := Aside0.mk (blk_below (g := gb136) (o := .cells #[.int .i64 a2_0, .string a2_1, .int .i64 a2_2, .slice A2_3 l2_3.length c2_3] 25 (0, 0)) (by (with_reducible repeat (first | refine blk_drewN ?_ _ | refine blk_drew ?_ | refine blk_alloc ?_ _)); exact BK136.out) hb); have n1_ := Aside0.mk (blk_below (g := gb137) (o := .cells #[.int .i64 a3_0, .string a3_1, .int .i64 a3_2, .slice A3_3 l3_3.length c3_3] 25 (0, 0)) (by (with_reducible repeat (first | refine blk_drewN ?_ _ | refine blk_drew ?_ | refine blk_alloc ?_ _)); exact BK137.out) hb); have n2_ := Aside0.mk (below_step (by repeat (first | (with_reducible first | exact HB.out | apply below_alloc | apply pw_below_drewN | apply below_drew1 | refine below_set ?_ GE136.out | refine below_set ?_ GE137.out) | exact HB.out)) hb); clear BK136; clear BK137; clear HB; have BK136 := n0_; have BK137 := n1_; have HB := n2_; clear n0_ n1_ n2_; (try clear hb); (try clear hb2); (try clear hk); (try clear hi); have hcz45_0 : w44.cell? ⟨gb137, 0, none⟩ = some (.int .i64 a3_0) := (blk_cell BK137.out 0).trans rfl; have hcz45_1 : w44.cell? ⟨gb137, 1, none⟩ = some (.string a3_1) := (blk_cell BK137.out 1).trans rfl; have hcz45_2 : w44.cell? ⟨gb137, 2, none⟩ = some (.int .i64 a3_2) := (blk_cell BK137.out 2).trans rfl; have hcz45_3 : w44.cell? ⟨gb137, 3, none⟩ = some (.slice A3_3 l3_3.length c3_3) := (blk_cell BK137.out 3).trans rfl; have hfz45_0 := blk_frozen BK137.out 0; have hfz45_1 := blk_frozen BK137.out 1; have hfz45_2 := blk_frozen BK137.out 2; have hfz45_3 := blk_frozen BK137.out 3) | ((with_reducible refine gate_callee (f := 9) rfl ?_); refine goesL_ (some 41) rfl rfl Try.func9 (by kernel_rfl) rfl #[.slice A0 l0.length c0, .agg #[.int .i64 a3_0, .string a3_1, .int .i64 a3_2, .slice A3_3 l3_3.length c3_3]] rfl (by (try simp only [List.map_toArray, List.map_cons, List.map_nil]); first | done | rfl | (simp only [List.length_drop, List.length_take]; rfl)) ?_; (with_reducible refine (arith_Eval.calls kj4 _ _ l0 a3_0 a3_1 a3_2 _ _ l3_3 t140 t141 _ ?side1 ?side2 ?side3 ?side4 A16.out).mono ?_); (case side1 => repeat (first | exact (Kd.C_below HR0.out HB.out) | (with_reducible refine Kd.C_alloc ?_ _) | (with_reducible refine Kd.C_drewN ?_ _) | (with_reducible refine Kd.C_drew ?_))); (case side2 => exact HC0.out); (case side3 => repeat (first | exact (Kd.C_below HR3_3.out HB.out) | (with_reducible refine Kd.C_alloc ?_ _) | (with_reducible refine Kd.C_drewN ?_ _) | (with_reducible refine Kd.C_drew ?_))); (case side4 => exact HC3_3.out); rintro e w46 ⟨rfl, hb⟩; refine ⟨_, rfl, ?_⟩; have n0_ := Aside0.mk (blk_below (g := gb136) (o := .cells #[.int .i64 a2_0, .string a2_1, .int .i64 a2_2, .slice A2_3 l2_3.length c2_3] 25 (0, 0)) (by (with_reducible repeat (first | refine blk_drewN ?_ _ | refine blk_drew ?_ | refine blk_alloc ?_ _)); exact BK136.out) hb); have n1_ := Aside0.mk (blk_below (g := gb137) (o := .cells #[.int .i64 a3_0, .string a3_1, .int .i64 a3_2, .slice A3_3 l3_3.length c3_3] 25 (0, 0)) (by (with_reducible repeat (first | refine blk_drewN ?_ _ | refine blk_drew ?_ | refine blk_alloc ?_ _)); exact BK137.out) hb); have n2_ := Aside0.mk (below_step (by repeat (first | (with_reducible first | exact HB.out | apply below_alloc | apply pw_below_drewN | apply below_drew1 | refine below_set ?_ GE136.out | refine below_set ?_ GE137.out) | exact HB.out)) hb); clear BK136; clear BK137; clear HB; have BK136 := n0_; have BK137 := n1_; have HB := n2_; clear n0_ n1_ n2_; (try clear hb); (try clear hb2); (try clear hk); (try clear hi)))
              go_ret2
              exact ⟨by first | rfl | (simp [errW_none, errW_some] <;> rfl) | (simp [*, errW_none, errW_some] <;> rfl), by repeat (first | (with_reducible first | exact HB.out | apply below_alloc | apply pw_below_drewN | apply below_drew1 | refine below_set ?_ GE136.out | refine below_set ?_ GE137.out) | exact HB.out)⟩
        · rw [if_neg c17] at H
          have c17b0 : (t141 == 0) = false := beq_eq_false_iff_ne.mpr c17
          have c17b1 : (t141 != 0) = true := bne_iff_ne.mpr c17
          simp only [Option.some.injEq, Prod.mk.injEq] at H
          obtain ⟨rfl, rfl⟩ := H
          have hnb47 := NB136_137.out
          have hnc47 := NB137_136.out
          have hcz48_0 : wc.cell? ⟨gb136, 0, none⟩ = some (.int .i64 a2_0) := (blk_cell BK136.out 0).trans rfl
          have hcz48_1 : wc.cell? ⟨gb136, 1, none⟩ = some (.string a2_1) := (blk_cell BK136.out 1).trans rfl
          have hcz48_2 : wc.cell? ⟨gb136, 2, none⟩ = some (.int .i64 a2_2) := (blk_cell BK136.out 2).trans rfl
          have hcz48_3 : wc.cell? ⟨gb136, 3, none⟩ = some (.slice A2_3 l2_3.length c2_3) := (blk_cell BK136.out 3).trans rfl
          have hfz48_0 := blk_frozen BK136.out 0
          have hfz48_1 := blk_frozen BK136.out 1
          have hfz48_2 := blk_frozen BK136.out 2
          have hfz48_3 := blk_frozen BK136.out 3
          go_wp2_with (first | ((with_reducible refine gate_callee (f := 9) rfl ?_); refine goesL_ (some 32) rfl rfl Try.func9 (by kernel_rfl) rfl #[.slice A0 l0.length c0, .agg #[.int .i64 a2_0, .string a2_1, .int .i64 a2_2, .slice A2_3 l2_3.length c2_3]] rfl (by (try simp only [List.map_toArray, List.map_cons, List.map_nil]); first | done | rfl | (simp only [List.length_drop, List.length_take]; rfl)) ?_; (with_reducible refine (arith_Eval.calls kj4 _ _ l0 a2_0 a2_1 a2_2 _ _ l2_3 t138 t139 _ ?side1 ?side2 ?side3 ?side4 A14.out).mono ?_); (case side1 => repeat (first | exact (Kd.C_below HR0.out HB.out) | (with_reducible refine Kd.C_alloc ?_ _) | (with_reducible refine Kd.C_drewN ?_ _) | (with_reducible refine Kd.C_drew ?_))); (case side2 => exact HC0.out); (case side3 => repeat (first | exact (Kd.C_below HR2_3.out HB.out) | (with_reducible refine Kd.C_alloc ?_ _) | (with_reducible refine Kd.C_drewN ?_ _) | (with_reducible refine Kd.C_drew ?_))); (case side4 => exact HC2_3.out); rintro e w49 ⟨rfl, hb⟩; refine ⟨_, rfl, ?_⟩; have n0_ := Aside0.mk (blk_below (g := gb136) (o := .cells #[.int .i64 a2_0, .string a2_1, .int .i64 a2_2, .slice A2_3 l2_3.length c2_3] 25 (0, 0)) (by (with_reducible repeat (first | refine blk_drewN ?_ _ | refine blk_drew ?_ | refine blk_alloc ?_ _)); exact BK136.out) hb); have n1_ := Aside0.mk (blk_below (g := gb137) (o := .cells #[.int .i64 a3_0, .string a3_1, .int .i64 a3_2, .slice A3_3 l3_3.length c3_3] 25 (0, 0)) (by (with_reducible repeat (first | refine blk_drewN ?_ _ | refine blk_drew ?_ | refine blk_alloc ?_ _)); exact BK137.out) hb); have n2_ := Aside0.mk (below_step (by repeat (first | (with_reducible first | exact HB.out | apply below_alloc | apply pw_below_drewN | apply below_drew1 | refine below_set ?_ GE136.out | refine below_set ?_ GE137.out) | exact HB.out)) hb); clear BK136; clear BK137; clear HB; have BK136 := n0_; have BK137 := n1_; have HB := n2_; clear n0_ n1_ n2_; (try clear hb); (try clear hb2); (try clear hk); (try clear hi); have hcz50_0 : w49.cell? ⟨gb137, 0, none⟩ = some (.int .i64 a3_0) := (blk_cell BK137.out 0).trans rfl; have hcz50_1 : w49.cell? ⟨gb137, 1, none⟩ = some (.string a3_1) := (blk_cell BK137.out 1).trans rfl; have hcz50_2 : w49.cell? ⟨gb137, 2, none⟩ = some (.int .i64 a3_2) := (blk_cell BK137.out 2).trans rfl; have hcz50_3 : w49.cell? ⟨gb137, 3, none⟩ = some (.slice A3_3 l3_3.length c3_3) := (blk_cell BK137.out 3).trans rfl; have hfz50_0 := blk_frozen BK137.out 0; have hfz50_1 := blk_frozen BK137.out 1; have hfz50_2 := blk_frozen BK137.out 2; have hfz50_3 := blk_frozen BK137.out 3) | ((with_reducible refine gate_callee (f := 9) rfl ?_); refine goesL_ (some 41) rfl rfl Try.func9 (by kernel_rfl) rfl #[.slice A0 l0.length c0, .agg #[.int .i64 a3_0, .string a3_1, .int .i64 a3_2, .slice A3_3 l3_3.length c3_3]] rfl (by (try simp only [List.map_toArray, List.map_cons, List.map_nil]); first | done | rfl | (simp only [List.length_drop, List.length_take]; rfl)) ?_; (with_reducible refine (arith_Eval.calls kj4 _ _ l0 a3_0 a3_1 a3_2 _ _ l3_3 t140 t141 _ ?side1 ?side2 ?side3 ?side4 A16.out).mono ?_); (case side1 => repeat (first | exact (Kd.C_below HR0.out HB.out) | (with_reducible refine Kd.C_alloc ?_ _) | (with_reducible refine Kd.C_drewN ?_ _) | (with_reducible refine Kd.C_drew ?_))); (case side2 => exact HC0.out); (case side3 => repeat (first | exact (Kd.C_below HR3_3.out HB.out) | (with_reducible refine Kd.C_alloc ?_ _) | (with_reducible refine Kd.C_drewN ?_ _) | (with_reducible refine Kd.C_drew ?_))); (case side4 => exact HC3_3.out); rintro e w51 ⟨rfl, hb⟩; refine ⟨_, rfl, ?_⟩; have n0_ := Aside0.mk (blk_below (g := gb136) (o := .cells #[.int .i64 a2_0, .string a2_1, .int .i64 a2_2, .slice A2_3 l2_3.length c2_3] 25 (0, 0)) (by (with_reducible repeat (first | refine blk_drewN ?_ _ | refine blk_drew ?_ | refine blk_alloc ?_ _)); exact BK136.out) hb); have n1_ := Aside0.mk (blk_below (g := gb137) (o := .cells #[.int .i64 a3_0, .string a3_1, .int .i64 a3_2, .slice A3_3 l3_3.length c3_3] 25 (0, 0)) (by (with_reducible repeat (first | refine blk_drewN ?_ _ | refine blk_drew ?_ | refine blk_alloc ?_ _)); exact BK137.out) hb); have n2_ := Aside0.mk (below_step (by repeat (first | (with_reducible first | exact HB.out | apply below_alloc | apply pw_below_drewN | apply below_drew1 | refine below_set ?_ GE136.out | refine below_set ?_ GE137.out) | exact HB.out)) hb); clear BK136; clear BK137; clear HB; have BK136 := n0_; have BK137 := n1_; have HB := n2_; clear n0_ n1_ n2_; (try clear hb); (try clear hb2); (try clear hk); (try clear hi)))
          go_ret2
          exact ⟨by first | rfl | (simp [errW_none, errW_some] <;> rfl) | (simp [*, errW_none, errW_some] <;> rfl), by repeat (first | (with_reducible first | exact HB.out | apply below_alloc | apply pw_below_drewN | apply below_drew1 | refine below_set ?_ GE136.out | refine below_set ?_ GE137.out) | exact HB.out)⟩
      · rw [if_neg c15] at H
        have c15b0 : (t139 == 0) = false := beq_eq_false_iff_ne.mpr c15
        have c15b1 : (t139 != 0) = true := bne_iff_ne.mpr c15
        simp only [Option.some.injEq, Prod.mk.injEq] at H
        obtain ⟨rfl, rfl⟩ := H
        have hnb52 := NB136_137.out
        have hnc52 := NB137_136.out
        have hcz53_0 : wc.cell? ⟨gb136, 0, none⟩ = some (.int .i64 a2_0) := (blk_cell BK136.out 0).trans rfl
        have hcz53_1 : wc.cell? ⟨gb136, 1, none⟩ = some (.string a2_1) := (blk_cell BK136.out 1).trans rfl
        have hcz53_2 : wc.cell? ⟨gb136, 2, none⟩ = some (.int .i64 a2_2) := (blk_cell BK136.out 2).trans rfl
        have hcz53_3 : wc.cell? ⟨gb136, 3, none⟩ = some (.slice A2_3 l2_3.length c2_3) := (blk_cell BK136.out 3).trans rfl
        have hfz53_0 := blk_frozen BK136.out 0
        have hfz53_1 := blk_frozen BK136.out 1
        have hfz53_2 := blk_frozen BK136.out 2
        have hfz53_3 := blk_frozen BK136.out 3
        go_wp2_with (first | ((with_reducible refine gate_callee (f := 9) rfl ?_); refine goesL_ (some 32) rfl rfl Try.func9 (by kernel_rfl) rfl #[.slice A0 l0.length c0, .agg #[.int .i64 a2_0, .string a2_1, .int .i64 a2_2, .slice A2_3 l2_3.length c2_3]] rfl (by (try simp only [List.map_toArray, List.map_cons, List.map_nil]); first | done | rfl | (simp only [List.length_drop, List.length_take]; rfl)) ?_; (with_reducible refine (arith_Eval.calls kj4 _ _ l0 a2_0 a2_1 a2_2 _ _ l2_3 t138 t139 _ ?side1 ?side2 ?side3 ?side4 A14.out).mono ?_); (case side1 => repeat (first | exact (Kd.C_below HR0.out HB.out) | (with_reducible refine Kd.C_alloc ?_ _) | (with_reducible refine Kd.C_drewN ?_ _) | (with_reducible refine Kd.C_drew ?_))); (case side2 => exact HC0.out); (case side3 => repeat (first | exact (Kd.C_below HR2_3.out HB.out) | (with_reducible refine Kd.C_alloc ?_ _) | (with_reducible refine Kd.C_drewN ?_ _) | (with_reducible refine Kd.C_drew ?_))); (case side4 => exact HC2_3.out); rintro e w54 ⟨rfl, hb⟩; refine ⟨_, rfl, ?_⟩; have n0_ := Aside0.mk (blk_below (g := gb136) (o := .cells #[.int .i64 a2_0, .string a2_1, .int .i64 a2_2, .slice A2_3 l2_3.length c2_3] 25 (0, 0)) (by (with_reducible repeat (first | refine blk_drewN ?_ _ | refine blk_drew ?_ | refine blk_alloc ?_ _)); exact BK136.out) hb); have n1_ := Aside0.mk (blk_below (g := gb137) (o := .cells #[.int .i64 a3_0, .string a3_1, .int .i64 a3_2, .slice A3_3 l3_3.length c3_3] 25 (0, 0)) (by (with_reducible repeat (first | refine blk_drewN ?_ _ | refine blk_drew ?_ | refine blk_alloc ?_ _)); exact BK137.out) hb); have n2_ := Aside0.mk (below_step (by repeat (first | (with_reducible first | exact HB.out | apply below_alloc | apply pw_below_drewN | apply below_drew1 | refine below_set ?_ GE136.out | refine below_set ?_ GE137.out) | exact HB.out)) hb); clear BK136; clear BK137; clear HB; have BK136 := n0_; have BK137 := n1_; have HB := n2_; clear n0_ n1_ n2_; (try clear hb); (try clear hb2); (try clear hk); (try clear hi)))
        go_ret2
        exact ⟨by first | rfl | (simp [errW_none, errW_some] <;> rfl) | (simp [*, errW_none, errW_some] <;> rfl), by repeat (first | (with_reducible first | exact HB.out | apply below_alloc | apply pw_below_drewN | apply below_drew1 | refine below_set ?_ GE136.out | refine below_set ?_ GE137.out) | exact HB.out)⟩

/-! ### spinneyref03_Comp1: function 13 -/
def spinneyref03_Comp1.f (a0 : ByteArray) (l1 : List (S25)) : Option (Int × ByteArray × Int × (List (S25))) := some (4, a0, 0, l1)
set_option maxHeartbeats 8000000 in
set_option maxRecDepth 100000 in
theorem spinneyref03_Comp1.calls (a0 : ByteArray) (P1_ : Nat → Prop) (A1 : Option Addr) (c1 : Nat) (l1 : List (S25)) (r1 : Int) (r2 : ByteArray) (r3 : Int) (r4 : List (S25)) (w : World) (hs1 : Kd.V k25 25 w w.heap.size (fun k_ => P1_ k_) (.slice A1 l1.length c1) l1) (h : spinneyref03_Comp1.f a0 l1 = some (r1, r2, r3, r4)) :
    Calls Try.prog 13 #[.string a0, .slice A1 l1.length c1] w fun e w' => ∃ v3_ : Value, e = .returned (.agg #[.int .i64 r1, .string r2, .int .i64 r3, v3_]) ∧ Kd.V k25 25 w' w.heap.size (fun k_ => (P1_ k_ ∨ w.heap.size ≤ k_)) v3_ r4 ∧ Below w.heap.size w w' := by
  have hu25 := Try.underlying25
  have HO1 := Aside0.mk (show Kd.V k25 25 w w.heap.size (fun k_ => (P1_ k_ ∨ w.heap.size ≤ k_)) (.slice A1 l1.length c1) l1 from Kd.V_mono hs1 (fun k_ hk => .inl hk))
  have HB := Aside0.mk (Below.refl w.heap.size w)
  have H : (some (4, a0, 0, l1)) = some (r1, r2, r3, r4) := h
  clear h
  simp only [Option.some.injEq, Prod.mk.injEq] at H
  obtain ⟨rfl, rfl, rfl, rfl⟩ := H
  go_enter Try.func13, Try.ntmps13
  go_wp2_with (first | ((with_reducible refine gate_dst (N := 4) rfl ?_); refine box_event ?hg (N := 4) ?hd (cs := #[.int .i64 0, .string (⟨#[]⟩ : ByteArray), .int .i64 0, .slice none 0 0]) (t := 25) ?hr ?_; (case hd => rfl); (case hg => rfl); (case hr => first | (go_simp; done) | (go_simp; rfl)); intro gb142 hg w3 hbox hb; have n0_ := Aside0.mk (Kd.V_below (Kd.V_elderB (by (with_reducible repeat (first | apply Kd.V_alloc | apply Kd.V_drewN | apply Kd.V_drew)); exact HO1.out) gb142 (Nat.le_of_eq hg.symm)) hb); have n1_ := Aside0.mk (below_step (by repeat (first | (with_reducible first | exact HB.out | apply below_alloc | apply pw_below_drewN | apply below_drew1) | exact HB.out)) hb); have n2_ := Aside0.mk (hbox); have n3_ := Aside0.mk ((by rw [hg]; exact (below_size (by repeat (first | (with_reducible first | exact HB.out | apply below_alloc | apply pw_below_drewN | apply below_drew1) | exact HB.out))) : w.heap.size ≤ gb142)); have n4_ := Aside0.mk ((by rw [hg]; exact (below_size (by repeat (first | (with_reducible first | exact HB.out | apply below_alloc | apply pw_below_drewN | apply below_drew1) | exact HB.out))) : w.heap.size ≤ gb142)); clear HO1; clear HB; have HO1 := n0_; have HB := n1_; have BK142 := n2_; have GW142 := n3_; have GE142 := n4_; clear n0_ n1_ n2_ n3_ n4_; clear hb hbox hg; have hcz4_0 : w3.cell? ⟨gb142, 0, none⟩ = some (.int .i64 0) := (blk_cell BK142.out 0).trans rfl; have hcz4_1 : w3.cell? ⟨gb142, 1, none⟩ = some (.string (⟨#[]⟩ : ByteArray)) := (blk_cell BK142.out 1).trans rfl; have hcz4_2 : w3.cell? ⟨gb142, 2, none⟩ = some (.int .i64 0) := (blk_cell BK142.out 2).trans rfl; have hcz4_3 : w3.cell? ⟨gb142, 3, none⟩ = some (.slice none 0 0) := (blk_cell BK142.out 3).trans rfl; have hfz4_0 := blk_frozen BK142.out 0; have hfz4_1 := blk_frozen BK142.out 1; have hfz4_2 := blk_frozen BK142.out 2; have hfz4_3 := blk_frozen BK142.out 3))
  refine bodyPost_ret (results_cell_row rfl _ _ gb142 25 #[.int .i64 4, .string a0, .int .i64 0, .slice A1 l1.length c1] (0, 0) _ rfl (by (with_reducible repeat (first | refine blk_drewN ?_ _ | refine blk_drew ?_ | refine blk_alloc ?_ _)); refine blk_put (cs := #[.int .i64 4, .string a0, .int .i64 0, .slice none 0 0]) ?_ 3 _ rfl; (with_reducible repeat (first | refine blk_drewN ?_ _ | refine blk_drew ?_ | refine blk_alloc ?_ _)); refine blk_put (cs := #[.int .i64 4, .string a0, .int .i64 0, .slice none 0 0]) ?_ 2 _ rfl; (with_reducible repeat (first | refine blk_drewN ?_ _ | refine blk_drew ?_ | refine blk_alloc ?_ _)); refine blk_put (cs := #[.int .i64 4, .string (⟨#[]⟩ : ByteArray), .int .i64 0, .slice none 0 0]) ?_ 1 _ rfl; (with_reducible repeat (first | refine blk_drewN ?_ _ | refine blk_drew ?_ | refine blk_alloc ?_ _)); refine blk_put (cs := #[.int .i64 0, .string (⟨#[]⟩ : ByteArray), .int .i64 0, .slice none 0 0]) ?_ 0 _ rfl; (with_reducible repeat (first | refine blk_drewN ?_ _ | refine blk_drew ?_ | refine blk_alloc ?_ _)); exact BK142.out) Try.underlying25 rfl (by kernel_rfl)) rfl ?_
  exact ⟨_, by first | rfl | (simp [errW_none, errW_some] <;> rfl) | (simp [*, errW_none, errW_some] <;> rfl), by (with_reducible repeat (first | apply Kd.V_alloc | apply Kd.V_drewN | apply Kd.V_drew)); exact Kd.V_mono (Kd.V_far (p := ⟨gb142, 3, none⟩) (Kd.V_far (p := ⟨gb142, 2, none⟩) (Kd.V_far (p := ⟨gb142, 1, none⟩) (Kd.V_far (p := ⟨gb142, 0, none⟩) (Kd.V_mono HO1.out (fun k_ hk => (⟨hk, hk.2⟩ : _ ∧ k_ ≠ gb142))) (fun _ hk => hk.2) (.int .i64 4)) (fun _ hk => hk.2) (.string a0)) (fun _ hk => hk.2) (.int .i64 0)) (fun _ hk => hk.2) (.slice A1 l1.length c1)) (fun _ hk => hk.1.1), by repeat (first | (with_reducible first | exact HB.out | apply below_alloc | apply pw_below_drewN | apply below_drew1 | refine below_set ?_ GE142.out) | exact HB.out)⟩

/-! ### spinneyref03_Int1: function 14 -/
def spinneyref03_Int1.f (a0 : Int) : Option (Int × ByteArray × Int × (List (S25))) := some (3, (⟨#[]⟩ : ByteArray), a0, ([] : List (S25)))
set_option maxHeartbeats 8000000 in
set_option maxRecDepth 100000 in
theorem spinneyref03_Int1.calls (a0 : Int) (r1 : Int) (r2 : ByteArray) (r3 : Int) (r4 : List (S25)) (w : World) (h : spinneyref03_Int1.f a0 = some (r1, r2, r3, r4)) :
    Calls Try.prog 14 #[.int .i64 a0] w fun e w' => ∃ v3_ : Value, e = .returned (.agg #[.int .i64 r1, .string r2, .int .i64 r3, v3_]) ∧ Kd.R k25 25 w' w.heap.size (fun _ => True) v3_ r4 ∧ Below w.heap.size w w' := by
  have hu25 := Try.underlying25
  have HB := Aside0.mk (Below.refl w.heap.size w)
  have H : (some (3, (⟨#[]⟩ : ByteArray), a0, ([] : List (S25)))) = some (r1, r2, r3, r4) := h
  clear h
  simp only [Option.some.injEq, Prod.mk.injEq] at H
  obtain ⟨rfl, rfl, rfl, rfl⟩ := H
  go_enter Try.func14, Try.ntmps14
  go_wp2_with (first | ((with_reducible refine gate_dst (N := 2) rfl ?_); refine box_event ?hg (N := 2) ?hd (cs := #[.int .i64 0, .string (⟨#[]⟩ : ByteArray), .int .i64 0, .slice none 0 0]) (t := 25) ?hr ?_; (case hd => rfl); (case hg => rfl); (case hr => first | (go_simp; done) | (go_simp; rfl)); intro gb143 hg w2 hbox hb; have n0_ := Aside0.mk (below_step (by repeat (first | (with_reducible first | exact HB.out | apply below_alloc | apply pw_below_drewN | apply below_drew1) | exact HB.out)) hb); have n1_ := Aside0.mk (hbox); have n2_ := Aside0.mk ((by rw [hg]; exact (below_size (by repeat (first | (with_reducible first | exact HB.out | apply below_alloc | apply pw_below_drewN | apply below_drew1) | exact HB.out))) : w.heap.size ≤ gb143)); have n3_ := Aside0.mk ((by rw [hg]; exact (below_size (by repeat (first | (with_reducible first | exact HB.out | apply below_alloc | apply pw_below_drewN | apply below_drew1) | exact HB.out))) : w.heap.size ≤ gb143)); clear HB; have HB := n0_; have BK143 := n1_; have GW143 := n2_; have GE143 := n3_; clear n0_ n1_ n2_ n3_; clear hb hbox hg; have hcz3_0 : w2.cell? ⟨gb143, 0, none⟩ = some (.int .i64 0) := (blk_cell BK143.out 0).trans rfl; have hcz3_1 : w2.cell? ⟨gb143, 1, none⟩ = some (.string (⟨#[]⟩ : ByteArray)) := (blk_cell BK143.out 1).trans rfl; have hcz3_2 : w2.cell? ⟨gb143, 2, none⟩ = some (.int .i64 0) := (blk_cell BK143.out 2).trans rfl; have hcz3_3 : w2.cell? ⟨gb143, 3, none⟩ = some (.slice none 0 0) := (blk_cell BK143.out 3).trans rfl; have hfz3_0 := blk_frozen BK143.out 0; have hfz3_1 := blk_frozen BK143.out 1; have hfz3_2 := blk_frozen BK143.out 2; have hfz3_3 := blk_frozen BK143.out 3))
  refine bodyPost_ret (results_cell_row rfl _ _ gb143 25 #[.int .i64 3, .string (⟨#[]⟩ : ByteArray), .int .i64 a0, .slice none 0 0] (0, 0) _ rfl (by (with_reducible repeat (first | refine blk_drewN ?_ _ | refine blk_drew ?_ | refine blk_alloc ?_ _)); refine blk_put (cs := #[.int .i64 3, .string (⟨#[]⟩ : ByteArray), .int .i64 a0, .slice none 0 0]) ?_ 3 _ rfl; (with_reducible repeat (first | refine blk_drewN ?_ _ | refine blk_drew ?_ | refine blk_alloc ?_ _)); refine blk_put (cs := #[.int .i64 3, .string (⟨#[]⟩ : ByteArray), .int .i64 0, .slice none 0 0]) ?_ 2 _ rfl; (with_reducible repeat (first | refine blk_drewN ?_ _ | refine blk_drew ?_ | refine blk_alloc ?_ _)); refine blk_put (cs := #[.int .i64 3, .string (⟨#[]⟩ : ByteArray), .int .i64 0, .slice none 0 0]) ?_ 1 _ rfl; (with_reducible repeat (first | refine blk_drewN ?_ _ | refine blk_drew ?_ | refine blk_alloc ?_ _)); refine blk_put (cs := #[.int .i64 0, .string (⟨#[]⟩ : ByteArray), .int .i64 0, .slice none 0 0]) ?_ 0 _ rfl; (with_reducible repeat (first | refine blk_drewN ?_ _ | refine blk_drew ?_ | refine blk_alloc ?_ _)); exact BK143.out) Try.underlying25 rfl (by kernel_rfl)) rfl ?_
  exact ⟨_, by first | rfl | (simp [errW_none, errW_some] <;> rfl) | (simp [*, errW_none, errW_some] <;> rfl), by first | exact Kd.R_nil _ _ _ _ _ | exact Kd.N_nil _ _ _ _ _ | exact Kd.V_nil _ _ _ _ _ | exact Kd.Q_nil _ _ _ _ _ | exact Kd.S_nil _ _ _ _ _, by repeat (first | (with_reducible first | exact HB.out | apply below_alloc | apply pw_below_drewN | apply below_drew1 | refine below_set ?_ GE143.out) | exact HB.out)⟩

end Go.Proofs.Ytmiapolhklapnaa.P
