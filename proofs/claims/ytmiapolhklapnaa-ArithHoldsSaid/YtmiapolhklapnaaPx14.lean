-- PRINTED by a program of this session over the kit's print.py.
import Derived.Test.YtmiapolhklapnaaPx0
import Derived.Test.YtmiapolhklapnaaPx13
namespace Go.Proofs.Ytmiapolhklapnaa.P
open Go.Own Go.RowKit Go.Proofs.YtmiapolhklapnaaW.PrintWords Go.Proofs.YtmiapolhklapnaaW.PrintLast Go.Proofs.YtmiapolhklapnaaW.PrintMore
attribute [local go_sem] max2_int min2_int max_two min_two max_three min_three max_four min_four   -- for this text's walks alone
set_option linter.unusedVariables false
set_option linter.unusedSimpArgs false

/-! ### spinneyref11_Holds: function 12 -/
def spinneyref11_Holds.j0 : Nat → List (S45) → ByteArray → Int → ByteArray → Int → List (S25) → Int → ByteArray → Int → List (S25) → Option (Bool × Int)
  | 0, _, _, _, _, _, _, _, _, _, _ => none
  | k + 1, x0, x1, x370000, x370001, x370002, x370003, x371000, x371001, x371002, x371003 => (spinneyref11_Eval.f k x0 x370000 x370001 x370002 x370003).bind fun bt371 => (if bt371.2 = 0 then ((spinneyref11_Eval.f k x0 x371000 x371001 x371002 x371003).bind fun bt373 => (if bt373.2 = 0 then (if x1.toList = ([61, 58, 61] : List UInt8) then (some ((bt371.1 == bt373.1), 0)) else (if x1.toList = ([61, 92, 61] : List UInt8) then (some ((bt371.1 != bt373.1), 0)) else (if x1.toList = ([60] : List UInt8) then (some (decide (bt371.1 < bt373.1), 0)) else (if x1.toList = ([61, 60] : List UInt8) then (some (decide (bt371.1 ≤ bt373.1), 0)) else (if x1.toList = ([62] : List UInt8) then (some (decide (bt371.1 > bt373.1), 0)) else (some (decide (bt371.1 ≥ bt373.1), 0))))))) else (some (false, bt373.2)))) else (some (false, bt371.2)))
def spinneyref11_Holds.f (k : Nat) (l0 : List (S45)) (a1 : ByteArray) (a2_0 : Int) (a2_1 : ByteArray) (a2_2 : Int) (l2_3 : List (S25)) (a3_0 : Int) (a3_1 : ByteArray) (a3_2 : Int) (l3_3 : List (S25)) : Option (Bool × Int) := if a1.toList = ([61, 58, 61] : List UInt8) then (spinneyref11_Holds.j0 k l0 a1 a2_0 a2_1 a2_2 l2_3 a3_0 a3_1 a3_2 l3_3) else (if a1.toList = ([61, 92, 61] : List UInt8) then (spinneyref11_Holds.j0 k l0 a1 a2_0 a2_1 a2_2 l2_3 a3_0 a3_1 a3_2 l3_3) else (if a1.toList = ([60] : List UInt8) then (spinneyref11_Holds.j0 k l0 a1 a2_0 a2_1 a2_2 l2_3 a3_0 a3_1 a3_2 l3_3) else (if a1.toList = ([61, 60] : List UInt8) then (spinneyref11_Holds.j0 k l0 a1 a2_0 a2_1 a2_2 l2_3 a3_0 a3_1 a3_2 l3_3) else (if a1.toList = ([62] : List UInt8) then (spinneyref11_Holds.j0 k l0 a1 a2_0 a2_1 a2_2 l2_3 a3_0 a3_1 a3_2 l3_3) else (if a1.toList = ([62, 61] : List UInt8) then (spinneyref11_Holds.j0 k l0 a1 a2_0 a2_1 a2_2 l2_3 a3_0 a3_1 a3_2 l3_3) else (some (false, 1)))))))
theorem spinneyref11_Holds.mono_l : ∀ k, (∀ y0 y1 y2 y3 y4 y5 y6 y7 y8 y9, LeO (spinneyref11_Holds.j0 k y0 y1 y2 y3 y4 y5 y6 y7 y8 y9) (spinneyref11_Holds.j0 (k + 1) y0 y1 y2 y3 y4 y5 y6 y7 y8 y9))
  | 0 => fun _ _ _ _ _ _ _ _ _ _ r h => by simp [spinneyref11_Holds.j0] at h
  | k + 1 => by
    have ih0 := spinneyref11_Holds.mono_l k
    · intro y0 y1 y2 y3 y4 y5 y6 y7 y8 y9
      unfold spinneyref11_Holds.j0
      repeat' first
      | (with_reducible exact ih0 _ _ _ _ _ _ _ _ _ _)
      | (with_reducible exact spinneyref11_Eval.mono _ _ _ _ _ _)
      | (with_reducible exact LeO.refl _)
      | (with_reducible exact LeO.none _)
      | (with_reducible refine LeO.ite ?_ ?_)
      | (with_reducible refine LeO.bind ?_ (fun _ => ?_))
      | exact ih0 _ _ _ _ _ _ _ _ _ _
      | exact spinneyref11_Eval.mono _ _ _ _ _ _
      | exact LeO.none _
      | refine LeO.ite ?_ ?_
      | refine LeO.bind ?_ (fun _ => ?_)
theorem spinneyref11_Holds.mono : ∀ a0 a1 a2 a3 a4 a5 a6 a7 a8 a9 k, LeO (spinneyref11_Holds.f k a0 a1 a2 a3 a4 a5 a6 a7 a8 a9) (spinneyref11_Holds.f (k + 1) a0 a1 a2 a3 a4 a5 a6 a7 a8 a9) := by
  intro a0 a1 a2 a3 a4 a5 a6 a7 a8 a9 k
  have ih0 := spinneyref11_Holds.mono_l k
  unfold spinneyref11_Holds.f
  repeat' first
      | (with_reducible exact ih0 _ _ _ _ _ _ _ _ _ _)
      | (with_reducible exact spinneyref11_Eval.mono _ _ _ _ _ _)
      | (with_reducible exact LeO.refl _)
      | (with_reducible exact LeO.none _)
      | (with_reducible refine LeO.ite ?_ ?_)
      | (with_reducible refine LeO.bind ?_ (fun _ => ?_))
      | exact ih0 _ _ _ _ _ _ _ _ _ _
      | exact spinneyref11_Eval.mono _ _ _ _ _ _
      | exact LeO.none _
      | refine LeO.ite ?_ ?_
      | refine LeO.bind ?_ (fun _ => ?_)
set_option maxHeartbeats 8000000 in
set_option maxRecDepth 100000 in
theorem spinneyref11_Holds.calls (k : Nat) (A0 : Option Addr) (c0 : Nat) (l0 : List (S45)) (a1 : ByteArray) (a2_0 : Int) (a2_1 : ByteArray) (a2_2 : Int) (A2_3 : Option Addr) (c2_3 : Nat) (l2_3 : List (S25)) (a3_0 : Int) (a3_1 : ByteArray) (a3_2 : Int) (A3_3 : Option Addr) (c3_3 : Nat) (l3_3 : List (S25)) (r1 : Bool) (r2 : Int) (w : World) (hr0 : Kd.C k45 w A0 l0.length l0) (hc0 : l0.length ≤ c0) (hr2_3 : Kd.C k25 w A2_3 l2_3.length l2_3) (hc2_3 : l2_3.length ≤ c2_3) (hr3_3 : Kd.C k25 w A3_3 l3_3.length l3_3) (hc3_3 : l3_3.length ≤ c3_3) (h : spinneyref11_Holds.f k l0 a1 a2_0 a2_1 a2_2 l2_3 a3_0 a3_1 a3_2 l3_3 = some (r1, r2)) :
    Calls Try.prog 12 #[.slice A0 l0.length c0, .string a1, .agg #[.int .i64 a2_0, .string a2_1, .int .i64 a2_2, .slice A2_3 l2_3.length c2_3], .agg #[.int .i64 a3_0, .string a3_1, .int .i64 a3_2, .slice A3_3 l3_3.length c3_3]] w fun e w' => e = .returned (.tuple #[.bool r1, .int .i64 r2]) ∧ Below w.heap.size w w' := by
  have hu25 := Try.underlying25
  have HR0 := Aside0.mk hr0
  have HC0 := Aside0.mk hc0
  clear hr0 hc0
  have HR2_3 := Aside0.mk hr2_3
  have HC2_3 := Aside0.mk hc2_3
  clear hr2_3 hc2_3
  have HR3_3 := Aside0.mk hr3_3
  have HC3_3 := Aside0.mk hc3_3
  clear hr3_3 hc3_3
  have HB := Aside0.mk (Below.refl w.heap.size w)
  have H : (if a1.toList = ([61, 58, 61] : List UInt8) then (spinneyref11_Holds.j0 k l0 a1 a2_0 a2_1 a2_2 l2_3 a3_0 a3_1 a3_2 l3_3) else (if a1.toList = ([61, 92, 61] : List UInt8) then (spinneyref11_Holds.j0 k l0 a1 a2_0 a2_1 a2_2 l2_3 a3_0 a3_1 a3_2 l3_3) else (if a1.toList = ([60] : List UInt8) then (spinneyref11_Holds.j0 k l0 a1 a2_0 a2_1 a2_2 l2_3 a3_0 a3_1 a3_2 l3_3) else (if a1.toList = ([61, 60] : List UInt8) then (spinneyref11_Holds.j0 k l0 a1 a2_0 a2_1 a2_2 l2_3 a3_0 a3_1 a3_2 l3_3) else (if a1.toList = ([62] : List UInt8) then (spinneyref11_Holds.j0 k l0 a1 a2_0 a2_1 a2_2 l2_3 a3_0 a3_1 a3_2 l3_3) else (if a1.toList = ([62, 61] : List UInt8) then (spinneyref11_Holds.j0 k l0 a1 a2_0 a2_1 a2_2 l2_3 a3_0 a3_1 a3_2 l3_3) else (some (false, 1)))))))) = some (r1, r2) := h
  clear h
  have HC5 := Aside0.mk H
  clear H
  go_enter Try.func12, Try.ntmps12
  go_upto_block 0 with (first | ((with_reducible refine gate_dst (N := 6) rfl ?_); refine box_event ?hg (N := 6) ?hd (cs := #[.int .i64 a2_0, .string a2_1, .int .i64 a2_2, .slice A2_3 l2_3.length c2_3]) (t := 25) ?hr ?_; (case hd => rfl); (case hg => rfl); (case hr => first | (go_simp; done) | (go_simp; rfl)); intro gb369 hg w6 hbox hb; have n0_ := Aside0.mk (below_step (by repeat (first | (with_reducible first | exact HB.out | apply below_alloc | apply pw_below_drewN | apply below_drew1) | exact HB.out)) hb); have n1_ := Aside0.mk (hbox); have n2_ := Aside0.mk ((by rw [hg]; exact (below_size (by repeat (first | (with_reducible first | exact HB.out | apply below_alloc | apply pw_below_drewN | apply below_drew1) | exact HB.out))) : w.heap.size ≤ gb369)); have n3_ := Aside0.mk ((by rw [hg]; exact (below_size (by repeat (first | (with_reducible first | exact HB.out | apply below_alloc | apply pw_below_drewN | apply below_drew1) | exact HB.out))) : w.heap.size ≤ gb369)); clear HB; have HB := n0_; have BK369 := n1_; have GW369 := n2_; have GE369 := n3_; clear n0_ n1_ n2_ n3_; clear hb hbox hg) | ((with_reducible refine gate_dst (N := 7) rfl ?_); refine box_event ?hg (N := 7) ?hd (cs := #[.int .i64 a3_0, .string a3_1, .int .i64 a3_2, .slice A3_3 l3_3.length c3_3]) (t := 25) ?hr ?_; (case hd => rfl); (case hg => rfl); (case hr => first | (go_simp; done) | (go_simp; rfl)); intro gb370 hg w7 hbox hb; have n0_ := Aside0.mk (blk_below (g := gb369) (o := .cells #[.int .i64 a2_0, .string a2_1, .int .i64 a2_2, .slice A2_3 l2_3.length c2_3] 25 (0, 0)) (by (with_reducible repeat (first | refine blk_drewN ?_ _ | refine blk_drew ?_ | refine blk_alloc ?_ _)); exact BK369.out) hb); have n1_ := Aside0.mk (below_step (by repeat (first | (with_reducible first | exact HB.out | apply below_alloc | apply pw_below_drewN | apply below_drew1 | refine below_set ?_ GE369.out) | exact HB.out)) hb); have n2_ := Aside0.mk (hbox); have n3_ := Aside0.mk ((by rw [hg]; exact (below_size (by repeat (first | (with_reducible first | exact HB.out | apply below_alloc | apply pw_below_drewN | apply below_drew1 | refine below_set ?_ GE369.out) | exact HB.out))) : w.heap.size ≤ gb370)); have n4_ := Aside0.mk ((by rw [hg]; exact (below_size (by repeat (first | (with_reducible first | exact HB.out | apply below_alloc | apply pw_below_drewN | apply below_drew1 | refine below_set ?_ GE369.out) | exact HB.out))) : w.heap.size ≤ gb370)); have n5_ := Aside0.mk ((by rw [hg]; exact Nat.ne_of_lt (blk_lt (g := gb369) (o := .cells #[.int .i64 a2_0, .string a2_1, .int .i64 a2_2, .slice A2_3 l2_3.length c2_3] 25 (0, 0)) (by (with_reducible repeat (first | refine blk_drewN ?_ _ | refine blk_drew ?_ | refine blk_alloc ?_ _)); exact BK369.out)) : gb369 ≠ gb370)); have n6_ := Aside0.mk ((by rw [hg]; exact Nat.ne_of_gt (blk_lt (g := gb369) (o := .cells #[.int .i64 a2_0, .string a2_1, .int .i64 a2_2, .slice A2_3 l2_3.length c2_3] 25 (0, 0)) (by (with_reducible repeat (first | refine blk_drewN ?_ _ | refine blk_drew ?_ | refine blk_alloc ?_ _)); exact BK369.out)) : gb370 ≠ gb369)); clear BK369; clear HB; have BK369 := n0_; have HB := n1_; have BK370 := n2_; have GW370 := n3_; have GE370 := n4_; have NB369_370 := n5_; have NB370_369 := n6_; clear n0_ n1_ n2_ n3_ n4_ n5_ n6_; clear hb hbox hg))
  (try simp only [Act.put, List.setIfInBounds_toArray, List.set_cons_zero, List.set_cons_succ])
  go_cut [] (fun wc => ∃ (kq : Nat), Aside0 (spinneyref11_Holds.j0 kq l0 a1 a2_0 a2_1 a2_2 l2_3 a3_0 a3_1 a3_2 l3_3 = some (r1, r2)) ∧ Aside0 (kq ≤ k) ∧ Aside0 (wc.heap[gb369]? = some (.cells #[.int .i64 a2_0, .string a2_1, .int .i64 a2_2, (.slice A2_3 l2_3.length c2_3)] 25 (0, 0))) ∧ Aside0 (wc.heap[gb370]? = some (.cells #[.int .i64 a3_0, .string a3_1, .int .i64 a3_2, (.slice A3_3 l3_3.length c3_3)] 25 (0, 0))) ∧ Aside0 (Below w.heap.size w wc))
  case first =>
    have H := HC5.out
    clear HC5
    by_cases c8 : a1.toList = ([61, 58, 61] : List UInt8)
    · rw [if_pos c8] at H
      have c8b0 : (a1.toList == ([61, 58, 61] : List UInt8)) = true := beq_iff_eq.mpr c8
      have c8b1 : (a1.toList != ([61, 58, 61] : List UInt8)) = false := bne_eq_false_iff_eq.mpr c8
      clear c8
      (first | rw [c8b0] | (simp only [i64_w, i32_w]; rw [c8b0]) | skip)
      have H' := Aside0.mk H
      clear H
      go_wp2
      go_meet
      case rel => exact ⟨_, H', ⟨by first | omega | exact Nat.le_refl _⟩, ⟨by (with_reducible repeat (first | refine blk_drewN ?_ _ | refine blk_drew ?_ | refine blk_alloc ?_ _)); exact BK369.out⟩, ⟨by (with_reducible repeat (first | refine blk_drewN ?_ _ | refine blk_drew ?_ | refine blk_alloc ?_ _)); exact BK370.out⟩, ⟨by repeat (first | (with_reducible first | exact HB.out | apply below_alloc | apply pw_below_drewN | apply below_drew1 | refine below_set ?_ GE369.out | refine below_set ?_ GE370.out) | exact HB.out)⟩⟩
    · rw [if_neg c8] at H
      have c8b0 : (a1.toList == ([61, 58, 61] : List UInt8)) = false := beq_eq_false_iff_ne.mpr c8
      have c8b1 : (a1.toList != ([61, 58, 61] : List UInt8)) = true := bne_iff_ne.mpr c8
      (first | rw [c8b0] | (simp only [i64_w, i32_w]; rw [c8b0]) | skip)
      by_cases c9 : a1.toList = ([61, 92, 61] : List UInt8)
      · rw [if_pos c9] at H
        have c9b0 : (a1.toList == ([61, 92, 61] : List UInt8)) = true := beq_iff_eq.mpr c9
        have c9b1 : (a1.toList != ([61, 92, 61] : List UInt8)) = false := bne_eq_false_iff_eq.mpr c9
        clear c9
        have H' := Aside0.mk H
        clear H
        go_wp2
        go_meet
        case rel => exact ⟨_, H', ⟨by first | omega | exact Nat.le_refl _⟩, ⟨by (with_reducible repeat (first | refine blk_drewN ?_ _ | refine blk_drew ?_ | refine blk_alloc ?_ _)); exact BK369.out⟩, ⟨by (with_reducible repeat (first | refine blk_drewN ?_ _ | refine blk_drew ?_ | refine blk_alloc ?_ _)); exact BK370.out⟩, ⟨by repeat (first | (with_reducible first | exact HB.out | apply below_alloc | apply pw_below_drewN | apply below_drew1 | refine below_set ?_ GE369.out | refine below_set ?_ GE370.out) | exact HB.out)⟩⟩
      · rw [if_neg c9] at H
        have c9b0 : (a1.toList == ([61, 92, 61] : List UInt8)) = false := beq_eq_false_iff_ne.mpr c9
        have c9b1 : (a1.toList != ([61, 92, 61] : List UInt8)) = true := bne_iff_ne.mpr c9
        by_cases c10 : a1.toList = ([60] : List UInt8)
        · rw [if_pos c10] at H
          have c10b0 : (a1.toList == ([60] : List UInt8)) = true := beq_iff_eq.mpr c10
          have c10b1 : (a1.toList != ([60] : List UInt8)) = false := bne_eq_false_iff_eq.mpr c10
          clear c10
          have H' := Aside0.mk H
          clear H
          go_wp2
          go_meet
          case rel => exact ⟨_, H', ⟨by first | omega | exact Nat.le_refl _⟩, ⟨by (with_reducible repeat (first | refine blk_drewN ?_ _ | refine blk_drew ?_ | refine blk_alloc ?_ _)); exact BK369.out⟩, ⟨by (with_reducible repeat (first | refine blk_drewN ?_ _ | refine blk_drew ?_ | refine blk_alloc ?_ _)); exact BK370.out⟩, ⟨by repeat (first | (with_reducible first | exact HB.out | apply below_alloc | apply pw_below_drewN | apply below_drew1 | refine below_set ?_ GE369.out | refine below_set ?_ GE370.out) | exact HB.out)⟩⟩
        · rw [if_neg c10] at H
          have c10b0 : (a1.toList == ([60] : List UInt8)) = false := beq_eq_false_iff_ne.mpr c10
          have c10b1 : (a1.toList != ([60] : List UInt8)) = true := bne_iff_ne.mpr c10
          by_cases c11 : a1.toList = ([61, 60] : List UInt8)
          · rw [if_pos c11] at H
            have c11b0 : (a1.toList == ([61, 60] : List UInt8)) = true := beq_iff_eq.mpr c11
            have c11b1 : (a1.toList != ([61, 60] : List UInt8)) = false := bne_eq_false_iff_eq.mpr c11
            clear c11
            have H' := Aside0.mk H
            clear H
            go_wp2
            go_meet
            case rel => exact ⟨_, H', ⟨by first | omega | exact Nat.le_refl _⟩, ⟨by (with_reducible repeat (first | refine blk_drewN ?_ _ | refine blk_drew ?_ | refine blk_alloc ?_ _)); exact BK369.out⟩, ⟨by (with_reducible repeat (first | refine blk_drewN ?_ _ | refine blk_drew ?_ | refine blk_alloc ?_ _)); exact BK370.out⟩, ⟨by repeat (first | (with_reducible first | exact HB.out | apply below_alloc | apply pw_below_drewN | apply below_drew1 | refine below_set ?_ GE369.out | refine below_set ?_ GE370.out) | exact HB.out)⟩⟩
          · rw [if_neg c11] at H
            have c11b0 : (a1.toList == ([61, 60] : List UInt8)) = false := beq_eq_false_iff_ne.mpr c11
            have c11b1 : (a1.toList != ([61, 60] : List UInt8)) = true := bne_iff_ne.mpr c11
            by_cases c12 : a1.toList = ([62] : List UInt8)
            · rw [if_pos c12] at H
              have c12b0 : (a1.toList == ([62] : List UInt8)) = true := beq_iff_eq.mpr c12
              have c12b1 : (a1.toList != ([62] : List UInt8)) = false := bne_eq_false_iff_eq.mpr c12
              clear c12
              have H' := Aside0.mk H
              clear H
              go_wp2
              go_meet
              case rel => exact ⟨_, H', ⟨by first | omega | exact Nat.le_refl _⟩, ⟨by (with_reducible repeat (first | refine blk_drewN ?_ _ | refine blk_drew ?_ | refine blk_alloc ?_ _)); exact BK369.out⟩, ⟨by (with_reducible repeat (first | refine blk_drewN ?_ _ | refine blk_drew ?_ | refine blk_alloc ?_ _)); exact BK370.out⟩, ⟨by repeat (first | (with_reducible first | exact HB.out | apply below_alloc | apply pw_below_drewN | apply below_drew1 | refine below_set ?_ GE369.out | refine below_set ?_ GE370.out) | exact HB.out)⟩⟩
            · rw [if_neg c12] at H
              have c12b0 : (a1.toList == ([62] : List UInt8)) = false := beq_eq_false_iff_ne.mpr c12
              have c12b1 : (a1.toList != ([62] : List UInt8)) = true := bne_iff_ne.mpr c12
              by_cases c13 : a1.toList = ([62, 61] : List UInt8)
              · rw [if_pos c13] at H
                have c13b0 : (a1.toList == ([62, 61] : List UInt8)) = true := beq_iff_eq.mpr c13
                have c13b1 : (a1.toList != ([62, 61] : List UInt8)) = false := bne_eq_false_iff_eq.mpr c13
                clear c13
                have H' := Aside0.mk H
                clear H
                go_wp2
                go_meet
                case rel => exact ⟨_, H', ⟨by first | omega | exact Nat.le_refl _⟩, ⟨by (with_reducible repeat (first | refine blk_drewN ?_ _ | refine blk_drew ?_ | refine blk_alloc ?_ _)); exact BK369.out⟩, ⟨by (with_reducible repeat (first | refine blk_drewN ?_ _ | refine blk_drew ?_ | refine blk_alloc ?_ _)); exact BK370.out⟩, ⟨by repeat (first | (with_reducible first | exact HB.out | apply below_alloc | apply pw_below_drewN | apply below_drew1 | refine below_set ?_ GE369.out | refine below_set ?_ GE370.out) | exact HB.out)⟩⟩
              · rw [if_neg c13] at H
                have c13b0 : (a1.toList == ([62, 61] : List UInt8)) = false := beq_eq_false_iff_ne.mpr c13
                have c13b1 : (a1.toList != ([62, 61] : List UInt8)) = true := bne_iff_ne.mpr c13
                simp only [Option.some.injEq, Prod.mk.injEq] at H
                obtain ⟨rfl, rfl⟩ := H
                go_wp2
                go_ret2
                exact ⟨by first | rfl | (simp [errW_none, errW_some] <;> rfl) | (simp [*, errW_none, errW_some] <;> rfl), by repeat (first | (with_reducible first | exact HB.out | apply below_alloc | apply pw_below_drewN | apply below_drew1 | refine below_set ?_ GE369.out | refine below_set ?_ GE370.out) | exact HB.out)⟩
  case rest =>
    clear HC5
    try clear c1
    try clear c2
    try clear p2
    try clear c3
    try clear c8
    try clear c8b0
    try clear c8b1
    try clear c9
    try clear c9b0
    try clear c9b1
    try clear c10
    try clear c10b0
    try clear c10b1
    try clear c11
    try clear c11b0
    try clear c11b1
    try clear c12
    try clear c12b0
    try clear c12b1
    try clear c13
    try clear c13b0
    try clear c13b1
    obtain ⟨kq, HA, HJ4, BK369, BK370, HB⟩ := hcut
    cases kq with
    | zero => exact absurd HA.out (by simp [spinneyref11_Holds.j0])
    | succ kj4 =>
      have H := HA.out
      clear HA
      simp only [spinneyref11_Holds.j0] at H
      replace H := Option.bind_eq_some_iff.mp H
      obtain ⟨⟨t371, t372⟩, A140, H⟩ := H
      replace H : (if t372 = 0 then ((spinneyref11_Eval.f kj4 l0 a3_0 a3_1 a3_2 l3_3).bind fun bt373 => (if bt373.2 = 0 then (if a1.toList = ([61, 58, 61] : List UInt8) then (some ((t371 == bt373.1), 0)) else (if a1.toList = ([61, 92, 61] : List UInt8) then (some ((t371 != bt373.1), 0)) else (if a1.toList = ([60] : List UInt8) then (some (decide (t371 < bt373.1), 0)) else (if a1.toList = ([61, 60] : List UInt8) then (some (decide (t371 ≤ bt373.1), 0)) else (if a1.toList = ([62] : List UInt8) then (some (decide (t371 > bt373.1), 0)) else (some (decide (t371 ≥ bt373.1), 0))))))) else (some (false, bt373.2)))) else (some (false, t372))) = some (r1, r2) := H
      have A14 := Aside0.mk A140
      clear A140
      by_cases c15 : t372 = 0
      · rw [if_pos c15] at H
        have c15b0 : (t372 == 0) = true := beq_iff_eq.mpr c15
        have c15b1 : (t372 != 0) = false := bne_eq_false_iff_eq.mpr c15
        clear c15
        replace H := Option.bind_eq_some_iff.mp H
        obtain ⟨⟨t373, t374⟩, A160, H⟩ := H
        replace H : (if t374 = 0 then (if a1.toList = ([61, 58, 61] : List UInt8) then (some ((t371 == t373), 0)) else (if a1.toList = ([61, 92, 61] : List UInt8) then (some ((t371 != t373), 0)) else (if a1.toList = ([60] : List UInt8) then (some (decide (t371 < t373), 0)) else (if a1.toList = ([61, 60] : List UInt8) then (some (decide (t371 ≤ t373), 0)) else (if a1.toList = ([62] : List UInt8) then (some (decide (t371 > t373), 0)) else (some (decide (t371 ≥ t373), 0))))))) else (some (false, t374))) = some (r1, r2) := H
        have A16 := Aside0.mk A160
        clear A160
        by_cases c17 : t374 = 0
        · rw [if_pos c17] at H
          have c17b0 : (t374 == 0) = true := beq_iff_eq.mpr c17
          have c17b1 : (t374 != 0) = false := bne_eq_false_iff_eq.mpr c17
          clear c17
          by_cases c18 : a1.toList = ([61, 58, 61] : List UInt8)
          · rw [if_pos c18] at H
            have c18b0 : (a1.toList == ([61, 58, 61] : List UInt8)) = true := beq_iff_eq.mpr c18
            have c18b1 : (a1.toList != ([61, 58, 61] : List UInt8)) = false := bne_eq_false_iff_eq.mpr c18
            clear c18
            simp only [Option.some.injEq, Prod.mk.injEq] at H
            obtain ⟨rfl, rfl⟩ := H
            have hnb19 := NB369_370.out
            have hnc19 := NB370_369.out
            have hcz20_0 : wc.cell? ⟨gb369, 0, none⟩ = some (.int .i64 a2_0) := (blk_cell BK369.out 0).trans rfl
            have hcz20_1 : wc.cell? ⟨gb369, 1, none⟩ = some (.string a2_1) := (blk_cell BK369.out 1).trans rfl
            have hcz20_2 : wc.cell? ⟨gb369, 2, none⟩ = some (.int .i64 a2_2) := (blk_cell BK369.out 2).trans rfl
            have hcz20_3 : wc.cell? ⟨gb369, 3, none⟩ = some (.slice A2_3 l2_3.length c2_3) := (blk_cell BK369.out 3).trans rfl
            have hfz20_0 := blk_frozen BK369.out 0
            have hfz20_1 := blk_frozen BK369.out 1
            have hfz20_2 := blk_frozen BK369.out 2
            have hfz20_3 := blk_frozen BK369.out 3
            go_wp2_with (first | ((with_reducible refine gate_callee (f := 10) rfl ?_); refine goesL_ (some 24) rfl rfl Try.func10 (by kernel_rfl) rfl #[.slice A0 l0.length c0, .agg #[.int .i64 a2_0, .string a2_1, .int .i64 a2_2, .slice A2_3 l2_3.length c2_3]] rfl (by (try simp only [List.map_toArray, List.map_cons, List.map_nil]); first | done | rfl | (simp only [List.length_drop, List.length_take]; rfl)) ?_; (with_reducible refine (spinneyref11_Eval.calls kj4 _ _ l0 a2_0 a2_1 a2_2 _ _ l2_3 t371 t372 _ ?side1 ?side2 ?side3 ?side4 A14.out).mono ?_); (case side1 => repeat (first | exact (Kd.C_below HR0.out HB.out) | (with_reducible refine Kd.C_alloc ?_ _) | (with_reducible refine Kd.C_drewN ?_ _) | (with_reducible refine Kd.C_drew ?_))); (case side2 => exact HC0.out); (case side3 => repeat (first | exact (Kd.C_below HR2_3.out HB.out) | (with_reducible refine Kd.C_alloc ?_ _) | (with_reducible refine Kd.C_drewN ?_ _) | (with_reducible refine Kd.C_drew ?_))); (case side4 => exact HC2_3.out); rintro e w21 ⟨rfl, hb⟩; refine ⟨_, rfl, ?_⟩; have n0_ := Aside0.mk (blk_below (g := gb369) (o := .cells #[.int .i64 a2_0, .string a2_1, .int .i64 a2_2, .slice A2_3 l2_3.length c2_3] 25 (0, 0)) (by (with_reducible repeat (first | refine blk_drewN ?_ _ | refine blk_drew ?_ | refine blk_alloc ?_ _)); exact BK369.out) hb); have n1_ := Aside0.mk (blk_below (g := gb370) (o := .cells #[.int .i64 a3_0, .string a3_1, .int .i64 a3_2, .slice A3_3 l3_3.length c3_3] 25 (0, 0)) (by (with_reducible repeat (first | refine blk_drewN ?_ _ | refine blk_drew ?_ | refine blk_alloc ?_ _)); exact BK370.out) hb); have n2_ := Aside0.mk (below_step (by repeat (first | (with_reducible first | exact HB.out | apply below_alloc | apply pw_below_drewN | apply below_drew1 | refine below_set ?_ GE369.out | refine below_set ?_ GE370.out) | exact HB.out)) hb); clear BK369; clear BK370; clear HB; have BK369 := n0_; have BK370 := n1_; have HB := n2_; clear n0_ n1_ n2_; (try clear hb); (try clear hb2); (try clear hk); (try clear hi); have hcz22_0 : w21.cell? ⟨gb370, 0, none⟩ = some (.int .i64 a3_0) := (blk_cell BK370.out 0).trans rfl; have hcz22_1 : w21.cell? ⟨gb370, 1, none⟩ = some (.string a3_1) := (blk_cell BK370.out 1).trans rfl; have hcz22_2 : w21.cell? ⟨gb370, 2, none⟩ = some (.int .i64 a3_2) := (blk_cell BK370.out 2).trans rfl; have hcz22_3 : w21.cell? ⟨gb370, 3, none⟩ = some (.slice A3_3 l3_3.length c3_3) := (blk_cell BK370.out 3).trans rfl; have hfz22_0 := blk_frozen BK370.out 0; have hfz22_1 := blk_frozen BK370.out 1; have hfz22_2 := blk_frozen BK370.out 2; have hfz22_3 := blk_frozen BK370.out 3) | ((with_reducible refine gate_callee (f := 10) rfl ?_); refine goesL_ (some 33) rfl rfl Try.func10 (by kernel_rfl) rfl #[.slice A0 l0.length c0, .agg #[.int .i64 a3_0, .string a3_1, .int .i64 a3_2, .slice A3_3 l3_3.length c3_3]] rfl (by (try simp only [List.map_toArray, List.map_cons, List.map_nil]); first | done | rfl | (simp only [List.length_drop, List.length_take]; rfl)) ?_; (with_reducible refine (spinneyref11_Eval.calls kj4 _ _ l0 a3_0 a3_1 a3_2 _ _ l3_3 t373 t374 _ ?side1 ?side2 ?side3 ?side4 A16.out).mono ?_); (case side1 => repeat (first | exact (Kd.C_below HR0.out HB.out) | (with_reducible refine Kd.C_alloc ?_ _) | (with_reducible refine Kd.C_drewN ?_ _) | (with_reducible refine Kd.C_drew ?_))); (case side2 => exact HC0.out); (case side3 => repeat (first | exact (Kd.C_below HR3_3.out HB.out) | (with_reducible refine Kd.C_alloc ?_ _) | (with_reducible refine Kd.C_drewN ?_ _) | (with_reducible refine Kd.C_drew ?_))); (case side4 => exact HC3_3.out); rintro e w23 ⟨rfl, hb⟩; refine ⟨_, rfl, ?_⟩; have n0_ := Aside0.mk (blk_below (g := gb369) (o := .cells #[.int .i64 a2_0, .string a2_1, .int .i64 a2_2, .slice A2_3 l2_3.length c2_3] 25 (0, 0)) (by (with_reducible repeat (first | refine blk_drewN ?_ _ | refine blk_drew ?_ | refine blk_alloc ?_ _)); exact BK369.out) hb); have n1_ := Aside0.mk (blk_below (g := gb370) (o := .cells #[.int .i64 a3_0, .string a3_1, .int .i64 a3_2, .slice A3_3 l3_3.length c3_3] 25 (0, 0)) (by (with_reducible repeat (first | refine blk_drewN ?_ _ | refine blk_drew ?_ | refine blk_alloc ?_ _)); exact BK370.out) hb); have n2_ := Aside0.mk (below_step (by repeat (first | (with_reducible first | exact HB.out | apply below_alloc | apply pw_below_drewN | apply below_drew1 | refine below_set ?_ GE369.out | refine below_set ?_ GE370.out) | exact HB.out)) hb); clear BK369; clear BK370; clear HB; have BK369 := n0_; have BK370 := n1_; have HB := n2_; clear n0_ n1_ n2_; (try clear hb); (try clear hb2); (try clear hk); (try clear hi)))
            go_ret2
            exact ⟨by first | rfl | (simp [errW_none, errW_some] <;> rfl) | (simp [*, errW_none, errW_some] <;> rfl), by repeat (first | (with_reducible first | exact HB.out | apply below_alloc | apply pw_below_drewN | apply below_drew1 | refine below_set ?_ GE369.out | refine below_set ?_ GE370.out) | exact HB.out)⟩
          · rw [if_neg c18] at H
            have c18b0 : (a1.toList == ([61, 58, 61] : List UInt8)) = false := beq_eq_false_iff_ne.mpr c18
            have c18b1 : (a1.toList != ([61, 58, 61] : List UInt8)) = true := bne_iff_ne.mpr c18
            by_cases c24 : a1.toList = ([61, 92, 61] : List UInt8)
            · rw [if_pos c24] at H
              have c24b0 : (a1.toList == ([61, 92, 61] : List UInt8)) = true := beq_iff_eq.mpr c24
              have c24b1 : (a1.toList != ([61, 92, 61] : List UInt8)) = false := bne_eq_false_iff_eq.mpr c24
              clear c24
              simp only [Option.some.injEq, Prod.mk.injEq] at H
              obtain ⟨rfl, rfl⟩ := H
              have hnb25 := NB369_370.out
              have hnc25 := NB370_369.out
              have hcz26_0 : wc.cell? ⟨gb369, 0, none⟩ = some (.int .i64 a2_0) := (blk_cell BK369.out 0).trans rfl
              have hcz26_1 : wc.cell? ⟨gb369, 1, none⟩ = some (.string a2_1) := (blk_cell BK369.out 1).trans rfl
              have hcz26_2 : wc.cell? ⟨gb369, 2, none⟩ = some (.int .i64 a2_2) := (blk_cell BK369.out 2).trans rfl
              have hcz26_3 : wc.cell? ⟨gb369, 3, none⟩ = some (.slice A2_3 l2_3.length c2_3) := (blk_cell BK369.out 3).trans rfl
              have hfz26_0 := blk_frozen BK369.out 0
              have hfz26_1 := blk_frozen BK369.out 1
              have hfz26_2 := blk_frozen BK369.out 2
              have hfz26_3 := blk_frozen BK369.out 3
              go_wp2_with (first | ((with_reducible refine gate_callee (f := 10) rfl ?_); refine goesL_ (some 24) rfl rfl Try.func10 (by kernel_rfl) rfl #[.slice A0 l0.length c0, .agg #[.int .i64 a2_0, .string a2_1, .int .i64 a2_2, .slice A2_3 l2_3.length c2_3]] rfl (by (try simp only [List.map_toArray, List.map_cons, List.map_nil]); first | done | rfl | (simp only [List.length_drop, List.length_take]; rfl)) ?_; (with_reducible refine (spinneyref11_Eval.calls kj4 _ _ l0 a2_0 a2_1 a2_2 _ _ l2_3 t371 t372 _ ?side1 ?side2 ?side3 ?side4 A14.out).mono ?_); (case side1 => repeat (first | exact (Kd.C_below HR0.out HB.out) | (with_reducible refine Kd.C_alloc ?_ _) | (with_reducible refine Kd.C_drewN ?_ _) | (with_reducible refine Kd.C_drew ?_))); (case side2 => exact HC0.out); (case side3 => repeat (first | exact (Kd.C_below HR2_3.out HB.out) | (with_reducible refine Kd.C_alloc ?_ _) | (with_reducible refine Kd.C_drewN ?_ _) | (with_reducible refine Kd.C_drew ?_))); (case side4 => exact HC2_3.out); rintro e w27 ⟨rfl, hb⟩; refine ⟨_, rfl, ?_⟩; have n0_ := Aside0.mk (blk_below (g := gb369) (o := .cells #[.int .i64 a2_0, .string a2_1, .int .i64 a2_2, .slice A2_3 l2_3.length c2_3] 25 (0, 0)) (by (with_reducible repeat (first | refine blk_drewN ?_ _ | refine blk_drew ?_ | refine blk_alloc ?_ _)); exact BK369.out) hb); have n1_ := Aside0.mk (blk_below (g := gb370) (o := .cells #[.int .i64 a3_0, .string a3_1, .int .i64 a3_2, .slice A3_3 l3_3.length c3_3] 25 (0, 0)) (by (with_reducible repeat (first | refine blk_drewN ?_ _ | refine blk_drew ?_ | refine blk_alloc ?_ _)); exact BK370.out) hb); have n2_ := Aside0.mk (below_step (by repeat (first | (with_reducible first | exact HB.out | apply below_alloc | apply pw_below_drewN | apply below_drew1 | refine below_set ?_ GE369.out | refine below_set ?_ GE370.out) | exact HB.out)) hb); clear BK369; clear BK370; clear HB; have BK369 := n0_; have BK370 := n1_; have HB := n2_; clear n0_ n1_ n2_; (try clear hb); (try clear hb2); (try clear hk); (try clear hi); have hcz28_0 : w27.cell? ⟨gb370, 0, none⟩ = some (.int .i64 a3_0) := (blk_cell BK370.out 0).trans rfl; have hcz28_1 : w27.cell? ⟨gb370, 1, none⟩ = some (.string a3_1) := (blk_cell BK370.out 1).trans rfl; have hcz28_2 : w27.cell? ⟨gb370, 2, none⟩ = some (.int .i64 a3_2) := (blk_cell BK370.out 2).trans rfl; have hcz28_3 : w27.cell? ⟨gb370, 3, none⟩ = some (.slice A3_3 l3_3.length c3_3) := (blk_cell BK370.out 3).trans rfl; have hfz28_0 := blk_frozen BK370.out 0; have hfz28_1 := blk_frozen BK370.out 1; have hfz28_2 := blk_frozen BK370.out 2; have hfz28_3 := blk_frozen BK370.out 3) | ((with_reducible refine gate_callee (f := 10) rfl ?_); refine goesL_ (some 33) rfl rfl Try.func10 (by kernel_rfl) rfl #[.slice A0 l0.length c0, .agg #[.int .i64 a3_0, .string a3_1, .int .i64 a3_2, .slice A3_3 l3_3.length c3_3]] rfl (by (try simp only [List.map_toArray, List.map_cons, List.map_nil]); first | done | rfl | (simp only [List.length_drop, List.length_take]; rfl)) ?_; (with_reducible refine (spinneyref11_Eval.calls kj4 _ _ l0 a3_0 a3_1 a3_2 _ _ l3_3 t373 t374 _ ?side1 ?side2 ?side3 ?side4 A16.out).mono ?_); (case side1 => repeat (first | exact (Kd.C_below HR0.out HB.out) | (with_reducible refine Kd.C_alloc ?_ _) | (with_reducible refine Kd.C_drewN ?_ _) | (with_reducible refine Kd.C_drew ?_))); (case side2 => exact HC0.out); (case side3 => repeat (first | exact (Kd.C_below HR3_3.out HB.out) | (with_reducible refine Kd.C_alloc ?_ _) | (with_reducible refine Kd.C_drewN ?_ _) | (with_reducible refine Kd.C_drew ?_))); (case side4 => exact HC3_3.out); rintro e w29 ⟨rfl, hb⟩; refine ⟨_, rfl, ?_⟩; have n0_ := Aside0.mk (blk_below (g := gb369) (o := .cells #[.int .i64 a2_0, .string a2_1, .int .i64 a2_2, .slice A2_3 l2_3.length c2_3] 25 (0, 0)) (by (with_reducible repeat (first | refine blk_drewN ?_ _ | refine blk_drew ?_ | refine blk_alloc ?_ _)); exact BK369.out) hb); have n1_ := Aside0.mk (blk_below (g := gb370) (o := .cells #[.int .i64 a3_0, .string a3_1, .int .i64 a3_2, .slice A3_3 l3_3.length c3_3] 25 (0, 0)) (by (with_reducible repeat (first | refine blk_drewN ?_ _ | refine blk_drew ?_ | refine blk_alloc ?_ _)); exact BK370.out) hb); have n2_ := Aside0.mk (below_step (by repeat (first | (with_reducible first | exact HB.out | apply below_alloc | apply pw_below_drewN | apply below_drew1 | refine below_set ?_ GE369.out | refine below_set ?_ GE370.out) | exact HB.out)) hb); clear BK369; clear BK370; clear HB; have BK369 := n0_; have BK370 := n1_; have HB := n2_; clear n0_ n1_ n2_; (try clear hb); (try clear hb2); (try clear hk); (try clear hi)))
              go_ret2
              exact ⟨by first | rfl | (simp [errW_none, errW_some] <;> rfl) | (simp [*, errW_none, errW_some] <;> rfl), by repeat (first | (with_reducible first | exact HB.out | apply below_alloc | apply pw_below_drewN | apply below_drew1 | refine below_set ?_ GE369.out | refine below_set ?_ GE370.out) | exact HB.out)⟩
            · rw [if_neg c24] at H
              have c24b0 : (a1.toList == ([61, 92, 61] : List UInt8)) = false := beq_eq_false_iff_ne.mpr c24
              have c24b1 : (a1.toList != ([61, 92, 61] : List UInt8)) = true := bne_iff_ne.mpr c24
              by_cases c30 : a1.toList = ([60] : List UInt8)
              · rw [if_pos c30] at H
                have c30b0 : (a1.toList == ([60] : List UInt8)) = true := beq_iff_eq.mpr c30
                have c30b1 : (a1.toList != ([60] : List UInt8)) = false := bne_eq_false_iff_eq.mpr c30
                clear c30
                simp only [Option.some.injEq, Prod.mk.injEq] at H
                obtain ⟨rfl, rfl⟩ := H
                have hnb31 := NB369_370.out
                have hnc31 := NB370_369.out
                have hcz32_0 : wc.cell? ⟨gb369, 0, none⟩ = some (.int .i64 a2_0) := (blk_cell BK369.out 0).trans rfl
                have hcz32_1 : wc.cell? ⟨gb369, 1, none⟩ = some (.string a2_1) := (blk_cell BK369.out 1).trans rfl
                have hcz32_2 : wc.cell? ⟨gb369, 2, none⟩ = some (.int .i64 a2_2) := (blk_cell BK369.out 2).trans rfl
                have hcz32_3 : wc.cell? ⟨gb369, 3, none⟩ = some (.slice A2_3 l2_3.length c2_3) := (blk_cell BK369.out 3).trans rfl
                have hfz32_0 := blk_frozen BK369.out 0
                have hfz32_1 := blk_frozen BK369.out 1
                have hfz32_2 := blk_frozen BK369.out 2
                have hfz32_3 := blk_frozen BK369.out 3
                go_wp2_with (first | ((with_reducible refine gate_callee (f := 10) rfl ?_); refine goesL_ (some 24) rfl rfl Try.func10 (by kernel_rfl) rfl #[.slice A0 l0.length c0, .agg #[.int .i64 a2_0, .string a2_1, .int .i64 a2_2, .slice A2_3 l2_3.length c2_3]] rfl (by (try simp only [List.map_toArray, List.map_cons, List.map_nil]); first | done | rfl | (simp only [List.length_drop, List.length_take]; rfl)) ?_; (with_reducible refine (spinneyref11_Eval.calls kj4 _ _ l0 a2_0 a2_1 a2_2 _ _ l2_3 t371 t372 _ ?side1 ?side2 ?side3 ?side4 A14.out).mono ?_); (case side1 => repeat (first | exact (Kd.C_below HR0.out HB.out) | (with_reducible refine Kd.C_alloc ?_ _) | (with_reducible refine Kd.C_drewN ?_ _) | (with_reducible refine Kd.C_drew ?_))); (case side2 => exact HC0.out); (case side3 => repeat (first | exact (Kd.C_below HR2_3.out HB.out) | (with_reducible refine Kd.C_alloc ?_ _) | (with_reducible refine Kd.C_drewN ?_ _) | (with_reducible refine Kd.C_drew ?_))); (case side4 => exact HC2_3.out); rintro e w33 ⟨rfl, hb⟩; refine ⟨_, rfl, ?_⟩; have n0_ := Aside0.mk (blk_below (g := gb369) (o := .cells #[.int .i64 a2_0, .string a2_1, .int .i64 a2_2, .slice A2_3 l2_3.length c2_3] 25 (0, 0)) (by (with_reducible repeat (first | refine blk_drewN ?_ _ | refine blk_drew ?_ | refine blk_alloc ?_ _)); exact BK369.out) hb); have n1_ := Aside0.mk (blk_below (g := gb370) (o := .cells #[.int .i64 a3_0, .string a3_1, .int .i64 a3_2, .slice A3_3 l3_3.length c3_3] 25 (0, 0)) (by (with_reducible repeat (first | refine blk_drewN ?_ _ | refine blk_drew ?_ | refine blk_alloc ?_ _)); exact BK370.out) hb); have n2_ := Aside0.mk (below_step (by repeat (first | (with_reducible first | exact HB.out | apply below_alloc | apply pw_below_drewN | apply below_drew1 | refine below_set ?_ GE369.out | refine below_set ?_ GE370.out) | exact HB.out)) hb); clear BK369; clear BK370; clear HB; have BK369 := n0_; have BK370 := n1_; have HB := n2_; clear n0_ n1_ n2_; (try clear hb); (try clear hb2); (try clear hk); (try clear hi); have hcz34_0 : w33.cell? ⟨gb370, 0, none⟩ = some (.int .i64 a3_0) := (blk_cell BK370.out 0).trans rfl; have hcz34_1 : w33.cell? ⟨gb370, 1, none⟩ = some (.string a3_1) := (blk_cell BK370.out 1).trans rfl; have hcz34_2 : w33.cell? ⟨gb370, 2, none⟩ = some (.int .i64 a3_2) := (blk_cell BK370.out 2).trans rfl; have hcz34_3 : w33.cell? ⟨gb370, 3, none⟩ = some (.slice A3_3 l3_3.length c3_3) := (blk_cell BK370.out 3).trans rfl; have hfz34_0 := blk_frozen BK370.out 0; have hfz34_1 := blk_frozen BK370.out 1; have hfz34_2 := blk_frozen BK370.out 2; have hfz34_3 := blk_frozen BK370.out 3) | ((with_reducible refine gate_callee (f := 10) rfl ?_); refine goesL_ (some 33) rfl rfl Try.func10 (by kernel_rfl) rfl #[.slice A0 l0.length c0, .agg #[.int .i64 a3_0, .string a3_1, .int .i64 a3_2, .slice A3_3 l3_3.length c3_3]] rfl (by (try simp only [List.map_toArray, List.map_cons, List.map_nil]); first | done | rfl | (simp only [List.length_drop, List.length_take]; rfl)) ?_; (with_reducible refine (spinneyref11_Eval.calls kj4 _ _ l0 a3_0 a3_1 a3_2 _ _ l3_3 t373 t374 _ ?side1 ?side2 ?side3 ?side4 A16.out).mono ?_); (case side1 => repeat (first | exact (Kd.C_below HR0.out HB.out) | (with_reducible refine Kd.C_alloc ?_ _) | (with_reducible refine Kd.C_drewN ?_ _) | (with_reducible refine Kd.C_drew ?_))); (case side2 => exact HC0.out); (case side3 => repeat (first | exact (Kd.C_below HR3_3.out HB.out) | (with_reducible refine Kd.C_alloc ?_ _) | (with_reducible refine Kd.C_drewN ?_ _) | (with_reducible refine Kd.C_drew ?_))); (case side4 => exact HC3_3.out); rintro e w35 ⟨rfl, hb⟩; refine ⟨_, rfl, ?_⟩; have n0_ := Aside0.mk (blk_below (g := gb369) (o := .cells #[.int .i64 a2_0, .string a2_1, .int .i64 a2_2, .slice A2_3 l2_3.length c2_3] 25 (0, 0)) (by (with_reducible repeat (first | refine blk_drewN ?_ _ | refine blk_drew ?_ | refine blk_alloc ?_ _)); exact BK369.out) hb); have n1_ := Aside0.mk (blk_below (g := gb370) (o := .cells #[.int .i64 a3_0, .string a3_1, .int .i64 a3_2, .slice A3_3 l3_3.length c3_3] 25 (0, 0)) (by (with_reducible repeat (first | refine blk_drewN ?_ _ | refine blk_drew ?_ | refine blk_alloc ?_ _)); exact BK370.out) hb); have n2_ := Aside0.mk (below_step (by repeat (first | (with_reducible first | exact HB.out | apply below_alloc | apply pw_below_drewN | apply below_drew1 | refine below_set ?_ GE369.out | refine below_set ?_ GE370.out) | exact HB.out)) hb); clear BK369; clear BK370; clear HB; have BK369 := n0_; have BK370 := n1_; have HB := n2_; clear n0_ n1_ n2_; (try clear hb); (try clear hb2); (try clear hk); (try clear hi)))
                go_ret2
                exact ⟨by first | rfl | (simp [errW_none, errW_some] <;> rfl) | (simp [*, errW_none, errW_some] <;> rfl), by repeat (first | (with_reducible first | exact HB.out | apply below_alloc | apply pw_below_drewN | apply below_drew1 | refine below_set ?_ GE369.out | refine below_set ?_ GE370.out) | exact HB.out)⟩
              · rw [if_neg c30] at H
                have c30b0 : (a1.toList == ([60] : List UInt8)) = false := beq_eq_false_iff_ne.mpr c30
                have c30b1 : (a1.toList != ([60] : List UInt8)) = true := bne_iff_ne.mpr c30
                by_cases c36 : a1.toList = ([61, 60] : List UInt8)
                · rw [if_pos c36] at H
                  have c36b0 : (a1.toList == ([61, 60] : List UInt8)) = true := beq_iff_eq.mpr c36
                  have c36b1 : (a1.toList != ([61, 60] : List UInt8)) = false := bne_eq_false_iff_eq.mpr c36
                  clear c36
                  simp only [Option.some.injEq, Prod.mk.injEq] at H
                  obtain ⟨rfl, rfl⟩ := H
                  have hnb37 := NB369_370.out
                  have hnc37 := NB370_369.out
                  have hcz38_0 : wc.cell? ⟨gb369, 0, none⟩ = some (.int .i64 a2_0) := (blk_cell BK369.out 0).trans rfl
                  have hcz38_1 : wc.cell? ⟨gb369, 1, none⟩ = some (.string a2_1) := (blk_cell BK369.out 1).trans rfl
                  have hcz38_2 : wc.cell? ⟨gb369, 2, none⟩ = some (.int .i64 a2_2) := (blk_cell BK369.out 2).trans rfl
                  have hcz38_3 : wc.cell? ⟨gb369, 3, none⟩ = some (.slice A2_3 l2_3.length c2_3) := (blk_cell BK369.out 3).trans rfl
                  have hfz38_0 := blk_frozen BK369.out 0
                  have hfz38_1 := blk_frozen BK369.out 1
                  have hfz38_2 := blk_frozen BK369.out 2
                  have hfz38_3 := blk_frozen BK369.out 3
                  go_wp2_with (first | ((with_reducible refine gate_callee (f := 10) rfl ?_); refine goesL_ (some 24) rfl rfl Try.func10 (by kernel_rfl) rfl #[.slice A0 l0.length c0, .agg #[.int .i64 a2_0, .string a2_1, .int .i64 a2_2, .slice A2_3 l2_3.length c2_3]] rfl (by (try simp only [List.map_toArray, List.map_cons, List.map_nil]); first | done | rfl | (simp only [List.length_drop, List.length_take]; rfl)) ?_; (with_reducible refine (spinneyref11_Eval.calls kj4 _ _ l0 a2_0 a2_1 a2_2 _ _ l2_3 t371 t372 _ ?side1 ?side2 ?side3 ?side4 A14.out).mono ?_); (case side1 => repeat (first | exact (Kd.C_below HR0.out HB.out) | (with_reducible refine Kd.C_alloc ?_ _) | (with_reducible refine Kd.C_drewN ?_ _) | (with_reducible refine Kd.C_drew ?_))); (case side2 => exact HC0.out); (case side3 => repeat (first | exact (Kd.C_below HR2_3.out HB.out) | (with_reducible refine Kd.C_alloc ?_ _) | (with_reducible refine Kd.C_drewN ?_ _) | (with_reducible refine Kd.C_drew ?_))); (case side4 => exact HC2_3.out); rintro e w39 ⟨rfl, hb⟩; refine ⟨_, rfl, ?_⟩; have n0_ := Aside0.mk (blk_below (g := gb369) (o := .cells #[.int .i64 a2_0, .string a2_1, .int .i64 a2_2, .slice A2_3 l2_3.length c2_3] 25 (0, 0)) (by (with_reducible repeat (first | refine blk_drewN ?_ _ | refine blk_drew ?_ | refine blk_alloc ?_ _)); exact BK369.out) hb); have n1_ := Aside0.mk (blk_below (g := gb370) (o := .cells #[.int .i64 a3_0, .string a3_1, .int .i64 a3_2, .slice A3_3 l3_3.length c3_3] 25 (0, 0)) (by (with_reducible repeat (first | refine blk_drewN ?_ _ | refine blk_drew ?_ | refine blk_alloc ?_ _)); exact BK370.out) hb); have n2_ := Aside0.mk (below_step (by repeat (first | (with_reducible first | exact HB.out | apply below_alloc | apply pw_below_drewN | apply below_drew1 | refine below_set ?_ GE369.out | refine below_set ?_ GE370.out) | exact HB.out)) hb); clear BK369; clear BK370; clear HB; have BK369 := n0_; have BK370 := n1_; have HB := n2_; clear n0_ n1_ n2_; (try clear hb); (try clear hb2); (try clear hk); (try clear hi); have hcz40_0 : w39.cell? ⟨gb370, 0, none⟩ = some (.int .i64 a3_0) := (blk_cell BK370.out 0).trans rfl; have hcz40_1 : w39.cell? ⟨gb370, 1, none⟩ = some (.string a3_1) := (blk_cell BK370.out 1).trans rfl; have hcz40_2 : w39.cell? ⟨gb370, 2, none⟩ = some (.int .i64 a3_2) := (blk_cell BK370.out 2).trans rfl; have hcz40_3 : w39.cell? ⟨gb370, 3, none⟩ = some (.slice A3_3 l3_3.length c3_3) := (blk_cell BK370.out 3).trans rfl; have hfz40_0 := blk_frozen BK370.out 0; have hfz40_1 := blk_frozen BK370.out 1; have hfz40_2 := blk_frozen BK370.out 2; have hfz40_3 := blk_frozen BK370.out 3) | ((with_reducible refine gate_callee (f := 10) rfl ?_); refine goesL_ (some 33) rfl rfl Try.func10 (by kernel_rfl) rfl #[.slice A0 l0.length c0, .agg #[.int .i64 a3_0, .string a3_1, .int .i64 a3_2, .slice A3_3 l3_3.length c3_3]] rfl (by (try simp only [List.map_toArray, List.map_cons, List.map_nil]); first | done | rfl | (simp only [List.length_drop, List.length_take]; rfl)) ?_; (with_reducible refine (spinneyref11_Eval.calls kj4 _ _ l0 a3_0 a3_1 a3_2 _ _ l3_3 t373 t374 _ ?side1 ?side2 ?side3 ?side4 A16.out).mono ?_); (case side1 => repeat (first | exact (Kd.C_below HR0.out HB.out) | (with_reducible refine Kd.C_alloc ?_ _) | (with_reducible refine Kd.C_drewN ?_ _) | (with_reducible refine Kd.C_drew ?_))); (case side2 => exact HC0.out); (case side3 => repeat (first | exact (Kd.C_below HR3_3.out HB.out) | (with_reducible refine Kd.C_alloc ?_ _) | (with_reducible refine Kd.C_drewN ?_ _) | (with_reducible refine Kd.C_drew ?_))); (case side4 => exact HC3_3.out); rintro e w41 ⟨rfl, hb⟩; refine ⟨_, rfl, ?_⟩; have n0_ := Aside0.mk (blk_below (g := gb369) (o := .cells #[.int .i64 a2_0, .string a2_1, .int .i64 a2_2, .slice A2_3 l2_3.length c2_3] 25 (0, 0)) (by (with_reducible repeat (first | refine blk_drewN ?_ _ | refine blk_drew ?_ | refine blk_alloc ?_ _)); exact BK369.out) hb); have n1_ := Aside0.mk (blk_below (g := gb370) (o := .cells #[.int .i64 a3_0, .string a3_1, .int .i64 a3_2, .slice A3_3 l3_3.length c3_3] 25 (0, 0)) (by (with_reducible repeat (first | refine blk_drewN ?_ _ | refine blk_drew ?_ | refine blk_alloc ?_ _)); exact BK370.out) hb); have n2_ := Aside0.mk (below_step (by repeat (first | (with_reducible first | exact HB.out | apply below_alloc | apply pw_below_drewN | apply below_drew1 | refine below_set ?_ GE369.out | refine below_set ?_ GE370.out) | exact HB.out)) hb); clear BK369; clear BK370; clear HB; have BK369 := n0_; have BK370 := n1_; have HB := n2_; clear n0_ n1_ n2_; (try clear hb); (try clear hb2); (try clear hk); (try clear hi)))
                  go_ret2
                  exact ⟨by first | rfl | (simp [errW_none, errW_some] <;> rfl) | (simp [*, errW_none, errW_some] <;> rfl), by repeat (first | (with_reducible first | exact HB.out | apply below_alloc | apply pw_below_drewN | apply below_drew1 | refine below_set ?_ GE369.out | refine below_set ?_ GE370.out) | exact HB.out)⟩
                · rw [if_neg c36] at H
                  have c36b0 : (a1.toList == ([61, 60] : List UInt8)) = false := beq_eq_false_iff_ne.mpr c36
                  have c36b1 : (a1.toList != ([61, 60] : List UInt8)) = true := bne_iff_ne.mpr c36
                  by_cases c42 : a1.toList = ([62] : List UInt8)
                  · rw [if_pos c42] at H
                    have c42b0 : (a1.toList == ([62] : List UInt8)) = true := beq_iff_eq.mpr c42
                    have c42b1 : (a1.toList != ([62] : List UInt8)) = false := bne_eq_false_iff_eq.mpr c42
                    clear c42
                    simp only [Option.some.injEq, Prod.mk.injEq] at H
                    obtain ⟨rfl, rfl⟩ := H
                    have hnb43 := NB369_370.out
                    have hnc43 := NB370_369.out
                    have hcz44_0 : wc.cell? ⟨gb369, 0, none⟩ = some (.int .i64 a2_0) := (blk_cell BK369.out 0).trans rfl
                    have hcz44_1 : wc.cell? ⟨gb369, 1, none⟩ = some (.string a2_1) := (blk_cell BK369.out 1).trans rfl
                    have hcz44_2 : wc.cell? ⟨gb369, 2, none⟩ = some (.int .i64 a2_2) := (blk_cell BK369.out 2).trans rfl
                    have hcz44_3 : wc.cell? ⟨gb369, 3, none⟩ = some (.slice A2_3 l2_3.length c2_3) := (blk_cell BK369.out 3).trans rfl
                    have hfz44_0 := blk_frozen BK369.out 0
                    have hfz44_1 := blk_frozen BK369.out 1
                    have hfz44_2 := blk_frozen BK369.out 2
                    have hfz44_3 := blk_frozen BK369.out 3
                    go_wp2_with (first | ((with_reducible refine gate_callee (f := 10) rfl ?_); refine goesL_ (some 24) rfl rfl Try.func10 (by kernel_rfl) rfl #[.slice A0 l0.length c0, .agg #[.int .i64 a2_0, .string a2_1, .int .i64 a2_2, .slice A2_3 l2_3.length c2_3]] rfl (by (try simp only [List.map_toArray, List.map_cons, List.map_nil]); first | done | rfl | (simp only [List.length_drop, List.length_take]; rfl)) ?_; (with_reducible refine (spinneyref11_Eval.calls kj4 _ _ l0 a2_0 a2_1 a2_2 _ _ l2_3 t371 t372 _ ?side1 ?side2 ?side3 ?side4 A14.out).mono ?_); (case side1 => repeat (first | exact (Kd.C_below HR0.out HB.out) | (with_reducible refine Kd.C_alloc ?_ _) | (with_reducible refine Kd.C_drewN ?_ _) | (with_reducible refine Kd.C_drew ?_))); (case side2 => exact HC0.out); (case side3 => repeat (first | exact (Kd.C_below HR2_3.out HB.out) | (with_reducible refine Kd.C_alloc ?_ _) | (with_reducible refine Kd.C_drewN ?_ _) | (with_reducible refine Kd.C_drew ?_))); (case side4 => exact HC2_3.out); rintro e w45 ⟨rfl, hb⟩; refine ⟨_, rfl, ?_⟩; have n0_ := Aside0.mk (blk_below (g := gb369) (o := .cells #[.int .i64 a2_0, .string a2_1, .int .i64 a2_2, .slice A2_3 l2_3.length c2_3] 25 (0, 0)) (by (with_reducible repeat (first | refine blk_drewN ?_ _ | refine blk_drew ?_ | refine blk_alloc ?_ _)); exact BK369.out) hb); have n1_ := Aside0.mk (blk_below (g := gb370) (o := .cells #[.int .i64 a3_0, .string a3_1, .int .i64 a3_2, .slice A3_3 l3_3.length c3_3] 25 (0, 0)) (by (with_reducible repeat (first | refine blk_drewN ?_ _ | refine blk_drew ?_ | refine blk_alloc ?_ _)); exact BK370.out) hb); have n2_ := Aside0.mk (below_step (by repeat (first | (with_reducible first | exact HB.out | apply below_alloc | apply pw_below_drewN | apply below_drew1 | refine below_set ?_ GE369.out | refine below_set ?_ GE370.out) | exact HB.out)) hb); clear BK369; clear BK370; clear HB; have BK369 := n0_; have BK370 := n1_; have HB := n2_; clear n0_ n1_ n2_; (try clear hb); (try clear hb2); (try clear hk); (try clear hi); have hcz46_0 : w45.cell? ⟨gb370, 0, none⟩ = some (.int .i64 a3_0) := (blk_cell BK370.out 0).trans rfl; have hcz46_1 : w45.cell? ⟨gb370, 1, none⟩ = some (.string a3_1) := (blk_cell BK370.out 1).trans rfl; have hcz46_2 : w45.cell? ⟨gb370, 2, none⟩ = some (.int .i64 a3_2) := (blk_cell BK370.out 2).trans rfl; have hcz46_3 : w45.cell? ⟨gb370, 3, none⟩ = some (.slice A3_3 l3_3.length c3_3) := (blk_cell BK370.out 3).trans rfl; have hfz46_0 := blk_frozen BK370.out 0; have hfz46_1 := blk_frozen BK370.out 1; have hfz46_2 := blk_frozen BK370.out 2; have hfz46_3 := blk_frozen BK370.out 3) | ((with_reducible refine gate_callee (f := 10) rfl ?_); refine goesL_ (some 33) rfl rfl Try.func10 (by kernel_rfl) rfl #[.slice A0 l0.length c0, .agg #[.int .i64 a3_0, .string a3_1, .int .i64 a3_2, .slice A3_3 l3_3.length c3_3]] rfl (by (try simp only [List.map_toArray, List.map_cons, List.map_nil]); first | done | rfl | (simp only [List.length_drop, List.length_take]; rfl)) ?_; (with_reducible refine (spinneyref11_Eval.calls kj4 _ _ l0 a3_0 a3_1 a3_2 _ _ l3_3 t373 t374 _ ?side1 ?side2 ?side3 ?side4 A16.out).mono ?_); (case side1 => repeat (first | exact (Kd.C_below HR0.out HB.out) | (with_reducible refine Kd.C_alloc ?_ _) | (with_reducible refine Kd.C_drewN ?_ _) | (with_reducible refine Kd.C_drew ?_))); (case side2 => exact HC0.out); (case side3 => repeat (first | exact (Kd.C_below HR3_3.out HB.out) | (with_reducible refine Kd.C_alloc ?_ _) | (with_reducible refine Kd.C_drewN ?_ _) | (with_reducible refine Kd.C_drew ?_))); (case side4 => exact HC3_3.out); rintro e w47 ⟨rfl, hb⟩; refine ⟨_, rfl, ?_⟩; have n0_ := Aside0.mk (blk_below (g := gb369) (o := .cells #[.int .i64 a2_0, .string a2_1, .int .i64 a2_2, .slice A2_3 l2_3.length c2_3] 25 (0, 0)) (by (with_reducible repeat (first | refine blk_drewN ?_ _ | refine blk_drew ?_ | refine blk_alloc ?_ _)); exact BK369.out) hb); have n1_ := Aside0.mk (blk_below (g := gb370) (o := .cells #[.int .i64 a3_0, .string a3_1, .int .i64 a3_2, .slice A3_3 l3_3.length c3_3] 25 (0, 0)) (by (with_reducible repeat (first | refine blk_drewN ?_ _ | refine blk_drew ?_ | refine blk_alloc ?_ _)); exact BK370.out) hb); have n2_ := Aside0.mk (below_step (by repeat (first | (with_reducible first | exact HB.out | apply below_alloc | apply pw_below_drewN | apply below_drew1 | refine below_set ?_ GE369.out | refine below_set ?_ GE370.out) | exact HB.out)) hb); clear BK369; clear BK370; clear HB; have BK369 := n0_; have BK370 := n1_; have HB := n2_; clear n0_ n1_ n2_; (try clear hb); (try clear hb2); (try clear hk); (try clear hi)))
                    go_ret2
                    exact ⟨by first | rfl | (simp [errW_none, errW_some] <;> rfl) | (simp [*, errW_none, errW_some] <;> rfl), by repeat (first | (with_reducible first | exact HB.out | apply below_alloc | apply pw_below_drewN | apply below_drew1 | refine below_set ?_ GE369.out | refine below_set ?_ GE370.out) | exact HB.out)⟩
                  · rw [if_neg c42] at H
                    have c42b0 : (a1.toList == ([62] : List UInt8)) = false := beq_eq_false_iff_ne.mpr c42
                    have c42b1 : (a1.toList != ([62] : List UInt8)) = true := bne_iff_ne.mpr c42
                    simp only [Option.some.injEq, Prod.mk.injEq] at H
                    obtain ⟨rfl, rfl⟩ := H
                    have hnb48 := NB369_370.out
                    have hnc48 := NB370_369.out
                    have hcz49_0 : wc.cell? ⟨gb369, 0, none⟩ = some (.int .i64 a2_0) := (blk_cell BK369.out 0).trans rfl
                    have hcz49_1 : wc.cell? ⟨gb369, 1, none⟩ = some (.string a2_1) := (blk_cell BK369.out 1).trans rfl
                    have hcz49_2 : wc.cell? ⟨gb369, 2, none⟩ = some (.int .i64 a2_2) := (blk_cell BK369.out 2).trans rfl
                    have hcz49_3 : wc.cell? ⟨gb369, 3, none⟩ = some (.slice A2_3 l2_3.length c2_3) := (blk_cell BK369.out 3).trans rfl
                    have hfz49_0 := blk_frozen BK369.out 0
                    have hfz49_1 := blk_frozen BK369.out 1
                    have hfz49_2 := blk_frozen BK369.out 2
                    have hfz49_3 := blk_frozen BK369.out 3
                    go_wp2_with (first | ((with_reducible refine gate_callee (f := 10) rfl ?_); refine goesL_ (some 24) rfl rfl Try.func10 (by kernel_rfl) rfl #[.slice A0 l0.length c0, .agg #[.int .i64 a2_0, .string a2_1, .int .i64 a2_2, .slice A2_3 l2_3.length c2_3]] rfl (by (try simp only [List.map_toArray, List.map_cons, List.map_nil]); first | done | rfl | (simp only [List.length_drop, List.length_take]; rfl)) ?_; (with_reducible refine (spinneyref11_Eval.calls kj4 _ _ l0 a2_0 a2_1 a2_2 _ _ l2_3 t371 t372 _ ?side1 ?side2 ?side3 ?side4 A14.out).mono ?_); (case side1 => repeat (first | exact (Kd.C_below HR0.out HB.out) | (with_reducible refine Kd.C_alloc ?_ _) | (with_reducible refine Kd.C_drewN ?_ _) | (with_reducible refine Kd.C_drew ?_))); (case side2 => exact HC0.out); (case side3 => repeat (first | exact (Kd.C_below HR2_3.out HB.out) | (with_reducible refine Kd.C_alloc ?_ _) | (with_reducible refine Kd.C_drewN ?_ _) | (with_reducible refine Kd.C_drew ?_))); (case side4 => exact HC2_3.out); rintro e w50 ⟨rfl, hb⟩; refine ⟨_, rfl, ?_⟩; have n0_ := Aside0.mk (blk_below (g := gb369) (o := .cells #[.int .i64 a2_0, .string a2_1, .int .i64 a2_2, .slice A2_3 l2_3.length c2_3] 25 (0, 0)) (by (with_reducible repeat (first | refine blk_drewN ?_ _ | refine blk_drew ?_ | refine blk_alloc ?_ _)); exact BK369.out) hb); have n1_ := Aside0.mk (blk_below (g := gb370) (o := .cells #[.int .i64 a3_0, .string a3_1, .int .i64 a3_2, .slice A3_3 l3_3.length c3_3] 25 (0, 0)) (by (with_reducible repeat (first | refine blk_drewN ?_ _ | refine blk_drew ?_ | refine blk_alloc ?_ _)); exact BK370.out) hb); have n2_ := Aside0.mk (below_step (by repeat (first | (with_reducible first | exact HB.out | apply below_alloc | apply pw_below_drewN | apply below_drew1 | refine below_set ?_ GE369.out | refine below_set ?_ GE370.out) | exact HB.out)) hb); clear BK369; clear BK370; clear HB; have BK369 := n0_; have BK370 := n1_; have HB := n2_; clear n0_ n1_ n2_; (try clear hb); (try clear hb2); (try clear hk); (try clear hi); have hcz51_0 : w50.cell? ⟨gb370, 0, none⟩ = some (.int .i64 a3_0) := (blk_cell BK370.out 0).trans rfl; have hcz51_1 : w50.cell? ⟨gb370, 1, none⟩ = some (.string a3_1) := (blk_cell BK370.out 1).trans rfl; have hcz51_2 : w50.cell? ⟨gb370, 2, none⟩ = some (.int .i64 a3_2) := (blk_cell BK370.out 2).trans rfl; have hcz51_3 : w50.cell? ⟨gb370, 3, none⟩ = some (.slice A3_3 l3_3.length c3_3) := (blk_cell BK370.out 3).trans rfl; have hfz51_0 := blk_frozen BK370.out 0; have hfz51_1 := blk_frozen BK370.out 1; have hfz51_2 := blk_frozen BK370.out 2; have hfz51_3 := blk_frozen BK370.out 3) | ((with_reducible refine gate_callee (f := 10) rfl ?_); refine goesL_ (some 33) rfl rfl Try.func10 (by kernel_rfl) rfl #[.slice A0 l0.length c0, .agg #[.int .i64 a3_0, .string a3_1, .int .i64 a3_2, .slice A3_3 l3_3.length c3_3]] rfl (by (try simp only [List.map_toArray, List.map_cons, List.map_nil]); first | done | rfl | (simp only [List.length_drop, List.length_take]; rfl)) ?_; (with_reducible refine (spinneyref11_Eval.calls kj4 _ _ l0 a3_0 a3_1 a3_2 _ _ l3_3 t373 t374 _ ?side1 ?side2 ?side3 ?side4 A16.out).mono ?_); (case side1 => repeat (first | exact (Kd.C_below HR0.out HB.out) | (with_reducible refine Kd.C_alloc ?_ _) | (with_reducible refine Kd.C_drewN ?_ _) | (with_reducible refine Kd.C_drew ?_))); (case side2 => exact HC0.out); (case side3 => repeat (first | exact (Kd.C_below HR3_3.out HB.out) | (with_reducible refine Kd.C_alloc ?_ _) | (with_reducible refine Kd.C_drewN ?_ _) | (with_reducible refine Kd.C_drew ?_))); (case side4 => exact HC3_3.out); rintro e w52 ⟨rfl, hb⟩; refine ⟨_, rfl, ?_⟩; have n0_ := Aside0.mk (blk_below (g := gb369) (o := .cells #[.int .i64 a2_0, .string a2_1, .int .i64 a2_2, .slice A2_3 l2_3.length c2_3] 25 (0, 0)) (by (with_reducible repeat (first | refine blk_drewN ?_ _ | refine blk_drew ?_ | refine blk_alloc ?_ _)); exact BK369.out) hb); have n1_ := Aside0.mk (blk_below (g := gb370) (o := .cells #[.int .i64 a3_0, .string a3_1, .int .i64 a3_2, .slice A3_3 l3_3.length c3_3] 25 (0, 0)) (by (with_reducible repeat (first | refine blk_drewN ?_ _ | refine blk_drew ?_ | refine blk_alloc ?_ _)); exact BK370.out) hb); have n2_ := Aside0.mk (below_step (by repeat (first | (with_reducible first | exact HB.out | apply below_alloc | apply pw_below_drewN | apply below_drew1 | refine below_set ?_ GE369.out | refine below_set ?_ GE370.out) | exact HB.out)) hb); clear BK369; clear BK370; clear HB; have BK369 := n0_; have BK370 := n1_; have HB := n2_; clear n0_ n1_ n2_; (try clear hb); (try clear hb2); (try clear hk); (try clear hi)))
                    go_ret2
                    exact ⟨by first | rfl | (simp [errW_none, errW_some] <;> rfl) | (simp [*, errW_none, errW_some] <;> rfl), by repeat (first | (with_reducible first | exact HB.out | apply below_alloc | apply pw_below_drewN | apply below_drew1 | refine below_set ?_ GE369.out | refine below_set ?_ GE370.out) | exact HB.out)⟩
        · rw [if_neg c17] at H
          have c17b0 : (t374 == 0) = false := beq_eq_false_iff_ne.mpr c17
          have c17b1 : (t374 != 0) = true := bne_iff_ne.mpr c17
          simp only [Option.some.injEq, Prod.mk.injEq] at H
          obtain ⟨rfl, rfl⟩ := H
          have hnb53 := NB369_370.out
          have hnc53 := NB370_369.out
          have hcz54_0 : wc.cell? ⟨gb369, 0, none⟩ = some (.int .i64 a2_0) := (blk_cell BK369.out 0).trans rfl
          have hcz54_1 : wc.cell? ⟨gb369, 1, none⟩ = some (.string a2_1) := (blk_cell BK369.out 1).trans rfl
          have hcz54_2 : wc.cell? ⟨gb369, 2, none⟩ = some (.int .i64 a2_2) := (blk_cell BK369.out 2).trans rfl
          have hcz54_3 : wc.cell? ⟨gb369, 3, none⟩ = some (.slice A2_3 l2_3.length c2_3) := (blk_cell BK369.out 3).trans rfl
          have hfz54_0 := blk_frozen BK369.out 0
          have hfz54_1 := blk_frozen BK369.out 1
          have hfz54_2 := blk_frozen BK369.out 2
          have hfz54_3 := blk_frozen BK369.out 3
          go_wp2_with (first | ((with_reducible refine gate_callee (f := 10) rfl ?_); refine goesL_ (some 24) rfl rfl Try.func10 (by kernel_rfl) rfl #[.slice A0 l0.length c0, .agg #[.int .i64 a2_0, .string a2_1, .int .i64 a2_2, .slice A2_3 l2_3.length c2_3]] rfl (by (try simp only [List.map_toArray, List.map_cons, List.map_nil]); first | done | rfl | (simp only [List.length_drop, List.length_take]; rfl)) ?_; (with_reducible refine (spinneyref11_Eval.calls kj4 _ _ l0 a2_0 a2_1 a2_2 _ _ l2_3 t371 t372 _ ?side1 ?side2 ?side3 ?side4 A14.out).mono ?_); (case side1 => repeat (first | exact (Kd.C_below HR0.out HB.out) | (with_reducible refine Kd.C_alloc ?_ _) | (with_reducible refine Kd.C_drewN ?_ _) | (with_reducible refine Kd.C_drew ?_))); (case side2 => exact HC0.out); (case side3 => repeat (first | exact (Kd.C_below HR2_3.out HB.out) | (with_reducible refine Kd.C_alloc ?_ _) | (with_reducible refine Kd.C_drewN ?_ _) | (with_reducible refine Kd.C_drew ?_))); (case side4 => exact HC2_3.out); rintro e w55 ⟨rfl, hb⟩; refine ⟨_, rfl, ?_⟩; have n0_ := Aside0.mk (blk_below (g := gb369) (o := .cells #[.int .i64 a2_0, .string a2_1, .int .i64 a2_2, .slice A2_3 l2_3.length c2_3] 25 (0, 0)) (by (with_reducible repeat (first | refine blk_drewN ?_ _ | refine blk_drew ?_ | refine blk_alloc ?_ _)); exact BK369.out) hb); have n1_ := Aside0.mk (blk_below (g := gb370) (o := .cells #[.int .i64 a3_0, .string a3_1, .int .i64 a3_2, .slice A3_3 l3_3.length c3_3] 25 (0, 0)) (by (with_reducible repeat (first | refine blk_drewN ?_ _ | refine blk_drew ?_ | refine blk_alloc ?_ _)); exact BK370.out) hb); have n2_ := Aside0.mk (below_step (by repeat (first | (with_reducible first | exact HB.out | apply below_alloc | apply pw_below_drewN | apply below_drew1 | refine below_set ?_ GE369.out | refine below_set ?_ GE370.out) | exact HB.out)) hb); clear BK369; clear BK370; clear HB; have BK369 := n0_; have BK370 := n1_; have HB := n2_; clear n0_ n1_ n2_; (try clear hb); (try clear hb2); (try clear hk); (try clear hi); have hcz56_0 : w55.cell? ⟨gb370, 0, none⟩ = some (.int .i64 a3_0) := (blk_cell BK370.out 0).trans rfl; have hcz56_1 : w55.cell? ⟨gb370, 1, none⟩ = some (.string a3_1) := (blk_cell BK370.out 1).trans rfl; have hcz56_2 : w55.cell? ⟨gb370, 2, none⟩ = some (.int .i64 a3_2) := (blk_cell BK370.out 2).trans rfl; have hcz56_3 : w55.cell? ⟨gb370, 3, none⟩ = some (.slice A3_3 l3_3.length c3_3) := (blk_cell BK370.out 3).trans rfl; have hfz56_0 := blk_frozen BK370.out 0; have hfz56_1 := blk_frozen BK370.out 1; have hfz56_2 := blk_frozen BK370.out 2; have hfz56_3 := blk_frozen BK370.out 3) | ((with_reducible refine gate_callee (f := 10) rfl ?_); refine goesL_ (some 33) rfl rfl Try.func10 (by kernel_rfl) rfl #[.slice A0 l0.length c0, .agg #[.int .i64 a3_0, .string a3_1, .int .i64 a3_2, .slice A3_3 l3_3.length c3_3]] rfl (by (try simp only [List.map_toArray, List.map_cons, List.map_nil]); first | done | rfl | (simp only [List.length_drop, List.length_take]; rfl)) ?_; (with_reducible refine (spinneyref11_Eval.calls kj4 _ _ l0 a3_0 a3_1 a3_2 _ _ l3_3 t373 t374 _ ?side1 ?side2 ?side3 ?side4 A16.out).mono ?_); (case side1 => repeat (first | exact (Kd.C_below HR0.out HB.out) | (with_reducible refine Kd.C_alloc ?_ _) | (with_reducible refine Kd.C_drewN ?_ _) | (with_reducible refine Kd.C_drew ?_))); (case side2 => exact HC0.out); (case side3 => repeat (first | exact (Kd.C_below HR3_3.out HB.out) | (with_reducible refine Kd.C_alloc ?_ _) | (with_reducible refine Kd.C_drewN ?_ _) | (with_reducible refine Kd.C_drew ?_))); (case side4 => exact HC3_3.out); rintro e w57 ⟨rfl, hb⟩; refine ⟨_, rfl, ?_⟩; have n0_ := Aside0.mk (blk_below (g := gb369) (o := .cells #[.int .i64 a2_0, .string a2_1, .int .i64 a2_2, .slice A2_3 l2_3.length c2_3] 25 (0, 0)) (by (with_reducible repeat (first | refine blk_drewN ?_ _ | refine blk_drew ?_ | refine blk_alloc ?_ _)); exact BK369.out) hb); have n1_ := Aside0.mk (blk_below (g := gb370) (o := .cells #[.int .i64 a3_0, .string a3_1, .int .i64 a3_2, .slice A3_3 l3_3.length c3_3] 25 (0, 0)) (by (with_reducible repeat (first | refine blk_drewN ?_ _ | refine blk_drew ?_ | refine blk_alloc ?_ _)); exact BK370.out) hb); have n2_ := Aside0.mk (below_step (by repeat (first | (with_reducible first | exact HB.out | apply below_alloc | apply pw_below_drewN | apply below_drew1 | refine below_set ?_ GE369.out | refine below_set ?_ GE370.out) | exact HB.out)) hb); clear BK369; clear BK370; clear HB; have BK369 := n0_; have BK370 := n1_; have HB := n2_; clear n0_ n1_ n2_; (try clear hb); (try clear hb2); (try clear hk); (try clear hi)))
          go_ret2
          exact ⟨by first | rfl | (simp [errW_none, errW_some] <;> rfl) | (simp [*, errW_none, errW_some] <;> rfl), by repeat (first | (with_reducible first | exact HB.out | apply below_alloc | apply pw_below_drewN | apply below_drew1 | refine below_set ?_ GE369.out | refine below_set ?_ GE370.out) | exact HB.out)⟩
      · rw [if_neg c15] at H
        have c15b0 : (t372 == 0) = false := beq_eq_false_iff_ne.mpr c15
        have c15b1 : (t372 != 0) = true := bne_iff_ne.mpr c15
        simp only [Option.some.injEq, Prod.mk.injEq] at H
        obtain ⟨rfl, rfl⟩ := H
        have hnb58 := NB369_370.out
        have hnc58 := NB370_369.out
        have hcz59_0 : wc.cell? ⟨gb369, 0, none⟩ = some (.int .i64 a2_0) := (blk_cell BK369.out 0).trans rfl
        have hcz59_1 : wc.cell? ⟨gb369, 1, none⟩ = some (.string a2_1) := (blk_cell BK369.out 1).trans rfl
        have hcz59_2 : wc.cell? ⟨gb369, 2, none⟩ = some (.int .i64 a2_2) := (blk_cell BK369.out 2).trans rfl
        have hcz59_3 : wc.cell? ⟨gb369, 3, none⟩ = some (.slice A2_3 l2_3.length c2_3) := (blk_cell BK369.out 3).trans rfl
        have hfz59_0 := blk_frozen BK369.out 0
        have hfz59_1 := blk_frozen BK369.out 1
        have hfz59_2 := blk_frozen BK369.out 2
        have hfz59_3 := blk_frozen BK369.out 3
        go_wp2_with (first | ((with_reducible refine gate_callee (f := 10) rfl ?_); refine goesL_ (some 24) rfl rfl Try.func10 (by kernel_rfl) rfl #[.slice A0 l0.length c0, .agg #[.int .i64 a2_0, .string a2_1, .int .i64 a2_2, .slice A2_3 l2_3.length c2_3]] rfl (by (try simp only [List.map_toArray, List.map_cons, List.map_nil]); first | done | rfl | (simp only [List.length_drop, List.length_take]; rfl)) ?_; (with_reducible refine (spinneyref11_Eval.calls kj4 _ _ l0 a2_0 a2_1 a2_2 _ _ l2_3 t371 t372 _ ?side1 ?side2 ?side3 ?side4 A14.out).mono ?_); (case side1 => repeat (first | exact (Kd.C_below HR0.out HB.out) | (with_reducible refine Kd.C_alloc ?_ _) | (with_reducible refine Kd.C_drewN ?_ _) | (with_reducible refine Kd.C_drew ?_))); (case side2 => exact HC0.out); (case side3 => repeat (first | exact (Kd.C_below HR2_3.out HB.out) | (with_reducible refine Kd.C_alloc ?_ _) | (with_reducible refine Kd.C_drewN ?_ _) | (with_reducible refine Kd.C_drew ?_))); (case side4 => exact HC2_3.out); rintro e w60 ⟨rfl, hb⟩; refine ⟨_, rfl, ?_⟩; have n0_ := Aside0.mk (blk_below (g := gb369) (o := .cells #[.int .i64 a2_0, .string a2_1, .int .i64 a2_2, .slice A2_3 l2_3.length c2_3] 25 (0, 0)) (by (with_reducible repeat (first | refine blk_drewN ?_ _ | refine blk_drew ?_ | refine blk_alloc ?_ _)); exact BK369.out) hb); have n1_ := Aside0.mk (blk_below (g := gb370) (o := .cells #[.int .i64 a3_0, .string a3_1, .int .i64 a3_2, .slice A3_3 l3_3.length c3_3] 25 (0, 0)) (by (with_reducible repeat (first | refine blk_drewN ?_ _ | refine blk_drew ?_ | refine blk_alloc ?_ _)); exact BK370.out) hb); have n2_ := Aside0.mk (below_step (by repeat (first | (with_reducible first | exact HB.out | apply below_alloc | apply pw_below_drewN | apply below_drew1 | refine below_set ?_ GE369.out | refine below_set ?_ GE370.out) | exact HB.out)) hb); clear BK369; clear BK370; clear HB; have BK369 := n0_; have BK370 := n1_; have HB := n2_; clear n0_ n1_ n2_; (try clear hb); (try clear hb2); (try clear hk); (try clear hi)))
        go_ret2
        exact ⟨by first | rfl | (simp [errW_none, errW_some] <;> rfl) | (simp [*, errW_none, errW_some] <;> rfl), by repeat (first | (with_reducible first | exact HB.out | apply below_alloc | apply pw_below_drewN | apply below_drew1 | refine below_set ?_ GE369.out | refine below_set ?_ GE370.out) | exact HB.out)⟩

end Go.Proofs.Ytmiapolhklapnaa.P
