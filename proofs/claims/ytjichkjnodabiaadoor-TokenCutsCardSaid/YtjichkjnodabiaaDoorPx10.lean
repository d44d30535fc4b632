-- PRINTED by a program of this session over the kit's print.py.
import Derived.Test.YtjichkjnodabiaaDoorPx0
import Derived.Test.YtjichkjnodabiaaDoorPx3
import Derived.Test.YtjichkjnodabiaaDoorPx8
import Derived.Test.YtjichkjnodabiaaDoorPx9
namespace Go.Proofs.YtjichkjnodabiaaDoor.P
open Go.Own Go.RowKit Go.Proofs.YtjichkjnodabiaaDoorW.PrintWords Go.Proofs.YtjichkjnodabiaaDoorW.PrintLast Go.Proofs.YtjichkjnodabiaaDoorW.PrintMore
attribute [local go_sem] max2_int min2_int max_two min_two max_three min_three max_four min_four   -- for this text's walks alone
set_option linter.unusedVariables false
set_option linter.unusedSimpArgs false

section
attribute [-simp] ByteArray.size_extract
/-! ### spinneyref05_number: function 40 -/
mutual
def spinneyref05_number.j0 : Nat → ByteArray → Int → Bool → Int → ByteArray → Int → Int → Option (Int × ByteArray × Int × Int × Int × Bool)
  | 0, _, _, _, _, _, _, _ => none
  | k + 1, x0, x1, x33, x148000, x148001, x148002, x148003 => if x33 = true then (if 0 ≤ (wrap64 (x1 + 2)) then (if (wrap64 (x1 + 2)) ≤ (x0.size : Int) then (if ((x0.extract ((wrap64 (x1 + 2)) : Int).toNat x0.size).size : Int) > 1 then (if 0 < ((x0.extract ((wrap64 (x1 + 2)) : Int).toNat x0.size).size : Int) then (if (bt (x0.extract ((wrap64 (x1 + 2)) : Int).toNat x0.size) 0) = 39 then (if 1 < ((x0.extract ((wrap64 (x1 + 2)) : Int).toNat x0.size).size : Int) then (spinneyref05_number.j1 k x0 x1 (x0.extract ((wrap64 (x1 + 2)) : Int).toNat x0.size) ((bt (x0.extract ((wrap64 (x1 + 2)) : Int).toNat x0.size) 1) == 39) x148000 x148001 x148002 x148003) else (none)) else (spinneyref05_number.j1 k x0 x1 (x0.extract ((wrap64 (x1 + 2)) : Int).toNat x0.size) false x148000 x148001 x148002 x148003)) else (none)) else (spinneyref05_number.j1 k x0 x1 (x0.extract ((wrap64 (x1 + 2)) : Int).toNat x0.size) false x148000 x148001 x148002 x148003)) else (none)) else (none)) else ((spinneyref05_run.f k x0 x1 (([3] : List Int))).bind fun t159 => (if 0 ≤ x1 then (if x1 ≤ t159 then (if t159 ≤ (x0.size : Int) then (if 1 + (x0.extract (x1 : Int).toNat (t159 : Int).toNat).size ≤ 9223372036854775807 then ((spinneyref01_Read.f k ((⟨#[45]⟩ : ByteArray) ++ (x0.extract (x1 : Int).toNat (t159 : Int).toNat))).bind fun bt160 => (some (x148000, x148001, wrap64 (-bt160.1), x148003, t159, (bt160.2 == 0)))) else (none)) else (none)) else (none)) else (none)))
def spinneyref05_number.j1 : Nat → ByteArray → Int → ByteArray → Bool → Int → ByteArray → Int → Int → Option (Int × ByteArray × Int × Int × Int × Bool)
  | 0, _, _, _, _, _, _, _, _ => none
  | k + 1, x0, x1, x8, x50, x148000, x148001, x148002, x148003 => if x50 = true then (some (x148000, x148001, 39, x148003, wrap64 (x1 + 4), true)) else ((utf8_DecodeRuneInString.f x8).bind fun bt148 => (if bt148.2 > 0 then (if bt148.1 = 65533 then (if bt148.2 = 1 then (spinneyref05_number.j2 k x0 x1 bt148.1 bt148.2 false x148000 x148001 x148002 x148003) else (if bt148.1 ≥ 32 then (if bt148.1 = 39 then (spinneyref05_number.j2 k x0 x1 bt148.1 bt148.2 false x148000 x148001 x148002 x148003) else (spinneyref05_number.j2 k x0 x1 bt148.1 bt148.2 (bt148.1 != 92) x148000 x148001 x148002 x148003)) else (spinneyref05_number.j2 k x0 x1 bt148.1 bt148.2 false x148000 x148001 x148002 x148003))) else (if bt148.1 ≥ 32 then (if bt148.1 = 39 then (spinneyref05_number.j2 k x0 x1 bt148.1 bt148.2 false x148000 x148001 x148002 x148003) else (spinneyref05_number.j2 k x0 x1 bt148.1 bt148.2 (bt148.1 != 92) x148000 x148001 x148002 x148003)) else (spinneyref05_number.j2 k x0 x1 bt148.1 bt148.2 false x148000 x148001 x148002 x148003))) else (spinneyref05_number.j2 k x0 x1 bt148.1 bt148.2 false x148000 x148001 x148002 x148003)))
def spinneyref05_number.j2 : Nat → ByteArray → Int → Int → Int → Bool → Int → ByteArray → Int → Int → Option (Int × ByteArray × Int × Int × Int × Bool)
  | 0, _, _, _, _, _, _, _, _, _ => none
  | k + 1, x0, x1, x9, x10, x82, x148000, x148001, x148002, x148003 => if x82 = true then (some (x148000, x148001, wrap64 (x9), x148003, wrap64 ((wrap64 (x1 + 2)) + x10), true)) else ((spinneyref05_run.f k x0 x1 (([3] : List Int))).bind fun t153 => (if 0 ≤ x1 then (if x1 ≤ t153 then (if t153 ≤ (x0.size : Int) then (if 1 + (x0.extract (x1 : Int).toNat (t153 : Int).toNat).size ≤ 9223372036854775807 then ((spinneyref01_Read.f k ((⟨#[45]⟩ : ByteArray) ++ (x0.extract (x1 : Int).toNat (t153 : Int).toNat))).bind fun bt154 => (some (x148000, x148001, wrap64 (-bt154.1), x148003, t153, (bt154.2 == 0)))) else (none)) else (none)) else (none)) else (none)))
end
def spinneyref05_number.f (k : Nat) (a0 : ByteArray) (a1 : Int) : Option (Int × ByteArray × Int × Int × Int × Bool) := if 0 ≤ a1 then (if a1 < (a0.size : Int) then (if (bt a0 a1) = 48 then (if (wrap64 (a1 + 1)) < (a0.size : Int) then (if 0 ≤ (wrap64 (a1 + 1)) then (spinneyref05_number.j0 k a0 a1 ((bt a0 (wrap64 (a1 + 1))) == 39) 5 (⟨#[]⟩ : ByteArray) 0 a1) else (none)) else (spinneyref05_number.j0 k a0 a1 false 5 (⟨#[]⟩ : ByteArray) 0 a1)) else (spinneyref05_number.j0 k a0 a1 false 5 (⟨#[]⟩ : ByteArray) 0 a1)) else (none)) else (none)
theorem spinneyref05_number.mono_l : ∀ k, (∀ y0 y1 y2 y3 y4 y5 y6, LeO (spinneyref05_number.j0 k y0 y1 y2 y3 y4 y5 y6) (spinneyref05_number.j0 (k + 1) y0 y1 y2 y3 y4 y5 y6)) ∧ (∀ y0 y1 y2 y3 y4 y5 y6 y7, LeO (spinneyref05_number.j1 k y0 y1 y2 y3 y4 y5 y6 y7) (spinneyref05_number.j1 (k + 1) y0 y1 y2 y3 y4 y5 y6 y7)) ∧ (∀ y0 y1 y2 y3 y4 y5 y6 y7 y8, LeO (spinneyref05_number.j2 k y0 y1 y2 y3 y4 y5 y6 y7 y8) (spinneyref05_number.j2 (k + 1) y0 y1 y2 y3 y4 y5 y6 y7 y8))
  | 0 => ⟨fun _ _ _ _ _ _ _ r h => by simp [spinneyref05_number.j0] at h, fun _ _ _ _ _ _ _ _ r h => by simp [spinneyref05_number.j1] at h, fun _ _ _ _ _ _ _ _ _ r h => by simp [spinneyref05_number.j2] at h⟩
  | k + 1 => by
    obtain ⟨ih0, ih1, ih2⟩ := spinneyref05_number.mono_l k
    refine ⟨?_, ?_, ?_⟩
    · intro y0 y1 y2 y3 y4 y5 y6
      unfold spinneyref05_number.j0
      repeat' first
      | (with_reducible exact ih0 _ _ _ _ _ _ _)
      | (with_reducible exact ih1 _ _ _ _ _ _ _ _)
      | (with_reducible exact ih2 _ _ _ _ _ _ _ _ _)
      | (with_reducible exact spinneyref01_Read.mono _ _)
      | (with_reducible exact spinneyref05_run.mono _ _ _ _)
      | (with_reducible exact LeO.refl _)
      | (with_reducible exact LeO.none _)
      | (with_reducible refine LeO.ite ?_ ?_)
      | (with_reducible refine LeO.bind ?_ (fun _ => ?_))
      | exact ih0 _ _ _ _ _ _ _
      | exact ih1 _ _ _ _ _ _ _ _
      | exact ih2 _ _ _ _ _ _ _ _ _
      | exact spinneyref01_Read.mono _ _
      | exact spinneyref05_run.mono _ _ _ _
      | exact LeO.none _
      | refine LeO.ite ?_ ?_
      | refine LeO.bind ?_ (fun _ => ?_)
    · intro y0 y1 y2 y3 y4 y5 y6 y7
      unfold spinneyref05_number.j1
      repeat' first
      | (with_reducible exact ih0 _ _ _ _ _ _ _)
      | (with_reducible exact ih1 _ _ _ _ _ _ _ _)
      | (with_reducible exact ih2 _ _ _ _ _ _ _ _ _)
      | (with_reducible exact spinneyref01_Read.mono _ _)
      | (with_reducible exact spinneyref05_run.mono _ _ _ _)
      | (with_reducible exact LeO.refl _)
      | (with_reducible exact LeO.none _)
      | (with_reducible refine LeO.ite ?_ ?_)
      | (with_reducible refine LeO.bind ?_ (fun _ => ?_))
      | exact ih0 _ _ _ _ _ _ _
      | exact ih1 _ _ _ _ _ _ _ _
      | exact ih2 _ _ _ _ _ _ _ _ _
      | exact spinneyref01_Read.mono _ _
      | exact spinneyref05_run.mono _ _ _ _
      | exact LeO.none _
      | refine LeO.ite ?_ ?_
      | refine LeO.bind ?_ (fun _ => ?_)
    · intro y0 y1 y2 y3 y4 y5 y6 y7 y8
      unfold spinneyref05_number.j2
      repeat' first
      | (with_reducible exact ih0 _ _ _ _ _ _ _)
      | (with_reducible exact ih1 _ _ _ _ _ _ _ _)
      | (with_reducible exact ih2 _ _ _ _ _ _ _ _ _)
      | (with_reducible exact spinneyref01_Read.mono _ _)
      | (with_reducible exact spinneyref05_run.mono _ _ _ _)
      | (with_reducible exact LeO.refl _)
      | (with_reducible exact LeO.none _)
      | (with_reducible refine LeO.ite ?_ ?_)
      | (with_reducible refine LeO.bind ?_ (fun _ => ?_))
      | exact ih0 _ _ _ _ _ _ _
      | exact ih1 _ _ _ _ _ _ _ _
      | exact ih2 _ _ _ _ _ _ _ _ _
      | exact spinneyref01_Read.mono _ _
      | exact spinneyref05_run.mono _ _ _ _
      | exact LeO.none _
      | refine LeO.ite ?_ ?_
      | refine LeO.bind ?_ (fun _ => ?_)
theorem spinneyref05_number.mono : ∀ a0 a1 k, LeO (spinneyref05_number.f k a0 a1) (spinneyref05_number.f (k + 1) a0 a1) := by
  intro a0 a1 k
  obtain ⟨ih0, ih1, ih2⟩ := spinneyref05_number.mono_l k
  unfold spinneyref05_number.f
  repeat' first
      | (with_reducible exact ih0 _ _ _ _ _ _ _)
      | (with_reducible exact ih1 _ _ _ _ _ _ _ _)
      | (with_reducible exact ih2 _ _ _ _ _ _ _ _ _)
      | (with_reducible exact spinneyref01_Read.mono _ _)
      | (with_reducible exact spinneyref05_run.mono _ _ _ _)
      | (with_reducible exact LeO.refl _)
      | (with_reducible exact LeO.none _)
      | (with_reducible refine LeO.ite ?_ ?_)
      | (with_reducible refine LeO.bind ?_ (fun _ => ?_))
      | exact ih0 _ _ _ _ _ _ _
      | exact ih1 _ _ _ _ _ _ _ _
      | exact ih2 _ _ _ _ _ _ _ _ _
      | exact spinneyref01_Read.mono _ _
      | exact spinneyref05_run.mono _ _ _ _
      | exact LeO.none _
      | refine LeO.ite ?_ ?_
      | refine LeO.bind ?_ (fun _ => ?_)
set_option maxHeartbeats 8000000 in
set_option maxRecDepth 100000 in
theorem spinneyref05_number.calls (k : Nat) (a0 : ByteArray) (a1 : Int) (r1 : Int) (r2 : ByteArray) (r3 : Int) (r4 : Int) (r5 : Int) (r6 : Bool) (w : World) (h : spinneyref05_number.f k a0 a1 = some (r1, r2, r3, r4, r5, r6)) (hT : Tabs w) :
    Calls Tryd.prog 40 #[.string a0, .int .i64 a1] w fun e w' => e = .returned (.tuple #[.agg #[.int .i64 r1, .string r2, .int .i64 r3, .int .i64 r4], .int .i64 r5, .bool r6]) ∧ Below w.heap.size w w' := by
  have HT := Aside0.mk hT
  clear hT
  have hu30 := Tryd.underlying30
  have HB := Aside0.mk (Below.refl w.heap.size w)
  have H : (if 0 ≤ a1 then (if a1 < (a0.size : Int) then (if (bt a0 a1) = 48 then (if (wrap64 (a1 + 1)) < (a0.size : Int) then (if 0 ≤ (wrap64 (a1 + 1)) then (spinneyref05_number.j0 k a0 a1 ((bt a0 (wrap64 (a1 + 1))) == 39) 5 (⟨#[]⟩ : ByteArray) 0 a1) else (none)) else (spinneyref05_number.j0 k a0 a1 false 5 (⟨#[]⟩ : ByteArray) 0 a1)) else (spinneyref05_number.j0 k a0 a1 false 5 (⟨#[]⟩ : ByteArray) 0 a1)) else (none)) else (none)) = some (r1, r2, r3, r4, r5, r6) := h
  clear h
  have HC3 := Aside0.mk H
  clear H
  go_enter Tryd.func40, Tryd.ntmps40
  go_upto_region 2 with (first | ((with_reducible refine gate_dst (N := 4) rfl ?_); (try (refine gate_guard (by rfl) ?_; dsimp only)); refine box_event ?hg (N := 4) ?hd (cs := #[.int .i64 0, .string (⟨#[]⟩ : ByteArray), .int .i64 0, .int .i64 0]) (t := 30) ?hr ?_; (case hd => rfl); (case hg => rfl); (case hr => first | (go_simp; done) | (go_simp; rfl)); intro gb146 hg w4 hbox hb; have n0_ := Aside0.mk (below_step (by repeat (first | (with_reducible first | exact HB.out | apply below_alloc | apply pw_below_drewN | apply below_drew1) | exact HB.out)) hb); have n1_ := Aside0.mk (hbox); have n2_ := Aside0.mk ((by rw [hg]; exact (below_size (by repeat (first | (with_reducible first | exact HB.out | apply below_alloc | apply pw_below_drewN | apply below_drew1) | exact HB.out))) : w.heap.size ≤ gb146)); have n3_ := Aside0.mk ((by rw [hg]; exact (below_size (by repeat (first | (with_reducible first | exact HB.out | apply below_alloc | apply pw_below_drewN | apply below_drew1) | exact HB.out))) : w.heap.size ≤ gb146)); clear HB; have HB := n0_; have BK146 := n1_; have GW146 := n2_; have GE146 := n3_; clear n0_ n1_ n2_ n3_; clear hb hbox hg) | ((with_reducible refine gate_dst (N := 7) rfl ?_); (try (refine gate_guard (by rfl) ?_; dsimp only)); refine box_event ?hg (N := 7) ?hd (cs := #[.int .i64 0, .string (⟨#[]⟩ : ByteArray), .int .i64 0, .int .i64 0]) (t := 30) ?hr ?_; (case hd => rfl); (case hg => rfl); (case hr => first | (go_simp; done) | (go_simp; rfl)); intro gb147 hg w5 hbox hb; have n0_ := Aside0.mk (blk_below (g := gb146) (o := .cells #[.int .i64 0, .string (⟨#[]⟩ : ByteArray), .int .i64 0, .int .i64 0] 30 (0, 0)) (by (with_reducible repeat (first | refine blk_drewN ?_ _ | refine blk_drew ?_ | refine blk_alloc ?_ _)); exact BK146.out) hb); have n1_ := Aside0.mk (below_step (by repeat (first | (with_reducible first | exact HB.out | apply below_alloc | apply pw_below_drewN | apply below_drew1 | refine below_set ?_ GE146.out) | exact HB.out)) hb); have n2_ := Aside0.mk (hbox); have n3_ := Aside0.mk ((by rw [hg]; exact (below_size (by repeat (first | (with_reducible first | exact HB.out | apply below_alloc | apply pw_below_drewN | apply below_drew1 | refine below_set ?_ GE146.out) | exact HB.out))) : w.heap.size ≤ gb147)); have n4_ := Aside0.mk ((by rw [hg]; exact (below_size (by repeat (first | (with_reducible first | exact HB.out | apply below_alloc | apply pw_below_drewN | apply below_drew1 | refine below_set ?_ GE146.out) | exact HB.out))) : w.heap.size ≤ gb147)); have n5_ := Aside0.mk ((by rw [hg]; exact Nat.ne_of_lt (blk_lt (g := gb146) (o := .cells #[.int .i64 0, .string (⟨#[]⟩ : ByteArray), .int .i64 0, .int .i64 0] 30 (0, 0)) (by (with_reducible repeat (first | refine blk_drewN ?_ _ | refine blk_drew ?_ | refine blk_alloc ?_ _)); exact BK146.out)) : gb146 ≠ gb147)); have n6_ := Aside0.mk ((by rw [hg]; exact Nat.ne_of_gt (blk_lt (g := gb146) (o := .cells #[.int .i64 0, .string (⟨#[]⟩ : ByteArray), .int .i64 0, .int .i64 0] 30 (0, 0)) (by (with_reducible repeat (first | refine blk_drewN ?_ _ | refine blk_drew ?_ | refine blk_alloc ?_ _)); exact BK146.out)) : gb147 ≠ gb146)); clear BK146; clear HB; have BK146 := n0_; have HB := n1_; have BK147 := n2_; have GW147 := n3_; have GE147 := n4_; have NB146_147 := n5_; have NB147_146 := n6_; clear n0_ n1_ n2_ n3_ n4_ n5_ n6_; clear hb hbox hg; have hnb6 := NB147_146.out; have hnc6 := NB146_147.out; have hcz7_0 : w5.cell? ⟨gb147, 0, none⟩ = some (.int .i64 0) := (blk_cell BK147.out 0).trans rfl; have hcz7_1 : w5.cell? ⟨gb147, 1, none⟩ = some (.string (⟨#[]⟩ : ByteArray)) := (blk_cell BK147.out 1).trans rfl; have hcz7_2 : w5.cell? ⟨gb147, 2, none⟩ = some (.int .i64 0) := (blk_cell BK147.out 2).trans rfl; have hcz7_3 : w5.cell? ⟨gb147, 3, none⟩ = some (.int .i64 0) := (blk_cell BK147.out 3).trans rfl; have hfz7_0 := blk_frozen BK147.out 0; have hfz7_1 := blk_frozen BK147.out 1; have hfz7_2 := blk_frozen BK147.out 2; have hfz7_3 := blk_frozen BK147.out 3))
  (try simp only [Act.put, List.setIfInBounds_toArray, List.set_cons_zero, List.set_cons_succ])
  go_cut [33] (fun v33 wc => ∃ (kq : Nat) (x33_2 : Bool), v33 = .bool x33_2 ∧ Aside0 (spinneyref05_number.j0 kq a0 a1 x33_2 5 (⟨#[]⟩ : ByteArray) 0 a1 = some (r1, r2, r3, r4, r5, r6)) ∧ Aside0 (kq ≤ k) ∧ Aside0 (wc.heap[gb146]? = some (.cells #[.int .i64 0, .string (⟨#[]⟩ : ByteArray), .int .i64 0, .int .i64 0] 30 (0, 0))) ∧ Aside0 (wc.heap[gb147]? = some (.cells #[.int .i64 5, .string (⟨#[]⟩ : ByteArray), .int .i64 0, .int .i64 a1] 30 (0, 0))) ∧ Aside0 (Below w.heap.size w wc))
  case first =>
    have H := HC3.out
    clear HC3
    by_cases c8 : 0 ≤ a1
    · rw [if_pos c8] at H
      have c8b0 : decide (0 ≤ a1) = true := decide_eq_true c8
      clear c8
      (first | rw [c8b0] | (simp only [i64_w, i32_w]; rw [c8b0]) | skip)
      by_cases c9 : a1 < (a0.size : Int)
      · rw [if_pos c9] at H
        have c9b0 : decide (a1 < (a0.size : Int)) = true := decide_eq_true c9
        clear c9
        by_cases c11 : (bt a0 a1) = 48
        · rw [if_pos c11] at H
          have c11b0 : ((bt a0 a1) == 48) = true := beq_iff_eq.mpr c11
          have c11b1 : ((bt a0 a1) != 48) = false := bne_eq_false_iff_eq.mpr c11
          clear c11
          by_cases c12 : (wrap64 (a1 + 1)) < (a0.size : Int)
          · rw [if_pos c12] at H
            have c12b0 : decide ((wrap64 (a1 + 1)) < (a0.size : Int)) = true := decide_eq_true c12
            clear c12
            obtain ⟨ji13, hji13⟩ : ∃ j_ : Int, (wrap64 (a1 + 1)) = j_ := ⟨_, rfl⟩
            replace H : (if 0 ≤ (ji13) then (spinneyref05_number.j0 k a0 a1 ((bt a0 (ji13)) == 39) 5 (⟨#[]⟩ : ByteArray) 0 a1) else (none)) = some (r1, r2, r3, r4, r5, r6) := by first | (rw [hji13] at H; exact H) | (simp only [hji13] at H ⊢; exact H)
            (try rw [hji13] at c12b0)
            have hji13w : (IntKind.i64.wrap (a1 + 1)) = ji13 := (i64_w _).trans hji13
            by_cases c14 : 0 ≤ (ji13)
            · rw [if_pos c14] at H
              have c14b0 : decide (0 ≤ (ji13)) = true := decide_eq_true c14
              clear c14
              have H' := Aside0.mk H
              clear H
              have p10 : 0 ≤ (a1 : Int) := of_decide_eq_true (by first | (with_reducible assumption) | assumption)
              have q10 : a1 < (a0.size : Int) := of_decide_eq_true (by first | (with_reducible assumption) | assumption)
              have hx10 := bt_at a0 a1
              replace p10 := eq_true p10
              replace q10 := eq_true q10
              have p15 : 0 ≤ ((ji13) : Int) := of_decide_eq_true (by first | (with_reducible assumption) | assumption)
              have q15 : (ji13) < (a0.size : Int) := of_decide_eq_true (by first | (with_reducible assumption) | assumption)
              have hx15 := bt_at a0 (ji13)
              replace p15 := eq_true p15
              replace q15 := eq_true q15
              go_wp2
              go_meet
              case rel => exact ⟨_, (((bt a0 (ji13)) == 39)), (by first | rfl | (simp; done) | (simp only [← hji13] <;> (first | rfl | simp)) | (simp [*]; done)), H', ⟨by first | omega | exact Nat.le_refl _⟩, ⟨by (with_reducible repeat (first | refine blk_drewN ?_ _ | refine blk_drew ?_ | refine blk_alloc ?_ _)); refine blk_far ?_ NB146_147.out _; (with_reducible repeat (first | refine blk_drewN ?_ _ | refine blk_drew ?_ | refine blk_alloc ?_ _)); refine blk_far ?_ NB146_147.out _; (with_reducible repeat (first | refine blk_drewN ?_ _ | refine blk_drew ?_ | refine blk_alloc ?_ _)); refine blk_far ?_ NB146_147.out _; (with_reducible repeat (first | refine blk_drewN ?_ _ | refine blk_drew ?_ | refine blk_alloc ?_ _)); refine blk_far ?_ NB146_147.out _; (with_reducible repeat (first | refine blk_drewN ?_ _ | refine blk_drew ?_ | refine blk_alloc ?_ _)); exact BK146.out⟩, ⟨by (with_reducible repeat (first | refine blk_drewN ?_ _ | refine blk_drew ?_ | refine blk_alloc ?_ _)); refine blk_put (cs := #[.int .i64 5, .string (⟨#[]⟩ : ByteArray), .int .i64 0, .int .i64 0]) ?_ 3 _ rfl; (with_reducible repeat (first | refine blk_drewN ?_ _ | refine blk_drew ?_ | refine blk_alloc ?_ _)); refine blk_put (cs := #[.int .i64 5, .string (⟨#[]⟩ : ByteArray), .int .i64 0, .int .i64 0]) ?_ 2 _ rfl; (with_reducible repeat (first | refine blk_drewN ?_ _ | refine blk_drew ?_ | refine blk_alloc ?_ _)); refine blk_put (cs := #[.int .i64 5, .string (⟨#[]⟩ : ByteArray), .int .i64 0, .int .i64 0]) ?_ 1 _ rfl; (with_reducible repeat (first | refine blk_drewN ?_ _ | refine blk_drew ?_ | refine blk_alloc ?_ _)); refine blk_put (cs := #[.int .i64 0, .string (⟨#[]⟩ : ByteArray), .int .i64 0, .int .i64 0]) ?_ 0 _ rfl; (with_reducible repeat (first | refine blk_drewN ?_ _ | refine blk_drew ?_ | refine blk_alloc ?_ _)); exact BK147.out⟩, ⟨by repeat (first | (with_reducible first | exact HB.out | apply below_alloc | apply pw_below_drewN | apply below_drew1 | refine below_set ?_ GE146.out | refine below_set ?_ GE147.out) | exact HB.out)⟩⟩
            · rw [if_neg c14] at H
              exact absurd H (by simp)
          · rw [if_neg c12] at H
            have c12b0 : decide ((wrap64 (a1 + 1)) < (a0.size : Int)) = false := decide_eq_false c12
            clear c12
            have H' := Aside0.mk H
            clear H
            have p10 : 0 ≤ (a1 : Int) := of_decide_eq_true (by first | (with_reducible assumption) | assumption)
            have q10 : a1 < (a0.size : Int) := of_decide_eq_true (by first | (with_reducible assumption) | assumption)
            have hx10 := bt_at a0 a1
            replace p10 := eq_true p10
            replace q10 := eq_true q10
            go_wp2
            go_meet
            case rel => exact ⟨_, (false), (by first | rfl | (simp; done) | (simp [*]; done)), H', ⟨by first | omega | exact Nat.le_refl _⟩, ⟨by (with_reducible repeat (first | refine blk_drewN ?_ _ | refine blk_drew ?_ | refine blk_alloc ?_ _)); refine blk_far ?_ NB146_147.out _; (with_reducible repeat (first | refine blk_drewN ?_ _ | refine blk_drew ?_ | refine blk_alloc ?_ _)); refine blk_far ?_ NB146_147.out _; (with_reducible repeat (first | refine blk_drewN ?_ _ | refine blk_drew ?_ | refine blk_alloc ?_ _)); refine blk_far ?_ NB146_147.out _; (with_reducible repeat (first | refine blk_drewN ?_ _ | refine blk_drew ?_ | refine blk_alloc ?_ _)); refine blk_far ?_ NB146_147.out _; (with_reducible repeat (first | refine blk_drewN ?_ _ | refine blk_drew ?_ | refine blk_alloc ?_ _)); exact BK146.out⟩, ⟨by (with_reducible repeat (first | refine blk_drewN ?_ _ | refine blk_drew ?_ | refine blk_alloc ?_ _)); refine blk_put (cs := #[.int .i64 5, .string (⟨#[]⟩ : ByteArray), .int .i64 0, .int .i64 0]) ?_ 3 _ rfl; (with_reducible repeat (first | refine blk_drewN ?_ _ | refine blk_drew ?_ | refine blk_alloc ?_ _)); refine blk_put (cs := #[.int .i64 5, .string (⟨#[]⟩ : ByteArray), .int .i64 0, .int .i64 0]) ?_ 2 _ rfl; (with_reducible repeat (first | refine blk_drewN ?_ _ | refine blk_drew ?_ | refine blk_alloc ?_ _)); refine blk_put (cs := #[.int .i64 5, .string (⟨#[]⟩ : ByteArray), .int .i64 0, .int .i64 0]) ?_ 1 _ rfl; (with_reducible repeat (first | refine blk_drewN ?_ _ | refine blk_drew ?_ | refine blk_alloc ?_ _)); refine blk_put (cs := #[.int .i64 0, .string (⟨#[]⟩ : ByteArray), .int .i64 0, .int .i64 0]) ?_ 0 _ rfl; (with_reducible repeat (first | refine blk_drewN ?_ _ | refine blk_drew ?_ | refine blk_alloc ?_ _)); exact BK147.out⟩, ⟨by repeat (first | (with_reducible first | exact HB.out | apply below_alloc | apply pw_below_drewN | apply below_drew1 | refine below_set ?_ GE146.out | refine below_set ?_ GE147.out) | exact HB.out)⟩⟩
        · rw [if_neg c11] at H
          have c11b0 : ((bt a0 a1) == 48) = false := beq_eq_false_iff_ne.mpr c11
          have c11b1 : ((bt a0 a1) != 48) = true := bne_iff_ne.mpr c11
          have H' := Aside0.mk H
          clear H
          have p10 : 0 ≤ (a1 : Int) := of_decide_eq_true (by first | (with_reducible assumption) | assumption)
          have q10 : a1 < (a0.size : Int) := of_decide_eq_true (by first | (with_reducible assumption) | assumption)
          have hx10 := bt_at a0 a1
          replace p10 := eq_true p10
          replace q10 := eq_true q10
          go_wp2
          go_meet
          case rel => exact ⟨_, (false), (by first | rfl | (simp; done) | (simp [*]; done)), H', ⟨by first | omega | exact Nat.le_refl _⟩, ⟨by (with_reducible repeat (first | refine blk_drewN ?_ _ | refine blk_drew ?_ | refine blk_alloc ?_ _)); refine blk_far ?_ NB146_147.out _; (with_reducible repeat (first | refine blk_drewN ?_ _ | refine blk_drew ?_ | refine blk_alloc ?_ _)); refine blk_far ?_ NB146_147.out _; (with_reducible repeat (first | refine blk_drewN ?_ _ | refine blk_drew ?_ | refine blk_alloc ?_ _)); refine blk_far ?_ NB146_147.out _; (with_reducible repeat (first | refine blk_drewN ?_ _ | refine blk_drew ?_ | refine blk_alloc ?_ _)); refine blk_far ?_ NB146_147.out _; (with_reducible repeat (first | refine blk_drewN ?_ _ | refine blk_drew ?_ | refine blk_alloc ?_ _)); exact BK146.out⟩, ⟨by (with_reducible repeat (first | refine blk_drewN ?_ _ | refine blk_drew ?_ | refine blk_alloc ?_ _)); refine blk_put (cs := #[.int .i64 5, .string (⟨#[]⟩ : ByteArray), .int .i64 0, .int .i64 0]) ?_ 3 _ rfl; (with_reducible repeat (first | refine blk_drewN ?_ _ | refine blk_drew ?_ | refine blk_alloc ?_ _)); refine blk_put (cs := #[.int .i64 5, .string (⟨#[]⟩ : ByteArray), .int .i64 0, .int .i64 0]) ?_ 2 _ rfl; (with_reducible repeat (first | refine blk_drewN ?_ _ | refine blk_drew ?_ | refine blk_alloc ?_ _)); refine blk_put (cs := #[.int .i64 5, .string (⟨#[]⟩ : ByteArray), .int .i64 0, .int .i64 0]) ?_ 1 _ rfl; (with_reducible repeat (first | refine blk_drewN ?_ _ | refine blk_drew ?_ | refine blk_alloc ?_ _)); refine blk_put (cs := #[.int .i64 0, .string (⟨#[]⟩ : ByteArray), .int .i64 0, .int .i64 0]) ?_ 0 _ rfl; (with_reducible repeat (first | refine blk_drewN ?_ _ | refine blk_drew ?_ | refine blk_alloc ?_ _)); exact BK147.out⟩, ⟨by repeat (first | (with_reducible first | exact HB.out | apply below_alloc | apply pw_below_drewN | apply below_drew1 | refine below_set ?_ GE146.out | refine below_set ?_ GE147.out) | exact HB.out)⟩⟩
      · rw [if_neg c9] at H
        exact absurd H (by simp)
    · rw [if_neg c8] at H
      exact absurd H (by simp)
  case rest =>
    clear HC3
    try clear c1
    try clear p1
    try clear q1
    try clear hx1
    try clear p2
    try clear c4
    try clear c6
    try clear p6
    try clear c8
    try clear c8b0
    try clear c9
    try clear c9b0
    try clear p10
    try clear q10
    try clear hx10
    try clear c11
    try clear c11b0
    try clear c11b1
    try clear c12
    try clear c12b0
    try clear c14
    try clear c14b0
    try clear p15
    try clear q15
    try clear hx15
    try clear hcz7_0
    try clear hcz7_1
    try clear hcz7_2
    try clear hcz7_3
    try clear hfz7_0
    try clear hfz7_1
    try clear hfz7_2
    try clear hfz7_3
    try clear p10
    try clear p15
    try clear q10
    try clear q15
    obtain ⟨kq, x33_2, rfl, HA, HJ2, BK146, BK147, HB⟩ := hcut
    cases kq with
    | zero => exact absurd HA.out (by simp [spinneyref05_number.j0])
    | succ kj2 =>
      have H := HA.out
      clear HA
      simp only [spinneyref05_number.j0] at H
      by_cases c16 : x33_2 = true
      · subst c16
        have H1 : (if 0 ≤ (wrap64 (a1 + 2)) then (if (wrap64 (a1 + 2)) ≤ (a0.size : Int) then (if ((a0.extract ((wrap64 (a1 + 2)) : Int).toNat a0.size).size : Int) > 1 then (if 0 < ((a0.extract ((wrap64 (a1 + 2)) : Int).toNat a0.size).size : Int) then (if (bt (a0.extract ((wrap64 (a1 + 2)) : Int).toNat a0.size) 0) = 39 then (if 1 < ((a0.extract ((wrap64 (a1 + 2)) : Int).toNat a0.size).size : Int) then (spinneyref05_number.j1 kj2 a0 a1 (a0.extract ((wrap64 (a1 + 2)) : Int).toNat a0.size) ((bt (a0.extract ((wrap64 (a1 + 2)) : Int).toNat a0.size) 1) == 39) 5 (⟨#[]⟩ : ByteArray) 0 a1) else (none)) else (spinneyref05_number.j1 kj2 a0 a1 (a0.extract ((wrap64 (a1 + 2)) : Int).toNat a0.size) false 5 (⟨#[]⟩ : ByteArray) 0 a1)) else (none)) else (spinneyref05_number.j1 kj2 a0 a1 (a0.extract ((wrap64 (a1 + 2)) : Int).toNat a0.size) false 5 (⟨#[]⟩ : ByteArray) 0 a1)) else (none)) else (none)) = some (r1, r2, r3, r4, r5, r6) := by rw [if_pos rfl] at H; exact H
        clear H
        have H := H1
        clear H1
        obtain ⟨ji17, hji17⟩ : ∃ j_ : Int, (wrap64 (a1 + 2)) = j_ := ⟨_, rfl⟩
        replace H : (if 0 ≤ (ji17) then (if (ji17) ≤ (a0.size : Int) then (if ((a0.extract ((ji17) : Int).toNat a0.size).size : Int) > 1 then (if 0 < ((a0.extract ((ji17) : Int).toNat a0.size).size : Int) then (if (bt (a0.extract ((ji17) : Int).toNat a0.size) 0) = 39 then (if 1 < ((a0.extract ((ji17) : Int).toNat a0.size).size : Int) then (spinneyref05_number.j1 kj2 a0 a1 (a0.extract ((ji17) : Int).toNat a0.size) ((bt (a0.extract ((ji17) : Int).toNat a0.size) 1) == 39) 5 (⟨#[]⟩ : ByteArray) 0 a1) else (none)) else (spinneyref05_number.j1 kj2 a0 a1 (a0.extract ((ji17) : Int).toNat a0.size) false 5 (⟨#[]⟩ : ByteArray) 0 a1)) else (none)) else (spinneyref05_number.j1 kj2 a0 a1 (a0.extract ((ji17) : Int).toNat a0.size) false 5 (⟨#[]⟩ : ByteArray) 0 a1)) else (none)) else (none)) = some (r1, r2, r3, r4, r5, r6) := by first | (rw [hji17] at H; exact H) | (simp only [hji17] at H ⊢; exact H)
        have hji17w : (IntKind.i64.wrap (a1 + 2)) = ji17 := (i64_w _).trans hji17
        by_cases c18 : 0 ≤ (ji17)
        · rw [if_pos c18] at H
          have c18b0 := eq_true c18
          have c18b1 : decide (0 ≤ (ji17)) = true := decide_eq_true c18
          clear c18
          by_cases c19 : (ji17) ≤ (a0.size : Int)
          · rw [if_pos c19] at H
            have c19b0 := eq_true c19
            have c19b1 : decide ((ji17) ≤ (a0.size : Int)) = true := decide_eq_true c19
            clear c19
            have HC20 := Aside0.mk H
            clear H
            go_upto_region 4 with (fail)
            go_cut [50] (fun v50 wc => ∃ (kq : Nat) (x50_19 : Bool), v50 = .bool x50_19 ∧ Aside0 (spinneyref05_number.j1 kq a0 a1 (a0.extract ((ji17) : Int).toNat a0.size) x50_19 5 (⟨#[]⟩ : ByteArray) 0 a1 = some (r1, r2, r3, r4, r5, r6)) ∧ Aside0 (kq ≤ kj2) ∧ Aside0 (wc.heap[gb146]? = some (.cells #[.int .i64 0, .string (⟨#[]⟩ : ByteArray), .int .i64 0, .int .i64 0] 30 (0, 0))) ∧ Aside0 (wc.heap[gb147]? = some (.cells #[.int .i64 5, .string (⟨#[]⟩ : ByteArray), .int .i64 0, .int .i64 a1] 30 (0, 0))) ∧ Aside0 (Below w.heap.size w wc))
            case first =>
              have H := HC20.out
              clear HC20
              by_cases c21 : ((a0.extract ((ji17) : Int).toNat a0.size).size : Int) > 1
              · rw [if_pos c21] at H
                have c21b0 : decide (1 < ((a0.extract ((ji17) : Int).toNat a0.size).size : Int)) = true := decide_eq_true c21
                have c21b1 : decide (1 < (a0.extract ((ji17) : Int).toNat a0.size).size) = true := decide_eq_true (by omega)
                clear c21
                (first | rw [c21b0] | (simp only [i64_w, i32_w]; rw [c21b0]) | skip)
                by_cases c22 : 0 < ((a0.extract ((ji17) : Int).toNat a0.size).size : Int)
                · rw [if_pos c22] at H
                  have c22b0 : decide (0 < ((a0.extract ((ji17) : Int).toNat a0.size).size : Int)) = true := decide_eq_true c22
                  have c22b1 : decide (0 < (a0.extract ((ji17) : Int).toNat a0.size).size) = true := decide_eq_true (by omega)
                  clear c22
                  by_cases c24 : (bt (a0.extract ((ji17) : Int).toNat a0.size) 0) = 39
                  · rw [if_pos c24] at H
                    have c24b0 : ((bt (a0.extract ((ji17) : Int).toNat a0.size) 0) == 39) = true := beq_iff_eq.mpr c24
                    have c24b1 : ((bt (a0.extract ((ji17) : Int).toNat a0.size) 0) != 39) = false := bne_eq_false_iff_eq.mpr c24
                    clear c24
                    by_cases c25 : 1 < ((a0.extract ((ji17) : Int).toNat a0.size).size : Int)
                    · rw [if_pos c25] at H
                      have c25b0 : decide (1 < ((a0.extract ((ji17) : Int).toNat a0.size).size : Int)) = true := decide_eq_true c25
                      have c25b1 : decide (1 < (a0.extract ((ji17) : Int).toNat a0.size).size) = true := decide_eq_true (by omega)
                      clear c25
                      have H' := Aside0.mk H
                      clear H
                      have p23 : 0 ≤ (0 : Int) := (by omega)
                      have q23 : 0 < (a0.extract ((ji17) : Int).toNat a0.size).size := (by have : (0 : Int) < ((a0.extract ((ji17) : Int).toNat a0.size).size : Int) := of_decide_eq_true (by first | (with_reducible assumption) | assumption); omega)
                      have hx23 : ∀ h : 0 < (a0.extract ((ji17) : Int).toNat a0.size).size, (((a0.extract ((ji17) : Int).toNat a0.size)[0]'h).toNat : Int) = bt (a0.extract ((ji17) : Int).toNat a0.size) 0 := bt_at (a0.extract ((ji17) : Int).toNat a0.size) 0
                      clear p23
                      have qi23 : (0 < ((a0.extract ((ji17) : Int).toNat a0.size).size : Int)) = True := eq_true (of_decide_eq_true (by first | (with_reducible assumption) | assumption))
                      replace q23 := eq_true q23
                      have p26 : 0 ≤ (1 : Int) := (by omega)
                      have q26 : 1 < (a0.extract ((ji17) : Int).toNat a0.size).size := (by have : (1 : Int) < ((a0.extract ((ji17) : Int).toNat a0.size).size : Int) := of_decide_eq_true (by first | (with_reducible assumption) | assumption); omega)
                      have hx26 : ∀ h : 1 < (a0.extract ((ji17) : Int).toNat a0.size).size, (((a0.extract ((ji17) : Int).toNat a0.size)[1]'h).toNat : Int) = bt (a0.extract ((ji17) : Int).toNat a0.size) 1 := bt_at (a0.extract ((ji17) : Int).toNat a0.size) 1
                      clear p26
                      have qi26 : (1 < ((a0.extract ((ji17) : Int).toNat a0.size).size : Int)) = True := eq_true (of_decide_eq_true (by first | (with_reducible assumption) | assumption))
                      replace q26 := eq_true q26
                      go_wp2
                      go_meet
                      case rel => exact ⟨_, (((bt (a0.extract ((ji17) : Int).toNat a0.size) 1) == 39)), (by first | rfl | (simp; done) | (simp only [← hji17] <;> (first | rfl | simp)) | (simp [*]; done)), H', ⟨by have := HJ2.out; first | omega | exact Nat.le_refl _⟩, ⟨by (with_reducible repeat (first | refine blk_drewN ?_ _ | refine blk_drew ?_ | refine blk_alloc ?_ _)); exact BK146.out⟩, ⟨by (with_reducible repeat (first | refine blk_drewN ?_ _ | refine blk_drew ?_ | refine blk_alloc ?_ _)); exact BK147.out⟩, ⟨by repeat (first | (with_reducible first | exact HB.out | apply below_alloc | apply pw_below_drewN | apply below_drew1 | refine below_set ?_ GE146.out | refine below_set ?_ GE147.out) | exact HB.out)⟩⟩
                    · rw [if_neg c25] at H
                      exact absurd H (by simp)
                  · rw [if_neg c24] at H
                    have c24b0 : ((bt (a0.extract ((ji17) : Int).toNat a0.size) 0) == 39) = false := beq_eq_false_iff_ne.mpr c24
                    have c24b1 : ((bt (a0.extract ((ji17) : Int).toNat a0.size) 0) != 39) = true := bne_iff_ne.mpr c24
                    have H' := Aside0.mk H
                    clear H
                    have p23 : 0 ≤ (0 : Int) := (by omega)
                    have q23 : 0 < (a0.extract ((ji17) : Int).toNat a0.size).size := (by have : (0 : Int) < ((a0.extract ((ji17) : Int).toNat a0.size).size : Int) := of_decide_eq_true (by first | (with_reducible assumption) | assumption); omega)
                    have hx23 : ∀ h : 0 < (a0.extract ((ji17) : Int).toNat a0.size).size, (((a0.extract ((ji17) : Int).toNat a0.size)[0]'h).toNat : Int) = bt (a0.extract ((ji17) : Int).toNat a0.size) 0 := bt_at (a0.extract ((ji17) : Int).toNat a0.size) 0
                    clear p23
                    have qi23 : (0 < ((a0.extract ((ji17) : Int).toNat a0.size).size : Int)) = True := eq_true (of_decide_eq_true (by first | (with_reducible assumption) | assumption))
                    replace q23 := eq_true q23
                    go_wp2
                    go_meet
                    case rel => exact ⟨_, (false), (by first | rfl | (simp; done) | (simp [*]; done)), H', ⟨by have := HJ2.out; first | omega | exact Nat.le_refl _⟩, ⟨by (with_reducible repeat (first | refine blk_drewN ?_ _ | refine blk_drew ?_ | refine blk_alloc ?_ _)); exact BK146.out⟩, ⟨by (with_reducible repeat (first | refine blk_drewN ?_ _ | refine blk_drew ?_ | refine blk_alloc ?_ _)); exact BK147.out⟩, ⟨by repeat (first | (with_reducible first | exact HB.out | apply below_alloc | apply pw_below_drewN | apply below_drew1 | refine below_set ?_ GE146.out | refine below_set ?_ GE147.out) | exact HB.out)⟩⟩
                · rw [if_neg c22] at H
                  exact absurd H (by simp)
              · rw [if_neg c21] at H
                have c21b0 : decide (1 < ((a0.extract ((ji17) : Int).toNat a0.size).size : Int)) = false := decide_eq_false c21
                have c21b1 : decide (1 < (a0.extract ((ji17) : Int).toNat a0.size).size) = false := decide_eq_false (by omega)
                clear c21
                (first | rw [c21b0] | (simp only [i64_w, i32_w]; rw [c21b0]) | skip)
                have H' := Aside0.mk H
                clear H
                go_wp2
                go_meet
                case rel => exact ⟨_, (false), (by first | rfl | (simp; done) | (simp [*]; done)), H', ⟨by have := HJ2.out; first | omega | exact Nat.le_refl _⟩, ⟨by (with_reducible repeat (first | refine blk_drewN ?_ _ | refine blk_drew ?_ | refine blk_alloc ?_ _)); exact BK146.out⟩, ⟨by (with_reducible repeat (first | refine blk_drewN ?_ _ | refine blk_drew ?_ | refine blk_alloc ?_ _)); exact BK147.out⟩, ⟨by repeat (first | (with_reducible first | exact HB.out | apply below_alloc | apply pw_below_drewN | apply below_drew1 | refine below_set ?_ GE146.out | refine below_set ?_ GE147.out) | exact HB.out)⟩⟩
            case rest =>
              clear HC20
              try clear c1
              try clear p1
              try clear q1
              try clear hx1
              try clear c2
              try clear p2
              try clear q2
              try clear hx2
              try clear qi2
              try clear c4
              try clear c6
              try clear p6
              try clear c8
              try clear c8b0
              try clear c9
              try clear c9b0
              try clear p10
              try clear q10
              try clear hx10
              try clear c11
              try clear c11b0
              try clear c11b1
              try clear c12
              try clear c12b0
              try clear c14
              try clear c14b0
              try clear p15
              try clear q15
              try clear hx15
              try clear c16
              try clear c18
              try clear c18b0
              try clear c18b1
              try clear c19
              try clear c19b0
              try clear c19b1
              try clear c21
              try clear c21b0
              try clear c21b1
              try clear c22
              try clear c22b0
              try clear c22b1
              try clear p23
              try clear q23
              try clear hx23
              try clear qi23
              try clear c24
              try clear c24b0
              try clear c24b1
              try clear c25
              try clear c25b0
              try clear c25b1
              try clear p26
              try clear q26
              try clear hx26
              try clear qi26
              try clear hcz7_0
              try clear hcz7_1
              try clear hcz7_2
              try clear hcz7_3
              try clear hfz7_0
              try clear hfz7_1
              try clear hfz7_2
              try clear hfz7_3
              try clear p1
              try clear p10
              try clear p15
              try clear p2
              try clear p23
              try clear p26
              try clear p6
              try clear q1
              try clear q10
              try clear q15
              try clear q23
              try clear q26
              obtain ⟨kq, x50_19, rfl, HA, HJ19, BK146, BK147, HB⟩ := hcut
              cases kq with
              | zero => exact absurd HA.out (by simp [spinneyref05_number.j1])
              | succ kj19 =>
                have H := HA.out
                clear HA
                simp only [spinneyref05_number.j1] at H
                by_cases c27 : x50_19 = true
                · subst c27
                  have H1 : (some (5, (⟨#[]⟩ : ByteArray), 39, a1, wrap64 (a1 + 4), true)) = some (r1, r2, r3, r4, r5, r6) := by rw [if_pos rfl] at H; exact H
                  clear H
                  have H := H1
                  clear H1
                  simp only [Option.some.injEq, Prod.mk.injEq] at H
                  obtain ⟨rfl, rfl, rfl, rfl, rfl, rfl⟩ := H
                  have hnb28 := NB147_146.out
                  have hnc28 := NB146_147.out
                  have hcz29_0 : wc.cell? ⟨gb147, 0, none⟩ = some (.int .i64 5) := (blk_cell BK147.out 0).trans rfl
                  have hcz29_1 : wc.cell? ⟨gb147, 1, none⟩ = some (.string (⟨#[]⟩ : ByteArray)) := (blk_cell BK147.out 1).trans rfl
                  have hcz29_2 : wc.cell? ⟨gb147, 2, none⟩ = some (.int .i64 0) := (blk_cell BK147.out 2).trans rfl
                  have hcz29_3 : wc.cell? ⟨gb147, 3, none⟩ = some (.int .i64 a1) := (blk_cell BK147.out 3).trans rfl
                  have hfz29_0 := blk_frozen BK147.out 0
                  have hfz29_1 := blk_frozen BK147.out 1
                  have hfz29_2 := blk_frozen BK147.out 2
                  have hfz29_3 := blk_frozen BK147.out 3
                  have hcz30_0 : wc.cell? ⟨gb146, 0, none⟩ = some (.int .i64 0) := (blk_cell BK146.out 0).trans rfl
                  have hcz30_1 : wc.cell? ⟨gb146, 1, none⟩ = some (.string (⟨#[]⟩ : ByteArray)) := (blk_cell BK146.out 1).trans rfl
                  have hcz30_2 : wc.cell? ⟨gb146, 2, none⟩ = some (.int .i64 0) := (blk_cell BK146.out 2).trans rfl
                  have hcz30_3 : wc.cell? ⟨gb146, 3, none⟩ = some (.int .i64 0) := (blk_cell BK146.out 3).trans rfl
                  have hfz30_0 := blk_frozen BK146.out 0
                  have hfz30_1 := blk_frozen BK146.out 1
                  have hfz30_2 := blk_frozen BK146.out 2
                  have hfz30_3 := blk_frozen BK146.out 3
                  go_wp2
                  refine bodyPost_ret (results_ctt rfl _ _ gb146 30 #[.int .i64 5, .string (⟨#[]⟩ : ByteArray), .int .i64 39, .int .i64 a1] (0, 0) _ rfl (by (with_reducible repeat (first | refine blk_drewN ?_ _ | refine blk_drew ?_ | refine blk_alloc ?_ _)); refine blk_put (cs := #[.int .i64 5, .string (⟨#[]⟩ : ByteArray), .int .i64 39, .int .i64 0]) ?_ 3 _ rfl; (with_reducible repeat (first | refine blk_drewN ?_ _ | refine blk_drew ?_ | refine blk_alloc ?_ _)); refine blk_put (cs := #[.int .i64 5, .string (⟨#[]⟩ : ByteArray), .int .i64 0, .int .i64 0]) ?_ 2 _ rfl; (with_reducible repeat (first | refine blk_drewN ?_ _ | refine blk_drew ?_ | refine blk_alloc ?_ _)); refine blk_put (cs := #[.int .i64 5, .string (⟨#[]⟩ : ByteArray), .int .i64 0, .int .i64 0]) ?_ 1 _ rfl; (with_reducible repeat (first | refine blk_drewN ?_ _ | refine blk_drew ?_ | refine blk_alloc ?_ _)); refine blk_put (cs := #[.int .i64 0, .string (⟨#[]⟩ : ByteArray), .int .i64 0, .int .i64 0]) ?_ 0 _ rfl; (with_reducible repeat (first | refine blk_drewN ?_ _ | refine blk_drew ?_ | refine blk_alloc ?_ _)); refine blk_far ?_ NB146_147.out _; (with_reducible repeat (first | refine blk_drewN ?_ _ | refine blk_drew ?_ | refine blk_alloc ?_ _)); exact BK146.out) Tryd.underlying30 rfl (by kernel_rfl)) rfl ?_
                  exact ⟨by first | rfl | (simp [errW_none, errW_some] <;> rfl) | (simp only [← hji17]; first | rfl | (simp [errW_none, errW_some] <;> rfl)) | (simp [*, errW_none, errW_some] <;> rfl), by repeat (first | (with_reducible first | exact HB.out | apply below_alloc | apply pw_below_drewN | apply below_drew1 | refine below_set ?_ GE146.out | refine below_set ?_ GE147.out) | exact HB.out)⟩
                · replace c27 := Bool.eq_false_iff.mpr c27
                  subst c27
                  have H1 : ((utf8_DecodeRuneInString.f (a0.extract ((ji17) : Int).toNat a0.size)).bind fun bt148 => (if bt148.2 > 0 then (if bt148.1 = 65533 then (if bt148.2 = 1 then (spinneyref05_number.j2 kj19 a0 a1 bt148.1 bt148.2 false 5 (⟨#[]⟩ : ByteArray) 0 a1) else (if bt148.1 ≥ 32 then (if bt148.1 = 39 then (spinneyref05_number.j2 kj19 a0 a1 bt148.1 bt148.2 false 5 (⟨#[]⟩ : ByteArray) 0 a1) else (spinneyref05_number.j2 kj19 a0 a1 bt148.1 bt148.2 (bt148.1 != 92) 5 (⟨#[]⟩ : ByteArray) 0 a1)) else (spinneyref05_number.j2 kj19 a0 a1 bt148.1 bt148.2 false 5 (⟨#[]⟩ : ByteArray) 0 a1))) else (if bt148.1 ≥ 32 then (if bt148.1 = 39 then (spinneyref05_number.j2 kj19 a0 a1 bt148.1 bt148.2 false 5 (⟨#[]⟩ : ByteArray) 0 a1) else (spinneyref05_number.j2 kj19 a0 a1 bt148.1 bt148.2 (bt148.1 != 92) 5 (⟨#[]⟩ : ByteArray) 0 a1)) else (spinneyref05_number.j2 kj19 a0 a1 bt148.1 bt148.2 false 5 (⟨#[]⟩ : ByteArray) 0 a1))) else (spinneyref05_number.j2 kj19 a0 a1 bt148.1 bt148.2 false 5 (⟨#[]⟩ : ByteArray) 0 a1))) = some (r1, r2, r3, r4, r5, r6) := by rw [if_neg (show ¬ (false = true) by decide)] at H; exact H
                  clear H
                  have H := H1
                  clear H1
                  replace H := Option.bind_eq_some_iff.mp H
                  obtain ⟨⟨t148, t149⟩, A310, H⟩ := H
                  replace H : (if t149 > 0 then (if t148 = 65533 then (if t149 = 1 then (spinneyref05_number.j2 kj19 a0 a1 t148 t149 false 5 (⟨#[]⟩ : ByteArray) 0 a1) else (if t148 ≥ 32 then (if t148 = 39 then (spinneyref05_number.j2 kj19 a0 a1 t148 t149 false 5 (⟨#[]⟩ : ByteArray) 0 a1) else (spinneyref05_number.j2 kj19 a0 a1 t148 t149 (t148 != 92) 5 (⟨#[]⟩ : ByteArray) 0 a1)) else (spinneyref05_number.j2 kj19 a0 a1 t148 t149 false 5 (⟨#[]⟩ : ByteArray) 0 a1))) else (if t148 ≥ 32 then (if t148 = 39 then (spinneyref05_number.j2 kj19 a0 a1 t148 t149 false 5 (⟨#[]⟩ : ByteArray) 0 a1) else (spinneyref05_number.j2 kj19 a0 a1 t148 t149 (t148 != 92) 5 (⟨#[]⟩ : ByteArray) 0 a1)) else (spinneyref05_number.j2 kj19 a0 a1 t148 t149 false 5 (⟨#[]⟩ : ByteArray) 0 a1))) else (spinneyref05_number.j2 kj19 a0 a1 t148 t149 false 5 (⟨#[]⟩ : ByteArray) 0 a1)) = some (r1, r2, r3, r4, r5, r6) := H
                  have A31 := Aside0.mk A310
                  clear A310
                  have HC32 := Aside0.mk H
                  clear H
                  go_upto_region 8 with (first | ((with_reducible refine gate_callee (f := 31) rfl ?_); refine goesL_ (some 57) rfl rfl Tryd.func31 (by kernel_rfl) rfl #[.string (a0.extract ((ji17) : Int).toNat a0.size)] rfl (by (try simp only [List.map_toArray, List.map_cons, List.map_nil]); first | done | (simp only [hji17]; rfl) | rfl | (simp only [List.length_drop, List.length_take]; rfl)) ?_; (with_reducible refine (utf8_DecodeRuneInString.calls (a0.extract ((ji17) : Int).toNat a0.size) t148 t149 _ A31.out (HT.out.below (by first | exact Below.refl _ _ | (repeat (first | (with_reducible first | exact HB.out | apply below_alloc | apply pw_below_drewN | apply below_drew1 | refine below_set ?_ GE146.out | refine below_set ?_ GE147.out) | exact HB.out))))).mono ?_); rintro e w33 ⟨rfl, hb⟩; refine ⟨_, rfl, ?_⟩; have n0_ := Aside0.mk (blk_below (g := gb146) (o := .cells #[.int .i64 0, .string (⟨#[]⟩ : ByteArray), .int .i64 0, .int .i64 0] 30 (0, 0)) (by (with_reducible repeat (first | refine blk_drewN ?_ _ | refine blk_drew ?_ | refine blk_alloc ?_ _)); exact BK146.out) hb); have n1_ := Aside0.mk (blk_below (g := gb147) (o := .cells #[.int .i64 5, .string (⟨#[]⟩ : ByteArray), .int .i64 0, .int .i64 a1] 30 (0, 0)) (by (with_reducible repeat (first | refine blk_drewN ?_ _ | refine blk_drew ?_ | refine blk_alloc ?_ _)); exact BK147.out) hb); have n2_ := Aside0.mk (below_step (by repeat (first | (with_reducible first | exact HB.out | apply below_alloc | apply pw_below_drewN | apply below_drew1 | refine below_set ?_ GE146.out | refine below_set ?_ GE147.out) | exact HB.out)) hb); clear BK146; clear BK147; clear HB; have BK146 := n0_; have BK147 := n1_; have HB := n2_; clear n0_ n1_ n2_; (try clear hb); (try clear hb2); (try clear hk); (try clear hi)))
                  (try simp only [Act.put, List.setIfInBounds_toArray, List.set_cons_zero, List.set_cons_succ])
                  go_cut [82] (fun v82 wc => ∃ (kq : Nat) (x82_31 : Bool), v82 = .bool x82_31 ∧ Aside0 (spinneyref05_number.j2 kq a0 a1 t148 t149 x82_31 5 (⟨#[]⟩ : ByteArray) 0 a1 = some (r1, r2, r3, r4, r5, r6)) ∧ Aside0 (kq ≤ kj19) ∧ Aside0 (wc.heap[gb146]? = some (.cells #[.int .i64 0, .string (⟨#[]⟩ : ByteArray), .int .i64 0, .int .i64 0] 30 (0, 0))) ∧ Aside0 (wc.heap[gb147]? = some (.cells #[.int .i64 5, .string (⟨#[]⟩ : ByteArray), .int .i64 0, .int .i64 a1] 30 (0, 0))) ∧ Aside0 (Below w.heap.size w wc))
                  case first =>
                    have H := HC32.out
                    clear HC32
                    by_cases c34 : t149 > 0
                    · rw [if_pos c34] at H
                      have c34b0 : decide (0 < t149) = true := decide_eq_true c34
                      clear c34
                      (first | rw [c34b0] | (simp only [i64_w, i32_w]; rw [c34b0]) | skip)
                      by_cases c35 : t148 = 65533
                      · rw [if_pos c35] at H
                        have c35b0 : (t148 == 65533) = true := beq_iff_eq.mpr c35
                        have c35b1 : (t148 != 65533) = false := bne_eq_false_iff_eq.mpr c35
                        clear c35
                        by_cases c36 : t149 = 1
                        · rw [if_pos c36] at H
                          have c36b0 : (t149 == 1) = true := beq_iff_eq.mpr c36
                          have c36b1 : (t149 != 1) = false := bne_eq_false_iff_eq.mpr c36
                          clear c36
                          have H' := Aside0.mk H
                          clear H
                          go_wp2
                          go_meet
                          case rel => exact ⟨_, (false), (by first | rfl | (simp; done) | (simp [*]; done)), H', ⟨by have := HJ2.out; have := HJ19.out; first | omega | exact Nat.le_refl _⟩, ⟨by (with_reducible repeat (first | refine blk_drewN ?_ _ | refine blk_drew ?_ | refine blk_alloc ?_ _)); exact BK146.out⟩, ⟨by (with_reducible repeat (first | refine blk_drewN ?_ _ | refine blk_drew ?_ | refine blk_alloc ?_ _)); exact BK147.out⟩, ⟨by repeat (first | (with_reducible first | exact HB.out | apply below_alloc | apply pw_below_drewN | apply below_drew1 | refine below_set ?_ GE146.out | refine below_set ?_ GE147.out) | exact HB.out)⟩⟩
                        · rw [if_neg c36] at H
                          have c36b0 : (t149 == 1) = false := beq_eq_false_iff_ne.mpr c36
                          have c36b1 : (t149 != 1) = true := bne_iff_ne.mpr c36
                          by_cases c37 : t148 ≥ 32
                          · rw [if_pos c37] at H
                            have c37b0 : decide (32 ≤ t148) = true := decide_eq_true c37
                            clear c37
                            by_cases c38 : t148 = 39
                            · rw [if_pos c38] at H
                              have c38b0 : (t148 == 39) = true := beq_iff_eq.mpr c38
                              have c38b1 : (t148 != 39) = false := bne_eq_false_iff_eq.mpr c38
                              clear c38
                              have H' := Aside0.mk H
                              clear H
                              go_wp2
                              go_meet
                              case rel => exact ⟨_, (false), (by first | rfl | (simp; done) | (simp [*]; done)), H', ⟨by have := HJ2.out; have := HJ19.out; first | omega | exact Nat.le_refl _⟩, ⟨by (with_reducible repeat (first | refine blk_drewN ?_ _ | refine blk_drew ?_ | refine blk_alloc ?_ _)); exact BK146.out⟩, ⟨by (with_reducible repeat (first | refine blk_drewN ?_ _ | refine blk_drew ?_ | refine blk_alloc ?_ _)); exact BK147.out⟩, ⟨by repeat (first | (with_reducible first | exact HB.out | apply below_alloc | apply pw_below_drewN | apply below_drew1 | refine below_set ?_ GE146.out | refine below_set ?_ GE147.out) | exact HB.out)⟩⟩
                            · rw [if_neg c38] at H
                              have c38b0 : (t148 == 39) = false := beq_eq_false_iff_ne.mpr c38
                              have c38b1 : (t148 != 39) = true := bne_iff_ne.mpr c38
                              have H' := Aside0.mk H
                              clear H
                              go_wp2
                              go_meet
                              case rel => exact ⟨_, ((t148 != 92)), (by first | rfl | (simp; done) | (simp [*]; done)), H', ⟨by have := HJ2.out; have := HJ19.out; first | omega | exact Nat.le_refl _⟩, ⟨by (with_reducible repeat (first | refine blk_drewN ?_ _ | refine blk_drew ?_ | refine blk_alloc ?_ _)); exact BK146.out⟩, ⟨by (with_reducible repeat (first | refine blk_drewN ?_ _ | refine blk_drew ?_ | refine blk_alloc ?_ _)); exact BK147.out⟩, ⟨by repeat (first | (with_reducible first | exact HB.out | apply below_alloc | apply pw_below_drewN | apply below_drew1 | refine below_set ?_ GE146.out | refine below_set ?_ GE147.out) | exact HB.out)⟩⟩
                          · rw [if_neg c37] at H
                            have c37b0 : decide (32 ≤ t148) = false := decide_eq_false c37
                            clear c37
                            have H' := Aside0.mk H
                            clear H
                            go_wp2
                            go_meet
                            case rel => exact ⟨_, (false), (by first | rfl | (simp; done) | (simp [*]; done)), H', ⟨by have := HJ2.out; have := HJ19.out; first | omega | exact Nat.le_refl _⟩, ⟨by (with_reducible repeat (first | refine blk_drewN ?_ _ | refine blk_drew ?_ | refine blk_alloc ?_ _)); exact BK146.out⟩, ⟨by (with_reducible repeat (first | refine blk_drewN ?_ _ | refine blk_drew ?_ | refine blk_alloc ?_ _)); exact BK147.out⟩, ⟨by repeat (first | (with_reducible first | exact HB.out | apply below_alloc | apply pw_below_drewN | apply below_drew1 | refine below_set ?_ GE146.out | refine below_set ?_ GE147.out) | exact HB.out)⟩⟩
                      · rw [if_neg c35] at H
                        have c35b0 : (t148 == 65533) = false := beq_eq_false_iff_ne.mpr c35
                        have c35b1 : (t148 != 65533) = true := bne_iff_ne.mpr c35
                        by_cases c39 : t148 ≥ 32
                        · rw [if_pos c39] at H
                          have c39b0 : decide (32 ≤ t148) = true := decide_eq_true c39
                          clear c39
                          by_cases c40 : t148 = 39
                          · rw [if_pos c40] at H
                            have c40b0 : (t148 == 39) = true := beq_iff_eq.mpr c40
                            have c40b1 : (t148 != 39) = false := bne_eq_false_iff_eq.mpr c40
                            clear c40
                            have H' := Aside0.mk H
                            clear H
                            go_wp2
                            go_meet
                            case rel => exact ⟨_, (false), (by first | rfl | (simp; done) | (simp [*]; done)), H', ⟨by have := HJ2.out; have := HJ19.out; first | omega | exact Nat.le_refl _⟩, ⟨by (with_reducible repeat (first | refine blk_drewN ?_ _ | refine blk_drew ?_ | refine blk_alloc ?_ _)); exact BK146.out⟩, ⟨by (with_reducible repeat (first | refine blk_drewN ?_ _ | refine blk_drew ?_ | refine blk_alloc ?_ _)); exact BK147.out⟩, ⟨by repeat (first | (with_reducible first | exact HB.out | apply below_alloc | apply pw_below_drewN | apply below_drew1 | refine below_set ?_ GE146.out | refine below_set ?_ GE147.out) | exact HB.out)⟩⟩
                          · rw [if_neg c40] at H
                            have c40b0 : (t148 == 39) = false := beq_eq_false_iff_ne.mpr c40
                            have c40b1 : (t148 != 39) = true := bne_iff_ne.mpr c40
                            have H' := Aside0.mk H
                            clear H
                            go_wp2
                            go_meet
                            case rel => exact ⟨_, ((t148 != 92)), (by first | rfl | (simp; done) | (simp [*]; done)), H', ⟨by have := HJ2.out; have := HJ19.out; first | omega | exact Nat.le_refl _⟩, ⟨by (with_reducible repeat (first | refine blk_drewN ?_ _ | refine blk_drew ?_ | refine blk_alloc ?_ _)); exact BK146.out⟩, ⟨by (with_reducible repeat (first | refine blk_drewN ?_ _ | refine blk_drew ?_ | refine blk_alloc ?_ _)); exact BK147.out⟩, ⟨by repeat (first | (with_reducible first | exact HB.out | apply below_alloc | apply pw_below_drewN | apply below_drew1 | refine below_set ?_ GE146.out | refine below_set ?_ GE147.out) | exact HB.out)⟩⟩
                        · rw [if_neg c39] at H
                          have c39b0 : decide (32 ≤ t148) = false := decide_eq_false c39
                          clear c39
                          have H' := Aside0.mk H
                          clear H
                          go_wp2
                          go_meet
                          case rel => exact ⟨_, (false), (by first | rfl | (simp; done) | (simp [*]; done)), H', ⟨by have := HJ2.out; have := HJ19.out; first | omega | exact Nat.le_refl _⟩, ⟨by (with_reducible repeat (first | refine blk_drewN ?_ _ | refine blk_drew ?_ | refine blk_alloc ?_ _)); exact BK146.out⟩, ⟨by (with_reducible repeat (first | refine blk_drewN ?_ _ | refine blk_drew ?_ | refine blk_alloc ?_ _)); exact BK147.out⟩, ⟨by repeat (first | (with_reducible first | exact HB.out | apply below_alloc | apply pw_below_drewN | apply below_drew1 | refine below_set ?_ GE146.out | refine below_set ?_ GE147.out) | exact HB.out)⟩⟩
                    · rw [if_neg c34] at H
                      have c34b0 : decide (0 < t149) = false := decide_eq_false c34
                      clear c34
                      (first | rw [c34b0] | (simp only [i64_w, i32_w]; rw [c34b0]) | skip)
                      have H' := Aside0.mk H
                      clear H
                      go_wp2
                      go_meet
                      case rel => exact ⟨_, (false), (by first | rfl | (simp; done) | (simp [*]; done)), H', ⟨by have := HJ2.out; have := HJ19.out; first | omega | exact Nat.le_refl _⟩, ⟨by (with_reducible repeat (first | refine blk_drewN ?_ _ | refine blk_drew ?_ | refine blk_alloc ?_ _)); exact BK146.out⟩, ⟨by (with_reducible repeat (first | refine blk_drewN ?_ _ | refine blk_drew ?_ | refine blk_alloc ?_ _)); exact BK147.out⟩, ⟨by repeat (first | (with_reducible first | exact HB.out | apply below_alloc | apply pw_below_drewN | apply below_drew1 | refine below_set ?_ GE146.out | refine below_set ?_ GE147.out) | exact HB.out)⟩⟩
                  case rest =>
                    clear HC32
                    try clear c1
                    try clear p1
                    try clear q1
                    try clear hx1
                    try clear c2
                    try clear p2
                    try clear q2
                    try clear hx2
                    try clear qi2
                    try clear c3
                    try clear c4
                    try clear c6
                    try clear p6
                    try clear c8
                    try clear c8b0
                    try clear c9
                    try clear c9b0
                    try clear p10
                    try clear q10
                    try clear hx10
                    try clear c11
                    try clear c11b0
                    try clear c11b1
                    try clear c12
                    try clear c12b0
                    try clear c14
                    try clear c14b0
                    try clear p15
                    try clear q15
                    try clear hx15
                    try clear c16
                    try clear c18
                    try clear c18b0
                    try clear c18b1
                    try clear c19
                    try clear c19b0
                    try clear c19b1
                    try clear c21
                    try clear c21b0
                    try clear c21b1
                    try clear c22
                    try clear c22b0
                    try clear c22b1
                    try clear p23
                    try clear q23
                    try clear hx23
                    try clear qi23
                    try clear c24
                    try clear c24b0
                    try clear c24b1
                    try clear c25
                    try clear c25b0
                    try clear c25b1
                    try clear p26
                    try clear q26
                    try clear hx26
                    try clear qi26
                    try clear c27
                    try clear c28
                    try clear c31
                    try clear c34
                    try clear c34b0
                    try clear c35
                    try clear c35b0
                    try clear c35b1
                    try clear c36
                    try clear c36b0
                    try clear c36b1
                    try clear c37
                    try clear c37b0
                    try clear c38
                    try clear c38b0
                    try clear c38b1
                    try clear c39
                    try clear c39b0
                    try clear c40
                    try clear c40b0
                    try clear c40b1
                    try clear hcz29_0
                    try clear hcz29_1
                    try clear hcz29_2
                    try clear hcz29_3
                    try clear hcz30_0
                    try clear hcz30_1
                    try clear hcz30_2
                    try clear hcz30_3
                    try clear hcz7_0
                    try clear hcz7_1
                    try clear hcz7_2
                    try clear hcz7_3
                    try clear hfz29_0
                    try clear hfz29_1
                    try clear hfz29_2
                    try clear hfz29_3
                    try clear hfz30_0
                    try clear hfz30_1
                    try clear hfz30_2
                    try clear hfz30_3
                    try clear hfz7_0
                    try clear hfz7_1
                    try clear hfz7_2
                    try clear hfz7_3
                    try clear p1
                    try clear p10
                    try clear p15
                    try clear p2
                    try clear p23
                    try clear p26
                    try clear p6
                    try clear q1
                    try clear q10
                    try clear q15
                    try clear q2
                    try clear q23
                    try clear q26
                    obtain ⟨kq, x82_31, rfl, HA, HJ31, BK146, BK147, HB⟩ := hcut
                    cases kq with
                    | zero => exact absurd HA.out (by simp [spinneyref05_number.j2])
                    | succ kj31 =>
                      have H := HA.out
                      clear HA
                      simp only [spinneyref05_number.j2] at H
                      by_cases c41 : x82_31 = true
                      · subst c41
                        have H1 : (some (5, (⟨#[]⟩ : ByteArray), wrap64 (t148), a1, wrap64 ((wrap64 (a1 + 2)) + t149), true)) = some (r1, r2, r3, r4, r5, r6) := by rw [if_pos rfl] at H; exact H
                        clear H
                        have H := H1
                        clear H1
                        simp only [Option.some.injEq, Prod.mk.injEq] at H
                        obtain ⟨rfl, rfl, rfl, rfl, rfl, rfl⟩ := H
                        have hnb42 := NB147_146.out
                        have hnc42 := NB146_147.out
                        have hcz43_0 : wc.cell? ⟨gb147, 0, none⟩ = some (.int .i64 5) := (blk_cell BK147.out 0).trans rfl
                        have hcz43_1 : wc.cell? ⟨gb147, 1, none⟩ = some (.string (⟨#[]⟩ : ByteArray)) := (blk_cell BK147.out 1).trans rfl
                        have hcz43_2 : wc.cell? ⟨gb147, 2, none⟩ = some (.int .i64 0) := (blk_cell BK147.out 2).trans rfl
                        have hcz43_3 : wc.cell? ⟨gb147, 3, none⟩ = some (.int .i64 a1) := (blk_cell BK147.out 3).trans rfl
                        have hfz43_0 := blk_frozen BK147.out 0
                        have hfz43_1 := blk_frozen BK147.out 1
                        have hfz43_2 := blk_frozen BK147.out 2
                        have hfz43_3 := blk_frozen BK147.out 3
                        have hcz44_0 : wc.cell? ⟨gb146, 0, none⟩ = some (.int .i64 0) := (blk_cell BK146.out 0).trans rfl
                        have hcz44_1 : wc.cell? ⟨gb146, 1, none⟩ = some (.string (⟨#[]⟩ : ByteArray)) := (blk_cell BK146.out 1).trans rfl
                        have hcz44_2 : wc.cell? ⟨gb146, 2, none⟩ = some (.int .i64 0) := (blk_cell BK146.out 2).trans rfl
                        have hcz44_3 : wc.cell? ⟨gb146, 3, none⟩ = some (.int .i64 0) := (blk_cell BK146.out 3).trans rfl
                        have hfz44_0 := blk_frozen BK146.out 0
                        have hfz44_1 := blk_frozen BK146.out 1
                        have hfz44_2 := blk_frozen BK146.out 2
                        have hfz44_3 := blk_frozen BK146.out 3
                        go_wp2
                        refine bodyPost_ret (results_ctt rfl _ _ gb146 30 #[.int .i64 5, .string (⟨#[]⟩ : ByteArray), .int .i64 (wrap64 (t148)), .int .i64 a1] (0, 0) _ rfl (by (with_reducible repeat (first | refine blk_drewN ?_ _ | refine blk_drew ?_ | refine blk_alloc ?_ _)); refine blk_put (cs := #[.int .i64 5, .string (⟨#[]⟩ : ByteArray), .int .i64 (wrap64 (t148)), .int .i64 0]) ?_ 3 _ rfl; (with_reducible repeat (first | refine blk_drewN ?_ _ | refine blk_drew ?_ | refine blk_alloc ?_ _)); refine blk_put (cs := #[.int .i64 5, .string (⟨#[]⟩ : ByteArray), .int .i64 0, .int .i64 0]) ?_ 2 _ rfl; (with_reducible repeat (first | refine blk_drewN ?_ _ | refine blk_drew ?_ | refine blk_alloc ?_ _)); refine blk_put (cs := #[.int .i64 5, .string (⟨#[]⟩ : ByteArray), .int .i64 0, .int .i64 0]) ?_ 1 _ rfl; (with_reducible repeat (first | refine blk_drewN ?_ _ | refine blk_drew ?_ | refine blk_alloc ?_ _)); refine blk_put (cs := #[.int .i64 0, .string (⟨#[]⟩ : ByteArray), .int .i64 0, .int .i64 0]) ?_ 0 _ rfl; (with_reducible repeat (first | refine blk_drewN ?_ _ | refine blk_drew ?_ | refine blk_alloc ?_ _)); refine blk_far ?_ NB146_147.out _; (with_reducible repeat (first | refine blk_drewN ?_ _ | refine blk_drew ?_ | refine blk_alloc ?_ _)); exact BK146.out) Tryd.underlying30 rfl (by kernel_rfl)) rfl ?_
                        exact ⟨by first | rfl | (simp [errW_none, errW_some] <;> rfl) | (simp only [← hji17]; first | rfl | (simp [errW_none, errW_some] <;> rfl)) | (simp [*, errW_none, errW_some] <;> rfl), by repeat (first | (with_reducible first | exact HB.out | apply below_alloc | apply pw_below_drewN | apply below_drew1 | refine below_set ?_ GE146.out | refine below_set ?_ GE147.out) | exact HB.out)⟩
                      · replace c41 := Bool.eq_false_iff.mpr c41
                        subst c41
                        have H1 : ((spinneyref05_run.f kj31 a0 a1 (([3] : List Int))).bind fun t153 => (if 0 ≤ a1 then (if a1 ≤ t153 then (if t153 ≤ (a0.size : Int) then (if 1 + (a0.extract (a1 : Int).toNat (t153 : Int).toNat).size ≤ 9223372036854775807 then ((spinneyref01_Read.f kj31 ((⟨#[45]⟩ : ByteArray) ++ (a0.extract (a1 : Int).toNat (t153 : Int).toNat))).bind fun bt154 => (some (5, (⟨#[]⟩ : ByteArray), wrap64 (-bt154.1), a1, t153, (bt154.2 == 0)))) else (none)) else (none)) else (none)) else (none))) = some (r1, r2, r3, r4, r5, r6) := by rw [if_neg (show ¬ (false = true) by decide)] at H; exact H
                        clear H
                        have H := H1
                        clear H1
                        obtain ⟨y150, hy150⟩ : ∃ y_ : List Int, y_ = (([3] : List Int)) := ⟨_, rfl⟩
                        replace H : ((spinneyref05_run.f kj31 a0 a1 y150).bind fun t153 => (if 0 ≤ a1 then (if a1 ≤ t153 then (if t153 ≤ (a0.size : Int) then (if 1 + (a0.extract (a1 : Int).toNat (t153 : Int).toNat).size ≤ 9223372036854775807 then ((spinneyref01_Read.f kj31 ((⟨#[45]⟩ : ByteArray) ++ (a0.extract (a1 : Int).toNat (t153 : Int).toNat))).bind fun bt154 => (some (5, (⟨#[]⟩ : ByteArray), wrap64 (-bt154.1), a1, t153, (bt154.2 == 0)))) else (none)) else (none)) else (none)) else (none))) = some (r1, r2, r3, r4, r5, r6) := by first | (rw [hy150]; with_reducible exact H) | (have H2_ := (Option.bind_some _ _).symm.trans H; rw [hy150]; with_reducible exact H2_) | (have H2_ := (Option.bind_some _ _).symm.trans H; with_reducible exact H2_) | with_reducible exact H | (rw [hy150]; exact H) | exact H
                        have Ny150 := Aside0.mk hy150
                        clear hy150
                        replace H := Option.bind_eq_some_iff.mp H
                        obtain ⟨t153, A450, H⟩ := H
                        replace H : (if 0 ≤ a1 then (if a1 ≤ t153 then (if t153 ≤ (a0.size : Int) then (if 1 + (a0.extract (a1 : Int).toNat (t153 : Int).toNat).size ≤ 9223372036854775807 then ((spinneyref01_Read.f kj31 ((⟨#[45]⟩ : ByteArray) ++ (a0.extract (a1 : Int).toNat (t153 : Int).toNat))).bind fun bt154 => (some (5, (⟨#[]⟩ : ByteArray), wrap64 (-bt154.1), a1, t153, (bt154.2 == 0)))) else (none)) else (none)) else (none)) else (none)) = some (r1, r2, r3, r4, r5, r6) := H
                        have A45 := Aside0.mk A450
                        clear A450
                        by_cases c46 : 0 ≤ a1
                        · rw [if_pos c46] at H
                          have c46b0 := eq_true c46
                          have c46b1 : decide (0 ≤ a1) = true := decide_eq_true c46
                          clear c46
                          by_cases c47 : a1 ≤ t153
                          · rw [if_pos c47] at H
                            have c47b0 := eq_true c47
                            have c47b1 : decide (a1 ≤ t153) = true := decide_eq_true c47
                            clear c47
                            by_cases c48 : t153 ≤ (a0.size : Int)
                            · rw [if_pos c48] at H
                              have c48b0 := eq_true c48
                              have c48b1 : decide (t153 ≤ (a0.size : Int)) = true := decide_eq_true c48
                              clear c48
                              by_cases c49 : 1 + (a0.extract (a1 : Int).toNat (t153 : Int).toNat).size ≤ 9223372036854775807
                              · rw [if_pos c49] at H
                                have c49b0 := eq_true c49
                                have c49b1 : decide (1 + (a0.extract (a1 : Int).toNat (t153 : Int).toNat).size ≤ 9223372036854775807) = true := decide_eq_true c49
                                try have c49b2 : (9223372036854775807 < 1 + (a0.extract (a1 : Int).toNat (t153 : Int).toNat).size) = False := eq_false (Nat.not_lt.2 c49)
                                replace H := Option.bind_eq_some_iff.mp H
                                obtain ⟨⟨t154, t155⟩, A500, H⟩ := H
                                replace H : (some (5, (⟨#[]⟩ : ByteArray), wrap64 (-t154), a1, t153, (t155 == 0))) = some (r1, r2, r3, r4, r5, r6) := H
                                have A50 := Aside0.mk A500
                                clear A500
                                simp only [Option.some.injEq, Prod.mk.injEq] at H
                                obtain ⟨rfl, rfl, rfl, rfl, rfl, rfl⟩ := H
                                go_wp2_with (first | ((with_reducible refine gate_dst (N := 93) rfl ?_); (try (refine gate_guard (by rfl) ?_; dsimp only)); refine Kd.R_lit (Kd.int .i64) _ 3 ?hg (N := 93) ?hd (xs := ([3] : List Int)) (inner := [.int .i64 3]) (ok := fun _ => True) (okp := fun _ => True) ?hr ?hp (fun _ hk => hk) trivial (Below.refl _ _) (Nat.le_refl _) (by simp) ?_; (case hd => rfl); (case hg => rfl); (case hr => first | (go_simp; done) | (go_simp; rfl)); (case hp => exact (Reps.one (show Kd.M (Kd.int .i64) _ _ _ 3 [.int .i64 3] from rfl) (Reps.none _ _))); intro v151 w51 ho52 hb hg_ hnew_; clear hg_ hnew_; (first | rw [← Ny150.out] at ho52 | (simp only [Int.reduceToNat] at ho52; rw [← Ny150.out] at ho52)); have n0_ := Aside0.mk (Kd.R_lower ho52 (below_size (by repeat (first | (with_reducible first | exact HB.out | apply below_alloc | apply pw_below_drewN | apply below_drew1 | refine below_set ?_ GE146.out | refine below_set ?_ GE147.out) | exact HB.out)))); have n1_ := Aside0.mk (blk_below (g := gb146) (o := .cells #[.int .i64 0, .string (⟨#[]⟩ : ByteArray), .int .i64 0, .int .i64 0] 30 (0, 0)) (by (with_reducible repeat (first | refine blk_drewN ?_ _ | refine blk_drew ?_ | refine blk_alloc ?_ _)); exact BK146.out) hb); have n2_ := Aside0.mk (blk_below (g := gb147) (o := .cells #[.int .i64 5, .string (⟨#[]⟩ : ByteArray), .int .i64 0, .int .i64 a1] 30 (0, 0)) (by (with_reducible repeat (first | refine blk_drewN ?_ _ | refine blk_drew ?_ | refine blk_alloc ?_ _)); exact BK147.out) hb); have n3_ := Aside0.mk (below_step (by repeat (first | (with_reducible first | exact HB.out | apply below_alloc | apply pw_below_drewN | apply below_drew1 | refine below_set ?_ GE146.out | refine below_set ?_ GE147.out) | exact HB.out)) hb); clear BK146; clear BK147; clear HB; have HO152 := n0_; have BK146 := n1_; have BK147 := n2_; have HB := n3_; clear n0_ n1_ n2_ n3_; clear hb ho52; obtain ⟨Ao53, co53, eo53⟩ := Kd.R_slice HO152.out; subst eo53) | ((with_reducible refine gate_callee (f := 39) rfl ?_); refine goesL_ (some 94) rfl rfl Tryd.func39 (by kernel_rfl) rfl #[.string a0, .int .i64 a1, .slice Ao53 y150.length co53] rfl (by (try simp only [List.map_toArray, List.map_cons, List.map_nil]); first | done | rfl | (simp only [List.length_drop, List.length_take]; rfl)) ?_; (with_reducible refine (spinneyref05_run.calls kj31 a0 a1 _ _ y150 t153 _ ?side1 ?side2 A45.out).mono ?_); (case side1 => repeat (first | exact (Kd.R_reads' HO152.out).2.2 | (with_reducible refine Kd.C_alloc ?_ _) | (with_reducible refine Kd.C_drewN ?_ _) | (with_reducible refine Kd.C_drew ?_))); (case side2 => exact (Kd.R_reads' HO152.out).2.1); rintro e w' ⟨rfl, ⟨nd, rfl⟩⟩; refine ⟨_, rfl, ?_⟩; (try (rw [drewN_self w51]; generalize hq_ : World.drewN w51 _ = w51; have n0_ : Aside0 (Kd.R (Kd.int .i64) 3 w51 w.heap.size (fun _ => True) (.slice Ao53 y150.length co53) y150) := ⟨by rw [← hq_]; exact (by (with_reducible repeat (first | apply Kd.R_alloc | apply Kd.R_drewN | apply Kd.R_drew)); exact HO152.out)⟩; have n1_ : Aside0 (w51.heap[gb146]? = some (.cells #[.int .i64 0, .string (⟨#[]⟩ : ByteArray), .int .i64 0, .int .i64 0] 30 (0, 0))) := ⟨by rw [← hq_]; exact (by (with_reducible repeat (first | refine blk_drewN ?_ _ | refine blk_drew ?_ | refine blk_alloc ?_ _)); exact BK146.out)⟩; have n2_ : Aside0 (w51.heap[gb147]? = some (.cells #[.int .i64 5, .string (⟨#[]⟩ : ByteArray), .int .i64 0, .int .i64 a1] 30 (0, 0))) := ⟨by rw [← hq_]; exact (by (with_reducible repeat (first | refine blk_drewN ?_ _ | refine blk_drew ?_ | refine blk_alloc ?_ _)); exact BK147.out)⟩; have n3_ : Aside0 (Below w.heap.size w w51) := ⟨by rw [← hq_]; exact (by repeat (first | (with_reducible first | exact HB.out | apply below_alloc | apply pw_below_drewN | apply below_drew1 | refine below_set ?_ GE146.out | refine below_set ?_ GE147.out) | exact HB.out))⟩; clear HO152 BK146 BK147 HB hq_; have HO152 := n0_; have BK146 := n1_; have BK147 := n2_; have HB := n3_; clear n0_ n1_ n2_ n3_))) | ((with_reducible refine gate_callee (f := 54) rfl ?_); refine goesL_ (some 101) rfl rfl Tryd.func54 (by kernel_rfl) rfl #[.string ((⟨#[45]⟩ : ByteArray) ++ (a0.extract (a1 : Int).toNat (t153 : Int).toNat))] rfl (by (try simp only [List.map_toArray, List.map_cons, List.map_nil]); first | done | rfl | (simp only [List.length_drop, List.length_take]; rfl)) ?_; (with_reducible refine (spinneyref01_Read.calls kj31 ((⟨#[45]⟩ : ByteArray) ++ (a0.extract (a1 : Int).toNat (t153 : Int).toNat)) t154 t155 _ A50.out).mono ?_); rintro e w' ⟨rfl, ⟨nd, rfl⟩⟩; refine ⟨_, rfl, ?_⟩; (try (rw [drewN_self w51]; generalize hq_ : World.drewN w51 _ = w51; have n0_ : Aside0 (Kd.R (Kd.int .i64) 3 w51 w.heap.size (fun _ => True) (.slice Ao53 y150.length co53) y150) := ⟨by rw [← hq_]; exact (by (with_reducible repeat (first | apply Kd.R_alloc | apply Kd.R_drewN | apply Kd.R_drew)); exact HO152.out)⟩; have n1_ : Aside0 (w51.heap[gb146]? = some (.cells #[.int .i64 0, .string (⟨#[]⟩ : ByteArray), .int .i64 0, .int .i64 0] 30 (0, 0))) := ⟨by rw [← hq_]; exact (by (with_reducible repeat (first | refine blk_drewN ?_ _ | refine blk_drew ?_ | refine blk_alloc ?_ _)); exact BK146.out)⟩; have n2_ : Aside0 (w51.heap[gb147]? = some (.cells #[.int .i64 5, .string (⟨#[]⟩ : ByteArray), .int .i64 0, .int .i64 a1] 30 (0, 0))) := ⟨by rw [← hq_]; exact (by (with_reducible repeat (first | refine blk_drewN ?_ _ | refine blk_drew ?_ | refine blk_alloc ?_ _)); exact BK147.out)⟩; have n3_ : Aside0 (Below w.heap.size w w51) := ⟨by rw [← hq_]; exact (by repeat (first | (with_reducible first | exact HB.out | apply below_alloc | apply pw_below_drewN | apply below_drew1 | refine below_set ?_ GE146.out | refine below_set ?_ GE147.out) | exact HB.out))⟩; clear HO152 BK146 BK147 HB hq_; have HO152 := n0_; have BK146 := n1_; have BK147 := n2_; have HB := n3_; clear n0_ n1_ n2_ n3_)); have hnb54 := NB147_146.out; have hnc54 := NB146_147.out; have hcz55_0 : w51.cell? ⟨gb147, 0, none⟩ = some (.int .i64 5) := (blk_cell BK147.out 0).trans rfl; have hcz55_1 : w51.cell? ⟨gb147, 1, none⟩ = some (.string (⟨#[]⟩ : ByteArray)) := (blk_cell BK147.out 1).trans rfl; have hcz55_2 : w51.cell? ⟨gb147, 2, none⟩ = some (.int .i64 0) := (blk_cell BK147.out 2).trans rfl; have hcz55_3 : w51.cell? ⟨gb147, 3, none⟩ = some (.int .i64 a1) := (blk_cell BK147.out 3).trans rfl; have hfz55_0 := blk_frozen BK147.out 0; have hfz55_1 := blk_frozen BK147.out 1; have hfz55_2 := blk_frozen BK147.out 2; have hfz55_3 := blk_frozen BK147.out 3; have hcz56_0 : w51.cell? ⟨gb146, 0, none⟩ = some (.int .i64 0) := (blk_cell BK146.out 0).trans rfl; have hcz56_1 : w51.cell? ⟨gb146, 1, none⟩ = some (.string (⟨#[]⟩ : ByteArray)) := (blk_cell BK146.out 1).trans rfl; have hcz56_2 : w51.cell? ⟨gb146, 2, none⟩ = some (.int .i64 0) := (blk_cell BK146.out 2).trans rfl; have hcz56_3 : w51.cell? ⟨gb146, 3, none⟩ = some (.int .i64 0) := (blk_cell BK146.out 3).trans rfl; have hfz56_0 := blk_frozen BK146.out 0; have hfz56_1 := blk_frozen BK146.out 1; have hfz56_2 := blk_frozen BK146.out 2; have hfz56_3 := blk_frozen BK146.out 3))
                                refine bodyPost_ret (results_ctt rfl _ _ gb146 30 #[.int .i64 5, .string (⟨#[]⟩ : ByteArray), .int .i64 (wrap64 (-t154)), .int .i64 a1] (0, 0) _ rfl (by (with_reducible repeat (first | refine blk_drewN ?_ _ | refine blk_drew ?_ | refine blk_alloc ?_ _)); refine blk_put (cs := #[.int .i64 5, .string (⟨#[]⟩ : ByteArray), .int .i64 (wrap64 (-t154)), .int .i64 0]) ?_ 3 _ rfl; (with_reducible repeat (first | refine blk_drewN ?_ _ | refine blk_drew ?_ | refine blk_alloc ?_ _)); refine blk_put (cs := #[.int .i64 5, .string (⟨#[]⟩ : ByteArray), .int .i64 0, .int .i64 0]) ?_ 2 _ rfl; (with_reducible repeat (first | refine blk_drewN ?_ _ | refine blk_drew ?_ | refine blk_alloc ?_ _)); refine blk_put (cs := #[.int .i64 5, .string (⟨#[]⟩ : ByteArray), .int .i64 0, .int .i64 0]) ?_ 1 _ rfl; (with_reducible repeat (first | refine blk_drewN ?_ _ | refine blk_drew ?_ | refine blk_alloc ?_ _)); refine blk_put (cs := #[.int .i64 0, .string (⟨#[]⟩ : ByteArray), .int .i64 0, .int .i64 0]) ?_ 0 _ rfl; (with_reducible repeat (first | refine blk_drewN ?_ _ | refine blk_drew ?_ | refine blk_alloc ?_ _)); refine blk_far ?_ NB146_147.out _; (with_reducible repeat (first | refine blk_drewN ?_ _ | refine blk_drew ?_ | refine blk_alloc ?_ _)); exact BK146.out) Tryd.underlying30 rfl (by kernel_rfl)) rfl ?_
                                exact ⟨by first | rfl | (simp [errW_none, errW_some] <;> rfl) | (simp only [← hji17]; first | rfl | (simp [errW_none, errW_some] <;> rfl)) | (simp [*, errW_none, errW_some] <;> rfl), by repeat (first | (with_reducible first | exact HB.out | apply below_alloc | apply pw_below_drewN | apply below_drew1 | refine below_set ?_ GE146.out | refine below_set ?_ GE147.out) | exact HB.out)⟩
                              · rw [if_neg c49] at H
                                exact absurd H (by simp)
                            · rw [if_neg c48] at H
                              exact absurd H (by simp)
                          · rw [if_neg c47] at H
                            exact absurd H (by simp)
                        · rw [if_neg c46] at H
                          exact absurd H (by simp)
          · rw [if_neg c19] at H
            exact absurd H (by simp)
        · rw [if_neg c18] at H
          exact absurd H (by simp)
      · replace c16 := Bool.eq_false_iff.mpr c16
        subst c16
        have H1 : ((spinneyref05_run.f kj2 a0 a1 (([3] : List Int))).bind fun t159 => (if 0 ≤ a1 then (if a1 ≤ t159 then (if t159 ≤ (a0.size : Int) then (if 1 + (a0.extract (a1 : Int).toNat (t159 : Int).toNat).size ≤ 9223372036854775807 then ((spinneyref01_Read.f kj2 ((⟨#[45]⟩ : ByteArray) ++ (a0.extract (a1 : Int).toNat (t159 : Int).toNat))).bind fun bt160 => (some (5, (⟨#[]⟩ : ByteArray), wrap64 (-bt160.1), a1, t159, (bt160.2 == 0)))) else (none)) else (none)) else (none)) else (none))) = some (r1, r2, r3, r4, r5, r6) := by rw [if_neg (show ¬ (false = true) by decide)] at H; exact H
        clear H
        have H := H1
        clear H1
        obtain ⟨y156, hy156⟩ : ∃ y_ : List Int, y_ = (([3] : List Int)) := ⟨_, rfl⟩
        replace H : ((spinneyref05_run.f kj2 a0 a1 y156).bind fun t159 => (if 0 ≤ a1 then (if a1 ≤ t159 then (if t159 ≤ (a0.size : Int) then (if 1 + (a0.extract (a1 : Int).toNat (t159 : Int).toNat).size ≤ 9223372036854775807 then ((spinneyref01_Read.f kj2 ((⟨#[45]⟩ : ByteArray) ++ (a0.extract (a1 : Int).toNat (t159 : Int).toNat))).bind fun bt160 => (some (5, (⟨#[]⟩ : ByteArray), wrap64 (-bt160.1), a1, t159, (bt160.2 == 0)))) else (none)) else (none)) else (none)) else (none))) = some (r1, r2, r3, r4, r5, r6) := by first | (rw [hy156]; with_reducible exact H) | (have H2_ := (Option.bind_some _ _).symm.trans H; rw [hy156]; with_reducible exact H2_) | (have H2_ := (Option.bind_some _ _).symm.trans H; with_reducible exact H2_) | with_reducible exact H | (rw [hy156]; exact H) | exact H
        have Ny156 := Aside0.mk hy156
        clear hy156
        replace H := Option.bind_eq_some_iff.mp H
        obtain ⟨t159, A570, H⟩ := H
        replace H : (if 0 ≤ a1 then (if a1 ≤ t159 then (if t159 ≤ (a0.size : Int) then (if 1 + (a0.extract (a1 : Int).toNat (t159 : Int).toNat).size ≤ 9223372036854775807 then ((spinneyref01_Read.f kj2 ((⟨#[45]⟩ : ByteArray) ++ (a0.extract (a1 : Int).toNat (t159 : Int).toNat))).bind fun bt160 => (some (5, (⟨#[]⟩ : ByteArray), wrap64 (-bt160.1), a1, t159, (bt160.2 == 0)))) else (none)) else (none)) else (none)) else (none)) = some (r1, r2, r3, r4, r5, r6) := H
        have A57 := Aside0.mk A570
        clear A570
        by_cases c58 : 0 ≤ a1
        · rw [if_pos c58] at H
          have c58b0 := eq_true c58
          have c58b1 : decide (0 ≤ a1) = true := decide_eq_true c58
          clear c58
          by_cases c59 : a1 ≤ t159
          · rw [if_pos c59] at H
            have c59b0 := eq_true c59
            have c59b1 : decide (a1 ≤ t159) = true := decide_eq_true c59
            clear c59
            by_cases c60 : t159 ≤ (a0.size : Int)
            · rw [if_pos c60] at H
              have c60b0 := eq_true c60
              have c60b1 : decide (t159 ≤ (a0.size : Int)) = true := decide_eq_true c60
              clear c60
              by_cases c61 : 1 + (a0.extract (a1 : Int).toNat (t159 : Int).toNat).size ≤ 9223372036854775807
              · rw [if_pos c61] at H
                have c61b0 := eq_true c61
                have c61b1 : decide (1 + (a0.extract (a1 : Int).toNat (t159 : Int).toNat).size ≤ 9223372036854775807) = true := decide_eq_true c61
                try have c61b2 : (9223372036854775807 < 1 + (a0.extract (a1 : Int).toNat (t159 : Int).toNat).size) = False := eq_false (Nat.not_lt.2 c61)
                replace H := Option.bind_eq_some_iff.mp H
                obtain ⟨⟨t160, t161⟩, A620, H⟩ := H
                replace H : (some (5, (⟨#[]⟩ : ByteArray), wrap64 (-t160), a1, t159, (t161 == 0))) = some (r1, r2, r3, r4, r5, r6) := H
                have A62 := Aside0.mk A620
                clear A620
                simp only [Option.some.injEq, Prod.mk.injEq] at H
                obtain ⟨rfl, rfl, rfl, rfl, rfl, rfl⟩ := H
                go_wp2_with (first | ((with_reducible refine gate_dst (N := 93) rfl ?_); (try (refine gate_guard (by rfl) ?_; dsimp only)); refine Kd.R_lit (Kd.int .i64) _ 3 ?hg (N := 93) ?hd (xs := ([3] : List Int)) (inner := [.int .i64 3]) (ok := fun _ => True) (okp := fun _ => True) ?hr ?hp (fun _ hk => hk) trivial (Below.refl _ _) (Nat.le_refl _) (by simp) ?_; (case hd => rfl); (case hg => rfl); (case hr => first | (go_simp; done) | (go_simp; rfl)); (case hp => exact (Reps.one (show Kd.M (Kd.int .i64) _ _ _ 3 [.int .i64 3] from rfl) (Reps.none _ _))); intro v157 w63 ho64 hb hg_ hnew_; clear hg_ hnew_; (first | rw [← Ny156.out] at ho64 | (simp only [Int.reduceToNat] at ho64; rw [← Ny156.out] at ho64)); have n0_ := Aside0.mk (Kd.R_lower ho64 (below_size (by repeat (first | (with_reducible first | exact HB.out | apply below_alloc | apply pw_below_drewN | apply below_drew1 | refine below_set ?_ GE146.out | refine below_set ?_ GE147.out) | exact HB.out)))); have n1_ := Aside0.mk (blk_below (g := gb146) (o := .cells #[.int .i64 0, .string (⟨#[]⟩ : ByteArray), .int .i64 0, .int .i64 0] 30 (0, 0)) (by (with_reducible repeat (first | refine blk_drewN ?_ _ | refine blk_drew ?_ | refine blk_alloc ?_ _)); exact BK146.out) hb); have n2_ := Aside0.mk (blk_below (g := gb147) (o := .cells #[.int .i64 5, .string (⟨#[]⟩ : ByteArray), .int .i64 0, .int .i64 a1] 30 (0, 0)) (by (with_reducible repeat (first | refine blk_drewN ?_ _ | refine blk_drew ?_ | refine blk_alloc ?_ _)); exact BK147.out) hb); have n3_ := Aside0.mk (below_step (by repeat (first | (with_reducible first | exact HB.out | apply below_alloc | apply pw_below_drewN | apply below_drew1 | refine below_set ?_ GE146.out | refine below_set ?_ GE147.out) | exact HB.out)) hb); clear BK146; clear BK147; clear HB; have HO158 := n0_; have BK146 := n1_; have BK147 := n2_; have HB := n3_; clear n0_ n1_ n2_ n3_; clear hb ho64; obtain ⟨Ao65, co65, eo65⟩ := Kd.R_slice HO158.out; subst eo65) | ((with_reducible refine gate_callee (f := 39) rfl ?_); refine goesL_ (some 94) rfl rfl Tryd.func39 (by kernel_rfl) rfl #[.string a0, .int .i64 a1, .slice Ao65 y156.length co65] rfl (by (try simp only [List.map_toArray, List.map_cons, List.map_nil]); first | done | rfl | (simp only [List.length_drop, List.length_take]; rfl)) ?_; (with_reducible refine (spinneyref05_run.calls kj2 a0 a1 _ _ y156 t159 _ ?side1 ?side2 A57.out).mono ?_); (case side1 => repeat (first | exact (Kd.R_reads' HO158.out).2.2 | (with_reducible refine Kd.C_alloc ?_ _) | (with_reducible refine Kd.C_drewN ?_ _) | (with_reducible refine Kd.C_drew ?_))); (case side2 => exact (Kd.R_reads' HO158.out).2.1); rintro e w' ⟨rfl, ⟨nd, rfl⟩⟩; refine ⟨_, rfl, ?_⟩; (try (rw [drewN_self w63]; generalize hq_ : World.drewN w63 _ = w63; have n0_ : Aside0 (Kd.R (Kd.int .i64) 3 w63 w.heap.size (fun _ => True) (.slice Ao65 y156.length co65) y156) := ⟨by rw [← hq_]; exact (by (with_reducible repeat (first | apply Kd.R_alloc | apply Kd.R_drewN | apply Kd.R_drew)); exact HO158.out)⟩; have n1_ : Aside0 (w63.heap[gb146]? = some (.cells #[.int .i64 0, .string (⟨#[]⟩ : ByteArray), .int .i64 0, .int .i64 0] 30 (0, 0))) := ⟨by rw [← hq_]; exact (by (with_reducible repeat (first | refine blk_drewN ?_ _ | refine blk_drew ?_ | refine blk_alloc ?_ _)); exact BK146.out)⟩; have n2_ : Aside0 (w63.heap[gb147]? = some (.cells #[.int .i64 5, .string (⟨#[]⟩ : ByteArray), .int .i64 0, .int .i64 a1] 30 (0, 0))) := ⟨by rw [← hq_]; exact (by (with_reducible repeat (first | refine blk_drewN ?_ _ | refine blk_drew ?_ | refine blk_alloc ?_ _)); exact BK147.out)⟩; have n3_ : Aside0 (Below w.heap.size w w63) := ⟨by rw [← hq_]; exact (by repeat (first | (with_reducible first | exact HB.out | apply below_alloc | apply pw_below_drewN | apply below_drew1 | refine below_set ?_ GE146.out | refine below_set ?_ GE147.out) | exact HB.out))⟩; clear HO158 BK146 BK147 HB hq_; have HO158 := n0_; have BK146 := n1_; have BK147 := n2_; have HB := n3_; clear n0_ n1_ n2_ n3_))) | ((with_reducible refine gate_callee (f := 54) rfl ?_); refine goesL_ (some 101) rfl rfl Tryd.func54 (by kernel_rfl) rfl #[.string ((⟨#[45]⟩ : ByteArray) ++ (a0.extract (a1 : Int).toNat (t159 : Int).toNat))] rfl (by (try simp only [List.map_toArray, List.map_cons, List.map_nil]); first | done | rfl | (simp only [List.length_drop, List.length_take]; rfl)) ?_; (with_reducible refine (spinneyref01_Read.calls kj2 ((⟨#[45]⟩ : ByteArray) ++ (a0.extract (a1 : Int).toNat (t159 : Int).toNat)) t160 t161 _ A62.out).mono ?_); rintro e w' ⟨rfl, ⟨nd, rfl⟩⟩; refine ⟨_, rfl, ?_⟩; (try (rw [drewN_self w63]; generalize hq_ : World.drewN w63 _ = w63; have n0_ : Aside0 (Kd.R (Kd.int .i64) 3 w63 w.heap.size (fun _ => True) (.slice Ao65 y156.length co65) y156) := ⟨by rw [← hq_]; exact (by (with_reducible repeat (first | apply Kd.R_alloc | apply Kd.R_drewN | apply Kd.R_drew)); exact HO158.out)⟩; have n1_ : Aside0 (w63.heap[gb146]? = some (.cells #[.int .i64 0, .string (⟨#[]⟩ : ByteArray), .int .i64 0, .int .i64 0] 30 (0, 0))) := ⟨by rw [← hq_]; exact (by (with_reducible repeat (first | refine blk_drewN ?_ _ | refine blk_drew ?_ | refine blk_alloc ?_ _)); exact BK146.out)⟩; have n2_ : Aside0 (w63.heap[gb147]? = some (.cells #[.int .i64 5, .string (⟨#[]⟩ : ByteArray), .int .i64 0, .int .i64 a1] 30 (0, 0))) := ⟨by rw [← hq_]; exact (by (with_reducible repeat (first | refine blk_drewN ?_ _ | refine blk_drew ?_ | refine blk_alloc ?_ _)); exact BK147.out)⟩; have n3_ : Aside0 (Below w.heap.size w w63) := ⟨by rw [← hq_]; exact (by repeat (first | (with_reducible first | exact HB.out | apply below_alloc | apply pw_below_drewN | apply below_drew1 | refine below_set ?_ GE146.out | refine below_set ?_ GE147.out) | exact HB.out))⟩; clear HO158 BK146 BK147 HB hq_; have HO158 := n0_; have BK146 := n1_; have BK147 := n2_; have HB := n3_; clear n0_ n1_ n2_ n3_)); have hnb66 := NB147_146.out; have hnc66 := NB146_147.out; have hcz67_0 : w63.cell? ⟨gb147, 0, none⟩ = some (.int .i64 5) := (blk_cell BK147.out 0).trans rfl; have hcz67_1 : w63.cell? ⟨gb147, 1, none⟩ = some (.string (⟨#[]⟩ : ByteArray)) := (blk_cell BK147.out 1).trans rfl; have hcz67_2 : w63.cell? ⟨gb147, 2, none⟩ = some (.int .i64 0) := (blk_cell BK147.out 2).trans rfl; have hcz67_3 : w63.cell? ⟨gb147, 3, none⟩ = some (.int .i64 a1) := (blk_cell BK147.out 3).trans rfl; have hfz67_0 := blk_frozen BK147.out 0; have hfz67_1 := blk_frozen BK147.out 1; have hfz67_2 := blk_frozen BK147.out 2; have hfz67_3 := blk_frozen BK147.out 3; have hcz68_0 : w63.cell? ⟨gb146, 0, none⟩ = some (.int .i64 0) := (blk_cell BK146.out 0).trans rfl; have hcz68_1 : w63.cell? ⟨gb146, 1, none⟩ = some (.string (⟨#[]⟩ : ByteArray)) := (blk_cell BK146.out 1).trans rfl; have hcz68_2 : w63.cell? ⟨gb146, 2, none⟩ = some (.int .i64 0) := (blk_cell BK146.out 2).trans rfl; have hcz68_3 : w63.cell? ⟨gb146, 3, none⟩ = some (.int .i64 0) := (blk_cell BK146.out 3).trans rfl; have hfz68_0 := blk_frozen BK146.out 0; have hfz68_1 := blk_frozen BK146.out 1; have hfz68_2 := blk_frozen BK146.out 2; have hfz68_3 := blk_frozen BK146.out 3))
                refine bodyPost_ret (results_ctt rfl _ _ gb146 30 #[.int .i64 5, .string (⟨#[]⟩ : ByteArray), .int .i64 (wrap64 (-t160)), .int .i64 a1] (0, 0) _ rfl (by (with_reducible repeat (first | refine blk_drewN ?_ _ | refine blk_drew ?_ | refine blk_alloc ?_ _)); refine blk_put (cs := #[.int .i64 5, .string (⟨#[]⟩ : ByteArray), .int .i64 (wrap64 (-t160)), .int .i64 0]) ?_ 3 _ rfl; (with_reducible repeat (first | refine blk_drewN ?_ _ | refine blk_drew ?_ | refine blk_alloc ?_ _)); refine blk_put (cs := #[.int .i64 5, .string (⟨#[]⟩ : ByteArray), .int .i64 0, .int .i64 0]) ?_ 2 _ rfl; (with_reducible repeat (first | refine blk_drewN ?_ _ | refine blk_drew ?_ | refine blk_alloc ?_ _)); refine blk_put (cs := #[.int .i64 5, .string (⟨#[]⟩ : ByteArray), .int .i64 0, .int .i64 0]) ?_ 1 _ rfl; (with_reducible repeat (first | refine blk_drewN ?_ _ | refine blk_drew ?_ | refine blk_alloc ?_ _)); refine blk_put (cs := #[.int .i64 0, .string (⟨#[]⟩ : ByteArray), .int .i64 0, .int .i64 0]) ?_ 0 _ rfl; (with_reducible repeat (first | refine blk_drewN ?_ _ | refine blk_drew ?_ | refine blk_alloc ?_ _)); refine blk_far ?_ NB146_147.out _; (with_reducible repeat (first | refine blk_drewN ?_ _ | refine blk_drew ?_ | refine blk_alloc ?_ _)); exact BK146.out) Tryd.underlying30 rfl (by kernel_rfl)) rfl ?_
                exact ⟨by first | rfl | (simp [errW_none, errW_some] <;> rfl) | (simp [*, errW_none, errW_some] <;> rfl), by repeat (first | (with_reducible first | exact HB.out | apply below_alloc | apply pw_below_drewN | apply below_drew1 | refine below_set ?_ GE146.out | refine below_set ?_ GE147.out) | exact HB.out)⟩
              · rw [if_neg c61] at H
                exact absurd H (by simp)
            · rw [if_neg c60] at H
              exact absurd H (by simp)
          · rw [if_neg c59] at H
            exact absurd H (by simp)
        · rw [if_neg c58] at H
          exact absurd H (by simp)

end

end Go.Proofs.YtjichkjnodabiaaDoor.P
