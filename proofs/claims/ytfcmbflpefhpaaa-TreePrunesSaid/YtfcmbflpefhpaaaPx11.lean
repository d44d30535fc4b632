-- PRINTED by a program of this session over the kit's print.py.
import Derived.Test.YtfcmbflpefhpaaaPx0
import Derived.Test.YtfcmbflpefhpaaaPx1
import Derived.Test.YtfcmbflpefhpaaaPx4
import Derived.Test.YtfcmbflpefhpaaaPx10
namespace Go.Proofs.Ytfcmbflpefhpaaa.P
open Go.Own Go.RowKit Go.Proofs.YtfcmbflpefhpaaaW.PrintWords Go.Proofs.YtfcmbflpefhpaaaW.PrintLast Go.Proofs.YtfcmbflpefhpaaaW.PrintMore
attribute [local go_sem] max2_int min2_int max_two min_two max_three min_three max_four min_four   -- for this text's walks alone
set_option linter.unusedVariables false
set_option linter.unusedSimpArgs false

/-! ### spinneyref21_SameOne: function 24 -/
def spinneyref21_SameOne.f (k : Nat) (l0_0 : List Int) (l0_1 : List (S63)) (l0_2 : List (S66)) (a0_3 : Int) (l0_4 : List Int) (l1_0 : List Int) (l1_1 : List (S63)) (l1_2 : List (S66)) (a1_3 : Int) (l1_4 : List Int) : Option (Bool) := (spinneyref19_Compare.f k l0_0 l1_0).bind fun t193 => (if t193 = 0 then ((spinneyref08_SameInts.f k l0_4 l1_4).bind fun t194 => (if t194 = true then ((spinneyref14_SameState.f k l0_1 l0_2 a0_3 l1_1 l1_2 a1_3).bind fun t195 => (some t195)) else (some false))) else (some false))
theorem spinneyref21_SameOne.mono : ∀ a0 a1 a2 a3 a4 a5 a6 a7 a8 a9 k, LeO (spinneyref21_SameOne.f k a0 a1 a2 a3 a4 a5 a6 a7 a8 a9) (spinneyref21_SameOne.f (k + 1) a0 a1 a2 a3 a4 a5 a6 a7 a8 a9) := by
  intro a0 a1 a2 a3 a4 a5 a6 a7 a8 a9 k
  unfold spinneyref21_SameOne.f
  repeat' first
      | (with_reducible exact spinneyref08_SameInts.mono _ _ _)
      | (with_reducible exact spinneyref14_SameState.mono _ _ _ _ _ _ _)
      | (with_reducible exact spinneyref19_Compare.mono _ _ _)
      | (with_reducible exact LeO.refl _)
      | (with_reducible exact LeO.none _)
      | (with_reducible refine LeO.ite ?_ ?_)
      | (with_reducible refine LeO.bind ?_ (fun _ => ?_))
      | exact spinneyref08_SameInts.mono _ _ _
      | exact spinneyref14_SameState.mono _ _ _ _ _ _ _
      | exact spinneyref19_Compare.mono _ _ _
      | exact LeO.none _
      | refine LeO.ite ?_ ?_
      | refine LeO.bind ?_ (fun _ => ?_)
set_option maxHeartbeats 8000000 in
set_option maxRecDepth 100000 in
theorem spinneyref21_SameOne.calls (k : Nat) (A0_0 : Option Addr) (c0_0 : Nat) (l0_0 : List Int) (A0_1 : Option Addr) (c0_1 : Nat) (l0_1 : List (S63)) (A0_2 : Option Addr) (c0_2 : Nat) (l0_2 : List (S66)) (a0_3 : Int) (A0_4 : Option Addr) (c0_4 : Nat) (l0_4 : List Int) (A1_0 : Option Addr) (c1_0 : Nat) (l1_0 : List Int) (A1_1 : Option Addr) (c1_1 : Nat) (l1_1 : List (S63)) (A1_2 : Option Addr) (c1_2 : Nat) (l1_2 : List (S66)) (a1_3 : Int) (A1_4 : Option Addr) (c1_4 : Nat) (l1_4 : List Int) (r : Bool) (w : World) (hr0_0 : Kd.C (Kd.int .i64) w A0_0 l0_0.length l0_0) (hc0_0 : l0_0.length ≤ c0_0) (hr0_1 : Kd.C k63 w A0_1 l0_1.length l0_1) (hc0_1 : l0_1.length ≤ c0_1) (hr0_2 : Kd.C k66 w A0_2 l0_2.length l0_2) (hc0_2 : l0_2.length ≤ c0_2) (hr0_4 : Kd.C (Kd.int .i64) w A0_4 l0_4.length l0_4) (hc0_4 : l0_4.length ≤ c0_4) (hr1_0 : Kd.C (Kd.int .i64) w A1_0 l1_0.length l1_0) (hc1_0 : l1_0.length ≤ c1_0) (hr1_1 : Kd.C k63 w A1_1 l1_1.length l1_1) (hc1_1 : l1_1.length ≤ c1_1) (hr1_2 : Kd.C k66 w A1_2 l1_2.length l1_2) (hc1_2 : l1_2.length ≤ c1_2) (hr1_4 : Kd.C (Kd.int .i64) w A1_4 l1_4.length l1_4) (hc1_4 : l1_4.length ≤ c1_4) (h : spinneyref21_SameOne.f k l0_0 l0_1 l0_2 a0_3 l0_4 l1_0 l1_1 l1_2 a1_3 l1_4 = some r) :
    Calls Try.prog 24 #[.agg #[.slice A0_0 l0_0.length c0_0, .slice A0_1 l0_1.length c0_1, .slice A0_2 l0_2.length c0_2, .int .i64 a0_3, .slice A0_4 l0_4.length c0_4], .agg #[.slice A1_0 l1_0.length c1_0, .slice A1_1 l1_1.length c1_1, .slice A1_2 l1_2.length c1_2, .int .i64 a1_3, .slice A1_4 l1_4.length c1_4]] w fun e w' => e = .returned (.bool r) ∧ Below w.heap.size w w' := by
  have hu39 := Try.underlying39
  have hu37 := Try.underlying37
  have HR0_0 := Aside0.mk hr0_0
  have HC0_0 := Aside0.mk hc0_0
  clear hr0_0 hc0_0
  have HR0_1 := Aside0.mk hr0_1
  have HC0_1 := Aside0.mk hc0_1
  clear hr0_1 hc0_1
  have HR0_2 := Aside0.mk hr0_2
  have HC0_2 := Aside0.mk hc0_2
  clear hr0_2 hc0_2
  have HR0_4 := Aside0.mk hr0_4
  have HC0_4 := Aside0.mk hc0_4
  clear hr0_4 hc0_4
  have HR1_0 := Aside0.mk hr1_0
  have HC1_0 := Aside0.mk hc1_0
  clear hr1_0 hc1_0
  have HR1_1 := Aside0.mk hr1_1
  have HC1_1 := Aside0.mk hc1_1
  clear hr1_1 hc1_1
  have HR1_2 := Aside0.mk hr1_2
  have HC1_2 := Aside0.mk hc1_2
  clear hr1_2 hc1_2
  have HR1_4 := Aside0.mk hr1_4
  have HC1_4 := Aside0.mk hc1_4
  clear hr1_4 hc1_4
  have HB := Aside0.mk (Below.refl w.heap.size w)
  have H : ((spinneyref19_Compare.f k l0_0 l1_0).bind fun t193 => (if t193 = 0 then ((spinneyref08_SameInts.f k l0_4 l1_4).bind fun t194 => (if t194 = true then ((spinneyref14_SameState.f k l0_1 l0_2 a0_3 l1_1 l1_2 a1_3).bind fun t195 => (some t195)) else (some false))) else (some false))) = some r := h
  clear h
  replace H := Option.bind_eq_some_iff.mp H
  obtain ⟨t193, A30, H⟩ := H
  replace H : (if t193 = 0 then ((spinneyref08_SameInts.f k l0_4 l1_4).bind fun t194 => (if t194 = true then ((spinneyref14_SameState.f k l0_1 l0_2 a0_3 l1_1 l1_2 a1_3).bind fun t195 => (some t195)) else (some false))) else (some false)) = some r := H
  have A3 := Aside0.mk A30
  clear A30
  by_cases c4 : t193 = 0
  · rw [if_pos c4] at H
    have c4b0 : (t193 == 0) = true := beq_iff_eq.mpr c4
    have c4b1 : (t193 != 0) = false := bne_eq_false_iff_eq.mpr c4
    clear c4
    replace H := Option.bind_eq_some_iff.mp H
    obtain ⟨t194, A50, H⟩ := H
    replace H : (if t194 = true then ((spinneyref14_SameState.f k l0_1 l0_2 a0_3 l1_1 l1_2 a1_3).bind fun t195 => (some t195)) else (some false)) = some r := H
    have A5 := Aside0.mk A50
    clear A50
    by_cases c6 : t194 = true
    · subst c6
      have H1 : ((spinneyref14_SameState.f k l0_1 l0_2 a0_3 l1_1 l1_2 a1_3).bind fun t195 => (some t195)) = some r := by rw [if_pos rfl] at H; exact H
      clear H
      have H := H1
      clear H1
      replace H := Option.bind_eq_some_iff.mp H
      obtain ⟨t195, A70, H⟩ := H
      replace H : (some t195) = some r := H
      have A7 := Aside0.mk A70
      clear A70
      obtain rfl := Option.some.inj H
      go_enter Try.func24, Try.ntmps24
      go_wp2_with (first | ((with_reducible refine gate_dst (N := 2) rfl ?_); refine box_event ?hg (N := 2) ?hd (cs := #[.slice A0_0 l0_0.length c0_0, .slice A0_1 l0_1.length c0_1, .slice A0_2 l0_2.length c0_2, .int .i64 a0_3, .slice A0_4 l0_4.length c0_4]) (t := 39) ?hr ?_; (case hd => rfl); (case hg => rfl); (case hr => first | (go_simp; done) | (go_simp; rfl)); intro gb191 hg w8 hbox hb; have n0_ := Aside0.mk (below_step (by repeat (first | (with_reducible first | exact HB.out | apply below_alloc | apply pw_below_drewN | apply below_drew1) | exact HB.out)) hb); have n1_ := Aside0.mk (hbox); have n2_ := Aside0.mk ((by rw [hg]; exact (below_size (by repeat (first | (with_reducible first | exact HB.out | apply below_alloc | apply pw_below_drewN | apply below_drew1) | exact HB.out))) : w.heap.size ≤ gb191)); have n3_ := Aside0.mk ((by rw [hg]; exact (below_size (by repeat (first | (with_reducible first | exact HB.out | apply below_alloc | apply pw_below_drewN | apply below_drew1) | exact HB.out))) : w.heap.size ≤ gb191)); clear HB; have HB := n0_; have BK191 := n1_; have GW191 := n2_; have GE191 := n3_; clear n0_ n1_ n2_ n3_; clear hb hbox hg) | ((with_reducible refine gate_dst (N := 3) rfl ?_); refine box_event ?hg (N := 3) ?hd (cs := #[.slice A1_0 l1_0.length c1_0, .slice A1_1 l1_1.length c1_1, .slice A1_2 l1_2.length c1_2, .int .i64 a1_3, .slice A1_4 l1_4.length c1_4]) (t := 39) ?hr ?_; (case hd => rfl); (case hg => rfl); (case hr => first | (go_simp; done) | (go_simp; rfl)); intro gb192 hg w9 hbox hb; have n0_ := Aside0.mk (blk_below (g := gb191) (o := .cells #[.slice A0_0 l0_0.length c0_0, .slice A0_1 l0_1.length c0_1, .slice A0_2 l0_2.length c0_2, .int .i64 a0_3, .slice A0_4 l0_4.length c0_4] 39 (0, 0)) (by (with_reducible repeat (first | refine blk_drewN ?_ _ | refine blk_drew ?_ | refine blk_alloc ?_ _)); exact BK191.out) hb); have n1_ := Aside0.mk (below_step (by repeat (first | (with_reducible first | exact HB.out | apply below_alloc | apply pw_below_drewN | apply below_drew1 | refine below_set ?_ GE191.out) | exact HB.out)) hb); have n2_ := Aside0.mk (hbox); have n3_ := Aside0.mk ((by rw [hg]; exact (below_size (by repeat (first | (with_reducible first | exact HB.out | apply below_alloc | apply pw_below_drewN | apply below_drew1 | refine below_set ?_ GE191.out) | exact HB.out))) : w.heap.size ≤ gb192)); have n4_ := Aside0.mk ((by rw [hg]; exact (below_size (by repeat (first | (with_reducible first | exact HB.out | apply below_alloc | apply pw_below_drewN | apply below_drew1 | refine below_set ?_ GE191.out) | exact HB.out))) : w.heap.size ≤ gb192)); have n5_ := Aside0.mk ((by rw [hg]; exact Nat.ne_of_lt (blk_lt (g := gb191) (o := .cells #[.slice A0_0 l0_0.length c0_0, .slice A0_1 l0_1.length c0_1, .slice A0_2 l0_2.length c0_2, .int .i64 a0_3, .slice A0_4 l0_4.length c0_4] 39 (0, 0)) (by (with_reducible repeat (first | refine blk_drewN ?_ _ | refine blk_drew ?_ | refine blk_alloc ?_ _)); exact BK191.out)) : gb191 ≠ gb192)); have n6_ := Aside0.mk ((by rw [hg]; exact Nat.ne_of_gt (blk_lt (g := gb191) (o := .cells #[.slice A0_0 l0_0.length c0_0, .slice A0_1 l0_1.length c0_1, .slice A0_2 l0_2.length c0_2, .int .i64 a0_3, .slice A0_4 l0_4.length c0_4] 39 (0, 0)) (by (with_reducible repeat (first | refine blk_drewN ?_ _ | refine blk_drew ?_ | refine blk_alloc ?_ _)); exact BK191.out)) : gb192 ≠ gb191)); clear BK191; clear HB; have BK191 := n0_; have HB := n1_; have BK192 := n2_; have GW192 := n3_; have GE192 := n4_; have NB191_192 := n5_; have NB192_191 := n6_; clear n0_ n1_ n2_ n3_ n4_ n5_ n6_; clear hb hbox hg; have hnb10 := NB191_192.out; have hnc10 := NB192_191.out; have hcz11_0 : w9.cell? ⟨gb191, 0, none⟩ = some (.slice A0_0 l0_0.length c0_0) := (blk_cell BK191.out 0).trans rfl; have hcz11_1 : w9.cell? ⟨gb191, 1, none⟩ = some (.slice A0_1 l0_1.length c0_1) := (blk_cell BK191.out 1).trans rfl; have hcz11_2 : w9.cell? ⟨gb191, 2, none⟩ = some (.slice A0_2 l0_2.length c0_2) := (blk_cell BK191.out 2).trans rfl; have hcz11_3 : w9.cell? ⟨gb191, 3, none⟩ = some (.int .i64 a0_3) := (blk_cell BK191.out 3).trans rfl; have hcz11_4 : w9.cell? ⟨gb191, 4, none⟩ = some (.slice A0_4 l0_4.length c0_4) := (blk_cell BK191.out 4).trans rfl; have hfz11_0 := blk_frozen BK191.out 0; have hfz11_1 := blk_frozen BK191.out 1; have hfz11_2 := blk_frozen BK191.out 2; have hfz11_3 := blk_frozen BK191.out 3; have hfz11_4 := blk_frozen BK191.out 4; have hcz12_0 : w9.cell? ⟨gb192, 0, none⟩ = some (.slice A1_0 l1_0.length c1_0) := (blk_cell BK192.out 0).trans rfl; have hcz12_1 : w9.cell? ⟨gb192, 1, none⟩ = some (.slice A1_1 l1_1.length c1_1) := (blk_cell BK192.out 1).trans rfl; have hcz12_2 : w9.cell? ⟨gb192, 2, none⟩ = some (.slice A1_2 l1_2.length c1_2) := (blk_cell BK192.out 2).trans rfl; have hcz12_3 : w9.cell? ⟨gb192, 3, none⟩ = some (.int .i64 a1_3) := (blk_cell BK192.out 3).trans rfl; have hcz12_4 : w9.cell? ⟨gb192, 4, none⟩ = some (.slice A1_4 l1_4.length c1_4) := (blk_cell BK192.out 4).trans rfl; have hfz12_0 := blk_frozen BK192.out 0; have hfz12_1 := blk_frozen BK192.out 1; have hfz12_2 := blk_frozen BK192.out 2; have hfz12_3 := blk_frozen BK192.out 3; have hfz12_4 := blk_frozen BK192.out 4) | ((with_reducible refine gate_callee (f := 19) rfl ?_); refine goesL_ (some 9) rfl rfl Try.func19 (by kernel_rfl) rfl #[.slice A0_0 l0_0.length c0_0, .slice A1_0 l1_0.length c1_0] rfl (by (try simp only [List.map_toArray, List.map_cons, List.map_nil]); first | done | rfl | (simp only [List.length_drop, List.length_take]; rfl)) ?_; (with_reducible refine (spinneyref19_Compare.calls k _ _ l0_0 _ _ l1_0 t193 _ ?side1 ?side2 ?side3 ?side4 A3.out).mono ?_); (case side1 => repeat (first | exact (Kd.C_below HR0_0.out HB.out) | (with_reducible refine Kd.C_alloc ?_ _) | (with_reducible refine Kd.C_drewN ?_ _) | (with_reducible refine Kd.C_drew ?_))); (case side2 => exact HC0_0.out); (case side3 => repeat (first | exact (Kd.C_below HR1_0.out HB.out) | (with_reducible refine Kd.C_alloc ?_ _) | (with_reducible refine Kd.C_drewN ?_ _) | (with_reducible refine Kd.C_drew ?_))); (case side4 => exact HC1_0.out); rintro e w13 ⟨rfl, hb⟩; refine ⟨_, rfl, ?_⟩; have n0_ := Aside0.mk (blk_below (g := gb191) (o := .cells #[.slice A0_0 l0_0.length c0_0, .slice A0_1 l0_1.length c0_1, .slice A0_2 l0_2.length c0_2, .int .i64 a0_3, .slice A0_4 l0_4.length c0_4] 39 (0, 0)) (by (with_reducible repeat (first | refine blk_drewN ?_ _ | refine blk_drew ?_ | refine blk_alloc ?_ _)); exact BK191.out) hb); have n1_ := Aside0.mk (blk_below (g := gb192) (o := .cells #[.slice A1_0 l1_0.length c1_0, .slice A1_1 l1_1.length c1_1, .slice A1_2 l1_2.length c1_2, .int .i64 a1_3, .slice A1_4 l1_4.length c1_4] 39 (0, 0)) (by (with_reducible repeat (first | refine blk_drewN ?_ _ | refine blk_drew ?_ | refine blk_alloc ?_ _)); exact BK192.out) hb); have n2_ := Aside0.mk (below_step (by repeat (first | (with_reducible first | exact HB.out | apply below_alloc | apply pw_below_drewN | apply below_drew1 | refine below_set ?_ GE191.out | refine below_set ?_ GE192.out) | exact HB.out)) hb); clear BK191; clear BK192; clear HB; have BK191 := n0_; have BK192 := n1_; have HB := n2_; clear n0_ n1_ n2_; (try clear hb); (try clear hb2); (try clear hk); (try clear hi); have hcz14_0 : w13.cell? ⟨gb191, 0, none⟩ = some (.slice A0_0 l0_0.length c0_0) := (blk_cell BK191.out 0).trans rfl; have hcz14_1 : w13.cell? ⟨gb191, 1, none⟩ = some (.slice A0_1 l0_1.length c0_1) := (blk_cell BK191.out 1).trans rfl; have hcz14_2 : w13.cell? ⟨gb191, 2, none⟩ = some (.slice A0_2 l0_2.length c0_2) := (blk_cell BK191.out 2).trans rfl; have hcz14_3 : w13.cell? ⟨gb191, 3, none⟩ = some (.int .i64 a0_3) := (blk_cell BK191.out 3).trans rfl; have hcz14_4 : w13.cell? ⟨gb191, 4, none⟩ = some (.slice A0_4 l0_4.length c0_4) := (blk_cell BK191.out 4).trans rfl; have hfz14_0 := blk_frozen BK191.out 0; have hfz14_1 := blk_frozen BK191.out 1; have hfz14_2 := blk_frozen BK191.out 2; have hfz14_3 := blk_frozen BK191.out 3; have hfz14_4 := blk_frozen BK191.out 4; have hcz15_0 : w13.cell? ⟨gb192, 0, none⟩ = some (.slice A1_0 l1_0.length c1_0) := (blk_cell BK192.out 0).trans rfl; have hcz15_1 : w13.cell? ⟨gb192, 1, none⟩ = some (.slice A1_1 l1_1.length c1_1) := (blk_cell BK192.out 1).trans rfl; have hcz15_2 : w13.cell? ⟨gb192, 2, none⟩ = some (.slice A1_2 l1_2.length c1_2) := (blk_cell BK192.out 2).trans rfl; have hcz15_3 : w13.cell? ⟨gb192, 3, none⟩ = some (.int .i64 a1_3) := (blk_cell BK192.out 3).trans rfl; have hcz15_4 : w13.cell? ⟨gb192, 4, none⟩ = some (.slice A1_4 l1_4.length c1_4) := (blk_cell BK192.out 4).trans rfl; have hfz15_0 := blk_frozen BK192.out 0; have hfz15_1 := blk_frozen BK192.out 1; have hfz15_2 := blk_frozen BK192.out 2; have hfz15_3 := blk_frozen BK192.out 3; have hfz15_4 := blk_frozen BK192.out 4) | (go_at_call 21; (with_reducible refine (spinneyref08_SameInts.calls k _ _ l0_4 _ _ l1_4 true _ ?side1 ?side2 ?side3 ?side4 A5.out).mono ?_); (case side1 => repeat (first | exact (Kd.C_below HR0_4.out HB.out) | (with_reducible refine Kd.C_alloc ?_ _) | (with_reducible refine Kd.C_drewN ?_ _) | (with_reducible refine Kd.C_drew ?_))); (case side2 => exact HC0_4.out); (case side3 => repeat (first | exact (Kd.C_below HR1_4.out HB.out) | (with_reducible refine Kd.C_alloc ?_ _) | (with_reducible refine Kd.C_drewN ?_ _) | (with_reducible refine Kd.C_drew ?_))); (case side4 => exact HC1_4.out); rintro e w' ⟨rfl, ⟨nd, rfl⟩⟩) | (go_at_call 34; (with_reducible refine (spinneyref14_SameState.calls k _ _ l0_1 _ _ l0_2 a0_3 _ _ l1_1 _ _ l1_2 a1_3 t195 _ ?side1 ?side2 ?side3 ?side4 ?side5 ?side6 ?side7 ?side8 A7.out).mono ?_); (case side1 => repeat (first | exact (Kd.C_below HR0_1.out (by repeat (first | (with_reducible first | exact HB.out | apply below_alloc | apply pw_below_drewN | apply below_drew1 | refine below_set ?_ GE191.out | refine below_set ?_ GE192.out) | exact HB.out))) | (with_reducible refine Kd.C_alloc ?_ _) | (with_reducible refine Kd.C_drewN ?_ _) | (with_reducible refine Kd.C_drew ?_))); (case side2 => exact HC0_1.out); (case side3 => repeat (first | exact (Kd.C_below HR0_2.out (by repeat (first | (with_reducible first | exact HB.out | apply below_alloc | apply pw_below_drewN | apply below_drew1 | refine below_set ?_ GE191.out | refine below_set ?_ GE192.out) | exact HB.out))) | (with_reducible refine Kd.C_alloc ?_ _) | (with_reducible refine Kd.C_drewN ?_ _) | (with_reducible refine Kd.C_drew ?_))); (case side4 => exact HC0_2.out); (case side5 => repeat (first | exact (Kd.C_below HR1_1.out (by repeat (first | (with_reducible first | exact HB.out | apply below_alloc | apply pw_below_drewN | apply below_drew1 | refine below_set ?_ GE191.out | refine below_set ?_ GE192.out) | exact HB.out))) | (with_reducible refine Kd.C_alloc ?_ _) | (with_reducible refine Kd.C_drewN ?_ _) | (with_reducible refine Kd.C_drew ?_))); (case side6 => exact HC1_1.out); (case side7 => repeat (first | exact (Kd.C_below HR1_2.out (by repeat (first | (with_reducible first | exact HB.out | apply below_alloc | apply pw_below_drewN | apply below_drew1 | refine below_set ?_ GE191.out | refine below_set ?_ GE192.out) | exact HB.out))) | (with_reducible refine Kd.C_alloc ?_ _) | (with_reducible refine Kd.C_drewN ?_ _) | (with_reducible refine Kd.C_drew ?_))); (case side8 => exact HC1_2.out); rintro e w16 ⟨rfl, hb⟩; have n0_ := Aside0.mk (blk_below (g := gb191) (o := .cells #[.slice A0_0 l0_0.length c0_0, .slice A0_1 l0_1.length c0_1, .slice A0_2 l0_2.length c0_2, .int .i64 a0_3, .slice A0_4 l0_4.length c0_4] 39 (0, 0)) (by (with_reducible repeat (first | refine blk_drewN ?_ _ | refine blk_drew ?_ | refine blk_alloc ?_ _)); exact BK191.out) hb); have n1_ := Aside0.mk (blk_below (g := gb192) (o := .cells #[.slice A1_0 l1_0.length c1_0, .slice A1_1 l1_1.length c1_1, .slice A1_2 l1_2.length c1_2, .int .i64 a1_3, .slice A1_4 l1_4.length c1_4] 39 (0, 0)) (by (with_reducible repeat (first | refine blk_drewN ?_ _ | refine blk_drew ?_ | refine blk_alloc ?_ _)); exact BK192.out) hb); have n2_ := Aside0.mk (below_step (by repeat (first | (with_reducible first | exact HB.out | apply below_alloc | apply pw_below_drewN | apply below_drew1 | refine below_set ?_ GE191.out | refine below_set ?_ GE192.out) | exact HB.out)) hb); clear BK191; clear BK192; clear HB; have BK191 := n0_; have BK192 := n1_; have HB := n2_; clear n0_ n1_ n2_; (try clear hb); (try clear hb2); (try clear hk); (try clear hi)))
      go_ret
      exact ⟨by first | rfl | (simp [errW_none, errW_some] <;> rfl) | (simp [*, errW_none, errW_some] <;> rfl), by repeat (first | (with_reducible first | exact HB.out | apply below_alloc | apply pw_below_drewN | apply below_drew1 | refine below_set ?_ GE191.out | refine below_set ?_ GE192.out) | exact HB.out)⟩
    · replace c6 := Bool.eq_false_iff.mpr c6
      subst c6
      have H1 : (some false) = some r := by rw [if_neg (show ¬ (false = true) by decide)] at H; exact H
      clear H
      have H := H1
      clear H1
      obtain rfl := Option.some.inj H
      go_enter Try.func24, Try.ntmps24
      go_wp2_with (first | ((with_reducible refine gate_dst (N := 2) rfl ?_); refine box_event ?hg (N := 2) ?hd (cs := #[.slice A0_0 l0_0.length c0_0, .slice A0_1 l0_1.length c0_1, .slice A0_2 l0_2.length c0_2, .int .i64 a0_3, .slice A0_4 l0_4.length c0_4]) (t := 39) ?hr ?_; (case hd => rfl); (case hg => rfl); (case hr => first | (go_simp; done) | (go_simp; rfl)); intro gb191 hg w17 hbox hb; have n0_ := Aside0.mk (below_step (by repeat (first | (with_reducible first | exact HB.out | apply below_alloc | apply pw_below_drewN | apply below_drew1) | exact HB.out)) hb); have n1_ := Aside0.mk (hbox); have n2_ := Aside0.mk ((by rw [hg]; exact (below_size (by repeat (first | (with_reducible first | exact HB.out | apply below_alloc | apply pw_below_drewN | apply below_drew1) | exact HB.out))) : w.heap.size ≤ gb191)); have n3_ := Aside0.mk ((by rw [hg]; exact (below_size (by repeat (first | (with_reducible first | exact HB.out | apply below_alloc | apply pw_below_drewN | apply below_drew1) | exact HB.out))) : w.heap.size ≤ gb191)); clear HB; have HB := n0_; have BK191 := n1_; have GW191 := n2_; have GE191 := n3_; clear n0_ n1_ n2_ n3_; clear hb hbox hg) | ((with_reducible refine gate_dst (N := 3) rfl ?_); refine box_event ?hg (N := 3) ?hd (cs := #[.slice A1_0 l1_0.length c1_0, .slice A1_1 l1_1.length c1_1, .slice A1_2 l1_2.length c1_2, .int .i64 a1_3, .slice A1_4 l1_4.length c1_4]) (t := 39) ?hr ?_; (case hd => rfl); (case hg => rfl); (case hr => first | (go_simp; done) | (go_simp; rfl)); intro gb192 hg w18 hbox hb; have n0_ := Aside0.mk (blk_below (g := gb191) (o := .cells #[.slice A0_0 l0_0.length c0_0, .slice A0_1 l0_1.length c0_1, .slice A0_2 l0_2.length c0_2, .int .i64 a0_3, .slice A0_4 l0_4.length c0_4] 39 (0, 0)) (by (with_reducible repeat (first | refine blk_drewN ?_ _ | refine blk_drew ?_ | refine blk_alloc ?_ _)); exact BK191.out) hb); have n1_ := Aside0.mk (below_step (by repeat (first | (with_reducible first | exact HB.out | apply below_alloc | apply pw_below_drewN | apply below_drew1 | refine below_set ?_ GE191.out) | exact HB.out)) hb); have n2_ := Aside0.mk (hbox); have n3_ := Aside0.mk ((by rw [hg]; exact (below_size (by repeat (first | (with_reducible first | exact HB.out | apply below_alloc | apply pw_below_drewN | apply below_drew1 | refine below_set ?_ GE191.out) | exact HB.out))) : w.heap.size ≤ gb192)); have n4_ := Aside0.mk ((by rw [hg]; exact (below_size (by repeat (first | (with_reducible first | exact HB.out | apply below_alloc | apply pw_below_drewN | apply below_drew1 | refine below_set ?_ GE191.out) | exact HB.out))) : w.heap.size ≤ gb192)); have n5_ := Aside0.mk ((by rw [hg]; exact Nat.ne_of_lt (blk_lt (g := gb191) (o := .cells #[.slice A0_0 l0_0.length c0_0, .slice A0_1 l0_1.length c0_1, .slice A0_2 l0_2.length c0_2, .int .i64 a0_3, .slice A0_4 l0_4.length c0_4] 39 (0, 0)) (by (with_reducible repeat (first | refine blk_drewN ?_ _ | refine blk_drew ?_ | refine blk_alloc ?_ _)); exact BK191.out)) : gb191 ≠ gb192)); have n6_ := Aside0.mk ((by rw [hg]; exact Nat.ne_of_gt (blk_lt (g := gb191) (o := .cells #[.slice A0_0 l0_0.length c0_0, .slice A0_1 l0_1.length c0_1, .slice A0_2 l0_2.length c0_2, .int .i64 a0_3, .slice A0_4 l0_4.length c0_4] 39 (0, 0)) (by (with_reducible repeat (first | refine blk_drewN ?_ _ | refine blk_drew ?_ | refine blk_alloc ?_ _)); exact BK191.out)) : gb192 ≠ gb191)); clear BK191; clear HB; have BK191 := n0_; have HB := n1_; have BK192 := n2_; have GW192 := n3_; have GE192 := n4_; have NB191_192 := n5_; have NB192_191 := n6_; clear n0_ n1_ n2_ n3_ n4_ n5_ n6_; clear hb hbox hg; have hnb19 := NB191_192.out; have hnc19 := NB192_191.out; have hcz20_0 : w18.cell? ⟨gb191, 0, none⟩ = some (.slice A0_0 l0_0.length c0_0) := (blk_cell BK191.out 0).trans rfl; have hcz20_1 : w18.cell? ⟨gb191, 1, none⟩ = some (.slice A0_1 l0_1.length c0_1) := (blk_cell BK191.out 1).trans rfl; have hcz20_2 : w18.cell? ⟨gb191, 2, none⟩ = some (.slice A0_2 l0_2.length c0_2) := (blk_cell BK191.out 2).trans rfl; have hcz20_3 : w18.cell? ⟨gb191, 3, none⟩ = some (.int .i64 a0_3) := (blk_cell BK191.out 3).trans rfl; have hcz20_4 : w18.cell? ⟨gb191, 4, none⟩ = some (.slice A0_4 l0_4.length c0_4) := (blk_cell BK191.out 4).trans rfl; have hfz20_0 := blk_frozen BK191.out 0; have hfz20_1 := blk_frozen BK191.out 1; have hfz20_2 := blk_frozen BK191.out 2; have hfz20_3 := blk_frozen BK191.out 3; have hfz20_4 := blk_frozen BK191.out 4; have hcz21_0 : w18.cell? ⟨gb192, 0, none⟩ = some (.slice A1_0 l1_0.length c1_0) := (blk_cell BK192.out 0).trans rfl; have hcz21_1 : w18.cell? ⟨gb192, 1, none⟩ = some (.slice A1_1 l1_1.length c1_1) := (blk_cell BK192.out 1).trans rfl; have hcz21_2 : w18.cell? ⟨gb192, 2, none⟩ = some (.slice A1_2 l1_2.length c1_2) := (blk_cell BK192.out 2).trans rfl; have hcz21_3 : w18.cell? ⟨gb192, 3, none⟩ = some (.int .i64 a1_3) := (blk_cell BK192.out 3).trans rfl; have hcz21_4 : w18.cell? ⟨gb192, 4, none⟩ = some (.slice A1_4 l1_4.length c1_4) := (blk_cell BK192.out 4).trans rfl; have hfz21_0 := blk_frozen BK192.out 0; have hfz21_1 := blk_frozen BK192.out 1; have hfz21_2 := blk_frozen BK192.out 2; have hfz21_3 := blk_frozen BK192.out 3; have hfz21_4 := blk_frozen BK192.out 4) | ((with_reducible refine gate_callee (f := 19) rfl ?_); refine goesL_ (some 9) rfl rfl Try.func19 (by kernel_rfl) rfl #[.slice A0_0 l0_0.length c0_0, .slice A1_0 l1_0.length c1_0] rfl (by (try simp only [List.map_toArray, List.map_cons, List.map_nil]); first | done | rfl | (simp only [List.length_drop, List.length_take]; rfl)) ?_; (with_reducible refine (spinneyref19_Compare.calls k _ _ l0_0 _ _ l1_0 t193 _ ?side1 ?side2 ?side3 ?side4 A3.out).mono ?_); (case side1 => repeat (first | exact (Kd.C_below HR0_0.out HB.out) | (with_reducible refine Kd.C_alloc ?_ _) | (with_reducible refine Kd.C_drewN ?_ _) | (with_reducible refine Kd.C_drew ?_))); (case side2 => exact HC0_0.out); (case side3 => repeat (first | exact (Kd.C_below HR1_0.out HB.out) | (with_reducible refine Kd.C_alloc ?_ _) | (with_reducible refine Kd.C_drewN ?_ _) | (with_reducible refine Kd.C_drew ?_))); (case side4 => exact HC1_0.out); rintro e w22 ⟨rfl, hb⟩; refine ⟨_, rfl, ?_⟩; have n0_ := Aside0.mk (blk_below (g := gb191) (o := .cells #[.slice A0_0 l0_0.length c0_0, .slice A0_1 l0_1.length c0_1, .slice A0_2 l0_2.length c0_2, .int .i64 a0_3, .slice A0_4 l0_4.length c0_4] 39 (0, 0)) (by (with_reducible repeat (first | refine blk_drewN ?_ _ | refine blk_drew ?_ | refine blk_alloc ?_ _)); exact BK191.out) hb); have n1_ := Aside0.mk (blk_below (g := gb192) (o := .cells #[.slice A1_0 l1_0.length c1_0, .slice A1_1 l1_1.length c1_1, .slice A1_2 l1_2.length c1_2, .int .i64 a1_3, .slice A1_4 l1_4.length c1_4] 39 (0, 0)) (by (with_reducible repeat (first | refine blk_drewN ?_ _ | refine blk_drew ?_ | refine blk_alloc ?_ _)); exact BK192.out) hb); have n2_ := Aside0.mk (below_step (by repeat (first | (with_reducible first | exact HB.out | apply below_alloc | apply pw_below_drewN | apply below_drew1 | refine below_set ?_ GE191.out | refine below_set ?_ GE192.out) | exact HB.out)) hb); clear BK191; clear BK192; clear HB; have BK191 := n0_; have BK192 := n1_; have HB := n2_; clear n0_ n1_ n2_; (try clear hb); (try clear hb2); (try clear hk); (try clear hi); have hcz23_0 : w22.cell? ⟨gb191, 0, none⟩ = some (.slice A0_0 l0_0.length c0_0) := (blk_cell BK191.out 0).trans rfl; have hcz23_1 : w22.cell? ⟨gb191, 1, none⟩ = some (.slice A0_1 l0_1.length c0_1) := (blk_cell BK191.out 1).trans rfl; have hcz23_2 : w22.cell? ⟨gb191, 2, none⟩ = some (.slice A0_2 l0_2.length c0_2) := (blk_cell BK191.out 2).trans rfl; have hcz23_3 : w22.cell? ⟨gb191, 3, none⟩ = some (.int .i64 a0_3) := (blk_cell BK191.out 3).trans rfl; have hcz23_4 : w22.cell? ⟨gb191, 4, none⟩ = some (.slice A0_4 l0_4.length c0_4) := (blk_cell BK191.out 4).trans rfl; have hfz23_0 := blk_frozen BK191.out 0; have hfz23_1 := blk_frozen BK191.out 1; have hfz23_2 := blk_frozen BK191.out 2; have hfz23_3 := blk_frozen BK191.out 3; have hfz23_4 := blk_frozen BK191.out 4; have hcz24_0 : w22.cell? ⟨gb192, 0, none⟩ = some (.slice A1_0 l1_0.length c1_0) := (blk_cell BK192.out 0).trans rfl; have hcz24_1 : w22.cell? ⟨gb192, 1, none⟩ = some (.slice A1_1 l1_1.length c1_1) := (blk_cell BK192.out 1).trans rfl; have hcz24_2 : w22.cell? ⟨gb192, 2, none⟩ = some (.slice A1_2 l1_2.length c1_2) := (blk_cell BK192.out 2).trans rfl; have hcz24_3 : w22.cell? ⟨gb192, 3, none⟩ = some (.int .i64 a1_3) := (blk_cell BK192.out 3).trans rfl; have hcz24_4 : w22.cell? ⟨gb192, 4, none⟩ = some (.slice A1_4 l1_4.length c1_4) := (blk_cell BK192.out 4).trans rfl; have hfz24_0 := blk_frozen BK192.out 0; have hfz24_1 := blk_frozen BK192.out 1; have hfz24_2 := blk_frozen BK192.out 2; have hfz24_3 := blk_frozen BK192.out 3; have hfz24_4 := blk_frozen BK192.out 4) | (go_at_call 21; (with_reducible refine (spinneyref08_SameInts.calls k _ _ l0_4 _ _ l1_4 false _ ?side1 ?side2 ?side3 ?side4 A5.out).mono ?_); (case side1 => repeat (first | exact (Kd.C_below HR0_4.out HB.out) | (with_reducible refine Kd.C_alloc ?_ _) | (with_reducible refine Kd.C_drewN ?_ _) | (with_reducible refine Kd.C_drew ?_))); (case side2 => exact HC0_4.out); (case side3 => repeat (first | exact (Kd.C_below HR1_4.out HB.out) | (with_reducible refine Kd.C_alloc ?_ _) | (with_reducible refine Kd.C_drewN ?_ _) | (with_reducible refine Kd.C_drew ?_))); (case side4 => exact HC1_4.out); rintro e w' ⟨rfl, ⟨nd, rfl⟩⟩))
      go_ret
      exact ⟨by first | rfl | (simp [errW_none, errW_some] <;> rfl) | (simp [*, errW_none, errW_some] <;> rfl), by repeat (first | (with_reducible first | exact HB.out | apply below_alloc | apply pw_below_drewN | apply below_drew1 | refine below_set ?_ GE191.out | refine below_set ?_ GE192.out) | exact HB.out)⟩
  · rw [if_neg c4] at H
    have c4b0 : (t193 == 0) = false := beq_eq_false_iff_ne.mpr c4
    have c4b1 : (t193 != 0) = true := bne_iff_ne.mpr c4
    obtain rfl := Option.some.inj H
    go_enter Try.func24, Try.ntmps24
    go_wp2_with (first | ((with_reducible refine gate_dst (N := 2) rfl ?_); refine box_event ?hg (N := 2) ?hd (cs := #[.slice A0_0 l0_0.length c0_0, .slice A0_1 l0_1.length c0_1, .slice A0_2 l0_2.length c0_2, .int .i64 a0_3, .slice A0_4 l0_4.length c0_4]) (t := 39) ?hr ?_; (case hd => rfl); (case hg => rfl); (case hr => first | (go_simp; done) | (go_simp; rfl)); intro gb191 hg w25 hbox hb; have n0_ := Aside0.mk (below_step (by repeat (first | (with_reducible first | exact HB.out | apply below_alloc | apply pw_below_drewN | apply below_drew1) | exact HB.out)) hb); have n1_ := Aside0.mk (hbox); have n2_ := Aside0.mk ((by rw [hg]; exact (below_size (by repeat (first | (with_reducible first | exact HB.out | apply below_alloc | apply pw_below_drewN | apply below_drew1) | exact HB.out))) : w.heap.size ≤ gb191)); have n3_ := Aside0.mk ((by rw [hg]; exact (below_size (by repeat (first | (with_reducible first | exact HB.out | apply below_alloc | apply pw_below_drewN | apply below_drew1) | exact HB.out))) : w.heap.size ≤ gb191)); clear HB; have HB := n0_; have BK191 := n1_; have GW191 := n2_; have GE191 := n3_; clear n0_ n1_ n2_ n3_; clear hb hbox hg) | ((with_reducible refine gate_dst (N := 3) rfl ?_); refine box_event ?hg (N := 3) ?hd (cs := #[.slice A1_0 l1_0.length c1_0, .slice A1_1 l1_1.length c1_1, .slice A1_2 l1_2.length c1_2, .int .i64 a1_3, .slice A1_4 l1_4.length c1_4]) (t := 39) ?hr ?_; (case hd => rfl); (case hg => rfl); (case hr => first | (go_simp; done) | (go_simp; rfl)); intro gb192 hg w26 hbox hb; have n0_ := Aside0.mk (blk_below (g := gb191) (o := .cells #[.slice A0_0 l0_0.length c0_0, .slice A0_1 l0_1.length c0_1, .slice A0_2 l0_2.length c0_2, .int .i64 a0_3, .slice A0_4 l0_4.length c0_4] 39 (0, 0)) (by (with_reducible repeat (first | refine blk_drewN ?_ _ | refine blk_drew ?_ | refine blk_alloc ?_ _)); exact BK191.out) hb); have n1_ := Aside0.mk (below_step (by repeat (first | (with_reducible first | exact HB.out | apply below_alloc | apply pw_below_drewN | apply below_drew1 | refine below_set ?_ GE191.out) | exact HB.out)) hb); have n2_ := Aside0.mk (hbox); have n3_ := Aside0.mk ((by rw [hg]; exact (below_size (by repeat (first | (with_reducible first | exact HB.out | apply below_alloc | apply pw_below_drewN | apply below_drew1 | refine below_set ?_ GE191.out) | exact HB.out))) : w.heap.size ≤ gb192)); have n4_ := Aside0.mk ((by rw [hg]; exact (below_size (by repeat (first | (with_reducible first | exact HB.out | apply below_alloc | apply pw_below_drewN | apply below_drew1 | refine below_set ?_ GE191.out) | exact HB.out))) : w.heap.size ≤ gb192)); have n5_ := Aside0.mk ((by rw [hg]; exact Nat.ne_of_lt (blk_lt (g := gb191) (o := .cells #[.slice A0_0 l0_0.length c0_0, .slice A0_1 l0_1.length c0_1, .slice A0_2 l0_2.length c0_2, .int .i64 a0_3, .slice A0_4 l0_4.length c0_4] 39 (0, 0)) (by (with_reducible repeat (first | refine blk_drewN ?_ _ | refine blk_drew ?_ | refine blk_alloc ?_ _)); exact BK191.out)) : gb191 ≠ gb192)); have n6_ := Aside0.mk ((by rw [hg]; exact Nat.ne_of_gt (blk_lt (g := gb191) (o := .cells #[.slice A0_0 l0_0.length c0_0, .slice A0_1 l0_1.length c0_1, .slice A0_2 l0_2.length c0_2, .int .i64 a0_3, .slice A0_4 l0_4.length c0_4] 39 (0, 0)) (by (with_reducible repeat (first | refine blk_drewN ?_ _ | refine blk_drew ?_ | refine blk_alloc ?_ _)); exact BK191.out)) : gb192 ≠ gb191)); clear BK191; clear HB; have BK191 := n0_; have HB := n1_; have BK192 := n2_; have GW192 := n3_; have GE192 := n4_; have NB191_192 := n5_; have NB192_191 := n6_; clear n0_ n1_ n2_ n3_ n4_ n5_ n6_; clear hb hbox hg; have hnb27 := NB191_192.out; have hnc27 := NB192_191.out; have hcz28_0 : w26.cell? ⟨gb191, 0, none⟩ = some (.slice A0_0 l0_0.length c0_0) := (blk_cell BK191.out 0).trans rfl; have hcz28_1 : w26.cell? ⟨gb191, 1, none⟩ = some (.slice A0_1 l0_1.length c0_1) := (blk_cell BK191.out 1).trans rfl; have hcz28_2 : w26.cell? ⟨gb191, 2, none⟩ = some (.slice A0_2 l0_2.length c0_2) := (blk_cell BK191.out 2).trans rfl; have hcz28_3 : w26.cell? ⟨gb191, 3, none⟩ = some (.int .i64 a0_3) := (blk_cell BK191.out 3).trans rfl; have hcz28_4 : w26.cell? ⟨gb191, 4, none⟩ = some (.slice A0_4 l0_4.length c0_4) := (blk_cell BK191.out 4).trans rfl; have hfz28_0 := blk_frozen BK191.out 0; have hfz28_1 := blk_frozen BK191.out 1; have hfz28_2 := blk_frozen BK191.out 2; have hfz28_3 := blk_frozen BK191.out 3; have hfz28_4 := blk_frozen BK191.out 4; have hcz29_0 : w26.cell? ⟨gb192, 0, none⟩ = some (.slice A1_0 l1_0.length c1_0) := (blk_cell BK192.out 0).trans rfl; have hcz29_1 : w26.cell? ⟨gb192, 1, none⟩ = some (.slice A1_1 l1_1.length c1_1) := (blk_cell BK192.out 1).trans rfl; have hcz29_2 : w26.cell? ⟨gb192, 2, none⟩ = some (.slice A1_2 l1_2.length c1_2) := (blk_cell BK192.out 2).trans rfl; have hcz29_3 : w26.cell? ⟨gb192, 3, none⟩ = some (.int .i64 a1_3) := (blk_cell BK192.out 3).trans rfl; have hcz29_4 : w26.cell? ⟨gb192, 4, none⟩ = some (.slice A1_4 l1_4.length c1_4) := (blk_cell BK192.out 4).trans rfl; have hfz29_0 := blk_frozen BK192.out 0; have hfz29_1 := blk_frozen BK192.out 1; have hfz29_2 := blk_frozen BK192.out 2; have hfz29_3 := blk_frozen BK192.out 3; have hfz29_4 := blk_frozen BK192.out 4) | ((with_reducible refine gate_callee (f := 19) rfl ?_); refine goesL_ (some 9) rfl rfl Try.func19 (by kernel_rfl) rfl #[.slice A0_0 l0_0.length c0_0, .slice A1_0 l1_0.length c1_0] rfl (by (try simp only [List.map_toArray, List.map_cons, List.map_nil]); first | done | rfl | (simp only [List.length_drop, List.length_take]; rfl)) ?_; (with_reducible refine (spinneyref19_Compare.calls k _ _ l0_0 _ _ l1_0 t193 _ ?side1 ?side2 ?side3 ?side4 A3.out).mono ?_); (case side1 => repeat (first | exact (Kd.C_below HR0_0.out HB.out) | (with_reducible refine Kd.C_alloc ?_ _) | (with_reducible refine Kd.C_drewN ?_ _) | (with_reducible refine Kd.C_drew ?_))); (case side2 => exact HC0_0.out); (case side3 => repeat (first | exact (Kd.C_below HR1_0.out HB.out) | (with_reducible refine Kd.C_alloc ?_ _) | (with_reducible refine Kd.C_drewN ?_ _) | (with_reducible refine Kd.C_drew ?_))); (case side4 => exact HC1_0.out); rintro e w30 ⟨rfl, hb⟩; refine ⟨_, rfl, ?_⟩; have n0_ := Aside0.mk (blk_below (g := gb191) (o := .cells #[.slice A0_0 l0_0.length c0_0, .slice A0_1 l0_1.length c0_1, .slice A0_2 l0_2.length c0_2, .int .i64 a0_3, .slice A0_4 l0_4.length c0_4] 39 (0, 0)) (by (with_reducible repeat (first | refine blk_drewN ?_ _ | refine blk_drew ?_ | refine blk_alloc ?_ _)); exact BK191.out) hb); have n1_ := Aside0.mk (blk_below (g := gb192) (o := .cells #[.slice A1_0 l1_0.length c1_0, .slice A1_1 l1_1.length c1_1, .slice A1_2 l1_2.length c1_2, .int .i64 a1_3, .slice A1_4 l1_4.length c1_4] 39 (0, 0)) (by (with_reducible repeat (first | refine blk_drewN ?_ _ | refine blk_drew ?_ | refine blk_alloc ?_ _)); exact BK192.out) hb); have n2_ := Aside0.mk (below_step (by repeat (first | (with_reducible first | exact HB.out | apply below_alloc | apply pw_below_drewN | apply below_drew1 | refine below_set ?_ GE191.out | refine below_set ?_ GE192.out) | exact HB.out)) hb); clear BK191; clear BK192; clear HB; have BK191 := n0_; have BK192 := n1_; have HB := n2_; clear n0_ n1_ n2_; (try clear hb); (try clear hb2); (try clear hk); (try clear hi)))
    go_ret
    exact ⟨by first | rfl | (simp [errW_none, errW_some] <;> rfl) | (simp [*, errW_none, errW_some] <;> rfl), by repeat (first | (with_reducible first | exact HB.out | apply below_alloc | apply pw_below_drewN | apply below_drew1 | refine below_set ?_ GE191.out | refine below_set ?_ GE192.out) | exact HB.out)⟩

/-! ### spinneyref21_Same: function 15 -/
def spinneyref21_Same.l0 : Nat → List (S39) → List (S39) → Int → Int → Option (Bool)
  | 0, _, _, _, _ => none
  | k + 1, x0, x1, x12, x13 => if x13 < x12 then (if 0 ≤ x13 then (if x13 < (x0.length : Int) then (if x13 < (x1.length : Int) then ((spinneyref21_SameOne.f k ((rd_T39 x0 x13).f0) ((rd_T39 x0 x13).f1.f0) ((rd_T39 x0 x13).f1.f1) ((rd_T39 x0 x13).f1.f2) ((rd_T39 x0 x13).f2) ((rd_T39 x1 x13).f0) ((rd_T39 x1 x13).f1.f0) ((rd_T39 x1 x13).f1.f1) ((rd_T39 x1 x13).f1.f2) ((rd_T39 x1 x13).f2)).bind fun t198 => (if t198 = true then (spinneyref21_Same.l0 k x0 x1 x12 (wrap64 (x13 + 1))) else (some false))) else (none)) else (none)) else (none)) else (some true)
def spinneyref21_Same.f (k : Nat) (l0 : List (S39)) (l1 : List (S39)) : Option (Bool) := if (l0.length : Int) = (l1.length : Int) then (spinneyref21_Same.l0 k l0 l1 (l0.length : Int) 0) else (some false)
theorem spinneyref21_Same.mono_l : ∀ k, (∀ y0 y1 y2 y3, LeO (spinneyref21_Same.l0 k y0 y1 y2 y3) (spinneyref21_Same.l0 (k + 1) y0 y1 y2 y3))
  | 0 => fun _ _ _ _ r h => by simp [spinneyref21_Same.l0] at h
  | k + 1 => by
    have ih0 := spinneyref21_Same.mono_l k
    · intro y0 y1 y2 y3
      unfold spinneyref21_Same.l0
      repeat' first
      | (with_reducible exact ih0 _ _ _ _)
      | (with_reducible exact spinneyref21_SameOne.mono _ _ _ _ _ _ _ _ _ _ _)
      | (with_reducible exact LeO.refl _)
      | (with_reducible exact LeO.none _)
      | (with_reducible refine LeO.ite ?_ ?_)
      | (with_reducible refine LeO.bind ?_ (fun _ => ?_))
      | exact ih0 _ _ _ _
      | exact spinneyref21_SameOne.mono _ _ _ _ _ _ _ _ _ _ _
      | exact LeO.none _
      | refine LeO.ite ?_ ?_
      | refine LeO.bind ?_ (fun _ => ?_)
theorem spinneyref21_Same.mono : ∀ a0 a1 k, LeO (spinneyref21_Same.f k a0 a1) (spinneyref21_Same.f (k + 1) a0 a1) := by
  intro a0 a1 k
  have ih0 := spinneyref21_Same.mono_l k
  unfold spinneyref21_Same.f
  repeat' first
      | (with_reducible exact ih0 _ _ _ _)
      | (with_reducible exact spinneyref21_SameOne.mono _ _ _ _ _ _ _ _ _ _ _)
      | (with_reducible exact LeO.refl _)
      | (with_reducible exact LeO.none _)
      | (with_reducible refine LeO.ite ?_ ?_)
      | (with_reducible refine LeO.bind ?_ (fun _ => ?_))
      | exact ih0 _ _ _ _
      | exact spinneyref21_SameOne.mono _ _ _ _ _ _ _ _ _ _ _
      | exact LeO.none _
      | refine LeO.ite ?_ ?_
      | refine LeO.bind ?_ (fun _ => ?_)
def spinneyref21_Same.T6 : Bool × List (List Nat × List Nat) := (true, [([], []), ([], []), ([0, 1], [0, 1]), ([2], [2]), ([], []), ([], []), ([4, 5], [4, 5]), ([6], [6]), ([3, 7], [3, 7]), ([8], [8])])
def spinneyref21_Same.B6 : List Nat := [0, 0, 3, 7, 0, 0, 48, 112, 255, 511]
theorem spinneyref21_Same.tab6 : rtab .any (opsOf Try.f15 6) = spinneyref21_Same.T6 := by kernel_rfl
theorem spinneyref21_Same.bits6 : waitsOk spinneyref21_Same.T6.2 spinneyref21_Same.B6 = true := by kernel_rfl
set_option maxHeartbeats 8000000 in
set_option maxRecDepth 100000 in
theorem spinneyref21_Same.calls (k : Nat) (A0 : Option Addr) (c0 : Nat) (l0 : List (S39)) (A1 : Option Addr) (c1 : Nat) (l1 : List (S39)) (r : Bool) (w : World) (hr0 : Kd.C k39 w A0 l0.length l0) (hc0 : l0.length ≤ c0) (hr1 : Kd.C k39 w A1 l1.length l1) (hc1 : l1.length ≤ c1) (h : spinneyref21_Same.f k l0 l1 = some r) :
    Calls Try.prog 15 #[.slice A0 l0.length c0, .slice A1 l1.length c1] w fun e w' => e = .returned (.bool r) ∧ Below w.heap.size w w' := by
  have hu39 := Try.underlying39
  have HR0 := Aside0.mk hr0
  have HC0 := Aside0.mk hc0
  clear hr0 hc0
  have HR1 := Aside0.mk hr1
  have HC1 := Aside0.mk hc1
  clear hr1 hc1
  have HB := Aside0.mk (Below.refl w.heap.size w)
  have H : (if (l0.length : Int) = (l1.length : Int) then (spinneyref21_Same.l0 k l0 l1 (l0.length : Int) 0) else (some false)) = some r := h
  clear h
  by_cases c3 : (l0.length : Int) = (l1.length : Int)
  · rw [if_pos c3] at H
    have c3b0 : ((l0.length : Int) == (l1.length : Int)) = true := beq_iff_eq.mpr c3
    have c3b1 : ((l0.length : Int) != (l1.length : Int)) = false := bne_eq_false_iff_eq.mpr c3
    have c3b2 : (l0.length == l1.length) = true := by first | simpa using c3 | (simp at c3 ⊢; omega)
    clear c3
    have H' := Aside0.mk H
    clear H
    go_enter Try.func15, Try.ntmps15
    go_wp2
    go_loopg [13] k (fun kq v13 w' => ∃ (x13_1 : Int), v13 = .int .i64 x13_1 ∧ Aside0 (spinneyref21_Same.l0 kq l0 l1 (l0.length : Int) x13_1 = some r) ∧ Aside0 (kq ≤ k) ∧ Aside0 (Below w.heap.size w w'))
    case atStart => exact ⟨(0), (by first | rfl | (simp; done) | (simp [*]; done)), H', ⟨Nat.le_refl _⟩, ⟨by repeat (first | (with_reducible first | exact HB.out | apply below_alloc | apply pw_below_drewN | apply below_drew1) | exact HB.out)⟩⟩
    case round =>
      clear H'
      try clear c1
      try clear p2
      try clear c3
      try clear c3b0
      try clear c3b1
      try clear c3b2
      obtain ⟨x13_1, rfl, HA, HK1, HB⟩ := hrel
      cases gk with
      | zero => exact absurd HA.out (by simp [spinneyref21_Same.l0])
      | succ k1 =>
        have H := HA.out
        clear HA
        simp only [spinneyref21_Same.l0] at H
        by_cases c4 : x13_1 < (l0.length : Int)
        · rw [if_pos c4] at H
          have c4b0 : decide (x13_1 < (l0.length : Int)) = true := decide_eq_true c4
          clear c4
          by_cases c5 : 0 ≤ x13_1
          · rw [if_pos c5] at H
            have c5b0 : decide (0 ≤ x13_1) = true := decide_eq_true c5
            clear c5
            by_cases c6 : x13_1 < (l0.length : Int)
            · rw [if_pos c6] at H
              have c6b0 : decide (x13_1 < (l0.length : Int)) = true := decide_eq_true c6
              clear c6
              by_cases c7 : x13_1 < (l1.length : Int)
              · rw [if_pos c7] at H
                have c7b0 : decide (x13_1 < (l1.length : Int)) = true := decide_eq_true c7
                clear c7
                replace H := Option.bind_eq_some_iff.mp H
                obtain ⟨t198, A80, H⟩ := H
                replace H : (if t198 = true then (spinneyref21_Same.l0 k1 l0 l1 (l0.length : Int) (wrap64 (x13_1 + 1))) else (some false)) = some r := H
                have A8 := Aside0.mk A80
                clear A80
                by_cases c9 : t198 = true
                · subst c9
                  have H1 : (spinneyref21_Same.l0 k1 l0 l1 (l0.length : Int) (wrap64 (x13_1 + 1))) = some r := by rw [if_pos rfl] at H; exact H
                  clear H
                  have H := H1
                  clear H1
                  have H' := Aside0.mk H
                  clear H
                  try go_wp2
                  have n0_ := Aside0.mk (below_drew1 HB.out)
                  clear HB
                  have HB := n0_
                  clear n0_
                  have p196 : 0 ≤ (x13_1 : Int) := of_decide_eq_true (by first | (with_reducible assumption) | assumption)
                  have q196 : x13_1 < (l0.length : Int) := of_decide_eq_true (by first | (with_reducible assumption) | assumption)
                  obtain ⟨ad196, A196_0, c196_0, A196_1, c196_1, A196_2, c196_2, A196_4, c196_4, e196, hx196_0, hx196_1, hx196_2, hx196_3, hx196_4, hl196_0, hi196_0, hl196_1, hi196_1, hl196_2, hi196_2, hl196_4, hi196_4⟩ := at_T39 HR0.out x13_1 p196 q196
                  have hw196_4 := hx196_4
                  have hw196_3 := hx196_3
                  have hw196_2 := hx196_2
                  have hw196_1 := hx196_1
                  have hw196_0 := hx196_0
                  cases e196
                  replace hx196_0 := (HB.out.cell (World.block_lt_of_cell? w _ hx196_0)).trans hx196_0
                  replace hx196_1 := (HB.out.cell (World.block_lt_of_cell? w _ hx196_1)).trans hx196_1
                  replace hx196_2 := (HB.out.cell (World.block_lt_of_cell? w _ hx196_2)).trans hx196_2
                  replace hx196_3 := (HB.out.cell (World.block_lt_of_cell? w _ hx196_3)).trans hx196_3
                  replace hx196_4 := (HB.out.cell (World.block_lt_of_cell? w _ hx196_4)).trans hx196_4
                  have HR196_0 := Aside0.mk hi196_0
                  have HC196_0 := Aside0.mk hl196_0
                  clear hi196_0 hl196_0
                  have HR196_1 := Aside0.mk hi196_1
                  have HC196_1 := Aside0.mk hl196_1
                  clear hi196_1 hl196_1
                  have HR196_2 := Aside0.mk hi196_2
                  have HC196_2 := Aside0.mk hl196_2
                  clear hi196_2 hl196_2
                  have HR196_4 := Aside0.mk hi196_4
                  have HC196_4 := Aside0.mk hl196_4
                  clear hi196_4 hl196_4
                  replace p196 := eq_true p196
                  replace q196 := eq_true q196
                  have p197 : 0 ≤ (x13_1 : Int) := of_decide_eq_true (by first | (with_reducible assumption) | assumption)
                  have q197 : x13_1 < (l1.length : Int) := of_decide_eq_true (by first | (with_reducible assumption) | assumption)
                  obtain ⟨ad197, A197_0, c197_0, A197_1, c197_1, A197_2, c197_2, A197_4, c197_4, e197, hx197_0, hx197_1, hx197_2, hx197_3, hx197_4, hl197_0, hi197_0, hl197_1, hi197_1, hl197_2, hi197_2, hl197_4, hi197_4⟩ := at_T39 HR1.out x13_1 p197 q197
                  have hw197_4 := hx197_4
                  have hw197_3 := hx197_3
                  have hw197_2 := hx197_2
                  have hw197_1 := hx197_1
                  have hw197_0 := hx197_0
                  cases e197
                  replace hx197_0 := (HB.out.cell (World.block_lt_of_cell? w _ hx197_0)).trans hx197_0
                  replace hx197_1 := (HB.out.cell (World.block_lt_of_cell? w _ hx197_1)).trans hx197_1
                  replace hx197_2 := (HB.out.cell (World.block_lt_of_cell? w _ hx197_2)).trans hx197_2
                  replace hx197_3 := (HB.out.cell (World.block_lt_of_cell? w _ hx197_3)).trans hx197_3
                  replace hx197_4 := (HB.out.cell (World.block_lt_of_cell? w _ hx197_4)).trans hx197_4
                  have HR197_0 := Aside0.mk hi197_0
                  have HC197_0 := Aside0.mk hl197_0
                  clear hi197_0 hl197_0
                  have HR197_1 := Aside0.mk hi197_1
                  have HC197_1 := Aside0.mk hl197_1
                  clear hi197_1 hl197_1
                  have HR197_2 := Aside0.mk hi197_2
                  have HC197_2 := Aside0.mk hl197_2
                  clear hi197_2 hl197_2
                  have HR197_4 := Aside0.mk hi197_4
                  have HC197_4 := Aside0.mk hl197_4
                  clear hi197_4 hl197_4
                  replace p197 := eq_true p197
                  replace q197 := eq_true q197
                  refine start_ (n := 10) (S := fun w' => w'.cell? (ad196.add ((x13_1).toNat * 5)) = some (.slice A196_0 ((rd_T39 l0 x13_1).f0).length c196_0) ∧ w'.cell? ⟨(ad196.add ((x13_1).toNat * 5)).block, (ad196.add ((x13_1).toNat * 5)).off + 1, none⟩ = some (.slice A196_1 ((rd_T39 l0 x13_1).f1.f0).length c196_1) ∧ w'.cell? ⟨(ad196.add ((x13_1).toNat * 5)).block, (ad196.add ((x13_1).toNat * 5)).off + 2, none⟩ = some (.slice A196_2 ((rd_T39 l0 x13_1).f1.f1).length c196_2) ∧ w'.cell? ⟨(ad196.add ((x13_1).toNat * 5)).block, (ad196.add ((x13_1).toNat * 5)).off + 3, none⟩ = some (.int .i64 ((rd_T39 l0 x13_1).f1.f2)) ∧ w'.cell? ⟨(ad196.add ((x13_1).toNat * 5)).block, (ad196.add ((x13_1).toNat * 5)).off + 4, none⟩ = some (.slice A196_4 ((rd_T39 l0 x13_1).f2).length c196_4) ∧ w'.cell? (ad197.add ((x13_1).toNat * 5)) = some (.slice A197_0 ((rd_T39 l1 x13_1).f0).length c197_0) ∧ w'.cell? ⟨(ad197.add ((x13_1).toNat * 5)).block, (ad197.add ((x13_1).toNat * 5)).off + 1, none⟩ = some (.slice A197_1 ((rd_T39 l1 x13_1).f1.f0).length c197_1) ∧ w'.cell? ⟨(ad197.add ((x13_1).toNat * 5)).block, (ad197.add ((x13_1).toNat * 5)).off + 2, none⟩ = some (.slice A197_2 ((rd_T39 l1 x13_1).f1.f1).length c197_2) ∧ w'.cell? ⟨(ad197.add ((x13_1).toNat * 5)).block, (ad197.add ((x13_1).toNat * 5)).off + 3, none⟩ = some (.int .i64 ((rd_T39 l1 x13_1).f1.f2)) ∧ w'.cell? ⟨(ad197.add ((x13_1).toNat * 5)).block, (ad197.add ((x13_1).toNat * 5)).off + 4, none⟩ = some (.slice A197_4 ((rd_T39 l1 x13_1).f2).length c197_4)) (ds := []) #[false, false, false, false, false, false, false, false, false, false] (by kernel_rfl) rfl rfl ⟨((HB.out.cell (World.block_lt_of_cell? w _ hw196_0)).trans hw196_0), ((HB.out.cell (World.block_lt_of_cell? w _ hw196_1)).trans hw196_1), ((HB.out.cell (World.block_lt_of_cell? w _ hw196_2)).trans hw196_2), ((HB.out.cell (World.block_lt_of_cell? w _ hw196_3)).trans hw196_3), ((HB.out.cell (World.block_lt_of_cell? w _ hw196_4)).trans hw196_4), ((HB.out.cell (World.block_lt_of_cell? w _ hw197_0)).trans hw197_0), ((HB.out.cell (World.block_lt_of_cell? w _ hw197_1)).trans hw197_1), ((HB.out.cell (World.block_lt_of_cell? w _ hw197_2)).trans hw197_2), ((HB.out.cell (World.block_lt_of_cell? w _ hw197_3)).trans hw197_3), ((HB.out.cell (World.block_lt_of_cell? w _ hw197_4)).trans hw197_4)⟩ (fun hHeld => ?_); refine with_tabW spinneyref21_Same.tab6 spinneyref21_Same.bits6 (fun HT_ HW_ => ?_)
                  generalize wr.drew = w10 at HB HR196_0 HR196_1 HR196_2 HR196_4 HR197_0 HR197_1 HR197_2 HR197_4 hx196_0 hx196_1 hx196_2 hx196_3 hx196_4 hx197_0 hx197_1 hx197_2 hx197_3 hx197_4 hHeld ⊢
                  refine pure_ (i := 0) (N := some 16) (v := ?_) (a' := ?_) #[true, false, false, false, false, false, false, false, false, false] rfl rfl (any_of HT_.out (by kernel_rfl)) (fun _ _ _ h => h) (Or.inl ⟨by rfl, ?_⟩) ?_ ?_
                  rotate_left
                  · intro w'
                    go_simp
                    with_reducible rfl
                  rotate_left
                  · simp only [Act.put, List.setIfInBounds_toArray, List.set_cons_zero, List.set_cons_succ, i64_w, i32_w]
                    rfl
                  refine pure_ (i := 1) (N := some 17) (v := ?_) (a' := ?_) #[true, true, false, false, false, false, false, false, false, false] rfl rfl (any_of HT_.out (by kernel_rfl)) (fun _ _ _ h => h) (Or.inl ⟨by rfl, ?_⟩) ?_ ?_
                  rotate_left
                  · intro w'
                    go_simp
                    with_reducible rfl
                  rotate_left
                  · simp only [Act.put, List.setIfInBounds_toArray, List.set_cons_zero, List.set_cons_succ, i64_w, i32_w]
                    rfl
                  refine pure_ (i := 2) (N := some 18) (v := ?_) (a' := ?_) #[true, true, true, false, false, false, false, false, false, false] rfl rfl (any_of HT_.out (by kernel_rfl)) (fun _ _ _ h => h) (Or.inl ⟨by rfl, ?_⟩) ?_ ?_
                  rotate_left
                  · intro w'
                    go_simp
                    with_reducible rfl
                  rotate_left
                  · simp only [Act.put, List.setIfInBounds_toArray, List.set_cons_zero, List.set_cons_succ, i64_w, i32_w]
                    rfl
                  refine pure_ (i := 4) (N := some 20) (v := ?_) (a' := ?_) #[true, true, true, false, true, false, false, false, false, false] rfl rfl (any_of HT_.out (by kernel_rfl)) (fun _ _ _ h => h) (Or.inl ⟨by rfl, ?_⟩) ?_ ?_
                  rotate_left
                  · intro w'
                    go_simp
                    with_reducible rfl
                  rotate_left
                  · simp only [Act.put, List.setIfInBounds_toArray, List.set_cons_zero, List.set_cons_succ, i64_w, i32_w]
                    rfl
                  refine pure_ (i := 5) (N := some 21) (v := ?_) (a' := ?_) #[true, true, true, false, true, true, false, false, false, false] rfl rfl (any_of HT_.out (by kernel_rfl)) (fun _ _ _ h => h) (Or.inl ⟨by rfl, ?_⟩) ?_ ?_
                  rotate_left
                  · intro w'
                    go_simp
                    with_reducible rfl
                  rotate_left
                  · simp only [Act.put, List.setIfInBounds_toArray, List.set_cons_zero, List.set_cons_succ, i64_w, i32_w]
                    rfl
                  refine pure_ (i := 6) (N := some 22) (v := ?_) (a' := ?_) #[true, true, true, false, true, true, true, false, false, false] rfl rfl (any_of HT_.out (by kernel_rfl)) (fun _ _ _ h => h) (Or.inl ⟨by rfl, ?_⟩) ?_ ?_
                  rotate_left
                  · intro w'
                    go_simp
                    with_reducible rfl
                  rotate_left
                  · simp only [Act.put, List.setIfInBounds_toArray, List.set_cons_zero, List.set_cons_succ, i64_w, i32_w]
                    rfl
                  refine take_ (i := 3) (N := some 19) (v := ?_) (a' := ?_) #[true, true, true, true, true, true, true, false, false, false] rfl rfl (take_ofW HT_.out HW_.out (by kernel_rfl)) (fun _ _ _ h => h) (Or.inl ⟨by rfl, ?_⟩) hHeld ?_ ?_
                  rotate_left
                  · rintro w' ⟨s0, s1, s2, s3, s4, s5, s6, s7, s8, s9⟩
                    go_simp
                    with_reducible rfl
                  rotate_left
                  · simp only [Act.put, List.setIfInBounds_toArray, List.set_cons_zero, List.set_cons_succ, i64_w, i32_w]
                    rfl
                  refine take_ (i := 7) (N := some 23) (v := ?_) (a' := ?_) #[true, true, true, true, true, true, true, true, false, false] rfl rfl (take_ofW HT_.out HW_.out (by kernel_rfl)) (fun _ _ _ h => h) (Or.inl ⟨by rfl, ?_⟩) hHeld ?_ ?_
                  rotate_left
                  · rintro w' ⟨s0, s1, s2, s3, s4, s5, s6, s7, s8, s9⟩
                    go_simp
                    with_reducible rfl
                  rotate_left
                  · simp only [Act.put, List.setIfInBounds_toArray, List.set_cons_zero, List.set_cons_succ, i64_w, i32_w]
                    rfl
                  refine one_ (i := 8) (N := some 24) #[true, true, true, true, true, true, true, true, true, false] rfl rfl (one_of HT_.out (by kernel_rfl)) (by decide) (fun K hK => ?_)
                  refine goes_ Try.func24 (by kernel_rfl) rfl #[.agg #[.slice A196_0 ((rd_T39 l0 x13_1).f0).length c196_0, .slice A196_1 ((rd_T39 l0 x13_1).f1.f0).length c196_1, .slice A196_2 ((rd_T39 l0 x13_1).f1.f1).length c196_2, .int .i64 ((rd_T39 l0 x13_1).f1.f2), .slice A196_4 ((rd_T39 l0 x13_1).f2).length c196_4], .agg #[.slice A197_0 ((rd_T39 l1 x13_1).f0).length c197_0, .slice A197_1 ((rd_T39 l1 x13_1).f1.f0).length c197_1, .slice A197_2 ((rd_T39 l1 x13_1).f1.f1).length c197_2, .int .i64 ((rd_T39 l1 x13_1).f1.f2), .slice A197_4 ((rd_T39 l1 x13_1).f2).length c197_4]] (by rfl) rfl rfl (by (try simp only [List.map_toArray, List.map_cons, List.map_nil]); first | done | rfl | (simp only [List.length_drop, List.length_take]; rfl)) ?_
                  with_reducible refine (spinneyref21_SameOne.calls k1 _ _ ((rd_T39 l0 x13_1).f0) _ _ ((rd_T39 l0 x13_1).f1.f0) _ _ ((rd_T39 l0 x13_1).f1.f1) ((rd_T39 l0 x13_1).f1.f2) _ _ ((rd_T39 l0 x13_1).f2) _ _ ((rd_T39 l1 x13_1).f0) _ _ ((rd_T39 l1 x13_1).f1.f0) _ _ ((rd_T39 l1 x13_1).f1.f1) ((rd_T39 l1 x13_1).f1.f2) _ _ ((rd_T39 l1 x13_1).f2) true _ ?side1 ?side2 ?side3 ?side4 ?side5 ?side6 ?side7 ?side8 ?side9 ?side10 ?side11 ?side12 ?side13 ?side14 ?side15 ?side16 A8.out).mono ?_
                  (case side1 => repeat (first | exact (Kd.C_below HR196_0.out HB.out) | (with_reducible refine Kd.C_alloc ?_ _) | (with_reducible refine Kd.C_drewN ?_ _) | (with_reducible refine Kd.C_drew ?_)))
                  (case side2 => exact HC196_0.out)
                  (case side3 => repeat (first | exact (Kd.C_below HR196_1.out HB.out) | (with_reducible refine Kd.C_alloc ?_ _) | (with_reducible refine Kd.C_drewN ?_ _) | (with_reducible refine Kd.C_drew ?_)))
                  (case side4 => exact HC196_1.out)
                  (case side5 => repeat (first | exact (Kd.C_below HR196_2.out HB.out) | (with_reducible refine Kd.C_alloc ?_ _) | (with_reducible refine Kd.C_drewN ?_ _) | (with_reducible refine Kd.C_drew ?_)))
                  (case side6 => exact HC196_2.out)
                  (case side7 => repeat (first | exact (Kd.C_below HR196_4.out HB.out) | (with_reducible refine Kd.C_alloc ?_ _) | (with_reducible refine Kd.C_drewN ?_ _) | (with_reducible refine Kd.C_drew ?_)))
                  (case side8 => exact HC196_4.out)
                  (case side9 => repeat (first | exact (Kd.C_below HR197_0.out HB.out) | (with_reducible refine Kd.C_alloc ?_ _) | (with_reducible refine Kd.C_drewN ?_ _) | (with_reducible refine Kd.C_drew ?_)))
                  (case side10 => exact HC197_0.out)
                  (case side11 => repeat (first | exact (Kd.C_below HR197_1.out HB.out) | (with_reducible refine Kd.C_alloc ?_ _) | (with_reducible refine Kd.C_drewN ?_ _) | (with_reducible refine Kd.C_drew ?_)))
                  (case side12 => exact HC197_1.out)
                  (case side13 => repeat (first | exact (Kd.C_below HR197_2.out HB.out) | (with_reducible refine Kd.C_alloc ?_ _) | (with_reducible refine Kd.C_drewN ?_ _) | (with_reducible refine Kd.C_drew ?_)))
                  (case side14 => exact HC197_2.out)
                  (case side15 => repeat (first | exact (Kd.C_below HR197_4.out HB.out) | (with_reducible refine Kd.C_alloc ?_ _) | (with_reducible refine Kd.C_drewN ?_ _) | (with_reducible refine Kd.C_drew ?_)))
                  (case side16 => exact HC197_4.out)
                  rintro e w11 ⟨rfl, hb⟩
                  refine ⟨_, rfl, ?_⟩
                  have n0_ := Aside0.mk (below_step (by repeat (first | (with_reducible first | exact HB.out | apply below_alloc | apply pw_below_drewN | apply below_drew1) | exact HB.out)) hb)
                  clear HB
                  have HB := n0_
                  clear n0_
                  (try clear hb)
                  (try clear hb2)
                  (try clear hk)
                  (try clear hi)
                  refine hK.out _ _ ⟨((HB.out.cell (World.block_lt_of_cell? w _ hw196_0)).trans hw196_0), ((HB.out.cell (World.block_lt_of_cell? w _ hw196_1)).trans hw196_1), ((HB.out.cell (World.block_lt_of_cell? w _ hw196_2)).trans hw196_2), ((HB.out.cell (World.block_lt_of_cell? w _ hw196_3)).trans hw196_3), ((HB.out.cell (World.block_lt_of_cell? w _ hw196_4)).trans hw196_4), ((HB.out.cell (World.block_lt_of_cell? w _ hw197_0)).trans hw197_0), ((HB.out.cell (World.block_lt_of_cell? w _ hw197_1)).trans hw197_1), ((HB.out.cell (World.block_lt_of_cell? w _ hw197_2)).trans hw197_2), ((HB.out.cell (World.block_lt_of_cell? w _ hw197_3)).trans hw197_3), ((HB.out.cell (World.block_lt_of_cell? w _ hw197_4)).trans hw197_4)⟩ (fun hHeld => ?_)
                  clear hK K
                  refine norm_ (a' := ?_) ?_ ?_
                  rotate_left
                  · show Act.put _ (some 24) _ = _
                    simp only [Act.put, List.setIfInBounds_toArray, List.set_cons_zero, List.set_cons_succ, i64_w, i32_w]
                    rfl
                  refine pure_ (i := 9) (N := some 25) (v := ?_) (a' := ?_) #[true, true, true, true, true, true, true, true, true, true] rfl rfl (any_of HT_.out (by kernel_rfl)) (fun _ _ _ h => h) (Or.inl ⟨by rfl, ?_⟩) ?_ ?_
                  rotate_left
                  · intro w'
                    go_simp
                    with_reducible rfl
                  rotate_left
                  · simp only [Act.put, List.setIfInBounds_toArray, List.set_cons_zero, List.set_cons_succ, i64_w, i32_w]
                    rfl
                  refine done_ (done_of HT_.out (by kernel_rfl)) ?_
                  try go_wp2
                  go_roundg k1
                  case measure => have := HK1.out; omega
                  case rel => exact ⟨(wrap64 (x13_1 + 1)), (by first | rfl | (simp; done) | (simp [*]; done)), H', ⟨by have := HK1.out; omega⟩, ⟨by repeat (first | (with_reducible first | exact HB.out | apply below_alloc | apply pw_below_drewN | apply below_drew1) | exact HB.out)⟩⟩
                · replace c9 := Bool.eq_false_iff.mpr c9
                  subst c9
                  have H1 : (some false) = some r := by rw [if_neg (show ¬ (false = true) by decide)] at H; exact H
                  clear H
                  have H := H1
                  clear H1
                  obtain rfl := Option.some.inj H
                  try go_wp2
                  have n0_ := Aside0.mk (below_drew1 HB.out)
                  clear HB
                  have HB := n0_
                  clear n0_
                  have p196 : 0 ≤ (x13_1 : Int) := of_decide_eq_true (by first | (with_reducible assumption) | assumption)
                  have q196 : x13_1 < (l0.length : Int) := of_decide_eq_true (by first | (with_reducible assumption) | assumption)
                  obtain ⟨ad196, A196_0, c196_0, A196_1, c196_1, A196_2, c196_2, A196_4, c196_4, e196, hx196_0, hx196_1, hx196_2, hx196_3, hx196_4, hl196_0, hi196_0, hl196_1, hi196_1, hl196_2, hi196_2, hl196_4, hi196_4⟩ := at_T39 HR0.out x13_1 p196 q196
                  have hw196_4 := hx196_4
                  have hw196_3 := hx196_3
                  have hw196_2 := hx196_2
                  have hw196_1 := hx196_1
                  have hw196_0 := hx196_0
                  cases e196
                  replace hx196_0 := (HB.out.cell (World.block_lt_of_cell? w _ hx196_0)).trans hx196_0
                  replace hx196_1 := (HB.out.cell (World.block_lt_of_cell? w _ hx196_1)).trans hx196_1
                  replace hx196_2 := (HB.out.cell (World.block_lt_of_cell? w _ hx196_2)).trans hx196_2
                  replace hx196_3 := (HB.out.cell (World.block_lt_of_cell? w _ hx196_3)).trans hx196_3
                  replace hx196_4 := (HB.out.cell (World.block_lt_of_cell? w _ hx196_4)).trans hx196_4
                  have HR196_0 := Aside0.mk hi196_0
                  have HC196_0 := Aside0.mk hl196_0
                  clear hi196_0 hl196_0
                  have HR196_1 := Aside0.mk hi196_1
                  have HC196_1 := Aside0.mk hl196_1
                  clear hi196_1 hl196_1
                  have HR196_2 := Aside0.mk hi196_2
                  have HC196_2 := Aside0.mk hl196_2
                  clear hi196_2 hl196_2
                  have HR196_4 := Aside0.mk hi196_4
                  have HC196_4 := Aside0.mk hl196_4
                  clear hi196_4 hl196_4
                  replace p196 := eq_true p196
                  replace q196 := eq_true q196
                  have p197 : 0 ≤ (x13_1 : Int) := of_decide_eq_true (by first | (with_reducible assumption) | assumption)
                  have q197 : x13_1 < (l1.length : Int) := of_decide_eq_true (by first | (with_reducible assumption) | assumption)
                  obtain ⟨ad197, A197_0, c197_0, A197_1, c197_1, A197_2, c197_2, A197_4, c197_4, e197, hx197_0, hx197_1, hx197_2, hx197_3, hx197_4, hl197_0, hi197_0, hl197_1, hi197_1, hl197_2, hi197_2, hl197_4, hi197_4⟩ := at_T39 HR1.out x13_1 p197 q197
                  have hw197_4 := hx197_4
                  have hw197_3 := hx197_3
                  have hw197_2 := hx197_2
                  have hw197_1 := hx197_1
                  have hw197_0 := hx197_0
                  cases e197
                  replace hx197_0 := (HB.out.cell (World.block_lt_of_cell? w _ hx197_0)).trans hx197_0
                  replace hx197_1 := (HB.out.cell (World.block_lt_of_cell? w _ hx197_1)).trans hx197_1
                  replace hx197_2 := (HB.out.cell (World.block_lt_of_cell? w _ hx197_2)).trans hx197_2
                  replace hx197_3 := (HB.out.cell (World.block_lt_of_cell? w _ hx197_3)).trans hx197_3
                  replace hx197_4 := (HB.out.cell (World.block_lt_of_cell? w _ hx197_4)).trans hx197_4
                  have HR197_0 := Aside0.mk hi197_0
                  have HC197_0 := Aside0.mk hl197_0
                  clear hi197_0 hl197_0
                  have HR197_1 := Aside0.mk hi197_1
                  have HC197_1 := Aside0.mk hl197_1
                  clear hi197_1 hl197_1
                  have HR197_2 := Aside0.mk hi197_2
                  have HC197_2 := Aside0.mk hl197_2
                  clear hi197_2 hl197_2
                  have HR197_4 := Aside0.mk hi197_4
                  have HC197_4 := Aside0.mk hl197_4
                  clear hi197_4 hl197_4
                  replace p197 := eq_true p197
                  replace q197 := eq_true q197
                  refine start_ (n := 10) (S := fun w' => w'.cell? (ad196.add ((x13_1).toNat * 5)) = some (.slice A196_0 ((rd_T39 l0 x13_1).f0).length c196_0) ∧ w'.cell? ⟨(ad196.add ((x13_1).toNat * 5)).block, (ad196.add ((x13_1).toNat * 5)).off + 1, none⟩ = some (.slice A196_1 ((rd_T39 l0 x13_1).f1.f0).length c196_1) ∧ w'.cell? ⟨(ad196.add ((x13_1).toNat * 5)).block, (ad196.add ((x13_1).toNat * 5)).off + 2, none⟩ = some (.slice A196_2 ((rd_T39 l0 x13_1).f1.f1).length c196_2) ∧ w'.cell? ⟨(ad196.add ((x13_1).toNat * 5)).block, (ad196.add ((x13_1).toNat * 5)).off + 3, none⟩ = some (.int .i64 ((rd_T39 l0 x13_1).f1.f2)) ∧ w'.cell? ⟨(ad196.add ((x13_1).toNat * 5)).block, (ad196.add ((x13_1).toNat * 5)).off + 4, none⟩ = some (.slice A196_4 ((rd_T39 l0 x13_1).f2).length c196_4) ∧ w'.cell? (ad197.add ((x13_1).toNat * 5)) = some (.slice A197_0 ((rd_T39 l1 x13_1).f0).length c197_0) ∧ w'.cell? ⟨(ad197.add ((x13_1).toNat * 5)).block, (ad197.add ((x13_1).toNat * 5)).off + 1, none⟩ = some (.slice A197_1 ((rd_T39 l1 x13_1).f1.f0).length c197_1) ∧ w'.cell? ⟨(ad197.add ((x13_1).toNat * 5)).block, (ad197.add ((x13_1).toNat * 5)).off + 2, none⟩ = some (.slice A197_2 ((rd_T39 l1 x13_1).f1.f1).length c197_2) ∧ w'.cell? ⟨(ad197.add ((x13_1).toNat * 5)).block, (ad197.add ((x13_1).toNat * 5)).off + 3, none⟩ = some (.int .i64 ((rd_T39 l1 x13_1).f1.f2)) ∧ w'.cell? ⟨(ad197.add ((x13_1).toNat * 5)).block, (ad197.add ((x13_1).toNat * 5)).off + 4, none⟩ = some (.slice A197_4 ((rd_T39 l1 x13_1).f2).length c197_4)) (ds := []) #[false, false, false, false, false, false, false, false, false, false] (by kernel_rfl) rfl rfl ⟨((HB.out.cell (World.block_lt_of_cell? w _ hw196_0)).trans hw196_0), ((HB.out.cell (World.block_lt_of_cell? w _ hw196_1)).trans hw196_1), ((HB.out.cell (World.block_lt_of_cell? w _ hw196_2)).trans hw196_2), ((HB.out.cell (World.block_lt_of_cell? w _ hw196_3)).trans hw196_3), ((HB.out.cell (World.block_lt_of_cell? w _ hw196_4)).trans hw196_4), ((HB.out.cell (World.block_lt_of_cell? w _ hw197_0)).trans hw197_0), ((HB.out.cell (World.block_lt_of_cell? w _ hw197_1)).trans hw197_1), ((HB.out.cell (World.block_lt_of_cell? w _ hw197_2)).trans hw197_2), ((HB.out.cell (World.block_lt_of_cell? w _ hw197_3)).trans hw197_3), ((HB.out.cell (World.block_lt_of_cell? w _ hw197_4)).trans hw197_4)⟩ (fun hHeld => ?_); refine with_tabW spinneyref21_Same.tab6 spinneyref21_Same.bits6 (fun HT_ HW_ => ?_)
                  generalize wr.drew = w12 at HB HR196_0 HR196_1 HR196_2 HR196_4 HR197_0 HR197_1 HR197_2 HR197_4 hx196_0 hx196_1 hx196_2 hx196_3 hx196_4 hx197_0 hx197_1 hx197_2 hx197_3 hx197_4 hHeld ⊢
                  refine pure_ (i := 0) (N := some 16) (v := ?_) (a' := ?_) #[true, false, false, false, false, false, false, false, false, false] rfl rfl (any_of HT_.out (by kernel_rfl)) (fun _ _ _ h => h) (Or.inl ⟨by rfl, ?_⟩) ?_ ?_
                  rotate_left
                  · intro w'
                    go_simp
                    with_reducible rfl
                  rotate_left
                  · simp only [Act.put, List.setIfInBounds_toArray, List.set_cons_zero, List.set_cons_succ, i64_w, i32_w]
                    rfl
                  refine pure_ (i := 1) (N := some 17) (v := ?_) (a' := ?_) #[true, true, false, false, false, false, false, false, false, false] rfl rfl (any_of HT_.out (by kernel_rfl)) (fun _ _ _ h => h) (Or.inl ⟨by rfl, ?_⟩) ?_ ?_
                  rotate_left
                  · intro w'
                    go_simp
                    with_reducible rfl
                  rotate_left
                  · simp only [Act.put, List.setIfInBounds_toArray, List.set_cons_zero, List.set_cons_succ, i64_w, i32_w]
                    rfl
                  refine pure_ (i := 2) (N := some 18) (v := ?_) (a' := ?_) #[true, true, true, false, false, false, false, false, false, false] rfl rfl (any_of HT_.out (by kernel_rfl)) (fun _ _ _ h => h) (Or.inl ⟨by rfl, ?_⟩) ?_ ?_
                  rotate_left
                  · intro w'
                    go_simp
                    with_reducible rfl
                  rotate_left
                  · simp only [Act.put, List.setIfInBounds_toArray, List.set_cons_zero, List.set_cons_succ, i64_w, i32_w]
                    rfl
                  refine pure_ (i := 4) (N := some 20) (v := ?_) (a' := ?_) #[true, true, true, false, true, false, false, false, false, false] rfl rfl (any_of HT_.out (by kernel_rfl)) (fun _ _ _ h => h) (Or.inl ⟨by rfl, ?_⟩) ?_ ?_
                  rotate_left
                  · intro w'
                    go_simp
                    with_reducible rfl
                  rotate_left
                  · simp only [Act.put, List.setIfInBounds_toArray, List.set_cons_zero, List.set_cons_succ, i64_w, i32_w]
                    rfl
                  refine pure_ (i := 5) (N := some 21) (v := ?_) (a' := ?_) #[true, true, true, false, true, true, false, false, false, false] rfl rfl (any_of HT_.out (by kernel_rfl)) (fun _ _ _ h => h) (Or.inl ⟨by rfl, ?_⟩) ?_ ?_
                  rotate_left
                  · intro w'
                    go_simp
                    with_reducible rfl
                  rotate_left
                  · simp only [Act.put, List.setIfInBounds_toArray, List.set_cons_zero, List.set_cons_succ, i64_w, i32_w]
                    rfl
                  refine pure_ (i := 6) (N := some 22) (v := ?_) (a' := ?_) #[true, true, true, false, true, true, true, false, false, false] rfl rfl (any_of HT_.out (by kernel_rfl)) (fun _ _ _ h => h) (Or.inl ⟨by rfl, ?_⟩) ?_ ?_
                  rotate_left
                  · intro w'
                    go_simp
                    with_reducible rfl
                  rotate_left
                  · simp only [Act.put, List.setIfInBounds_toArray, List.set_cons_zero, List.set_cons_succ, i64_w, i32_w]
                    rfl
                  refine take_ (i := 3) (N := some 19) (v := ?_) (a' := ?_) #[true, true, true, true, true, true, true, false, false, false] rfl rfl (take_ofW HT_.out HW_.out (by kernel_rfl)) (fun _ _ _ h => h) (Or.inl ⟨by rfl, ?_⟩) hHeld ?_ ?_
                  rotate_left
                  · rintro w' ⟨s0, s1, s2, s3, s4, s5, s6, s7, s8, s9⟩
                    go_simp
                    with_reducible rfl
                  rotate_left
                  · simp only [Act.put, List.setIfInBounds_toArray, List.set_cons_zero, List.set_cons_succ, i64_w, i32_w]
                    rfl
                  refine take_ (i := 7) (N := some 23) (v := ?_) (a' := ?_) #[true, true, true, true, true, true, true, true, false, false] rfl rfl (take_ofW HT_.out HW_.out (by kernel_rfl)) (fun _ _ _ h => h) (Or.inl ⟨by rfl, ?_⟩) hHeld ?_ ?_
                  rotate_left
                  · rintro w' ⟨s0, s1, s2, s3, s4, s5, s6, s7, s8, s9⟩
                    go_simp
                    with_reducible rfl
                  rotate_left
                  · simp only [Act.put, List.setIfInBounds_toArray, List.set_cons_zero, List.set_cons_succ, i64_w, i32_w]
                    rfl
                  refine one_ (i := 8) (N := some 24) #[true, true, true, true, true, true, true, true, true, false] rfl rfl (one_of HT_.out (by kernel_rfl)) (by decide) (fun K hK => ?_)
                  refine goes_ Try.func24 (by kernel_rfl) rfl #[.agg #[.slice A196_0 ((rd_T39 l0 x13_1).f0).length c196_0, .slice A196_1 ((rd_T39 l0 x13_1).f1.f0).length c196_1, .slice A196_2 ((rd_T39 l0 x13_1).f1.f1).length c196_2, .int .i64 ((rd_T39 l0 x13_1).f1.f2), .slice A196_4 ((rd_T39 l0 x13_1).f2).length c196_4], .agg #[.slice A197_0 ((rd_T39 l1 x13_1).f0).length c197_0, .slice A197_1 ((rd_T39 l1 x13_1).f1.f0).length c197_1, .slice A197_2 ((rd_T39 l1 x13_1).f1.f1).length c197_2, .int .i64 ((rd_T39 l1 x13_1).f1.f2), .slice A197_4 ((rd_T39 l1 x13_1).f2).length c197_4]] (by rfl) rfl rfl (by (try simp only [List.map_toArray, List.map_cons, List.map_nil]); first | done | rfl | (simp only [List.length_drop, List.length_take]; rfl)) ?_
                  with_reducible refine (spinneyref21_SameOne.calls k1 _ _ ((rd_T39 l0 x13_1).f0) _ _ ((rd_T39 l0 x13_1).f1.f0) _ _ ((rd_T39 l0 x13_1).f1.f1) ((rd_T39 l0 x13_1).f1.f2) _ _ ((rd_T39 l0 x13_1).f2) _ _ ((rd_T39 l1 x13_1).f0) _ _ ((rd_T39 l1 x13_1).f1.f0) _ _ ((rd_T39 l1 x13_1).f1.f1) ((rd_T39 l1 x13_1).f1.f2) _ _ ((rd_T39 l1 x13_1).f2) false _ ?side1 ?side2 ?side3 ?side4 ?side5 ?side6 ?side7 ?side8 ?side9 ?side10 ?side11 ?side12 ?side13 ?side14 ?side15 ?side16 A8.out).mono ?_
                  (case side1 => repeat (first | exact (Kd.C_below HR196_0.out HB.out) | (with_reducible refine Kd.C_alloc ?_ _) | (with_reducible refine Kd.C_drewN ?_ _) | (with_reducible refine Kd.C_drew ?_)))
                  (case side2 => exact HC196_0.out)
                  (case side3 => repeat (first | exact (Kd.C_below HR196_1.out HB.out) | (with_reducible refine Kd.C_alloc ?_ _) | (with_reducible refine Kd.C_drewN ?_ _) | (with_reducible refine Kd.C_drew ?_)))
                  (case side4 => exact HC196_1.out)
                  (case side5 => repeat (first | exact (Kd.C_below HR196_2.out HB.out) | (with_reducible refine Kd.C_alloc ?_ _) | (with_reducible refine Kd.C_drewN ?_ _) | (with_reducible refine Kd.C_drew ?_)))
                  (case side6 => exact HC196_2.out)
                  (case side7 => repeat (first | exact (Kd.C_below HR196_4.out HB.out) | (with_reducible refine Kd.C_alloc ?_ _) | (with_reducible refine Kd.C_drewN ?_ _) | (with_reducible refine Kd.C_drew ?_)))
                  (case side8 => exact HC196_4.out)
                  (case side9 => repeat (first | exact (Kd.C_below HR197_0.out HB.out) | (with_reducible refine Kd.C_alloc ?_ _) | (with_reducible refine Kd.C_drewN ?_ _) | (with_reducible refine Kd.C_drew ?_)))
                  (case side10 => exact HC197_0.out)
                  (case side11 => repeat (first | exact (Kd.C_below HR197_1.out HB.out) | (with_reducible refine Kd.C_alloc ?_ _) | (with_reducible refine Kd.C_drewN ?_ _) | (with_reducible refine Kd.C_drew ?_)))
                  (case side12 => exact HC197_1.out)
                  (case side13 => repeat (first | exact (Kd.C_below HR197_2.out HB.out) | (with_reducible refine Kd.C_alloc ?_ _) | (with_reducible refine Kd.C_drewN ?_ _) | (with_reducible refine Kd.C_drew ?_)))
                  (case side14 => exact HC197_2.out)
                  (case side15 => repeat (first | exact (Kd.C_below HR197_4.out HB.out) | (with_reducible refine Kd.C_alloc ?_ _) | (with_reducible refine Kd.C_drewN ?_ _) | (with_reducible refine Kd.C_drew ?_)))
                  (case side16 => exact HC197_4.out)
                  rintro e w13 ⟨rfl, hb⟩
                  refine ⟨_, rfl, ?_⟩
                  have n0_ := Aside0.mk (below_step (by repeat (first | (with_reducible first | exact HB.out | apply below_alloc | apply pw_below_drewN | apply below_drew1) | exact HB.out)) hb)
                  clear HB
                  have HB := n0_
                  clear n0_
                  (try clear hb)
                  (try clear hb2)
                  (try clear hk)
                  (try clear hi)
                  refine hK.out _ _ ⟨((HB.out.cell (World.block_lt_of_cell? w _ hw196_0)).trans hw196_0), ((HB.out.cell (World.block_lt_of_cell? w _ hw196_1)).trans hw196_1), ((HB.out.cell (World.block_lt_of_cell? w _ hw196_2)).trans hw196_2), ((HB.out.cell (World.block_lt_of_cell? w _ hw196_3)).trans hw196_3), ((HB.out.cell (World.block_lt_of_cell? w _ hw196_4)).trans hw196_4), ((HB.out.cell (World.block_lt_of_cell? w _ hw197_0)).trans hw197_0), ((HB.out.cell (World.block_lt_of_cell? w _ hw197_1)).trans hw197_1), ((HB.out.cell (World.block_lt_of_cell? w _ hw197_2)).trans hw197_2), ((HB.out.cell (World.block_lt_of_cell? w _ hw197_3)).trans hw197_3), ((HB.out.cell (World.block_lt_of_cell? w _ hw197_4)).trans hw197_4)⟩ (fun hHeld => ?_)
                  clear hK K
                  refine norm_ (a' := ?_) ?_ ?_
                  rotate_left
                  · show Act.put _ (some 24) _ = _
                    simp only [Act.put, List.setIfInBounds_toArray, List.set_cons_zero, List.set_cons_succ, i64_w, i32_w]
                    rfl
                  refine pure_ (i := 9) (N := some 25) (v := ?_) (a' := ?_) #[true, true, true, true, true, true, true, true, true, true] rfl rfl (any_of HT_.out (by kernel_rfl)) (fun _ _ _ h => h) (Or.inl ⟨by rfl, ?_⟩) ?_ ?_
                  rotate_left
                  · intro w'
                    go_simp
                    with_reducible rfl
                  rotate_left
                  · simp only [Act.put, List.setIfInBounds_toArray, List.set_cons_zero, List.set_cons_succ, i64_w, i32_w]
                    rfl
                  refine done_ (done_of HT_.out (by kernel_rfl)) ?_
                  try go_wp2
                  go_ret
                  exact ⟨by first | rfl | (simp [errW_none, errW_some] <;> rfl) | (simp [*, errW_none, errW_some] <;> rfl), by repeat (first | (with_reducible first | exact HB.out | apply below_alloc | apply pw_below_drewN | apply below_drew1) | exact HB.out)⟩
              · rw [if_neg c7] at H
                exact absurd H (by simp)
            · rw [if_neg c6] at H
              exact absurd H (by simp)
          · rw [if_neg c5] at H
            exact absurd H (by simp)
        · rw [if_neg c4] at H
          have c4b0 : decide (x13_1 < (l0.length : Int)) = false := decide_eq_false c4
          clear c4
          obtain rfl := Option.some.inj H
          go_wp2
          go_ret
          exact ⟨by first | rfl | (simp [errW_none, errW_some] <;> rfl) | (simp [*, errW_none, errW_some] <;> rfl), by repeat (first | (with_reducible first | exact HB.out | apply below_alloc | apply pw_below_drewN | apply below_drew1) | exact HB.out)⟩
  · rw [if_neg c3] at H
    have c3b0 : ((l0.length : Int) == (l1.length : Int)) = false := beq_eq_false_iff_ne.mpr c3
    have c3b1 : ((l0.length : Int) != (l1.length : Int)) = true := bne_iff_ne.mpr c3
    have c3b2 : (l0.length == l1.length) = false := by first | simpa using c3 | (simp at c3 ⊢; omega)
    obtain rfl := Option.some.inj H
    go_enter Try.func15, Try.ntmps15
    go_wp2
    go_ret
    exact ⟨by first | rfl | (simp [errW_none, errW_some] <;> rfl) | (simp [*, errW_none, errW_some] <;> rfl), by repeat (first | (with_reducible first | exact HB.out | apply below_alloc | apply pw_below_drewN | apply below_drew1) | exact HB.out)⟩

end Go.Proofs.Ytfcmbflpefhpaaa.P
