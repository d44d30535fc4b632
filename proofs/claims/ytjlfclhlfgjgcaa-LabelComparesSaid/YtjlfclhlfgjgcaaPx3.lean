-- PRINTED by a program of this session over the kit's print.py.
import Derived.Test.YtjlfclhlfgjgcaaPx0
import Derived.Test.YtjlfclhlfgjgcaaPx2
namespace Go.Proofs.Ytjlfclhlfgjgcaa.P
open Go.Own Go.RowKit Go.Proofs.YtjlfclhlfgjgcaaW.PrintWords Go.Proofs.YtjlfclhlfgjgcaaW.PrintLast Go.Proofs.YtjlfclhlfgjgcaaW.PrintMore
attribute [local go_sem] max2_int min2_int max_two min_two max_three min_three max_four min_four   -- for this text's walks alone
set_option linter.unusedVariables false
set_option linter.unusedSimpArgs false

/-! ### label_Left: function 60 -/
def label_Left.f (l0 : List Int) (l1 : List Int) : Option (Bool) := (label_parts.f l0 l1).bind fun t116 => (if t116 < (l0.length : Int) then (if t116 < (l1.length : Int) then (if 0 ≤ t116 then (some (decide ((rd l0 t116) < (rd l1 t116)))) else (none)) else (some false)) else (some false))
set_option maxHeartbeats 8000000 in
set_option maxRecDepth 100000 in
theorem label_Left.calls (A0 : Option Addr) (c0 : Nat) (l0 : List Int) (A1 : Option Addr) (c1 : Nat) (l1 : List Int) (r : Bool) (w : World) (hr0 : Kd.C (Kd.int .i64) w A0 l0.length l0) (hc0 : l0.length ≤ c0) (hr1 : Kd.C (Kd.int .i64) w A1 l1.length l1) (hc1 : l1.length ≤ c1) (h : label_Left.f l0 l1 = some r) :
    Calls Try.prog 60 #[.slice A0 l0.length c0, .slice A1 l1.length c1] w fun e w' => e = .returned (.bool r) ∧ Below w.heap.size w w' := by
  have HR0 := Aside0.mk hr0
  have HC0 := Aside0.mk hc0
  clear hr0 hc0
  have HR1 := Aside0.mk hr1
  have HC1 := Aside0.mk hc1
  clear hr1 hc1
  have HB := Aside0.mk (Below.refl w.heap.size w)
  have H : ((label_parts.f l0 l1).bind fun t116 => (if t116 < (l0.length : Int) then (if t116 < (l1.length : Int) then (if 0 ≤ t116 then (some (decide ((rd l0 t116) < (rd l1 t116)))) else (none)) else (some false)) else (some false))) = some r := h
  clear h
  replace H := Option.bind_eq_some_iff.mp H
  obtain ⟨t116, A30, H⟩ := H
  replace H : (if t116 < (l0.length : Int) then (if t116 < (l1.length : Int) then (if 0 ≤ t116 then (some (decide ((rd l0 t116) < (rd l1 t116)))) else (none)) else (some false)) else (some false)) = some r := H
  have A3 := Aside0.mk A30
  clear A30
  by_cases c4 : t116 < (l0.length : Int)
  · rw [if_pos c4] at H
    have c4b0 : decide (t116 < (l0.length : Int)) = true := decide_eq_true c4
    clear c4
    by_cases c5 : t116 < (l1.length : Int)
    · rw [if_pos c5] at H
      have c5b0 : decide (t116 < (l1.length : Int)) = true := decide_eq_true c5
      clear c5
      by_cases c6 : 0 ≤ t116
      · rw [if_pos c6] at H
        have c6b0 : decide (0 ≤ t116) = true := decide_eq_true c6
        clear c6
        obtain rfl := Option.some.inj H
        go_enter Try.func60, Try.ntmps60
        go_wp2_with (first | (go_at_call 74; (with_reducible refine (label_parts.calls _ _ l0 _ _ l1 t116 _ ?side1 ?side2 ?side3 ?side4 A3.out).mono ?_); (case side1 => repeat (first | exact HR0.out | (with_reducible refine Kd.C_alloc ?_ _) | (with_reducible refine Kd.C_drewN ?_ _) | (with_reducible refine Kd.C_drew ?_))); (case side2 => exact HC0.out); (case side3 => repeat (first | exact HR1.out | (with_reducible refine Kd.C_alloc ?_ _) | (with_reducible refine Kd.C_drewN ?_ _) | (with_reducible refine Kd.C_drew ?_))); (case side4 => exact HC1.out); rintro e w7 ⟨rfl, hb⟩; have n0_ := Aside0.mk (below_step (by repeat (first | (with_reducible first | exact HB.out | apply below_alloc | apply pw_below_drewN | apply below_drew1) | exact HB.out)) hb); clear HB; have HB := n0_; clear n0_; (try clear hb); (try clear hb2); (try clear hk); (try clear hi); have p117 : 0 ≤ (t116 : Int) := of_decide_eq_true (by first | (with_reducible assumption) | assumption); have q117 : t116 < (l0.length : Int) := of_decide_eq_true (by first | (with_reducible assumption) | assumption); obtain ⟨ad117, e117, hx117_0⟩ := Kd.at_int HR0.out t116 p117 q117; cases e117; replace hx117_0 := (HB.out.cell (World.block_lt_of_cell? w _ hx117_0)).trans hx117_0; replace p117 := eq_true p117; replace q117 := eq_true q117; have p118 : 0 ≤ (t116 : Int) := of_decide_eq_true (by first | (with_reducible assumption) | assumption); have q118 : t116 < (l1.length : Int) := of_decide_eq_true (by first | (with_reducible assumption) | assumption); obtain ⟨ad118, e118, hx118_0⟩ := Kd.at_int HR1.out t116 p118 q118; cases e118; replace hx118_0 := (HB.out.cell (World.block_lt_of_cell? w _ hx118_0)).trans hx118_0; replace p118 := eq_true p118; replace q118 := eq_true q118))
        repeat (go_quiet (first | (go_at_call 74; (with_reducible refine (label_parts.calls _ _ l0 _ _ l1 t116 _ ?side1 ?side2 ?side3 ?side4 A3.out).mono ?_); (case side1 => repeat (first | exact HR0.out | (with_reducible refine Kd.C_alloc ?_ _) | (with_reducible refine Kd.C_drewN ?_ _) | (with_reducible refine Kd.C_drew ?_))); (case side2 => exact HC0.out); (case side3 => repeat (first | exact HR1.out | (with_reducible refine Kd.C_alloc ?_ _) | (with_reducible refine Kd.C_drewN ?_ _) | (with_reducible refine Kd.C_drew ?_))); (case side4 => exact HC1.out); rintro e w7 ⟨rfl, hb⟩; have n0_ := Aside0.mk (below_step (by repeat (first | (with_reducible first | exact HB.out | apply below_alloc | apply pw_below_drewN | apply below_drew1) | exact HB.out)) hb); clear HB; have HB := n0_; clear n0_; (try clear hb); (try clear hb2); (try clear hk); (try clear hi); have p117 : 0 ≤ (t116 : Int) := of_decide_eq_true (by first | (with_reducible assumption) | assumption); have q117 : t116 < (l0.length : Int) := of_decide_eq_true (by first | (with_reducible assumption) | assumption); obtain ⟨ad117, e117, hx117_0⟩ := Kd.at_int HR0.out t116 p117 q117; cases e117; replace hx117_0 := (HB.out.cell (World.block_lt_of_cell? w _ hx117_0)).trans hx117_0; replace p117 := eq_true p117; replace q117 := eq_true q117; have p118 : 0 ≤ (t116 : Int) := of_decide_eq_true (by first | (with_reducible assumption) | assumption); have q118 : t116 < (l1.length : Int) := of_decide_eq_true (by first | (with_reducible assumption) | assumption); obtain ⟨ad118, e118, hx118_0⟩ := Kd.at_int HR1.out t116 p118 q118; cases e118; replace hx118_0 := (HB.out.cell (World.block_lt_of_cell? w _ hx118_0)).trans hx118_0; replace p118 := eq_true p118; replace q118 := eq_true q118)); try go_wp2_with (first | (go_at_call 74; (with_reducible refine (label_parts.calls _ _ l0 _ _ l1 t116 _ ?side1 ?side2 ?side3 ?side4 A3.out).mono ?_); (case side1 => repeat (first | exact HR0.out | (with_reducible refine Kd.C_alloc ?_ _) | (with_reducible refine Kd.C_drewN ?_ _) | (with_reducible refine Kd.C_drew ?_))); (case side2 => exact HC0.out); (case side3 => repeat (first | exact HR1.out | (with_reducible refine Kd.C_alloc ?_ _) | (with_reducible refine Kd.C_drewN ?_ _) | (with_reducible refine Kd.C_drew ?_))); (case side4 => exact HC1.out); rintro e w7 ⟨rfl, hb⟩; have n0_ := Aside0.mk (below_step (by repeat (first | (with_reducible first | exact HB.out | apply below_alloc | apply pw_below_drewN | apply below_drew1) | exact HB.out)) hb); clear HB; have HB := n0_; clear n0_; (try clear hb); (try clear hb2); (try clear hk); (try clear hi); have p117 : 0 ≤ (t116 : Int) := of_decide_eq_true (by first | (with_reducible assumption) | assumption); have q117 : t116 < (l0.length : Int) := of_decide_eq_true (by first | (with_reducible assumption) | assumption); obtain ⟨ad117, e117, hx117_0⟩ := Kd.at_int HR0.out t116 p117 q117; cases e117; replace hx117_0 := (HB.out.cell (World.block_lt_of_cell? w _ hx117_0)).trans hx117_0; replace p117 := eq_true p117; replace q117 := eq_true q117; have p118 : 0 ≤ (t116 : Int) := of_decide_eq_true (by first | (with_reducible assumption) | assumption); have q118 : t116 < (l1.length : Int) := of_decide_eq_true (by first | (with_reducible assumption) | assumption); obtain ⟨ad118, e118, hx118_0⟩ := Kd.at_int HR1.out t116 p118 q118; cases e118; replace hx118_0 := (HB.out.cell (World.block_lt_of_cell? w _ hx118_0)).trans hx118_0; replace p118 := eq_true p118; replace q118 := eq_true q118)))
        go_ret
        exact ⟨by first | rfl | (simp [errW_none, errW_some] <;> rfl) | (simp [*, errW_none, errW_some] <;> rfl), by repeat (first | (with_reducible first | exact HB.out | apply below_alloc | apply pw_below_drewN | apply below_drew1) | exact HB.out)⟩
      · rw [if_neg c6] at H
        exact absurd H (by simp)
    · rw [if_neg c5] at H
      have c5b0 : decide (t116 < (l1.length : Int)) = false := decide_eq_false c5
      clear c5
      obtain rfl := Option.some.inj H
      go_enter Try.func60, Try.ntmps60
      go_wp2_with (first | (go_at_call 74; (with_reducible refine (label_parts.calls _ _ l0 _ _ l1 t116 _ ?side1 ?side2 ?side3 ?side4 A3.out).mono ?_); (case side1 => repeat (first | exact HR0.out | (with_reducible refine Kd.C_alloc ?_ _) | (with_reducible refine Kd.C_drewN ?_ _) | (with_reducible refine Kd.C_drew ?_))); (case side2 => exact HC0.out); (case side3 => repeat (first | exact HR1.out | (with_reducible refine Kd.C_alloc ?_ _) | (with_reducible refine Kd.C_drewN ?_ _) | (with_reducible refine Kd.C_drew ?_))); (case side4 => exact HC1.out); rintro e w8 ⟨rfl, hb⟩; have n0_ := Aside0.mk (below_step (by repeat (first | (with_reducible first | exact HB.out | apply below_alloc | apply pw_below_drewN | apply below_drew1) | exact HB.out)) hb); clear HB; have HB := n0_; clear n0_; (try clear hb); (try clear hb2); (try clear hk); (try clear hi)))
      repeat (go_quiet (first | (go_at_call 74; (with_reducible refine (label_parts.calls _ _ l0 _ _ l1 t116 _ ?side1 ?side2 ?side3 ?side4 A3.out).mono ?_); (case side1 => repeat (first | exact HR0.out | (with_reducible refine Kd.C_alloc ?_ _) | (with_reducible refine Kd.C_drewN ?_ _) | (with_reducible refine Kd.C_drew ?_))); (case side2 => exact HC0.out); (case side3 => repeat (first | exact HR1.out | (with_reducible refine Kd.C_alloc ?_ _) | (with_reducible refine Kd.C_drewN ?_ _) | (with_reducible refine Kd.C_drew ?_))); (case side4 => exact HC1.out); rintro e w8 ⟨rfl, hb⟩; have n0_ := Aside0.mk (below_step (by repeat (first | (with_reducible first | exact HB.out | apply below_alloc | apply pw_below_drewN | apply below_drew1) | exact HB.out)) hb); clear HB; have HB := n0_; clear n0_; (try clear hb); (try clear hb2); (try clear hk); (try clear hi))); try go_wp2_with (first | (go_at_call 74; (with_reducible refine (label_parts.calls _ _ l0 _ _ l1 t116 _ ?side1 ?side2 ?side3 ?side4 A3.out).mono ?_); (case side1 => repeat (first | exact HR0.out | (with_reducible refine Kd.C_alloc ?_ _) | (with_reducible refine Kd.C_drewN ?_ _) | (with_reducible refine Kd.C_drew ?_))); (case side2 => exact HC0.out); (case side3 => repeat (first | exact HR1.out | (with_reducible refine Kd.C_alloc ?_ _) | (with_reducible refine Kd.C_drewN ?_ _) | (with_reducible refine Kd.C_drew ?_))); (case side4 => exact HC1.out); rintro e w8 ⟨rfl, hb⟩; have n0_ := Aside0.mk (below_step (by repeat (first | (with_reducible first | exact HB.out | apply below_alloc | apply pw_below_drewN | apply below_drew1) | exact HB.out)) hb); clear HB; have HB := n0_; clear n0_; (try clear hb); (try clear hb2); (try clear hk); (try clear hi))))
      go_ret
      exact ⟨by first | rfl | (simp [errW_none, errW_some] <;> rfl) | (simp [*, errW_none, errW_some] <;> rfl), by repeat (first | (with_reducible first | exact HB.out | apply below_alloc | apply pw_below_drewN | apply below_drew1) | exact HB.out)⟩
  · rw [if_neg c4] at H
    have c4b0 : decide (t116 < (l0.length : Int)) = false := decide_eq_false c4
    clear c4
    obtain rfl := Option.some.inj H
    go_enter Try.func60, Try.ntmps60
    go_wp2_with (first | (go_at_call 74; (with_reducible refine (label_parts.calls _ _ l0 _ _ l1 t116 _ ?side1 ?side2 ?side3 ?side4 A3.out).mono ?_); (case side1 => repeat (first | exact HR0.out | (with_reducible refine Kd.C_alloc ?_ _) | (with_reducible refine Kd.C_drewN ?_ _) | (with_reducible refine Kd.C_drew ?_))); (case side2 => exact HC0.out); (case side3 => repeat (first | exact HR1.out | (with_reducible refine Kd.C_alloc ?_ _) | (with_reducible refine Kd.C_drewN ?_ _) | (with_reducible refine Kd.C_drew ?_))); (case side4 => exact HC1.out); rintro e w9 ⟨rfl, hb⟩; have n0_ := Aside0.mk (below_step (by repeat (first | (with_reducible first | exact HB.out | apply below_alloc | apply pw_below_drewN | apply below_drew1) | exact HB.out)) hb); clear HB; have HB := n0_; clear n0_; (try clear hb); (try clear hb2); (try clear hk); (try clear hi)))
    repeat (go_quiet (first | (go_at_call 74; (with_reducible refine (label_parts.calls _ _ l0 _ _ l1 t116 _ ?side1 ?side2 ?side3 ?side4 A3.out).mono ?_); (case side1 => repeat (first | exact HR0.out | (with_reducible refine Kd.C_alloc ?_ _) | (with_reducible refine Kd.C_drewN ?_ _) | (with_reducible refine Kd.C_drew ?_))); (case side2 => exact HC0.out); (case side3 => repeat (first | exact HR1.out | (with_reducible refine Kd.C_alloc ?_ _) | (with_reducible refine Kd.C_drewN ?_ _) | (with_reducible refine Kd.C_drew ?_))); (case side4 => exact HC1.out); rintro e w9 ⟨rfl, hb⟩; have n0_ := Aside0.mk (below_step (by repeat (first | (with_reducible first | exact HB.out | apply below_alloc | apply pw_below_drewN | apply below_drew1) | exact HB.out)) hb); clear HB; have HB := n0_; clear n0_; (try clear hb); (try clear hb2); (try clear hk); (try clear hi))); try go_wp2_with (first | (go_at_call 74; (with_reducible refine (label_parts.calls _ _ l0 _ _ l1 t116 _ ?side1 ?side2 ?side3 ?side4 A3.out).mono ?_); (case side1 => repeat (first | exact HR0.out | (with_reducible refine Kd.C_alloc ?_ _) | (with_reducible refine Kd.C_drewN ?_ _) | (with_reducible refine Kd.C_drew ?_))); (case side2 => exact HC0.out); (case side3 => repeat (first | exact HR1.out | (with_reducible refine Kd.C_alloc ?_ _) | (with_reducible refine Kd.C_drewN ?_ _) | (with_reducible refine Kd.C_drew ?_))); (case side4 => exact HC1.out); rintro e w9 ⟨rfl, hb⟩; have n0_ := Aside0.mk (below_step (by repeat (first | (with_reducible first | exact HB.out | apply below_alloc | apply pw_below_drewN | apply below_drew1) | exact HB.out)) hb); clear HB; have HB := n0_; clear n0_; (try clear hb); (try clear hb2); (try clear hk); (try clear hi))))
    go_ret
    exact ⟨by first | rfl | (simp [errW_none, errW_some] <;> rfl) | (simp [*, errW_none, errW_some] <;> rfl), by repeat (first | (with_reducible first | exact HB.out | apply below_alloc | apply pw_below_drewN | apply below_drew1) | exact HB.out)⟩

/-! ### label_Pruned: function 62 -/
def label_Pruned.f (l0 : List Int) (l1 : List Int) (a2 : Int) : Option (Bool) := (label_Left.f l1 l0).bind fun t119 => (if t119 = true then ((label_parts.f l0 l1).bind fun t120 => (some (decide (t120 ≥ (mn a2 (l1.length : Int)))))) else (some false))
set_option maxHeartbeats 8000000 in
set_option maxRecDepth 100000 in
theorem label_Pruned.calls (A0 : Option Addr) (c0 : Nat) (l0 : List Int) (A1 : Option Addr) (c1 : Nat) (l1 : List Int) (a2 : Int) (r : Bool) (w : World) (hr0 : Kd.C (Kd.int .i64) w A0 l0.length l0) (hc0 : l0.length ≤ c0) (hr1 : Kd.C (Kd.int .i64) w A1 l1.length l1) (hc1 : l1.length ≤ c1) (h : label_Pruned.f l0 l1 a2 = some r) :
    Calls Try.prog 62 #[.slice A0 l0.length c0, .slice A1 l1.length c1, .int .i64 a2] w fun e w' => e = .returned (.bool r) ∧ Below w.heap.size w w' := by
  have HR0 := Aside0.mk hr0
  have HC0 := Aside0.mk hc0
  clear hr0 hc0
  have HR1 := Aside0.mk hr1
  have HC1 := Aside0.mk hc1
  clear hr1 hc1
  have HB := Aside0.mk (Below.refl w.heap.size w)
  have H : ((label_Left.f l1 l0).bind fun t119 => (if t119 = true then ((label_parts.f l0 l1).bind fun t120 => (some (decide (t120 ≥ (mn a2 (l1.length : Int)))))) else (some false))) = some r := h
  clear h
  replace H := Option.bind_eq_some_iff.mp H
  obtain ⟨t119, A40, H⟩ := H
  replace H : (if t119 = true then ((label_parts.f l0 l1).bind fun t120 => (some (decide (t120 ≥ (mn a2 (l1.length : Int)))))) else (some false)) = some r := H
  have A4 := Aside0.mk A40
  clear A40
  by_cases c5 : t119 = true
  · subst c5
    have H1 : ((label_parts.f l0 l1).bind fun t120 => (some (decide (t120 ≥ (mn a2 (l1.length : Int)))))) = some r := by rw [if_pos rfl] at H; exact H
    clear H
    have H := H1
    clear H1
    replace H := Option.bind_eq_some_iff.mp H
    obtain ⟨t120, A60, H⟩ := H
    replace H : (some (decide (t120 ≥ (mn a2 (l1.length : Int))))) = some r := H
    have A6 := Aside0.mk A60
    clear A60
    obtain ⟨ji7, hji7⟩ : ∃ j_ : Int, (mn a2 (l1.length : Int)) = j_ := ⟨_, rfl⟩
    replace H : (some (decide (t120 ≥ (ji7)))) = some r := by first | (rw [hji7] at H; exact H) | (simp only [hji7] at H ⊢; exact H)
    (try rw [hji7] at A4)
    (try rw [hji7] at A6)
    have hji7_ : (if (l1.length : Int) < a2 then (l1.length : Int) else a2) = ji7 := hji7
    obtain rfl := Option.some.inj H
    go_enter Try.func62, Try.ntmps62
    go_wp2_with (first | ((with_reducible refine gate_callee (f := 60) rfl ?_); refine goesL_ (some 9) rfl rfl Try.func60 (by kernel_rfl) rfl #[.slice A1 l1.length c1, .slice A0 l0.length c0] rfl (by (try simp only [List.map_toArray, List.map_cons, List.map_nil]); first | done | rfl | (simp only [List.length_drop, List.length_take]; rfl)) ?_; (with_reducible refine (label_Left.calls _ _ l1 _ _ l0 true _ ?side1 ?side2 ?side3 ?side4 A4.out).mono ?_); (case side1 => repeat (first | exact HR1.out | (with_reducible refine Kd.C_alloc ?_ _) | (with_reducible refine Kd.C_drewN ?_ _) | (with_reducible refine Kd.C_drew ?_))); (case side2 => exact HC1.out); (case side3 => repeat (first | exact HR0.out | (with_reducible refine Kd.C_alloc ?_ _) | (with_reducible refine Kd.C_drewN ?_ _) | (with_reducible refine Kd.C_drew ?_))); (case side4 => exact HC0.out); rintro e w8 ⟨rfl, hb⟩; refine ⟨_, rfl, ?_⟩; have n0_ := Aside0.mk (below_step (by repeat (first | (with_reducible first | exact HB.out | apply below_alloc | apply pw_below_drewN | apply below_drew1) | exact HB.out)) hb); clear HB; have HB := n0_; clear n0_; (try clear hb); (try clear hb2); (try clear hk); (try clear hi)) | (go_at_call 74; (with_reducible refine (label_parts.calls _ _ l0 _ _ l1 t120 _ ?side1 ?side2 ?side3 ?side4 A6.out).mono ?_); (case side1 => repeat (first | exact (Kd.C_below HR0.out HB.out) | (with_reducible refine Kd.C_alloc ?_ _) | (with_reducible refine Kd.C_drewN ?_ _) | (with_reducible refine Kd.C_drew ?_))); (case side2 => exact HC0.out); (case side3 => repeat (first | exact (Kd.C_below HR1.out HB.out) | (with_reducible refine Kd.C_alloc ?_ _) | (with_reducible refine Kd.C_drewN ?_ _) | (with_reducible refine Kd.C_drew ?_))); (case side4 => exact HC1.out); rintro e w9 ⟨rfl, hb⟩; have n0_ := Aside0.mk (below_step (by repeat (first | (with_reducible first | exact HB.out | apply below_alloc | apply pw_below_drewN | apply below_drew1) | exact HB.out)) hb); clear HB; have HB := n0_; clear n0_; (try clear hb); (try clear hb2); (try clear hk); (try clear hi)))
    go_ret
    exact ⟨by first | rfl | (simp [errW_none, errW_some] <;> rfl) | (simp only [← hji7]; first | rfl | (simp [errW_none, errW_some] <;> rfl)) | (simp [*, errW_none, errW_some] <;> rfl), by repeat (first | (with_reducible first | exact HB.out | apply below_alloc | apply pw_below_drewN | apply below_drew1) | exact HB.out)⟩
  · replace c5 := Bool.eq_false_iff.mpr c5
    subst c5
    have H1 : (some false) = some r := by rw [if_neg (show ¬ (false = true) by decide)] at H; exact H
    clear H
    have H := H1
    clear H1
    obtain rfl := Option.some.inj H
    go_enter Try.func62, Try.ntmps62
    go_wp2_with (first | ((with_reducible refine gate_callee (f := 60) rfl ?_); refine goesL_ (some 9) rfl rfl Try.func60 (by kernel_rfl) rfl #[.slice A1 l1.length c1, .slice A0 l0.length c0] rfl (by (try simp only [List.map_toArray, List.map_cons, List.map_nil]); first | done | rfl | (simp only [List.length_drop, List.length_take]; rfl)) ?_; (with_reducible refine (label_Left.calls _ _ l1 _ _ l0 false _ ?side1 ?side2 ?side3 ?side4 A4.out).mono ?_); (case side1 => repeat (first | exact HR1.out | (with_reducible refine Kd.C_alloc ?_ _) | (with_reducible refine Kd.C_drewN ?_ _) | (with_reducible refine Kd.C_drew ?_))); (case side2 => exact HC1.out); (case side3 => repeat (first | exact HR0.out | (with_reducible refine Kd.C_alloc ?_ _) | (with_reducible refine Kd.C_drewN ?_ _) | (with_reducible refine Kd.C_drew ?_))); (case side4 => exact HC0.out); rintro e w10 ⟨rfl, hb⟩; refine ⟨_, rfl, ?_⟩; have n0_ := Aside0.mk (below_step (by repeat (first | (with_reducible first | exact HB.out | apply below_alloc | apply pw_below_drewN | apply below_drew1) | exact HB.out)) hb); clear HB; have HB := n0_; clear n0_; (try clear hb); (try clear hb2); (try clear hk); (try clear hi)))
    go_ret
    exact ⟨by first | rfl | (simp [errW_none, errW_some] <;> rfl) | (simp [*, errW_none, errW_some] <;> rfl), by repeat (first | (with_reducible first | exact HB.out | apply below_alloc | apply pw_below_drewN | apply below_drew1) | exact HB.out)⟩

/-! ### num_size: function 65 -/
def num_size.f (a0 : Int) : Option (Int) := if a0 < 0 then (some (IntKind.u64.wrap (-(IntKind.u64.wrap (a0))))) else (some (IntKind.u64.wrap (a0)))
set_option maxHeartbeats 8000000 in
set_option maxRecDepth 100000 in
theorem num_size.calls (a0 : Int) (r : Int) (w : World) (h : num_size.f a0 = some r) :
    Calls Try.prog 65 #[.int .i64 a0] w fun e w' => e = .returned (.int .u64 r) ∧ Drawn0 w w' := by
  have H : (if a0 < 0 then (some (IntKind.u64.wrap (-(IntKind.u64.wrap (a0))))) else (some (IntKind.u64.wrap (a0)))) = some r := h
  clear h
  by_cases c2 : a0 < 0
  · rw [if_pos c2] at H
    have c2b0 : decide (a0 < 0) = true := decide_eq_true c2
    clear c2
    obtain rfl := Option.some.inj H
    go_enter Try.func65, Try.ntmps65
    go_wp2
    go_ret
    exact ⟨by first | rfl | (simp; done) | (simp [*]; done), by repeat (first | exact Drawn0.refl _ | apply Drawn0.step)⟩
  · rw [if_neg c2] at H
    have c2b0 : decide (a0 < 0) = false := decide_eq_false c2
    clear c2
    obtain rfl := Option.some.inj H
    go_enter Try.func65, Try.ntmps65
    go_wp2
    go_ret
    exact ⟨by first | rfl | (simp; done) | (simp [*]; done), by repeat (first | exact Drawn0.refl _ | apply Drawn0.step)⟩

/-! ### num_Text: function 25 (given) -/
def num_Text.f (a0 : Int) : Option ByteArray := if -9223372036854775808 ≤ a0 ∧ a0 ≤ 9223372036854775807 then some ⟨(textB a0).toArray⟩ else none

def num_Text.Rel (B : Nat) (w : World) (u : Nat) (q m : Nat) (wr : World) : Prop :=
  ∃ cs : Array Value, ArrAt wr B cs ∧ Below B w wr ∧ cs.size = 20 ∧ m ≤ 9223372036854775808 ∧ (digs m).length ≤ q ∧ q < 20 ∧ ∃ done : List UInt8, cs.toList.drop (q + 1) = done.map (fun (b : UInt8) => Value.int .u8 b.toNat) ∧ digs u = digs m ++ done

theorem num_Text.size_nat {a u : Int} (h1 : -9223372036854775808 ≤ a) (h2 : a ≤ 9223372036854775807) (h : num_size.f a = some u) : u = a.natAbs := by
  unfold num_size.f at h
  have e : ∀ x : Int, IntKind.u64.wrap x = x % 18446744073709551616 := fun x => by first | rfl | (simp [IntKind.wrap]; done)
  split at h <;> (injection h with h; subst h; rw [e]; (try rw [e]); omega)

theorem num_Text.start (w : World) (u : Nat) (hu : u ≤ 9223372036854775808) (nd : Nat) : num_Text.Rel w.heap.size w u 19 u ((w.alloc (.cells #[.int .u8 0, .int .u8 0, .int .u8 0, .int .u8 0, .int .u8 0, .int .u8 0, .int .u8 0, .int .u8 0, .int .u8 0, .int .u8 0, .int .u8 0, .int .u8 0, .int .u8 0, .int .u8 0, .int .u8 0, .int .u8 0, .int .u8 0, .int .u8 0, .int .u8 0, .int .u8 0] 60)).drewN nd) := by
  exact ⟨_, (ArrAt.alloc w _ 60).drewN nd, pw_below_drewN ((Below.refl _ _).alloc (Nat.le_refl _) _) nd, rfl, hu, digs_len 18 u (by omega), by omega, [], rfl, by simp⟩

theorem num_Text.step {B : Nat} {w wr : World} {u q m : Nat} (h : num_Text.Rel B w u q m wr) (hm : ¬ m < 10) : ∃ q', q = q' + 1 ∧ num_Text.Rel B w u q' (m / 10) (wr.setCell ⟨B, q, none⟩ (.int .u8 (48 + (m : Int) % 10))) := by
  obtain ⟨cs, ha, hb, hs, hm64, hl, hq, done, hd, hu⟩ := h
  have hp := digs_pos (m / 10)
  have e : digs m = digs (m / 10) ++ [UInt8.ofNat (48 + m % 10)] := by rw [digs]; simp [hm]
  have hl' := hl
  rw [e] at hl'
  simp at hl'
  obtain ⟨q', rfl⟩ : ∃ q', q = q' + 1 := ⟨q - 1, by omega⟩
  refine ⟨q', rfl, _, ha.set _ _ (by omega), hb.setCell (Nat.le_refl _) _, by simp [hs], by omega, by omega, by omega, UInt8.ofNat (48 + m % 10) :: done, ?_, by rw [hu, e]; simp⟩
  rw [List.drop_eq_getElem_cons (by simp [hs]; omega)]
  simp [Array.setIfInBounds, hs, hq, ← hd, List.drop_set_of_lt]
  omega

theorem num_Text.last {B : Nat} {w wr : World} {u q m : Nat} (h : num_Text.Rel B w u q m wr) (hm : m < 10) : ∃ cs : Array Value, ArrAt (wr.setCell ⟨B, q, none⟩ (.int .u8 (48 + (m : Int) % 10))) B cs ∧ Below B w (wr.setCell ⟨B, q, none⟩ (.int .u8 (48 + (m : Int) % 10))) ∧ cs.size = 20 ∧
    cs.toList.drop q = (digs u).map (fun (b : UInt8) => Value.int .u8 b.toNat) := by
  obtain ⟨cs, ha, hb, hs, hm64, hl, hq, done, hd, hu⟩ := h
  have e : digs m = [UInt8.ofNat (48 + m)] := by rw [digs]; simp [hm]
  refine ⟨_, ha.set _ _ (by omega), hb.setCell (Nat.le_refl _) _, by simp [hs], ?_⟩
  rw [List.drop_eq_getElem_cons (by simp [hs]; omega)]
  rw [hu, e]
  simp [Array.setIfInBounds, hs, hq, ← hd, List.drop_set_of_lt]
  omega

theorem num_Text.slice20 (W : World) (b : Nat) (i : Nat) (hi : i < 20) : (Instr.sliceAt 60 (.pointer (some ⟨b, 0, none⟩)) (some (.int .i64 i)) none none).run Try.prog W = .ok (.slice (some ⟨b, i, none⟩) (20 - i) (20 - i)) W := by
  have ha : Try.prog.arrayLen 60 = 20 := by kernel_rfl
  have he : Try.prog.elem 60 = 5 := by kernel_rfl
  have hz : (sizeOf 5).run Try.prog W = .ok 1 W := by kernel_rfl
  have hi2 : ((i : Int)).toNat = i := by omega
  rw [run_sliceAt_array_l (P := Try.prog) W 60 ⟨b, 0, none⟩ (by kernel_rfl) .i64 i (by omega) (by rw [ha]; omega), ha, he, hz, hi2]
  have hne : ¬ (20 = i) := by omega
  simp [Result.andThen, slicedAt, Addr.add, hne]
  intro h
  exact h.symm

theorem num_Text.conv {W : World} {b q : Nat} {cs : Array Value} (h : ArrAt W b cs) (l : List UInt8) (hl : cs.toList.drop q = l.map (fun (b : UInt8) => Value.int .u8 b.toNat)) (n c : Nat) (hn : n = l.length) :
    (convert 62 9 (.slice (some ⟨b, q, none⟩) n c)).run Try.prog W = .ok (.string ⟨l.toArray⟩) W :=
  conv_arr h 62 5 9 (by kernel_rfl) (by kernel_rfl) (by kernel_rfl) l n c (fun i hi => by
    have : cs[q + i]? = (cs.toList.drop q)[i]? := by simp
    rw [this, hl]
    simp) hn

set_option maxRecDepth 100000 in
theorem num_Text.walk (a : Int) (h1 : -9223372036854775808 ≤ a) (h2 : a ≤ 9223372036854775807) (w : World) :
    Calls Try.prog 25 #[.int .i64 a] w fun e w' => e = .returned (.string ⟨(textB a).toArray⟩) ∧ Below w.heap.size w w' := by
  obtain ⟨u, hu⟩ : ∃ u, num_size.f a = some u := by unfold num_size.f; split <;> exact ⟨_, rfl⟩
  obtain rfl := num_Text.size_nat h1 h2 hu
  go_enter Try.func25, Try.ntmps25
  go_wp2_with (go_at_call 65; (with_reducible refine (num_size.calls a _ _ hu).mono ?_); rintro e w' ⟨rfl, ⟨nd, rfl⟩⟩)
  go_loopw [4, 5] (fun pv mv wr => ∃ (q m : Nat), pv = .int .i64 (q + 1) ∧ mv = .int .u64 m ∧ Aside0 (num_Text.Rel w.heap.size w a.natAbs q m wr)) (fun _ mv _ => (intOf mv).toNat)
  case atStart => exact ⟨19, a.natAbs, rfl, rfl, ⟨num_Text.start w _ (by omega) nd⟩⟩
  case round =>
    obtain ⟨q, m, rfl, rfl, hr⟩ := hrel
    have hq : q < 20 := hr.out.choose_spec.2.2.2.2.2.1
    have hm2 : m ≤ 9223372036854775808 := hr.out.choose_spec.2.2.2.1
    obtain ⟨v0, hv0⟩ : ∃ v, wr.cell? ⟨w.heap.size, q, none⟩ = some v := by
      obtain ⟨cs, ha, -, hs, -⟩ := hr.out
      exact ⟨cs[q], by rw [ha.cell]; simp [hs, hq]⟩
    have hf0 : wr.frozen? ⟨w.heap.size, q, none⟩ = false := hr.out.choose_spec.1.free q
    by_cases hm : (m : Int) < 10
    · obtain ⟨cs, ha2, hb2, hs2, hd2⟩ := num_Text.last hr.out (by omega)
      have hq1 : 1 ≤ q := by
        obtain ⟨_, _, _, _, _, hl, _⟩ := hr.out
        have := digs_pos m
        omega
      have hlen : (digs a.natAbs).length = 20 - q := by
        have := congrArg List.length hd2
        simp [hs2] at this
        omega
      by_cases ha : a < 0
      · obtain ⟨q', rfl⟩ : ∃ q', q = q' + 1 := ⟨q - 1, by omega⟩
        obtain ⟨v1, hv1⟩ : ∃ v, wr.cell? ⟨w.heap.size, q', none⟩ = some v := by
          obtain ⟨cs, ha, -, hs, -⟩ := hr.out
          exact ⟨cs[q'], by rw [ha.cell]; simp⟩
        have hf1 : wr.frozen? ⟨w.heap.size, q', none⟩ = false := hr.out.choose_spec.1.free q'
        have hsl := fun W => num_Text.slice20 W w.heap.size q' (by omega)
        have hcv := num_Text.conv (ha2.set q' (.int .u8 45) (by omega)) (q := q') (textB a) (by
          have hq3 : q' < cs.size := by omega
          rw [List.drop_eq_getElem_cons (by simp; omega)]
          simp [Array.setIfInBounds, hq3, textB, ha, ← hd2]
          exact List.drop_set_of_lt (by omega)) (20 - q') (20 - q') (by simp [textB, ha, hlen]; omega)
        have HB := Aside0.mk (hb2.setCell (p := ⟨w.heap.size, q', none⟩) (Nat.le_refl _) (.int .u8 45))
        clear ha2 hb2 hs2 hd2 hlen
        go_wp2
        go_ret
        exact ⟨rfl, HB.out⟩
      · have hsl := fun W => num_Text.slice20 W w.heap.size q hq
        have hcv := num_Text.conv ha2 (q := q) (textB a) (by rw [hd2]; simp [textB, ha]) (20 - q) (20 - q) (by simp [textB, ha, hlen])
        have HB := Aside0.mk hb2
        clear ha2 hb2 hs2 hd2 hlen
        go_wp2
        go_ret
        exact ⟨rfl, HB.out⟩
    · obtain ⟨q', rfl, hr'⟩ := num_Text.step hr.out (by omega)
      have HR := Aside0.mk hr'
      clear hr'
      go_wp2
      go_roundw
      · exact ⟨q', m / 10, by go_num, rfl, HR⟩
      · simp [intOf]; omega

theorem num_Text.calls (a0 : Int) (r : ByteArray) (w : World) (h : num_Text.f a0 = some r) :
    Calls Try.prog 25 #[.int .i64 a0] w fun e w' => e = .returned (.string r) ∧ Below w.heap.size w w' := by
  unfold num_Text.f at h
  split at h
  case isTrue hh => injection h with h; subst h; exact num_Text.walk a0 hh.1 hh.2 w
  case isFalse => exact absurd h (by simp)

-- NOT PRINTED: function 92 (abi_NoEscape)

-- NOT PRINTED: function 90 (strings_Builder_copyCheck)

-- NOT PRINTED: function 93 (bytealg_MakeNoZero)

-- NOT PRINTED: function 91 (strings_Builder_grow)

-- NOT PRINTED: function 87 (strings_Builder_Grow)

-- NOT PRINTED: function 88 (strings_Builder_WriteString)

-- NOT PRINTED: function 89 (strings_Builder_String)

/-! ### strings_Join: function 83 (given) -/
def strings_Join.f (l0 : List ByteArray) (a1 : ByteArray) : Option ByteArray :=
  if l0.length ≤ 140737488355328 ∧ (Lib.join (l0.map (·.data.toList)) a1.data.toList).length ≤ 140737488355328 then some ⟨(Lib.join (l0.map (·.data.toList)) a1.data.toList).toArray⟩ else none
theorem strings_Join.calls (A0 : Option Addr) (c0 : Nat) (l0 : List ByteArray) (a1 : ByteArray) (r : ByteArray) (w : World) (hr0 : Kd.C Kd.string w A0 l0.length l0) (hc0 : l0.length ≤ c0) (h : strings_Join.f l0 a1 = some r) :
    Calls Try.prog 83 #[.slice A0 l0.length c0, .string a1] w fun e w' => e = .returned (.string r) ∧ Below w.heap.size w w' := by
  unfold strings_Join.f at h
  split at h
  case isFalse => exact absurd h (by simp)
  case isTrue hl =>
  injection h with h
  subst h
  by_cases h0 : l0.length = 0
  · obtain rfl : l0 = [] := List.eq_nil_of_length_eq_zero h0
    refine (Try.strings_Join_none A0 c0 a1 w).mono fun e w' ⟨he, hw⟩ => ⟨he, hw ▸ Below.refl _ _⟩
  · have hR := Kd.reads_of_C (d := ByteArray.empty) hr0
    obtain ⟨ad, rfl, hc⟩ := hR.2.2 (by omega)
    have hz := hc 0 (by omega)
    obtain ⟨bk, o, sp⟩ := ad
    have hsp : sp = none := by
      simp only [Addr.add, World.cell?, if_true] at hz
      split at hz
      · split at hz
        · cases hz
        · rename_i hs; simpa using hs
      · cases hz
    subst hsp
    have hadd : ∀ j, (⟨bk, o, none⟩ : Addr).add j = ⟨bk, o + j, none⟩ := fun j => by unfold Addr.add; split <;> simp_all
    refine Try.strings_Join bk o c0 l0 a1 w (fun j x hj => ?_) ?_ hl.1 hc0 hl.2
    · have hjl : j < l0.length := by
        rcases Nat.lt_or_ge j l0.length with h | h
        · exact h
        · rw [List.getElem?_eq_none h] at hj; cases hj
      have := hc j hjl
      rw [hadd] at this
      rw [this]
      simp [List.getD, hj]
    · rw [hadd] at hz
      rcases Nat.lt_or_ge bk w.heap.size with h | h
      · exact h
      · simp [World.cell?, Array.getElem?_eq_none h] at hz

end Go.Proofs.Ytjlfclhlfgjgcaa.P
