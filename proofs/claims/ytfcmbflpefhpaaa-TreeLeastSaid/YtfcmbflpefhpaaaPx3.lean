-- PRINTED by a program of this session over the kit's print.py.
import Derived.Test.YtfcmbflpefhpaaaPx0
import Derived.Test.YtfcmbflpefhpaaaPx2
namespace Go.Proofs.Ytfcmbflpefhpaaa.P
open Go.Own Go.RowKit Go.Proofs.YtfcmbflpefhpaaaW.PrintWords Go.Proofs.YtfcmbflpefhpaaaW.PrintLast Go.Proofs.YtfcmbflpefhpaaaW.PrintMore
attribute [local go_sem] max2_int min2_int max_two min_two max_three min_three max_four min_four   -- for this text's walks alone
set_option linter.unusedVariables false
set_option linter.unusedSimpArgs false

/-! ### tree_Count: function 11 -/
def tree_Count.l0 : Nat → Int → List (S39) → Int → Int → Option (Int)
  | 0, _, _, _, _ => none
  | k + 1, x3, x6, x7, x8 => if x8 < x7 then (if 0 ≤ x8 then (if x8 < (x6.length : Int) then (tree_Count.l0 k (wrap64 (x3 + (((rd_T39 x6 x8).f2).length : Int))) x6 x7 (wrap64 (x8 + 1))) else (none)) else (none)) else (some x3)
def tree_Count.f (k : Nat) (l0 : List (S39)) : Option (Int) := tree_Count.l0 k 0 l0 (l0.length : Int) 0
theorem tree_Count.mono_l : ∀ k, (∀ y0 y1 y2 y3, LeO (tree_Count.l0 k y0 y1 y2 y3) (tree_Count.l0 (k + 1) y0 y1 y2 y3))
  | 0 => fun _ _ _ _ r h => by simp [tree_Count.l0] at h
  | k + 1 => by
    have ih0 := tree_Count.mono_l k
    · intro y0 y1 y2 y3
      unfold tree_Count.l0
      repeat' first
      | (with_reducible exact ih0 _ _ _ _)
      | (with_reducible exact LeO.refl _)
      | (with_reducible exact LeO.none _)
      | (with_reducible refine LeO.ite ?_ ?_)
      | (with_reducible refine LeO.bind ?_ (fun _ => ?_))
      | exact ih0 _ _ _ _
      | exact LeO.none _
      | refine LeO.ite ?_ ?_
      | refine LeO.bind ?_ (fun _ => ?_)
theorem tree_Count.mono : ∀ a0 k, LeO (tree_Count.f k a0) (tree_Count.f (k + 1) a0) := by
  intro a0 k
  have ih0 := tree_Count.mono_l k
  unfold tree_Count.f
  repeat' first
      | (with_reducible exact ih0 _ _ _ _)
      | (with_reducible exact LeO.refl _)
      | (with_reducible exact LeO.none _)
      | (with_reducible refine LeO.ite ?_ ?_)
      | (with_reducible refine LeO.bind ?_ (fun _ => ?_))
      | exact ih0 _ _ _ _
      | exact LeO.none _
      | refine LeO.ite ?_ ?_
      | refine LeO.bind ?_ (fun _ => ?_)
set_option maxHeartbeats 8000000 in
set_option maxRecDepth 100000 in
theorem tree_Count.calls (k : Nat) (A0 : Option Addr) (c0 : Nat) (l0 : List (S39)) (r : Int) (w : World) (hr0 : Kd.C k39 w A0 l0.length l0) (hc0 : l0.length ≤ c0) (h : tree_Count.f k l0 = some r) :
    Calls Try.prog 11 #[.slice A0 l0.length c0] w fun e w' => e = .returned (.int .i64 r) ∧ Below w.heap.size w w' := by
  have hu39 := Try.underlying39
  have HR0 := Aside0.mk hr0
  have HC0 := Aside0.mk hc0
  clear hr0 hc0
  have HB := Aside0.mk (Below.refl w.heap.size w)
  have H : (tree_Count.l0 k 0 l0 (l0.length : Int) 0) = some r := h
  clear h
  have H' := Aside0.mk H
  clear H
  go_enter Try.func11, Try.ntmps11
  go_wp2
  go_loopg [3, 8] k (fun kq v3 v8 w' => ∃ (x3_1 : Int) (x8_1 : Int), v3 = .int .i64 x3_1 ∧ v8 = .int .i64 x8_1 ∧ Aside0 (tree_Count.l0 kq x3_1 l0 (l0.length : Int) x8_1 = some r) ∧ Aside0 (kq ≤ k) ∧ Aside0 (Below w.heap.size w w'))
  case atStart => exact ⟨(0), (0), (by first | rfl | (simp; done) | (simp [*]; done)), (by first | rfl | (simp; done) | (simp [*]; done)), H', ⟨Nat.le_refl _⟩, ⟨by repeat (first | (with_reducible first | exact HB.out | apply below_alloc | apply pw_below_drewN | apply below_drew1) | exact HB.out)⟩⟩
  case round =>
    clear H'
    try clear c1
    obtain ⟨x3_1, x8_1, rfl, rfl, HA, HK1, HB⟩ := hrel
    cases gk with
    | zero => exact absurd HA.out (by simp [tree_Count.l0])
    | succ k1 =>
      have H := HA.out
      clear HA
      simp only [tree_Count.l0] at H
      by_cases c2 : x8_1 < (l0.length : Int)
      · rw [if_pos c2] at H
        have c2b0 : decide (x8_1 < (l0.length : Int)) = true := decide_eq_true c2
        clear c2
        by_cases c3 : 0 ≤ x8_1
        · rw [if_pos c3] at H
          have c3b0 : decide (0 ≤ x8_1) = true := decide_eq_true c3
          clear c3
          by_cases c4 : x8_1 < (l0.length : Int)
          · rw [if_pos c4] at H
            have c4b0 : decide (x8_1 < (l0.length : Int)) = true := decide_eq_true c4
            clear c4
            have H' := Aside0.mk H
            clear H
            have p111 : 0 ≤ (x8_1 : Int) := of_decide_eq_true (by first | (with_reducible assumption) | assumption)
            have q111 : x8_1 < (l0.length : Int) := of_decide_eq_true (by first | (with_reducible assumption) | assumption)
            obtain ⟨ad111, A111_0, c111_0, A111_1, c111_1, A111_2, c111_2, A111_4, c111_4, e111, hx111_0, hx111_1, hx111_2, hx111_3, hx111_4, hl111_0, hi111_0, hl111_1, hi111_1, hl111_2, hi111_2, hl111_4, hi111_4⟩ := at_T39 HR0.out x8_1 p111 q111
            cases e111
            replace hx111_0 := (HB.out.cell (World.block_lt_of_cell? w _ hx111_0)).trans hx111_0
            replace hx111_1 := (HB.out.cell (World.block_lt_of_cell? w _ hx111_1)).trans hx111_1
            replace hx111_2 := (HB.out.cell (World.block_lt_of_cell? w _ hx111_2)).trans hx111_2
            replace hx111_3 := (HB.out.cell (World.block_lt_of_cell? w _ hx111_3)).trans hx111_3
            replace hx111_4 := (HB.out.cell (World.block_lt_of_cell? w _ hx111_4)).trans hx111_4
            have HR111_0 := Aside0.mk hi111_0
            have HC111_0 := Aside0.mk hl111_0
            clear hi111_0 hl111_0
            have HR111_1 := Aside0.mk hi111_1
            have HC111_1 := Aside0.mk hl111_1
            clear hi111_1 hl111_1
            have HR111_2 := Aside0.mk hi111_2
            have HC111_2 := Aside0.mk hl111_2
            clear hi111_2 hl111_2
            have HR111_4 := Aside0.mk hi111_4
            have HC111_4 := Aside0.mk hl111_4
            clear hi111_4 hl111_4
            replace p111 := eq_true p111
            replace q111 := eq_true q111
            go_wp2_with (first | ((with_reducible refine gate_dst (N := 5) rfl ?_); refine box_event ?hg (N := 5) ?hd (cs := #[.slice none 0 0, .slice none 0 0, .slice none 0 0, .int .i64 0, .slice none 0 0]) (t := 39) ?hr ?_; (case hd => rfl); (case hg => rfl); (case hr => first | (go_simp; done) | (go_simp; rfl)); intro gb112 hg w5 hbox hb; have n0_ := Aside0.mk (below_step (by repeat (first | (with_reducible first | exact HB.out | apply below_alloc | apply pw_below_drewN | apply below_drew1) | exact HB.out)) hb); have n1_ := Aside0.mk (hbox); have n2_ := Aside0.mk ((by rw [hg]; exact (below_size (by repeat (first | (with_reducible first | exact HB.out | apply below_alloc | apply pw_below_drewN | apply below_drew1) | exact HB.out))) : w.heap.size ≤ gb112)); have n3_ := Aside0.mk ((by rw [hg]; exact (below_size (by repeat (first | (with_reducible first | exact HB.out | apply below_alloc | apply pw_below_drewN | apply below_drew1) | exact HB.out))) : w.heap.size ≤ gb112)); clear HB; have HB := n0_; have BK112 := n1_; have GW112 := n2_; have GE112 := n3_; clear n0_ n1_ n2_ n3_; clear hb hbox hg; have hcz6_0 : w5.cell? ⟨gb112, 0, none⟩ = some (.slice none 0 0) := (blk_cell BK112.out 0).trans rfl; have hcz6_1 : w5.cell? ⟨gb112, 1, none⟩ = some (.slice none 0 0) := (blk_cell BK112.out 1).trans rfl; have hcz6_2 : w5.cell? ⟨gb112, 2, none⟩ = some (.slice none 0 0) := (blk_cell BK112.out 2).trans rfl; have hcz6_3 : w5.cell? ⟨gb112, 3, none⟩ = some (.int .i64 0) := (blk_cell BK112.out 3).trans rfl; have hcz6_4 : w5.cell? ⟨gb112, 4, none⟩ = some (.slice none 0 0) := (blk_cell BK112.out 4).trans rfl; have hfz6_0 := blk_frozen BK112.out 0; have hfz6_1 := blk_frozen BK112.out 1; have hfz6_2 := blk_frozen BK112.out 2; have hfz6_3 := blk_frozen BK112.out 3; have hfz6_4 := blk_frozen BK112.out 4))
            go_roundg k1
            case measure => have := HK1.out; omega
            case rel => exact ⟨(wrap64 (x3_1 + (((rd_T39 l0 x8_1).f2).length : Int))), (wrap64 (x8_1 + 1)), (by first | rfl | (simp; done) | (simp [*]; done)), (by first | rfl | (simp; done) | (simp [*]; done)), H', ⟨by have := HK1.out; omega⟩, ⟨by repeat (first | (with_reducible first | exact HB.out | apply below_alloc | apply pw_below_drewN | apply below_drew1 | refine below_set ?_ GE112.out) | exact HB.out)⟩⟩
          · rw [if_neg c4] at H
            exact absurd H (by simp)
        · rw [if_neg c3] at H
          exact absurd H (by simp)
      · rw [if_neg c2] at H
        have c2b0 : decide (x8_1 < (l0.length : Int)) = false := decide_eq_false c2
        clear c2
        obtain rfl := Option.some.inj H
        go_wp2
        go_ret
        exact ⟨by first | rfl | (simp [errW_none, errW_some] <;> rfl) | (simp [*, errW_none, errW_some] <;> rfl), by repeat (first | (with_reducible first | exact HB.out | apply below_alloc | apply pw_below_drewN | apply below_drew1) | exact HB.out)⟩

/-! ### label_parts: function 32 (given) -/
def label_parts.f (l0 : List Int) (l1 : List Int) : Option Int := some (partsL l0 l1 : Nat)
set_option maxRecDepth 100000 in
theorem label_parts.calls (A0 : Option Addr) (c0 : Nat) (l0 : List Int) (A1 : Option Addr) (c1 : Nat) (l1 : List Int) (r : Int) (w : World) (hr0 : Kd.C (Kd.int .i64) w A0 l0.length l0) (hc0 : l0.length ≤ c0) (hr1 : Kd.C (Kd.int .i64) w A1 l1.length l1) (hc1 : l1.length ≤ c1) (h : label_parts.f l0 l1 = some r) :
    Calls Try.prog 32 #[.slice A0 l0.length c0, .slice A1 l1.length c1] w fun e w' => e = .returned (.int .i64 r) ∧ Below w.heap.size w w' := by
  injection h with h
  subst h
  have hb0 : l0.length ≤ 9223372036854775807 := hr0.2.1
  have hb1 : l1.length ≤ 9223372036854775807 := hr1.2.1
  have HR0 := Aside0.mk (Kd.reads_of_C (d := (0 : Int)) hr0)
  have HR1 := Aside0.mk (Kd.reads_of_C (d := (0 : Int)) hr1)
  clear hr0 hr1 hc0 hc1
  by_cases hlt : l1.length < l0.length
  all_goals
    go_enter Try.func32, Try.ntmps32
    go_wp2
    go_loopw [11] (fun iv wr => ∃ (i : Nat) (n : Nat), iv = .int .i64 i ∧ wr = w.drewN n ∧ Aside0 (i ≤ l0.length ∧ i ≤ l1.length ∧ partsL (l0.drop i) (l1.drop i) + i = partsL l0 l1)) (fun iv _ => l0.length - (intOf iv).toNat)
    case atStart => exact ⟨0, 0, rfl, rfl, ⟨by omega, by omega, by simp⟩⟩
    case round =>
      obtain ⟨i, n, rfl, rfl, HA⟩ := hrel
      have hi0 := HA.out.1
      have hi1 := HA.out.2.1
      by_cases hin : i < l0.length ∧ i < l1.length
      · obtain ⟨h0, h1⟩ := hin
        obtain ⟨ad0, e0, hc0⟩ := HR0.out.2.2 (by omega)
        obtain ⟨ad1, e1, hc1⟩ := HR1.out.2.2 (by omega)
        have k0 : w.cell? (ad0.add i) = some (.int .i64 l0[i]) := by rw [hc0 i h0]; simp [List.getD, h0]
        have k1 : w.cell? (ad1.add i) = some (.int .i64 l1[i]) := by rw [hc1 i h1]; simp [List.getD, h1]
        subst e0 e1
        clear hc0 hc1
        obtain ⟨x, hx⟩ : ∃ x, x = l0[i] := ⟨_, rfl⟩
        obtain ⟨y, hy⟩ : ∃ y, y = l1[i] := ⟨_, rfl⟩
        rw [← hx] at k0
        rw [← hy] at k1
        have HX := Aside0.mk hx
        have HY := Aside0.mk hy
        clear hx hy
        by_cases hxy : x = y
        · have hst := Aside0.mk (partsL_step l0 l1 i h0 h1 (by rw [← HX.out, ← HY.out]; exact hxy))
          have hb : (x != y) = false := by simpa using hxy
          clear hxy
          go_wp2
          go_quiet (fail)
          go_wp2
          go_roundw
          · exact ⟨i + 1, _, by go_num, rfl, ⟨by omega, by omega, by have h1 := HA.out.2.2; have h2 := hst.out; omega⟩⟩
          · simp [intOf]; omega
        · have hst := Aside0.mk (partsL_stop l0 l1 i h0 h1 (by rw [← HX.out, ← HY.out]; exact hxy))
          have hb : (x != y) = true := by simpa using hxy
          clear hxy
          go_wp2
          go_quiet (fail)
          go_wp2
          go_ret
          have hri : partsL l0 l1 = i := by have h1 := HA.out.2.2; have h2 := hst.out; omega
          rw [hri]
          exact ⟨rfl, pw_below_drewN (pw_below_drewN (Below.refl _ _) _) _⟩
      · have hst := partsL_end l0 l1 i (by omega)
        have hr : i = partsL l0 l1 := by have := HA.out.2.2; omega
        have HS := Aside0.mk hr
        have HE := Aside0.mk (show l1.length ≤ i ∨ l0.length ≤ i by omega)
        clear hst hr
        go_wp2
        go_ret
        rw [← HS.out]
        refine ⟨?_, pw_below_drewN (Below.refl _ _) _⟩
        have he := HE.out
        refine congrArg (fun x : Int => Ending.returned (.int .i64 x)) ?_
        first | omega | (split <;> omega)

/-! ### cmp_isNaN_int: function 38 -/
def cmp_isNaN_int.f (a0 : Int) : Option (Bool) := some (a0 != a0)
set_option maxHeartbeats 8000000 in
set_option maxRecDepth 100000 in
theorem cmp_isNaN_int.calls (a0 : Int) (r : Bool) (w : World) (h : cmp_isNaN_int.f a0 = some r) :
    Calls Try.prog 38 #[.int .i64 a0] w fun e w' => e = .returned (.bool r) ∧ Drawn0 w w' := by
  have H : (some (a0 != a0)) = some r := h
  clear h
  obtain rfl := Option.some.inj H
  go_enter Try.func38, Try.ntmps38
  go_wp2
  go_ret
  exact ⟨by first | rfl | (simp; done) | (simp [*]; done), by repeat (first | exact Drawn0.refl _ | apply Drawn0.step)⟩

/-! ### cmp_Compare_int: function 33 -/
def cmp_Compare_int.f (a0 : Int) (a1 : Int) : Option (Int) := (cmp_isNaN_int.f a0).bind fun t113 => ((cmp_isNaN_int.f a1).bind fun t114 => (if t113 = true then (if t114 = true then (some 0) else (some (-1))) else (if t114 = true then (some 1) else (if a0 < a1 then (some (-1)) else (if a0 > a1 then (some 1) else (some 0))))))
set_option maxHeartbeats 8000000 in
set_option maxRecDepth 100000 in
theorem cmp_Compare_int.calls (a0 : Int) (a1 : Int) (r : Int) (w : World) (h : cmp_Compare_int.f a0 a1 = some r) :
    Calls Try.prog 33 #[.int .i64 a0, .int .i64 a1] w fun e w' => e = .returned (.int .i64 r) ∧ Drawn0 w w' := by
  have H : ((cmp_isNaN_int.f a0).bind fun t113 => ((cmp_isNaN_int.f a1).bind fun t114 => (if t113 = true then (if t114 = true then (some 0) else (some (-1))) else (if t114 = true then (some 1) else (if a0 < a1 then (some (-1)) else (if a0 > a1 then (some 1) else (some 0))))))) = some r := h
  clear h
  replace H := Option.bind_eq_some_iff.mp H
  obtain ⟨t113, A30, H⟩ := H
  replace H : ((cmp_isNaN_int.f a1).bind fun t114 => (if t113 = true then (if t114 = true then (some 0) else (some (-1))) else (if t114 = true then (some 1) else (if a0 < a1 then (some (-1)) else (if a0 > a1 then (some 1) else (some 0)))))) = some r := H
  have A3 := Aside0.mk A30
  clear A30
  replace H := Option.bind_eq_some_iff.mp H
  obtain ⟨t114, A40, H⟩ := H
  replace H : (if t113 = true then (if t114 = true then (some 0) else (some (-1))) else (if t114 = true then (some 1) else (if a0 < a1 then (some (-1)) else (if a0 > a1 then (some 1) else (some 0))))) = some r := H
  have A4 := Aside0.mk A40
  clear A40
  by_cases c5 : t113 = true
  · subst c5
    have H1 : (if t114 = true then (some 0) else (some (-1))) = some r := by rw [if_pos rfl] at H; exact H
    clear H
    have H := H1
    clear H1
    by_cases c6 : t114 = true
    · subst c6
      have H1 : (some 0) = some r := by rw [if_pos rfl] at H; exact H
      clear H
      have H := H1
      clear H1
      obtain rfl := Option.some.inj H
      go_enter Try.func33, Try.ntmps33
      go_wp2_with (first | ((with_reducible refine gate_callee (f := 38) rfl ?_); refine goesL_ (some 8) rfl rfl Try.func38 (by kernel_rfl) rfl #[.int .i64 a0] rfl (by (try simp only [List.map_toArray, List.map_cons, List.map_nil]); first | done | rfl | (simp only [List.length_drop, List.length_take]; rfl)) ?_; (with_reducible refine (cmp_isNaN_int.calls a0 true _ A3.out).mono ?_); rintro e w' ⟨rfl, ⟨nd, rfl⟩⟩; refine ⟨_, rfl, ?_⟩) | ((with_reducible refine gate_callee (f := 38) rfl ?_); refine goesL_ (some 10) rfl rfl Try.func38 (by kernel_rfl) rfl #[.int .i64 a1] rfl (by (try simp only [List.map_toArray, List.map_cons, List.map_nil]); first | done | rfl | (simp only [List.length_drop, List.length_take]; rfl)) ?_; (with_reducible refine (cmp_isNaN_int.calls a1 true _ A4.out).mono ?_); rintro e w' ⟨rfl, ⟨nd, rfl⟩⟩; refine ⟨_, rfl, ?_⟩))
      go_ret
      exact ⟨by first | rfl | (simp; done) | (simp [*]; done), by repeat (first | exact Drawn0.refl _ | apply Drawn0.step)⟩
    · replace c6 := Bool.eq_false_iff.mpr c6
      subst c6
      have H1 : (some (-1)) = some r := by rw [if_neg (show ¬ (false = true) by decide)] at H; exact H
      clear H
      have H := H1
      clear H1
      obtain rfl := Option.some.inj H
      go_enter Try.func33, Try.ntmps33
      go_wp2_with (first | ((with_reducible refine gate_callee (f := 38) rfl ?_); refine goesL_ (some 8) rfl rfl Try.func38 (by kernel_rfl) rfl #[.int .i64 a0] rfl (by (try simp only [List.map_toArray, List.map_cons, List.map_nil]); first | done | rfl | (simp only [List.length_drop, List.length_take]; rfl)) ?_; (with_reducible refine (cmp_isNaN_int.calls a0 true _ A3.out).mono ?_); rintro e w' ⟨rfl, ⟨nd, rfl⟩⟩; refine ⟨_, rfl, ?_⟩) | ((with_reducible refine gate_callee (f := 38) rfl ?_); refine goesL_ (some 10) rfl rfl Try.func38 (by kernel_rfl) rfl #[.int .i64 a1] rfl (by (try simp only [List.map_toArray, List.map_cons, List.map_nil]); first | done | rfl | (simp only [List.length_drop, List.length_take]; rfl)) ?_; (with_reducible refine (cmp_isNaN_int.calls a1 false _ A4.out).mono ?_); rintro e w' ⟨rfl, ⟨nd, rfl⟩⟩; refine ⟨_, rfl, ?_⟩))
      go_ret
      exact ⟨by first | rfl | (simp; done) | (simp [*]; done), by repeat (first | exact Drawn0.refl _ | apply Drawn0.step)⟩
  · replace c5 := Bool.eq_false_iff.mpr c5
    subst c5
    have H1 : (if t114 = true then (some 1) else (if a0 < a1 then (some (-1)) else (if a0 > a1 then (some 1) else (some 0)))) = some r := by rw [if_neg (show ¬ (false = true) by decide)] at H; exact H
    clear H
    have H := H1
    clear H1
    by_cases c7 : t114 = true
    · subst c7
      have H1 : (some 1) = some r := by rw [if_pos rfl] at H; exact H
      clear H
      have H := H1
      clear H1
      obtain rfl := Option.some.inj H
      go_enter Try.func33, Try.ntmps33
      go_wp2_with (first | ((with_reducible refine gate_callee (f := 38) rfl ?_); refine goesL_ (some 8) rfl rfl Try.func38 (by kernel_rfl) rfl #[.int .i64 a0] rfl (by (try simp only [List.map_toArray, List.map_cons, List.map_nil]); first | done | rfl | (simp only [List.length_drop, List.length_take]; rfl)) ?_; (with_reducible refine (cmp_isNaN_int.calls a0 false _ A3.out).mono ?_); rintro e w' ⟨rfl, ⟨nd, rfl⟩⟩; refine ⟨_, rfl, ?_⟩) | ((with_reducible refine gate_callee (f := 38) rfl ?_); refine goesL_ (some 10) rfl rfl Try.func38 (by kernel_rfl) rfl #[.int .i64 a1] rfl (by (try simp only [List.map_toArray, List.map_cons, List.map_nil]); first | done | rfl | (simp only [List.length_drop, List.length_take]; rfl)) ?_; (with_reducible refine (cmp_isNaN_int.calls a1 true _ A4.out).mono ?_); rintro e w' ⟨rfl, ⟨nd, rfl⟩⟩; refine ⟨_, rfl, ?_⟩))
      go_ret
      exact ⟨by first | rfl | (simp; done) | (simp [*]; done), by repeat (first | exact Drawn0.refl _ | apply Drawn0.step)⟩
    · replace c7 := Bool.eq_false_iff.mpr c7
      subst c7
      have H1 : (if a0 < a1 then (some (-1)) else (if a0 > a1 then (some 1) else (some 0))) = some r := by rw [if_neg (show ¬ (false = true) by decide)] at H; exact H
      clear H
      have H := H1
      clear H1
      by_cases c8 : a0 < a1
      · rw [if_pos c8] at H
        have c8b0 : decide (a0 < a1) = true := decide_eq_true c8
        clear c8
        obtain rfl := Option.some.inj H
        go_enter Try.func33, Try.ntmps33
        go_wp2_with (first | ((with_reducible refine gate_callee (f := 38) rfl ?_); refine goesL_ (some 8) rfl rfl Try.func38 (by kernel_rfl) rfl #[.int .i64 a0] rfl (by (try simp only [List.map_toArray, List.map_cons, List.map_nil]); first | done | rfl | (simp only [List.length_drop, List.length_take]; rfl)) ?_; (with_reducible refine (cmp_isNaN_int.calls a0 false _ A3.out).mono ?_); rintro e w' ⟨rfl, ⟨nd, rfl⟩⟩; refine ⟨_, rfl, ?_⟩) | ((with_reducible refine gate_callee (f := 38) rfl ?_); refine goesL_ (some 10) rfl rfl Try.func38 (by kernel_rfl) rfl #[.int .i64 a1] rfl (by (try simp only [List.map_toArray, List.map_cons, List.map_nil]); first | done | rfl | (simp only [List.length_drop, List.length_take]; rfl)) ?_; (with_reducible refine (cmp_isNaN_int.calls a1 false _ A4.out).mono ?_); rintro e w' ⟨rfl, ⟨nd, rfl⟩⟩; refine ⟨_, rfl, ?_⟩))
        go_ret
        exact ⟨by first | rfl | (simp; done) | (simp [*]; done), by repeat (first | exact Drawn0.refl _ | apply Drawn0.step)⟩
      · rw [if_neg c8] at H
        have c8b0 : decide (a0 < a1) = false := decide_eq_false c8
        clear c8
        by_cases c9 : a0 > a1
        · rw [if_pos c9] at H
          have c9b0 : decide (a1 < a0) = true := decide_eq_true c9
          clear c9
          obtain rfl := Option.some.inj H
          go_enter Try.func33, Try.ntmps33
          go_wp2_with (first | ((with_reducible refine gate_callee (f := 38) rfl ?_); refine goesL_ (some 8) rfl rfl Try.func38 (by kernel_rfl) rfl #[.int .i64 a0] rfl (by (try simp only [List.map_toArray, List.map_cons, List.map_nil]); first | done | rfl | (simp only [List.length_drop, List.length_take]; rfl)) ?_; (with_reducible refine (cmp_isNaN_int.calls a0 false _ A3.out).mono ?_); rintro e w' ⟨rfl, ⟨nd, rfl⟩⟩; refine ⟨_, rfl, ?_⟩) | ((with_reducible refine gate_callee (f := 38) rfl ?_); refine goesL_ (some 10) rfl rfl Try.func38 (by kernel_rfl) rfl #[.int .i64 a1] rfl (by (try simp only [List.map_toArray, List.map_cons, List.map_nil]); first | done | rfl | (simp only [List.length_drop, List.length_take]; rfl)) ?_; (with_reducible refine (cmp_isNaN_int.calls a1 false _ A4.out).mono ?_); rintro e w' ⟨rfl, ⟨nd, rfl⟩⟩; refine ⟨_, rfl, ?_⟩))
          go_ret
          exact ⟨by first | rfl | (simp; done) | (simp [*]; done), by repeat (first | exact Drawn0.refl _ | apply Drawn0.step)⟩
        · rw [if_neg c9] at H
          have c9b0 : decide (a1 < a0) = false := decide_eq_false c9
          clear c9
          obtain rfl := Option.some.inj H
          go_enter Try.func33, Try.ntmps33
          go_wp2_with (first | ((with_reducible refine gate_callee (f := 38) rfl ?_); refine goesL_ (some 8) rfl rfl Try.func38 (by kernel_rfl) rfl #[.int .i64 a0] rfl (by (try simp only [List.map_toArray, List.map_cons, List.map_nil]); first | done | rfl | (simp only [List.length_drop, List.length_take]; rfl)) ?_; (with_reducible refine (cmp_isNaN_int.calls a0 false _ A3.out).mono ?_); rintro e w' ⟨rfl, ⟨nd, rfl⟩⟩; refine ⟨_, rfl, ?_⟩) | ((with_reducible refine gate_callee (f := 38) rfl ?_); refine goesL_ (some 10) rfl rfl Try.func38 (by kernel_rfl) rfl #[.int .i64 a1] rfl (by (try simp only [List.map_toArray, List.map_cons, List.map_nil]); first | done | rfl | (simp only [List.length_drop, List.length_take]; rfl)) ?_; (with_reducible refine (cmp_isNaN_int.calls a1 false _ A4.out).mono ?_); rintro e w' ⟨rfl, ⟨nd, rfl⟩⟩; refine ⟨_, rfl, ?_⟩))
          go_ret
          exact ⟨by first | rfl | (simp; done) | (simp [*]; done), by repeat (first | exact Drawn0.refl _ | apply Drawn0.step)⟩

/-! ### label_Compare: function 23 -/
def label_Compare.j0 : Nat → List Int → List Int → Int → Bool → Option (Int)
  | 0, _, _, _, _ => none
  | k + 1, x0, x1, x5, x18 => if x18 = true then (if 0 ≤ x5 then (if x5 < (x0.length : Int) then (if x5 < (x1.length : Int) then ((cmp_Compare_int.f (rd x0 x5) (rd x1 x5)).bind fun t118 => (some t118)) else (none)) else (none)) else (none)) else ((cmp_Compare_int.f (x0.length : Int) (x1.length : Int)).bind fun t119 => (some t119))
def label_Compare.f (k : Nat) (l0 : List Int) (l1 : List Int) : Option (Int) := (label_parts.f l0 l1).bind fun t115 => (if t115 < (l0.length : Int) then (label_Compare.j0 k l0 l1 t115 (decide (t115 < (l1.length : Int)))) else (label_Compare.j0 k l0 l1 t115 false))
theorem label_Compare.mono_l : ∀ k, (∀ y0 y1 y2 y3, LeO (label_Compare.j0 k y0 y1 y2 y3) (label_Compare.j0 (k + 1) y0 y1 y2 y3))
  | 0 => fun _ _ _ _ r h => by simp [label_Compare.j0] at h
  | k + 1 => by
    have ih0 := label_Compare.mono_l k
    · intro y0 y1 y2 y3
      unfold label_Compare.j0
      repeat' first
      | (with_reducible exact ih0 _ _ _ _)
      | (with_reducible exact LeO.refl _)
      | (with_reducible exact LeO.none _)
      | (with_reducible refine LeO.ite ?_ ?_)
      | (with_reducible refine LeO.bind ?_ (fun _ => ?_))
      | exact ih0 _ _ _ _
      | exact LeO.none _
      | refine LeO.ite ?_ ?_
      | refine LeO.bind ?_ (fun _ => ?_)
theorem label_Compare.mono : ∀ a0 a1 k, LeO (label_Compare.f k a0 a1) (label_Compare.f (k + 1) a0 a1) := by
  intro a0 a1 k
  have ih0 := label_Compare.mono_l k
  unfold label_Compare.f
  repeat' first
      | (with_reducible exact ih0 _ _ _ _)
      | (with_reducible exact LeO.refl _)
      | (with_reducible exact LeO.none _)
      | (with_reducible refine LeO.ite ?_ ?_)
      | (with_reducible refine LeO.bind ?_ (fun _ => ?_))
      | exact ih0 _ _ _ _
      | exact LeO.none _
      | refine LeO.ite ?_ ?_
      | refine LeO.bind ?_ (fun _ => ?_)
set_option maxHeartbeats 8000000 in
set_option maxRecDepth 100000 in
theorem label_Compare.calls (k : Nat) (A0 : Option Addr) (c0 : Nat) (l0 : List Int) (A1 : Option Addr) (c1 : Nat) (l1 : List Int) (r : Int) (w : World) (hr0 : Kd.C (Kd.int .i64) w A0 l0.length l0) (hc0 : l0.length ≤ c0) (hr1 : Kd.C (Kd.int .i64) w A1 l1.length l1) (hc1 : l1.length ≤ c1) (h : label_Compare.f k l0 l1 = some r) :
    Calls Try.prog 23 #[.slice A0 l0.length c0, .slice A1 l1.length c1] w fun e w' => e = .returned (.int .i64 r) ∧ Below w.heap.size w w' := by
  have HR0 := Aside0.mk hr0
  have HC0 := Aside0.mk hc0
  clear hr0 hc0
  have HR1 := Aside0.mk hr1
  have HC1 := Aside0.mk hc1
  clear hr1 hc1
  have HB := Aside0.mk (Below.refl w.heap.size w)
  have H : ((label_parts.f l0 l1).bind fun t115 => (if t115 < (l0.length : Int) then (label_Compare.j0 k l0 l1 t115 (decide (t115 < (l1.length : Int)))) else (label_Compare.j0 k l0 l1 t115 false))) = some r := h
  clear h
  replace H := Option.bind_eq_some_iff.mp H
  obtain ⟨t115, A30, H⟩ := H
  replace H : (if t115 < (l0.length : Int) then (label_Compare.j0 k l0 l1 t115 (decide (t115 < (l1.length : Int)))) else (label_Compare.j0 k l0 l1 t115 false)) = some r := H
  have A3 := Aside0.mk A30
  clear A30
  have HC4 := Aside0.mk H
  clear H
  go_enter Try.func23, Try.ntmps23
  go_upto_region 2 with (first | (go_at_call 32; (with_reducible refine (label_parts.calls _ _ l0 _ _ l1 t115 _ ?side1 ?side2 ?side3 ?side4 A3.out).mono ?_); (case side1 => repeat (first | exact HR0.out | (with_reducible refine Kd.C_alloc ?_ _) | (with_reducible refine Kd.C_drewN ?_ _) | (with_reducible refine Kd.C_drew ?_))); (case side2 => exact HC0.out); (case side3 => repeat (first | exact HR1.out | (with_reducible refine Kd.C_alloc ?_ _) | (with_reducible refine Kd.C_drewN ?_ _) | (with_reducible refine Kd.C_drew ?_))); (case side4 => exact HC1.out); rintro e w5 ⟨rfl, hb⟩; have n0_ := Aside0.mk (below_step (by repeat (first | (with_reducible first | exact HB.out | apply below_alloc | apply pw_below_drewN | apply below_drew1) | exact HB.out)) hb); clear HB; have HB := n0_; clear n0_; (try clear hb); (try clear hb2); (try clear hk); (try clear hi)))
  repeat (go_quiet (first | (go_at_call 32; (with_reducible refine (label_parts.calls _ _ l0 _ _ l1 t115 _ ?side1 ?side2 ?side3 ?side4 A3.out).mono ?_); (case side1 => repeat (first | exact HR0.out | (with_reducible refine Kd.C_alloc ?_ _) | (with_reducible refine Kd.C_drewN ?_ _) | (with_reducible refine Kd.C_drew ?_))); (case side2 => exact HC0.out); (case side3 => repeat (first | exact HR1.out | (with_reducible refine Kd.C_alloc ?_ _) | (with_reducible refine Kd.C_drewN ?_ _) | (with_reducible refine Kd.C_drew ?_))); (case side4 => exact HC1.out); rintro e w5 ⟨rfl, hb⟩; have n0_ := Aside0.mk (below_step (by repeat (first | (with_reducible first | exact HB.out | apply below_alloc | apply pw_below_drewN | apply below_drew1) | exact HB.out)) hb); clear HB; have HB := n0_; clear n0_; (try clear hb); (try clear hb2); (try clear hk); (try clear hi))); go_upto_region 2 with (first | (go_at_call 32; (with_reducible refine (label_parts.calls _ _ l0 _ _ l1 t115 _ ?side1 ?side2 ?side3 ?side4 A3.out).mono ?_); (case side1 => repeat (first | exact HR0.out | (with_reducible refine Kd.C_alloc ?_ _) | (with_reducible refine Kd.C_drewN ?_ _) | (with_reducible refine Kd.C_drew ?_))); (case side2 => exact HC0.out); (case side3 => repeat (first | exact HR1.out | (with_reducible refine Kd.C_alloc ?_ _) | (with_reducible refine Kd.C_drewN ?_ _) | (with_reducible refine Kd.C_drew ?_))); (case side4 => exact HC1.out); rintro e w5 ⟨rfl, hb⟩; have n0_ := Aside0.mk (below_step (by repeat (first | (with_reducible first | exact HB.out | apply below_alloc | apply pw_below_drewN | apply below_drew1) | exact HB.out)) hb); clear HB; have HB := n0_; clear n0_; (try clear hb); (try clear hb2); (try clear hk); (try clear hi))))
  (try simp only [Act.put, List.setIfInBounds_toArray, List.set_cons_zero, List.set_cons_succ])
  go_cut [18] (fun v18 wc => ∃ (kq : Nat) (x18_3 : Bool), v18 = .bool x18_3 ∧ Aside0 (label_Compare.j0 kq l0 l1 t115 x18_3 = some r) ∧ Aside0 (kq ≤ k) ∧ Aside0 (Below w.heap.size w wc))
  case first =>
    have H := HC4.out
    clear HC4
    by_cases c6 : t115 < (l0.length : Int)
    · rw [if_pos c6] at H
      have c6b0 : decide (t115 < (l0.length : Int)) = true := decide_eq_true c6
      clear c6
      (first | rw [c6b0] | (simp only [i64_w, i32_w]; rw [c6b0]) | skip)
      have H' := Aside0.mk H
      clear H
      go_wp2
      repeat (go_quiet (fail); try go_wp2)
      go_meet
      case rel => exact ⟨_, (decide (t115 < (l1.length : Int))), (by first | rfl | (simp; done) | (simp [*]; done)), H', ⟨by first | omega | exact Nat.le_refl _⟩, ⟨by repeat (first | (with_reducible first | exact HB.out | apply below_alloc | apply pw_below_drewN | apply below_drew1) | exact HB.out)⟩⟩
    · rw [if_neg c6] at H
      have c6b0 : decide (t115 < (l0.length : Int)) = false := decide_eq_false c6
      clear c6
      (first | rw [c6b0] | (simp only [i64_w, i32_w]; rw [c6b0]) | skip)
      have H' := Aside0.mk H
      clear H
      go_wp2
      repeat (go_quiet (fail); try go_wp2)
      go_meet
      case rel => exact ⟨_, (false), (by first | rfl | (simp; done) | (simp [*]; done)), H', ⟨by first | omega | exact Nat.le_refl _⟩, ⟨by repeat (first | (with_reducible first | exact HB.out | apply below_alloc | apply pw_below_drewN | apply below_drew1) | exact HB.out)⟩⟩
  case rest =>
    clear HC4
    try clear c1
    try clear c2
    try clear p2
    try clear c6
    try clear c6b0
    obtain ⟨kq, x18_3, rfl, HA, HJ3, HB⟩ := hcut
    cases kq with
    | zero => exact absurd HA.out (by simp [label_Compare.j0])
    | succ kj3 =>
      have H := HA.out
      clear HA
      simp only [label_Compare.j0] at H
      by_cases c7 : x18_3 = true
      · subst c7
        have H1 : (if 0 ≤ t115 then (if t115 < (l0.length : Int) then (if t115 < (l1.length : Int) then ((cmp_Compare_int.f (rd l0 t115) (rd l1 t115)).bind fun t118 => (some t118)) else (none)) else (none)) else (none)) = some r := by rw [if_pos rfl] at H; exact H
        clear H
        have H := H1
        clear H1
        by_cases c8 : 0 ≤ t115
        · rw [if_pos c8] at H
          have c8b0 : decide (0 ≤ t115) = true := decide_eq_true c8
          clear c8
          by_cases c9 : t115 < (l0.length : Int)
          · rw [if_pos c9] at H
            have c9b0 : decide (t115 < (l0.length : Int)) = true := decide_eq_true c9
            clear c9
            by_cases c10 : t115 < (l1.length : Int)
            · rw [if_pos c10] at H
              have c10b0 : decide (t115 < (l1.length : Int)) = true := decide_eq_true c10
              clear c10
              replace H := Option.bind_eq_some_iff.mp H
              obtain ⟨t118, A110, H⟩ := H
              replace H : (some t118) = some r := H
              have A11 := Aside0.mk A110
              clear A110
              obtain rfl := Option.some.inj H
              have p116 : 0 ≤ (t115 : Int) := of_decide_eq_true (by first | (with_reducible assumption) | assumption)
              have q116 : t115 < (l0.length : Int) := of_decide_eq_true (by first | (with_reducible assumption) | assumption)
              obtain ⟨ad116, e116, hx116_0⟩ := Kd.at_int HR0.out t115 p116 q116
              cases e116
              replace hx116_0 := (HB.out.cell (World.block_lt_of_cell? w _ hx116_0)).trans hx116_0
              replace p116 := eq_true p116
              replace q116 := eq_true q116
              have p117 : 0 ≤ (t115 : Int) := of_decide_eq_true (by first | (with_reducible assumption) | assumption)
              have q117 : t115 < (l1.length : Int) := of_decide_eq_true (by first | (with_reducible assumption) | assumption)
              obtain ⟨ad117, e117, hx117_0⟩ := Kd.at_int HR1.out t115 p117 q117
              cases e117
              replace hx117_0 := (HB.out.cell (World.block_lt_of_cell? w _ hx117_0)).trans hx117_0
              replace p117 := eq_true p117
              replace q117 := eq_true q117
              go_wp2_with (first | (go_at_call 33; (with_reducible refine (cmp_Compare_int.calls (rd l0 t115) (rd l1 t115) t118 _ A11.out).mono ?_); rintro e w' ⟨rfl, ⟨nd, rfl⟩⟩; (try first | exact ⟨rfl, _, World.drewN_drewN _ _ _⟩ | exact ⟨rfl, _, Eq.trans (World.drewN_drewN _ _ _) (congrArg (World.drewN _) (Nat.add_assoc _ _ _))⟩)))
              repeat (go_quiet (first | (go_at_call 33; (with_reducible refine (cmp_Compare_int.calls (rd l0 t115) (rd l1 t115) t118 _ A11.out).mono ?_); rintro e w' ⟨rfl, ⟨nd, rfl⟩⟩; (try first | exact ⟨rfl, _, World.drewN_drewN _ _ _⟩ | exact ⟨rfl, _, Eq.trans (World.drewN_drewN _ _ _) (congrArg (World.drewN _) (Nat.add_assoc _ _ _))⟩))); try go_wp2_with (first | (go_at_call 33; (with_reducible refine (cmp_Compare_int.calls (rd l0 t115) (rd l1 t115) t118 _ A11.out).mono ?_); rintro e w' ⟨rfl, ⟨nd, rfl⟩⟩; (try first | exact ⟨rfl, _, World.drewN_drewN _ _ _⟩ | exact ⟨rfl, _, Eq.trans (World.drewN_drewN _ _ _) (congrArg (World.drewN _) (Nat.add_assoc _ _ _))⟩))))
              go_ret
              exact ⟨by first | rfl | (simp [errW_none, errW_some] <;> rfl) | (simp [*, errW_none, errW_some] <;> rfl), by repeat (first | (with_reducible first | exact HB.out | apply below_alloc | apply pw_below_drewN | apply below_drew1) | exact HB.out)⟩
            · rw [if_neg c10] at H
              exact absurd H (by simp)
          · rw [if_neg c9] at H
            exact absurd H (by simp)
        · rw [if_neg c8] at H
          exact absurd H (by simp)
      · replace c7 := Bool.eq_false_iff.mpr c7
        subst c7
        have H1 : ((cmp_Compare_int.f (l0.length : Int) (l1.length : Int)).bind fun t119 => (some t119)) = some r := by rw [if_neg (show ¬ (false = true) by decide)] at H; exact H
        clear H
        have H := H1
        clear H1
        replace H := Option.bind_eq_some_iff.mp H
        obtain ⟨t119, A120, H⟩ := H
        replace H : (some t119) = some r := H
        have A12 := Aside0.mk A120
        clear A120
        obtain rfl := Option.some.inj H
        go_wp2_with (first | (go_at_call 33; (with_reducible refine (cmp_Compare_int.calls (l0.length : Int) (l1.length : Int) t119 _ A12.out).mono ?_); rintro e w' ⟨rfl, ⟨nd, rfl⟩⟩; (try first | exact ⟨rfl, _, World.drewN_drewN _ _ _⟩ | exact ⟨rfl, _, Eq.trans (World.drewN_drewN _ _ _) (congrArg (World.drewN _) (Nat.add_assoc _ _ _))⟩)))
        repeat (go_quiet (first | (go_at_call 33; (with_reducible refine (cmp_Compare_int.calls (l0.length : Int) (l1.length : Int) t119 _ A12.out).mono ?_); rintro e w' ⟨rfl, ⟨nd, rfl⟩⟩; (try first | exact ⟨rfl, _, World.drewN_drewN _ _ _⟩ | exact ⟨rfl, _, Eq.trans (World.drewN_drewN _ _ _) (congrArg (World.drewN _) (Nat.add_assoc _ _ _))⟩))); try go_wp2_with (first | (go_at_call 33; (with_reducible refine (cmp_Compare_int.calls (l0.length : Int) (l1.length : Int) t119 _ A12.out).mono ?_); rintro e w' ⟨rfl, ⟨nd, rfl⟩⟩; (try first | exact ⟨rfl, _, World.drewN_drewN _ _ _⟩ | exact ⟨rfl, _, Eq.trans (World.drewN_drewN _ _ _) (congrArg (World.drewN _) (Nat.add_assoc _ _ _))⟩))))
        go_ret
        exact ⟨by first | rfl | (simp [errW_none, errW_some] <;> rfl) | (simp [*, errW_none, errW_some] <;> rfl), by repeat (first | (with_reducible first | exact HB.out | apply below_alloc | apply pw_below_drewN | apply below_drew1) | exact HB.out)⟩

/-! ### tree_Least: function 13 (given) -/
section
open Go.Shelf
attribute [local go_sem] Oper.semAt_some
/-- the first place that a choice has open, against the least so far -/
def tree_Least.step (k : Nat) (i : Int) (c : S39) (st : Int × List Int) : Option (Int × List Int) := match c.f2 with
  | [] => some st
  | x :: _ => if st.1 < 0 then some (i, c.f0 ++ [x]) else (label_Compare.f k (c.f0 ++ [x]) st.2).bind fun r => some (if r < 0 then (i, c.f0 ++ [x]) else st)
def tree_Least.go (k : Nat) : List S39 → Int → Int × List Int → Option (Int × List Int)
  | [], _, st => some st
  | c :: l, i, st => (tree_Least.step k i c st).bind fun st2 => tree_Least.go k l (i + 1) st2
/-- no number beyond 64 bits is counted with, no row is too long -/
def tree_Least.fits (l0 : List S39) : Prop := l0.length ≤ 1000000000000000 ∧ (∀ c ∈ l0, c.f0.length < 17592186044416 ∧ c.f2.length ≤ 1000000000000000)
open Classical in
noncomputable def tree_Least.f (k : Nat) (l0 : List S39) : Option Int := if tree_Least.fits l0 then (tree_Least.go k l0 0 (-1, [])).map Prod.fst else none
theorem tree_Least.step_mono (k : Nat) (i : Int) (c : S39) (st : Int × List Int) : LeO (tree_Least.step k i c st) (tree_Least.step (k + 1) i c st) := by
  unfold tree_Least.step
  split
  · exact LeO.refl _
  · split
    · exact LeO.refl _
    · exact LeO.bind (label_Compare.mono _ _ _) (fun _ => LeO.refl _)
theorem tree_Least.go_mono (k : Nat) : ∀ (l : List S39) (i : Int) (st : Int × List Int), LeO (tree_Least.go k l i st) (tree_Least.go (k + 1) l i st)
  | [], _, _ => LeO.refl _
  | c :: l, i, st => by
    simp only [tree_Least.go]
    exact LeO.bind (tree_Least.step_mono k i c st) (fun s2 => tree_Least.go_mono k l (i + 1) s2)
theorem tree_Least.mono : ∀ a0 k, LeO (tree_Least.f k a0) (tree_Least.f (k + 1) a0) := by
  intro a0 k r h
  unfold tree_Least.f at h ⊢
  split at h
  · rename_i hf
    rw [if_pos hf]
    obtain ⟨st, h1, h2⟩ := Option.map_eq_some_iff.1 h
    rw [tree_Least.go_mono k a0 0 (-1, []) st h1]
    exact congrArg some h2
  · cases h
/-- the least so far, its boxes -/
def tree_Least.In (w : World) (st : Int × List Int) (W : World) : Prop := ∃ v, BoxN W w.heap.size 3 #[.int .i64 st.1] ∧ BoxN W (w.heap.size + 1) 30 #[v] ∧ Kd.R (Kd.int .i64) 3 W (w.heap.size + 2) (fun _ => True) v st.2 ∧ Below w.heap.size w W
theorem tree_Least.In.cells {w W W' : World} {st : Int × List Int} (h : tree_Least.In w st W) (hk : KeepsCells W W') (hb : Below w.heap.size W W') : tree_Least.In w st W' := by
  obtain ⟨v, h0, h1, h2, h3⟩ := h
  exact ⟨v, hk.2 _ _ _ h0, hk.2 _ _ _ h1, Kd.R_mono (R_cells h2 hk) (fun _ _ => trivial), h3.trans hb⟩
theorem tree_Least.In.own {w : World} {B : Nat} (hB : w.heap.size ≤ B) {β : Type} (st : Int × List Int) : OwnFrom B (fun (_ : β) W => tree_Least.In w st W) := by
  intro s W W' row h hg hr
  have hk := KeepsCells.of_grown hg (fun r e => (hr r e).2)
  exact h.cells hk ((Below.refl _ W).grown hg (by obtain ⟨v, h1, -⟩ := h; exact Nat.le_of_lt h1.lt) (fun k e => Nat.le_trans hB (hr k e).1))
theorem tree_Least.In.put {w Y : World} {st : Int × List Int} (h : tree_Least.In w st Y) (i : Int) (v2 : Value) (P : List Int) {N2 : Nat} (hN : w.heap.size + 2 ≤ N2) (hR : Kd.R (Kd.int .i64) 3 Y N2 (fun _ => True) v2 P) :
    tree_Least.In w (i, P) ((Y.setCell ⟨w.heap.size, 0, none⟩ (.int .i64 i)).setCell ⟨w.heap.size + 1, 0, none⟩ v2) ∧ KeepsOthers Y ((Y.setCell ⟨w.heap.size, 0, none⟩ (.int .i64 i)).setCell ⟨w.heap.size + 1, 0, none⟩ v2) := by
  obtain ⟨v, b0, b1, -, hb⟩ := h
  have hR2 := Kd.R_bound hR
  refine ⟨⟨v2, ?_, ?_, ?_, (hb.setCell (p := ⟨w.heap.size, 0, none⟩) (Nat.le_refl _) _).setCell (p := ⟨w.heap.size + 1, 0, none⟩) (Nat.le_succ _) _⟩, (KeepsOthers.setCell _ _ _).trans (KeepsOthers.setCell _ _ _)⟩
  · exact blk_far (p := ⟨w.heap.size + 1, 0, none⟩) (blk_put b0 0 _ rfl) (show w.heap.size ≠ w.heap.size + 1 by omega) _
  · exact blk_put (blk_far (p := ⟨w.heap.size, 0, none⟩) b1 (show w.heap.size + 1 ≠ w.heap.size by omega) _) 0 _ rfl
  · exact Kd.R_mono (Kd.R_far (p := ⟨w.heap.size + 1, 0, none⟩) (Kd.R_far (p := ⟨w.heap.size, 0, none⟩) (Kd.R_lower hR2 hN) (fun k hk e => by have h1 := hk.2.1; subst e; dsimp only at h1; omega) _) (fun k hk e => by have h1 := hk.2.1; subst e; dsimp only at h1; omega) _) (fun _ _ => trivial)
theorem tree_Least.go_take (k : Nat) : ∀ (l : List S39) (i : Int) (st : Int × List Int) (m : Nat) (h : m < l.length) (r : Int × List Int), tree_Least.go k l i st = some r → ∃ s1 s2, tree_Least.go k (l.take m) i st = some s1 ∧ tree_Least.step k (i + m) (l[m]'h) s1 = some s2 ∧ tree_Least.go k (l.take (m + 1)) i st = some s2
  | [], _, _, m, h, _, _ => absurd h (by simp)
  | c :: l, i, st, 0, h, r, hr => by
    simp only [tree_Least.go] at hr
    obtain ⟨s2, h1, -⟩ := Option.bind_eq_some_iff.1 hr
    exact ⟨st, s2, rfl, by simpa using h1, by simp [tree_Least.go, h1]⟩
  | c :: l, i, st, m + 1, h, r, hr => by
    simp only [tree_Least.go] at hr
    obtain ⟨s0, h1, h2⟩ := Option.bind_eq_some_iff.1 hr
    obtain ⟨s1, s2, g1, g2, g3⟩ := tree_Least.go_take k l (i + 1) s0 m (by simpa using h) r h2
    refine ⟨s1, s2, ?_, ?_, ?_⟩
    · rw [List.take_succ_cons, tree_Least.go, h1]; exact g1
    · have e : i + ((m + 1 : Nat) : Int) = i + 1 + (m : Int) := by omega
      rw [e]; exact g2
    · rw [List.take_succ_cons, tree_Least.go, h1]; exact g3
theorem tree_Least.meas (n m : Nat) (a b : Array Value) (ha : a[11]? = some (.int .i64 ((m + 1 : Nat) : Int))) (hb : b[11]? = some (.int .i64 (m : Int))) (h : m < n) : ((n : Int) - intOf (a.getD 11 undef)).toNat < ((n : Int) - intOf (b.getD 11 undef)).toNat := by
  rw [Array.getD_eq_getD_getElem?, ha, Array.getD_eq_getD_getElem?, hb]
  simp only [Option.getD_some, intOf]
  omega
set_option maxRecDepth 100000 in
set_option maxHeartbeats 8000000 in
theorem tree_Least.calls (k : Nat) (A0 : Option Addr) (c0 : Nat) (l0 : List S39) (r : Int) (w : World) (hr0 : Kd.C k39 w A0 l0.length l0) (hc0 : l0.length ≤ c0) (h : tree_Least.f k l0 = some r) :
    Calls Try.prog 13 #[.slice A0 l0.length c0] w fun e w' => e = .returned (.int .i64 r) ∧ Below w.heap.size w w' := by
  have hfr : tree_Least.fits l0 ∧ ∃ st, tree_Least.go k l0 0 (-1, []) = some st ∧ r = st.1 := by
    unfold tree_Least.f at h
    split at h
    · rename_i hf
      obtain ⟨st, h1, h2⟩ := Option.map_eq_some_iff.1 h
      exact ⟨hf, st, h1, h2.symm⟩
    · cases h
  obtain ⟨⟨hl63, hlab⟩, stE, hgo, rfl⟩ := hfr
  clear h
  have hu39 := Try.underlying39
  have HR0 := Aside0.mk hr0
  clear hr0
  refine callsIn_wide (n := 5) |>.1 ?_
  refine callsIn_of_wp_marks Try.func13 rfl trivial ?_ rfl
  simp only [Try.ntmps13, List.size_toArray, List.length_cons, List.length_nil, Nat.reduceAdd, Nat.reduceSub, Array.replicate_succ, Array.replicate_zero, List.push_toArray, List.append_toArray, List.nil_append, List.cons_append]
  refine wpIn_wide.2 ?_
  go_wp2
  refine wp_loop (fun a W => ∃ (m : Nat) (Ds : List Nat) (st : Int × List Int) (u5 u6 u8 u12 u13 u14 u15 u16 u17 u18 u19 u20 u21 u22 u23 u24 u25 u26 u27 u28 u29 u30 u31 : Value), a = { tmps := #[.slice A0 l0.length c0, undef, .int .i64 0, .pointer (some ⟨w.heap.size, 0, none⟩), .pointer (some ⟨w.heap.size + 1, 0, none⟩), u5, u6, undef, u8, .slice A0 l0.length c0, .int .i64 l0.length, .int .i64 (m : Int), u12, u13, u14, u15, u16, u17, u18, u19, u20, u21, u22, u23, u24, u25, u26, u27, u28, u29, u30, u31], defers := Ds.map markOf } ∧
    m ≤ l0.length ∧ Aside0 (tree_Least.go k (l0.take m) 0 (-1, []) = some st) ∧ Aside0 (tree_Least.In w st W) ∧ Ds.Nodup ∧ (∀ D ∈ Ds, w.heap.size < D ∧ W.heap[D]? = some (.deferred (some [])))) (fun a _ => ((l0.length : Int) - intOf (a.tmps.getD 11 undef)).toNat) ?_ ?_
  · refine ⟨0, [], (-1, []), _, _, _, _, _, _, _, _, _, _, _, _, _, _, _, _, _, _, _, _, _, _, _, rfl, Nat.zero_le _, ⟨rfl⟩, ⟨?_⟩, List.nodup_nil, fun D h => by cases h⟩
    have b1 := (BoxN.new w 3 #[.int .i64 (-1)]).alloc (.cells #[.slice none 0 0] 30)
    have b2 := BoxN.new (w.alloc (.cells #[.int .i64 (-1)] 3)) 30 #[.slice none 0 0]
    rw [World.size_alloc] at b2
    exact ⟨.slice none 0 0, b1, b2, Kd.R_nil _ _ _ _ _, ((Below.refl _ w).alloc (Nat.le_refl _) _).alloc (by simp) _⟩
  · rintro a W ⟨m, Ds, st, u5, u6, u8, u12, u13, u14, u15, u16, u17, u18, u19, u20, u21, u22, u23, u24, u25, u26, u27, u28, u29, u30, u31, rfl, hm, hst, hIn, hnd, hDs⟩
    by_cases hlt : m < l0.length
    · have q1 : ((m : Int) < (l0.length : Int)) = True := eq_true (by omega)
      have q0 : (0 ≤ (m : Int)) = True := eq_true (by omega)
      obtain ⟨ad, Al, cl, A1, c1, A2, c2, AL, cL, e, hx0, hx1, hx2, hx3, hx4, hl0, hi0, hl1, hi1, hl2, hi2, hl4, hi4⟩ := at_T39 HR0.out (m : Int) (by omega) (by omega)
      cases e
      obtain ⟨c, hc⟩ : ∃ c, rd_T39 l0 (m : Int) = c := ⟨_, rfl⟩
      rw [hc] at hx0 hx1 hx2 hx3 hx4 hl0 hl1 hl2 hl4 hi0 hi1 hi2 hi4
      obtain ⟨v, hbv, hbv1, hS, hbl⟩ := hIn.out
      replace hx0 := (hbl.cell (World.block_lt_of_cell? w _ hx0)).trans hx0
      replace hx1 := (hbl.cell (World.block_lt_of_cell? w _ hx1)).trans hx1
      replace hx2 := (hbl.cell (World.block_lt_of_cell? w _ hx2)).trans hx2
      replace hx3 := (hbl.cell (World.block_lt_of_cell? w _ hx3)).trans hx3
      replace hx4 := (hbl.cell (World.block_lt_of_cell? w _ hx4)).trans hx4
      have em : ((m : Nat) : Int).toNat = m := rfl
      rw [em] at hx0 hx1 hx2 hx3 hx4
      clear hi1 hi2 hl1 hl2
      obtain ⟨s1, s2, hg1, hg2, hg3⟩ := tree_Least.go_take k l0 0 (-1, []) m hlt _ hgo
      rw [hst.out] at hg1
      obtain rfl : st = s1 := Option.some.inj hg1
      rw [Int.zero_add] at hg2
      replace hg2 := Aside0.mk hg2
      replace hg3 := Aside0.mk hg3
      replace hi0 := Aside0.mk hi0
      replace hi4 := Aside0.mk hi4
      replace hl0 := Aside0.mk hl0
      replace hl4 := Aside0.mk hl4
      replace hS := Aside0.mk hS
      replace hbl := Aside0.mk hbl
      replace hbv := Aside0.mk hbv
      replace hbv1 := Aside0.mk hbv1
      clear hg1
      go_wp2_with (first | ((with_reducible refine gate_dst (N := 5) rfl ?_); refine box_event ?hg (N := 5) ?hd (cs := #[.int .i64 0]) (t := 3) ?hr ?_; (case hd => rfl); (case hg => rfl); (case hr => first | (go_simp; done) | (go_simp; rfl)); intro gk hgk w5 hbox1 hb5; have hcy : w5.cell? ⟨gk, 0, none⟩ = some (.int .i64 0) := (blk_cell hbox1 0).trans rfl; have hfy := blk_frozen hbox1 0; have hcy2 := Aside0.mk hcy; replace hx0 := (hb5.cell (World.block_lt_of_cell? W _ hx0)).trans hx0; replace hx1 := (hb5.cell (World.block_lt_of_cell? W _ hx1)).trans hx1; replace hx2 := (hb5.cell (World.block_lt_of_cell? W _ hx2)).trans hx2; replace hx3 := (hb5.cell (World.block_lt_of_cell? W _ hx3)).trans hx3; replace hx4 := (hb5.cell (World.block_lt_of_cell? W _ hx4)).trans hx4; replace hbox1 := Aside0.mk hbox1; replace hb5 := Aside0.mk hb5; replace hgk := Aside0.mk hgk) | ((with_reducible refine gate_dst (N := 6) rfl ?_); refine box_event ?hg (N := 6) ?hd (cs := #[.slice none 0 0, .slice none 0 0, .slice none 0 0, .int .i64 0, .slice none 0 0]) (t := 39) ?hr ?_; (case hd => rfl); (case hg => rfl); (case hr => first | (go_simp; done) | (go_simp; rfl)); intro gc hgc w6 hbox2 hb6; have hkb := (hb6.block gk (Array.getElem?_eq_some_iff.1 hbox1.out).1).trans hbox1.out; have hnk : gk ≠ gc := (fun e => by have := (Array.getElem?_eq_some_iff.1 hbox1.out).1; omega); have hnk2 : gc ≠ gk := fun e => hnk e.symm; have hcw : w6.cell? ⟨gk, 0, none⟩ = some (.int .i64 0) := (blk_cell hkb 0).trans rfl; have hfw := blk_frozen hkb 0; have hcz0 : w6.cell? ⟨gc, 0, none⟩ = some (.slice none 0 0) := (blk_cell hbox2 0).trans rfl; have hcz1 : w6.cell? ⟨gc, 1, none⟩ = some (.slice none 0 0) := (blk_cell hbox2 1).trans rfl; have hcz2 : w6.cell? ⟨gc, 2, none⟩ = some (.slice none 0 0) := (blk_cell hbox2 2).trans rfl; have hcz3 : w6.cell? ⟨gc, 3, none⟩ = some (.int .i64 0) := (blk_cell hbox2 3).trans rfl; have hcz4 : w6.cell? ⟨gc, 4, none⟩ = some (.slice none 0 0) := (blk_cell hbox2 4).trans rfl; have hfz0 := blk_frozen hbox2 0; have hfz1 := blk_frozen hbox2 1; have hfz2 := blk_frozen hbox2 2; have hfz3 := blk_frozen hbox2 3; have hfz4 := blk_frozen hbox2 4; replace hbox2 := Aside0.mk hbox2; replace hb6 := Aside0.mk hb6; replace hgc := Aside0.mk hgc; replace hkb := Aside0.mk hkb) | (go_at_call 22; (with_reducible refine (tree_places.calls _ _ _ _ _ _).mono ?_); rintro e w7 ⟨rfl, rfl⟩))
      have hge : W.heap.size ≤ gk := Nat.le_of_eq hgk.out.symm
      have hge2 : W.heap.size ≤ gc := by have h1 := hb5.out.size; have h2 := hgc.out; omega
      have hWw : w.heap.size + 1 < W.heap.size := hbv1.out.lt
      have hsz6 : W.heap.size ≤ w6.heap.size := Nat.le_trans hb5.out.size hb6.out.size
      have hb56 : Below W.heap.size W w6 := hb5.out.trans (hb6.out.mono hb5.out.size)
      have hbW2 : Below W.heap.size W (((((((w6.setCell ⟨gk, 0, none⟩ (.int .i64 (m : Int))).setCell ⟨gc, 0, none⟩ (.slice Al c.f0.length cl)).setCell ⟨gc, 1, none⟩ (.slice A1 c.f1.f0.length c1)).setCell ⟨gc, 2, none⟩ (.slice A2 c.f1.f1.length c2)).setCell ⟨gc, 3, none⟩ (.int .i64 c.f1.f2)).setCell ⟨gc, 4, none⟩ (.slice AL c.f2.length cL)).alloc (.cells #[.slice Al c.f0.length cl, .slice A1 c.f1.f0.length c1, .slice A2 c.f1.f1.length c2, .int .i64 c.f1.f2, .slice AL c.f2.length cL] 39)) := (((((((hb56.setCell (p := ⟨gk, 0, none⟩) hge _).setCell (p := ⟨gc, 0, none⟩) hge2 _).setCell (p := ⟨gc, 1, none⟩) hge2 _).setCell (p := ⟨gc, 2, none⟩) hge2 _).setCell (p := ⟨gc, 3, none⟩) hge2 _).setCell (p := ⟨gc, 4, none⟩) hge2 _).alloc (by simp only [World.size_setCell]; exact hsz6) _)
      have hBc : (((((((w6.setCell ⟨gk, 0, none⟩ (.int .i64 (m : Int))).setCell ⟨gc, 0, none⟩ (.slice Al c.f0.length cl)).setCell ⟨gc, 1, none⟩ (.slice A1 c.f1.f0.length c1)).setCell ⟨gc, 2, none⟩ (.slice A2 c.f1.f1.length c2)).setCell ⟨gc, 3, none⟩ (.int .i64 c.f1.f2)).setCell ⟨gc, 4, none⟩ (.slice AL c.f2.length cL)).alloc (.cells #[.slice Al c.f0.length cl, .slice A1 c.f1.f0.length c1, .slice A2 c.f1.f1.length c2, .int .i64 c.f1.f2, .slice AL c.f2.length cL] 39)).heap[w6.heap.size]? = some (.cells #[.slice Al c.f0.length cl, .slice A1 c.f1.f0.length c1, .slice A2 c.f1.f1.length c2, .int .i64 c.f1.f2, .slice AL c.f2.length cL] 39 (0, 0)) := by
        have h2 := World.alloc_heap_new ((((((w6.setCell ⟨gk, 0, none⟩ (.int .i64 (m : Int))).setCell ⟨gc, 0, none⟩ (.slice Al c.f0.length cl)).setCell ⟨gc, 1, none⟩ (.slice A1 c.f1.f0.length c1)).setCell ⟨gc, 2, none⟩ (.slice A2 c.f1.f1.length c2)).setCell ⟨gc, 3, none⟩ (.int .i64 c.f1.f2)).setCell ⟨gc, 4, none⟩ (.slice AL c.f2.length cL)) (.cells #[.slice Al c.f0.length cl, .slice A1 c.f1.f0.length c1, .slice A2 c.f1.f1.length c2, .int .i64 c.f1.f2, .slice AL c.f2.length cL] 39)
        simp only [World.size_setCell] at h2
        exact h2
      have hgkB : (((((((w6.setCell ⟨gk, 0, none⟩ (.int .i64 (m : Int))).setCell ⟨gc, 0, none⟩ (.slice Al c.f0.length cl)).setCell ⟨gc, 1, none⟩ (.slice A1 c.f1.f0.length c1)).setCell ⟨gc, 2, none⟩ (.slice A2 c.f1.f1.length c2)).setCell ⟨gc, 3, none⟩ (.int .i64 c.f1.f2)).setCell ⟨gc, 4, none⟩ (.slice AL c.f2.length cL)).alloc (.cells #[.slice Al c.f0.length cl, .slice A1 c.f1.f0.length c1, .slice A2 c.f1.f1.length c2, .int .i64 c.f1.f2, .slice AL c.f2.length cL] 39)).heap[gk]? = some (.cells #[.int .i64 (m : Int)] 3 (0, 0)) :=
        BoxN.alloc (blk_far (p := ⟨gc, 4, none⟩) (blk_far (p := ⟨gc, 3, none⟩) (blk_far (p := ⟨gc, 2, none⟩) (blk_far (p := ⟨gc, 1, none⟩) (blk_far (p := ⟨gc, 0, none⟩) (blk_put hkb.out 0 (.int .i64 (m : Int)) rfl) hnk _) hnk _) hnk _) hnk _) hnk _) _
      obtain ⟨W2, hW2⟩ : ∃ W2, (((((((w6.setCell ⟨gk, 0, none⟩ (.int .i64 (m : Int))).setCell ⟨gc, 0, none⟩ (.slice Al c.f0.length cl)).setCell ⟨gc, 1, none⟩ (.slice A1 c.f1.f0.length c1)).setCell ⟨gc, 2, none⟩ (.slice A2 c.f1.f1.length c2)).setCell ⟨gc, 3, none⟩ (.int .i64 c.f1.f2)).setCell ⟨gc, 4, none⟩ (.slice AL c.f2.length cL)).alloc (.cells #[.slice Al c.f0.length cl, .slice A1 c.f1.f0.length c1, .slice A2 c.f1.f1.length c2, .int .i64 c.f1.f2, .slice AL c.f2.length cL] 39)) = W2 := ⟨_, rfl⟩
      rw [hW2] at hbW2 hBc hgkB ⊢
      clear hW2 hcz0 hcz1 hcz2 hcz3 hcz4 hfz0 hfz1 hfz2 hfz3 hfz4 hx0 hx1 hx2 hx3 hx4 hbox1 hbox2 hcw hfw hkb
      have hBlt : w6.heap.size < W2.heap.size := (Array.getElem?_eq_some_iff.1 hBc).1
      have hcm : c = l0[m]'hlt := by rw [← hc]; unfold rd_T39; simp [List.getD_eq_getElem?_getD, hlt]
      have hlabc := hlab c (by rw [hcm]; exact List.getElem_mem hlt)
      replace hcm := Aside0.mk hcm
      rw [← hcm.out] at hg2
      have hIn2 : tree_Least.In w st W2 := hIn.out.cells ⟨hbW2.size, fun k cs t hk => (hbW2.block k (Array.getElem?_eq_some_iff.1 hk).1).trans hk⟩ (hbW2.mono (by omega))
      have hDs2 : ∀ D ∈ Ds, w.heap.size < D ∧ W2.heap[D]? = some (.deferred (some [])) ∧ D < W.heap.size := fun D h => ⟨(hDs D h).1, (hbW2.block D (Array.getElem?_eq_some_iff.1 (hDs D h).2).1).trans (hDs D h).2, (Array.getElem?_eq_some_iff.1 (hDs D h).2).1⟩
      have hwW2 : Below w.heap.size w W2 := hbl.out.trans (hbW2.mono (by omega))
      generalize hBe : w6.heap.size = Bc at hBc hsz6 hBlt ⊢
      refine (wpIn_wide (n := 5)).1 ?_
      refine wpIn_rangeG rfl (by decide) (gf := 30) (lb := #[.pointer (some ⟨Bc, 0, none⟩)]) rfl trivial (enters_of Try.func30 (by kernel_rfl) rfl)
        (tree_places.seq 4 (by decide) Bc Al cl c.f0 _ _ _ AL cL c.f2 hlabc.1 hl0.out (by have := hlabc.2; omega) w W2 hwW2 (fun X Y => Below w.heap.size X Y ∧ Y.heap[Bc]? = X.heap[Bc]?) (fun X Y h => h) hBc hi0.out hi4.out)
        (fun h k => ⟨h.1.trans k.1, k.2.trans h.2⟩) (fun X l o o' hl ho _ _ => ⟨(Below.refl _ X).grown (grownBy_putObj' X l o') (by have := (Array.getElem?_eq_some_iff.1 ho).1; omega) (fun k e => by cases e; omega), World.putObj_heap_other (by omega)⟩) (Below.refl _ _) (fun _ => rfl)
        (fun xs X => xs = [] ∧ tree_Least.In w st X ∧ BoxN X gk 3 #[.int .i64 (m : Int)] ∧ (∀ E ∈ Ds, X.heap[E]? = some (.deferred (some [])))) (fun cd _ X => cd = .exit 2 ∧ tree_Least.In w s2 X ∧ (∀ E ∈ Ds, X.heap[E]? = some (.deferred (some []))))
        (fun s X Y row h hg hr => ⟨h.1, tree_Least.In.own (β := Unit) (by omega) st () X Y row h.2.1 hg hr, boxN_own gk _ (fun _ : Unit => _) () X Y row h.2.2.1 hg (fun r e => (hr r e).2), fun E hE => (hg.block E (Array.getElem?_eq_some_iff.1 (h.2.2.2 E hE)).1 (fun e => by have h1 := (hr E e.symm).1; have h2 := (hDs2 E hE).2.2; omega)).trans (h.2.2.2 E hE)⟩)
        (fun cd s X Y row h hg hr => ⟨h.1, tree_Least.In.own (β := Unit) (by omega) s2 () X Y row h.2.1 hg hr, fun E hE => (hg.block E (Array.getElem?_eq_some_iff.1 (h.2.2 E hE)).1 (fun e => by have h1 := (hr E e.symm).1; have h2 := (hDs2 E hE).2.2; omega)).trans (h.2.2 E hE)⟩)
        (fun pre x X => tree_places.G_own c.f0 c.f2 pre x X) ⟨rfl, hIn2, hgkB, fun E hE => (hDs2 E hE).2.1⟩
        (fun x => { tmps := #[.slice (some ad) l0.length c0, undef, .int .i64 0, .pointer (some ⟨w.heap.size, 0, none⟩), .pointer (some ⟨w.heap.size + 1, 0, none⟩), .pointer (some ⟨gk, 0, none⟩), .pointer (some ⟨gc, 0, none⟩), undef, x.2, .slice (some ad) l0.length c0, .int .i64 l0.length, .int .i64 (m : Int), .bool true, .int .i64 (m : Int), .pointer (some (ad.add (m * 5))), .agg #[.slice Al c.f0.length cl, .slice A1 c.f1.f0.length c1, .slice A2 c.f1.f1.length c2, .int .i64 c.f1.f2, .slice AL c.f2.length cL], .agg #[.slice Al c.f0.length cl, .slice A1 c.f1.f0.length c1, .slice A2 c.f1.f1.length c2, .int .i64 c.f1.f2, .slice AL c.f2.length cL], .func (.func 30) #[] #[.pointer (some ⟨Bc, 0, none⟩)], .int .i64 x.1, x.2, u20, u21, u22, u23, u24, u25, u26, u27, u28, u29, u30, u31], defers := [] })
        ?assign ?body ?done ?stop
      case assign =>
        intro l x X K hK
        dsimp only [tree_places.encs]
        gi_wp2
        exact hK
      case body =>
        rintro l pre x X Y ⟨rfl, hIX, -, -⟩ ⟨-, hIY, bkY, mkY⟩ ⟨⟨hlp, hxp⟩, hR, hkc⟩
        obtain ⟨vX, -, bX1, -, -⟩ := hIX
        have hX1 := bX1.lt
        obtain ⟨x1, x2⟩ := x
        dsimp only at hR hxp ⊢
        obtain ⟨P, hP⟩ : ∃ P, c.f0 ++ [x1] = P := ⟨_, rfl⟩
        rw [hP] at hR
        have hstep : tree_Least.step k (m : Int) c st = if st.1 < 0 then some ((m : Int), P) else (label_Compare.f k P st.2).bind fun r => some (if r < 0 then ((m : Int), P) else st) := by
          unfold tree_Least.step
          cases hL : c.f2 with
          | nil => rw [hL] at hlp; simp at hlp
          | cons y ys =>
            have e1 : x1 = y := by rw [hxp]; simp [hL]
            rw [← hP, e1]
        rw [hg2.out] at hstep
        replace hstep := Aside0.mk hstep
        replace hxp := Aside0.mk hxp
        replace hP := Aside0.mk hP
        obtain ⟨Ap, cp, ep⟩ := Kd.R_slice hR
        subst ep
        have hput := Aside0.mk (hIY.put (m : Int) (.slice Ap P.length cp) P (by omega) hR)
        have hIY2 := Aside0.mk hIY
        obtain ⟨vY, bY0, bY1, RY, blY⟩ := hIY
        obtain ⟨Av, cv, ev⟩ := Kd.R_slice RY
        subst ev
        have hc0 : Y.cell? ⟨w.heap.size, 0, none⟩ = some (.int .i64 st.1) := bY0.cell 0
        have hf0 : Y.frozen? ⟨w.heap.size, 0, none⟩ = false := bY0.frozen 0
        have hc1 : Y.cell? ⟨w.heap.size + 1, 0, none⟩ = some (.slice Av st.2.length cv) := bY1.cell 0
        have hf1 : Y.frozen? ⟨w.heap.size + 1, 0, none⟩ = false := bY1.frozen 0
        have hck : Y.cell? ⟨gk, 0, none⟩ = some (.int .i64 (m : Int)) := bkY.cell 0
        have hgn : gk ≠ w.heap.size := by omega
        have hgn1 : gk ≠ w.heap.size + 1 := by omega
        have hf23 : Fence.wide.fn 23 := trivial
        by_cases hneg : st.1 < 0
        · have q5 : (st.1 < 0) = True := eq_true hneg
          have hs2 := hstep.out
          rw [if_pos hneg] at hs2
          obtain rfl : s2 = ((m : Int), P) := Option.some.inj hs2
          clear hs2
          gi_wp2
          have hp2 := hput.out
          have hB3 : Below w.heap.size Y ((Y.setCell ⟨w.heap.size, 0, none⟩ (.int .i64 (m : Int))).setCell ⟨w.heap.size + 1, 0, none⟩ (.slice Ap P.length cp)) := ((Below.refl _ Y).setCell (p := ⟨w.heap.size, 0, none⟩) (Nat.le_refl _) _).setCell (p := ⟨w.heap.size + 1, 0, none⟩) (Nat.le_succ _) _
          exact ⟨hp2.2.from _, rfl, hp2.1, fun E hE => hp2.2.same E _ (mkY E hE) rfl⟩
        · have q5 : (st.1 < 0) = False := eq_false hneg
          have hs2 := hstep.out
          rw [if_neg hneg] at hs2
          obtain ⟨rc, hrc, hs3⟩ := Option.bind_eq_some_iff.1 hs2.symm
          clear hs2
          have hCP := Kd.R_reads' hR
          have hCL := Kd.R_reads' RY
          have hcall := CallsIn.inRound l ((callsIn_wide (n := 5 - 1 - 1 - 1)).2 (label_Compare.calls k Ap cp P Av cv st.2 rc Y hCP.2.2 hCP.2.1 hCL.2.2 hCL.2.1 hrc))
          have hs4 := Option.some.inj hs3
          clear hs3
          replace hcall := Aside0.mk hcall
          replace hCP := Aside0.mk hCP
          replace hCL := Aside0.mk hCL
          replace hR := Aside0.mk hR
          replace RY := Aside0.mk RY
          replace hrc := Aside0.mk hrc
          replace hs4 := Aside0.mk hs4
          have hYlt : w.heap.size < Y.heap.size := bY0.lt
          have hYlt1 : w.heap.size + 1 < Y.heap.size := bY1.lt
          have hgklt : gk < Y.heap.size := bkY.lt
          by_cases hr0 : rc < 0
          · have q6 : (rc < 0) = True := eq_true hr0
            gi_wp2_with (gi_at_call 23; refine hcall.out.mono ?_; rintro e w9 ⟨rfl, hb9⟩; have hd0 : w9.cell? ⟨w.heap.size, 0, none⟩ = some (.int .i64 st.1) := (hb9.cell (p := ⟨w.heap.size, 0, none⟩) hYlt).trans hc0; have hd1 : w9.cell? ⟨w.heap.size + 1, 0, none⟩ = some (.slice Av st.2.length cv) := (hb9.cell (p := ⟨w.heap.size + 1, 0, none⟩) hYlt1).trans hc1; have hdk : w9.cell? ⟨gk, 0, none⟩ = some (.int .i64 (m : Int)) := (hb9.cell (p := ⟨gk, 0, none⟩) hgklt).trans hck; have hg0 : w9.frozen? ⟨w.heap.size, 0, none⟩ = false := (World.frozen?_of_block (a := ⟨w.heap.size, 0, none⟩) (hb9.block w.heap.size hYlt)).trans hf0; have hg1 : w9.frozen? ⟨w.heap.size + 1, 0, none⟩ = false := (World.frozen?_of_block (a := ⟨w.heap.size + 1, 0, none⟩) (hb9.block (w.heap.size + 1) hYlt1)).trans hf1; replace hb9 := Aside0.mk hb9)
            have hko : KeepsOthers Y w9 := ⟨hb9.out.size, fun k o hk _ => (hb9.out.block k (Array.getElem?_eq_some_iff.1 hk).1).trans hk⟩
            have hkc9 : KeepsCells Y w9 := ⟨hb9.out.size, fun k cs t hk => (hb9.out.block k (Array.getElem?_eq_some_iff.1 hk).1).trans hk⟩
            have hI9 := hIY2.out.cells hkc9 (hb9.out.mono (Nat.le_of_lt hYlt))
            have hs5 := hs4.out
            rw [if_pos hr0] at hs5
            have hp2 := hI9.put (m : Int) (.slice Ap P.length cp) P (by omega) (Kd.R_below hR.out hb9.out)
            rw [← hs5]
            exact ⟨(hko.trans hp2.2).from _, rfl, hp2.1, fun E hE => (hko.trans hp2.2).same E _ (mkY E hE) rfl⟩
          · have q6 : (rc < 0) = False := eq_false hr0
            gi_wp2_with (gi_at_call 23; refine hcall.out.mono ?_; rintro e w9 ⟨rfl, hb9⟩; replace hb9 := Aside0.mk hb9)
            have hko : KeepsOthers Y w9 := ⟨hb9.out.size, fun k o hk _ => (hb9.out.block k (Array.getElem?_eq_some_iff.1 hk).1).trans hk⟩
            have hkc9 : KeepsCells Y w9 := ⟨hb9.out.size, fun k cs t hk => (hb9.out.block k (Array.getElem?_eq_some_iff.1 hk).1).trans hk⟩
            have hI9 := hIY2.out.cells hkc9 (hb9.out.mono (Nat.le_of_lt hYlt))
            have hs5 := hs4.out
            rw [if_neg (show ¬ rc < 0 by omega)] at hs5
            rw [← hs5]
            exact ⟨hko.from _, rfl, hI9, fun E hE => hko.same E _ (mkY E hE) rfl⟩
      case done =>
        rintro D xs Y hD hS ⟨rfl, hI, -, hmk⟩ hK
        have hs2 : s2 = st := by
          have h1 := hg2.out
          have h2 : c.f2 = [] := by rw [← hS]; rfl
          unfold tree_Least.step at h1
          rw [h2] at h1
          exact (Option.some.inj h1).symm
        rw [← hs2] at hI
        have hw1 : wrap64 ((m : Int) + 1) = ((m + 1 : Nat) : Int) := by unfold wrap64; omega
        replace hw1 := Aside0.mk hw1
        replace hmk := Aside0.mk hmk
        replace hI := Aside0.mk hI
        dsimp only
        go_wp2
        have ew : (m : Int) + 1 = ((m + 1 : Nat) : Int) := by omega
        first | rw [hw1.out] | rw [ew]
        refine ⟨⟨m + 1, D :: Ds, s2, _, _, _, _, _, _, _, _, _, _, _, _, _, _, _, _, _, _, _, _, _, _, _, rfl, hlt, hg3, hI, List.nodup_cons.2 ⟨fun e => by have h1 := (hDs2 D e).2.2; have h2 := hbW2.size; omega, hnd⟩, fun E hE => ?_⟩, ?_⟩
        · rcases List.mem_cons.1 hE with rfl | hE
          · exact ⟨by have h2 := hbW2.size; omega, hK⟩
          · exact ⟨(hDs2 E hE).1, hmk.out E hE⟩
        · exact tree_Least.meas l0.length m _ _ rfl rfl hlt
      case stop =>
        rintro D cd pre Y hD hS ⟨rfl, hI, hmk⟩ hK
        have hw1 : wrap64 ((m : Int) + 1) = ((m + 1 : Nat) : Int) := by unfold wrap64; omega
        replace hw1 := Aside0.mk hw1
        replace hmk := Aside0.mk hmk
        replace hI := Aside0.mk hI
        refine wpIn_wide.2 ?_
        dsimp only
        go_wp2
        have ew : (m : Int) + 1 = ((m + 1 : Nat) : Int) := by omega
        first | rw [hw1.out] | rw [ew]
        refine ⟨⟨m + 1, D :: Ds, s2, _, _, _, _, _, _, _, _, _, _, _, _, _, _, _, _, _, _, _, _, _, _, _, rfl, hlt, hg3, hI, List.nodup_cons.2 ⟨fun e => by have h1 := (hDs2 D e).2.2; have h2 := hbW2.size; omega, hnd⟩, fun E hE => ?_⟩, ?_⟩
        · rcases List.mem_cons.1 hE with rfl | hE
          · exact ⟨by have h2 := hbW2.size; omega, hK⟩
          · exact ⟨(hDs2 E hE).1, hmk.out E hE⟩
        · exact tree_Least.meas l0.length m _ _ rfl rfl hlt
    · have q1 : ((m : Int) < (l0.length : Int)) = False := eq_false (by omega)
      obtain ⟨v, hb, hb1, hS, hbl⟩ := hIn.out
      have hc := hb.cell 0
      have hml : m = l0.length := by omega
      subst hml
      have hst2 := hst.out
      rw [List.take_length, hgo] at hst2
      obtain rfl : stE = st := Option.some.inj hst2
      go_wp2
      refine leaves_marks Ds _ hnd (fun D h => (hDs D h).2) (fun W' hb2 hk => ?_)
      exact ⟨_, results_tmp rfl _ _ _, rfl, hbl.trans (hb2 w.heap.size (fun D h => Nat.le_of_lt (hDs D h).1))⟩
end


/-! ### label_Left: function 35 -/
def label_Left.f (l0 : List Int) (l1 : List Int) : Option (Bool) := (label_parts.f l0 l1).bind fun t120 => (if t120 < (l0.length : Int) then (if t120 < (l1.length : Int) then (if 0 ≤ t120 then (some (decide ((rd l0 t120) < (rd l1 t120)))) else (none)) else (some false)) else (some false))
set_option maxHeartbeats 8000000 in
set_option maxRecDepth 100000 in
theorem label_Left.calls (A0 : Option Addr) (c0 : Nat) (l0 : List Int) (A1 : Option Addr) (c1 : Nat) (l1 : List Int) (r : Bool) (w : World) (hr0 : Kd.C (Kd.int .i64) w A0 l0.length l0) (hc0 : l0.length ≤ c0) (hr1 : Kd.C (Kd.int .i64) w A1 l1.length l1) (hc1 : l1.length ≤ c1) (h : label_Left.f l0 l1 = some r) :
    Calls Try.prog 35 #[.slice A0 l0.length c0, .slice A1 l1.length c1] w fun e w' => e = .returned (.bool r) ∧ Below w.heap.size w w' := by
  have HR0 := Aside0.mk hr0
  have HC0 := Aside0.mk hc0
  clear hr0 hc0
  have HR1 := Aside0.mk hr1
  have HC1 := Aside0.mk hc1
  clear hr1 hc1
  have HB := Aside0.mk (Below.refl w.heap.size w)
  have H : ((label_parts.f l0 l1).bind fun t120 => (if t120 < (l0.length : Int) then (if t120 < (l1.length : Int) then (if 0 ≤ t120 then (some (decide ((rd l0 t120) < (rd l1 t120)))) else (none)) else (some false)) else (some false))) = some r := h
  clear h
  replace H := Option.bind_eq_some_iff.mp H
  obtain ⟨t120, A30, H⟩ := H
  replace H : (if t120 < (l0.length : Int) then (if t120 < (l1.length : Int) then (if 0 ≤ t120 then (some (decide ((rd l0 t120) < (rd l1 t120)))) else (none)) else (some false)) else (some false)) = some r := H
  have A3 := Aside0.mk A30
  clear A30
  by_cases c4 : t120 < (l0.length : Int)
  · rw [if_pos c4] at H
    have c4b0 : decide (t120 < (l0.length : Int)) = true := decide_eq_true c4
    clear c4
    by_cases c5 : t120 < (l1.length : Int)
    · rw [if_pos c5] at H
      have c5b0 : decide (t120 < (l1.length : Int)) = true := decide_eq_true c5
      clear c5
      by_cases c6 : 0 ≤ t120
      · rw [if_pos c6] at H
        have c6b0 : decide (0 ≤ t120) = true := decide_eq_true c6
        clear c6
        obtain rfl := Option.some.inj H
        go_enter Try.func35, Try.ntmps35
        go_wp2_with (first | (go_at_call 32; (with_reducible refine (label_parts.calls _ _ l0 _ _ l1 t120 _ ?side1 ?side2 ?side3 ?side4 A3.out).mono ?_); (case side1 => repeat (first | exact HR0.out | (with_reducible refine Kd.C_alloc ?_ _) | (with_reducible refine Kd.C_drewN ?_ _) | (with_reducible refine Kd.C_drew ?_))); (case side2 => exact HC0.out); (case side3 => repeat (first | exact HR1.out | (with_reducible refine Kd.C_alloc ?_ _) | (with_reducible refine Kd.C_drewN ?_ _) | (with_reducible refine Kd.C_drew ?_))); (case side4 => exact HC1.out); rintro e w7 ⟨rfl, hb⟩; have n0_ := Aside0.mk (below_step (by repeat (first | (with_reducible first | exact HB.out | apply below_alloc | apply pw_below_drewN | apply below_drew1) | exact HB.out)) hb); clear HB; have HB := n0_; clear n0_; (try clear hb); (try clear hb2); (try clear hk); (try clear hi); have p121 : 0 ≤ (t120 : Int) := of_decide_eq_true (by first | (with_reducible assumption) | assumption); have q121 : t120 < (l0.length : Int) := of_decide_eq_true (by first | (with_reducible assumption) | assumption); obtain ⟨ad121, e121, hx121_0⟩ := Kd.at_int HR0.out t120 p121 q121; cases e121; replace hx121_0 := (HB.out.cell (World.block_lt_of_cell? w _ hx121_0)).trans hx121_0; replace p121 := eq_true p121; replace q121 := eq_true q121; have p122 : 0 ≤ (t120 : Int) := of_decide_eq_true (by first | (with_reducible assumption) | assumption); have q122 : t120 < (l1.length : Int) := of_decide_eq_true (by first | (with_reducible assumption) | assumption); obtain ⟨ad122, e122, hx122_0⟩ := Kd.at_int HR1.out t120 p122 q122; cases e122; replace hx122_0 := (HB.out.cell (World.block_lt_of_cell? w _ hx122_0)).trans hx122_0; replace p122 := eq_true p122; replace q122 := eq_true q122))
        repeat (go_quiet (first | (go_at_call 32; (with_reducible refine (label_parts.calls _ _ l0 _ _ l1 t120 _ ?side1 ?side2 ?side3 ?side4 A3.out).mono ?_); (case side1 => repeat (first | exact HR0.out | (with_reducible refine Kd.C_alloc ?_ _) | (with_reducible refine Kd.C_drewN ?_ _) | (with_reducible refine Kd.C_drew ?_))); (case side2 => exact HC0.out); (case side3 => repeat (first | exact HR1.out | (with_reducible refine Kd.C_alloc ?_ _) | (with_reducible refine Kd.C_drewN ?_ _) | (with_reducible refine Kd.C_drew ?_))); (case side4 => exact HC1.out); rintro e w7 ⟨rfl, hb⟩; have n0_ := Aside0.mk (below_step (by repeat (first | (with_reducible first | exact HB.out | apply below_alloc | apply pw_below_drewN | apply below_drew1) | exact HB.out)) hb); clear HB; have HB := n0_; clear n0_; (try clear hb); (try clear hb2); (try clear hk); (try clear hi); have p121 : 0 ≤ (t120 : Int) := of_decide_eq_true (by first | (with_reducible assumption) | assumption); have q121 : t120 < (l0.length : Int) := of_decide_eq_true (by first | (with_reducible assumption) | assumption); obtain ⟨ad121, e121, hx121_0⟩ := Kd.at_int HR0.out t120 p121 q121; cases e121; replace hx121_0 := (HB.out.cell (World.block_lt_of_cell? w _ hx121_0)).trans hx121_0; replace p121 := eq_true p121; replace q121 := eq_true q121; have p122 : 0 ≤ (t120 : Int) := of_decide_eq_true (by first | (with_reducible assumption) | assumption); have q122 : t120 < (l1.length : Int) := of_decide_eq_true (by first | (with_reducible assumption) | assumption); obtain ⟨ad122, e122, hx122_0⟩ := Kd.at_int HR1.out t120 p122 q122; cases e122; replace hx122_0 := (HB.out.cell (World.block_lt_of_cell? w _ hx122_0)).trans hx122_0; replace p122 := eq_true p122; replace q122 := eq_true q122)); try go_wp2_with (first | (go_at_call 32; (with_reducible refine (label_parts.calls _ _ l0 _ _ l1 t120 _ ?side1 ?side2 ?side3 ?side4 A3.out).mono ?_); (case side1 => repeat (first | exact HR0.out | (with_reducible refine Kd.C_alloc ?_ _) | (with_reducible refine Kd.C_drewN ?_ _) | (with_reducible refine Kd.C_drew ?_))); (case side2 => exact HC0.out); (case side3 => repeat (first | exact HR1.out | (with_reducible refine Kd.C_alloc ?_ _) | (with_reducible refine Kd.C_drewN ?_ _) | (with_reducible refine Kd.C_drew ?_))); (case side4 => exact HC1.out); rintro e w7 ⟨rfl, hb⟩; have n0_ := Aside0.mk (below_step (by repeat (first | (with_reducible first | exact HB.out | apply below_alloc | apply pw_below_drewN | apply below_drew1) | exact HB.out)) hb); clear HB; have HB := n0_; clear n0_; (try clear hb); (try clear hb2); (try clear hk); (try clear hi); have p121 : 0 ≤ (t120 : Int) := of_decide_eq_true (by first | (with_reducible assumption) | assumption); have q121 : t120 < (l0.length : Int) := of_decide_eq_true (by first | (with_reducible assumption) | assumption); obtain ⟨ad121, e121, hx121_0⟩ := Kd.at_int HR0.out t120 p121 q121; cases e121; replace hx121_0 := (HB.out.cell (World.block_lt_of_cell? w _ hx121_0)).trans hx121_0; replace p121 := eq_true p121; replace q121 := eq_true q121; have p122 : 0 ≤ (t120 : Int) := of_decide_eq_true (by first | (with_reducible assumption) | assumption); have q122 : t120 < (l1.length : Int) := of_decide_eq_true (by first | (with_reducible assumption) | assumption); obtain ⟨ad122, e122, hx122_0⟩ := Kd.at_int HR1.out t120 p122 q122; cases e122; replace hx122_0 := (HB.out.cell (World.block_lt_of_cell? w _ hx122_0)).trans hx122_0; replace p122 := eq_true p122; replace q122 := eq_true q122)))
        go_ret
        exact ⟨by first | rfl | (simp [errW_none, errW_some] <;> rfl) | (simp [*, errW_none, errW_some] <;> rfl), by repeat (first | (with_reducible first | exact HB.out | apply below_alloc | apply pw_below_drewN | apply below_drew1) | exact HB.out)⟩
      · rw [if_neg c6] at H
        exact absurd H (by simp)
    · rw [if_neg c5] at H
      have c5b0 : decide (t120 < (l1.length : Int)) = false := decide_eq_false c5
      clear c5
      obtain rfl := Option.some.inj H
      go_enter Try.func35, Try.ntmps35
      go_wp2_with (first | (go_at_call 32; (with_reducible refine (label_parts.calls _ _ l0 _ _ l1 t120 _ ?side1 ?side2 ?side3 ?side4 A3.out).mono ?_); (case side1 => repeat (first | exact HR0.out | (with_reducible refine Kd.C_alloc ?_ _) | (with_reducible refine Kd.C_drewN ?_ _) | (with_reducible refine Kd.C_drew ?_))); (case side2 => exact HC0.out); (case side3 => repeat (first | exact HR1.out | (with_reducible refine Kd.C_alloc ?_ _) | (with_reducible refine Kd.C_drewN ?_ _) | (with_reducible refine Kd.C_drew ?_))); (case side4 => exact HC1.out); rintro e w8 ⟨rfl, hb⟩; have n0_ := Aside0.mk (below_step (by repeat (first | (with_reducible first | exact HB.out | apply below_alloc | apply pw_below_drewN | apply below_drew1) | exact HB.out)) hb); clear HB; have HB := n0_; clear n0_; (try clear hb); (try clear hb2); (try clear hk); (try clear hi)))
      repeat (go_quiet (first | (go_at_call 32; (with_reducible refine (label_parts.calls _ _ l0 _ _ l1 t120 _ ?side1 ?side2 ?side3 ?side4 A3.out).mono ?_); (case side1 => repeat (first | exact HR0.out | (with_reducible refine Kd.C_alloc ?_ _) | (with_reducible refine Kd.C_drewN ?_ _) | (with_reducible refine Kd.C_drew ?_))); (case side2 => exact HC0.out); (case side3 => repeat (first | exact HR1.out | (with_reducible refine Kd.C_alloc ?_ _) | (with_reducible refine Kd.C_drewN ?_ _) | (with_reducible refine Kd.C_drew ?_))); (case side4 => exact HC1.out); rintro e w8 ⟨rfl, hb⟩; have n0_ := Aside0.mk (below_step (by repeat (first | (with_reducible first | exact HB.out | apply below_alloc | apply pw_below_drewN | apply below_drew1) | exact HB.out)) hb); clear HB; have HB := n0_; clear n0_; (try clear hb); (try clear hb2); (try clear hk); (try clear hi))); try go_wp2_with (first | (go_at_call 32; (with_reducible refine (label_parts.calls _ _ l0 _ _ l1 t120 _ ?side1 ?side2 ?side3 ?side4 A3.out).mono ?_); (case side1 => repeat (first | exact HR0.out | (with_reducible refine Kd.C_alloc ?_ _) | (with_reducible refine Kd.C_drewN ?_ _) | (with_reducible refine Kd.C_drew ?_))); (case side2 => exact HC0.out); (case side3 => repeat (first | exact HR1.out | (with_reducible refine Kd.C_alloc ?_ _) | (with_reducible refine Kd.C_drewN ?_ _) | (with_reducible refine Kd.C_drew ?_))); (case side4 => exact HC1.out); rintro e w8 ⟨rfl, hb⟩; have n0_ := Aside0.mk (below_step (by repeat (first | (with_reducible first | exact HB.out | apply below_alloc | apply pw_below_drewN | apply below_drew1) | exact HB.out)) hb); clear HB; have HB := n0_; clear n0_; (try clear hb); (try clear hb2); (try clear hk); (try clear hi))))
      go_ret
      exact ⟨by first | rfl | (simp [errW_none, errW_some] <;> rfl) | (simp [*, errW_none, errW_some] <;> rfl), by repeat (first | (with_reducible first | exact HB.out | apply below_alloc | apply pw_below_drewN | apply below_drew1) | exact HB.out)⟩
  · rw [if_neg c4] at H
    have c4b0 : decide (t120 < (l0.length : Int)) = false := decide_eq_false c4
    clear c4
    obtain rfl := Option.some.inj H
    go_enter Try.func35, Try.ntmps35
    go_wp2_with (first | (go_at_call 32; (with_reducible refine (label_parts.calls _ _ l0 _ _ l1 t120 _ ?side1 ?side2 ?side3 ?side4 A3.out).mono ?_); (case side1 => repeat (first | exact HR0.out | (with_reducible refine Kd.C_alloc ?_ _) | (with_reducible refine Kd.C_drewN ?_ _) | (with_reducible refine Kd.C_drew ?_))); (case side2 => exact HC0.out); (case side3 => repeat (first | exact HR1.out | (with_reducible refine Kd.C_alloc ?_ _) | (with_reducible refine Kd.C_drewN ?_ _) | (with_reducible refine Kd.C_drew ?_))); (case side4 => exact HC1.out); rintro e w9 ⟨rfl, hb⟩; have n0_ := Aside0.mk (below_step (by repeat (first | (with_reducible first | exact HB.out | apply below_alloc | apply pw_below_drewN | apply below_drew1) | exact HB.out)) hb); clear HB; have HB := n0_; clear n0_; (try clear hb); (try clear hb2); (try clear hk); (try clear hi)))
    repeat (go_quiet (first | (go_at_call 32; (with_reducible refine (label_parts.calls _ _ l0 _ _ l1 t120 _ ?side1 ?side2 ?side3 ?side4 A3.out).mono ?_); (case side1 => repeat (first | exact HR0.out | (with_reducible refine Kd.C_alloc ?_ _) | (with_reducible refine Kd.C_drewN ?_ _) | (with_reducible refine Kd.C_drew ?_))); (case side2 => exact HC0.out); (case side3 => repeat (first | exact HR1.out | (with_reducible refine Kd.C_alloc ?_ _) | (with_reducible refine Kd.C_drewN ?_ _) | (with_reducible refine Kd.C_drew ?_))); (case side4 => exact HC1.out); rintro e w9 ⟨rfl, hb⟩; have n0_ := Aside0.mk (below_step (by repeat (first | (with_reducible first | exact HB.out | apply below_alloc | apply pw_below_drewN | apply below_drew1) | exact HB.out)) hb); clear HB; have HB := n0_; clear n0_; (try clear hb); (try clear hb2); (try clear hk); (try clear hi))); try go_wp2_with (first | (go_at_call 32; (with_reducible refine (label_parts.calls _ _ l0 _ _ l1 t120 _ ?side1 ?side2 ?side3 ?side4 A3.out).mono ?_); (case side1 => repeat (first | exact HR0.out | (with_reducible refine Kd.C_alloc ?_ _) | (with_reducible refine Kd.C_drewN ?_ _) | (with_reducible refine Kd.C_drew ?_))); (case side2 => exact HC0.out); (case side3 => repeat (first | exact HR1.out | (with_reducible refine Kd.C_alloc ?_ _) | (with_reducible refine Kd.C_drewN ?_ _) | (with_reducible refine Kd.C_drew ?_))); (case side4 => exact HC1.out); rintro e w9 ⟨rfl, hb⟩; have n0_ := Aside0.mk (below_step (by repeat (first | (with_reducible first | exact HB.out | apply below_alloc | apply pw_below_drewN | apply below_drew1) | exact HB.out)) hb); clear HB; have HB := n0_; clear n0_; (try clear hb); (try clear hb2); (try clear hk); (try clear hi))))
    go_ret
    exact ⟨by first | rfl | (simp [errW_none, errW_some] <;> rfl) | (simp [*, errW_none, errW_some] <;> rfl), by repeat (first | (with_reducible first | exact HB.out | apply below_alloc | apply pw_below_drewN | apply below_drew1) | exact HB.out)⟩

/-! ### label_Pruned: function 25 -/
def label_Pruned.f (l0 : List Int) (l1 : List Int) (a2 : Int) : Option (Bool) := (label_Left.f l1 l0).bind fun t123 => (if t123 = true then ((label_parts.f l0 l1).bind fun t124 => (some (decide (t124 ≥ (mn a2 (l1.length : Int)))))) else (some false))
set_option maxHeartbeats 8000000 in
set_option maxRecDepth 100000 in
theorem label_Pruned.calls (A0 : Option Addr) (c0 : Nat) (l0 : List Int) (A1 : Option Addr) (c1 : Nat) (l1 : List Int) (a2 : Int) (r : Bool) (w : World) (hr0 : Kd.C (Kd.int .i64) w A0 l0.length l0) (hc0 : l0.length ≤ c0) (hr1 : Kd.C (Kd.int .i64) w A1 l1.length l1) (hc1 : l1.length ≤ c1) (h : label_Pruned.f l0 l1 a2 = some r) :
    Calls Try.prog 25 #[.slice A0 l0.length c0, .slice A1 l1.length c1, .int .i64 a2] w fun e w' => e = .returned (.bool r) ∧ Below w.heap.size w w' := by
  have HR0 := Aside0.mk hr0
  have HC0 := Aside0.mk hc0
  clear hr0 hc0
  have HR1 := Aside0.mk hr1
  have HC1 := Aside0.mk hc1
  clear hr1 hc1
  have HB := Aside0.mk (Below.refl w.heap.size w)
  have H : ((label_Left.f l1 l0).bind fun t123 => (if t123 = true then ((label_parts.f l0 l1).bind fun t124 => (some (decide (t124 ≥ (mn a2 (l1.length : Int)))))) else (some false))) = some r := h
  clear h
  replace H := Option.bind_eq_some_iff.mp H
  obtain ⟨t123, A40, H⟩ := H
  replace H : (if t123 = true then ((label_parts.f l0 l1).bind fun t124 => (some (decide (t124 ≥ (mn a2 (l1.length : Int)))))) else (some false)) = some r := H
  have A4 := Aside0.mk A40
  clear A40
  by_cases c5 : t123 = true
  · subst c5
    have H1 : ((label_parts.f l0 l1).bind fun t124 => (some (decide (t124 ≥ (mn a2 (l1.length : Int)))))) = some r := by rw [if_pos rfl] at H; exact H
    clear H
    have H := H1
    clear H1
    replace H := Option.bind_eq_some_iff.mp H
    obtain ⟨t124, A60, H⟩ := H
    replace H : (some (decide (t124 ≥ (mn a2 (l1.length : Int))))) = some r := H
    have A6 := Aside0.mk A60
    clear A60
    obtain ⟨ji7, hji7⟩ : ∃ j_ : Int, (mn a2 (l1.length : Int)) = j_ := ⟨_, rfl⟩
    replace H : (some (decide (t124 ≥ (ji7)))) = some r := by first | (rw [hji7] at H; exact H) | (simp only [hji7] at H ⊢; exact H)
    (try rw [hji7] at A4)
    (try rw [hji7] at A6)
    have hji7_ : (if (l1.length : Int) < a2 then (l1.length : Int) else a2) = ji7 := hji7
    obtain rfl := Option.some.inj H
    go_enter Try.func25, Try.ntmps25
    go_wp2_with (first | ((with_reducible refine gate_callee (f := 35) rfl ?_); refine goesL_ (some 9) rfl rfl Try.func35 (by kernel_rfl) rfl #[.slice A1 l1.length c1, .slice A0 l0.length c0] rfl (by (try simp only [List.map_toArray, List.map_cons, List.map_nil]); first | done | rfl | (simp only [List.length_drop, List.length_take]; rfl)) ?_; (with_reducible refine (label_Left.calls _ _ l1 _ _ l0 true _ ?side1 ?side2 ?side3 ?side4 A4.out).mono ?_); (case side1 => repeat (first | exact HR1.out | (with_reducible refine Kd.C_alloc ?_ _) | (with_reducible refine Kd.C_drewN ?_ _) | (with_reducible refine Kd.C_drew ?_))); (case side2 => exact HC1.out); (case side3 => repeat (first | exact HR0.out | (with_reducible refine Kd.C_alloc ?_ _) | (with_reducible refine Kd.C_drewN ?_ _) | (with_reducible refine Kd.C_drew ?_))); (case side4 => exact HC0.out); rintro e w8 ⟨rfl, hb⟩; refine ⟨_, rfl, ?_⟩; have n0_ := Aside0.mk (below_step (by repeat (first | (with_reducible first | exact HB.out | apply below_alloc | apply pw_below_drewN | apply below_drew1) | exact HB.out)) hb); clear HB; have HB := n0_; clear n0_; (try clear hb); (try clear hb2); (try clear hk); (try clear hi)) | (go_at_call 32; (with_reducible refine (label_parts.calls _ _ l0 _ _ l1 t124 _ ?side1 ?side2 ?side3 ?side4 A6.out).mono ?_); (case side1 => repeat (first | exact (Kd.C_below HR0.out HB.out) | (with_reducible refine Kd.C_alloc ?_ _) | (with_reducible refine Kd.C_drewN ?_ _) | (with_reducible refine Kd.C_drew ?_))); (case side2 => exact HC0.out); (case side3 => repeat (first | exact (Kd.C_below HR1.out HB.out) | (with_reducible refine Kd.C_alloc ?_ _) | (with_reducible refine Kd.C_drewN ?_ _) | (with_reducible refine Kd.C_drew ?_))); (case side4 => exact HC1.out); rintro e w9 ⟨rfl, hb⟩; have n0_ := Aside0.mk (below_step (by repeat (first | (with_reducible first | exact HB.out | apply below_alloc | apply pw_below_drewN | apply below_drew1) | exact HB.out)) hb); clear HB; have HB := n0_; clear n0_; (try clear hb); (try clear hb2); (try clear hk); (try clear hi)))
    go_ret
    exact ⟨by first | rfl | (simp [errW_none, errW_some] <;> rfl) | (simp only [← hji7]; first | rfl | (simp [errW_none, errW_some] <;> rfl)) | (simp [*, errW_none, errW_some] <;> rfl), by repeat (first | (with_reducible first | exact HB.out | apply below_alloc | apply pw_below_drewN | apply below_drew1) | exact HB.out)⟩
  · replace c5 := Bool.eq_false_iff.mpr c5
    subst c5
    have H1 : (some false) = some r := by rw [if_neg (show ¬ (false = true) by decide)] at H; exact H
    clear H
    have H := H1
    clear H1
    obtain rfl := Option.some.inj H
    go_enter Try.func25, Try.ntmps25
    go_wp2_with (first | ((with_reducible refine gate_callee (f := 35) rfl ?_); refine goesL_ (some 9) rfl rfl Try.func35 (by kernel_rfl) rfl #[.slice A1 l1.length c1, .slice A0 l0.length c0] rfl (by (try simp only [List.map_toArray, List.map_cons, List.map_nil]); first | done | rfl | (simp only [List.length_drop, List.length_take]; rfl)) ?_; (with_reducible refine (label_Left.calls _ _ l1 _ _ l0 false _ ?side1 ?side2 ?side3 ?side4 A4.out).mono ?_); (case side1 => repeat (first | exact HR1.out | (with_reducible refine Kd.C_alloc ?_ _) | (with_reducible refine Kd.C_drewN ?_ _) | (with_reducible refine Kd.C_drew ?_))); (case side2 => exact HC1.out); (case side3 => repeat (first | exact HR0.out | (with_reducible refine Kd.C_alloc ?_ _) | (with_reducible refine Kd.C_drewN ?_ _) | (with_reducible refine Kd.C_drew ?_))); (case side4 => exact HC0.out); rintro e w10 ⟨rfl, hb⟩; refine ⟨_, rfl, ?_⟩; have n0_ := Aside0.mk (below_step (by repeat (first | (with_reducible first | exact HB.out | apply below_alloc | apply pw_below_drewN | apply below_drew1) | exact HB.out)) hb); clear HB; have HB := n0_; clear n0_; (try clear hb); (try clear hb2); (try clear hk); (try clear hi)))
    go_ret
    exact ⟨by first | rfl | (simp [errW_none, errW_some] <;> rfl) | (simp [*, errW_none, errW_some] <;> rfl), by repeat (first | (with_reducible first | exact HB.out | apply below_alloc | apply pw_below_drewN | apply below_drew1) | exact HB.out)⟩

end Go.Proofs.Ytfcmbflpefhpaaa.P
