-- PRINTED by a program of this session over the kit's print.py.
import Derived.Test.YtmiapolhklapnaaPx0
import Derived.Test.YtmiapolhklapnaaPx4
import Derived.Test.YtmiapolhklapnaaPx5
namespace Go.Proofs.Ytmiapolhklapnaa.P
open Go.Own Go.RowKit Go.Proofs.YtmiapolhklapnaaW.PrintWords Go.Proofs.YtmiapolhklapnaaW.PrintLast Go.Proofs.YtmiapolhklapnaaW.PrintMore
attribute [local go_sem] max2_int min2_int max_two min_two max_three min_three max_four min_four   -- for this text's walks alone
set_option linter.unusedVariables false
set_option linter.unusedSimpArgs false

/-! ### spinneyref11_eval: function 25 -/
mutual
def spinneyref11_eval.j0 : Nat → List (S45) → Int → Bool → Int → Int → ByteArray → Int → List (S25) → Option (Int × Int × Int)
  | 0, _, _, _, _, _, _, _, _ => none
  | k + 1, x1, x3, x60, x1000, x331000, x331001, x331002, x331003 => if x60 = true then (some (0, 111, x1000)) else (if 0 < (x331003.length : Int) then ((spinneyref11_eval.f k x1000 x1 ((rd_T25 x331003 0).f0) ((rd_T25 x331003 0).f1) ((rd_T25 x331003 0).f2) ((rd_T25 x331003 0).f3) (wrap64 (x3 + 1))).bind fun bt340 => (if bt340.2.1 = 0 then ((spinneyref11_one.f x331001 bt340.1).bind fun bt343 => ((spinneyref11_told.f bt343.1 bt343.2).bind fun bt345 => (some (bt345.1, bt345.2, bt340.2.2)))) else (some (0, bt340.2.1, bt340.2.2)))) else (none))
def spinneyref11_eval.j1 : Nat → List (S45) → Int → Int → Int → ByteArray → Int → List (S25) → Option (Int × Int × Int)
  | 0, _, _, _, _, _, _, _ => none
  | k + 1, x1, x3, x1000, x331000, x331001, x331002, x331003 => if 0 < (x331003.length : Int) then ((spinneyref11_eval.f k x1000 x1 ((rd_T25 x331003 0).f0) ((rd_T25 x331003 0).f1) ((rd_T25 x331003 0).f2) ((rd_T25 x331003 0).f3) (wrap64 (x3 + 1))).bind fun bt348 => (if bt348.2.1 = 0 then (if 1 < (x331003.length : Int) then ((spinneyref11_eval.f k bt348.2.2 x1 ((rd_T25 x331003 1).f0) ((rd_T25 x331003 1).f1) ((rd_T25 x331003 1).f2) ((rd_T25 x331003 1).f3) (wrap64 (x3 + 1))).bind fun bt352 => (if bt352.2.1 = 0 then ((spinneyref11_two.f k x331001 bt348.1 bt352.1).bind fun bt355 => ((spinneyref11_told.f bt355.1 bt355.2).bind fun bt357 => (some (bt357.1, bt357.2, bt352.2.2)))) else (some (0, bt352.2.1, bt352.2.2)))) else (none)) else (some (0, bt348.2.1, bt348.2.2)))) else (none)
def spinneyref11_eval.f : Nat → Int → List (S45) → Int → ByteArray → Int → List (S25) → Int → Option (Int × Int × Int)
  | 0, _, _, _, _, _, _, _ => none
  | k + 1, s0_0, l1, a2_0, a2_1, a2_2, l2_3, a3 => if a3 ≥ 60 then (some (0, 3, s0_0)) else ((spinneyref09_Meter_Meet.f k s0_0 l1 a2_0 a2_1 a2_2 l2_3).bind fun bt331 => (if bt331.2.2.2.2.1 = 0 then (if bt331.1 = 1 then (some (0, 110, bt331.2.2.2.2.2)) else (if bt331.1 = 3 then (some (bt331.2.2.1, 0, bt331.2.2.2.2.2)) else (if bt331.1 = 4 then (if (bt331.2.2.2.1.length : Int) = 1 then (if bt331.2.1.toList = ([45] : List UInt8) then (spinneyref11_eval.j0 k l1 a3 false bt331.2.2.2.2.2 bt331.1 bt331.2.1 bt331.2.2.1 bt331.2.2.2.1) else (if bt331.2.1.toList = ([97, 98, 115] : List UInt8) then (spinneyref11_eval.j0 k l1 a3 false bt331.2.2.2.2.2 bt331.1 bt331.2.1 bt331.2.2.1 bt331.2.2.2.1) else (spinneyref11_eval.j0 k l1 a3 (bt331.2.1.toList != ([115, 105, 103, 110] : List UInt8)) bt331.2.2.2.2.2 bt331.1 bt331.2.1 bt331.2.2.1 bt331.2.2.2.1))) else (if (bt331.2.2.2.1.length : Int) = 2 then (if bt331.2.1.toList = ([43] : List UInt8) then (spinneyref11_eval.j1 k l1 a3 bt331.2.2.2.2.2 bt331.1 bt331.2.1 bt331.2.2.1 bt331.2.2.2.1) else (if bt331.2.1.toList = ([45] : List UInt8) then (spinneyref11_eval.j1 k l1 a3 bt331.2.2.2.2.2 bt331.1 bt331.2.1 bt331.2.2.1 bt331.2.2.2.1) else (if bt331.2.1.toList = ([42] : List UInt8) then (spinneyref11_eval.j1 k l1 a3 bt331.2.2.2.2.2 bt331.1 bt331.2.1 bt331.2.2.1 bt331.2.2.2.1) else (if bt331.2.1.toList = ([47, 47] : List UInt8) then (spinneyref11_eval.j1 k l1 a3 bt331.2.2.2.2.2 bt331.1 bt331.2.1 bt331.2.2.1 bt331.2.2.2.1) else (if bt331.2.1.toList = ([114, 101, 109] : List UInt8) then (spinneyref11_eval.j1 k l1 a3 bt331.2.2.2.2.2 bt331.1 bt331.2.1 bt331.2.2.1 bt331.2.2.2.1) else (if bt331.2.1.toList = ([109, 111, 100] : List UInt8) then (spinneyref11_eval.j1 k l1 a3 bt331.2.2.2.2.2 bt331.1 bt331.2.1 bt331.2.2.1 bt331.2.2.2.1) else (some (0, 111, bt331.2.2.2.2.2)))))))) else (some (0, 111, bt331.2.2.2.2.2)))) else (some (0, 111, bt331.2.2.2.2.2))))) else (some (0, bt331.2.2.2.2.1, bt331.2.2.2.2.2))))
end
theorem spinneyref11_eval.mono_l : ∀ k, (∀ y0 y1 y2 y3 y4 y5 y6, LeO (spinneyref11_eval.f k y0 y1 y2 y3 y4 y5 y6) (spinneyref11_eval.f (k + 1) y0 y1 y2 y3 y4 y5 y6)) ∧ (∀ y0 y1 y2 y3 y4 y5 y6 y7, LeO (spinneyref11_eval.j0 k y0 y1 y2 y3 y4 y5 y6 y7) (spinneyref11_eval.j0 (k + 1) y0 y1 y2 y3 y4 y5 y6 y7)) ∧ (∀ y0 y1 y2 y3 y4 y5 y6, LeO (spinneyref11_eval.j1 k y0 y1 y2 y3 y4 y5 y6) (spinneyref11_eval.j1 (k + 1) y0 y1 y2 y3 y4 y5 y6))
  | 0 => ⟨fun _ _ _ _ _ _ _ r h => by simp [spinneyref11_eval.f] at h, fun _ _ _ _ _ _ _ _ r h => by simp [spinneyref11_eval.j0] at h, fun _ _ _ _ _ _ _ r h => by simp [spinneyref11_eval.j1] at h⟩
  | k + 1 => by
    obtain ⟨ih0, ih1, ih2⟩ := spinneyref11_eval.mono_l k
    refine ⟨?_, ?_, ?_⟩
    · intro y0 y1 y2 y3 y4 y5 y6
      unfold spinneyref11_eval.f
      repeat' first
      | (with_reducible exact ih0 _ _ _ _ _ _ _)
      | (with_reducible exact ih1 _ _ _ _ _ _ _ _)
      | (with_reducible exact ih2 _ _ _ _ _ _ _)
      | (with_reducible exact spinneyref09_Meter_Meet.mono _ _ _ _ _ _ _)
      | (with_reducible exact spinneyref11_two.mono _ _ _ _)
      | (with_reducible exact LeO.refl _)
      | (with_reducible exact LeO.none _)
      | (with_reducible refine LeO.ite ?_ ?_)
      | (with_reducible refine LeO.bind ?_ (fun _ => ?_))
      | exact ih0 _ _ _ _ _ _ _
      | exact ih1 _ _ _ _ _ _ _ _
      | exact ih2 _ _ _ _ _ _ _
      | exact spinneyref09_Meter_Meet.mono _ _ _ _ _ _ _
      | exact spinneyref11_two.mono _ _ _ _
      | exact LeO.none _
      | refine LeO.ite ?_ ?_
      | refine LeO.bind ?_ (fun _ => ?_)
    · intro y0 y1 y2 y3 y4 y5 y6 y7
      unfold spinneyref11_eval.j0
      repeat' first
      | (with_reducible exact ih0 _ _ _ _ _ _ _)
      | (with_reducible exact ih1 _ _ _ _ _ _ _ _)
      | (with_reducible exact ih2 _ _ _ _ _ _ _)
      | (with_reducible exact spinneyref09_Meter_Meet.mono _ _ _ _ _ _ _)
      | (with_reducible exact spinneyref11_two.mono _ _ _ _)
      | (with_reducible exact LeO.refl _)
      | (with_reducible exact LeO.none _)
      | (with_reducible refine LeO.ite ?_ ?_)
      | (with_reducible refine LeO.bind ?_ (fun _ => ?_))
      | exact ih0 _ _ _ _ _ _ _
      | exact ih1 _ _ _ _ _ _ _ _
      | exact ih2 _ _ _ _ _ _ _
      | exact spinneyref09_Meter_Meet.mono _ _ _ _ _ _ _
      | exact spinneyref11_two.mono _ _ _ _
      | exact LeO.none _
      | refine LeO.ite ?_ ?_
      | refine LeO.bind ?_ (fun _ => ?_)
    · intro y0 y1 y2 y3 y4 y5 y6
      unfold spinneyref11_eval.j1
      repeat' first
      | (with_reducible exact ih0 _ _ _ _ _ _ _)
      | (with_reducible exact ih1 _ _ _ _ _ _ _ _)
      | (with_reducible exact ih2 _ _ _ _ _ _ _)
      | (with_reducible exact spinneyref09_Meter_Meet.mono _ _ _ _ _ _ _)
      | (with_reducible exact spinneyref11_two.mono _ _ _ _)
      | (with_reducible exact LeO.refl _)
      | (with_reducible exact LeO.none _)
      | (with_reducible refine LeO.ite ?_ ?_)
      | (with_reducible refine LeO.bind ?_ (fun _ => ?_))
      | exact ih0 _ _ _ _ _ _ _
      | exact ih1 _ _ _ _ _ _ _ _
      | exact ih2 _ _ _ _ _ _ _
      | exact spinneyref09_Meter_Meet.mono _ _ _ _ _ _ _
      | exact spinneyref11_two.mono _ _ _ _
      | exact LeO.none _
      | refine LeO.ite ?_ ?_
      | refine LeO.bind ?_ (fun _ => ?_)
theorem spinneyref11_eval.mono : ∀ a0 a1 a2 a3 a4 a5 a6 k, LeO (spinneyref11_eval.f k a0 a1 a2 a3 a4 a5 a6) (spinneyref11_eval.f (k + 1) a0 a1 a2 a3 a4 a5 a6) := by
  intro a0 a1 a2 a3 a4 a5 a6 k
  obtain ⟨ih0, ih1, ih2⟩ := spinneyref11_eval.mono_l k
  exact ih0 a0 a1 a2 a3 a4 a5 a6
set_option maxHeartbeats 8000000 in
set_option maxRecDepth 100000 in
theorem spinneyref11_eval.calls (k : Nat) : ∀ (g : Nat) (s0_0 : Int) (P1_ : Nat → Prop) (A1 : Option Addr) (c1 : Nat) (l1 : List (S45)) (a2_0 : Int) (a2_1 : ByteArray) (a2_2 : Int) (P2_3_ : Nat → Prop) (A2_3 : Option Addr) (c2_3 : Nat) (l2_3 : List (S25)) (a3 : Int) (r1 : Int) (r2 : Int) (r3 : Int) (w0 w : World) (hI : IsS54 w0 w g s0_0) (hB : Below w0.heap.size w0 w) (hs1 : Kd.V k45 45 w w.heap.size (fun k_ => P1_ k_ ∧ k_ ≠ g) (.slice A1 l1.length c1) l1) (hs2_3 : Kd.V k25 25 w w.heap.size (fun k_ => P2_3_ k_ ∧ k_ ≠ g) (.slice A2_3 l2_3.length c2_3) l2_3) (h : spinneyref11_eval.f k s0_0 l1 a2_0 a2_1 a2_2 l2_3 a3 = some (r1, r2, r3)),
    Calls Try.prog 25 #[.pointer (some ⟨g, 0, none⟩), .slice A1 l1.length c1, .agg #[.int .i64 a2_0, .string a2_1, .int .i64 a2_2, .slice A2_3 l2_3.length c2_3], .int .i64 a3] w fun e w' => e = .returned (.tuple #[.int .i64 r1, .int .i64 r2]) ∧ IsS54 w0 w' g r3 ∧ Below w0.heap.size w0 w' ∧ KeepBut w w' g none := by
  induction k using Nat.strongRecOn with
  | _ k ih =>
  intro g s0_0 P1_ A1 c1 l1 a2_0 a2_1 a2_2 P2_3_ A2_3 c2_3 l2_3 a3 r1 r2 r3 w0 w hI hB hs1 hs2_3 h
  cases k with
  | zero => exact absurd h (by simp [spinneyref11_eval.f])
  | succ k =>
  simp only [spinneyref11_eval.f] at h
  have hu25 := Try.underlying25
  have HO1 := Aside0.mk (show Kd.V k45 45 w w.heap.size (fun k_ => ((P1_ k_ ∨ P2_3_ k_) ∨ w.heap.size ≤ k_) ∧ k_ ≠ g) (.slice A1 l1.length c1) l1 from Kd.V_mono hs1 (fun k_ hk => ⟨.inl (.inl hk.1), hk.2⟩))
  have HO2_3 := Aside0.mk (show Kd.V k25 25 w w.heap.size (fun k_ => ((P1_ k_ ∨ P2_3_ k_) ∨ w.heap.size ≤ k_) ∧ k_ ≠ g) (.slice A2_3 l2_3.length c2_3) l2_3 from Kd.V_mono hs2_3 (fun k_ hk => ⟨.inl (.inr hk.1), hk.2⟩))
  have HI0 := Aside0.mk hI
  have HK := Aside0.mk (KeepBut.refl w g none)
  have HL := Aside0.mk hB.size
  clear hI
  have HW0 := Aside0.mk hB.size
  have HB := Aside0.mk hB
  clear hB
  have H : (if a3 ≥ 60 then (some (0, 3, s0_0)) else ((spinneyref09_Meter_Meet.f k s0_0 l1 a2_0 a2_1 a2_2 l2_3).bind fun bt331 => (if bt331.2.2.2.2.1 = 0 then (if bt331.1 = 1 then (some (0, 110, bt331.2.2.2.2.2)) else (if bt331.1 = 3 then (some (bt331.2.2.1, 0, bt331.2.2.2.2.2)) else (if bt331.1 = 4 then (if (bt331.2.2.2.1.length : Int) = 1 then (if bt331.2.1.toList = ([45] : List UInt8) then (spinneyref11_eval.j0 k l1 a3 false bt331.2.2.2.2.2 bt331.1 bt331.2.1 bt331.2.2.1 bt331.2.2.2.1) else (if bt331.2.1.toList = ([97, 98, 115] : List UInt8) then (spinneyref11_eval.j0 k l1 a3 false bt331.2.2.2.2.2 bt331.1 bt331.2.1 bt331.2.2.1 bt331.2.2.2.1) else (spinneyref11_eval.j0 k l1 a3 (bt331.2.1.toList != ([115, 105, 103, 110] : List UInt8)) bt331.2.2.2.2.2 bt331.1 bt331.2.1 bt331.2.2.1 bt331.2.2.2.1))) else (if (bt331.2.2.2.1.length : Int) = 2 then (if bt331.2.1.toList = ([43] : List UInt8) then (spinneyref11_eval.j1 k l1 a3 bt331.2.2.2.2.2 bt331.1 bt331.2.1 bt331.2.2.1 bt331.2.2.2.1) else (if bt331.2.1.toList = ([45] : List UInt8) then (spinneyref11_eval.j1 k l1 a3 bt331.2.2.2.2.2 bt331.1 bt331.2.1 bt331.2.2.1 bt331.2.2.2.1) else (if bt331.2.1.toList = ([42] : List UInt8) then (spinneyref11_eval.j1 k l1 a3 bt331.2.2.2.2.2 bt331.1 bt331.2.1 bt331.2.2.1 bt331.2.2.2.1) else (if bt331.2.1.toList = ([47, 47] : List UInt8) then (spinneyref11_eval.j1 k l1 a3 bt331.2.2.2.2.2 bt331.1 bt331.2.1 bt331.2.2.1 bt331.2.2.2.1) else (if bt331.2.1.toList = ([114, 101, 109] : List UInt8) then (spinneyref11_eval.j1 k l1 a3 bt331.2.2.2.2.2 bt331.1 bt331.2.1 bt331.2.2.1 bt331.2.2.2.1) else (if bt331.2.1.toList = ([109, 111, 100] : List UInt8) then (spinneyref11_eval.j1 k l1 a3 bt331.2.2.2.2.2 bt331.1 bt331.2.1 bt331.2.2.1 bt331.2.2.2.1) else (some (0, 111, bt331.2.2.2.2.2)))))))) else (some (0, 111, bt331.2.2.2.2.2)))) else (some (0, 111, bt331.2.2.2.2.2))))) else (some (0, bt331.2.2.2.2.1, bt331.2.2.2.2.2))))) = some (r1, r2, r3) := h
  clear h
  by_cases c5 : a3 ≥ 60
  · rw [if_pos c5] at H
    have c5b0 : decide (60 ≤ a3) = true := decide_eq_true c5
    clear c5
    simp only [Option.some.injEq, Prod.mk.injEq] at H
    obtain ⟨rfl, rfl, rfl⟩ := H
    go_enter Try.func25, Try.ntmps25
    go_wp2_with (first | ((with_reducible refine gate_dst (N := 6) rfl ?_); refine box_event ?hg (N := 6) ?hd (cs := #[.int .i64 a2_0, .string a2_1, .int .i64 a2_2, .slice A2_3 l2_3.length c2_3]) (t := 25) ?hr ?_; (case hd => rfl); (case hg => rfl); (case hr => first | (go_simp; done) | (go_simp; rfl)); intro gb330 hg w6 hbox hb; have n0_ := Aside0.mk (Kd.V_below (Kd.V_elderB (by (with_reducible repeat (first | apply Kd.V_alloc | apply Kd.V_drewN | apply Kd.V_drew)); exact HO1.out) gb330 (Nat.le_of_eq hg.symm)) hb); have n1_ := Aside0.mk (Kd.V_below (Kd.V_elderB (by (with_reducible repeat (first | apply Kd.V_alloc | apply Kd.V_drewN | apply Kd.V_drew)); exact HO2_3.out) gb330 (Nat.le_of_eq hg.symm)) hb); have n2_ := Aside0.mk (IsS54.below (by repeat (first | (with_reducible first | exact HI0.out | apply IsS54.alloc | apply IsS54.drewN | apply IsS54.drew | apply IsS54.set_0) | exact HI0.out)) hb); have n3_ := Aside0.mk (KeepBut.trans (by repeat (first | (with_reducible first | exact HK.out | apply KeepBut.set_ | apply keep_drewN | apply keep_drew | apply keep_alloc) | exact HK.out)) (KeepBut.of_below hb g none) (.inl rfl)); have n4_ := Aside0.mk (below_step (by repeat (first | (with_reducible first | exact HB.out | apply below_alloc | apply pw_below_drewN | apply below_drew1 | refine below_set ?_ (IsS54.ge HI0.out)) | exact HB.out)) hb); have n5_ := Aside0.mk (hbox); have n6_ := Aside0.mk ((by rw [hg]; exact (keep_size (w := w) (g := g) (row := none) (by repeat (first | (with_reducible first | exact HK.out | apply KeepBut.set_ | apply keep_drewN | apply keep_drew | apply keep_alloc) | exact HK.out))) : w.heap.size ≤ gb330)); have n7_ := Aside0.mk ((Nat.le_trans HW0.out (by rw [hg]; exact (keep_size (w := w) (g := g) (row := none) (by repeat (first | (with_reducible first | exact HK.out | apply KeepBut.set_ | apply keep_drewN | apply keep_drew | apply keep_alloc) | exact HK.out))) : w.heap.size ≤ gb330) : w0.heap.size ≤ gb330)); have n8_ := Aside0.mk ((by rw [hg]; exact Nat.ne_of_lt (IsS54.lt (show IsS54 w0 _ g s0_0 from by repeat (first | (with_reducible first | exact HI0.out | apply IsS54.alloc | apply IsS54.drewN | apply IsS54.drew | apply IsS54.set_0) | exact HI0.out))) : g ≠ gb330)); have n9_ := Aside0.mk ((by rw [hg]; exact Nat.ne_of_gt (IsS54.lt (show IsS54 w0 _ g s0_0 from by repeat (first | (with_reducible first | exact HI0.out | apply IsS54.alloc | apply IsS54.drewN | apply IsS54.drew | apply IsS54.set_0) | exact HI0.out))) : gb330 ≠ g)); clear HO1; clear HO2_3; clear HI0; clear HK; clear HB; have HO1 := n0_; have HO2_3 := n1_; have HI0 := n2_; have HK := n3_; have HB := n4_; have BK330 := n5_; have GW330 := n6_; have GE330 := n7_; have NB0_330 := n8_; have NB330_0 := n9_; clear n0_ n1_ n2_ n3_ n4_ n5_ n6_ n7_ n8_ n9_; clear hb hbox hg))
    go_ret2
    exact ⟨by first | rfl | (simp [errW_none, errW_some] <;> rfl) | (simp [*, errW_none, errW_some] <;> rfl), by repeat (first | (with_reducible first | exact HI0.out | apply IsS54.alloc | apply IsS54.drewN | apply IsS54.drew | apply IsS54.set_0 | refine IsS54.far ?_ NB0_330.out _) | exact HI0.out), by repeat (first | (with_reducible first | exact HB.out | apply below_alloc | apply pw_below_drewN | apply below_drew1 | refine below_set ?_ (IsS54.ge HI0.out) | refine below_set ?_ GE330.out) | exact HB.out), by repeat (first | (with_reducible first | exact HK.out | apply KeepBut.set_ | apply keep_drewN | apply keep_drew | apply keep_alloc | refine keep_far ?_ GW330.out _) | exact HK.out)⟩
  · rw [if_neg c5] at H
    have c5b0 : decide (60 ≤ a3) = false := decide_eq_false c5
    clear c5
    replace H := Option.bind_eq_some_iff.mp H
    obtain ⟨⟨t331, t332, t333, t334, t337, t338⟩, A70, H⟩ := H
    replace H : (if t337 = 0 then (if t331 = 1 then (some (0, 110, t338)) else (if t331 = 3 then (some (t333, 0, t338)) else (if t331 = 4 then (if (t334.length : Int) = 1 then (if t332.toList = ([45] : List UInt8) then (spinneyref11_eval.j0 k l1 a3 false t338 t331 t332 t333 t334) else (if t332.toList = ([97, 98, 115] : List UInt8) then (spinneyref11_eval.j0 k l1 a3 false t338 t331 t332 t333 t334) else (spinneyref11_eval.j0 k l1 a3 (t332.toList != ([115, 105, 103, 110] : List UInt8)) t338 t331 t332 t333 t334))) else (if (t334.length : Int) = 2 then (if t332.toList = ([43] : List UInt8) then (spinneyref11_eval.j1 k l1 a3 t338 t331 t332 t333 t334) else (if t332.toList = ([45] : List UInt8) then (spinneyref11_eval.j1 k l1 a3 t338 t331 t332 t333 t334) else (if t332.toList = ([42] : List UInt8) then (spinneyref11_eval.j1 k l1 a3 t338 t331 t332 t333 t334) else (if t332.toList = ([47, 47] : List UInt8) then (spinneyref11_eval.j1 k l1 a3 t338 t331 t332 t333 t334) else (if t332.toList = ([114, 101, 109] : List UInt8) then (spinneyref11_eval.j1 k l1 a3 t338 t331 t332 t333 t334) else (if t332.toList = ([109, 111, 100] : List UInt8) then (spinneyref11_eval.j1 k l1 a3 t338 t331 t332 t333 t334) else (some (0, 111, t338)))))))) else (some (0, 111, t338)))) else (some (0, 111, t338))))) else (some (0, t337, t338))) = some (r1, r2, r3) := H
    have A7 := Aside0.mk A70
    clear A70
    by_cases c8 : t337 = 0
    · rw [if_pos c8] at H
      have c8b0 : (t337 == 0) = true := beq_iff_eq.mpr c8
      have c8b1 : (t337 != 0) = false := bne_eq_false_iff_eq.mpr c8
      clear c8
      by_cases c9 : t331 = 1
      · rw [if_pos c9] at H
        have c9b0 : (t331 == 1) = true := beq_iff_eq.mpr c9
        have c9b1 : (t331 != 1) = false := bne_eq_false_iff_eq.mpr c9
        clear c9
        simp only [Option.some.injEq, Prod.mk.injEq] at H
        obtain ⟨rfl, rfl, rfl⟩ := H
        go_enter Try.func25, Try.ntmps25
        go_wp2_with (first | ((with_reducible refine gate_dst (N := 6) rfl ?_); refine box_event ?hg (N := 6) ?hd (cs := #[.int .i64 a2_0, .string a2_1, .int .i64 a2_2, .slice A2_3 l2_3.length c2_3]) (t := 25) ?hr ?_; (case hd => rfl); (case hg => rfl); (case hr => first | (go_simp; done) | (go_simp; rfl)); intro gb330 hg w10 hbox hb; have n0_ := Aside0.mk (Kd.V_below (Kd.V_elderB (by (with_reducible repeat (first | apply Kd.V_alloc | apply Kd.V_drewN | apply Kd.V_drew)); exact HO1.out) gb330 (Nat.le_of_eq hg.symm)) hb); have n1_ := Aside0.mk (Kd.V_below (Kd.V_elderB (by (with_reducible repeat (first | apply Kd.V_alloc | apply Kd.V_drewN | apply Kd.V_drew)); exact HO2_3.out) gb330 (Nat.le_of_eq hg.symm)) hb); have n2_ := Aside0.mk (IsS54.below (by repeat (first | (with_reducible first | exact HI0.out | apply IsS54.alloc | apply IsS54.drewN | apply IsS54.drew | apply IsS54.set_0) | exact HI0.out)) hb); have n3_ := Aside0.mk (KeepBut.trans (by repeat (first | (with_reducible first | exact HK.out | apply KeepBut.set_ | apply keep_drewN | apply keep_drew | apply keep_alloc) | exact HK.out)) (KeepBut.of_below hb g none) (.inl rfl)); have n4_ := Aside0.mk (below_step (by repeat (first | (with_reducible first | exact HB.out | apply below_alloc | apply pw_below_drewN | apply below_drew1 | refine below_set ?_ (IsS54.ge HI0.out)) | exact HB.out)) hb); have n5_ := Aside0.mk (hbox); have n6_ := Aside0.mk ((by rw [hg]; exact (keep_size (w := w) (g := g) (row := none) (by repeat (first | (with_reducible first | exact HK.out | apply KeepBut.set_ | apply keep_drewN | apply keep_drew | apply keep_alloc) | exact HK.out))) : w.heap.size ≤ gb330)); have n7_ := Aside0.mk ((Nat.le_trans HW0.out (by rw [hg]; exact (keep_size (w := w) (g := g) (row := none) (by repeat (first | (with_reducible first | exact HK.out | apply KeepBut.set_ | apply keep_drewN | apply keep_drew | apply keep_alloc) | exact HK.out))) : w.heap.size ≤ gb330) : w0.heap.size ≤ gb330)); have n8_ := Aside0.mk ((by rw [hg]; exact Nat.ne_of_lt (IsS54.lt (show IsS54 w0 _ g s0_0 from by repeat (first | (with_reducible first | exact HI0.out | apply IsS54.alloc | apply IsS54.drewN | apply IsS54.drew | apply IsS54.set_0) | exact HI0.out))) : g ≠ gb330)); have n9_ := Aside0.mk ((by rw [hg]; exact Nat.ne_of_gt (IsS54.lt (show IsS54 w0 _ g s0_0 from by repeat (first | (with_reducible first | exact HI0.out | apply IsS54.alloc | apply IsS54.drewN | apply IsS54.drew | apply IsS54.set_0) | exact HI0.out))) : gb330 ≠ g)); clear HO1; clear HO2_3; clear HI0; clear HK; clear HB; have HO1 := n0_; have HO2_3 := n1_; have HI0 := n2_; have HK := n3_; have HB := n4_; have BK330 := n5_; have GW330 := n6_; have GE330 := n7_; have NB0_330 := n8_; have NB330_0 := n9_; clear n0_ n1_ n2_ n3_ n4_ n5_ n6_ n7_ n8_ n9_; clear hb hbox hg; have hnb11 := NB330_0.out; have hnc11 := NB0_330.out; have hcz12_0 : w10.cell? ⟨gb330, 0, none⟩ = some (.int .i64 a2_0) := (blk_cell BK330.out 0).trans rfl; have hcz12_1 : w10.cell? ⟨gb330, 1, none⟩ = some (.string a2_1) := (blk_cell BK330.out 1).trans rfl; have hcz12_2 : w10.cell? ⟨gb330, 2, none⟩ = some (.int .i64 a2_2) := (blk_cell BK330.out 2).trans rfl; have hcz12_3 : w10.cell? ⟨gb330, 3, none⟩ = some (.slice A2_3 l2_3.length c2_3) := (blk_cell BK330.out 3).trans rfl; have hfz12_0 := blk_frozen BK330.out 0; have hfz12_1 := blk_frozen BK330.out 1; have hfz12_2 := blk_frozen BK330.out 2; have hfz12_3 := blk_frozen BK330.out 3) | ((with_reducible refine gate_callee (f := 31) rfl ?_); refine goesL_ (some 23) rfl rfl Try.func31 (by kernel_rfl) rfl #[.pointer (some ⟨g, 0, none⟩), .slice A1 l1.length c1, .agg #[.int .i64 a2_0, .string a2_1, .int .i64 a2_2, .slice A2_3 l2_3.length c2_3]] rfl (by (try simp only [List.map_toArray, List.map_cons, List.map_nil]); first | done | rfl | (simp only [List.length_drop, List.length_take]; rfl)) ?_; (with_reducible refine (spinneyref09_Meter_Meet.calls k g s0_0 (fun k_ => ((((P1_ k_ ∨ P2_3_ k_) ∨ w.heap.size ≤ k_) ∧ k_ ≠ g) ∧ k_ ≠ gb330)) _ _ l1 a2_0 a2_1 a2_2 (fun k_ => ((((P1_ k_ ∨ P2_3_ k_) ∨ w.heap.size ≤ k_) ∧ k_ ≠ g) ∧ k_ ≠ gb330)) _ _ l2_3 t331 t332 t333 t334 t337 t338 w0 _ ?side1 ?side2 ?side3 ?side4 A7.out).mono ?_); (case side1 => repeat (first | (with_reducible first | exact HI0.out | apply IsS54.alloc | apply IsS54.drewN | apply IsS54.drew | apply IsS54.set_0 | refine IsS54.far ?_ NB0_330.out _) | exact HI0.out)); (case side2 => repeat (first | (with_reducible first | exact HB.out | apply below_alloc | apply pw_below_drewN | apply below_drew1 | refine below_set ?_ (IsS54.ge HI0.out) | refine below_set ?_ GE330.out) | exact HB.out)); (case side3 => exact Kd.V_mono (HO1.out) (fun k_ hk_ => ⟨hk_, hk_.1.2⟩)); (case side4 => exact Kd.V_mono (HO2_3.out) (fun k_ hk_ => ⟨hk_, hk_.1.2⟩)); rintro e w13 ⟨v335, rfl, ho0, hi, hb, hk⟩; refine ⟨_, rfl, ?_⟩; have n0_ := Aside0.mk (Kd.V_mono (Kd.V_keep (Kd.V_mono (ok := fun k_ => (((((P1_ k_ ∨ P2_3_ k_) ∨ w.heap.size ≤ k_)) ∧ k_ ≠ g) ∧ k_ ≠ gb330)) (by (with_reducible repeat (first | apply Kd.V_alloc | apply Kd.V_drewN | apply Kd.V_drew)); exact HO1.out) (fun k_ hk_ => (⟨hk_, hk_.1.2⟩ : _ ∧ k_ ≠ g))) hk (fun _ h => h.2)) (fun _ h => h.1)); have n1_ := Aside0.mk (Kd.V_mono (Kd.V_keep (Kd.V_mono (ok := fun k_ => (((((P1_ k_ ∨ P2_3_ k_) ∨ w.heap.size ≤ k_)) ∧ k_ ≠ g) ∧ k_ ≠ gb330)) (by (with_reducible repeat (first | apply Kd.V_alloc | apply Kd.V_drewN | apply Kd.V_drew)); exact HO2_3.out) (fun k_ hk_ => (⟨hk_, hk_.1.2⟩ : _ ∧ k_ ≠ g))) hk (fun _ h => h.2)) (fun _ h => h.1)); have n2_ := Aside0.mk (KeepBut.blk hk (g' := gb330) (o := .cells #[.int .i64 a2_0, .string a2_1, .int .i64 a2_2, .slice A2_3 l2_3.length c2_3] 25 (0, 0)) (by (with_reducible repeat (first | refine blk_drewN ?_ _ | refine blk_drew ?_ | refine blk_alloc ?_ _)); exact BK330.out) NB330_0.out (by simp)); have n3_ := Aside0.mk (Kd.V_lower (Kd.V_mono (ok' := fun k_ => ((P1_ k_ ∨ P2_3_ k_) ∨ w.heap.size ≤ k_) ∧ k_ ≠ gb330 ∧ k_ ≠ g) ho0 (fun k_ hk_ => ⟨Or.elim hk_ (fun hs_ => Or.elim hs_ (fun hs_ => hs_.1.1) (fun hs_ => hs_.1.1)) (fun hn_ => (.inr (Nat.le_trans (keep_size (w := w) (g := g) (row := none) (by repeat (first | (with_reducible first | exact HK.out | apply KeepBut.set_ | apply keep_drewN | apply keep_drew | apply keep_alloc | refine keep_far ?_ GW330.out _) | exact HK.out))) hn_))), Or.elim hk_ (fun hs_ => Or.elim hs_ (fun hs_ => hs_.2) (fun hs_ => hs_.2)) (fun hn_ => (Kd.freshB (g := gb330) (o := .cells #[.int .i64 a2_0, .string a2_1, .int .i64 a2_2, .slice A2_3 l2_3.length c2_3] 25 (0, 0)) (by (with_reducible repeat (first | refine blk_drewN ?_ _ | refine blk_drew ?_ | refine blk_alloc ?_ _)); exact BK330.out) k_ hn_)), Or.elim hk_ (fun hs_ => Or.elim hs_ (fun hs_ => hs_.1.2) (fun hs_ => hs_.1.2)) (fun hn_ => (IsS54.fresh (by repeat (first | (with_reducible first | exact HI0.out | apply IsS54.alloc | apply IsS54.drewN | apply IsS54.drew | apply IsS54.set_0 | refine IsS54.far ?_ NB0_330.out _) | exact HI0.out)) k_ hn_))⟩)) (keep_size (w := w) (g := g) (row := none) (by repeat (first | (with_reducible first | exact HK.out | apply KeepBut.set_ | apply keep_drewN | apply keep_drew | apply keep_alloc | refine keep_far ?_ GW330.out _) | exact HK.out)))); have n4_ := Aside0.mk (KeepBut.trans (by repeat (first | (with_reducible first | exact HK.out | apply KeepBut.set_ | apply keep_drewN | apply keep_drew | apply keep_alloc | refine keep_far ?_ GW330.out _) | exact HK.out)) hk (.inl rfl)); have n5_ := Aside0.mk (hb); have n6_ := Aside0.mk (hi); clear HO1; clear HO2_3; clear BK330; clear HK; clear HB; clear HI0; have HO1 := n0_; have HO2_3 := n1_; have BK330 := n2_; have HO336 := n3_; have HK := n4_; have HB := n5_; have HI0 := n6_; clear n0_ n1_ n2_ n3_ n4_ n5_ n6_; (try clear hb); (try clear hb2); (try clear hk); (try clear hi); (try clear ho0); have hcz14_0 : w13.cell? ⟨gb330, 0, none⟩ = some (.int .i64 a2_0) := (blk_cell BK330.out 0).trans rfl; have hcz14_1 : w13.cell? ⟨gb330, 1, none⟩ = some (.string a2_1) := (blk_cell BK330.out 1).trans rfl; have hcz14_2 : w13.cell? ⟨gb330, 2, none⟩ = some (.int .i64 a2_2) := (blk_cell BK330.out 2).trans rfl; have hcz14_3 : w13.cell? ⟨gb330, 3, none⟩ = some (.slice A2_3 l2_3.length c2_3) := (blk_cell BK330.out 3).trans rfl; have hfz14_0 := blk_frozen BK330.out 0; have hfz14_1 := blk_frozen BK330.out 1; have hfz14_2 := blk_frozen BK330.out 2; have hfz14_3 := blk_frozen BK330.out 3; obtain ⟨Ao15, co15, eo15⟩ := Kd.V_slice HO336.out; subst eo15))
        go_ret2
        exact ⟨by first | rfl | (simp [errW_none, errW_some] <;> rfl) | (simp [*, errW_none, errW_some] <;> rfl), by repeat (first | (with_reducible first | exact HI0.out | apply IsS54.alloc | apply IsS54.drewN | apply IsS54.drew | apply IsS54.set_0 | refine IsS54.far ?_ NB0_330.out _) | exact HI0.out), by repeat (first | (with_reducible first | exact HB.out | apply below_alloc | apply pw_below_drewN | apply below_drew1 | refine below_set ?_ (IsS54.ge HI0.out) | refine below_set ?_ GE330.out) | exact HB.out), by repeat (first | (with_reducible first | exact HK.out | apply KeepBut.set_ | apply keep_drewN | apply keep_drew | apply keep_alloc | refine keep_far ?_ GW330.out _) | exact HK.out)⟩
      · rw [if_neg c9] at H
        have c9b0 : (t331 == 1) = false := beq_eq_false_iff_ne.mpr c9
        have c9b1 : (t331 != 1) = true := bne_iff_ne.mpr c9
        by_cases c16 : t331 = 3
        · rw [if_pos c16] at H
          have c16b0 : (t331 == 3) = true := beq_iff_eq.mpr c16
          have c16b1 : (t331 != 3) = false := bne_eq_false_iff_eq.mpr c16
          clear c16
          simp only [Option.some.injEq, Prod.mk.injEq] at H
          obtain ⟨rfl, rfl, rfl⟩ := H
          go_enter Try.func25, Try.ntmps25
          go_wp2_with (first | ((with_reducible refine gate_dst (N := 6) rfl ?_); refine box_event ?hg (N := 6) ?hd (cs := #[.int .i64 a2_0, .string a2_1, .int .i64 a2_2, .slice A2_3 l2_3.length c2_3]) (t := 25) ?hr ?_; (case hd => rfl); (case hg => rfl); (case hr => first | (go_simp; done) | (go_simp; rfl)); intro gb330 hg w17 hbox hb; have n0_ := Aside0.mk (Kd.V_below (Kd.V_elderB (by (with_reducible repeat (first | apply Kd.V_alloc | apply Kd.V_drewN | apply Kd.V_drew)); exact HO1.out) gb330 (Nat.le_of_eq hg.symm)) hb); have n1_ := Aside0.mk (Kd.V_below (Kd.V_elderB (by (with_reducible repeat (first | apply Kd.V_alloc | apply Kd.V_drewN | apply Kd.V_drew)); exact HO2_3.out) gb330 (Nat.le_of_eq hg.symm)) hb); have n2_ := Aside0.mk (IsS54.below (by repeat (first | (with_reducible first | exact HI0.out | apply IsS54.alloc | apply IsS54.drewN | apply IsS54.drew | apply IsS54.set_0) | exact HI0.out)) hb); have n3_ := Aside0.mk (KeepBut.trans (by repeat (first | (with_reducible first | exact HK.out | apply KeepBut.set_ | apply keep_drewN | apply keep_drew | apply keep_alloc) | exact HK.out)) (KeepBut.of_below hb g none) (.inl rfl)); have n4_ := Aside0.mk (below_step (by repeat (first | (with_reducible first | exact HB.out | apply below_alloc | apply pw_below_drewN | apply below_drew1 | refine below_set ?_ (IsS54.ge HI0.out)) | exact HB.out)) hb); have n5_ := Aside0.mk (hbox); have n6_ := Aside0.mk ((by rw [hg]; exact (keep_size (w := w) (g := g) (row := none) (by repeat (first | (with_reducible first | exact HK.out | apply KeepBut.set_ | apply keep_drewN | apply keep_drew | apply keep_alloc) | exact HK.out))) : w.heap.size ≤ gb330)); have n7_ := Aside0.mk ((Nat.le_trans HW0.out (by rw [hg]; exact (keep_size (w := w) (g := g) (row := none) (by repeat (first | (with_reducible first | exact HK.out | apply KeepBut.set_ | apply keep_drewN | apply keep_drew | apply keep_alloc) | exact HK.out))) : w.heap.size ≤ gb330) : w0.heap.size ≤ gb330)); have n8_ := Aside0.mk ((by rw [hg]; exact Nat.ne_of_lt (IsS54.lt (show IsS54 w0 _ g s0_0 from by repeat (first | (with_reducible first | exact HI0.out | apply IsS54.alloc | apply IsS54.drewN | apply IsS54.drew | apply IsS54.set_0) | exact HI0.out))) : g ≠ gb330)); have n9_ := Aside0.mk ((by rw [hg]; exact Nat.ne_of_gt (IsS54.lt (show IsS54 w0 _ g s0_0 from by repeat (first | (with_reducible first | exact HI0.out | apply IsS54.alloc | apply IsS54.drewN | apply IsS54.drew | apply IsS54.set_0) | exact HI0.out))) : gb330 ≠ g)); clear HO1; clear HO2_3; clear HI0; clear HK; clear HB; have HO1 := n0_; have HO2_3 := n1_; have HI0 := n2_; have HK := n3_; have HB := n4_; have BK330 := n5_; have GW330 := n6_; have GE330 := n7_; have NB0_330 := n8_; have NB330_0 := n9_; clear n0_ n1_ n2_ n3_ n4_ n5_ n6_ n7_ n8_ n9_; clear hb hbox hg; have hnb18 := NB330_0.out; have hnc18 := NB0_330.out; have hcz19_0 : w17.cell? ⟨gb330, 0, none⟩ = some (.int .i64 a2_0) := (blk_cell BK330.out 0).trans rfl; have hcz19_1 : w17.cell? ⟨gb330, 1, none⟩ = some (.string a2_1) := (blk_cell BK330.out 1).trans rfl; have hcz19_2 : w17.cell? ⟨gb330, 2, none⟩ = some (.int .i64 a2_2) := (blk_cell BK330.out 2).trans rfl; have hcz19_3 : w17.cell? ⟨gb330, 3, none⟩ = some (.slice A2_3 l2_3.length c2_3) := (blk_cell BK330.out 3).trans rfl; have hfz19_0 := blk_frozen BK330.out 0; have hfz19_1 := blk_frozen BK330.out 1; have hfz19_2 := blk_frozen BK330.out 2; have hfz19_3 := blk_frozen BK330.out 3) | ((with_reducible refine gate_callee (f := 31) rfl ?_); refine goesL_ (some 23) rfl rfl Try.func31 (by kernel_rfl) rfl #[.pointer (some ⟨g, 0, none⟩), .slice A1 l1.length c1, .agg #[.int .i64 a2_0, .string a2_1, .int .i64 a2_2, .slice A2_3 l2_3.length c2_3]] rfl (by (try simp only [List.map_toArray, List.map_cons, List.map_nil]); first | done | rfl | (simp only [List.length_drop, List.length_take]; rfl)) ?_; (with_reducible refine (spinneyref09_Meter_Meet.calls k g s0_0 (fun k_ => ((((P1_ k_ ∨ P2_3_ k_) ∨ w.heap.size ≤ k_) ∧ k_ ≠ g) ∧ k_ ≠ gb330)) _ _ l1 a2_0 a2_1 a2_2 (fun k_ => ((((P1_ k_ ∨ P2_3_ k_) ∨ w.heap.size ≤ k_) ∧ k_ ≠ g) ∧ k_ ≠ gb330)) _ _ l2_3 t331 t332 t333 t334 t337 t338 w0 _ ?side1 ?side2 ?side3 ?side4 A7.out).mono ?_); (case side1 => repeat (first | (with_reducible first | exact HI0.out | apply IsS54.alloc | apply IsS54.drewN | apply IsS54.drew | apply IsS54.set_0 | refine IsS54.far ?_ NB0_330.out _) | exact HI0.out)); (case side2 => repeat (first | (with_reducible first | exact HB.out | apply below_alloc | apply pw_below_drewN | apply below_drew1 | refine below_set ?_ (IsS54.ge HI0.out) | refine below_set ?_ GE330.out) | exact HB.out)); (case side3 => exact Kd.V_mono (HO1.out) (fun k_ hk_ => ⟨hk_, hk_.1.2⟩)); (case side4 => exact Kd.V_mono (HO2_3.out) (fun k_ hk_ => ⟨hk_, hk_.1.2⟩)); rintro e w20 ⟨v335, rfl, ho0, hi, hb, hk⟩; refine ⟨_, rfl, ?_⟩; have n0_ := Aside0.mk (Kd.V_mono (Kd.V_keep (Kd.V_mono (ok := fun k_ => (((((P1_ k_ ∨ P2_3_ k_) ∨ w.heap.size ≤ k_)) ∧ k_ ≠ g) ∧ k_ ≠ gb330)) (by (with_reducible repeat (first | apply Kd.V_alloc | apply Kd.V_drewN | apply Kd.V_drew)); exact HO1.out) (fun k_ hk_ => (⟨hk_, hk_.1.2⟩ : _ ∧ k_ ≠ g))) hk (fun _ h => h.2)) (fun _ h => h.1)); have n1_ := Aside0.mk (Kd.V_mono (Kd.V_keep (Kd.V_mono (ok := fun k_ => (((((P1_ k_ ∨ P2_3_ k_) ∨ w.heap.size ≤ k_)) ∧ k_ ≠ g) ∧ k_ ≠ gb330)) (by (with_reducible repeat (first | apply Kd.V_alloc | apply Kd.V_drewN | apply Kd.V_drew)); exact HO2_3.out) (fun k_ hk_ => (⟨hk_, hk_.1.2⟩ : _ ∧ k_ ≠ g))) hk (fun _ h => h.2)) (fun _ h => h.1)); have n2_ := Aside0.mk (KeepBut.blk hk (g' := gb330) (o := .cells #[.int .i64 a2_0, .string a2_1, .int .i64 a2_2, .slice A2_3 l2_3.length c2_3] 25 (0, 0)) (by (with_reducible repeat (first | refine blk_drewN ?_ _ | refine blk_drew ?_ | refine blk_alloc ?_ _)); exact BK330.out) NB330_0.out (by simp)); have n3_ := Aside0.mk (Kd.V_lower (Kd.V_mono (ok' := fun k_ => ((P1_ k_ ∨ P2_3_ k_) ∨ w.heap.size ≤ k_) ∧ k_ ≠ gb330 ∧ k_ ≠ g) ho0 (fun k_ hk_ => ⟨Or.elim hk_ (fun hs_ => Or.elim hs_ (fun hs_ => hs_.1.1) (fun hs_ => hs_.1.1)) (fun hn_ => (.inr (Nat.le_trans (keep_size (w := w) (g := g) (row := none) (by repeat (first | (with_reducible first | exact HK.out | apply KeepBut.set_ | apply keep_drewN | apply keep_drew | apply keep_alloc | refine keep_far ?_ GW330.out _) | exact HK.out))) hn_))), Or.elim hk_ (fun hs_ => Or.elim hs_ (fun hs_ => hs_.2) (fun hs_ => hs_.2)) (fun hn_ => (Kd.freshB (g := gb330) (o := .cells #[.int .i64 a2_0, .string a2_1, .int .i64 a2_2, .slice A2_3 l2_3.length c2_3] 25 (0, 0)) (by (with_reducible repeat (first | refine blk_drewN ?_ _ | refine blk_drew ?_ | refine blk_alloc ?_ _)); exact BK330.out) k_ hn_)), Or.elim hk_ (fun hs_ => Or.elim hs_ (fun hs_ => hs_.1.2) (fun hs_ => hs_.1.2)) (fun hn_ => (IsS54.fresh (by repeat (first | (with_reducible first | exact HI0.out | apply IsS54.alloc | apply IsS54.drewN | apply IsS54.drew | apply IsS54.set_0 | refine IsS54.far ?_ NB0_330.out _) | exact HI0.out)) k_ hn_))⟩)) (keep_size (w := w) (g := g) (row := none) (by repeat (first | (with_reducible first | exact HK.out | apply KeepBut.set_ | apply keep_drewN | apply keep_drew | apply keep_alloc | refine keep_far ?_ GW330.out _) | exact HK.out)))); have n4_ := Aside0.mk (KeepBut.trans (by repeat (first | (with_reducible first | exact HK.out | apply KeepBut.set_ | apply keep_drewN | apply keep_drew | apply keep_alloc | refine keep_far ?_ GW330.out _) | exact HK.out)) hk (.inl rfl)); have n5_ := Aside0.mk (hb); have n6_ := Aside0.mk (hi); clear HO1; clear HO2_3; clear BK330; clear HK; clear HB; clear HI0; have HO1 := n0_; have HO2_3 := n1_; have BK330 := n2_; have HO336 := n3_; have HK := n4_; have HB := n5_; have HI0 := n6_; clear n0_ n1_ n2_ n3_ n4_ n5_ n6_; (try clear hb); (try clear hb2); (try clear hk); (try clear hi); (try clear ho0); have hcz21_0 : w20.cell? ⟨gb330, 0, none⟩ = some (.int .i64 a2_0) := (blk_cell BK330.out 0).trans rfl; have hcz21_1 : w20.cell? ⟨gb330, 1, none⟩ = some (.string a2_1) := (blk_cell BK330.out 1).trans rfl; have hcz21_2 : w20.cell? ⟨gb330, 2, none⟩ = some (.int .i64 a2_2) := (blk_cell BK330.out 2).trans rfl; have hcz21_3 : w20.cell? ⟨gb330, 3, none⟩ = some (.slice A2_3 l2_3.length c2_3) := (blk_cell BK330.out 3).trans rfl; have hfz21_0 := blk_frozen BK330.out 0; have hfz21_1 := blk_frozen BK330.out 1; have hfz21_2 := blk_frozen BK330.out 2; have hfz21_3 := blk_frozen BK330.out 3; obtain ⟨Ao22, co22, eo22⟩ := Kd.V_slice HO336.out; subst eo22))
          go_ret2
          exact ⟨by first | rfl | (simp [errW_none, errW_some] <;> rfl) | (simp [*, errW_none, errW_some] <;> rfl), by repeat (first | (with_reducible first | exact HI0.out | apply IsS54.alloc | apply IsS54.drewN | apply IsS54.drew | apply IsS54.set_0 | refine IsS54.far ?_ NB0_330.out _) | exact HI0.out), by repeat (first | (with_reducible first | exact HB.out | apply below_alloc | apply pw_below_drewN | apply below_drew1 | refine below_set ?_ (IsS54.ge HI0.out) | refine below_set ?_ GE330.out) | exact HB.out), by repeat (first | (with_reducible first | exact HK.out | apply KeepBut.set_ | apply keep_drewN | apply keep_drew | apply keep_alloc | refine keep_far ?_ GW330.out _) | exact HK.out)⟩
        · rw [if_neg c16] at H
          have c16b0 : (t331 == 3) = false := beq_eq_false_iff_ne.mpr c16
          have c16b1 : (t331 != 3) = true := bne_iff_ne.mpr c16
          by_cases c23 : t331 = 4
          · rw [if_pos c23] at H
            have c23b0 : (t331 == 4) = true := beq_iff_eq.mpr c23
            have c23b1 : (t331 != 4) = false := bne_eq_false_iff_eq.mpr c23
            clear c23
            by_cases c24 : (t334.length : Int) = 1
            · rw [if_pos c24] at H
              have c24b0 : ((t334.length : Int) == 1) = true := beq_iff_eq.mpr c24
              have c24b1 : ((t334.length : Int) != 1) = false := bne_eq_false_iff_eq.mpr c24
              clear c24
              have HC25 := Aside0.mk H
              clear H
              go_enter Try.func25, Try.ntmps25
              go_upto_region 14 with (first | ((with_reducible refine gate_dst (N := 6) rfl ?_); refine box_event ?hg (N := 6) ?hd (cs := #[.int .i64 a2_0, .string a2_1, .int .i64 a2_2, .slice A2_3 l2_3.length c2_3]) (t := 25) ?hr ?_; (case hd => rfl); (case hg => rfl); (case hr => first | (go_simp; done) | (go_simp; rfl)); intro gb330 hg w26 hbox hb; have n0_ := Aside0.mk (Kd.V_below (Kd.V_elderB (by (with_reducible repeat (first | apply Kd.V_alloc | apply Kd.V_drewN | apply Kd.V_drew)); exact HO1.out) gb330 (Nat.le_of_eq hg.symm)) hb); have n1_ := Aside0.mk (Kd.V_below (Kd.V_elderB (by (with_reducible repeat (first | apply Kd.V_alloc | apply Kd.V_drewN | apply Kd.V_drew)); exact HO2_3.out) gb330 (Nat.le_of_eq hg.symm)) hb); have n2_ := Aside0.mk (IsS54.below (by repeat (first | (with_reducible first | exact HI0.out | apply IsS54.alloc | apply IsS54.drewN | apply IsS54.drew | apply IsS54.set_0) | exact HI0.out)) hb); have n3_ := Aside0.mk (KeepBut.trans (by repeat (first | (with_reducible first | exact HK.out | apply KeepBut.set_ | apply keep_drewN | apply keep_drew | apply keep_alloc) | exact HK.out)) (KeepBut.of_below hb g none) (.inl rfl)); have n4_ := Aside0.mk (below_step (by repeat (first | (with_reducible first | exact HB.out | apply below_alloc | apply pw_below_drewN | apply below_drew1 | refine below_set ?_ (IsS54.ge HI0.out)) | exact HB.out)) hb); have n5_ := Aside0.mk (hbox); have n6_ := Aside0.mk ((by rw [hg]; exact (keep_size (w := w) (g := g) (row := none) (by repeat (first | (with_reducible first | exact HK.out | apply KeepBut.set_ | apply keep_drewN | apply keep_drew | apply keep_alloc) | exact HK.out))) : w.heap.size ≤ gb330)); have n7_ := Aside0.mk ((Nat.le_trans HW0.out (by rw [hg]; exact (keep_size (w := w) (g := g) (row := none) (by repeat (first | (with_reducible first | exact HK.out | apply KeepBut.set_ | apply keep_drewN | apply keep_drew | apply keep_alloc) | exact HK.out))) : w.heap.size ≤ gb330) : w0.heap.size ≤ gb330)); have n8_ := Aside0.mk ((by rw [hg]; exact Nat.ne_of_lt (IsS54.lt (show IsS54 w0 _ g s0_0 from by repeat (first | (with_reducible first | exact HI0.out | apply IsS54.alloc | apply IsS54.drewN | apply IsS54.drew | apply IsS54.set_0) | exact HI0.out))) : g ≠ gb330)); have n9_ := Aside0.mk ((by rw [hg]; exact Nat.ne_of_gt (IsS54.lt (show IsS54 w0 _ g s0_0 from by repeat (first | (with_reducible first | exact HI0.out | apply IsS54.alloc | apply IsS54.drewN | apply IsS54.drew | apply IsS54.set_0) | exact HI0.out))) : gb330 ≠ g)); clear HO1; clear HO2_3; clear HI0; clear HK; clear HB; have HO1 := n0_; have HO2_3 := n1_; have HI0 := n2_; have HK := n3_; have HB := n4_; have BK330 := n5_; have GW330 := n6_; have GE330 := n7_; have NB0_330 := n8_; have NB330_0 := n9_; clear n0_ n1_ n2_ n3_ n4_ n5_ n6_ n7_ n8_ n9_; clear hb hbox hg; have hnb27 := NB330_0.out; have hnc27 := NB0_330.out; have hcz28_0 : w26.cell? ⟨gb330, 0, none⟩ = some (.int .i64 a2_0) := (blk_cell BK330.out 0).trans rfl; have hcz28_1 : w26.cell? ⟨gb330, 1, none⟩ = some (.string a2_1) := (blk_cell BK330.out 1).trans rfl; have hcz28_2 : w26.cell? ⟨gb330, 2, none⟩ = some (.int .i64 a2_2) := (blk_cell BK330.out 2).trans rfl; have hcz28_3 : w26.cell? ⟨gb330, 3, none⟩ = some (.slice A2_3 l2_3.length c2_3) := (blk_cell BK330.out 3).trans rfl; have hfz28_0 := blk_frozen BK330.out 0; have hfz28_1 := blk_frozen BK330.out 1; have hfz28_2 := blk_frozen BK330.out 2; have hfz28_3 := blk_frozen BK330.out 3) | ((with_reducible refine gate_callee (f := 31) rfl ?_); refine goesL_ (some 23) rfl rfl Try.func31 (by kernel_rfl) rfl #[.pointer (some ⟨g, 0, none⟩), .slice A1 l1.length c1, .agg #[.int .i64 a2_0, .string a2_1, .int .i64 a2_2, .slice A2_3 l2_3.length c2_3]] rfl (by (try simp only [List.map_toArray, List.map_cons, List.map_nil]); first | done | rfl | (simp only [List.length_drop, List.length_take]; rfl)) ?_; (with_reducible refine (spinneyref09_Meter_Meet.calls k g s0_0 (fun k_ => ((((P1_ k_ ∨ P2_3_ k_) ∨ w.heap.size ≤ k_) ∧ k_ ≠ g) ∧ k_ ≠ gb330)) _ _ l1 a2_0 a2_1 a2_2 (fun k_ => ((((P1_ k_ ∨ P2_3_ k_) ∨ w.heap.size ≤ k_) ∧ k_ ≠ g) ∧ k_ ≠ gb330)) _ _ l2_3 t331 t332 t333 t334 t337 t338 w0 _ ?side1 ?side2 ?side3 ?side4 A7.out).mono ?_); (case side1 => repeat (first | (with_reducible first | exact HI0.out | apply IsS54.alloc | apply IsS54.drewN | apply IsS54.drew | apply IsS54.set_0 | refine IsS54.far ?_ NB0_330.out _) | exact HI0.out)); (case side2 => repeat (first | (with_reducible first | exact HB.out | apply below_alloc | apply pw_below_drewN | apply below_drew1 | refine below_set ?_ (IsS54.ge HI0.out) | refine below_set ?_ GE330.out) | exact HB.out)); (case side3 => exact Kd.V_mono (HO1.out) (fun k_ hk_ => ⟨hk_, hk_.1.2⟩)); (case side4 => exact Kd.V_mono (HO2_3.out) (fun k_ hk_ => ⟨hk_, hk_.1.2⟩)); rintro e w29 ⟨v335, rfl, ho0, hi, hb, hk⟩; refine ⟨_, rfl, ?_⟩; have n0_ := Aside0.mk (Kd.V_mono (Kd.V_keep (Kd.V_mono (ok := fun k_ => (((((P1_ k_ ∨ P2_3_ k_) ∨ w.heap.size ≤ k_)) ∧ k_ ≠ g) ∧ k_ ≠ gb330)) (by (with_reducible repeat (first | apply Kd.V_alloc | apply Kd.V_drewN | apply Kd.V_drew)); exact HO1.out) (fun k_ hk_ => (⟨hk_, hk_.1.2⟩ : _ ∧ k_ ≠ g))) hk (fun _ h => h.2)) (fun _ h => h.1)); have n1_ := Aside0.mk (Kd.V_mono (Kd.V_keep (Kd.V_mono (ok := fun k_ => (((((P1_ k_ ∨ P2_3_ k_) ∨ w.heap.size ≤ k_)) ∧ k_ ≠ g) ∧ k_ ≠ gb330)) (by (with_reducible repeat (first | apply Kd.V_alloc | apply Kd.V_drewN | apply Kd.V_drew)); exact HO2_3.out) (fun k_ hk_ => (⟨hk_, hk_.1.2⟩ : _ ∧ k_ ≠ g))) hk (fun _ h => h.2)) (fun _ h => h.1)); have n2_ := Aside0.mk (KeepBut.blk hk (g' := gb330) (o := .cells #[.int .i64 a2_0, .string a2_1, .int .i64 a2_2, .slice A2_3 l2_3.length c2_3] 25 (0, 0)) (by (with_reducible repeat (first | refine blk_drewN ?_ _ | refine blk_drew ?_ | refine blk_alloc ?_ _)); exact BK330.out) NB330_0.out (by simp)); have n3_ := Aside0.mk (Kd.V_lower (Kd.V_mono (ok' := fun k_ => ((P1_ k_ ∨ P2_3_ k_) ∨ w.heap.size ≤ k_) ∧ k_ ≠ gb330 ∧ k_ ≠ g) ho0 (fun k_ hk_ => ⟨Or.elim hk_ (fun hs_ => Or.elim hs_ (fun hs_ => hs_.1.1) (fun hs_ => hs_.1.1)) (fun hn_ => (.inr (Nat.le_trans (keep_size (w := w) (g := g) (row := none) (by repeat (first | (with_reducible first | exact HK.out | apply KeepBut.set_ | apply keep_drewN | apply keep_drew | apply keep_alloc | refine keep_far ?_ GW330.out _) | exact HK.out))) hn_))), Or.elim hk_ (fun hs_ => Or.elim hs_ (fun hs_ => hs_.2) (fun hs_ => hs_.2)) (fun hn_ => (Kd.freshB (g := gb330) (o := .cells #[.int .i64 a2_0, .string a2_1, .int .i64 a2_2, .slice A2_3 l2_3.length c2_3] 25 (0, 0)) (by (with_reducible repeat (first | refine blk_drewN ?_ _ | refine blk_drew ?_ | refine blk_alloc ?_ _)); exact BK330.out) k_ hn_)), Or.elim hk_ (fun hs_ => Or.elim hs_ (fun hs_ => hs_.1.2) (fun hs_ => hs_.1.2)) (fun hn_ => (IsS54.fresh (by repeat (first | (with_reducible first | exact HI0.out | apply IsS54.alloc | apply IsS54.drewN | apply IsS54.drew | apply IsS54.set_0 | refine IsS54.far ?_ NB0_330.out _) | exact HI0.out)) k_ hn_))⟩)) (keep_size (w := w) (g := g) (row := none) (by repeat (first | (with_reducible first | exact HK.out | apply KeepBut.set_ | apply keep_drewN | apply keep_drew | apply keep_alloc | refine keep_far ?_ GW330.out _) | exact HK.out)))); have n4_ := Aside0.mk (KeepBut.trans (by repeat (first | (with_reducible first | exact HK.out | apply KeepBut.set_ | apply keep_drewN | apply keep_drew | apply keep_alloc | refine keep_far ?_ GW330.out _) | exact HK.out)) hk (.inl rfl)); have n5_ := Aside0.mk (hb); have n6_ := Aside0.mk (hi); clear HO1; clear HO2_3; clear BK330; clear HK; clear HB; clear HI0; have HO1 := n0_; have HO2_3 := n1_; have BK330 := n2_; have HO336 := n3_; have HK := n4_; have HB := n5_; have HI0 := n6_; clear n0_ n1_ n2_ n3_ n4_ n5_ n6_; (try clear hb); (try clear hb2); (try clear hk); (try clear hi); (try clear ho0); have hcz30_0 : w29.cell? ⟨gb330, 0, none⟩ = some (.int .i64 a2_0) := (blk_cell BK330.out 0).trans rfl; have hcz30_1 : w29.cell? ⟨gb330, 1, none⟩ = some (.string a2_1) := (blk_cell BK330.out 1).trans rfl; have hcz30_2 : w29.cell? ⟨gb330, 2, none⟩ = some (.int .i64 a2_2) := (blk_cell BK330.out 2).trans rfl; have hcz30_3 : w29.cell? ⟨gb330, 3, none⟩ = some (.slice A2_3 l2_3.length c2_3) := (blk_cell BK330.out 3).trans rfl; have hfz30_0 := blk_frozen BK330.out 0; have hfz30_1 := blk_frozen BK330.out 1; have hfz30_2 := blk_frozen BK330.out 2; have hfz30_3 := blk_frozen BK330.out 3; obtain ⟨Ao31, co31, eo31⟩ := Kd.V_slice HO336.out; subst eo31))
              (try simp only [Act.put, List.setIfInBounds_toArray, List.set_cons_zero, List.set_cons_succ])
              go_cut [60] (fun v60 wc => ∃ (kq : Nat) (x60_24 : Bool), v60 = .bool x60_24 ∧ Aside0 (spinneyref11_eval.j0 kq l1 a3 x60_24 t338 t331 t332 t333 t334 = some (r1, r2, r3)) ∧ Aside0 (kq ≤ k) ∧ Aside0 (Kd.V k45 45 wc w.heap.size (fun k_ => ((P1_ k_ ∨ P2_3_ k_) ∨ w.heap.size ≤ k_) ∧ k_ ≠ gb330 ∧ k_ ≠ g) (.slice A1 l1.length c1) l1) ∧ Aside0 (Kd.V k25 25 wc w.heap.size (fun k_ => ((P1_ k_ ∨ P2_3_ k_) ∨ w.heap.size ≤ k_) ∧ k_ ≠ gb330 ∧ k_ ≠ g) (.slice Ao31 t334.length co31) t334) ∧ Aside0 (wc.heap[gb330]? = some (.cells #[.int .i64 t331, .string t332, .int .i64 t333, (.slice Ao31 t334.length co31)] 25 (0, 0))) ∧ Aside0 (IsS54 w0 wc g t338) ∧ Aside0 (KeepBut w wc g none) ∧ Aside0 (Below w0.heap.size w0 wc))
              case first =>
                have H := HC25.out
                clear HC25
                by_cases c32 : t332.toList = ([45] : List UInt8)
                · rw [if_pos c32] at H
                  have c32b0 : (t332.toList == ([45] : List UInt8)) = true := beq_iff_eq.mpr c32
                  have c32b1 : (t332.toList != ([45] : List UInt8)) = false := bne_eq_false_iff_eq.mpr c32
                  clear c32
                  (first | rw [c32b0] | (simp only [i64_w, i32_w]; rw [c32b0]) | skip)
                  have H' := Aside0.mk H
                  clear H
                  have hnb33 := NB330_0.out
                  have hnc33 := NB0_330.out
                  have hcz34_0 : w29.cell? ⟨gb330, 0, none⟩ = some (.int .i64 a2_0) := (blk_cell BK330.out 0).trans rfl
                  have hcz34_1 : w29.cell? ⟨gb330, 1, none⟩ = some (.string a2_1) := (blk_cell BK330.out 1).trans rfl
                  have hcz34_2 : w29.cell? ⟨gb330, 2, none⟩ = some (.int .i64 a2_2) := (blk_cell BK330.out 2).trans rfl
                  have hcz34_3 : w29.cell? ⟨gb330, 3, none⟩ = some (.slice A2_3 l2_3.length c2_3) := (blk_cell BK330.out 3).trans rfl
                  have hfz34_0 := blk_frozen BK330.out 0
                  have hfz34_1 := blk_frozen BK330.out 1
                  have hfz34_2 := blk_frozen BK330.out 2
                  have hfz34_3 := blk_frozen BK330.out 3
                  go_wp2
                  go_meet
                  case rel => exact ⟨_, (false), (by first | rfl | (simp; done) | (simp [*]; done)), H', ⟨by first | omega | exact Nat.le_refl _⟩, ⟨by (with_reducible repeat (first | apply Kd.V_alloc | apply Kd.V_drewN | apply Kd.V_drew)); exact Kd.V_mono (Kd.V_far (p := ⟨gb330, 3, none⟩) (Kd.V_far (p := ⟨gb330, 2, none⟩) (Kd.V_far (p := ⟨gb330, 1, none⟩) (Kd.V_far (p := ⟨gb330, 0, none⟩) (Kd.V_mono HO1.out (fun k_ hk => (⟨hk, hk.2⟩ : _ ∧ k_ ≠ gb330))) (fun _ hk => hk.2) (.int .i64 t331)) (fun _ hk => hk.2) (.string t332)) (fun _ hk => hk.2) (.int .i64 t333)) (fun _ hk => hk.2) (.slice Ao31 t334.length co31)) (fun _ hk => ⟨hk.1.1.1, ⟨hk.1.2, hk.1.1.2⟩⟩)⟩, ⟨by (with_reducible repeat (first | apply Kd.V_alloc | apply Kd.V_drewN | apply Kd.V_drew)); exact Kd.V_mono (Kd.V_far (p := ⟨gb330, 3, none⟩) (Kd.V_far (p := ⟨gb330, 2, none⟩) (Kd.V_far (p := ⟨gb330, 1, none⟩) (Kd.V_far (p := ⟨gb330, 0, none⟩) (Kd.V_mono HO336.out (fun k_ hk => (⟨hk, hk.2.1⟩ : _ ∧ k_ ≠ gb330))) (fun _ hk => hk.2) (.int .i64 t331)) (fun _ hk => hk.2) (.string t332)) (fun _ hk => hk.2) (.int .i64 t333)) (fun _ hk => hk.2) (.slice Ao31 t334.length co31)) (fun _ hk => ⟨hk.1.1, ⟨hk.1.2.1, hk.1.2.2⟩⟩)⟩, ⟨by (with_reducible repeat (first | refine blk_drewN ?_ _ | refine blk_drew ?_ | refine blk_alloc ?_ _)); refine blk_put (cs := #[.int .i64 t331, .string t332, .int .i64 t333, .slice A2_3 l2_3.length c2_3]) ?_ 3 _ rfl; (with_reducible repeat (first | refine blk_drewN ?_ _ | refine blk_drew ?_ | refine blk_alloc ?_ _)); refine blk_put (cs := #[.int .i64 t331, .string t332, .int .i64 a2_2, .slice A2_3 l2_3.length c2_3]) ?_ 2 _ rfl; (with_reducible repeat (first | refine blk_drewN ?_ _ | refine blk_drew ?_ | refine blk_alloc ?_ _)); refine blk_put (cs := #[.int .i64 t331, .string a2_1, .int .i64 a2_2, .slice A2_3 l2_3.length c2_3]) ?_ 1 _ rfl; (with_reducible repeat (first | refine blk_drewN ?_ _ | refine blk_drew ?_ | refine blk_alloc ?_ _)); refine blk_put (cs := #[.int .i64 a2_0, .string a2_1, .int .i64 a2_2, .slice A2_3 l2_3.length c2_3]) ?_ 0 _ rfl; (with_reducible repeat (first | refine blk_drewN ?_ _ | refine blk_drew ?_ | refine blk_alloc ?_ _)); exact BK330.out⟩, ⟨by repeat (first | (with_reducible first | exact HI0.out | apply IsS54.alloc | apply IsS54.drewN | apply IsS54.drew | apply IsS54.set_0 | refine IsS54.far ?_ NB0_330.out _) | exact HI0.out)⟩, ⟨by repeat (first | (with_reducible first | exact HK.out | apply KeepBut.set_ | apply keep_drewN | apply keep_drew | apply keep_alloc | refine keep_far ?_ GW330.out _) | exact HK.out)⟩, ⟨by repeat (first | (with_reducible first | exact HB.out | apply below_alloc | apply pw_below_drewN | apply below_drew1 | refine below_set ?_ (IsS54.ge HI0.out) | refine below_set ?_ GE330.out) | exact HB.out)⟩⟩
                · rw [if_neg c32] at H
                  have c32b0 : (t332.toList == ([45] : List UInt8)) = false := beq_eq_false_iff_ne.mpr c32
                  have c32b1 : (t332.toList != ([45] : List UInt8)) = true := bne_iff_ne.mpr c32
                  (first | rw [c32b0] | (simp only [i64_w, i32_w]; rw [c32b0]) | skip)
                  by_cases c35 : t332.toList = ([97, 98, 115] : List UInt8)
                  · rw [if_pos c35] at H
                    have c35b0 : (t332.toList == ([97, 98, 115] : List UInt8)) = true := beq_iff_eq.mpr c35
                    have c35b1 : (t332.toList != ([97, 98, 115] : List UInt8)) = false := bne_eq_false_iff_eq.mpr c35
                    clear c35
                    have H' := Aside0.mk H
                    clear H
                    have hnb36 := NB330_0.out
                    have hnc36 := NB0_330.out
                    have hcz37_0 : w29.cell? ⟨gb330, 0, none⟩ = some (.int .i64 a2_0) := (blk_cell BK330.out 0).trans rfl
                    have hcz37_1 : w29.cell? ⟨gb330, 1, none⟩ = some (.string a2_1) := (blk_cell BK330.out 1).trans rfl
                    have hcz37_2 : w29.cell? ⟨gb330, 2, none⟩ = some (.int .i64 a2_2) := (blk_cell BK330.out 2).trans rfl
                    have hcz37_3 : w29.cell? ⟨gb330, 3, none⟩ = some (.slice A2_3 l2_3.length c2_3) := (blk_cell BK330.out 3).trans rfl
                    have hfz37_0 := blk_frozen BK330.out 0
                    have hfz37_1 := blk_frozen BK330.out 1
                    have hfz37_2 := blk_frozen BK330.out 2
                    have hfz37_3 := blk_frozen BK330.out 3
                    go_wp2
                    go_meet
                    case rel => exact ⟨_, (false), (by first | rfl | (simp; done) | (simp [*]; done)), H', ⟨by first | omega | exact Nat.le_refl _⟩, ⟨by (with_reducible repeat (first | apply Kd.V_alloc | apply Kd.V_drewN | apply Kd.V_drew)); exact Kd.V_mono (Kd.V_far (p := ⟨gb330, 3, none⟩) (Kd.V_far (p := ⟨gb330, 2, none⟩) (Kd.V_far (p := ⟨gb330, 1, none⟩) (Kd.V_far (p := ⟨gb330, 0, none⟩) (Kd.V_mono HO1.out (fun k_ hk => (⟨hk, hk.2⟩ : _ ∧ k_ ≠ gb330))) (fun _ hk => hk.2) (.int .i64 t331)) (fun _ hk => hk.2) (.string t332)) (fun _ hk => hk.2) (.int .i64 t333)) (fun _ hk => hk.2) (.slice Ao31 t334.length co31)) (fun _ hk => ⟨hk.1.1.1, ⟨hk.1.2, hk.1.1.2⟩⟩)⟩, ⟨by (with_reducible repeat (first | apply Kd.V_alloc | apply Kd.V_drewN | apply Kd.V_drew)); exact Kd.V_mono (Kd.V_far (p := ⟨gb330, 3, none⟩) (Kd.V_far (p := ⟨gb330, 2, none⟩) (Kd.V_far (p := ⟨gb330, 1, none⟩) (Kd.V_far (p := ⟨gb330, 0, none⟩) (Kd.V_mono HO336.out (fun k_ hk => (⟨hk, hk.2.1⟩ : _ ∧ k_ ≠ gb330))) (fun _ hk => hk.2) (.int .i64 t331)) (fun _ hk => hk.2) (.string t332)) (fun _ hk => hk.2) (.int .i64 t333)) (fun _ hk => hk.2) (.slice Ao31 t334.length co31)) (fun _ hk => ⟨hk.1.1, ⟨hk.1.2.1, hk.1.2.2⟩⟩)⟩, ⟨by (with_reducible repeat (first | refine blk_drewN ?_ _ | refine blk_drew ?_ | refine blk_alloc ?_ _)); refine blk_put (cs := #[.int .i64 t331, .string t332, .int .i64 t333, .slice A2_3 l2_3.length c2_3]) ?_ 3 _ rfl; (with_reducible repeat (first | refine blk_drewN ?_ _ | refine blk_drew ?_ | refine blk_alloc ?_ _)); refine blk_put (cs := #[.int .i64 t331, .string t332, .int .i64 a2_2, .slice A2_3 l2_3.length c2_3]) ?_ 2 _ rfl; (with_reducible repeat (first | refine blk_drewN ?_ _ | refine blk_drew ?_ | refine blk_alloc ?_ _)); refine blk_put (cs := #[.int .i64 t331, .string a2_1, .int .i64 a2_2, .slice A2_3 l2_3.length c2_3]) ?_ 1 _ rfl; (with_reducible repeat (first | refine blk_drewN ?_ _ | refine blk_drew ?_ | refine blk_alloc ?_ _)); refine blk_put (cs := #[.int .i64 a2_0, .string a2_1, .int .i64 a2_2, .slice A2_3 l2_3.length c2_3]) ?_ 0 _ rfl; (with_reducible repeat (first | refine blk_drewN ?_ _ | refine blk_drew ?_ | refine blk_alloc ?_ _)); exact BK330.out⟩, ⟨by repeat (first | (with_reducible first | exact HI0.out | apply IsS54.alloc | apply IsS54.drewN | apply IsS54.drew | apply IsS54.set_0 | refine IsS54.far ?_ NB0_330.out _) | exact HI0.out)⟩, ⟨by repeat (first | (with_reducible first | exact HK.out | apply KeepBut.set_ | apply keep_drewN | apply keep_drew | apply keep_alloc | refine keep_far ?_ GW330.out _) | exact HK.out)⟩, ⟨by repeat (first | (with_reducible first | exact HB.out | apply below_alloc | apply pw_below_drewN | apply below_drew1 | refine below_set ?_ (IsS54.ge HI0.out) | refine below_set ?_ GE330.out) | exact HB.out)⟩⟩
                  · rw [if_neg c35] at H
                    have c35b0 : (t332.toList == ([97, 98, 115] : List UInt8)) = false := beq_eq_false_iff_ne.mpr c35
                    have c35b1 : (t332.toList != ([97, 98, 115] : List UInt8)) = true := bne_iff_ne.mpr c35
                    have H' := Aside0.mk H
                    clear H
                    have hnb38 := NB330_0.out
                    have hnc38 := NB0_330.out
                    have hcz39_0 : w29.cell? ⟨gb330, 0, none⟩ = some (.int .i64 a2_0) := (blk_cell BK330.out 0).trans rfl
                    have hcz39_1 : w29.cell? ⟨gb330, 1, none⟩ = some (.string a2_1) := (blk_cell BK330.out 1).trans rfl
                    have hcz39_2 : w29.cell? ⟨gb330, 2, none⟩ = some (.int .i64 a2_2) := (blk_cell BK330.out 2).trans rfl
                    have hcz39_3 : w29.cell? ⟨gb330, 3, none⟩ = some (.slice A2_3 l2_3.length c2_3) := (blk_cell BK330.out 3).trans rfl
                    have hfz39_0 := blk_frozen BK330.out 0
                    have hfz39_1 := blk_frozen BK330.out 1
                    have hfz39_2 := blk_frozen BK330.out 2
                    have hfz39_3 := blk_frozen BK330.out 3
                    go_wp2
                    go_meet
                    case rel => exact ⟨_, ((t332.toList != ([115, 105, 103, 110] : List UInt8))), (by first | rfl | (simp; done) | (simp [*]; done)), H', ⟨by first | omega | exact Nat.le_refl _⟩, ⟨by (with_reducible repeat (first | apply Kd.V_alloc | apply Kd.V_drewN | apply Kd.V_drew)); exact Kd.V_mono (Kd.V_far (p := ⟨gb330, 3, none⟩) (Kd.V_far (p := ⟨gb330, 2, none⟩) (Kd.V_far (p := ⟨gb330, 1, none⟩) (Kd.V_far (p := ⟨gb330, 0, none⟩) (Kd.V_mono HO1.out (fun k_ hk => (⟨hk, hk.2⟩ : _ ∧ k_ ≠ gb330))) (fun _ hk => hk.2) (.int .i64 t331)) (fun _ hk => hk.2) (.string t332)) (fun _ hk => hk.2) (.int .i64 t333)) (fun _ hk => hk.2) (.slice Ao31 t334.length co31)) (fun _ hk => ⟨hk.1.1.1, ⟨hk.1.2, hk.1.1.2⟩⟩)⟩, ⟨by (with_reducible repeat (first | apply Kd.V_alloc | apply Kd.V_drewN | apply Kd.V_drew)); exact Kd.V_mono (Kd.V_far (p := ⟨gb330, 3, none⟩) (Kd.V_far (p := ⟨gb330, 2, none⟩) (Kd.V_far (p := ⟨gb330, 1, none⟩) (Kd.V_far (p := ⟨gb330, 0, none⟩) (Kd.V_mono HO336.out (fun k_ hk => (⟨hk, hk.2.1⟩ : _ ∧ k_ ≠ gb330))) (fun _ hk => hk.2) (.int .i64 t331)) (fun _ hk => hk.2) (.string t332)) (fun _ hk => hk.2) (.int .i64 t333)) (fun _ hk => hk.2) (.slice Ao31 t334.length co31)) (fun _ hk => ⟨hk.1.1, ⟨hk.1.2.1, hk.1.2.2⟩⟩)⟩, ⟨by (with_reducible repeat (first | refine blk_drewN ?_ _ | refine blk_drew ?_ | refine blk_alloc ?_ _)); refine blk_put (cs := #[.int .i64 t331, .string t332, .int .i64 t333, .slice A2_3 l2_3.length c2_3]) ?_ 3 _ rfl; (with_reducible repeat (first | refine blk_drewN ?_ _ | refine blk_drew ?_ | refine blk_alloc ?_ _)); refine blk_put (cs := #[.int .i64 t331, .string t332, .int .i64 a2_2, .slice A2_3 l2_3.length c2_3]) ?_ 2 _ rfl; (with_reducible repeat (first | refine blk_drewN ?_ _ | refine blk_drew ?_ | refine blk_alloc ?_ _)); refine blk_put (cs := #[.int .i64 t331, .string a2_1, .int .i64 a2_2, .slice A2_3 l2_3.length c2_3]) ?_ 1 _ rfl; (with_reducible repeat (first | refine blk_drewN ?_ _ | refine blk_drew ?_ | refine blk_alloc ?_ _)); refine blk_put (cs := #[.int .i64 a2_0, .string a2_1, .int .i64 a2_2, .slice A2_3 l2_3.length c2_3]) ?_ 0 _ rfl; (with_reducible repeat (first | refine blk_drewN ?_ _ | refine blk_drew ?_ | refine blk_alloc ?_ _)); exact BK330.out⟩, ⟨by repeat (first | (with_reducible first | exact HI0.out | apply IsS54.alloc | apply IsS54.drewN | apply IsS54.drew | apply IsS54.set_0 | refine IsS54.far ?_ NB0_330.out _) | exact HI0.out)⟩, ⟨by repeat (first | (with_reducible first | exact HK.out | apply KeepBut.set_ | apply keep_drewN | apply keep_drew | apply keep_alloc | refine keep_far ?_ GW330.out _) | exact HK.out)⟩, ⟨by repeat (first | (with_reducible first | exact HB.out | apply below_alloc | apply pw_below_drewN | apply below_drew1 | refine below_set ?_ (IsS54.ge HI0.out) | refine below_set ?_ GE330.out) | exact HB.out)⟩⟩
              case rest =>
                clear HC25
                try clear c1
                try clear c2
                try clear p2
                try clear c3
                try clear c5
                try clear c5b0
                try clear c8
                try clear c8b0
                try clear c8b1
                try clear c9
                try clear c9b0
                try clear c9b1
                try clear c11
                try clear c16
                try clear c16b0
                try clear c16b1
                try clear c18
                try clear c23
                try clear c23b0
                try clear c23b1
                try clear c24
                try clear c24b0
                try clear c24b1
                try clear c25
                try clear c27
                try clear c31
                try clear c32
                try clear c32b0
                try clear c32b1
                try clear c33
                try clear c35
                try clear c35b0
                try clear c35b1
                try clear c36
                try clear c38
                try clear hcz12_0
                try clear hcz12_1
                try clear hcz12_2
                try clear hcz12_3
                try clear hcz14_0
                try clear hcz14_1
                try clear hcz14_2
                try clear hcz14_3
                try clear hcz19_0
                try clear hcz19_1
                try clear hcz19_2
                try clear hcz19_3
                try clear hcz21_0
                try clear hcz21_1
                try clear hcz21_2
                try clear hcz21_3
                try clear hcz28_0
                try clear hcz28_1
                try clear hcz28_2
                try clear hcz28_3
                try clear hcz30_0
                try clear hcz30_1
                try clear hcz30_2
                try clear hcz30_3
                try clear hcz34_0
                try clear hcz34_1
                try clear hcz34_2
                try clear hcz34_3
                try clear hcz37_0
                try clear hcz37_1
                try clear hcz37_2
                try clear hcz37_3
                try clear hcz39_0
                try clear hcz39_1
                try clear hcz39_2
                try clear hcz39_3
                try clear hfz12_0
                try clear hfz12_1
                try clear hfz12_2
                try clear hfz12_3
                try clear hfz14_0
                try clear hfz14_1
                try clear hfz14_2
                try clear hfz14_3
                try clear hfz19_0
                try clear hfz19_1
                try clear hfz19_2
                try clear hfz19_3
                try clear hfz21_0
                try clear hfz21_1
                try clear hfz21_2
                try clear hfz21_3
                try clear hfz28_0
                try clear hfz28_1
                try clear hfz28_2
                try clear hfz28_3
                try clear hfz30_0
                try clear hfz30_1
                try clear hfz30_2
                try clear hfz30_3
                try clear hfz34_0
                try clear hfz34_1
                try clear hfz34_2
                try clear hfz34_3
                try clear hfz37_0
                try clear hfz37_1
                try clear hfz37_2
                try clear hfz37_3
                try clear hfz39_0
                try clear hfz39_1
                try clear hfz39_2
                try clear hfz39_3
                obtain ⟨kq, x60_24, rfl, HA, HJ24, HO_1, HO_331003, BK330, HI0, HK, HB⟩ := hcut
                cases kq with
                | zero => exact absurd HA.out (by simp [spinneyref11_eval.j0])
                | succ kj24 =>
                  have H := HA.out
                  clear HA
                  simp only [spinneyref11_eval.j0] at H
                  by_cases c40 : x60_24 = true
                  · subst c40
                    have H1 : (some (0, 111, t338)) = some (r1, r2, r3) := by rw [if_pos rfl] at H; exact H
                    clear H
                    have H := H1
                    clear H1
                    simp only [Option.some.injEq, Prod.mk.injEq] at H
                    obtain ⟨rfl, rfl, rfl⟩ := H
                    go_wp2
                    go_ret2
                    exact ⟨by first | rfl | (simp [errW_none, errW_some] <;> rfl) | (simp [*, errW_none, errW_some] <;> rfl), by repeat (first | (with_reducible first | exact HI0.out | apply IsS54.alloc | apply IsS54.drewN | apply IsS54.drew | apply IsS54.set_0 | refine IsS54.far ?_ NB0_330.out _) | exact HI0.out), by repeat (first | (with_reducible first | exact HB.out | apply below_alloc | apply pw_below_drewN | apply below_drew1 | refine below_set ?_ (IsS54.ge HI0.out) | refine below_set ?_ GE330.out) | exact HB.out), by repeat (first | (with_reducible first | exact HK.out | apply KeepBut.set_ | apply keep_drewN | apply keep_drew | apply keep_alloc | refine keep_far ?_ GW330.out _) | exact HK.out)⟩
                  · replace c40 := Bool.eq_false_iff.mpr c40
                    subst c40
                    have H1 : (if 0 < (t334.length : Int) then ((spinneyref11_eval.f kj24 t338 l1 ((rd_T25 t334 0).f0) ((rd_T25 t334 0).f1) ((rd_T25 t334 0).f2) ((rd_T25 t334 0).f3) (wrap64 (a3 + 1))).bind fun bt340 => (if bt340.2.1 = 0 then ((spinneyref11_one.f t332 bt340.1).bind fun bt343 => ((spinneyref11_told.f bt343.1 bt343.2).bind fun bt345 => (some (bt345.1, bt345.2, bt340.2.2)))) else (some (0, bt340.2.1, bt340.2.2)))) else (none)) = some (r1, r2, r3) := by rw [if_neg (show ¬ (false = true) by decide)] at H; exact H
                    clear H
                    have H := H1
                    clear H1
                    by_cases c41 : 0 < (t334.length : Int)
                    · rw [if_pos c41] at H
                      have c41b0 : decide (0 < (t334.length : Int)) = true := decide_eq_true c41
                      have c41b1 : decide (0 < t334.length) = true := decide_eq_true (by omega)
                      clear c41
                      replace H := Option.bind_eq_some_iff.mp H
                      obtain ⟨⟨t340, t341, t342⟩, A420, H⟩ := H
                      replace H : (if t341 = 0 then ((spinneyref11_one.f t332 t340).bind fun bt343 => ((spinneyref11_told.f bt343.1 bt343.2).bind fun bt345 => (some (bt345.1, bt345.2, t342)))) else (some (0, t341, t342))) = some (r1, r2, r3) := H
                      have A42 := Aside0.mk A420
                      clear A420
                      by_cases c43 : t341 = 0
                      · rw [if_pos c43] at H
                        have c43b0 : (t341 == 0) = true := beq_iff_eq.mpr c43
                        have c43b1 : (t341 != 0) = false := bne_eq_false_iff_eq.mpr c43
                        clear c43
                        replace H := Option.bind_eq_some_iff.mp H
                        obtain ⟨⟨t343, t344⟩, A440, H⟩ := H
                        replace H : ((spinneyref11_told.f t343 t344).bind fun bt345 => (some (bt345.1, bt345.2, t342))) = some (r1, r2, r3) := H
                        have A44 := Aside0.mk A440
                        clear A440
                        replace H := Option.bind_eq_some_iff.mp H
                        obtain ⟨⟨t345, t346⟩, A450, H⟩ := H
                        replace H : (some (t345, t346, t342)) = some (r1, r2, r3) := H
                        have A45 := Aside0.mk A450
                        clear A450
                        simp only [Option.some.injEq, Prod.mk.injEq] at H
                        obtain ⟨rfl, rfl, rfl⟩ := H
                        have hnb46 := NB330_0.out
                        have hnc46 := NB0_330.out
                        have hcz47_0 : wc.cell? ⟨gb330, 0, none⟩ = some (.int .i64 t331) := (blk_cell BK330.out 0).trans rfl
                        have hcz47_1 : wc.cell? ⟨gb330, 1, none⟩ = some (.string t332) := (blk_cell BK330.out 1).trans rfl
                        have hcz47_2 : wc.cell? ⟨gb330, 2, none⟩ = some (.int .i64 t333) := (blk_cell BK330.out 2).trans rfl
                        have hcz47_3 : wc.cell? ⟨gb330, 3, none⟩ = some (.slice Ao31 t334.length co31) := (blk_cell BK330.out 3).trans rfl
                        have hfz47_0 := blk_frozen BK330.out 0
                        have hfz47_1 := blk_frozen BK330.out 1
                        have hfz47_2 := blk_frozen BK330.out 2
                        have hfz47_3 := blk_frozen BK330.out 3
                        have p339 : 0 ≤ (0 : Int) := (by omega)
                        have q339 : 0 < (t334.length : Int) := of_decide_eq_true (by first | (with_reducible assumption) | assumption)
                        obtain ⟨ad339, A339_3, c339_3, e339, hx339_0, hx339_1, hx339_2, hx339_3, hl339_3, hi339_3⟩ := at_T25 (Kd.V_reads' HO_331003.out).2.2 0 p339 q339
                        cases e339
                        obtain ⟨ce339, hce339, hMe339, hcc339⟩ := Kd.V_get HO_331003.out z25 0 p339 (by first | exact q339 | exact of_decide_eq_true (by first | (with_reducible assumption) | assumption) | (have e_ := (Kd.V_reads' HO_331003.out).1; omega))
                        obtain ⟨ua339_3, uc339_3, rfl, ul339_3, ge339_3⟩ := k25_openF hMe339
                        have hv339_3 := hcc339 3 _ rfl
                        rw [add_field _ _ 3 (by omega)] at hv339_3
                        replace hv339_3 := Option.some.inj (hv339_3.symm.trans hx339_3)
                        injection hv339_3 with hva_ hvn_ hvc_
                        rw [hva_] at ge339_3
                        rw [hvc_] at ul339_3
                        have HL339_3 := Aside0.mk (show Kd.V k25 25 _ w.heap.size _ _ ((rd_T25 t334 0).f3) from Kd.V_mk ul339_3 ge339_3)
                        clear hva_ hvn_ hvc_ ge339_3 ul339_3
                        clear hcc339 hce339
                        have qi339 : (0 < t334.length) = True := eq_true (by omega)
                        (try rw [show ((0 : Int)).toNat = 0 from rfl] at hx339_0)
                        (try rw [show 0 * 4 = 0 from rfl] at hx339_0)
                        (try rw [Addr.add_zero'] at hx339_0)
                        (try rw [show ((0 : Int)).toNat = 0 from rfl] at hx339_1)
                        (try rw [show 0 * 4 = 0 from rfl] at hx339_1)
                        (try rw [Addr.add_zero'] at hx339_1)
                        (try rw [show ((0 : Int)).toNat = 0 from rfl] at hx339_2)
                        (try rw [show 0 * 4 = 0 from rfl] at hx339_2)
                        (try rw [Addr.add_zero'] at hx339_2)
                        (try rw [show ((0 : Int)).toNat = 0 from rfl] at hx339_3)
                        (try rw [show 0 * 4 = 0 from rfl] at hx339_3)
                        (try rw [Addr.add_zero'] at hx339_3)
                        have HR339_3 := Aside0.mk hi339_3
                        have HC339_3 := Aside0.mk hl339_3
                        clear hi339_3 hl339_3
                        replace p339 := eq_true p339
                        replace q339 := eq_true q339
                        go_wp2_with (first | ((with_reducible refine gate_callee (f := 25) rfl ?_); refine goesL_ (some 70) rfl rfl Try.func25 (by kernel_rfl) rfl #[.pointer (some ⟨g, 0, none⟩), .slice A1 l1.length c1, .agg #[.int .i64 ((rd_T25 t334 0).f0), .string ((rd_T25 t334 0).f1), .int .i64 ((rd_T25 t334 0).f2), .slice A339_3 ((rd_T25 t334 0).f3).length c339_3], .int .i64 (wrap64 (a3 + 1))] rfl (by (try simp only [List.map_toArray, List.map_cons, List.map_nil]); first | done | rfl | (simp only [List.length_drop, List.length_take]; rfl)) ?_; (with_reducible refine (ih kj24 (by have := HJ24.out; omega) g t338 (fun k_ => (((P1_ k_ ∨ P2_3_ k_) ∨ w.heap.size ≤ k_) ∧ (k_ ≠ gb330 ∧ k_ ≠ g))) _ _ l1 ((rd_T25 t334 0).f0) ((rd_T25 t334 0).f1) ((rd_T25 t334 0).f2) (fun k_ => (((P1_ k_ ∨ P2_3_ k_) ∨ w.heap.size ≤ k_) ∧ (k_ ≠ gb330 ∧ k_ ≠ g))) _ _ ((rd_T25 t334 0).f3) (wrap64 (a3 + 1)) t340 t341 t342 w0 _ ?side1 ?side2 ?side3 ?side4 A42.out).mono ?_); (case side1 => repeat (first | (with_reducible first | exact HI0.out | apply IsS54.alloc | apply IsS54.drewN | apply IsS54.drew | apply IsS54.set_0 | refine IsS54.far ?_ NB0_330.out _) | exact HI0.out)); (case side2 => repeat (first | (with_reducible first | exact HB.out | apply below_alloc | apply pw_below_drewN | apply below_drew1 | refine below_set ?_ (IsS54.ge HI0.out) | refine below_set ?_ GE330.out) | exact HB.out)); (case side3 => exact Kd.V_mono (HO_1.out) (fun k_ hk_ => ⟨hk_, hk_.2.2⟩)); (case side4 => exact Kd.V_mono (HL339_3.out) (fun k_ hk_ => ⟨hk_, hk_.2.2⟩)); rintro e w48 ⟨rfl, hi, hb, hk⟩; refine ⟨_, rfl, ?_⟩; have n0_ := Aside0.mk (Kd.V_mono (Kd.V_keep (Kd.V_mono (ok := fun k_ => ((((P1_ k_ ∨ P2_3_ k_) ∨ w.heap.size ≤ k_)) ∧ (k_ ≠ gb330 ∧ k_ ≠ g))) (by (with_reducible repeat (first | apply Kd.V_alloc | apply Kd.V_drewN | apply Kd.V_drew)); exact HO_1.out) (fun k_ hk_ => (⟨hk_, hk_.2.2⟩ : _ ∧ k_ ≠ g))) hk (fun _ h => h.2)) (fun _ h => h.1)); have n1_ := Aside0.mk (Kd.V_mono (Kd.V_keep (Kd.V_mono (ok := fun k_ => ((((P1_ k_ ∨ P2_3_ k_) ∨ w.heap.size ≤ k_)) ∧ (k_ ≠ gb330 ∧ k_ ≠ g))) (by (with_reducible repeat (first | apply Kd.V_alloc | apply Kd.V_drewN | apply Kd.V_drew)); exact HO_331003.out) (fun k_ hk_ => (⟨hk_, hk_.2.2⟩ : _ ∧ k_ ≠ g))) hk (fun _ h => h.2)) (fun _ h => h.1)); have n2_ := Aside0.mk (KeepBut.blk hk (g' := gb330) (o := .cells #[.int .i64 t331, .string t332, .int .i64 t333, .slice (some ad339) t334.length co31] 25 (0, 0)) (by (with_reducible repeat (first | refine blk_drewN ?_ _ | refine blk_drew ?_ | refine blk_alloc ?_ _)); exact BK330.out) NB330_0.out (by simp)); have n3_ := Aside0.mk (Kd.V_mono (Kd.V_keep (Kd.V_mono (ok := fun k_ => ((((P1_ k_ ∨ P2_3_ k_) ∨ w.heap.size ≤ k_)) ∧ (k_ ≠ gb330 ∧ k_ ≠ g))) (by (with_reducible repeat (first | apply Kd.V_alloc | apply Kd.V_drewN | apply Kd.V_drew)); exact HL339_3.out) (fun k_ hk_ => (⟨hk_, hk_.2.2⟩ : _ ∧ k_ ≠ g))) hk (fun _ h => h.2)) (fun _ h => h.1)); have n4_ := Aside0.mk (KeepBut.trans (by repeat (first | (with_reducible first | exact HK.out | apply KeepBut.set_ | apply keep_drewN | apply keep_drew | apply keep_alloc | refine keep_far ?_ GW330.out _) | exact HK.out)) hk (.inl rfl)); have n5_ := Aside0.mk (hb); have n6_ := Aside0.mk (hi); clear HO_1; clear HO_331003; clear BK330; clear HL339_3; clear HK; clear HB; clear HI0; have HO_1 := n0_; have HO_331003 := n1_; have BK330 := n2_; have HL339_3 := n3_; have HK := n4_; have HB := n5_; have HI0 := n6_; clear n0_ n1_ n2_ n3_ n4_ n5_ n6_; (try clear hb); (try clear hb2); (try clear hk); (try clear hi); have hcz49_0 : w48.cell? ⟨gb330, 0, none⟩ = some (.int .i64 t331) := (blk_cell BK330.out 0).trans rfl; have hcz49_1 : w48.cell? ⟨gb330, 1, none⟩ = some (.string t332) := (blk_cell BK330.out 1).trans rfl; have hcz49_2 : w48.cell? ⟨gb330, 2, none⟩ = some (.int .i64 t333) := (blk_cell BK330.out 2).trans rfl; have hcz49_3 : w48.cell? ⟨gb330, 3, none⟩ = some (.slice (some ad339) t334.length co31) := (blk_cell BK330.out 3).trans rfl; have hfz49_0 := blk_frozen BK330.out 0; have hfz49_1 := blk_frozen BK330.out 1; have hfz49_2 := blk_frozen BK330.out 2; have hfz49_3 := blk_frozen BK330.out 3) | ((with_reducible refine gate_callee (f := 33) rfl ?_); refine goesL_ (some 79) rfl rfl Try.func33 (by kernel_rfl) rfl #[.string t332, .int .i64 t340] rfl (by (try simp only [List.map_toArray, List.map_cons, List.map_nil]); first | done | rfl | (simp only [List.length_drop, List.length_take]; rfl)) ?_; (with_reducible refine (spinneyref11_one.calls t332 t340 t343 t344 _ A44.out).mono ?_); rintro e w' ⟨rfl, ⟨nd, rfl⟩⟩; refine ⟨_, rfl, ?_⟩) | ((with_reducible refine gate_callee (f := 32) rfl ?_); refine goesL_ (some 82) rfl rfl Try.func32 (by kernel_rfl) rfl #[.int .i64 t343, .int .i64 t344] rfl (by (try simp only [List.map_toArray, List.map_cons, List.map_nil]); first | done | rfl | (simp only [List.length_drop, List.length_take]; rfl)) ?_; (with_reducible refine (spinneyref11_told.calls t343 t344 t345 t346 _ A45.out).mono ?_); rintro e w' ⟨rfl, ⟨nd, rfl⟩⟩; refine ⟨_, rfl, ?_⟩))
                        go_ret2
                        exact ⟨by first | rfl | (simp [errW_none, errW_some] <;> rfl) | (simp [*, errW_none, errW_some] <;> rfl), by repeat (first | (with_reducible first | exact HI0.out | apply IsS54.alloc | apply IsS54.drewN | apply IsS54.drew | apply IsS54.set_0 | refine IsS54.far ?_ NB0_330.out _) | exact HI0.out), by repeat (first | (with_reducible first | exact HB.out | apply below_alloc | apply pw_below_drewN | apply below_drew1 | refine below_set ?_ (IsS54.ge HI0.out) | refine below_set ?_ GE330.out) | exact HB.out), by repeat (first | (with_reducible first | exact HK.out | apply KeepBut.set_ | apply keep_drewN | apply keep_drew | apply keep_alloc | refine keep_far ?_ GW330.out _) | exact HK.out)⟩
                      · rw [if_neg c43] at H
                        have c43b0 : (t341 == 0) = false := beq_eq_false_iff_ne.mpr c43
                        have c43b1 : (t341 != 0) = true := bne_iff_ne.mpr c43
                        simp only [Option.some.injEq, Prod.mk.injEq] at H
                        obtain ⟨rfl, rfl, rfl⟩ := H
                        have hnb50 := NB330_0.out
                        have hnc50 := NB0_330.out
                        have hcz51_0 : wc.cell? ⟨gb330, 0, none⟩ = some (.int .i64 t331) := (blk_cell BK330.out 0).trans rfl
                        have hcz51_1 : wc.cell? ⟨gb330, 1, none⟩ = some (.string t332) := (blk_cell BK330.out 1).trans rfl
                        have hcz51_2 : wc.cell? ⟨gb330, 2, none⟩ = some (.int .i64 t333) := (blk_cell BK330.out 2).trans rfl
                        have hcz51_3 : wc.cell? ⟨gb330, 3, none⟩ = some (.slice Ao31 t334.length co31) := (blk_cell BK330.out 3).trans rfl
                        have hfz51_0 := blk_frozen BK330.out 0
                        have hfz51_1 := blk_frozen BK330.out 1
                        have hfz51_2 := blk_frozen BK330.out 2
                        have hfz51_3 := blk_frozen BK330.out 3
                        have p339 : 0 ≤ (0 : Int) := (by omega)
                        have q339 : 0 < (t334.length : Int) := of_decide_eq_true (by first | (with_reducible assumption) | assumption)
                        obtain ⟨ad339, A339_3, c339_3, e339, hx339_0, hx339_1, hx339_2, hx339_3, hl339_3, hi339_3⟩ := at_T25 (Kd.V_reads' HO_331003.out).2.2 0 p339 q339
                        cases e339
                        obtain ⟨ce339, hce339, hMe339, hcc339⟩ := Kd.V_get HO_331003.out z25 0 p339 (by first | exact q339 | exact of_decide_eq_true (by first | (with_reducible assumption) | assumption) | (have e_ := (Kd.V_reads' HO_331003.out).1; omega))
                        obtain ⟨ua339_3, uc339_3, rfl, ul339_3, ge339_3⟩ := k25_openF hMe339
                        have hv339_3 := hcc339 3 _ rfl
                        rw [add_field _ _ 3 (by omega)] at hv339_3
                        replace hv339_3 := Option.some.inj (hv339_3.symm.trans hx339_3)
                        injection hv339_3 with hva_ hvn_ hvc_
                        rw [hva_] at ge339_3
                        rw [hvc_] at ul339_3
                        have HL339_3 := Aside0.mk (show Kd.V k25 25 _ w.heap.size _ _ ((rd_T25 t334 0).f3) from Kd.V_mk ul339_3 ge339_3)
                        clear hva_ hvn_ hvc_ ge339_3 ul339_3
                        clear hcc339 hce339
                        have qi339 : (0 < t334.length) = True := eq_true (by omega)
                        (try rw [show ((0 : Int)).toNat = 0 from rfl] at hx339_0)
                        (try rw [show 0 * 4 = 0 from rfl] at hx339_0)
                        (try rw [Addr.add_zero'] at hx339_0)
                        (try rw [show ((0 : Int)).toNat = 0 from rfl] at hx339_1)
                        (try rw [show 0 * 4 = 0 from rfl] at hx339_1)
                        (try rw [Addr.add_zero'] at hx339_1)
                        (try rw [show ((0 : Int)).toNat = 0 from rfl] at hx339_2)
                        (try rw [show 0 * 4 = 0 from rfl] at hx339_2)
                        (try rw [Addr.add_zero'] at hx339_2)
                        (try rw [show ((0 : Int)).toNat = 0 from rfl] at hx339_3)
                        (try rw [show 0 * 4 = 0 from rfl] at hx339_3)
                        (try rw [Addr.add_zero'] at hx339_3)
                        have HR339_3 := Aside0.mk hi339_3
                        have HC339_3 := Aside0.mk hl339_3
                        clear hi339_3 hl339_3
                        replace p339 := eq_true p339
                        replace q339 := eq_true q339
                        go_wp2_with (first | ((with_reducible refine gate_callee (f := 25) rfl ?_); refine goesL_ (some 70) rfl rfl Try.func25 (by kernel_rfl) rfl #[.pointer (some ⟨g, 0, none⟩), .slice A1 l1.length c1, .agg #[.int .i64 ((rd_T25 t334 0).f0), .string ((rd_T25 t334 0).f1), .int .i64 ((rd_T25 t334 0).f2), .slice A339_3 ((rd_T25 t334 0).f3).length c339_3], .int .i64 (wrap64 (a3 + 1))] rfl (by (try simp only [List.map_toArray, List.map_cons, List.map_nil]); first | done | rfl | (simp only [List.length_drop, List.length_take]; rfl)) ?_; (with_reducible refine (ih kj24 (by have := HJ24.out; omega) g t338 (fun k_ => (((P1_ k_ ∨ P2_3_ k_) ∨ w.heap.size ≤ k_) ∧ (k_ ≠ gb330 ∧ k_ ≠ g))) _ _ l1 ((rd_T25 t334 0).f0) ((rd_T25 t334 0).f1) ((rd_T25 t334 0).f2) (fun k_ => (((P1_ k_ ∨ P2_3_ k_) ∨ w.heap.size ≤ k_) ∧ (k_ ≠ gb330 ∧ k_ ≠ g))) _ _ ((rd_T25 t334 0).f3) (wrap64 (a3 + 1)) t340 t341 t342 w0 _ ?side1 ?side2 ?side3 ?side4 A42.out).mono ?_); (case side1 => repeat (first | (with_reducible first | exact HI0.out | apply IsS54.alloc | apply IsS54.drewN | apply IsS54.drew | apply IsS54.set_0 | refine IsS54.far ?_ NB0_330.out _) | exact HI0.out)); (case side2 => repeat (first | (with_reducible first | exact HB.out | apply below_alloc | apply pw_below_drewN | apply below_drew1 | refine below_set ?_ (IsS54.ge HI0.out) | refine below_set ?_ GE330.out) | exact HB.out)); (case side3 => exact Kd.V_mono (HO_1.out) (fun k_ hk_ => ⟨hk_, hk_.2.2⟩)); (case side4 => exact Kd.V_mono (HL339_3.out) (fun k_ hk_ => ⟨hk_, hk_.2.2⟩)); rintro e w52 ⟨rfl, hi, hb, hk⟩; refine ⟨_, rfl, ?_⟩; have n0_ := Aside0.mk (Kd.V_mono (Kd.V_keep (Kd.V_mono (ok := fun k_ => ((((P1_ k_ ∨ P2_3_ k_) ∨ w.heap.size ≤ k_)) ∧ (k_ ≠ gb330 ∧ k_ ≠ g))) (by (with_reducible repeat (first | apply Kd.V_alloc | apply Kd.V_drewN | apply Kd.V_drew)); exact HO_1.out) (fun k_ hk_ => (⟨hk_, hk_.2.2⟩ : _ ∧ k_ ≠ g))) hk (fun _ h => h.2)) (fun _ h => h.1)); have n1_ := Aside0.mk (Kd.V_mono (Kd.V_keep (Kd.V_mono (ok := fun k_ => ((((P1_ k_ ∨ P2_3_ k_) ∨ w.heap.size ≤ k_)) ∧ (k_ ≠ gb330 ∧ k_ ≠ g))) (by (with_reducible repeat (first | apply Kd.V_alloc | apply Kd.V_drewN | apply Kd.V_drew)); exact HO_331003.out) (fun k_ hk_ => (⟨hk_, hk_.2.2⟩ : _ ∧ k_ ≠ g))) hk (fun _ h => h.2)) (fun _ h => h.1)); have n2_ := Aside0.mk (KeepBut.blk hk (g' := gb330) (o := .cells #[.int .i64 t331, .string t332, .int .i64 t333, .slice (some ad339) t334.length co31] 25 (0, 0)) (by (with_reducible repeat (first | refine blk_drewN ?_ _ | refine blk_drew ?_ | refine blk_alloc ?_ _)); exact BK330.out) NB330_0.out (by simp)); have n3_ := Aside0.mk (Kd.V_mono (Kd.V_keep (Kd.V_mono (ok := fun k_ => ((((P1_ k_ ∨ P2_3_ k_) ∨ w.heap.size ≤ k_)) ∧ (k_ ≠ gb330 ∧ k_ ≠ g))) (by (with_reducible repeat (first | apply Kd.V_alloc | apply Kd.V_drewN | apply Kd.V_drew)); exact HL339_3.out) (fun k_ hk_ => (⟨hk_, hk_.2.2⟩ : _ ∧ k_ ≠ g))) hk (fun _ h => h.2)) (fun _ h => h.1)); have n4_ := Aside0.mk (KeepBut.trans (by repeat (first | (with_reducible first | exact HK.out | apply KeepBut.set_ | apply keep_drewN | apply keep_drew | apply keep_alloc | refine keep_far ?_ GW330.out _) | exact HK.out)) hk (.inl rfl)); have n5_ := Aside0.mk (hb); have n6_ := Aside0.mk (hi); clear HO_1; clear HO_331003; clear BK330; clear HL339_3; clear HK; clear HB; clear HI0; have HO_1 := n0_; have HO_331003 := n1_; have BK330 := n2_; have HL339_3 := n3_; have HK := n4_; have HB := n5_; have HI0 := n6_; clear n0_ n1_ n2_ n3_ n4_ n5_ n6_; (try clear hb); (try clear hb2); (try clear hk); (try clear hi)))
                        go_ret2
                        exact ⟨by first | rfl | (simp [errW_none, errW_some] <;> rfl) | (simp [*, errW_none, errW_some] <;> rfl), by repeat (first | (with_reducible first | exact HI0.out | apply IsS54.alloc | apply IsS54.drewN | apply IsS54.drew | apply IsS54.set_0 | refine IsS54.far ?_ NB0_330.out _) | exact HI0.out), by repeat (first | (with_reducible first | exact HB.out | apply below_alloc | apply pw_below_drewN | apply below_drew1 | refine below_set ?_ (IsS54.ge HI0.out) | refine below_set ?_ GE330.out) | exact HB.out), by repeat (first | (with_reducible first | exact HK.out | apply KeepBut.set_ | apply keep_drewN | apply keep_drew | apply keep_alloc | refine keep_far ?_ GW330.out _) | exact HK.out)⟩
                    · rw [if_neg c41] at H
                      exact absurd H (by simp)
            · rw [if_neg c24] at H
              have c24b0 : ((t334.length : Int) == 1) = false := beq_eq_false_iff_ne.mpr c24
              have c24b1 : ((t334.length : Int) != 1) = true := bne_iff_ne.mpr c24
              by_cases c53 : (t334.length : Int) = 2
              · rw [if_pos c53] at H
                have c53b0 : ((t334.length : Int) == 2) = true := beq_iff_eq.mpr c53
                have c53b1 : ((t334.length : Int) != 2) = false := bne_eq_false_iff_eq.mpr c53
                clear c53
                have HC54 := Aside0.mk H
                clear H
                go_enter Try.func25, Try.ntmps25
                go_upto_block 2 with (first | ((with_reducible refine gate_dst (N := 6) rfl ?_); refine box_event ?hg (N := 6) ?hd (cs := #[.int .i64 a2_0, .string a2_1, .int .i64 a2_2, .slice A2_3 l2_3.length c2_3]) (t := 25) ?hr ?_; (case hd => rfl); (case hg => rfl); (case hr => first | (go_simp; done) | (go_simp; rfl)); intro gb330 hg w55 hbox hb; have n0_ := Aside0.mk (Kd.V_below (Kd.V_elderB (by (with_reducible repeat (first | apply Kd.V_alloc | apply Kd.V_drewN | apply Kd.V_drew)); exact HO1.out) gb330 (Nat.le_of_eq hg.symm)) hb); have n1_ := Aside0.mk (Kd.V_below (Kd.V_elderB (by (with_reducible repeat (first | apply Kd.V_alloc | apply Kd.V_drewN | apply Kd.V_drew)); exact HO2_3.out) gb330 (Nat.le_of_eq hg.symm)) hb); have n2_ := Aside0.mk (IsS54.below (by repeat (first | (with_reducible first | exact HI0.out | apply IsS54.alloc | apply IsS54.drewN | apply IsS54.drew | apply IsS54.set_0) | exact HI0.out)) hb); have n3_ := Aside0.mk (KeepBut.trans (by repeat (first | (with_reducible first | exact HK.out | apply KeepBut.set_ | apply keep_drewN | apply keep_drew | apply keep_alloc) | exact HK.out)) (KeepBut.of_below hb g none) (.inl rfl)); have n4_ := Aside0.mk (below_step (by repeat (first | (with_reducible first | exact HB.out | apply below_alloc | apply pw_below_drewN | apply below_drew1 | refine below_set ?_ (IsS54.ge HI0.out)) | exact HB.out)) hb); have n5_ := Aside0.mk (hbox); have n6_ := Aside0.mk ((by rw [hg]; exact (keep_size (w := w) (g := g) (row := none) (by repeat (first | (with_reducible first | exact HK.out | apply KeepBut.set_ | apply keep_drewN | apply keep_drew | apply keep_alloc) | exact HK.out))) : w.heap.size ≤ gb330)); have n7_ := Aside0.mk ((Nat.le_trans HW0.out (by rw [hg]; exact (keep_size (w := w) (g := g) (row := none) (by repeat (first | (with_reducible first | exact HK.out | apply KeepBut.set_ | apply keep_drewN | apply keep_drew | apply keep_alloc) | exact HK.out))) : w.heap.size ≤ gb330) : w0.heap.size ≤ gb330)); have n8_ := Aside0.mk ((by rw [hg]; exact Nat.ne_of_lt (IsS54.lt (show IsS54 w0 _ g s0_0 from by repeat (first | (with_reducible first | exact HI0.out | apply IsS54.alloc | apply IsS54.drewN | apply IsS54.drew | apply IsS54.set_0) | exact HI0.out))) : g ≠ gb330)); have n9_ := Aside0.mk ((by rw [hg]; exact Nat.ne_of_gt (IsS54.lt (show IsS54 w0 _ g s0_0 from by repeat (first | (with_reducible first | exact HI0.out | apply IsS54.alloc | apply IsS54.drewN | apply IsS54.drew | apply IsS54.set_0) | exact HI0.out))) : gb330 ≠ g)); clear HO1; clear HO2_3; clear HI0; clear HK; clear HB; have HO1 := n0_; have HO2_3 := n1_; have HI0 := n2_; have HK := n3_; have HB := n4_; have BK330 := n5_; have GW330 := n6_; have GE330 := n7_; have NB0_330 := n8_; have NB330_0 := n9_; clear n0_ n1_ n2_ n3_ n4_ n5_ n6_ n7_ n8_ n9_; clear hb hbox hg; have hnb56 := NB330_0.out; have hnc56 := NB0_330.out; have hcz57_0 : w55.cell? ⟨gb330, 0, none⟩ = some (.int .i64 a2_0) := (blk_cell BK330.out 0).trans rfl; have hcz57_1 : w55.cell? ⟨gb330, 1, none⟩ = some (.string a2_1) := (blk_cell BK330.out 1).trans rfl; have hcz57_2 : w55.cell? ⟨gb330, 2, none⟩ = some (.int .i64 a2_2) := (blk_cell BK330.out 2).trans rfl; have hcz57_3 : w55.cell? ⟨gb330, 3, none⟩ = some (.slice A2_3 l2_3.length c2_3) := (blk_cell BK330.out 3).trans rfl; have hfz57_0 := blk_frozen BK330.out 0; have hfz57_1 := blk_frozen BK330.out 1; have hfz57_2 := blk_frozen BK330.out 2; have hfz57_3 := blk_frozen BK330.out 3) | ((with_reducible refine gate_callee (f := 31) rfl ?_); refine goesL_ (some 23) rfl rfl Try.func31 (by kernel_rfl) rfl #[.pointer (some ⟨g, 0, none⟩), .slice A1 l1.length c1, .agg #[.int .i64 a2_0, .string a2_1, .int .i64 a2_2, .slice A2_3 l2_3.length c2_3]] rfl (by (try simp only [List.map_toArray, List.map_cons, List.map_nil]); first | done | rfl | (simp only [List.length_drop, List.length_take]; rfl)) ?_; (with_reducible refine (spinneyref09_Meter_Meet.calls k g s0_0 (fun k_ => ((((P1_ k_ ∨ P2_3_ k_) ∨ w.heap.size ≤ k_) ∧ k_ ≠ g) ∧ k_ ≠ gb330)) _ _ l1 a2_0 a2_1 a2_2 (fun k_ => ((((P1_ k_ ∨ P2_3_ k_) ∨ w.heap.size ≤ k_) ∧ k_ ≠ g) ∧ k_ ≠ gb330)) _ _ l2_3 t331 t332 t333 t334 t337 t338 w0 _ ?side1 ?side2 ?side3 ?side4 A7.out).mono ?_); (case side1 => repeat (first | (with_reducible first | exact HI0.out | apply IsS54.alloc | apply IsS54.drewN | apply IsS54.drew | apply IsS54.set_0 | refine IsS54.far ?_ NB0_330.out _) | exact HI0.out)); (case side2 => repeat (first | (with_reducible first | exact HB.out | apply below_alloc | apply pw_below_drewN | apply below_drew1 | refine below_set ?_ (IsS54.ge HI0.out) | refine below_set ?_ GE330.out) | exact HB.out)); (case side3 => exact Kd.V_mono (HO1.out) (fun k_ hk_ => ⟨hk_, hk_.1.2⟩)); (case side4 => exact Kd.V_mono (HO2_3.out) (fun k_ hk_ => ⟨hk_, hk_.1.2⟩)); rintro e w58 ⟨v335, rfl, ho0, hi, hb, hk⟩; refine ⟨_, rfl, ?_⟩; have n0_ := Aside0.mk (Kd.V_mono (Kd.V_keep (Kd.V_mono (ok := fun k_ => (((((P1_ k_ ∨ P2_3_ k_) ∨ w.heap.size ≤ k_)) ∧ k_ ≠ g) ∧ k_ ≠ gb330)) (by (with_reducible repeat (first | apply Kd.V_alloc | apply Kd.V_drewN | apply Kd.V_drew)); exact HO1.out) (fun k_ hk_ => (⟨hk_, hk_.1.2⟩ : _ ∧ k_ ≠ g))) hk (fun _ h => h.2)) (fun _ h => h.1)); have n1_ := Aside0.mk (Kd.V_mono (Kd.V_keep (Kd.V_mono (ok := fun k_ => (((((P1_ k_ ∨ P2_3_ k_) ∨ w.heap.size ≤ k_)) ∧ k_ ≠ g) ∧ k_ ≠ gb330)) (by (with_reducible repeat (first | apply Kd.V_alloc | apply Kd.V_drewN | apply Kd.V_drew)); exact HO2_3.out) (fun k_ hk_ => (⟨hk_, hk_.1.2⟩ : _ ∧ k_ ≠ g))) hk (fun _ h => h.2)) (fun _ h => h.1)); have n2_ := Aside0.mk (KeepBut.blk hk (g' := gb330) (o := .cells #[.int .i64 a2_0, .string a2_1, .int .i64 a2_2, .slice A2_3 l2_3.length c2_3] 25 (0, 0)) (by (with_reducible repeat (first | refine blk_drewN ?_ _ | refine blk_drew ?_ | refine blk_alloc ?_ _)); exact BK330.out) NB330_0.out (by simp)); have n3_ := Aside0.mk (Kd.V_lower (Kd.V_mono (ok' := fun k_ => ((P1_ k_ ∨ P2_3_ k_) ∨ w.heap.size ≤ k_) ∧ k_ ≠ gb330 ∧ k_ ≠ g) ho0 (fun k_ hk_ => ⟨Or.elim hk_ (fun hs_ => Or.elim hs_ (fun hs_ => hs_.1.1) (fun hs_ => hs_.1.1)) (fun hn_ => (.inr (Nat.le_trans (keep_size (w := w) (g := g) (row := none) (by repeat (first | (with_reducible first | exact HK.out | apply KeepBut.set_ | apply keep_drewN | apply keep_drew | apply keep_alloc | refine keep_far ?_ GW330.out _) | exact HK.out))) hn_))), Or.elim hk_ (fun hs_ => Or.elim hs_ (fun hs_ => hs_.2) (fun hs_ => hs_.2)) (fun hn_ => (Kd.freshB (g := gb330) (o := .cells #[.int .i64 a2_0, .string a2_1, .int .i64 a2_2, .slice A2_3 l2_3.length c2_3] 25 (0, 0)) (by (with_reducible repeat (first | refine blk_drewN ?_ _ | refine blk_drew ?_ | refine blk_alloc ?_ _)); exact BK330.out) k_ hn_)), Or.elim hk_ (fun hs_ => Or.elim hs_ (fun hs_ => hs_.1.2) (fun hs_ => hs_.1.2)) (fun hn_ => (IsS54.fresh (by repeat (first | (with_reducible first | exact HI0.out | apply IsS54.alloc | apply IsS54.drewN | apply IsS54.drew | apply IsS54.set_0 | refine IsS54.far ?_ NB0_330.out _) | exact HI0.out)) k_ hn_))⟩)) (keep_size (w := w) (g := g) (row := none) (by repeat (first | (with_reducible first | exact HK.out | apply KeepBut.set_ | apply keep_drewN | apply keep_drew | apply keep_alloc | refine keep_far ?_ GW330.out _) | exact HK.out)))); have n4_ := Aside0.mk (KeepBut.trans (by repeat (first | (with_reducible first | exact HK.out | apply KeepBut.set_ | apply keep_drewN | apply keep_drew | apply keep_alloc | refine keep_far ?_ GW330.out _) | exact HK.out)) hk (.inl rfl)); have n5_ := Aside0.mk (hb); have n6_ := Aside0.mk (hi); clear HO1; clear HO2_3; clear BK330; clear HK; clear HB; clear HI0; have HO1 := n0_; have HO2_3 := n1_; have BK330 := n2_; have HO336 := n3_; have HK := n4_; have HB := n5_; have HI0 := n6_; clear n0_ n1_ n2_ n3_ n4_ n5_ n6_; (try clear hb); (try clear hb2); (try clear hk); (try clear hi); (try clear ho0); have hcz59_0 : w58.cell? ⟨gb330, 0, none⟩ = some (.int .i64 a2_0) := (blk_cell BK330.out 0).trans rfl; have hcz59_1 : w58.cell? ⟨gb330, 1, none⟩ = some (.string a2_1) := (blk_cell BK330.out 1).trans rfl; have hcz59_2 : w58.cell? ⟨gb330, 2, none⟩ = some (.int .i64 a2_2) := (blk_cell BK330.out 2).trans rfl; have hcz59_3 : w58.cell? ⟨gb330, 3, none⟩ = some (.slice A2_3 l2_3.length c2_3) := (blk_cell BK330.out 3).trans rfl; have hfz59_0 := blk_frozen BK330.out 0; have hfz59_1 := blk_frozen BK330.out 1; have hfz59_2 := blk_frozen BK330.out 2; have hfz59_3 := blk_frozen BK330.out 3; obtain ⟨Ao60, co60, eo60⟩ := Kd.V_slice HO336.out; subst eo60))
                (try simp only [Act.put, List.setIfInBounds_toArray, List.set_cons_zero, List.set_cons_succ])
                go_cut [] (fun wc => ∃ (kq : Nat), Aside0 (spinneyref11_eval.j1 kq l1 a3 t338 t331 t332 t333 t334 = some (r1, r2, r3)) ∧ Aside0 (kq ≤ k) ∧ Aside0 (Kd.V k45 45 wc w.heap.size (fun k_ => ((P1_ k_ ∨ P2_3_ k_) ∨ w.heap.size ≤ k_) ∧ k_ ≠ gb330 ∧ k_ ≠ g) (.slice A1 l1.length c1) l1) ∧ Aside0 (Kd.V k25 25 wc w.heap.size (fun k_ => ((P1_ k_ ∨ P2_3_ k_) ∨ w.heap.size ≤ k_) ∧ k_ ≠ gb330 ∧ k_ ≠ g) (.slice Ao60 t334.length co60) t334) ∧ Aside0 (wc.heap[gb330]? = some (.cells #[.int .i64 t331, .string t332, .int .i64 t333, (.slice Ao60 t334.length co60)] 25 (0, 0))) ∧ Aside0 (IsS54 w0 wc g t338) ∧ Aside0 (KeepBut w wc g none) ∧ Aside0 (Below w0.heap.size w0 wc))
                case first =>
                  have H := HC54.out
                  clear HC54
                  by_cases c61 : t332.toList = ([43] : List UInt8)
                  · rw [if_pos c61] at H
                    have c61b0 : (t332.toList == ([43] : List UInt8)) = true := beq_iff_eq.mpr c61
                    have c61b1 : (t332.toList != ([43] : List UInt8)) = false := bne_eq_false_iff_eq.mpr c61
                    clear c61
                    (first | rw [c61b0] | (simp only [i64_w, i32_w]; rw [c61b0]) | skip)
                    have H' := Aside0.mk H
                    clear H
                    go_wp2
                    go_meet
                    case rel => exact ⟨_, H', ⟨by first | omega | exact Nat.le_refl _⟩, ⟨by (with_reducible repeat (first | apply Kd.V_alloc | apply Kd.V_drewN | apply Kd.V_drew)); exact Kd.V_mono (Kd.V_far (p := ⟨gb330, 3, none⟩) (Kd.V_far (p := ⟨gb330, 2, none⟩) (Kd.V_far (p := ⟨gb330, 1, none⟩) (Kd.V_far (p := ⟨gb330, 0, none⟩) (Kd.V_mono HO1.out (fun k_ hk => (⟨hk, hk.2⟩ : _ ∧ k_ ≠ gb330))) (fun _ hk => hk.2) (.int .i64 t331)) (fun _ hk => hk.2) (.string t332)) (fun _ hk => hk.2) (.int .i64 t333)) (fun _ hk => hk.2) (.slice Ao60 t334.length co60)) (fun _ hk => ⟨hk.1.1.1, ⟨hk.1.2, hk.1.1.2⟩⟩)⟩, ⟨by (with_reducible repeat (first | apply Kd.V_alloc | apply Kd.V_drewN | apply Kd.V_drew)); exact Kd.V_mono (Kd.V_far (p := ⟨gb330, 3, none⟩) (Kd.V_far (p := ⟨gb330, 2, none⟩) (Kd.V_far (p := ⟨gb330, 1, none⟩) (Kd.V_far (p := ⟨gb330, 0, none⟩) (Kd.V_mono HO336.out (fun k_ hk => (⟨hk, hk.2.1⟩ : _ ∧ k_ ≠ gb330))) (fun _ hk => hk.2) (.int .i64 t331)) (fun _ hk => hk.2) (.string t332)) (fun _ hk => hk.2) (.int .i64 t333)) (fun _ hk => hk.2) (.slice Ao60 t334.length co60)) (fun _ hk => ⟨hk.1.1, ⟨hk.1.2.1, hk.1.2.2⟩⟩)⟩, ⟨by (with_reducible repeat (first | refine blk_drewN ?_ _ | refine blk_drew ?_ | refine blk_alloc ?_ _)); refine blk_put (cs := #[.int .i64 t331, .string t332, .int .i64 t333, .slice A2_3 l2_3.length c2_3]) ?_ 3 _ rfl; (with_reducible repeat (first | refine blk_drewN ?_ _ | refine blk_drew ?_ | refine blk_alloc ?_ _)); refine blk_put (cs := #[.int .i64 t331, .string t332, .int .i64 a2_2, .slice A2_3 l2_3.length c2_3]) ?_ 2 _ rfl; (with_reducible repeat (first | refine blk_drewN ?_ _ | refine blk_drew ?_ | refine blk_alloc ?_ _)); refine blk_put (cs := #[.int .i64 t331, .string a2_1, .int .i64 a2_2, .slice A2_3 l2_3.length c2_3]) ?_ 1 _ rfl; (with_reducible repeat (first | refine blk_drewN ?_ _ | refine blk_drew ?_ | refine blk_alloc ?_ _)); refine blk_put (cs := #[.int .i64 a2_0, .string a2_1, .int .i64 a2_2, .slice A2_3 l2_3.length c2_3]) ?_ 0 _ rfl; (with_reducible repeat (first | refine blk_drewN ?_ _ | refine blk_drew ?_ | refine blk_alloc ?_ _)); exact BK330.out⟩, ⟨by repeat (first | (with_reducible first | exact HI0.out | apply IsS54.alloc | apply IsS54.drewN | apply IsS54.drew | apply IsS54.set_0 | refine IsS54.far ?_ NB0_330.out _) | exact HI0.out)⟩, ⟨by repeat (first | (with_reducible first | exact HK.out | apply KeepBut.set_ | apply keep_drewN | apply keep_drew | apply keep_alloc | refine keep_far ?_ GW330.out _) | exact HK.out)⟩, ⟨by repeat (first | (with_reducible first | exact HB.out | apply below_alloc | apply pw_below_drewN | apply below_drew1 | refine below_set ?_ (IsS54.ge HI0.out) | refine below_set ?_ GE330.out) | exact HB.out)⟩⟩
                  · rw [if_neg c61] at H
                    have c61b0 : (t332.toList == ([43] : List UInt8)) = false := beq_eq_false_iff_ne.mpr c61
                    have c61b1 : (t332.toList != ([43] : List UInt8)) = true := bne_iff_ne.mpr c61
                    (first | rw [c61b0] | (simp only [i64_w, i32_w]; rw [c61b0]) | skip)
                    by_cases c62 : t332.toList = ([45] : List UInt8)
                    · rw [if_pos c62] at H
                      have c62b0 : (t332.toList == ([45] : List UInt8)) = true := beq_iff_eq.mpr c62
                      have c62b1 : (t332.toList != ([45] : List UInt8)) = false := bne_eq_false_iff_eq.mpr c62
                      clear c62
                      have H' := Aside0.mk H
                      clear H
                      go_wp2
                      go_meet
                      case rel => exact ⟨_, H', ⟨by first | omega | exact Nat.le_refl _⟩, ⟨by (with_reducible repeat (first | apply Kd.V_alloc | apply Kd.V_drewN | apply Kd.V_drew)); exact Kd.V_mono (Kd.V_far (p := ⟨gb330, 3, none⟩) (Kd.V_far (p := ⟨gb330, 2, none⟩) (Kd.V_far (p := ⟨gb330, 1, none⟩) (Kd.V_far (p := ⟨gb330, 0, none⟩) (Kd.V_mono HO1.out (fun k_ hk => (⟨hk, hk.2⟩ : _ ∧ k_ ≠ gb330))) (fun _ hk => hk.2) (.int .i64 t331)) (fun _ hk => hk.2) (.string t332)) (fun _ hk => hk.2) (.int .i64 t333)) (fun _ hk => hk.2) (.slice Ao60 t334.length co60)) (fun _ hk => ⟨hk.1.1.1, ⟨hk.1.2, hk.1.1.2⟩⟩)⟩, ⟨by (with_reducible repeat (first | apply Kd.V_alloc | apply Kd.V_drewN | apply Kd.V_drew)); exact Kd.V_mono (Kd.V_far (p := ⟨gb330, 3, none⟩) (Kd.V_far (p := ⟨gb330, 2, none⟩) (Kd.V_far (p := ⟨gb330, 1, none⟩) (Kd.V_far (p := ⟨gb330, 0, none⟩) (Kd.V_mono HO336.out (fun k_ hk => (⟨hk, hk.2.1⟩ : _ ∧ k_ ≠ gb330))) (fun _ hk => hk.2) (.int .i64 t331)) (fun _ hk => hk.2) (.string t332)) (fun _ hk => hk.2) (.int .i64 t333)) (fun _ hk => hk.2) (.slice Ao60 t334.length co60)) (fun _ hk => ⟨hk.1.1, ⟨hk.1.2.1, hk.1.2.2⟩⟩)⟩, ⟨by (with_reducible repeat (first | refine blk_drewN ?_ _ | refine blk_drew ?_ | refine blk_alloc ?_ _)); refine blk_put (cs := #[.int .i64 t331, .string t332, .int .i64 t333, .slice A2_3 l2_3.length c2_3]) ?_ 3 _ rfl; (with_reducible repeat (first | refine blk_drewN ?_ _ | refine blk_drew ?_ | refine blk_alloc ?_ _)); refine blk_put (cs := #[.int .i64 t331, .string t332, .int .i64 a2_2, .slice A2_3 l2_3.length c2_3]) ?_ 2 _ rfl; (with_reducible repeat (first | refine blk_drewN ?_ _ | refine blk_drew ?_ | refine blk_alloc ?_ _)); refine blk_put (cs := #[.int .i64 t331, .string a2_1, .int .i64 a2_2, .slice A2_3 l2_3.length c2_3]) ?_ 1 _ rfl; (with_reducible repeat (first | refine blk_drewN ?_ _ | refine blk_drew ?_ | refine blk_alloc ?_ _)); refine blk_put (cs := #[.int .i64 a2_0, .string a2_1, .int .i64 a2_2, .slice A2_3 l2_3.length c2_3]) ?_ 0 _ rfl; (with_reducible repeat (first | refine blk_drewN ?_ _ | refine blk_drew ?_ | refine blk_alloc ?_ _)); exact BK330.out⟩, ⟨by repeat (first | (with_reducible first | exact HI0.out | apply IsS54.alloc | apply IsS54.drewN | apply IsS54.drew | apply IsS54.set_0 | refine IsS54.far ?_ NB0_330.out _) | exact HI0.out)⟩, ⟨by repeat (first | (with_reducible first | exact HK.out | apply KeepBut.set_ | apply keep_drewN | apply keep_drew | apply keep_alloc | refine keep_far ?_ GW330.out _) | exact HK.out)⟩, ⟨by repeat (first | (with_reducible first | exact HB.out | apply below_alloc | apply pw_below_drewN | apply below_drew1 | refine below_set ?_ (IsS54.ge HI0.out) | refine below_set ?_ GE330.out) | exact HB.out)⟩⟩
                    · rw [if_neg c62] at H
                      have c62b0 : (t332.toList == ([45] : List UInt8)) = false := beq_eq_false_iff_ne.mpr c62
                      have c62b1 : (t332.toList != ([45] : List UInt8)) = true := bne_iff_ne.mpr c62
                      by_cases c63 : t332.toList = ([42] : List UInt8)
                      · rw [if_pos c63] at H
                        have c63b0 : (t332.toList == ([42] : List UInt8)) = true := beq_iff_eq.mpr c63
                        have c63b1 : (t332.toList != ([42] : List UInt8)) = false := bne_eq_false_iff_eq.mpr c63
                        clear c63
                        have H' := Aside0.mk H
                        clear H
                        go_wp2
                        go_meet
                        case rel => exact ⟨_, H', ⟨by first | omega | exact Nat.le_refl _⟩, ⟨by (with_reducible repeat (first | apply Kd.V_alloc | apply Kd.V_drewN | apply Kd.V_drew)); exact Kd.V_mono (Kd.V_far (p := ⟨gb330, 3, none⟩) (Kd.V_far (p := ⟨gb330, 2, none⟩) (Kd.V_far (p := ⟨gb330, 1, none⟩) (Kd.V_far (p := ⟨gb330, 0, none⟩) (Kd.V_mono HO1.out (fun k_ hk => (⟨hk, hk.2⟩ : _ ∧ k_ ≠ gb330))) (fun _ hk => hk.2) (.int .i64 t331)) (fun _ hk => hk.2) (.string t332)) (fun _ hk => hk.2) (.int .i64 t333)) (fun _ hk => hk.2) (.slice Ao60 t334.length co60)) (fun _ hk => ⟨hk.1.1.1, ⟨hk.1.2, hk.1.1.2⟩⟩)⟩, ⟨by (with_reducible repeat (first | apply Kd.V_alloc | apply Kd.V_drewN | apply Kd.V_drew)); exact Kd.V_mono (Kd.V_far (p := ⟨gb330, 3, none⟩) (Kd.V_far (p := ⟨gb330, 2, none⟩) (Kd.V_far (p := ⟨gb330, 1, none⟩) (Kd.V_far (p := ⟨gb330, 0, none⟩) (Kd.V_mono HO336.out (fun k_ hk => (⟨hk, hk.2.1⟩ : _ ∧ k_ ≠ gb330))) (fun _ hk => hk.2) (.int .i64 t331)) (fun _ hk => hk.2) (.string t332)) (fun _ hk => hk.2) (.int .i64 t333)) (fun _ hk => hk.2) (.slice Ao60 t334.length co60)) (fun _ hk => ⟨hk.1.1, ⟨hk.1.2.1, hk.1.2.2⟩⟩)⟩, ⟨by (with_reducible repeat (first | refine blk_drewN ?_ _ | refine blk_drew ?_ | refine blk_alloc ?_ _)); refine blk_put (cs := #[.int .i64 t331, .string t332, .int .i64 t333, .slice A2_3 l2_3.length c2_3]) ?_ 3 _ rfl; (with_reducible repeat (first | refine blk_drewN ?_ _ | refine blk_drew ?_ | refine blk_alloc ?_ _)); refine blk_put (cs := #[.int .i64 t331, .string t332, .int .i64 a2_2, .slice A2_3 l2_3.length c2_3]) ?_ 2 _ rfl; (with_reducible repeat (first | refine blk_drewN ?_ _ | refine blk_drew ?_ | refine blk_alloc ?_ _)); refine blk_put (cs := #[.int .i64 t331, .string a2_1, .int .i64 a2_2, .slice A2_3 l2_3.length c2_3]) ?_ 1 _ rfl; (with_reducible repeat (first | refine blk_drewN ?_ _ | refine blk_drew ?_ | refine blk_alloc ?_ _)); refine blk_put (cs := #[.int .i64 a2_0, .string a2_1, .int .i64 a2_2, .slice A2_3 l2_3.length c2_3]) ?_ 0 _ rfl; (with_reducible repeat (first | refine blk_drewN ?_ _ | refine blk_drew ?_ | refine blk_alloc ?_ _)); exact BK330.out⟩, ⟨by repeat (first | (with_reducible first | exact HI0.out | apply IsS54.alloc | apply IsS54.drewN | apply IsS54.drew | apply IsS54.set_0 | refine IsS54.far ?_ NB0_330.out _) | exact HI0.out)⟩, ⟨by repeat (first | (with_reducible first | exact HK.out | apply KeepBut.set_ | apply keep_drewN | apply keep_drew | apply keep_alloc | refine keep_far ?_ GW330.out _) | exact HK.out)⟩, ⟨by repeat (first | (with_reducible first | exact HB.out | apply below_alloc | apply pw_below_drewN | apply below_drew1 | refine below_set ?_ (IsS54.ge HI0.out) | refine below_set ?_ GE330.out) | exact HB.out)⟩⟩
                      · rw [if_neg c63] at H
                        have c63b0 : (t332.toList == ([42] : List UInt8)) = false := beq_eq_false_iff_ne.mpr c63
                        have c63b1 : (t332.toList != ([42] : List UInt8)) = true := bne_iff_ne.mpr c63
                        by_cases c64 : t332.toList = ([47, 47] : List UInt8)
                        · rw [if_pos c64] at H
                          have c64b0 : (t332.toList == ([47, 47] : List UInt8)) = true := beq_iff_eq.mpr c64
                          have c64b1 : (t332.toList != ([47, 47] : List UInt8)) = false := bne_eq_false_iff_eq.mpr c64
                          clear c64
                          have H' := Aside0.mk H
                          clear H
                          go_wp2
                          go_meet
                          case rel => exact ⟨_, H', ⟨by first | omega | exact Nat.le_refl _⟩, ⟨by (with_reducible repeat (first | apply Kd.V_alloc | apply Kd.V_drewN | apply Kd.V_drew)); exact Kd.V_mono (Kd.V_far (p := ⟨gb330, 3, none⟩) (Kd.V_far (p := ⟨gb330, 2, none⟩) (Kd.V_far (p := ⟨gb330, 1, none⟩) (Kd.V_far (p := ⟨gb330, 0, none⟩) (Kd.V_mono HO1.out (fun k_ hk => (⟨hk, hk.2⟩ : _ ∧ k_ ≠ gb330))) (fun _ hk => hk.2) (.int .i64 t331)) (fun _ hk => hk.2) (.string t332)) (fun _ hk => hk.2) (.int .i64 t333)) (fun _ hk => hk.2) (.slice Ao60 t334.length co60)) (fun _ hk => ⟨hk.1.1.1, ⟨hk.1.2, hk.1.1.2⟩⟩)⟩, ⟨by (with_reducible repeat (first | apply Kd.V_alloc | apply Kd.V_drewN | apply Kd.V_drew)); exact Kd.V_mono (Kd.V_far (p := ⟨gb330, 3, none⟩) (Kd.V_far (p := ⟨gb330, 2, none⟩) (Kd.V_far (p := ⟨gb330, 1, none⟩) (Kd.V_far (p := ⟨gb330, 0, none⟩) (Kd.V_mono HO336.out (fun k_ hk => (⟨hk, hk.2.1⟩ : _ ∧ k_ ≠ gb330))) (fun _ hk => hk.2) (.int .i64 t331)) (fun _ hk => hk.2) (.string t332)) (fun _ hk => hk.2) (.int .i64 t333)) (fun _ hk => hk.2) (.slice Ao60 t334.length co60)) (fun _ hk => ⟨hk.1.1, ⟨hk.1.2.1, hk.1.2.2⟩⟩)⟩, ⟨by (with_reducible repeat (first | refine blk_drewN ?_ _ | refine blk_drew ?_ | refine blk_alloc ?_ _)); refine blk_put (cs := #[.int .i64 t331, .string t332, .int .i64 t333, .slice A2_3 l2_3.length c2_3]) ?_ 3 _ rfl; (with_reducible repeat (first | refine blk_drewN ?_ _ | refine blk_drew ?_ | refine blk_alloc ?_ _)); refine blk_put (cs := #[.int .i64 t331, .string t332, .int .i64 a2_2, .slice A2_3 l2_3.length c2_3]) ?_ 2 _ rfl; (with_reducible repeat (first | refine blk_drewN ?_ _ | refine blk_drew ?_ | refine blk_alloc ?_ _)); refine blk_put (cs := #[.int .i64 t331, .string a2_1, .int .i64 a2_2, .slice A2_3 l2_3.length c2_3]) ?_ 1 _ rfl; (with_reducible repeat (first | refine blk_drewN ?_ _ | refine blk_drew ?_ | refine blk_alloc ?_ _)); refine blk_put (cs := #[.int .i64 a2_0, .string a2_1, .int .i64 a2_2, .slice A2_3 l2_3.length c2_3]) ?_ 0 _ rfl; (with_reducible repeat (first | refine blk_drewN ?_ _ | refine blk_drew ?_ | refine blk_alloc ?_ _)); exact BK330.out⟩, ⟨by repeat (first | (with_reducible first | exact HI0.out | apply IsS54.alloc | apply IsS54.drewN | apply IsS54.drew | apply IsS54.set_0 | refine IsS54.far ?_ NB0_330.out _) | exact HI0.out)⟩, ⟨by repeat (first | (with_reducible first | exact HK.out | apply KeepBut.set_ | apply keep_drewN | apply keep_drew | apply keep_alloc | refine keep_far ?_ GW330.out _) | exact HK.out)⟩, ⟨by repeat (first | (with_reducible first | exact HB.out | apply below_alloc | apply pw_below_drewN | apply below_drew1 | refine below_set ?_ (IsS54.ge HI0.out) | refine below_set ?_ GE330.out) | exact HB.out)⟩⟩
                        · rw [if_neg c64] at H
                          have c64b0 : (t332.toList == ([47, 47] : List UInt8)) = false := beq_eq_false_iff_ne.mpr c64
                          have c64b1 : (t332.toList != ([47, 47] : List UInt8)) = true := bne_iff_ne.mpr c64
                          by_cases c65 : t332.toList = ([114, 101, 109] : List UInt8)
                          · rw [if_pos c65] at H
                            have c65b0 : (t332.toList == ([114, 101, 109] : List UInt8)) = true := beq_iff_eq.mpr c65
                            have c65b1 : (t332.toList != ([114, 101, 109] : List UInt8)) = false := bne_eq_false_iff_eq.mpr c65
                            clear c65
                            have H' := Aside0.mk H
                            clear H
                            go_wp2
                            go_meet
                            case rel => exact ⟨_, H', ⟨by first | omega | exact Nat.le_refl _⟩, ⟨by (with_reducible repeat (first | apply Kd.V_alloc | apply Kd.V_drewN | apply Kd.V_drew)); exact Kd.V_mono (Kd.V_far (p := ⟨gb330, 3, none⟩) (Kd.V_far (p := ⟨gb330, 2, none⟩) (Kd.V_far (p := ⟨gb330, 1, none⟩) (Kd.V_far (p := ⟨gb330, 0, none⟩) (Kd.V_mono HO1.out (fun k_ hk => (⟨hk, hk.2⟩ : _ ∧ k_ ≠ gb330))) (fun _ hk => hk.2) (.int .i64 t331)) (fun _ hk => hk.2) (.string t332)) (fun _ hk => hk.2) (.int .i64 t333)) (fun _ hk => hk.2) (.slice Ao60 t334.length co60)) (fun _ hk => ⟨hk.1.1.1, ⟨hk.1.2, hk.1.1.2⟩⟩)⟩, ⟨by (with_reducible repeat (first | apply Kd.V_alloc | apply Kd.V_drewN | apply Kd.V_drew)); exact Kd.V_mono (Kd.V_far (p := ⟨gb330, 3, none⟩) (Kd.V_far (p := ⟨gb330, 2, none⟩) (Kd.V_far (p := ⟨gb330, 1, none⟩) (Kd.V_far (p := ⟨gb330, 0, none⟩) (Kd.V_mono HO336.out (fun k_ hk => (⟨hk, hk.2.1⟩ : _ ∧ k_ ≠ gb330))) (fun _ hk => hk.2) (.int .i64 t331)) (fun _ hk => hk.2) (.string t332)) (fun _ hk => hk.2) (.int .i64 t333)) (fun _ hk => hk.2) (.slice Ao60 t334.length co60)) (fun _ hk => ⟨hk.1.1, ⟨hk.1.2.1, hk.1.2.2⟩⟩)⟩, ⟨by (with_reducible repeat (first | refine blk_drewN ?_ _ | refine blk_drew ?_ | refine blk_alloc ?_ _)); refine blk_put (cs := #[.int .i64 t331, .string t332, .int .i64 t333, .slice A2_3 l2_3.length c2_3]) ?_ 3 _ rfl; (with_reducible repeat (first | refine blk_drewN ?_ _ | refine blk_drew ?_ | refine blk_alloc ?_ _)); refine blk_put (cs := #[.int .i64 t331, .string t332, .int .i64 a2_2, .slice A2_3 l2_3.length c2_3]) ?_ 2 _ rfl; (with_reducible repeat (first | refine blk_drewN ?_ _ | refine blk_drew ?_ | refine blk_alloc ?_ _)); refine blk_put (cs := #[.int .i64 t331, .string a2_1, .int .i64 a2_2, .slice A2_3 l2_3.length c2_3]) ?_ 1 _ rfl; (with_reducible repeat (first | refine blk_drewN ?_ _ | refine blk_drew ?_ | refine blk_alloc ?_ _)); refine blk_put (cs := #[.int .i64 a2_0, .string a2_1, .int .i64 a2_2, .slice A2_3 l2_3.length c2_3]) ?_ 0 _ rfl; (with_reducible repeat (first | refine blk_drewN ?_ _ | refine blk_drew ?_ | refine blk_alloc ?_ _)); exact BK330.out⟩, ⟨by repeat (first | (with_reducible first | exact HI0.out | apply IsS54.alloc | apply IsS54.drewN | apply IsS54.drew | apply IsS54.set_0 | refine IsS54.far ?_ NB0_330.out _) | exact HI0.out)⟩, ⟨by repeat (first | (with_reducible first | exact HK.out | apply KeepBut.set_ | apply keep_drewN | apply keep_drew | apply keep_alloc | refine keep_far ?_ GW330.out _) | exact HK.out)⟩, ⟨by repeat (first | (with_reducible first | exact HB.out | apply below_alloc | apply pw_below_drewN | apply below_drew1 | refine below_set ?_ (IsS54.ge HI0.out) | refine below_set ?_ GE330.out) | exact HB.out)⟩⟩
                          · rw [if_neg c65] at H
                            have c65b0 : (t332.toList == ([114, 101, 109] : List UInt8)) = false := beq_eq_false_iff_ne.mpr c65
                            have c65b1 : (t332.toList != ([114, 101, 109] : List UInt8)) = true := bne_iff_ne.mpr c65
                            by_cases c66 : t332.toList = ([109, 111, 100] : List UInt8)
                            · rw [if_pos c66] at H
                              have c66b0 : (t332.toList == ([109, 111, 100] : List UInt8)) = true := beq_iff_eq.mpr c66
                              have c66b1 : (t332.toList != ([109, 111, 100] : List UInt8)) = false := bne_eq_false_iff_eq.mpr c66
                              clear c66
                              have H' := Aside0.mk H
                              clear H
                              go_wp2
                              go_meet
                              case rel => exact ⟨_, H', ⟨by first | omega | exact Nat.le_refl _⟩, ⟨by (with_reducible repeat (first | apply Kd.V_alloc | apply Kd.V_drewN | apply Kd.V_drew)); exact Kd.V_mono (Kd.V_far (p := ⟨gb330, 3, none⟩) (Kd.V_far (p := ⟨gb330, 2, none⟩) (Kd.V_far (p := ⟨gb330, 1, none⟩) (Kd.V_far (p := ⟨gb330, 0, none⟩) (Kd.V_mono HO1.out (fun k_ hk => (⟨hk, hk.2⟩ : _ ∧ k_ ≠ gb330))) (fun _ hk => hk.2) (.int .i64 t331)) (fun _ hk => hk.2) (.string t332)) (fun _ hk => hk.2) (.int .i64 t333)) (fun _ hk => hk.2) (.slice Ao60 t334.length co60)) (fun _ hk => ⟨hk.1.1.1, ⟨hk.1.2, hk.1.1.2⟩⟩)⟩, ⟨by (with_reducible repeat (first | apply Kd.V_alloc | apply Kd.V_drewN | apply Kd.V_drew)); exact Kd.V_mono (Kd.V_far (p := ⟨gb330, 3, none⟩) (Kd.V_far (p := ⟨gb330, 2, none⟩) (Kd.V_far (p := ⟨gb330, 1, none⟩) (Kd.V_far (p := ⟨gb330, 0, none⟩) (Kd.V_mono HO336.out (fun k_ hk => (⟨hk, hk.2.1⟩ : _ ∧ k_ ≠ gb330))) (fun _ hk => hk.2) (.int .i64 t331)) (fun _ hk => hk.2) (.string t332)) (fun _ hk => hk.2) (.int .i64 t333)) (fun _ hk => hk.2) (.slice Ao60 t334.length co60)) (fun _ hk => ⟨hk.1.1, ⟨hk.1.2.1, hk.1.2.2⟩⟩)⟩, ⟨by (with_reducible repeat (first | refine blk_drewN ?_ _ | refine blk_drew ?_ | refine blk_alloc ?_ _)); refine blk_put (cs := #[.int .i64 t331, .string t332, .int .i64 t333, .slice A2_3 l2_3.length c2_3]) ?_ 3 _ rfl; (with_reducible repeat (first | refine blk_drewN ?_ _ | refine blk_drew ?_ | refine blk_alloc ?_ _)); refine blk_put (cs := #[.int .i64 t331, .string t332, .int .i64 a2_2, .slice A2_3 l2_3.length c2_3]) ?_ 2 _ rfl; (with_reducible repeat (first | refine blk_drewN ?_ _ | refine blk_drew ?_ | refine blk_alloc ?_ _)); refine blk_put (cs := #[.int .i64 t331, .string a2_1, .int .i64 a2_2, .slice A2_3 l2_3.length c2_3]) ?_ 1 _ rfl; (with_reducible repeat (first | refine blk_drewN ?_ _ | refine blk_drew ?_ | refine blk_alloc ?_ _)); refine blk_put (cs := #[.int .i64 a2_0, .string a2_1, .int .i64 a2_2, .slice A2_3 l2_3.length c2_3]) ?_ 0 _ rfl; (with_reducible repeat (first | refine blk_drewN ?_ _ | refine blk_drew ?_ | refine blk_alloc ?_ _)); exact BK330.out⟩, ⟨by repeat (first | (with_reducible first | exact HI0.out | apply IsS54.alloc | apply IsS54.drewN | apply IsS54.drew | apply IsS54.set_0 | refine IsS54.far ?_ NB0_330.out _) | exact HI0.out)⟩, ⟨by repeat (first | (with_reducible first | exact HK.out | apply KeepBut.set_ | apply keep_drewN | apply keep_drew | apply keep_alloc | refine keep_far ?_ GW330.out _) | exact HK.out)⟩, ⟨by repeat (first | (with_reducible first | exact HB.out | apply below_alloc | apply pw_below_drewN | apply below_drew1 | refine below_set ?_ (IsS54.ge HI0.out) | refine below_set ?_ GE330.out) | exact HB.out)⟩⟩
                            · rw [if_neg c66] at H
                              have c66b0 : (t332.toList == ([109, 111, 100] : List UInt8)) = false := beq_eq_false_iff_ne.mpr c66
                              have c66b1 : (t332.toList != ([109, 111, 100] : List UInt8)) = true := bne_iff_ne.mpr c66
                              simp only [Option.some.injEq, Prod.mk.injEq] at H
                              obtain ⟨rfl, rfl, rfl⟩ := H
                              go_wp2
                              go_ret2
                              exact ⟨by first | rfl | (simp [errW_none, errW_some] <;> rfl) | (simp [*, errW_none, errW_some] <;> rfl), by repeat (first | (with_reducible first | exact HI0.out | apply IsS54.alloc | apply IsS54.drewN | apply IsS54.drew | apply IsS54.set_0 | refine IsS54.far ?_ NB0_330.out _) | exact HI0.out), by repeat (first | (with_reducible first | exact HB.out | apply below_alloc | apply pw_below_drewN | apply below_drew1 | refine below_set ?_ (IsS54.ge HI0.out) | refine below_set ?_ GE330.out) | exact HB.out), by repeat (first | (with_reducible first | exact HK.out | apply KeepBut.set_ | apply keep_drewN | apply keep_drew | apply keep_alloc | refine keep_far ?_ GW330.out _) | exact HK.out)⟩
                case rest =>
                  clear HC54
                  try clear c1
                  try clear c2
                  try clear p2
                  try clear c3
                  try clear p3
                  try clear q3
                  try clear hx3
                  try clear qi3
                  try clear c4
                  try clear c5
                  try clear c5b0
                  try clear c6
                  try clear p6
                  try clear c8
                  try clear c8b0
                  try clear c8b1
                  try clear c9
                  try clear c9b0
                  try clear c9b1
                  try clear c11
                  try clear c16
                  try clear c16b0
                  try clear c16b1
                  try clear c18
                  try clear c23
                  try clear c23b0
                  try clear c23b1
                  try clear c24
                  try clear c24b0
                  try clear c24b1
                  try clear c25
                  try clear c27
                  try clear c31
                  try clear c32
                  try clear c32b0
                  try clear c32b1
                  try clear c33
                  try clear p33
                  try clear q33
                  try clear hx33
                  try clear qi33
                  try clear c35
                  try clear c35b0
                  try clear c35b1
                  try clear c36
                  try clear c38
                  try clear c40
                  try clear c41
                  try clear c41b0
                  try clear c41b1
                  try clear c43
                  try clear c43b0
                  try clear c43b1
                  try clear c46
                  try clear c50
                  try clear c53
                  try clear c53b0
                  try clear c53b1
                  try clear c56
                  try clear c61
                  try clear c61b0
                  try clear c61b1
                  try clear c62
                  try clear c62b0
                  try clear c62b1
                  try clear c63
                  try clear c63b0
                  try clear c63b1
                  try clear c64
                  try clear c64b0
                  try clear c64b1
                  try clear p64
                  try clear c65
                  try clear c65b0
                  try clear c65b1
                  try clear c66
                  try clear c66b0
                  try clear c66b1
                  try clear hcz12_0
                  try clear hcz12_1
                  try clear hcz12_2
                  try clear hcz12_3
                  try clear hcz14_0
                  try clear hcz14_1
                  try clear hcz14_2
                  try clear hcz14_3
                  try clear hcz19_0
                  try clear hcz19_1
                  try clear hcz19_2
                  try clear hcz19_3
                  try clear hcz21_0
                  try clear hcz21_1
                  try clear hcz21_2
                  try clear hcz21_3
                  try clear hcz28_0
                  try clear hcz28_1
                  try clear hcz28_2
                  try clear hcz28_3
                  try clear hcz30_0
                  try clear hcz30_1
                  try clear hcz30_2
                  try clear hcz30_3
                  try clear hcz34_0
                  try clear hcz34_1
                  try clear hcz34_2
                  try clear hcz34_3
                  try clear hcz37_0
                  try clear hcz37_1
                  try clear hcz37_2
                  try clear hcz37_3
                  try clear hcz39_0
                  try clear hcz39_1
                  try clear hcz39_2
                  try clear hcz39_3
                  try clear hcz47_0
                  try clear hcz47_1
                  try clear hcz47_2
                  try clear hcz47_3
                  try clear hcz49_0
                  try clear hcz49_1
                  try clear hcz49_2
                  try clear hcz49_3
                  try clear hcz51_0
                  try clear hcz51_1
                  try clear hcz51_2
                  try clear hcz51_3
                  try clear hcz57_0
                  try clear hcz57_1
                  try clear hcz57_2
                  try clear hcz57_3
                  try clear hcz59_0
                  try clear hcz59_1
                  try clear hcz59_2
                  try clear hcz59_3
                  try clear hfz12_0
                  try clear hfz12_1
                  try clear hfz12_2
                  try clear hfz12_3
                  try clear hfz14_0
                  try clear hfz14_1
                  try clear hfz14_2
                  try clear hfz14_3
                  try clear hfz19_0
                  try clear hfz19_1
                  try clear hfz19_2
                  try clear hfz19_3
                  try clear hfz21_0
                  try clear hfz21_1
                  try clear hfz21_2
                  try clear hfz21_3
                  try clear hfz28_0
                  try clear hfz28_1
                  try clear hfz28_2
                  try clear hfz28_3
                  try clear hfz30_0
                  try clear hfz30_1
                  try clear hfz30_2
                  try clear hfz30_3
                  try clear hfz34_0
                  try clear hfz34_1
                  try clear hfz34_2
                  try clear hfz34_3
                  try clear hfz37_0
                  try clear hfz37_1
                  try clear hfz37_2
                  try clear hfz37_3
                  try clear hfz39_0
                  try clear hfz39_1
                  try clear hfz39_2
                  try clear hfz39_3
                  try clear hfz47_0
                  try clear hfz47_1
                  try clear hfz47_2
                  try clear hfz47_3
                  try clear hfz49_0
                  try clear hfz49_1
                  try clear hfz49_2
                  try clear hfz49_3
                  try clear hfz51_0
                  try clear hfz51_1
                  try clear hfz51_2
                  try clear hfz51_3
                  try clear hfz57_0
                  try clear hfz57_1
                  try clear hfz57_2
                  try clear hfz57_3
                  try clear hfz59_0
                  try clear hfz59_1
                  try clear hfz59_2
                  try clear hfz59_3
                  try clear hx339_0
                  try clear hx339_1
                  try clear hx339_2
                  try clear hx339_3
                  try clear p2
                  try clear p339
                  try clear q339
                  obtain ⟨kq, HA, HJ53, HO_1, HO_331003, BK330, HI0, HK, HB⟩ := hcut
                  cases kq with
                  | zero => exact absurd HA.out (by simp [spinneyref11_eval.j1])
                  | succ kj53 =>
                    have H := HA.out
                    clear HA
                    simp only [spinneyref11_eval.j1] at H
                    by_cases c67 : 0 < (t334.length : Int)
                    · rw [if_pos c67] at H
                      have c67b0 : decide (0 < (t334.length : Int)) = true := decide_eq_true c67
                      have c67b1 : decide (0 < t334.length) = true := decide_eq_true (by omega)
                      clear c67
                      replace H := Option.bind_eq_some_iff.mp H
                      obtain ⟨⟨t348, t349, t350⟩, A680, H⟩ := H
                      replace H : (if t349 = 0 then (if 1 < (t334.length : Int) then ((spinneyref11_eval.f kj53 t350 l1 ((rd_T25 t334 1).f0) ((rd_T25 t334 1).f1) ((rd_T25 t334 1).f2) ((rd_T25 t334 1).f3) (wrap64 (a3 + 1))).bind fun bt352 => (if bt352.2.1 = 0 then ((spinneyref11_two.f kj53 t332 t348 bt352.1).bind fun bt355 => ((spinneyref11_told.f bt355.1 bt355.2).bind fun bt357 => (some (bt357.1, bt357.2, bt352.2.2)))) else (some (0, bt352.2.1, bt352.2.2)))) else (none)) else (some (0, t349, t350))) = some (r1, r2, r3) := H
                      have A68 := Aside0.mk A680
                      clear A680
                      by_cases c69 : t349 = 0
                      · rw [if_pos c69] at H
                        have c69b0 : (t349 == 0) = true := beq_iff_eq.mpr c69
                        have c69b1 : (t349 != 0) = false := bne_eq_false_iff_eq.mpr c69
                        clear c69
                        by_cases c70 : 1 < (t334.length : Int)
                        · rw [if_pos c70] at H
                          have c70b0 : decide (1 < (t334.length : Int)) = true := decide_eq_true c70
                          have c70b1 : decide (1 < t334.length) = true := decide_eq_true (by omega)
                          clear c70
                          replace H := Option.bind_eq_some_iff.mp H
                          obtain ⟨⟨t352, t353, t354⟩, A710, H⟩ := H
                          replace H : (if t353 = 0 then ((spinneyref11_two.f kj53 t332 t348 t352).bind fun bt355 => ((spinneyref11_told.f bt355.1 bt355.2).bind fun bt357 => (some (bt357.1, bt357.2, t354)))) else (some (0, t353, t354))) = some (r1, r2, r3) := H
                          have A71 := Aside0.mk A710
                          clear A710
                          by_cases c72 : t353 = 0
                          · rw [if_pos c72] at H
                            have c72b0 : (t353 == 0) = true := beq_iff_eq.mpr c72
                            have c72b1 : (t353 != 0) = false := bne_eq_false_iff_eq.mpr c72
                            clear c72
                            replace H := Option.bind_eq_some_iff.mp H
                            obtain ⟨⟨t355, t356⟩, A730, H⟩ := H
                            replace H : ((spinneyref11_told.f t355 t356).bind fun bt357 => (some (bt357.1, bt357.2, t354))) = some (r1, r2, r3) := H
                            have A73 := Aside0.mk A730
                            clear A730
                            replace H := Option.bind_eq_some_iff.mp H
                            obtain ⟨⟨t357, t358⟩, A740, H⟩ := H
                            replace H : (some (t357, t358, t354)) = some (r1, r2, r3) := H
                            have A74 := Aside0.mk A740
                            clear A740
                            simp only [Option.some.injEq, Prod.mk.injEq] at H
                            obtain ⟨rfl, rfl, rfl⟩ := H
                            have hnb75 := NB330_0.out
                            have hnc75 := NB0_330.out
                            have hcz76_0 : wc.cell? ⟨gb330, 0, none⟩ = some (.int .i64 t331) := (blk_cell BK330.out 0).trans rfl
                            have hcz76_1 : wc.cell? ⟨gb330, 1, none⟩ = some (.string t332) := (blk_cell BK330.out 1).trans rfl
                            have hcz76_2 : wc.cell? ⟨gb330, 2, none⟩ = some (.int .i64 t333) := (blk_cell BK330.out 2).trans rfl
                            have hcz76_3 : wc.cell? ⟨gb330, 3, none⟩ = some (.slice Ao60 t334.length co60) := (blk_cell BK330.out 3).trans rfl
                            have hfz76_0 := blk_frozen BK330.out 0
                            have hfz76_1 := blk_frozen BK330.out 1
                            have hfz76_2 := blk_frozen BK330.out 2
                            have hfz76_3 := blk_frozen BK330.out 3
                            have p347 : 0 ≤ (0 : Int) := (by omega)
                            have q347 : 0 < (t334.length : Int) := of_decide_eq_true (by first | (with_reducible assumption) | assumption)
                            obtain ⟨ad347, A347_3, c347_3, e347, hx347_0, hx347_1, hx347_2, hx347_3, hl347_3, hi347_3⟩ := at_T25 (Kd.V_reads' HO_331003.out).2.2 0 p347 q347
                            cases e347
                            obtain ⟨ce347, hce347, hMe347, hcc347⟩ := Kd.V_get HO_331003.out z25 0 p347 (by first | exact q347 | exact of_decide_eq_true (by first | (with_reducible assumption) | assumption) | (have e_ := (Kd.V_reads' HO_331003.out).1; omega))
                            obtain ⟨ua347_3, uc347_3, rfl, ul347_3, ge347_3⟩ := k25_openF hMe347
                            have hv347_3 := hcc347 3 _ rfl
                            rw [add_field _ _ 3 (by omega)] at hv347_3
                            replace hv347_3 := Option.some.inj (hv347_3.symm.trans hx347_3)
                            injection hv347_3 with hva_ hvn_ hvc_
                            rw [hva_] at ge347_3
                            rw [hvc_] at ul347_3
                            have HL347_3 := Aside0.mk (show Kd.V k25 25 _ w.heap.size _ _ ((rd_T25 t334 0).f3) from Kd.V_mk ul347_3 ge347_3)
                            clear hva_ hvn_ hvc_ ge347_3 ul347_3
                            clear hcc347 hce347
                            have qi347 : (0 < t334.length) = True := eq_true (by omega)
                            (try rw [show ((0 : Int)).toNat = 0 from rfl] at hx347_0)
                            (try rw [show 0 * 4 = 0 from rfl] at hx347_0)
                            (try rw [Addr.add_zero'] at hx347_0)
                            (try rw [show ((0 : Int)).toNat = 0 from rfl] at hx347_1)
                            (try rw [show 0 * 4 = 0 from rfl] at hx347_1)
                            (try rw [Addr.add_zero'] at hx347_1)
                            (try rw [show ((0 : Int)).toNat = 0 from rfl] at hx347_2)
                            (try rw [show 0 * 4 = 0 from rfl] at hx347_2)
                            (try rw [Addr.add_zero'] at hx347_2)
                            (try rw [show ((0 : Int)).toNat = 0 from rfl] at hx347_3)
                            (try rw [show 0 * 4 = 0 from rfl] at hx347_3)
                            (try rw [Addr.add_zero'] at hx347_3)
                            have HR347_3 := Aside0.mk hi347_3
                            have HC347_3 := Aside0.mk hl347_3
                            clear hi347_3 hl347_3
                            replace p347 := eq_true p347
                            replace q347 := eq_true q347
                            go_wp2_with (first | ((with_reducible refine gate_callee (f := 25) rfl ?_); refine goesL_ (some 105) rfl rfl Try.func25 (by kernel_rfl) rfl #[.pointer (some ⟨g, 0, none⟩), .slice A1 l1.length c1, .agg #[.int .i64 ((rd_T25 t334 0).f0), .string ((rd_T25 t334 0).f1), .int .i64 ((rd_T25 t334 0).f2), .slice A347_3 ((rd_T25 t334 0).f3).length c347_3], .int .i64 (wrap64 (a3 + 1))] rfl (by (try simp only [List.map_toArray, List.map_cons, List.map_nil]); first | done | rfl | (simp only [List.length_drop, List.length_take]; rfl)) ?_; (with_reducible refine (ih kj53 (by have := HJ53.out; omega) g t338 (fun k_ => (((P1_ k_ ∨ P2_3_ k_) ∨ w.heap.size ≤ k_) ∧ (k_ ≠ gb330 ∧ k_ ≠ g))) _ _ l1 ((rd_T25 t334 0).f0) ((rd_T25 t334 0).f1) ((rd_T25 t334 0).f2) (fun k_ => (((P1_ k_ ∨ P2_3_ k_) ∨ w.heap.size ≤ k_) ∧ (k_ ≠ gb330 ∧ k_ ≠ g))) _ _ ((rd_T25 t334 0).f3) (wrap64 (a3 + 1)) t348 t349 t350 w0 _ ?side1 ?side2 ?side3 ?side4 A68.out).mono ?_); (case side1 => repeat (first | (with_reducible first | exact HI0.out | apply IsS54.alloc | apply IsS54.drewN | apply IsS54.drew | apply IsS54.set_0 | refine IsS54.far ?_ NB0_330.out _) | exact HI0.out)); (case side2 => repeat (first | (with_reducible first | exact HB.out | apply below_alloc | apply pw_below_drewN | apply below_drew1 | refine below_set ?_ (IsS54.ge HI0.out) | refine below_set ?_ GE330.out) | exact HB.out)); (case side3 => exact Kd.V_mono (HO_1.out) (fun k_ hk_ => ⟨hk_, hk_.2.2⟩)); (case side4 => exact Kd.V_mono (HL347_3.out) (fun k_ hk_ => ⟨hk_, hk_.2.2⟩)); rintro e w77 ⟨rfl, hi, hb, hk⟩; refine ⟨_, rfl, ?_⟩; have n0_ := Aside0.mk (Kd.V_mono (Kd.V_keep (Kd.V_mono (ok := fun k_ => ((((P1_ k_ ∨ P2_3_ k_) ∨ w.heap.size ≤ k_)) ∧ (k_ ≠ gb330 ∧ k_ ≠ g))) (by (with_reducible repeat (first | apply Kd.V_alloc | apply Kd.V_drewN | apply Kd.V_drew)); exact HO_1.out) (fun k_ hk_ => (⟨hk_, hk_.2.2⟩ : _ ∧ k_ ≠ g))) hk (fun _ h => h.2)) (fun _ h => h.1)); have n1_ := Aside0.mk (Kd.V_mono (Kd.V_keep (Kd.V_mono (ok := fun k_ => ((((P1_ k_ ∨ P2_3_ k_) ∨ w.heap.size ≤ k_)) ∧ (k_ ≠ gb330 ∧ k_ ≠ g))) (by (with_reducible repeat (first | apply Kd.V_alloc | apply Kd.V_drewN | apply Kd.V_drew)); exact HO_331003.out) (fun k_ hk_ => (⟨hk_, hk_.2.2⟩ : _ ∧ k_ ≠ g))) hk (fun _ h => h.2)) (fun _ h => h.1)); have n2_ := Aside0.mk (KeepBut.blk hk (g' := gb330) (o := .cells #[.int .i64 t331, .string t332, .int .i64 t333, .slice (some ad347) t334.length co60] 25 (0, 0)) (by (with_reducible repeat (first | refine blk_drewN ?_ _ | refine blk_drew ?_ | refine blk_alloc ?_ _)); exact BK330.out) NB330_0.out (by simp)); have n3_ := Aside0.mk (Kd.V_mono (Kd.V_keep (Kd.V_mono (ok := fun k_ => ((((P1_ k_ ∨ P2_3_ k_) ∨ w.heap.size ≤ k_)) ∧ (k_ ≠ gb330 ∧ k_ ≠ g))) (by (with_reducible repeat (first | apply Kd.V_alloc | apply Kd.V_drewN | apply Kd.V_drew)); exact HL347_3.out) (fun k_ hk_ => (⟨hk_, hk_.2.2⟩ : _ ∧ k_ ≠ g))) hk (fun _ h => h.2)) (fun _ h => h.1)); have n4_ := Aside0.mk (KeepBut.trans (by repeat (first | (with_reducible first | exact HK.out | apply KeepBut.set_ | apply keep_drewN | apply keep_drew | apply keep_alloc | refine keep_far ?_ GW330.out _) | exact HK.out)) hk (.inl rfl)); have n5_ := Aside0.mk (hb); have n6_ := Aside0.mk (hi); clear HO_1; clear HO_331003; clear BK330; clear HL347_3; clear HK; clear HB; clear HI0; have HO_1 := n0_; have HO_331003 := n1_; have BK330 := n2_; have HL347_3 := n3_; have HK := n4_; have HB := n5_; have HI0 := n6_; clear n0_ n1_ n2_ n3_ n4_ n5_ n6_; (try clear hb); (try clear hb2); (try clear hk); (try clear hi); have hcz78_0 : w77.cell? ⟨gb330, 0, none⟩ = some (.int .i64 t331) := (blk_cell BK330.out 0).trans rfl; have hcz78_1 : w77.cell? ⟨gb330, 1, none⟩ = some (.string t332) := (blk_cell BK330.out 1).trans rfl; have hcz78_2 : w77.cell? ⟨gb330, 2, none⟩ = some (.int .i64 t333) := (blk_cell BK330.out 2).trans rfl; have hcz78_3 : w77.cell? ⟨gb330, 3, none⟩ = some (.slice (some ad347) t334.length co60) := (blk_cell BK330.out 3).trans rfl; have hfz78_0 := blk_frozen BK330.out 0; have hfz78_1 := blk_frozen BK330.out 1; have hfz78_2 := blk_frozen BK330.out 2; have hfz78_3 := blk_frozen BK330.out 3; have p351 : 0 ≤ (1 : Int) := (by omega); have q351 : 1 < (t334.length : Int) := of_decide_eq_true (by first | (with_reducible assumption) | assumption); obtain ⟨ad351, A351_3, c351_3, e351, hx351_0, hx351_1, hx351_2, hx351_3, hl351_3, hi351_3⟩ := at_T25 (Kd.V_reads' HO_331003.out).2.2 1 p351 q351; obtain rfl : ad347 = ad351 := (by injection e351); obtain ⟨ce351, hce351, hMe351, hcc351⟩ := Kd.V_get HO_331003.out z25 1 p351 (by first | exact q351 | exact of_decide_eq_true (by first | (with_reducible assumption) | assumption) | (have e_ := (Kd.V_reads' HO_331003.out).1; omega)); obtain ⟨ua351_3, uc351_3, rfl, ul351_3, ge351_3⟩ := k25_openF hMe351; have hv351_3 := hcc351 3 _ rfl; rw [add_field _ _ 3 (by omega)] at hv351_3; replace hv351_3 := Option.some.inj (hv351_3.symm.trans hx351_3); injection hv351_3 with hva_ hvn_ hvc_; rw [hva_] at ge351_3; rw [hvc_] at ul351_3; have HL351_3 := Aside0.mk (show Kd.V k25 25 _ w.heap.size _ _ ((rd_T25 t334 1).f3) from Kd.V_mk ul351_3 ge351_3); clear hva_ hvn_ hvc_ ge351_3 ul351_3; clear hcc351 hce351; (try simp only [show (1 : Int).toNat = 1 from rfl, Nat.reduceMul, Nat.reduceEqDiff, Go.Addr.add, ↓reduceIte] at hx351_0); (try simp only [show (1 : Int).toNat = 1 from rfl, Nat.reduceMul, Nat.reduceEqDiff, Go.Addr.add, ↓reduceIte] at hx351_1); (try simp only [show (1 : Int).toNat = 1 from rfl, Nat.reduceMul, Nat.reduceEqDiff, Go.Addr.add, ↓reduceIte] at hx351_2); (try simp only [show (1 : Int).toNat = 1 from rfl, Nat.reduceMul, Nat.reduceEqDiff, Go.Addr.add, ↓reduceIte] at hx351_3); have qi351 : (1 < t334.length) = True := eq_true (by omega); (try rw [show ((1 : Int)).toNat = 1 from rfl] at hx351_0); (try rw [show 1 * 4 = 4 from rfl] at hx351_0); (try rw [show ((1 : Int)).toNat = 1 from rfl] at hx351_1); (try rw [show 1 * 4 = 4 from rfl] at hx351_1); (try rw [show ((1 : Int)).toNat = 1 from rfl] at hx351_2); (try rw [show 1 * 4 = 4 from rfl] at hx351_2); (try rw [show ((1 : Int)).toNat = 1 from rfl] at hx351_3); (try rw [show 1 * 4 = 4 from rfl] at hx351_3); have HR351_3 := Aside0.mk hi351_3; have HC351_3 := Aside0.mk hl351_3; clear hi351_3 hl351_3; replace p351 := eq_true p351; replace q351 := eq_true q351) | ((with_reducible refine gate_callee (f := 25) rfl ?_); refine goesL_ (some 120) rfl rfl Try.func25 (by kernel_rfl) rfl #[.pointer (some ⟨g, 0, none⟩), .slice A1 l1.length c1, .agg #[.int .i64 ((rd_T25 t334 1).f0), .string ((rd_T25 t334 1).f1), .int .i64 ((rd_T25 t334 1).f2), .slice A351_3 ((rd_T25 t334 1).f3).length c351_3], .int .i64 (wrap64 (a3 + 1))] rfl (by (try simp only [List.map_toArray, List.map_cons, List.map_nil]); first | done | rfl | (simp only [List.length_drop, List.length_take]; rfl)) ?_; (with_reducible refine (ih kj53 (by have := HJ53.out; omega) g t350 (fun k_ => (((P1_ k_ ∨ P2_3_ k_) ∨ w.heap.size ≤ k_) ∧ (k_ ≠ gb330 ∧ k_ ≠ g))) _ _ l1 ((rd_T25 t334 1).f0) ((rd_T25 t334 1).f1) ((rd_T25 t334 1).f2) (fun k_ => (((P1_ k_ ∨ P2_3_ k_) ∨ w.heap.size ≤ k_) ∧ (k_ ≠ gb330 ∧ k_ ≠ g))) _ _ ((rd_T25 t334 1).f3) (wrap64 (a3 + 1)) t352 t353 t354 w0 _ ?side1 ?side2 ?side3 ?side4 A71.out).mono ?_); (case side1 => repeat (first | (with_reducible first | exact HI0.out | apply IsS54.alloc | apply IsS54.drewN | apply IsS54.drew | apply IsS54.set_0 | refine IsS54.far ?_ NB0_330.out _) | exact HI0.out)); (case side2 => repeat (first | (with_reducible first | exact HB.out | apply below_alloc | apply pw_below_drewN | apply below_drew1 | refine below_set ?_ (IsS54.ge HI0.out) | refine below_set ?_ GE330.out) | exact HB.out)); (case side3 => exact Kd.V_mono (HO_1.out) (fun k_ hk_ => ⟨hk_, hk_.2.2⟩)); (case side4 => exact Kd.V_mono (HL351_3.out) (fun k_ hk_ => ⟨hk_, hk_.2.2⟩)); rintro e w79 ⟨rfl, hi, hb, hk⟩; refine ⟨_, rfl, ?_⟩; have n0_ := Aside0.mk (Kd.V_mono (Kd.V_keep (Kd.V_mono (ok := fun k_ => ((((P1_ k_ ∨ P2_3_ k_) ∨ w.heap.size ≤ k_)) ∧ (k_ ≠ gb330 ∧ k_ ≠ g))) (by (with_reducible repeat (first | apply Kd.V_alloc | apply Kd.V_drewN | apply Kd.V_drew)); exact HO_1.out) (fun k_ hk_ => (⟨hk_, hk_.2.2⟩ : _ ∧ k_ ≠ g))) hk (fun _ h => h.2)) (fun _ h => h.1)); have n1_ := Aside0.mk (Kd.V_mono (Kd.V_keep (Kd.V_mono (ok := fun k_ => ((((P1_ k_ ∨ P2_3_ k_) ∨ w.heap.size ≤ k_)) ∧ (k_ ≠ gb330 ∧ k_ ≠ g))) (by (with_reducible repeat (first | apply Kd.V_alloc | apply Kd.V_drewN | apply Kd.V_drew)); exact HO_331003.out) (fun k_ hk_ => (⟨hk_, hk_.2.2⟩ : _ ∧ k_ ≠ g))) hk (fun _ h => h.2)) (fun _ h => h.1)); have n2_ := Aside0.mk (KeepBut.blk hk (g' := gb330) (o := .cells #[.int .i64 t331, .string t332, .int .i64 t333, .slice (some ad347) t334.length co60] 25 (0, 0)) (by (with_reducible repeat (first | refine blk_drewN ?_ _ | refine blk_drew ?_ | refine blk_alloc ?_ _)); exact BK330.out) NB330_0.out (by simp)); have n3_ := Aside0.mk (Kd.V_mono (Kd.V_keep (Kd.V_mono (ok := fun k_ => ((((P1_ k_ ∨ P2_3_ k_) ∨ w.heap.size ≤ k_)) ∧ (k_ ≠ gb330 ∧ k_ ≠ g))) (by (with_reducible repeat (first | apply Kd.V_alloc | apply Kd.V_drewN | apply Kd.V_drew)); exact HL347_3.out) (fun k_ hk_ => (⟨hk_, hk_.2.2⟩ : _ ∧ k_ ≠ g))) hk (fun _ h => h.2)) (fun _ h => h.1)); have n4_ := Aside0.mk (Kd.V_mono (Kd.V_keep (Kd.V_mono (ok := fun k_ => ((((P1_ k_ ∨ P2_3_ k_) ∨ w.heap.size ≤ k_)) ∧ (k_ ≠ gb330 ∧ k_ ≠ g))) (by (with_reducible repeat (first | apply Kd.V_alloc | apply Kd.V_drewN | apply Kd.V_drew)); exact HL351_3.out) (fun k_ hk_ => (⟨hk_, hk_.2.2⟩ : _ ∧ k_ ≠ g))) hk (fun _ h => h.2)) (fun _ h => h.1)); have n5_ := Aside0.mk (KeepBut.trans (by repeat (first | (with_reducible first | exact HK.out | apply KeepBut.set_ | apply keep_drewN | apply keep_drew | apply keep_alloc | refine keep_far ?_ GW330.out _) | exact HK.out)) hk (.inl rfl)); have n6_ := Aside0.mk (hb); have n7_ := Aside0.mk (hi); clear HO_1; clear HO_331003; clear BK330; clear HL347_3; clear HL351_3; clear HK; clear HB; clear HI0; have HO_1 := n0_; have HO_331003 := n1_; have BK330 := n2_; have HL347_3 := n3_; have HL351_3 := n4_; have HK := n5_; have HB := n6_; have HI0 := n7_; clear n0_ n1_ n2_ n3_ n4_ n5_ n6_ n7_; (try clear hb); (try clear hb2); (try clear hk); (try clear hi); have hcz80_0 : w79.cell? ⟨gb330, 0, none⟩ = some (.int .i64 t331) := (blk_cell BK330.out 0).trans rfl; have hcz80_1 : w79.cell? ⟨gb330, 1, none⟩ = some (.string t332) := (blk_cell BK330.out 1).trans rfl; have hcz80_2 : w79.cell? ⟨gb330, 2, none⟩ = some (.int .i64 t333) := (blk_cell BK330.out 2).trans rfl; have hcz80_3 : w79.cell? ⟨gb330, 3, none⟩ = some (.slice (some ad347) t334.length co60) := (blk_cell BK330.out 3).trans rfl; have hfz80_0 := blk_frozen BK330.out 0; have hfz80_1 := blk_frozen BK330.out 1; have hfz80_2 := blk_frozen BK330.out 2; have hfz80_3 := blk_frozen BK330.out 3) | ((with_reducible refine gate_callee (f := 34) rfl ?_); refine goesL_ (some 130) rfl rfl Try.func34 (by kernel_rfl) rfl #[.string t332, .int .i64 t348, .int .i64 t352] rfl (by (try simp only [List.map_toArray, List.map_cons, List.map_nil]); first | done | rfl | (simp only [List.length_drop, List.length_take]; rfl)) ?_; (with_reducible refine (spinneyref11_two.calls kj53 t332 t348 t352 t355 t356 _ A73.out).mono ?_); rintro e w' ⟨rfl, ⟨nd, rfl⟩⟩; refine ⟨_, rfl, ?_⟩) | ((with_reducible refine gate_callee (f := 32) rfl ?_); refine goesL_ (some 133) rfl rfl Try.func32 (by kernel_rfl) rfl #[.int .i64 t355, .int .i64 t356] rfl (by (try simp only [List.map_toArray, List.map_cons, List.map_nil]); first | done | rfl | (simp only [List.length_drop, List.length_take]; rfl)) ?_; (with_reducible refine (spinneyref11_told.calls t355 t356 t357 t358 _ A74.out).mono ?_); rintro e w' ⟨rfl, ⟨nd, rfl⟩⟩; refine ⟨_, rfl, ?_⟩))
                            go_ret2
                            exact ⟨by first | rfl | (simp [errW_none, errW_some] <;> rfl) | (simp [*, errW_none, errW_some] <;> rfl), by repeat (first | (with_reducible first | exact HI0.out | apply IsS54.alloc | apply IsS54.drewN | apply IsS54.drew | apply IsS54.set_0 | refine IsS54.far ?_ NB0_330.out _) | exact HI0.out), by repeat (first | (with_reducible first | exact HB.out | apply below_alloc | apply pw_below_drewN | apply below_drew1 | refine below_set ?_ (IsS54.ge HI0.out) | refine below_set ?_ GE330.out) | exact HB.out), by repeat (first | (with_reducible first | exact HK.out | apply KeepBut.set_ | apply keep_drewN | apply keep_drew | apply keep_alloc | refine keep_far ?_ GW330.out _) | exact HK.out)⟩
                          · rw [if_neg c72] at H
                            have c72b0 : (t353 == 0) = false := beq_eq_false_iff_ne.mpr c72
                            have c72b1 : (t353 != 0) = true := bne_iff_ne.mpr c72
                            simp only [Option.some.injEq, Prod.mk.injEq] at H
                            obtain ⟨rfl, rfl, rfl⟩ := H
                            have hnb81 := NB330_0.out
                            have hnc81 := NB0_330.out
                            have hcz82_0 : wc.cell? ⟨gb330, 0, none⟩ = some (.int .i64 t331) := (blk_cell BK330.out 0).trans rfl
                            have hcz82_1 : wc.cell? ⟨gb330, 1, none⟩ = some (.string t332) := (blk_cell BK330.out 1).trans rfl
                            have hcz82_2 : wc.cell? ⟨gb330, 2, none⟩ = some (.int .i64 t333) := (blk_cell BK330.out 2).trans rfl
                            have hcz82_3 : wc.cell? ⟨gb330, 3, none⟩ = some (.slice Ao60 t334.length co60) := (blk_cell BK330.out 3).trans rfl
                            have hfz82_0 := blk_frozen BK330.out 0
                            have hfz82_1 := blk_frozen BK330.out 1
                            have hfz82_2 := blk_frozen BK330.out 2
                            have hfz82_3 := blk_frozen BK330.out 3
                            have p347 : 0 ≤ (0 : Int) := (by omega)
                            have q347 : 0 < (t334.length : Int) := of_decide_eq_true (by first | (with_reducible assumption) | assumption)
                            obtain ⟨ad347, A347_3, c347_3, e347, hx347_0, hx347_1, hx347_2, hx347_3, hl347_3, hi347_3⟩ := at_T25 (Kd.V_reads' HO_331003.out).2.2 0 p347 q347
                            cases e347
                            obtain ⟨ce347, hce347, hMe347, hcc347⟩ := Kd.V_get HO_331003.out z25 0 p347 (by first | exact q347 | exact of_decide_eq_true (by first | (with_reducible assumption) | assumption) | (have e_ := (Kd.V_reads' HO_331003.out).1; omega))
                            obtain ⟨ua347_3, uc347_3, rfl, ul347_3, ge347_3⟩ := k25_openF hMe347
                            have hv347_3 := hcc347 3 _ rfl
                            rw [add_field _ _ 3 (by omega)] at hv347_3
                            replace hv347_3 := Option.some.inj (hv347_3.symm.trans hx347_3)
                            injection hv347_3 with hva_ hvn_ hvc_
                            rw [hva_] at ge347_3
                            rw [hvc_] at ul347_3
                            have HL347_3 := Aside0.mk (show Kd.V k25 25 _ w.heap.size _ _ ((rd_T25 t334 0).f3) from Kd.V_mk ul347_3 ge347_3)
                            clear hva_ hvn_ hvc_ ge347_3 ul347_3
                            clear hcc347 hce347
                            have qi347 : (0 < t334.length) = True := eq_true (by omega)
                            (try rw [show ((0 : Int)).toNat = 0 from rfl] at hx347_0)
                            (try rw [show 0 * 4 = 0 from rfl] at hx347_0)
                            (try rw [Addr.add_zero'] at hx347_0)
                            (try rw [show ((0 : Int)).toNat = 0 from rfl] at hx347_1)
                            (try rw [show 0 * 4 = 0 from rfl] at hx347_1)
                            (try rw [Addr.add_zero'] at hx347_1)
                            (try rw [show ((0 : Int)).toNat = 0 from rfl] at hx347_2)
                            (try rw [show 0 * 4 = 0 from rfl] at hx347_2)
                            (try rw [Addr.add_zero'] at hx347_2)
                            (try rw [show ((0 : Int)).toNat = 0 from rfl] at hx347_3)
                            (try rw [show 0 * 4 = 0 from rfl] at hx347_3)
                            (try rw [Addr.add_zero'] at hx347_3)
                            have HR347_3 := Aside0.mk hi347_3
                            have HC347_3 := Aside0.mk hl347_3
                            clear hi347_3 hl347_3
                            replace p347 := eq_true p347
                            replace q347 := eq_true q347
                            go_wp2_with (first | ((with_reducible refine gate_callee (f := 25) rfl ?_); refine goesL_ (some 105) rfl rfl Try.func25 (by kernel_rfl) rfl #[.pointer (some ⟨g, 0, none⟩), .slice A1 l1.length c1, .agg #[.int .i64 ((rd_T25 t334 0).f0), .string ((rd_T25 t334 0).f1), .int .i64 ((rd_T25 t334 0).f2), .slice A347_3 ((rd_T25 t334 0).f3).length c347_3], .int .i64 (wrap64 (a3 + 1))] rfl (by (try simp only [List.map_toArray, List.map_cons, List.map_nil]); first | done | rfl | (simp only [List.length_drop, List.length_take]; rfl)) ?_; (with_reducible refine (ih kj53 (by have := HJ53.out; omega) g t338 (fun k_ => (((P1_ k_ ∨ P2_3_ k_) ∨ w.heap.size ≤ k_) ∧ (k_ ≠ gb330 ∧ k_ ≠ g))) _ _ l1 ((rd_T25 t334 0).f0) ((rd_T25 t334 0).f1) ((rd_T25 t334 0).f2) (fun k_ => (((P1_ k_ ∨ P2_3_ k_) ∨ w.heap.size ≤ k_) ∧ (k_ ≠ gb330 ∧ k_ ≠ g))) _ _ ((rd_T25 t334 0).f3) (wrap64 (a3 + 1)) t348 t349 t350 w0 _ ?side1 ?side2 ?side3 ?side4 A68.out).mono ?_); (case side1 => repeat (first | (with_reducible first | exact HI0.out | apply IsS54.alloc | apply IsS54.drewN | apply IsS54.drew | apply IsS54.set_0 | refine IsS54.far ?_ NB0_330.out _) | exact HI0.out)); (case side2 => repeat (first | (with_reducible first | exact HB.out | apply below_alloc | apply pw_below_drewN | apply below_drew1 | refine below_set ?_ (IsS54.ge HI0.out) | refine below_set ?_ GE330.out) | exact HB.out)); (case side3 => exact Kd.V_mono (HO_1.out) (fun k_ hk_ => ⟨hk_, hk_.2.2⟩)); (case side4 => exact Kd.V_mono (HL347_3.out) (fun k_ hk_ => ⟨hk_, hk_.2.2⟩)); rintro e w83 ⟨rfl, hi, hb, hk⟩; refine ⟨_, rfl, ?_⟩; have n0_ := Aside0.mk (Kd.V_mono (Kd.V_keep (Kd.V_mono (ok := fun k_ => ((((P1_ k_ ∨ P2_3_ k_) ∨ w.heap.size ≤ k_)) ∧ (k_ ≠ gb330 ∧ k_ ≠ g))) (by (with_reducible repeat (first | apply Kd.V_alloc | apply Kd.V_drewN | apply Kd.V_drew)); exact HO_1.out) (fun k_ hk_ => (⟨hk_, hk_.2.2⟩ : _ ∧ k_ ≠ g))) hk (fun _ h => h.2)) (fun _ h => h.1)); have n1_ := Aside0.mk (Kd.V_mono (Kd.V_keep (Kd.V_mono (ok := fun k_ => ((((P1_ k_ ∨ P2_3_ k_) ∨ w.heap.size ≤ k_)) ∧ (k_ ≠ gb330 ∧ k_ ≠ g))) (by (with_reducible repeat (first | apply Kd.V_alloc | apply Kd.V_drewN | apply Kd.V_drew)); exact HO_331003.out) (fun k_ hk_ => (⟨hk_, hk_.2.2⟩ : _ ∧ k_ ≠ g))) hk (fun _ h => h.2)) (fun _ h => h.1)); have n2_ := Aside0.mk (KeepBut.blk hk (g' := gb330) (o := .cells #[.int .i64 t331, .string t332, .int .i64 t333, .slice (some ad347) t334.length co60] 25 (0, 0)) (by (with_reducible repeat (first | refine blk_drewN ?_ _ | refine blk_drew ?_ | refine blk_alloc ?_ _)); exact BK330.out) NB330_0.out (by simp)); have n3_ := Aside0.mk (Kd.V_mono (Kd.V_keep (Kd.V_mono (ok := fun k_ => ((((P1_ k_ ∨ P2_3_ k_) ∨ w.heap.size ≤ k_)) ∧ (k_ ≠ gb330 ∧ k_ ≠ g))) (by (with_reducible repeat (first | apply Kd.V_alloc | apply Kd.V_drewN | apply Kd.V_drew)); exact HL347_3.out) (fun k_ hk_ => (⟨hk_, hk_.2.2⟩ : _ ∧ k_ ≠ g))) hk (fun _ h => h.2)) (fun _ h => h.1)); have n4_ := Aside0.mk (KeepBut.trans (by repeat (first | (with_reducible first | exact HK.out | apply KeepBut.set_ | apply keep_drewN | apply keep_drew | apply keep_alloc | refine keep_far ?_ GW330.out _) | exact HK.out)) hk (.inl rfl)); have n5_ := Aside0.mk (hb); have n6_ := Aside0.mk (hi); clear HO_1; clear HO_331003; clear BK330; clear HL347_3; clear HK; clear HB; clear HI0; have HO_1 := n0_; have HO_331003 := n1_; have BK330 := n2_; have HL347_3 := n3_; have HK := n4_; have HB := n5_; have HI0 := n6_; clear n0_ n1_ n2_ n3_ n4_ n5_ n6_; (try clear hb); (try clear hb2); (try clear hk); (try clear hi); have hcz84_0 : w83.cell? ⟨gb330, 0, none⟩ = some (.int .i64 t331) := (blk_cell BK330.out 0).trans rfl; have hcz84_1 : w83.cell? ⟨gb330, 1, none⟩ = some (.string t332) := (blk_cell BK330.out 1).trans rfl; have hcz84_2 : w83.cell? ⟨gb330, 2, none⟩ = some (.int .i64 t333) := (blk_cell BK330.out 2).trans rfl; have hcz84_3 : w83.cell? ⟨gb330, 3, none⟩ = some (.slice (some ad347) t334.length co60) := (blk_cell BK330.out 3).trans rfl; have hfz84_0 := blk_frozen BK330.out 0; have hfz84_1 := blk_frozen BK330.out 1; have hfz84_2 := blk_frozen BK330.out 2; have hfz84_3 := blk_frozen BK330.out 3; have p351 : 0 ≤ (1 : Int) := (by omega); have q351 : 1 < (t334.length : Int) := of_decide_eq_true (by first | (with_reducible assumption) | assumption); obtain ⟨ad351, A351_3, c351_3, e351, hx351_0, hx351_1, hx351_2, hx351_3, hl351_3, hi351_3⟩ := at_T25 (Kd.V_reads' HO_331003.out).2.2 1 p351 q351; obtain rfl : ad347 = ad351 := (by injection e351); obtain ⟨ce351, hce351, hMe351, hcc351⟩ := Kd.V_get HO_331003.out z25 1 p351 (by first | exact q351 | exact of_decide_eq_true (by first | (with_reducible assumption) | assumption) | (have e_ := (Kd.V_reads' HO_331003.out).1; omega)); obtain ⟨ua351_3, uc351_3, rfl, ul351_3, ge351_3⟩ := k25_openF hMe351; have hv351_3 := hcc351 3 _ rfl; rw [add_field _ _ 3 (by omega)] at hv351_3; replace hv351_3 := Option.some.inj (hv351_3.symm.trans hx351_3); injection hv351_3 with hva_ hvn_ hvc_; rw [hva_] at ge351_3; rw [hvc_] at ul351_3; have HL351_3 := Aside0.mk (show Kd.V k25 25 _ w.heap.size _ _ ((rd_T25 t334 1).f3) from Kd.V_mk ul351_3 ge351_3); clear hva_ hvn_ hvc_ ge351_3 ul351_3; clear hcc351 hce351; (try simp only [show (1 : Int).toNat = 1 from rfl, Nat.reduceMul, Nat.reduceEqDiff, Go.Addr.add, ↓reduceIte] at hx351_0); (try simp only [show (1 : Int).toNat = 1 from rfl, Nat.reduceMul, Nat.reduceEqDiff, Go.Addr.add, ↓reduceIte] at hx351_1); (try simp only [show (1 : Int).toNat = 1 from rfl, Nat.reduceMul, Nat.reduceEqDiff, Go.Addr.add, ↓reduceIte] at hx351_2); (try simp only [show (1 : Int).toNat = 1 from rfl, Nat.reduceMul, Nat.reduceEqDiff, Go.Addr.add, ↓reduceIte] at hx351_3); have qi351 : (1 < t334.length) = True := eq_true (by omega); (try rw [show ((1 : Int)).toNat = 1 from rfl] at hx351_0); (try rw [show 1 * 4 = 4 from rfl] at hx351_0); (try rw [show ((1 : Int)).toNat = 1 from rfl] at hx351_1); (try rw [show 1 * 4 = 4 from rfl] at hx351_1); (try rw [show ((1 : Int)).toNat = 1 from rfl] at hx351_2); (try rw [show 1 * 4 = 4 from rfl] at hx351_2); (try rw [show ((1 : Int)).toNat = 1 from rfl] at hx351_3); (try rw [show 1 * 4 = 4 from rfl] at hx351_3); have HR351_3 := Aside0.mk hi351_3; have HC351_3 := Aside0.mk hl351_3; clear hi351_3 hl351_3; replace p351 := eq_true p351; replace q351 := eq_true q351) | ((with_reducible refine gate_callee (f := 25) rfl ?_); refine goesL_ (some 120) rfl rfl Try.func25 (by kernel_rfl) rfl #[.pointer (some ⟨g, 0, none⟩), .slice A1 l1.length c1, .agg #[.int .i64 ((rd_T25 t334 1).f0), .string ((rd_T25 t334 1).f1), .int .i64 ((rd_T25 t334 1).f2), .slice A351_3 ((rd_T25 t334 1).f3).length c351_3], .int .i64 (wrap64 (a3 + 1))] rfl (by (try simp only [List.map_toArray, List.map_cons, List.map_nil]); first | done | rfl | (simp only [List.length_drop, List.length_take]; rfl)) ?_; (with_reducible refine (ih kj53 (by have := HJ53.out; omega) g t350 (fun k_ => (((P1_ k_ ∨ P2_3_ k_) ∨ w.heap.size ≤ k_) ∧ (k_ ≠ gb330 ∧ k_ ≠ g))) _ _ l1 ((rd_T25 t334 1).f0) ((rd_T25 t334 1).f1) ((rd_T25 t334 1).f2) (fun k_ => (((P1_ k_ ∨ P2_3_ k_) ∨ w.heap.size ≤ k_) ∧ (k_ ≠ gb330 ∧ k_ ≠ g))) _ _ ((rd_T25 t334 1).f3) (wrap64 (a3 + 1)) t352 t353 t354 w0 _ ?side1 ?side2 ?side3 ?side4 A71.out).mono ?_); (case side1 => repeat (first | (with_reducible first | exact HI0.out | apply IsS54.alloc | apply IsS54.drewN | apply IsS54.drew | apply IsS54.set_0 | refine IsS54.far ?_ NB0_330.out _) | exact HI0.out)); (case side2 => repeat (first | (with_reducible first | exact HB.out | apply below_alloc | apply pw_below_drewN | apply below_drew1 | refine below_set ?_ (IsS54.ge HI0.out) | refine below_set ?_ GE330.out) | exact HB.out)); (case side3 => exact Kd.V_mono (HO_1.out) (fun k_ hk_ => ⟨hk_, hk_.2.2⟩)); (case side4 => exact Kd.V_mono (HL351_3.out) (fun k_ hk_ => ⟨hk_, hk_.2.2⟩)); rintro e w85 ⟨rfl, hi, hb, hk⟩; refine ⟨_, rfl, ?_⟩; have n0_ := Aside0.mk (Kd.V_mono (Kd.V_keep (Kd.V_mono (ok := fun k_ => ((((P1_ k_ ∨ P2_3_ k_) ∨ w.heap.size ≤ k_)) ∧ (k_ ≠ gb330 ∧ k_ ≠ g))) (by (with_reducible repeat (first | apply Kd.V_alloc | apply Kd.V_drewN | apply Kd.V_drew)); exact HO_1.out) (fun k_ hk_ => (⟨hk_, hk_.2.2⟩ : _ ∧ k_ ≠ g))) hk (fun _ h => h.2)) (fun _ h => h.1)); have n1_ := Aside0.mk (Kd.V_mono (Kd.V_keep (Kd.V_mono (ok := fun k_ => ((((P1_ k_ ∨ P2_3_ k_) ∨ w.heap.size ≤ k_)) ∧ (k_ ≠ gb330 ∧ k_ ≠ g))) (by (with_reducible repeat (first | apply Kd.V_alloc | apply Kd.V_drewN | apply Kd.V_drew)); exact HO_331003.out) (fun k_ hk_ => (⟨hk_, hk_.2.2⟩ : _ ∧ k_ ≠ g))) hk (fun _ h => h.2)) (fun _ h => h.1)); have n2_ := Aside0.mk (KeepBut.blk hk (g' := gb330) (o := .cells #[.int .i64 t331, .string t332, .int .i64 t333, .slice (some ad347) t334.length co60] 25 (0, 0)) (by (with_reducible repeat (first | refine blk_drewN ?_ _ | refine blk_drew ?_ | refine blk_alloc ?_ _)); exact BK330.out) NB330_0.out (by simp)); have n3_ := Aside0.mk (Kd.V_mono (Kd.V_keep (Kd.V_mono (ok := fun k_ => ((((P1_ k_ ∨ P2_3_ k_) ∨ w.heap.size ≤ k_)) ∧ (k_ ≠ gb330 ∧ k_ ≠ g))) (by (with_reducible repeat (first | apply Kd.V_alloc | apply Kd.V_drewN | apply Kd.V_drew)); exact HL347_3.out) (fun k_ hk_ => (⟨hk_, hk_.2.2⟩ : _ ∧ k_ ≠ g))) hk (fun _ h => h.2)) (fun _ h => h.1)); have n4_ := Aside0.mk (Kd.V_mono (Kd.V_keep (Kd.V_mono (ok := fun k_ => ((((P1_ k_ ∨ P2_3_ k_) ∨ w.heap.size ≤ k_)) ∧ (k_ ≠ gb330 ∧ k_ ≠ g))) (by (with_reducible repeat (first | apply Kd.V_alloc | apply Kd.V_drewN | apply Kd.V_drew)); exact HL351_3.out) (fun k_ hk_ => (⟨hk_, hk_.2.2⟩ : _ ∧ k_ ≠ g))) hk (fun _ h => h.2)) (fun _ h => h.1)); have n5_ := Aside0.mk (KeepBut.trans (by repeat (first | (with_reducible first | exact HK.out | apply KeepBut.set_ | apply keep_drewN | apply keep_drew | apply keep_alloc | refine keep_far ?_ GW330.out _) | exact HK.out)) hk (.inl rfl)); have n6_ := Aside0.mk (hb); have n7_ := Aside0.mk (hi); clear HO_1; clear HO_331003; clear BK330; clear HL347_3; clear HL351_3; clear HK; clear HB; clear HI0; have HO_1 := n0_; have HO_331003 := n1_; have BK330 := n2_; have HL347_3 := n3_; have HL351_3 := n4_; have HK := n5_; have HB := n6_; have HI0 := n7_; clear n0_ n1_ n2_ n3_ n4_ n5_ n6_ n7_; (try clear hb); (try clear hb2); (try clear hk); (try clear hi)))
                            go_ret2
                            exact ⟨by first | rfl | (simp [errW_none, errW_some] <;> rfl) | (simp [*, errW_none, errW_some] <;> rfl), by repeat (first | (with_reducible first | exact HI0.out | apply IsS54.alloc | apply IsS54.drewN | apply IsS54.drew | apply IsS54.set_0 | refine IsS54.far ?_ NB0_330.out _) | exact HI0.out), by repeat (first | (with_reducible first | exact HB.out | apply below_alloc | apply pw_below_drewN | apply below_drew1 | refine below_set ?_ (IsS54.ge HI0.out) | refine below_set ?_ GE330.out) | exact HB.out), by repeat (first | (with_reducible first | exact HK.out | apply KeepBut.set_ | apply keep_drewN | apply keep_drew | apply keep_alloc | refine keep_far ?_ GW330.out _) | exact HK.out)⟩
                        · rw [if_neg c70] at H
                          exact absurd H (by simp)
                      · rw [if_neg c69] at H
                        have c69b0 : (t349 == 0) = false := beq_eq_false_iff_ne.mpr c69
                        have c69b1 : (t349 != 0) = true := bne_iff_ne.mpr c69
                        simp only [Option.some.injEq, Prod.mk.injEq] at H
                        obtain ⟨rfl, rfl, rfl⟩ := H
                        have hnb86 := NB330_0.out
                        have hnc86 := NB0_330.out
                        have hcz87_0 : wc.cell? ⟨gb330, 0, none⟩ = some (.int .i64 t331) := (blk_cell BK330.out 0).trans rfl
                        have hcz87_1 : wc.cell? ⟨gb330, 1, none⟩ = some (.string t332) := (blk_cell BK330.out 1).trans rfl
                        have hcz87_2 : wc.cell? ⟨gb330, 2, none⟩ = some (.int .i64 t333) := (blk_cell BK330.out 2).trans rfl
                        have hcz87_3 : wc.cell? ⟨gb330, 3, none⟩ = some (.slice Ao60 t334.length co60) := (blk_cell BK330.out 3).trans rfl
                        have hfz87_0 := blk_frozen BK330.out 0
                        have hfz87_1 := blk_frozen BK330.out 1
                        have hfz87_2 := blk_frozen BK330.out 2
                        have hfz87_3 := blk_frozen BK330.out 3
                        have p347 : 0 ≤ (0 : Int) := (by omega)
                        have q347 : 0 < (t334.length : Int) := of_decide_eq_true (by first | (with_reducible assumption) | assumption)
                        obtain ⟨ad347, A347_3, c347_3, e347, hx347_0, hx347_1, hx347_2, hx347_3, hl347_3, hi347_3⟩ := at_T25 (Kd.V_reads' HO_331003.out).2.2 0 p347 q347
                        cases e347
                        obtain ⟨ce347, hce347, hMe347, hcc347⟩ := Kd.V_get HO_331003.out z25 0 p347 (by first | exact q347 | exact of_decide_eq_true (by first | (with_reducible assumption) | assumption) | (have e_ := (Kd.V_reads' HO_331003.out).1; omega))
                        obtain ⟨ua347_3, uc347_3, rfl, ul347_3, ge347_3⟩ := k25_openF hMe347
                        have hv347_3 := hcc347 3 _ rfl
                        rw [add_field _ _ 3 (by omega)] at hv347_3
                        replace hv347_3 := Option.some.inj (hv347_3.symm.trans hx347_3)
                        injection hv347_3 with hva_ hvn_ hvc_
                        rw [hva_] at ge347_3
                        rw [hvc_] at ul347_3
                        have HL347_3 := Aside0.mk (show Kd.V k25 25 _ w.heap.size _ _ ((rd_T25 t334 0).f3) from Kd.V_mk ul347_3 ge347_3)
                        clear hva_ hvn_ hvc_ ge347_3 ul347_3
                        clear hcc347 hce347
                        have qi347 : (0 < t334.length) = True := eq_true (by omega)
                        (try rw [show ((0 : Int)).toNat = 0 from rfl] at hx347_0)
                        (try rw [show 0 * 4 = 0 from rfl] at hx347_0)
                        (try rw [Addr.add_zero'] at hx347_0)
                        (try rw [show ((0 : Int)).toNat = 0 from rfl] at hx347_1)
                        (try rw [show 0 * 4 = 0 from rfl] at hx347_1)
                        (try rw [Addr.add_zero'] at hx347_1)
                        (try rw [show ((0 : Int)).toNat = 0 from rfl] at hx347_2)
                        (try rw [show 0 * 4 = 0 from rfl] at hx347_2)
                        (try rw [Addr.add_zero'] at hx347_2)
                        (try rw [show ((0 : Int)).toNat = 0 from rfl] at hx347_3)
                        (try rw [show 0 * 4 = 0 from rfl] at hx347_3)
                        (try rw [Addr.add_zero'] at hx347_3)
                        have HR347_3 := Aside0.mk hi347_3
                        have HC347_3 := Aside0.mk hl347_3
                        clear hi347_3 hl347_3
                        replace p347 := eq_true p347
                        replace q347 := eq_true q347
                        go_wp2_with (first | ((with_reducible refine gate_callee (f := 25) rfl ?_); refine goesL_ (some 105) rfl rfl Try.func25 (by kernel_rfl) rfl #[.pointer (some ⟨g, 0, none⟩), .slice A1 l1.length c1, .agg #[.int .i64 ((rd_T25 t334 0).f0), .string ((rd_T25 t334 0).f1), .int .i64 ((rd_T25 t334 0).f2), .slice A347_3 ((rd_T25 t334 0).f3).length c347_3], .int .i64 (wrap64 (a3 + 1))] rfl (by (try simp only [List.map_toArray, List.map_cons, List.map_nil]); first | done | rfl | (simp only [List.length_drop, List.length_take]; rfl)) ?_; (with_reducible refine (ih kj53 (by have := HJ53.out; omega) g t338 (fun k_ => (((P1_ k_ ∨ P2_3_ k_) ∨ w.heap.size ≤ k_) ∧ (k_ ≠ gb330 ∧ k_ ≠ g))) _ _ l1 ((rd_T25 t334 0).f0) ((rd_T25 t334 0).f1) ((rd_T25 t334 0).f2) (fun k_ => (((P1_ k_ ∨ P2_3_ k_) ∨ w.heap.size ≤ k_) ∧ (k_ ≠ gb330 ∧ k_ ≠ g))) _ _ ((rd_T25 t334 0).f3) (wrap64 (a3 + 1)) t348 t349 t350 w0 _ ?side1 ?side2 ?side3 ?side4 A68.out).mono ?_); (case side1 => repeat (first | (with_reducible first | exact HI0.out | apply IsS54.alloc | apply IsS54.drewN | apply IsS54.drew | apply IsS54.set_0 | refine IsS54.far ?_ NB0_330.out _) | exact HI0.out)); (case side2 => repeat (first | (with_reducible first | exact HB.out | apply below_alloc | apply pw_below_drewN | apply below_drew1 | refine below_set ?_ (IsS54.ge HI0.out) | refine below_set ?_ GE330.out) | exact HB.out)); (case side3 => exact Kd.V_mono (HO_1.out) (fun k_ hk_ => ⟨hk_, hk_.2.2⟩)); (case side4 => exact Kd.V_mono (HL347_3.out) (fun k_ hk_ => ⟨hk_, hk_.2.2⟩)); rintro e w88 ⟨rfl, hi, hb, hk⟩; refine ⟨_, rfl, ?_⟩; have n0_ := Aside0.mk (Kd.V_mono (Kd.V_keep (Kd.V_mono (ok := fun k_ => ((((P1_ k_ ∨ P2_3_ k_) ∨ w.heap.size ≤ k_)) ∧ (k_ ≠ gb330 ∧ k_ ≠ g))) (by (with_reducible repeat (first | apply Kd.V_alloc | apply Kd.V_drewN | apply Kd.V_drew)); exact HO_1.out) (fun k_ hk_ => (⟨hk_, hk_.2.2⟩ : _ ∧ k_ ≠ g))) hk (fun _ h => h.2)) (fun _ h => h.1)); have n1_ := Aside0.mk (Kd.V_mono (Kd.V_keep (Kd.V_mono (ok := fun k_ => ((((P1_ k_ ∨ P2_3_ k_) ∨ w.heap.size ≤ k_)) ∧ (k_ ≠ gb330 ∧ k_ ≠ g))) (by (with_reducible repeat (first | apply Kd.V_alloc | apply Kd.V_drewN | apply Kd.V_drew)); exact HO_331003.out) (fun k_ hk_ => (⟨hk_, hk_.2.2⟩ : _ ∧ k_ ≠ g))) hk (fun _ h => h.2)) (fun _ h => h.1)); have n2_ := Aside0.mk (KeepBut.blk hk (g' := gb330) (o := .cells #[.int .i64 t331, .string t332, .int .i64 t333, .slice (some ad347) t334.length co60] 25 (0, 0)) (by (with_reducible repeat (first | refine blk_drewN ?_ _ | refine blk_drew ?_ | refine blk_alloc ?_ _)); exact BK330.out) NB330_0.out (by simp)); have n3_ := Aside0.mk (Kd.V_mono (Kd.V_keep (Kd.V_mono (ok := fun k_ => ((((P1_ k_ ∨ P2_3_ k_) ∨ w.heap.size ≤ k_)) ∧ (k_ ≠ gb330 ∧ k_ ≠ g))) (by (with_reducible repeat (first | apply Kd.V_alloc | apply Kd.V_drewN | apply Kd.V_drew)); exact HL347_3.out) (fun k_ hk_ => (⟨hk_, hk_.2.2⟩ : _ ∧ k_ ≠ g))) hk (fun _ h => h.2)) (fun _ h => h.1)); have n4_ := Aside0.mk (KeepBut.trans (by repeat (first | (with_reducible first | exact HK.out | apply KeepBut.set_ | apply keep_drewN | apply keep_drew | apply keep_alloc | refine keep_far ?_ GW330.out _) | exact HK.out)) hk (.inl rfl)); have n5_ := Aside0.mk (hb); have n6_ := Aside0.mk (hi); clear HO_1; clear HO_331003; clear BK330; clear HL347_3; clear HK; clear HB; clear HI0; have HO_1 := n0_; have HO_331003 := n1_; have BK330 := n2_; have HL347_3 := n3_; have HK := n4_; have HB := n5_; have HI0 := n6_; clear n0_ n1_ n2_ n3_ n4_ n5_ n6_; (try clear hb); (try clear hb2); (try clear hk); (try clear hi)))
                        go_ret2
                        exact ⟨by first | rfl | (simp [errW_none, errW_some] <;> rfl) | (simp [*, errW_none, errW_some] <;> rfl), by repeat (first | (with_reducible first | exact HI0.out | apply IsS54.alloc | apply IsS54.drewN | apply IsS54.drew | apply IsS54.set_0 | refine IsS54.far ?_ NB0_330.out _) | exact HI0.out), by repeat (first | (with_reducible first | exact HB.out | apply below_alloc | apply pw_below_drewN | apply below_drew1 | refine below_set ?_ (IsS54.ge HI0.out) | refine below_set ?_ GE330.out) | exact HB.out), by repeat (first | (with_reducible first | exact HK.out | apply KeepBut.set_ | apply keep_drewN | apply keep_drew | apply keep_alloc | refine keep_far ?_ GW330.out _) | exact HK.out)⟩
                    · rw [if_neg c67] at H
                      exact absurd H (by simp)
              · rw [if_neg c53] at H
                have c53b0 : ((t334.length : Int) == 2) = false := beq_eq_false_iff_ne.mpr c53
                have c53b1 : ((t334.length : Int) != 2) = true := bne_iff_ne.mpr c53
                simp only [Option.some.injEq, Prod.mk.injEq] at H
                obtain ⟨rfl, rfl, rfl⟩ := H
                go_enter Try.func25, Try.ntmps25
                go_wp2_with (first | ((with_reducible refine gate_dst (N := 6) rfl ?_); refine box_event ?hg (N := 6) ?hd (cs := #[.int .i64 a2_0, .string a2_1, .int .i64 a2_2, .slice A2_3 l2_3.length c2_3]) (t := 25) ?hr ?_; (case hd => rfl); (case hg => rfl); (case hr => first | (go_simp; done) | (go_simp; rfl)); intro gb330 hg w89 hbox hb; have n0_ := Aside0.mk (Kd.V_below (Kd.V_elderB (by (with_reducible repeat (first | apply Kd.V_alloc | apply Kd.V_drewN | apply Kd.V_drew)); exact HO1.out) gb330 (Nat.le_of_eq hg.symm)) hb); have n1_ := Aside0.mk (Kd.V_below (Kd.V_elderB (by (with_reducible repeat (first | apply Kd.V_alloc | apply Kd.V_drewN | apply Kd.V_drew)); exact HO2_3.out) gb330 (Nat.le_of_eq hg.symm)) hb); have n2_ := Aside0.mk (IsS54.below (by repeat (first | (with_reducible first | exact HI0.out | apply IsS54.alloc | apply IsS54.drewN | apply IsS54.drew | apply IsS54.set_0) | exact HI0.out)) hb); have n3_ := Aside0.mk (KeepBut.trans (by repeat (first | (with_reducible first | exact HK.out | apply KeepBut.set_ | apply keep_drewN | apply keep_drew | apply keep_alloc) | exact HK.out)) (KeepBut.of_below hb g none) (.inl rfl)); have n4_ := Aside0.mk (below_step (by repeat (first | (with_reducible first | exact HB.out | apply below_alloc | apply pw_below_drewN | apply below_drew1 | refine below_set ?_ (IsS54.ge HI0.out)) | exact HB.out)) hb); have n5_ := Aside0.mk (hbox); have n6_ := Aside0.mk ((by rw [hg]; exact (keep_size (w := w) (g := g) (row := none) (by repeat (first | (with_reducible first | exact HK.out | apply KeepBut.set_ | apply keep_drewN | apply keep_drew | apply keep_alloc) | exact HK.out))) : w.heap.size ≤ gb330)); have n7_ := Aside0.mk ((Nat.le_trans HW0.out (by rw [hg]; exact (keep_size (w := w) (g := g) (row := none) (by repeat (first | (with_reducible first | exact HK.out | apply KeepBut.set_ | apply keep_drewN | apply keep_drew | apply keep_alloc) | exact HK.out))) : w.heap.size ≤ gb330) : w0.heap.size ≤ gb330)); have n8_ := Aside0.mk ((by rw [hg]; exact Nat.ne_of_lt (IsS54.lt (show IsS54 w0 _ g s0_0 from by repeat (first | (with_reducible first | exact HI0.out | apply IsS54.alloc | apply IsS54.drewN | apply IsS54.drew | apply IsS54.set_0) | exact HI0.out))) : g ≠ gb330)); have n9_ := Aside0.mk ((by rw [hg]; exact Nat.ne_of_gt (IsS54.lt (show IsS54 w0 _ g s0_0 from by repeat (first | (with_reducible first | exact HI0.out | apply IsS54.alloc | apply IsS54.drewN | apply IsS54.drew | apply IsS54.set_0) | exact HI0.out))) : gb330 ≠ g)); clear HO1; clear HO2_3; clear HI0; clear HK; clear HB; have HO1 := n0_; have HO2_3 := n1_; have HI0 := n2_; have HK := n3_; have HB := n4_; have BK330 := n5_; have GW330 := n6_; have GE330 := n7_; have NB0_330 := n8_; have NB330_0 := n9_; clear n0_ n1_ n2_ n3_ n4_ n5_ n6_ n7_ n8_ n9_; clear hb hbox hg; have hnb90 := NB330_0.out; have hnc90 := NB0_330.out; have hcz91_0 : w89.cell? ⟨gb330, 0, none⟩ = some (.int .i64 a2_0) := (blk_cell BK330.out 0).trans rfl; have hcz91_1 : w89.cell? ⟨gb330, 1, none⟩ = some (.string a2_1) := (blk_cell BK330.out 1).trans rfl; have hcz91_2 : w89.cell? ⟨gb330, 2, none⟩ = some (.int .i64 a2_2) := (blk_cell BK330.out 2).trans rfl; have hcz91_3 : w89.cell? ⟨gb330, 3, none⟩ = some (.slice A2_3 l2_3.length c2_3) := (blk_cell BK330.out 3).trans rfl; have hfz91_0 := blk_frozen BK330.out 0; have hfz91_1 := blk_frozen BK330.out 1; have hfz91_2 := blk_frozen BK330.out 2; have hfz91_3 := blk_frozen BK330.out 3) | ((with_reducible refine gate_callee (f := 31) rfl ?_); refine goesL_ (some 23) rfl rfl Try.func31 (by kernel_rfl) rfl #[.pointer (some ⟨g, 0, none⟩), .slice A1 l1.length c1, .agg #[.int .i64 a2_0, .string a2_1, .int .i64 a2_2, .slice A2_3 l2_3.length c2_3]] rfl (by (try simp only [List.map_toArray, List.map_cons, List.map_nil]); first | done | rfl | (simp only [List.length_drop, List.length_take]; rfl)) ?_; (with_reducible refine (spinneyref09_Meter_Meet.calls k g s0_0 (fun k_ => ((((P1_ k_ ∨ P2_3_ k_) ∨ w.heap.size ≤ k_) ∧ k_ ≠ g) ∧ k_ ≠ gb330)) _ _ l1 a2_0 a2_1 a2_2 (fun k_ => ((((P1_ k_ ∨ P2_3_ k_) ∨ w.heap.size ≤ k_) ∧ k_ ≠ g) ∧ k_ ≠ gb330)) _ _ l2_3 t331 t332 t333 t334 t337 t338 w0 _ ?side1 ?side2 ?side3 ?side4 A7.out).mono ?_); (case side1 => repeat (first | (with_reducible first | exact HI0.out | apply IsS54.alloc | apply IsS54.drewN | apply IsS54.drew | apply IsS54.set_0 | refine IsS54.far ?_ NB0_330.out _) | exact HI0.out)); (case side2 => repeat (first | (with_reducible first | exact HB.out | apply below_alloc | apply pw_below_drewN | apply below_drew1 | refine below_set ?_ (IsS54.ge HI0.out) | refine below_set ?_ GE330.out) | exact HB.out)); (case side3 => exact Kd.V_mono (HO1.out) (fun k_ hk_ => ⟨hk_, hk_.1.2⟩)); (case side4 => exact Kd.V_mono (HO2_3.out) (fun k_ hk_ => ⟨hk_, hk_.1.2⟩)); rintro e w92 ⟨v335, rfl, ho0, hi, hb, hk⟩; refine ⟨_, rfl, ?_⟩; have n0_ := Aside0.mk (Kd.V_mono (Kd.V_keep (Kd.V_mono (ok := fun k_ => (((((P1_ k_ ∨ P2_3_ k_) ∨ w.heap.size ≤ k_)) ∧ k_ ≠ g) ∧ k_ ≠ gb330)) (by (with_reducible repeat (first | apply Kd.V_alloc | apply Kd.V_drewN | apply Kd.V_drew)); exact HO1.out) (fun k_ hk_ => (⟨hk_, hk_.1.2⟩ : _ ∧ k_ ≠ g))) hk (fun _ h => h.2)) (fun _ h => h.1)); have n1_ := Aside0.mk (Kd.V_mono (Kd.V_keep (Kd.V_mono (ok := fun k_ => (((((P1_ k_ ∨ P2_3_ k_) ∨ w.heap.size ≤ k_)) ∧ k_ ≠ g) ∧ k_ ≠ gb330)) (by (with_reducible repeat (first | apply Kd.V_alloc | apply Kd.V_drewN | apply Kd.V_drew)); exact HO2_3.out) (fun k_ hk_ => (⟨hk_, hk_.1.2⟩ : _ ∧ k_ ≠ g))) hk (fun _ h => h.2)) (fun _ h => h.1)); have n2_ := Aside0.mk (KeepBut.blk hk (g' := gb330) (o := .cells #[.int .i64 a2_0, .string a2_1, .int .i64 a2_2, .slice A2_3 l2_3.length c2_3] 25 (0, 0)) (by (with_reducible repeat (first | refine blk_drewN ?_ _ | refine blk_drew ?_ | refine blk_alloc ?_ _)); exact BK330.out) NB330_0.out (by simp)); have n3_ := Aside0.mk (Kd.V_lower (Kd.V_mono (ok' := fun k_ => ((P1_ k_ ∨ P2_3_ k_) ∨ w.heap.size ≤ k_) ∧ k_ ≠ gb330 ∧ k_ ≠ g) ho0 (fun k_ hk_ => ⟨Or.elim hk_ (fun hs_ => Or.elim hs_ (fun hs_ => hs_.1.1) (fun hs_ => hs_.1.1)) (fun hn_ => (.inr (Nat.le_trans (keep_size (w := w) (g := g) (row := none) (by repeat (first | (with_reducible first | exact HK.out | apply KeepBut.set_ | apply keep_drewN | apply keep_drew | apply keep_alloc | refine keep_far ?_ GW330.out _) | exact HK.out))) hn_))), Or.elim hk_ (fun hs_ => Or.elim hs_ (fun hs_ => hs_.2) (fun hs_ => hs_.2)) (fun hn_ => (Kd.freshB (g := gb330) (o := .cells #[.int .i64 a2_0, .string a2_1, .int .i64 a2_2, .slice A2_3 l2_3.length c2_3] 25 (0, 0)) (by (with_reducible repeat (first | refine blk_drewN ?_ _ | refine blk_drew ?_ | refine blk_alloc ?_ _)); exact BK330.out) k_ hn_)), Or.elim hk_ (fun hs_ => Or.elim hs_ (fun hs_ => hs_.1.2) (fun hs_ => hs_.1.2)) (fun hn_ => (IsS54.fresh (by repeat (first | (with_reducible first | exact HI0.out | apply IsS54.alloc | apply IsS54.drewN | apply IsS54.drew | apply IsS54.set_0 | refine IsS54.far ?_ NB0_330.out _) | exact HI0.out)) k_ hn_))⟩)) (keep_size (w := w) (g := g) (row := none) (by repeat (first | (with_reducible first | exact HK.out | apply KeepBut.set_ | apply keep_drewN | apply keep_drew | apply keep_alloc | refine keep_far ?_ GW330.out _) | exact HK.out)))); have n4_ := Aside0.mk (KeepBut.trans (by repeat (first | (with_reducible first | exact HK.out | apply KeepBut.set_ | apply keep_drewN | apply keep_drew | apply keep_alloc | refine keep_far ?_ GW330.out _) | exact HK.out)) hk (.inl rfl)); have n5_ := Aside0.mk (hb); have n6_ := Aside0.mk (hi); clear HO1; clear HO2_3; clear BK330; clear HK; clear HB; clear HI0; have HO1 := n0_; have HO2_3 := n1_; have BK330 := n2_; have HO336 := n3_; have HK := n4_; have HB := n5_; have HI0 := n6_; clear n0_ n1_ n2_ n3_ n4_ n5_ n6_; (try clear hb); (try clear hb2); (try clear hk); (try clear hi); (try clear ho0); have hcz93_0 : w92.cell? ⟨gb330, 0, none⟩ = some (.int .i64 a2_0) := (blk_cell BK330.out 0).trans rfl; have hcz93_1 : w92.cell? ⟨gb330, 1, none⟩ = some (.string a2_1) := (blk_cell BK330.out 1).trans rfl; have hcz93_2 : w92.cell? ⟨gb330, 2, none⟩ = some (.int .i64 a2_2) := (blk_cell BK330.out 2).trans rfl; have hcz93_3 : w92.cell? ⟨gb330, 3, none⟩ = some (.slice A2_3 l2_3.length c2_3) := (blk_cell BK330.out 3).trans rfl; have hfz93_0 := blk_frozen BK330.out 0; have hfz93_1 := blk_frozen BK330.out 1; have hfz93_2 := blk_frozen BK330.out 2; have hfz93_3 := blk_frozen BK330.out 3; obtain ⟨Ao94, co94, eo94⟩ := Kd.V_slice HO336.out; subst eo94))
                go_ret2
                exact ⟨by first | rfl | (simp [errW_none, errW_some] <;> rfl) | (simp [*, errW_none, errW_some] <;> rfl), by repeat (first | (with_reducible first | exact HI0.out | apply IsS54.alloc | apply IsS54.drewN | apply IsS54.drew | apply IsS54.set_0 | refine IsS54.far ?_ NB0_330.out _) | exact HI0.out), by repeat (first | (with_reducible first | exact HB.out | apply below_alloc | apply pw_below_drewN | apply below_drew1 | refine below_set ?_ (IsS54.ge HI0.out) | refine below_set ?_ GE330.out) | exact HB.out), by repeat (first | (with_reducible first | exact HK.out | apply KeepBut.set_ | apply keep_drewN | apply keep_drew | apply keep_alloc | refine keep_far ?_ GW330.out _) | exact HK.out)⟩
          · rw [if_neg c23] at H
            have c23b0 : (t331 == 4) = false := beq_eq_false_iff_ne.mpr c23
            have c23b1 : (t331 != 4) = true := bne_iff_ne.mpr c23
            simp only [Option.some.injEq, Prod.mk.injEq] at H
            obtain ⟨rfl, rfl, rfl⟩ := H
            go_enter Try.func25, Try.ntmps25
            go_wp2_with (first | ((with_reducible refine gate_dst (N := 6) rfl ?_); refine box_event ?hg (N := 6) ?hd (cs := #[.int .i64 a2_0, .string a2_1, .int .i64 a2_2, .slice A2_3 l2_3.length c2_3]) (t := 25) ?hr ?_; (case hd => rfl); (case hg => rfl); (case hr => first | (go_simp; done) | (go_simp; rfl)); intro gb330 hg w95 hbox hb; have n0_ := Aside0.mk (Kd.V_below (Kd.V_elderB (by (with_reducible repeat (first | apply Kd.V_alloc | apply Kd.V_drewN | apply Kd.V_drew)); exact HO1.out) gb330 (Nat.le_of_eq hg.symm)) hb); have n1_ := Aside0.mk (Kd.V_below (Kd.V_elderB (by (with_reducible repeat (first | apply Kd.V_alloc | apply Kd.V_drewN | apply Kd.V_drew)); exact HO2_3.out) gb330 (Nat.le_of_eq hg.symm)) hb); have n2_ := Aside0.mk (IsS54.below (by repeat (first | (with_reducible first | exact HI0.out | apply IsS54.alloc | apply IsS54.drewN | apply IsS54.drew | apply IsS54.set_0) | exact HI0.out)) hb); have n3_ := Aside0.mk (KeepBut.trans (by repeat (first | (with_reducible first | exact HK.out | apply KeepBut.set_ | apply keep_drewN | apply keep_drew | apply keep_alloc) | exact HK.out)) (KeepBut.of_below hb g none) (.inl rfl)); have n4_ := Aside0.mk (below_step (by repeat (first | (with_reducible first | exact HB.out | apply below_alloc | apply pw_below_drewN | apply below_drew1 | refine below_set ?_ (IsS54.ge HI0.out)) | exact HB.out)) hb); have n5_ := Aside0.mk (hbox); have n6_ := Aside0.mk ((by rw [hg]; exact (keep_size (w := w) (g := g) (row := none) (by repeat (first | (with_reducible first | exact HK.out | apply KeepBut.set_ | apply keep_drewN | apply keep_drew | apply keep_alloc) | exact HK.out))) : w.heap.size ≤ gb330)); have n7_ := Aside0.mk ((Nat.le_trans HW0.out (by rw [hg]; exact (keep_size (w := w) (g := g) (row := none) (by repeat (first | (with_reducible first | exact HK.out | apply KeepBut.set_ | apply keep_drewN | apply keep_drew | apply keep_alloc) | exact HK.out))) : w.heap.size ≤ gb330) : w0.heap.size ≤ gb330)); have n8_ := Aside0.mk ((by rw [hg]; exact Nat.ne_of_lt (IsS54.lt (show IsS54 w0 _ g s0_0 from by repeat (first | (with_reducible first | exact HI0.out | apply IsS54.alloc | apply IsS54.drewN | apply IsS54.drew | apply IsS54.set_0) | exact HI0.out))) : g ≠ gb330)); have n9_ := Aside0.mk ((by rw [hg]; exact Nat.ne_of_gt (IsS54.lt (show IsS54 w0 _ g s0_0 from by repeat (first | (with_reducible first | exact HI0.out | apply IsS54.alloc | apply IsS54.drewN | apply IsS54.drew | apply IsS54.set_0) | exact HI0.out))) : gb330 ≠ g)); clear HO1; clear HO2_3; clear HI0; clear HK; clear HB; have HO1 := n0_; have HO2_3 := n1_; have HI0 := n2_; have HK := n3_; have HB := n4_; have BK330 := n5_; have GW330 := n6_; have GE330 := n7_; have NB0_330 := n8_; have NB330_0 := n9_; clear n0_ n1_ n2_ n3_ n4_ n5_ n6_ n7_ n8_ n9_; clear hb hbox hg; have hnb96 := NB330_0.out; have hnc96 := NB0_330.out; have hcz97_0 : w95.cell? ⟨gb330, 0, none⟩ = some (.int .i64 a2_0) := (blk_cell BK330.out 0).trans rfl; have hcz97_1 : w95.cell? ⟨gb330, 1, none⟩ = some (.string a2_1) := (blk_cell BK330.out 1).trans rfl; have hcz97_2 : w95.cell? ⟨gb330, 2, none⟩ = some (.int .i64 a2_2) := (blk_cell BK330.out 2).trans rfl; have hcz97_3 : w95.cell? ⟨gb330, 3, none⟩ = some (.slice A2_3 l2_3.length c2_3) := (blk_cell BK330.out 3).trans rfl; have hfz97_0 := blk_frozen BK330.out 0; have hfz97_1 := blk_frozen BK330.out 1; have hfz97_2 := blk_frozen BK330.out 2; have hfz97_3 := blk_frozen BK330.out 3) | ((with_reducible refine gate_callee (f := 31) rfl ?_); refine goesL_ (some 23) rfl rfl Try.func31 (by kernel_rfl) rfl #[.pointer (some ⟨g, 0, none⟩), .slice A1 l1.length c1, .agg #[.int .i64 a2_0, .string a2_1, .int .i64 a2_2, .slice A2_3 l2_3.length c2_3]] rfl (by (try simp only [List.map_toArray, List.map_cons, List.map_nil]); first | done | rfl | (simp only [List.length_drop, List.length_take]; rfl)) ?_; (with_reducible refine (spinneyref09_Meter_Meet.calls k g s0_0 (fun k_ => ((((P1_ k_ ∨ P2_3_ k_) ∨ w.heap.size ≤ k_) ∧ k_ ≠ g) ∧ k_ ≠ gb330)) _ _ l1 a2_0 a2_1 a2_2 (fun k_ => ((((P1_ k_ ∨ P2_3_ k_) ∨ w.heap.size ≤ k_) ∧ k_ ≠ g) ∧ k_ ≠ gb330)) _ _ l2_3 t331 t332 t333 t334 t337 t338 w0 _ ?side1 ?side2 ?side3 ?side4 A7.out).mono ?_); (case side1 => repeat (first | (with_reducible first | exact HI0.out | apply IsS54.alloc | apply IsS54.drewN | apply IsS54.drew | apply IsS54.set_0 | refine IsS54.far ?_ NB0_330.out _) | exact HI0.out)); (case side2 => repeat (first | (with_reducible first | exact HB.out | apply below_alloc | apply pw_below_drewN | apply below_drew1 | refine below_set ?_ (IsS54.ge HI0.out) | refine below_set ?_ GE330.out) | exact HB.out)); (case side3 => exact Kd.V_mono (HO1.out) (fun k_ hk_ => ⟨hk_, hk_.1.2⟩)); (case side4 => exact Kd.V_mono (HO2_3.out) (fun k_ hk_ => ⟨hk_, hk_.1.2⟩)); rintro e w98 ⟨v335, rfl, ho0, hi, hb, hk⟩; refine ⟨_, rfl, ?_⟩; have n0_ := Aside0.mk (Kd.V_mono (Kd.V_keep (Kd.V_mono (ok := fun k_ => (((((P1_ k_ ∨ P2_3_ k_) ∨ w.heap.size ≤ k_)) ∧ k_ ≠ g) ∧ k_ ≠ gb330)) (by (with_reducible repeat (first | apply Kd.V_alloc | apply Kd.V_drewN | apply Kd.V_drew)); exact HO1.out) (fun k_ hk_ => (⟨hk_, hk_.1.2⟩ : _ ∧ k_ ≠ g))) hk (fun _ h => h.2)) (fun _ h => h.1)); have n1_ := Aside0.mk (Kd.V_mono (Kd.V_keep (Kd.V_mono (ok := fun k_ => (((((P1_ k_ ∨ P2_3_ k_) ∨ w.heap.size ≤ k_)) ∧ k_ ≠ g) ∧ k_ ≠ gb330)) (by (with_reducible repeat (first | apply Kd.V_alloc | apply Kd.V_drewN | apply Kd.V_drew)); exact HO2_3.out) (fun k_ hk_ => (⟨hk_, hk_.1.2⟩ : _ ∧ k_ ≠ g))) hk (fun _ h => h.2)) (fun _ h => h.1)); have n2_ := Aside0.mk (KeepBut.blk hk (g' := gb330) (o := .cells #[.int .i64 a2_0, .string a2_1, .int .i64 a2_2, .slice A2_3 l2_3.length c2_3] 25 (0, 0)) (by (with_reducible repeat (first | refine blk_drewN ?_ _ | refine blk_drew ?_ | refine blk_alloc ?_ _)); exact BK330.out) NB330_0.out (by simp)); have n3_ := Aside0.mk (Kd.V_lower (Kd.V_mono (ok' := fun k_ => ((P1_ k_ ∨ P2_3_ k_) ∨ w.heap.size ≤ k_) ∧ k_ ≠ gb330 ∧ k_ ≠ g) ho0 (fun k_ hk_ => ⟨Or.elim hk_ (fun hs_ => Or.elim hs_ (fun hs_ => hs_.1.1) (fun hs_ => hs_.1.1)) (fun hn_ => (.inr (Nat.le_trans (keep_size (w := w) (g := g) (row := none) (by repeat (first | (with_reducible first | exact HK.out | apply KeepBut.set_ | apply keep_drewN | apply keep_drew | apply keep_alloc | refine keep_far ?_ GW330.out _) | exact HK.out))) hn_))), Or.elim hk_ (fun hs_ => Or.elim hs_ (fun hs_ => hs_.2) (fun hs_ => hs_.2)) (fun hn_ => (Kd.freshB (g := gb330) (o := .cells #[.int .i64 a2_0, .string a2_1, .int .i64 a2_2, .slice A2_3 l2_3.length c2_3] 25 (0, 0)) (by (with_reducible repeat (first | refine blk_drewN ?_ _ | refine blk_drew ?_ | refine blk_alloc ?_ _)); exact BK330.out) k_ hn_)), Or.elim hk_ (fun hs_ => Or.elim hs_ (fun hs_ => hs_.1.2) (fun hs_ => hs_.1.2)) (fun hn_ => (IsS54.fresh (by repeat (first | (with_reducible first | exact HI0.out | apply IsS54.alloc | apply IsS54.drewN | apply IsS54.drew | apply IsS54.set_0 | refine IsS54.far ?_ NB0_330.out _) | exact HI0.out)) k_ hn_))⟩)) (keep_size (w := w) (g := g) (row := none) (by repeat (first | (with_reducible first | exact HK.out | apply KeepBut.set_ | apply keep_drewN | apply keep_drew | apply keep_alloc | refine keep_far ?_ GW330.out _) | exact HK.out)))); have n4_ := Aside0.mk (KeepBut.trans (by repeat (first | (with_reducible first | exact HK.out | apply KeepBut.set_ | apply keep_drewN | apply keep_drew | apply keep_alloc | refine keep_far ?_ GW330.out _) | exact HK.out)) hk (.inl rfl)); have n5_ := Aside0.mk (hb); have n6_ := Aside0.mk (hi); clear HO1; clear HO2_3; clear BK330; clear HK; clear HB; clear HI0; have HO1 := n0_; have HO2_3 := n1_; have BK330 := n2_; have HO336 := n3_; have HK := n4_; have HB := n5_; have HI0 := n6_; clear n0_ n1_ n2_ n3_ n4_ n5_ n6_; (try clear hb); (try clear hb2); (try clear hk); (try clear hi); (try clear ho0); have hcz99_0 : w98.cell? ⟨gb330, 0, none⟩ = some (.int .i64 a2_0) := (blk_cell BK330.out 0).trans rfl; have hcz99_1 : w98.cell? ⟨gb330, 1, none⟩ = some (.string a2_1) := (blk_cell BK330.out 1).trans rfl; have hcz99_2 : w98.cell? ⟨gb330, 2, none⟩ = some (.int .i64 a2_2) := (blk_cell BK330.out 2).trans rfl; have hcz99_3 : w98.cell? ⟨gb330, 3, none⟩ = some (.slice A2_3 l2_3.length c2_3) := (blk_cell BK330.out 3).trans rfl; have hfz99_0 := blk_frozen BK330.out 0; have hfz99_1 := blk_frozen BK330.out 1; have hfz99_2 := blk_frozen BK330.out 2; have hfz99_3 := blk_frozen BK330.out 3; obtain ⟨Ao100, co100, eo100⟩ := Kd.V_slice HO336.out; subst eo100))
            go_ret2
            exact ⟨by first | rfl | (simp [errW_none, errW_some] <;> rfl) | (simp [*, errW_none, errW_some] <;> rfl), by repeat (first | (with_reducible first | exact HI0.out | apply IsS54.alloc | apply IsS54.drewN | apply IsS54.drew | apply IsS54.set_0 | refine IsS54.far ?_ NB0_330.out _) | exact HI0.out), by repeat (first | (with_reducible first | exact HB.out | apply below_alloc | apply pw_below_drewN | apply below_drew1 | refine below_set ?_ (IsS54.ge HI0.out) | refine below_set ?_ GE330.out) | exact HB.out), by repeat (first | (with_reducible first | exact HK.out | apply KeepBut.set_ | apply keep_drewN | apply keep_drew | apply keep_alloc | refine keep_far ?_ GW330.out _) | exact HK.out)⟩
    · rw [if_neg c8] at H
      have c8b0 : (t337 == 0) = false := beq_eq_false_iff_ne.mpr c8
      have c8b1 : (t337 != 0) = true := bne_iff_ne.mpr c8
      simp only [Option.some.injEq, Prod.mk.injEq] at H
      obtain ⟨rfl, rfl, rfl⟩ := H
      go_enter Try.func25, Try.ntmps25
      go_wp2_with (first | ((with_reducible refine gate_dst (N := 6) rfl ?_); refine box_event ?hg (N := 6) ?hd (cs := #[.int .i64 a2_0, .string a2_1, .int .i64 a2_2, .slice A2_3 l2_3.length c2_3]) (t := 25) ?hr ?_; (case hd => rfl); (case hg => rfl); (case hr => first | (go_simp; done) | (go_simp; rfl)); intro gb330 hg w101 hbox hb; have n0_ := Aside0.mk (Kd.V_below (Kd.V_elderB (by (with_reducible repeat (first | apply Kd.V_alloc | apply Kd.V_drewN | apply Kd.V_drew)); exact HO1.out) gb330 (Nat.le_of_eq hg.symm)) hb); have n1_ := Aside0.mk (Kd.V_below (Kd.V_elderB (by (with_reducible repeat (first | apply Kd.V_alloc | apply Kd.V_drewN | apply Kd.V_drew)); exact HO2_3.out) gb330 (Nat.le_of_eq hg.symm)) hb); have n2_ := Aside0.mk (IsS54.below (by repeat (first | (with_reducible first | exact HI0.out | apply IsS54.alloc | apply IsS54.drewN | apply IsS54.drew | apply IsS54.set_0) | exact HI0.out)) hb); have n3_ := Aside0.mk (KeepBut.trans (by repeat (first | (with_reducible first | exact HK.out | apply KeepBut.set_ | apply keep_drewN | apply keep_drew | apply keep_alloc) | exact HK.out)) (KeepBut.of_below hb g none) (.inl rfl)); have n4_ := Aside0.mk (below_step (by repeat (first | (with_reducible first | exact HB.out | apply below_alloc | apply pw_below_drewN | apply below_drew1 | refine below_set ?_ (IsS54.ge HI0.out)) | exact HB.out)) hb); have n5_ := Aside0.mk (hbox); have n6_ := Aside0.mk ((by rw [hg]; exact (keep_size (w := w) (g := g) (row := none) (by repeat (first | (with_reducible first | exact HK.out | apply KeepBut.set_ | apply keep_drewN | apply keep_drew | apply keep_alloc) | exact HK.out))) : w.heap.size ≤ gb330)); have n7_ := Aside0.mk ((Nat.le_trans HW0.out (by rw [hg]; exact (keep_size (w := w) (g := g) (row := none) (by repeat (first | (with_reducible first | exact HK.out | apply KeepBut.set_ | apply keep_drewN | apply keep_drew | apply keep_alloc) | exact HK.out))) : w.heap.size ≤ gb330) : w0.heap.size ≤ gb330)); have n8_ := Aside0.mk ((by rw [hg]; exact Nat.ne_of_lt (IsS54.lt (show IsS54 w0 _ g s0_0 from by repeat (first | (with_reducible first | exact HI0.out | apply IsS54.alloc | apply IsS54.drewN | apply IsS54.drew | apply IsS54.set_0) | exact HI0.out))) : g ≠ gb330)); have n9_ := Aside0.mk ((by rw [hg]; exact Nat.ne_of_gt (IsS54.lt (show IsS54 w0 _ g s0_0 from by repeat (first | (with_reducible first | exact HI0.out | apply IsS54.alloc | apply IsS54.drewN | apply IsS54.drew | apply IsS54.set_0) | exact HI0.out))) : gb330 ≠ g)); clear HO1; clear HO2_3; clear HI0; clear HK; clear HB; have HO1 := n0_; have HO2_3 := n1_; have HI0 := n2_; have HK := n3_; have HB := n4_; have BK330 := n5_; have GW330 := n6_; have GE330 := n7_; have NB0_330 := n8_; have NB330_0 := n9_; clear n0_ n1_ n2_ n3_ n4_ n5_ n6_ n7_ n8_ n9_; clear hb hbox hg; have hnb102 := NB330_0.out; have hnc102 := NB0_330.out; have hcz103_0 : w101.cell? ⟨gb330, 0, none⟩ = some (.int .i64 a2_0) := (blk_cell BK330.out 0).trans rfl; have hcz103_1 : w101.cell? ⟨gb330, 1, none⟩ = some (.string a2_1) := (blk_cell BK330.out 1).trans rfl; have hcz103_2 : w101.cell? ⟨gb330, 2, none⟩ = some (.int .i64 a2_2) := (blk_cell BK330.out 2).trans rfl; have hcz103_3 : w101.cell? ⟨gb330, 3, none⟩ = some (.slice A2_3 l2_3.length c2_3) := (blk_cell BK330.out 3).trans rfl; have hfz103_0 := blk_frozen BK330.out 0; have hfz103_1 := blk_frozen BK330.out 1; have hfz103_2 := blk_frozen BK330.out 2; have hfz103_3 := blk_frozen BK330.out 3) | ((with_reducible refine gate_callee (f := 31) rfl ?_); refine goesL_ (some 23) rfl rfl Try.func31 (by kernel_rfl) rfl #[.pointer (some ⟨g, 0, none⟩), .slice A1 l1.length c1, .agg #[.int .i64 a2_0, .string a2_1, .int .i64 a2_2, .slice A2_3 l2_3.length c2_3]] rfl (by (try simp only [List.map_toArray, List.map_cons, List.map_nil]); first | done | rfl | (simp only [List.length_drop, List.length_take]; rfl)) ?_; (with_reducible refine (spinneyref09_Meter_Meet.calls k g s0_0 (fun k_ => ((((P1_ k_ ∨ P2_3_ k_) ∨ w.heap.size ≤ k_) ∧ k_ ≠ g) ∧ k_ ≠ gb330)) _ _ l1 a2_0 a2_1 a2_2 (fun k_ => ((((P1_ k_ ∨ P2_3_ k_) ∨ w.heap.size ≤ k_) ∧ k_ ≠ g) ∧ k_ ≠ gb330)) _ _ l2_3 t331 t332 t333 t334 t337 t338 w0 _ ?side1 ?side2 ?side3 ?side4 A7.out).mono ?_); (case side1 => repeat (first | (with_reducible first | exact HI0.out | apply IsS54.alloc | apply IsS54.drewN | apply IsS54.drew | apply IsS54.set_0 | refine IsS54.far ?_ NB0_330.out _) | exact HI0.out)); (case side2 => repeat (first | (with_reducible first | exact HB.out | apply below_alloc | apply pw_below_drewN | apply below_drew1 | refine below_set ?_ (IsS54.ge HI0.out) | refine below_set ?_ GE330.out) | exact HB.out)); (case side3 => exact Kd.V_mono (HO1.out) (fun k_ hk_ => ⟨hk_, hk_.1.2⟩)); (case side4 => exact Kd.V_mono (HO2_3.out) (fun k_ hk_ => ⟨hk_, hk_.1.2⟩)); rintro e w104 ⟨v335, rfl, ho0, hi, hb, hk⟩; refine ⟨_, rfl, ?_⟩; have n0_ := Aside0.mk (Kd.V_mono (Kd.V_keep (Kd.V_mono (ok := fun k_ => (((((P1_ k_ ∨ P2_3_ k_) ∨ w.heap.size ≤ k_)) ∧ k_ ≠ g) ∧ k_ ≠ gb330)) (by (with_reducible repeat (first | apply Kd.V_alloc | apply Kd.V_drewN | apply Kd.V_drew)); exact HO1.out) (fun k_ hk_ => (⟨hk_, hk_.1.2⟩ : _ ∧ k_ ≠ g))) hk (fun _ h => h.2)) (fun _ h => h.1)); have n1_ := Aside0.mk (Kd.V_mono (Kd.V_keep (Kd.V_mono (ok := fun k_ => (((((P1_ k_ ∨ P2_3_ k_) ∨ w.heap.size ≤ k_)) ∧ k_ ≠ g) ∧ k_ ≠ gb330)) (by (with_reducible repeat (first | apply Kd.V_alloc | apply Kd.V_drewN | apply Kd.V_drew)); exact HO2_3.out) (fun k_ hk_ => (⟨hk_, hk_.1.2⟩ : _ ∧ k_ ≠ g))) hk (fun _ h => h.2)) (fun _ h => h.1)); have n2_ := Aside0.mk (KeepBut.blk hk (g' := gb330) (o := .cells #[.int .i64 a2_0, .string a2_1, .int .i64 a2_2, .slice A2_3 l2_3.length c2_3] 25 (0, 0)) (by (with_reducible repeat (first | refine blk_drewN ?_ _ | refine blk_drew ?_ | refine blk_alloc ?_ _)); exact BK330.out) NB330_0.out (by simp)); have n3_ := Aside0.mk (Kd.V_lower (Kd.V_mono (ok' := fun k_ => ((P1_ k_ ∨ P2_3_ k_) ∨ w.heap.size ≤ k_) ∧ k_ ≠ gb330 ∧ k_ ≠ g) ho0 (fun k_ hk_ => ⟨Or.elim hk_ (fun hs_ => Or.elim hs_ (fun hs_ => hs_.1.1) (fun hs_ => hs_.1.1)) (fun hn_ => (.inr (Nat.le_trans (keep_size (w := w) (g := g) (row := none) (by repeat (first | (with_reducible first | exact HK.out | apply KeepBut.set_ | apply keep_drewN | apply keep_drew | apply keep_alloc | refine keep_far ?_ GW330.out _) | exact HK.out))) hn_))), Or.elim hk_ (fun hs_ => Or.elim hs_ (fun hs_ => hs_.2) (fun hs_ => hs_.2)) (fun hn_ => (Kd.freshB (g := gb330) (o := .cells #[.int .i64 a2_0, .string a2_1, .int .i64 a2_2, .slice A2_3 l2_3.length c2_3] 25 (0, 0)) (by (with_reducible repeat (first | refine blk_drewN ?_ _ | refine blk_drew ?_ | refine blk_alloc ?_ _)); exact BK330.out) k_ hn_)), Or.elim hk_ (fun hs_ => Or.elim hs_ (fun hs_ => hs_.1.2) (fun hs_ => hs_.1.2)) (fun hn_ => (IsS54.fresh (by repeat (first | (with_reducible first | exact HI0.out | apply IsS54.alloc | apply IsS54.drewN | apply IsS54.drew | apply IsS54.set_0 | refine IsS54.far ?_ NB0_330.out _) | exact HI0.out)) k_ hn_))⟩)) (keep_size (w := w) (g := g) (row := none) (by repeat (first | (with_reducible first | exact HK.out | apply KeepBut.set_ | apply keep_drewN | apply keep_drew | apply keep_alloc | refine keep_far ?_ GW330.out _) | exact HK.out)))); have n4_ := Aside0.mk (KeepBut.trans (by repeat (first | (with_reducible first | exact HK.out | apply KeepBut.set_ | apply keep_drewN | apply keep_drew | apply keep_alloc | refine keep_far ?_ GW330.out _) | exact HK.out)) hk (.inl rfl)); have n5_ := Aside0.mk (hb); have n6_ := Aside0.mk (hi); clear HO1; clear HO2_3; clear BK330; clear HK; clear HB; clear HI0; have HO1 := n0_; have HO2_3 := n1_; have BK330 := n2_; have HO336 := n3_; have HK := n4_; have HB := n5_; have HI0 := n6_; clear n0_ n1_ n2_ n3_ n4_ n5_ n6_; (try clear hb); (try clear hb2); (try clear hk); (try clear hi); (try clear ho0); have hcz105_0 : w104.cell? ⟨gb330, 0, none⟩ = some (.int .i64 a2_0) := (blk_cell BK330.out 0).trans rfl; have hcz105_1 : w104.cell? ⟨gb330, 1, none⟩ = some (.string a2_1) := (blk_cell BK330.out 1).trans rfl; have hcz105_2 : w104.cell? ⟨gb330, 2, none⟩ = some (.int .i64 a2_2) := (blk_cell BK330.out 2).trans rfl; have hcz105_3 : w104.cell? ⟨gb330, 3, none⟩ = some (.slice A2_3 l2_3.length c2_3) := (blk_cell BK330.out 3).trans rfl; have hfz105_0 := blk_frozen BK330.out 0; have hfz105_1 := blk_frozen BK330.out 1; have hfz105_2 := blk_frozen BK330.out 2; have hfz105_3 := blk_frozen BK330.out 3; obtain ⟨Ao106, co106, eo106⟩ := Kd.V_slice HO336.out; subst eo106))
      go_ret2
      exact ⟨by first | rfl | (simp [errW_none, errW_some] <;> rfl) | (simp [*, errW_none, errW_some] <;> rfl), by repeat (first | (with_reducible first | exact HI0.out | apply IsS54.alloc | apply IsS54.drewN | apply IsS54.drew | apply IsS54.set_0 | refine IsS54.far ?_ NB0_330.out _) | exact HI0.out), by repeat (first | (with_reducible first | exact HB.out | apply below_alloc | apply pw_below_drewN | apply below_drew1 | refine below_set ?_ (IsS54.ge HI0.out) | refine below_set ?_ GE330.out) | exact HB.out), by repeat (first | (with_reducible first | exact HK.out | apply KeepBut.set_ | apply keep_drewN | apply keep_drew | apply keep_alloc | refine keep_far ?_ GW330.out _) | exact HK.out)⟩

end Go.Proofs.Ytmiapolhklapnaa.P
