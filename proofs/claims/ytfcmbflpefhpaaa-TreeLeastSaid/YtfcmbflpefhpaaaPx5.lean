-- PRINTED by a program of this session over the kit's print.py.
import Derived.Test.YtfcmbflpefhpaaaPx0
import Derived.Test.YtfcmbflpefhpaaaPx2
import Derived.Test.YtfcmbflpefhpaaaPx3
import Derived.Test.YtfcmbflpefhpaaaPx4
namespace Go.Proofs.Ytfcmbflpefhpaaa.P
open Go.Own Go.RowKit Go.Proofs.YtfcmbflpefhpaaaW.PrintWords Go.Proofs.YtfcmbflpefhpaaaW.PrintLast Go.Proofs.YtfcmbflpefhpaaaW.PrintMore
attribute [local go_sem] max2_int min2_int max_two min_two max_three min_three max_four min_four   -- for this text's walks alone
set_option linter.unusedVariables false
set_option linter.unusedSimpArgs false

/-! ### spinneylaw21_live: function 6 (given) -/
section
open Go.Shelf
def spinneylaw21_live.f : Option Bool := some true
def spinneylaw21_live.L0 : List S39 := [⟨[1], z37, [2, 4]⟩, ⟨[0, 0], z37, [5]⟩]
theorem spinneylaw21_live.ints (F : World) (b : Nat) (xs : List Int) (hl : xs.length ≤ 9223372036854775807) (hB : F.heap[b]? = some (.cells (xs.map (Value.int .i64)).toArray 3 (0, 0))) : Kd.C (Kd.int .i64) F (some ⟨b, 0, none⟩) xs.length xs :=
  (Kd.R_reads' (R_of_heap (h1 := fun _ => rfl) (base := 0) hB (Nat.zero_le _) hl)).2.2
theorem spinneylaw21_live.lay (F : World) (b0 b1 b2 b3 b4 : Nat) (h0 : F.heap[b0]? = some (.cells #[.int .i64 1] 3 (0, 0))) (h1 : F.heap[b1]? = some (.cells #[.int .i64 2, .int .i64 4] 3 (0, 0))) (h2 : F.heap[b2]? = some (.cells #[.int .i64 0, .int .i64 0] 3 (0, 0))) (h3 : F.heap[b3]? = some (.cells #[.int .i64 5] 3 (0, 0)))
    (h4 : F.heap[b4]? = some (.cells #[.slice (some ⟨b0, 0, none⟩) 1 1, .slice none 0 0, .slice none 0 0, .int .i64 0, .slice (some ⟨b1, 0, none⟩) 2 2, .slice (some ⟨b2, 0, none⟩) 2 2, .slice none 0 0, .slice none 0 0, .int .i64 0, .slice (some ⟨b3, 0, none⟩) 1 1] 39 (0, 0))) : Kd.C k39 F (some ⟨b4, 0, none⟩) 2 spinneylaw21_live.L0 := by
  refine ⟨rfl, by decide, fun _ => ⟨_, rfl, fun j p hj => ?_⟩⟩
  have hc : ∀ i, F.cell? ⟨b4, i, none⟩ = (#[.slice (some ⟨b0, 0, none⟩) 1 1, .slice none 0 0, .slice none 0 0, .int .i64 0, .slice (some ⟨b1, 0, none⟩) 2 2, .slice (some ⟨b2, 0, none⟩) 2 2, .slice none 0 0, .slice none 0 0, .int .i64 0, .slice (some ⟨b3, 0, none⟩) 1 1] : Array Value)[i]? := fun i => blk_cell h4 i
  have hadd : ∀ i, (⟨b4, 0, none⟩ : Addr).add i = ⟨b4, i, none⟩ := fun i => by unfold Addr.add; split <;> simp_all
  have hj2 : j = 0 ∨ j = 1 := by have := (List.getElem?_eq_some_iff.1 hj).1; simp [spinneylaw21_live.L0] at this; omega
  rcases hj2 with rfl | rfl
  · obtain rfl := Option.some.inj hj
    refine ⟨_, rfl, k39_mk F ⟨[1], z37, [2, 4]⟩ (c0 := 1) (Nat.le_refl _) (spinneylaw21_live.ints F b0 [1] (by decide) h0) (c1 := 0) (Nat.le_refl _) (Kd.C_nil _ _) (c2 := 0) (Nat.le_refl _) (Kd.C_nil _ _) (c4 := 2) (Nat.le_refl _) (spinneylaw21_live.ints F b1 [2, 4] (by decide) h1), fun i u hu => ?_⟩
    rw [hadd, hc]
    have hi : i < 5 := (List.getElem?_eq_some_iff.1 hu).1
    rcases (show i = 0 ∨ i = 1 ∨ i = 2 ∨ i = 3 ∨ i = 4 by omega) with rfl | rfl | rfl | rfl | rfl <;> exact hu
  · obtain rfl := Option.some.inj hj
    refine ⟨_, rfl, k39_mk F ⟨[0, 0], z37, [5]⟩ (c0 := 2) (Nat.le_refl _) (spinneylaw21_live.ints F b2 [0, 0] (by decide) h2) (c1 := 0) (Nat.le_refl _) (Kd.C_nil _ _) (c2 := 0) (Nat.le_refl _) (Kd.C_nil _ _) (c4 := 1) (Nat.le_refl _) (spinneylaw21_live.ints F b3 [5] (by decide) h3), fun i u hu => ?_⟩
    rw [hadd, hc]
    have hi : i < 5 := (List.getElem?_eq_some_iff.1 hu).1
    rcases (show i = 0 ∨ i = 1 ∨ i = 2 ∨ i = 3 ∨ i = 4 by omega) with rfl | rfl | rfl | rfl | rfl <;> exact hu
theorem spinneylaw21_live.open_ : tree_Open.f 0 spinneylaw21_live.L0 = some [[1, 2], [1, 4], [0, 0, 5]] := by
  unfold tree_Open.f
  rw [if_pos (by refine ⟨by decide, ?_, by decide⟩; intro c hc; simp [spinneylaw21_live.L0] at hc; rcases hc with rfl | rfl <;> decide)]
  rfl
theorem spinneylaw21_live.all_ : spinneyref19_SameAll.f 20 [[1, 2], [1, 4], [0, 0, 5]] [[1, 2], [1, 4], [0, 0, 5]] = some true := by kernel_rfl
theorem spinneylaw21_live.cnt_ : tree_Count.f 20 spinneylaw21_live.L0 = some 3 := by kernel_rfl
theorem spinneylaw21_live.least_ : tree_Least.f 20 spinneylaw21_live.L0 = some 1 := by
  unfold tree_Least.f
  rw [if_pos (by refine ⟨by decide, ?_⟩; intro c hc; simp [spinneylaw21_live.L0] at hc; rcases hc with rfl | rfl <;> decide)]
  decide
theorem spinneylaw21_live.ints_ : spinneyref08_SameInts.f 20 [5] [5] = some true := by kernel_rfl
theorem spinneylaw21_live.fits_ : tree_Prune.fits spinneylaw21_live.L0 [1, 1] 1 := by
  refine ⟨by decide, fun c hc => ?_⟩
  simp [spinneylaw21_live.L0] at hc
  rcases hc with rfl | rfl
  · refine ⟨by decide, by decide, fun i hi => ?_⟩
    simp at hi
    rcases hi with rfl | rfl
    · exact ⟨true, by decide⟩
    · exact ⟨true, by decide⟩
  · refine ⟨by decide, by decide, fun i hi => ?_⟩
    simp at hi
    subst hi
    exact ⟨false, by decide⟩
theorem spinneylaw21_live.len_ : (tree_Prune.all spinneylaw21_live.L0 [1, 1] 1).length = 1 := by decide
theorem spinneylaw21_live.lay2 (F : World) (b0 b1 b2 b3 : Nat) (h0 : F.heap[b0]? = some (.cells #[.int .i64 1, .int .i64 2] 3 (0, 0))) (h1 : F.heap[b1]? = some (.cells #[.int .i64 1, .int .i64 4] 3 (0, 0))) (h2 : F.heap[b2]? = some (.cells #[.int .i64 0, .int .i64 0, .int .i64 5] 3 (0, 0)))
    (h3 : F.heap[b3]? = some (.cells #[.slice (some ⟨b0, 0, none⟩) 2 2, .slice (some ⟨b1, 0, none⟩) 2 2, .slice (some ⟨b2, 0, none⟩) 3 3] 30 (0, 0))) : Kd.C (Kd.slice 3 (Kd.int .i64)) F (some ⟨b3, 0, none⟩) 3 [[1, 2], [1, 4], [0, 0, 5]] := by
  refine ⟨rfl, by decide, fun _ => ⟨_, rfl, fun j p hj => ?_⟩⟩
  have hc : ∀ i, F.cell? ⟨b3, i, none⟩ = (#[.slice (some ⟨b0, 0, none⟩) 2 2, .slice (some ⟨b1, 0, none⟩) 2 2, .slice (some ⟨b2, 0, none⟩) 3 3] : Array Value)[i]? := fun i => blk_cell h3 i
  have hadd : ∀ i, (⟨b3, 0, none⟩ : Addr).add i = ⟨b3, i, none⟩ := fun i => by unfold Addr.add; split <;> simp_all
  have hj2 : j = 0 ∨ j = 1 ∨ j = 2 := by have := (List.getElem?_eq_some_iff.1 hj).1; simp at this; omega
  have hone : ∀ (u v : Value) (i : Nat), [v][i]? = some u → i = 0 ∧ v = u := fun u v i hu => by
    have h1 : i = 0 := by have := (List.getElem?_eq_some_iff.1 hu).1; simp at this; omega
    subst h1
    exact ⟨rfl, Option.some.inj hu⟩
  rcases hj2 with rfl | rfl | rfl
  · obtain rfl := Option.some.inj hj
    refine ⟨_, rfl, ⟨_, 2, rfl, Nat.le_refl _, spinneylaw21_live.ints F b0 [1, 2] (by decide) h0⟩, fun i u hu => ?_⟩
    obtain ⟨rfl, rfl⟩ := hone u _ i hu
    rw [hadd, hc]; rfl
  · obtain rfl := Option.some.inj hj
    refine ⟨_, rfl, ⟨_, 2, rfl, Nat.le_refl _, spinneylaw21_live.ints F b1 [1, 4] (by decide) h1⟩, fun i u hu => ?_⟩
    obtain ⟨rfl, rfl⟩ := hone u _ i hu
    rw [hadd, hc]; rfl
  · obtain rfl := Option.some.inj hj
    refine ⟨_, rfl, ⟨_, 3, rfl, Nat.le_refl _, spinneylaw21_live.ints F b2 [0, 0, 5] (by decide) h2⟩, fun i u hu => ?_⟩
    obtain ⟨rfl, rfl⟩ := hone u _ i hu
    rw [hadd, hc]; rfl
set_option maxRecDepth 100000 in
set_option maxHeartbeats 8000000 in
theorem spinneylaw21_live.calls (r : Bool) (w : World) (h : spinneylaw21_live.f = some r) : Calls Try.prog 6 #[] w fun e w' => e = .returned (.bool r) ∧ Below w.heap.size w w' := by
  obtain rfl := Option.some.inj h
  have hu39 := Try.underlying39
  go_enter Try.func6, Try.ntmps6
  go_wp2_with (go_at_call 20; fail)
  have g0 := ((((BoxN.new w 3 #[.int .i64 1]).alloc (.cells #[.int .i64 2, .int .i64 4] 3)).alloc (.cells #[.int .i64 0, .int .i64 0] 3)).alloc (.cells #[.int .i64 5] 3)).alloc (.cells #[.slice (some ⟨w.heap.size, 0, none⟩) 1 1, .slice none 0 0, .slice none 0 0, .int .i64 0, .slice (some ⟨w.heap.size + 1, 0, none⟩) 2 2, .slice (some ⟨w.heap.size + 1 + 1, 0, none⟩) 2 2, .slice none 0 0, .slice none 0 0, .int .i64 0, .slice (some ⟨w.heap.size + 1 + 1 + 1, 0, none⟩) 1 1] 39)
  have g1 := (((BoxN.new (w.alloc (.cells #[.int .i64 1] 3)) 3 #[.int .i64 2, .int .i64 4]).alloc (.cells #[.int .i64 0, .int .i64 0] 3)).alloc (.cells #[.int .i64 5] 3)).alloc (.cells #[.slice (some ⟨w.heap.size, 0, none⟩) 1 1, .slice none 0 0, .slice none 0 0, .int .i64 0, .slice (some ⟨w.heap.size + 1, 0, none⟩) 2 2, .slice (some ⟨w.heap.size + 1 + 1, 0, none⟩) 2 2, .slice none 0 0, .slice none 0 0, .int .i64 0, .slice (some ⟨w.heap.size + 1 + 1 + 1, 0, none⟩) 1 1] 39)
  have g2 := ((BoxN.new ((w.alloc (.cells #[.int .i64 1] 3)).alloc (.cells #[.int .i64 2, .int .i64 4] 3)) 3 #[.int .i64 0, .int .i64 0]).alloc (.cells #[.int .i64 5] 3)).alloc (.cells #[.slice (some ⟨w.heap.size, 0, none⟩) 1 1, .slice none 0 0, .slice none 0 0, .int .i64 0, .slice (some ⟨w.heap.size + 1, 0, none⟩) 2 2, .slice (some ⟨w.heap.size + 1 + 1, 0, none⟩) 2 2, .slice none 0 0, .slice none 0 0, .int .i64 0, .slice (some ⟨w.heap.size + 1 + 1 + 1, 0, none⟩) 1 1] 39)
  have g3 := (BoxN.new (((w.alloc (.cells #[.int .i64 1] 3)).alloc (.cells #[.int .i64 2, .int .i64 4] 3)).alloc (.cells #[.int .i64 0, .int .i64 0] 3)) 3 #[.int .i64 5]).alloc (.cells #[.slice (some ⟨w.heap.size, 0, none⟩) 1 1, .slice none 0 0, .slice none 0 0, .int .i64 0, .slice (some ⟨w.heap.size + 1, 0, none⟩) 2 2, .slice (some ⟨w.heap.size + 1 + 1, 0, none⟩) 2 2, .slice none 0 0, .slice none 0 0, .int .i64 0, .slice (some ⟨w.heap.size + 1 + 1 + 1, 0, none⟩) 1 1] 39)
  have g4 := BoxN.new ((((w.alloc (.cells #[.int .i64 1] 3)).alloc (.cells #[.int .i64 2, .int .i64 4] 3)).alloc (.cells #[.int .i64 0, .int .i64 0] 3)).alloc (.cells #[.int .i64 5] 3)) 39 #[.slice (some ⟨w.heap.size, 0, none⟩) 1 1, .slice none 0 0, .slice none 0 0, .int .i64 0, .slice (some ⟨w.heap.size + 1, 0, none⟩) 2 2, .slice (some ⟨w.heap.size + 1 + 1, 0, none⟩) 2 2, .slice none 0 0, .slice none 0 0, .int .i64 0, .slice (some ⟨w.heap.size + 1 + 1 + 1, 0, none⟩) 1 1]
  have hb5 : Below w.heap.size w (((((w.alloc (.cells #[.int .i64 1] 3)).alloc (.cells #[.int .i64 2, .int .i64 4] 3)).alloc (.cells #[.int .i64 0, .int .i64 0] 3)).alloc (.cells #[.int .i64 5] 3)).alloc (.cells #[.slice (some ⟨w.heap.size, 0, none⟩) 1 1, .slice none 0 0, .slice none 0 0, .int .i64 0, .slice (some ⟨w.heap.size + 1, 0, none⟩) 2 2, .slice (some ⟨w.heap.size + 1 + 1, 0, none⟩) 2 2, .slice none 0 0, .slice none 0 0, .int .i64 0, .slice (some ⟨w.heap.size + 1 + 1 + 1, 0, none⟩) 1 1] 39)) :=
    ((((((Below.refl _ w).alloc (Nat.le_refl _) _).alloc (by simp) _).alloc (by simp; omega) _).alloc (by simp; omega) _).alloc (by simp; omega) _)
  simp only [World.size_alloc] at g0 g1 g2 g3 g4
  obtain ⟨W5, hW5⟩ : ∃ W5, (((((w.alloc (.cells #[.int .i64 1] 3)).alloc (.cells #[.int .i64 2, .int .i64 4] 3)).alloc (.cells #[.int .i64 0, .int .i64 0] 3)).alloc (.cells #[.int .i64 5] 3)).alloc (.cells #[.slice (some ⟨w.heap.size, 0, none⟩) 1 1, .slice none 0 0, .slice none 0 0, .int .i64 0, .slice (some ⟨w.heap.size + 1, 0, none⟩) 2 2, .slice (some ⟨w.heap.size + 1 + 1, 0, none⟩) 2 2, .slice none 0 0, .slice none 0 0, .int .i64 0, .slice (some ⟨w.heap.size + 1 + 1 + 1, 0, none⟩) 1 1] 39)) = W5 := ⟨_, rfl⟩
  rw [hW5] at g0 g1 g2 g3 g4 hb5 ⊢
  clear hW5
  have hC := spinneylaw21_live.lay W5 _ _ _ _ _ g0 g1 g2 g3 g4
  have hcap : ∀ AL cL, W5.cell? ⟨w.heap.size + 1 + 1 + 1 + 1, 0 + 5 + 4, none⟩ = some (.slice AL 1 cL) → cL = 1 := fun AL cL h => by
    rw [blk_cell g4 9] at h
    injection (Option.some.inj (show some (Value.slice (some ⟨w.heap.size + 1 + 1 + 1, 0, none⟩) 1 1) = some (.slice AL 1 cL) from h)) with _ _ h3
    exact h3.symm
  clear g0 g1 g2 g3 g4
  generalize hnb : w.heap.size + 1 + 1 + 1 + 1 = nb at hC hcap ⊢
  refine (tree_Take.calls ⟨nb, 0, none⟩ 2 spinneylaw21_live.L0 5 W5 hC (Nat.le_refl _) rfl rfl (by decide) (by decide) hcap).mono ?_
  rintro e w6 ⟨B0, B1, B2, n0, n1, n2, d0, d1, d2, i3, AL, cL, cm, Am, rfl, hcL, hCL, hb6⟩
  have hbw6 : Below w.heap.size w w6 := hb5.trans (hb6.mono hb5.size)
  have hC6 := Kd.C_below hC hb6
  replace hC := Aside0.mk hC
  replace hb5 := Aside0.mk hb5
  replace hb6 := Aside0.mk hb6
  clear hcap hnb
  go_wp2_with (first | ((with_reducible refine gate_dst (N := 2) rfl ?_); refine box_event ?hg (N := 2) ?hd (cs := #[.slice none 0 0, .slice none 0 0, .slice none 0 0, .int .i64 0, .slice none 0 0]) (t := 39) ?hr ?_; (case hd => rfl); (case hg => rfl); (case hr => first | (go_simp; done) | (go_simp; rfl)); intro g2 hg2 w7 hbox2 hb7; have hcz0 : w7.cell? ⟨g2, 0, none⟩ = some (.slice none 0 0) := (blk_cell hbox2 0).trans rfl; have hcz1 : w7.cell? ⟨g2, 1, none⟩ = some (.slice none 0 0) := (blk_cell hbox2 1).trans rfl; have hcz2 : w7.cell? ⟨g2, 2, none⟩ = some (.slice none 0 0) := (blk_cell hbox2 2).trans rfl; have hcz3 : w7.cell? ⟨g2, 3, none⟩ = some (.int .i64 0) := (blk_cell hbox2 3).trans rfl; have hcz4 : w7.cell? ⟨g2, 4, none⟩ = some (.slice none 0 0) := (blk_cell hbox2 4).trans rfl; have hfz0 := blk_frozen hbox2 0; have hfz1 := blk_frozen hbox2 1; have hfz2 := blk_frozen hbox2 2; have hfz3 := blk_frozen hbox2 3; have hfz4 := blk_frozen hbox2 4; replace hbox2 := Aside0.mk hbox2; replace hb7 := Aside0.mk hb7; replace hg2 := Aside0.mk hg2) | (go_at_call 9; fail))
  have hg2' := hg2.out
  have hge2 : w6.heap.size ≤ g2 := Nat.le_of_eq hg2'.symm
  have hbW8 : Below w6.heap.size w6 (((((w7.setCell ⟨g2, 0, none⟩ (.slice B0 n0 d0)).setCell ⟨g2, 1, none⟩ (.slice B1 n1 d1)).setCell ⟨g2, 2, none⟩ (.slice B2 n2 d2)).setCell ⟨g2, 3, none⟩ (.int .i64 i3)).setCell ⟨g2, 4, none⟩ (.slice AL 1 cL)) := ((((hb7.out.setCell (p := ⟨g2, 0, none⟩) hge2 _).setCell (p := ⟨g2, 1, none⟩) hge2 _).setCell (p := ⟨g2, 2, none⟩) hge2 _).setCell (p := ⟨g2, 3, none⟩) hge2 _).setCell (p := ⟨g2, 4, none⟩) hge2 _
  have hB8 := blk_put (blk_put (blk_put (blk_put (blk_put hbox2.out 0 (.slice B0 n0 d0) rfl) 1 (.slice B1 n1 d1) rfl) 2 (.slice B2 n2 d2) rfl) 3 (.int .i64 i3) rfl) 4 (.slice AL 1 cL) rfl
  obtain ⟨W8, hW8⟩ : ∃ W8, (((((w7.setCell ⟨g2, 0, none⟩ (.slice B0 n0 d0)).setCell ⟨g2, 1, none⟩ (.slice B1 n1 d1)).setCell ⟨g2, 2, none⟩ (.slice B2 n2 d2)).setCell ⟨g2, 3, none⟩ (.int .i64 i3)).setCell ⟨g2, 4, none⟩ (.slice AL 1 cL)) = W8 := ⟨_, rfl⟩
  rw [hW8] at hbW8 hB8 ⊢
  have hB8' : BoxN W8 g2 39 #[.slice B0 n0 d0, .slice B1 n1 d1, .slice B2 n2 d2, .int .i64 i3, .slice AL 1 cL] := hB8.trans rfl
  clear hW8 hB8 hcz0 hcz1 hcz2 hcz3 hcz4 hfz0 hfz1 hfz2 hfz3 hfz4 hbox2 hb7 hg2'
  have hC8 := Kd.C_below hC6 hbW8
  have hCL8 := Kd.C_below hCL hbW8
  have hbw8 : Below w.heap.size w W8 := hbw6.trans (hbW8.mono hbw6.size)
  refine (tree_Open.calls 0 (some ⟨nb, 0, none⟩) 2 spinneylaw21_live.L0 _ W8 hC8 (Nat.le_refl _) spinneylaw21_live.open_).mono ?_
  rintro e w9 ⟨v19, rfl, hS9, hb9⟩
  obtain ⟨A19, c19, e19⟩ := Kd.S_slice hS9
  subst e19
  have hR9 := Kd.R_reads' (Kd.S_R hS9)
  have hB9 : BoxN w9 g2 39 #[.slice B0 n0 d0, .slice B1 n1 d1, .slice B2 n2 d2, .int .i64 i3, .slice AL 1 cL] := (hb9.block g2 hB8'.lt).trans hB8'
  have hC9 := Kd.C_below hC8 hb9
  have hCL9 := Kd.C_below hCL8 hb9
  have hbw9 : Below w.heap.size w w9 := hbw8.trans (hb9.mono hbw8.size)
  clear hS9
  replace hbW8 := Aside0.mk hbW8
  replace hb9 := Aside0.mk hb9
  replace hR9 := Aside0.mk hR9
  go_wp2_with (go_at_call 8; fail)
  have k0 := (((BoxN.new w9 3 #[.int .i64 1, .int .i64 2]).alloc (.cells #[.int .i64 1, .int .i64 4] 3)).alloc (.cells #[.int .i64 0, .int .i64 0, .int .i64 5] 3)).alloc (.cells #[.slice (some ⟨w9.heap.size, 0, none⟩) 2 2, .slice (some ⟨w9.heap.size + 1, 0, none⟩) 2 2, .slice (some ⟨w9.heap.size + 1 + 1, 0, none⟩) 3 3] 30)
  have k1 := ((BoxN.new (w9.alloc (.cells #[.int .i64 1, .int .i64 2] 3)) 3 #[.int .i64 1, .int .i64 4]).alloc (.cells #[.int .i64 0, .int .i64 0, .int .i64 5] 3)).alloc (.cells #[.slice (some ⟨w9.heap.size, 0, none⟩) 2 2, .slice (some ⟨w9.heap.size + 1, 0, none⟩) 2 2, .slice (some ⟨w9.heap.size + 1 + 1, 0, none⟩) 3 3] 30)
  have k2 := (BoxN.new ((w9.alloc (.cells #[.int .i64 1, .int .i64 2] 3)).alloc (.cells #[.int .i64 1, .int .i64 4] 3)) 3 #[.int .i64 0, .int .i64 0, .int .i64 5]).alloc (.cells #[.slice (some ⟨w9.heap.size, 0, none⟩) 2 2, .slice (some ⟨w9.heap.size + 1, 0, none⟩) 2 2, .slice (some ⟨w9.heap.size + 1 + 1, 0, none⟩) 3 3] 30)
  have k3 := BoxN.new (((w9.alloc (.cells #[.int .i64 1, .int .i64 2] 3)).alloc (.cells #[.int .i64 1, .int .i64 4] 3)).alloc (.cells #[.int .i64 0, .int .i64 0, .int .i64 5] 3)) 30 #[.slice (some ⟨w9.heap.size, 0, none⟩) 2 2, .slice (some ⟨w9.heap.size + 1, 0, none⟩) 2 2, .slice (some ⟨w9.heap.size + 1 + 1, 0, none⟩) 3 3]
  have hb10 : Below w9.heap.size w9 ((((w9.alloc (.cells #[.int .i64 1, .int .i64 2] 3)).alloc (.cells #[.int .i64 1, .int .i64 4] 3)).alloc (.cells #[.int .i64 0, .int .i64 0, .int .i64 5] 3)).alloc (.cells #[.slice (some ⟨w9.heap.size, 0, none⟩) 2 2, .slice (some ⟨w9.heap.size + 1, 0, none⟩) 2 2, .slice (some ⟨w9.heap.size + 1 + 1, 0, none⟩) 3 3] 30)) := (((((Below.refl _ w9).alloc (Nat.le_refl _) _).alloc (by simp) _).alloc (by simp; omega) _).alloc (by simp; omega) _)
  simp only [World.size_alloc] at k0 k1 k2 k3
  obtain ⟨W10, hW10⟩ : ∃ W10, ((((w9.alloc (.cells #[.int .i64 1, .int .i64 2] 3)).alloc (.cells #[.int .i64 1, .int .i64 4] 3)).alloc (.cells #[.int .i64 0, .int .i64 0, .int .i64 5] 3)).alloc (.cells #[.slice (some ⟨w9.heap.size, 0, none⟩) 2 2, .slice (some ⟨w9.heap.size + 1, 0, none⟩) 2 2, .slice (some ⟨w9.heap.size + 1 + 1, 0, none⟩) 3 3] 30)) = W10 := ⟨_, rfl⟩
  rw [hW10] at k0 k1 k2 k3 hb10 ⊢
  clear hW10
  have hC2 := spinneylaw21_live.lay2 W10 _ _ _ _ k0 k1 k2 k3
  clear k0 k1 k2 k3
  refine (spinneyref19_SameAll.calls 20 A19 c19 [[1, 2], [1, 4], [0, 0, 5]] _ 3 [[1, 2], [1, 4], [0, 0, 5]] true W10 (Kd.C_below hR9.out.2.2 hb10) hR9.out.2.1 hC2 (Nat.le_refl _) spinneylaw21_live.all_).mono ?_
  rintro e w11 ⟨rfl, hb11⟩
  have hb911 : Below w9.heap.size w9 w11 := hb10.trans (hb11.mono hb10.size)
  have hC11 := Kd.C_below hC9 hb911
  have hCq11 := Kd.C_below hCL9 hb911
  have hB11 : BoxN w11 g2 39 #[.slice B0 n0 d0, .slice B1 n1 d1, .slice B2 n2 d2, .int .i64 i3, .slice AL 1 cL] := (hb911.block g2 hB9.lt).trans hB9
  have hbw11 : Below w.heap.size w w11 := hbw9.trans (hb911.mono hbw9.size)
  replace hb10 := Aside0.mk hb10
  replace hb11 := Aside0.mk hb11
  replace hb911 := Aside0.mk hb911
  go_wp2_with (go_at_call 11; fail)
  refine (tree_Count.calls 20 (some ⟨nb, 0, none⟩) 2 spinneylaw21_live.L0 3 w11 hC11 (Nat.le_refl _) spinneylaw21_live.cnt_).mono ?_
  rintro e w12 ⟨rfl, hb12⟩
  have hC12 := Kd.C_below hC11 hb12
  have hCq12 := Kd.C_below hCq11 hb12
  have hB12 : BoxN w12 g2 39 #[.slice B0 n0 d0, .slice B1 n1 d1, .slice B2 n2 d2, .int .i64 i3, .slice AL 1 cL] := (hb12.block g2 hB11.lt).trans hB11
  have hbw12 : Below w.heap.size w w12 := hbw11.trans (hb12.mono hbw11.size)
  replace hb12 := Aside0.mk hb12
  go_wp2_with (go_at_call 13; fail)
  refine (tree_Least.calls 20 (some ⟨nb, 0, none⟩) 2 spinneylaw21_live.L0 1 w12 hC12 (Nat.le_refl _) spinneylaw21_live.least_).mono ?_
  rintro e w13 ⟨rfl, hb13⟩
  have hC13 := Kd.C_below hC12 hb13
  have hCq13 := Kd.C_below hCq12 hb13
  have hB13 : BoxN w13 g2 39 #[.slice B0 n0 d0, .slice B1 n1 d1, .slice B2 n2 d2, .int .i64 i3, .slice AL 1 cL] := (hb13.block g2 hB12.lt).trans hB12
  have hbw13 : Below w.heap.size w w13 := hbw12.trans (hb13.mono hbw12.size)
  have hd4 : w13.cell? ⟨g2, 4, none⟩ = some (.slice AL 1 cL) := hB13.cell 4
  replace hb13 := Aside0.mk hb13
  go_wp2_with (go_at_call 21; fail)
  have j0 := BoxN.new w13 3 #[.int .i64 5]
  have hb14 : Below w13.heap.size w13 (w13.alloc (.cells #[.int .i64 5] 3)) := (Below.refl _ w13).alloc (Nat.le_refl _) _
  obtain ⟨W14, hW14⟩ : ∃ W14, w13.alloc (.cells #[.int .i64 5] 3) = W14 := ⟨_, rfl⟩
  rw [hW14] at j0 hb14 ⊢
  clear hW14
  refine (spinneyref08_SameInts.calls 20 AL cL [5] (some ⟨w13.heap.size, 0, none⟩) 1 [5] true W14 (Kd.C_below hCq13 hb14) hcL (spinneylaw21_live.ints W14 _ [5] (by decide) j0) (Nat.le_refl _) spinneylaw21_live.ints_).mono ?_
  rintro e w15 ⟨rfl, hdr15⟩
  have hb15 : Below w13.heap.size w13 w15 := hb14.trans (hdr15.below.mono hb14.size)
  have hC15 := Kd.C_below hC13 hb15
  have hbw15 : Below w.heap.size w w15 := hbw13.trans (hb15.mono hbw13.size)
  replace hb14 := Aside0.mk hb14
  replace hb15 := Aside0.mk hb15
  replace hdr15 := Aside0.mk hdr15
  go_wp2_with (go_at_call 16; fail)
  have i0 := BoxN.new w15 3 #[.int .i64 1, .int .i64 1]
  have hb16 : Below w15.heap.size w15 (w15.alloc (.cells #[.int .i64 1, .int .i64 1] 3)) := (Below.refl _ w15).alloc (Nat.le_refl _) _
  obtain ⟨W16, hW16⟩ : ∃ W16, w15.alloc (.cells #[.int .i64 1, .int .i64 1] 3) = W16 := ⟨_, rfl⟩
  rw [hW16] at i0 hb16 ⊢
  clear hW16
  refine (tree_Prune.calls (some ⟨nb, 0, none⟩) 2 spinneylaw21_live.L0 (some ⟨w15.heap.size, 0, none⟩) 2 [1, 1] 1 W16 (Kd.C_below hC15 hb16) (Nat.le_refl _) (spinneylaw21_live.ints W16 _ [1, 1] (by decide) i0) (Nat.le_refl _) spinneylaw21_live.fits_).mono ?_
  rintro e w17 ⟨v17, rfl, hN17, hb17⟩
  obtain ⟨A17, c17, e17⟩ := Kd.N_slice hN17
  rw [spinneylaw21_live.len_] at e17
  subst e17
  have hbw17 : Below w.heap.size w w17 := hbw15.trans ((hb16.trans (hb17.mono hb16.size)).mono hbw15.size)
  clear hN17
  replace hb16 := Aside0.mk hb16
  replace hb17 := Aside0.mk hb17
  go_wp2
  go_ret
  exact ⟨rfl, hbw17⟩
end

/-! ### spinneylaw21_big: function 7 -/
mutual
def spinneylaw21_big.j0 : Nat → List (S39) → Bool → Option (Bool)
  | 0, _, _ => none
  | k + 1, x0, x14 => if x14 = true then (some true) else (spinneylaw21_big.l0 k x0 (x0.length : Int) 0)
def spinneylaw21_big.l0 : Nat → List (S39) → Int → Int → Option (Bool)
  | 0, _, _, _ => none
  | k + 1, x15, x16, x17 => if x17 < x16 then (if 0 ≤ x17 then (if x17 < (x15.length : Int) then (if (((rd_T39 x15 x17).f0).length : Int) > 50 then (some true) else (if (((rd_T39 x15 x17).f2).length : Int) > 50 then (some true) else (if (((rd_T39 x15 x17).f1.f0).length : Int) > 0 then (some true) else (if (((rd_T39 x15 x17).f1.f1).length : Int) > 0 then (some true) else (spinneylaw21_big.l0 k x15 x16 (wrap64 (x17 + 1))))))) else (none)) else (none)) else (some false)
end
def spinneylaw21_big.f (k : Nat) (l0 : List (S39)) (l1 : List Int) : Option (Bool) := if (l0.length : Int) > 100 then (spinneylaw21_big.j0 k l0 true) else (spinneylaw21_big.j0 k l0 (decide ((l1.length : Int) > 100)))
theorem spinneylaw21_big.mono_l : ∀ k, (∀ y0 y1, LeO (spinneylaw21_big.j0 k y0 y1) (spinneylaw21_big.j0 (k + 1) y0 y1)) ∧ (∀ y0 y1 y2, LeO (spinneylaw21_big.l0 k y0 y1 y2) (spinneylaw21_big.l0 (k + 1) y0 y1 y2))
  | 0 => ⟨fun _ _ r h => by simp [spinneylaw21_big.j0] at h, fun _ _ _ r h => by simp [spinneylaw21_big.l0] at h⟩
  | k + 1 => by
    obtain ⟨ih0, ih1⟩ := spinneylaw21_big.mono_l k
    refine ⟨?_, ?_⟩
    · intro y0 y1
      unfold spinneylaw21_big.j0
      repeat' first
      | (with_reducible exact ih0 _ _)
      | (with_reducible exact ih1 _ _ _)
      | (with_reducible exact LeO.refl _)
      | (with_reducible exact LeO.none _)
      | (with_reducible refine LeO.ite ?_ ?_)
      | (with_reducible refine LeO.bind ?_ (fun _ => ?_))
      | exact ih0 _ _
      | exact ih1 _ _ _
      | exact LeO.none _
      | refine LeO.ite ?_ ?_
      | refine LeO.bind ?_ (fun _ => ?_)
    · intro y0 y1 y2
      unfold spinneylaw21_big.l0
      repeat' first
      | (with_reducible exact ih0 _ _)
      | (with_reducible exact ih1 _ _ _)
      | (with_reducible exact LeO.refl _)
      | (with_reducible exact LeO.none _)
      | (with_reducible refine LeO.ite ?_ ?_)
      | (with_reducible refine LeO.bind ?_ (fun _ => ?_))
      | exact ih0 _ _
      | exact ih1 _ _ _
      | exact LeO.none _
      | refine LeO.ite ?_ ?_
      | refine LeO.bind ?_ (fun _ => ?_)
theorem spinneylaw21_big.mono : ∀ a0 a1 k, LeO (spinneylaw21_big.f k a0 a1) (spinneylaw21_big.f (k + 1) a0 a1) := by
  intro a0 a1 k
  obtain ⟨ih0, ih1⟩ := spinneylaw21_big.mono_l k
  unfold spinneylaw21_big.f
  repeat' first
      | (with_reducible exact ih0 _ _)
      | (with_reducible exact ih1 _ _ _)
      | (with_reducible exact LeO.refl _)
      | (with_reducible exact LeO.none _)
      | (with_reducible refine LeO.ite ?_ ?_)
      | (with_reducible refine LeO.bind ?_ (fun _ => ?_))
      | exact ih0 _ _
      | exact ih1 _ _ _
      | exact LeO.none _
      | refine LeO.ite ?_ ?_
      | refine LeO.bind ?_ (fun _ => ?_)
set_option maxHeartbeats 8000000 in
set_option maxRecDepth 100000 in
theorem spinneylaw21_big.calls (k : Nat) (A0 : Option Addr) (c0 : Nat) (l0 : List (S39)) (A1 : Option Addr) (c1 : Nat) (l1 : List Int) (r : Bool) (w : World) (hr0 : Kd.C k39 w A0 l0.length l0) (hc0 : l0.length ≤ c0) (hr1 : Kd.C (Kd.int .i64) w A1 l1.length l1) (hc1 : l1.length ≤ c1) (h : spinneylaw21_big.f k l0 l1 = some r) :
    Calls Try.prog 7 #[.slice A0 l0.length c0, .slice A1 l1.length c1] w fun e w' => e = .returned (.bool r) ∧ Below w.heap.size w w' := by
  have hu39 := Try.underlying39
  have HR0 := Aside0.mk hr0
  have HC0 := Aside0.mk hc0
  clear hr0 hc0
  have HR1 := Aside0.mk hr1
  have HC1 := Aside0.mk hc1
  clear hr1 hc1
  have HB := Aside0.mk (Below.refl w.heap.size w)
  have H : (if (l0.length : Int) > 100 then (spinneylaw21_big.j0 k l0 true) else (spinneylaw21_big.j0 k l0 (decide ((l1.length : Int) > 100)))) = some r := h
  clear h
  have HC3 := Aside0.mk H
  clear H
  go_enter Try.func7, Try.ntmps7
  go_upto_region 1 with (fail)
  go_cut [14] (fun v14 wc => ∃ (kq : Nat) (x14_2 : Bool), v14 = .bool x14_2 ∧ Aside0 (spinneylaw21_big.j0 kq l0 x14_2 = some r) ∧ Aside0 (kq ≤ k) ∧ Aside0 (Below w.heap.size w wc))
  case first =>
    have H := HC3.out
    clear HC3
    by_cases c4 : (l0.length : Int) > 100
    · rw [if_pos c4] at H
      have c4b0 : decide (100 < (l0.length : Int)) = true := decide_eq_true c4
      have c4b1 : decide (100 < l0.length) = true := decide_eq_true (by omega)
      clear c4
      (first | rw [c4b0] | (simp only [i64_w, i32_w]; rw [c4b0]) | skip)
      have H' := Aside0.mk H
      clear H
      go_wp2
      go_meet
      case rel => exact ⟨_, (true), (by first | rfl | (simp; done) | (simp [*]; done)), H', ⟨by first | omega | exact Nat.le_refl _⟩, ⟨by repeat (first | (with_reducible first | exact HB.out | apply below_alloc | apply pw_below_drewN | apply below_drew1) | exact HB.out)⟩⟩
    · rw [if_neg c4] at H
      have c4b0 : decide (100 < (l0.length : Int)) = false := decide_eq_false c4
      have c4b1 : decide (100 < l0.length) = false := decide_eq_false (by omega)
      clear c4
      (first | rw [c4b0] | (simp only [i64_w, i32_w]; rw [c4b0]) | skip)
      have H' := Aside0.mk H
      clear H
      go_wp2
      go_meet
      case rel => exact ⟨_, (decide ((l1.length : Int) > 100)), (by first | rfl | (simp; done) | (simp [*]; done)), H', ⟨by first | omega | exact Nat.le_refl _⟩, ⟨by repeat (first | (with_reducible first | exact HB.out | apply below_alloc | apply pw_below_drewN | apply below_drew1) | exact HB.out)⟩⟩
  case rest =>
    clear HC3
    try clear c1
    try clear p2
    try clear c4
    try clear c4b0
    try clear c4b1
    obtain ⟨kq, x14_2, rfl, HA, HJ2, HB⟩ := hcut
    cases kq with
    | zero => exact absurd HA.out (by simp [spinneylaw21_big.j0])
    | succ kj2 =>
      have H := HA.out
      clear HA
      simp only [spinneylaw21_big.j0] at H
      by_cases c5 : x14_2 = true
      · subst c5
        have H1 : (some true) = some r := by rw [if_pos rfl] at H; exact H
        clear H
        have H := H1
        clear H1
        obtain rfl := Option.some.inj H
        go_wp2
        go_ret
        exact ⟨by first | rfl | (simp [errW_none, errW_some] <;> rfl) | (simp [*, errW_none, errW_some] <;> rfl), by repeat (first | (with_reducible first | exact HB.out | apply below_alloc | apply pw_below_drewN | apply below_drew1) | exact HB.out)⟩
      · replace c5 := Bool.eq_false_iff.mpr c5
        subst c5
        have H1 : (spinneylaw21_big.l0 kj2 l0 (l0.length : Int) 0) = some r := by rw [if_neg (show ¬ (false = true) by decide)] at H; exact H
        clear H
        have H := H1
        clear H1
        have H' := Aside0.mk H
        clear H
        go_wp2
        go_loopg [17] kj2 (fun kq v17 w' => ∃ (x17_2 : Int), v17 = .int .i64 x17_2 ∧ Aside0 (spinneylaw21_big.l0 kq l0 (l0.length : Int) x17_2 = some r) ∧ Aside0 (kq ≤ kj2) ∧ Aside0 (Below w.heap.size w w'))
        case atStart => exact ⟨(0), (by first | rfl | (simp; done) | (simp [*]; done)), H', ⟨Nat.le_refl _⟩, ⟨by repeat (first | (with_reducible first | exact HB.out | apply below_alloc | apply pw_below_drewN | apply below_drew1) | exact HB.out)⟩⟩
        case round =>
          clear H'
          try clear c1
          try clear p2
          try clear c4
          try clear c4b0
          try clear c4b1
          try clear c5
          try clear p2
          obtain ⟨x17_2, rfl, HA, HK2, HB⟩ := hrel
          cases gk with
          | zero => exact absurd HA.out (by simp [spinneylaw21_big.l0])
          | succ k2 =>
            have H := HA.out
            clear HA
            simp only [spinneylaw21_big.l0] at H
            by_cases c6 : x17_2 < (l0.length : Int)
            · rw [if_pos c6] at H
              have c6b0 : decide (x17_2 < (l0.length : Int)) = true := decide_eq_true c6
              clear c6
              by_cases c7 : 0 ≤ x17_2
              · rw [if_pos c7] at H
                have c7b0 : decide (0 ≤ x17_2) = true := decide_eq_true c7
                clear c7
                by_cases c8 : x17_2 < (l0.length : Int)
                · rw [if_pos c8] at H
                  have c8b0 : decide (x17_2 < (l0.length : Int)) = true := decide_eq_true c8
                  clear c8
                  by_cases c9 : (((rd_T39 l0 x17_2).f0).length : Int) > 50
                  · rw [if_pos c9] at H
                    have c9b0 : decide (50 < (((rd_T39 l0 x17_2).f0).length : Int)) = true := decide_eq_true c9
                    have c9b1 : decide (50 < ((rd_T39 l0 x17_2).f0).length) = true := decide_eq_true (by omega)
                    clear c9
                    obtain rfl := Option.some.inj H
                    have p127 : 0 ≤ (x17_2 : Int) := of_decide_eq_true (by first | (with_reducible assumption) | assumption)
                    have q127 : x17_2 < (l0.length : Int) := of_decide_eq_true (by first | (with_reducible assumption) | assumption)
                    obtain ⟨ad127, A127_0, c127_0, A127_1, c127_1, A127_2, c127_2, A127_4, c127_4, e127, hx127_0, hx127_1, hx127_2, hx127_3, hx127_4, hl127_0, hi127_0, hl127_1, hi127_1, hl127_2, hi127_2, hl127_4, hi127_4⟩ := at_T39 HR0.out x17_2 p127 q127
                    cases e127
                    replace hx127_0 := (HB.out.cell (World.block_lt_of_cell? w _ hx127_0)).trans hx127_0
                    replace hx127_1 := (HB.out.cell (World.block_lt_of_cell? w _ hx127_1)).trans hx127_1
                    replace hx127_2 := (HB.out.cell (World.block_lt_of_cell? w _ hx127_2)).trans hx127_2
                    replace hx127_3 := (HB.out.cell (World.block_lt_of_cell? w _ hx127_3)).trans hx127_3
                    replace hx127_4 := (HB.out.cell (World.block_lt_of_cell? w _ hx127_4)).trans hx127_4
                    have HR127_0 := Aside0.mk hi127_0
                    have HC127_0 := Aside0.mk hl127_0
                    clear hi127_0 hl127_0
                    have HR127_1 := Aside0.mk hi127_1
                    have HC127_1 := Aside0.mk hl127_1
                    clear hi127_1 hl127_1
                    have HR127_2 := Aside0.mk hi127_2
                    have HC127_2 := Aside0.mk hl127_2
                    clear hi127_2 hl127_2
                    have HR127_4 := Aside0.mk hi127_4
                    have HC127_4 := Aside0.mk hl127_4
                    clear hi127_4 hl127_4
                    replace p127 := eq_true p127
                    replace q127 := eq_true q127
                    go_wp2_with (first | ((with_reducible refine gate_dst (N := 6) rfl ?_); (try (refine gate_guard (by rfl) ?_; dsimp only)); refine box_event ?hg (N := 6) ?hd (cs := #[.slice none 0 0, .slice none 0 0, .slice none 0 0, .int .i64 0, .slice none 0 0]) (t := 39) ?hr ?_; (case hd => rfl); (case hg => rfl); (case hr => first | (go_simp; done) | (go_simp; rfl)); intro gb128 hg w10 hbox hb; have n0_ := Aside0.mk (below_step (by repeat (first | (with_reducible first | exact HB.out | apply below_alloc | apply pw_below_drewN | apply below_drew1) | exact HB.out)) hb); have n1_ := Aside0.mk (hbox); have n2_ := Aside0.mk ((by rw [hg]; exact (below_size (by repeat (first | (with_reducible first | exact HB.out | apply below_alloc | apply pw_below_drewN | apply below_drew1) | exact HB.out))) : w.heap.size ≤ gb128)); have n3_ := Aside0.mk ((by rw [hg]; exact (below_size (by repeat (first | (with_reducible first | exact HB.out | apply below_alloc | apply pw_below_drewN | apply below_drew1) | exact HB.out))) : w.heap.size ≤ gb128)); clear HB; have HB := n0_; have BK128 := n1_; have GW128 := n2_; have GE128 := n3_; clear n0_ n1_ n2_ n3_; clear hb hbox hg; have hcz11_0 : w10.cell? ⟨gb128, 0, none⟩ = some (.slice none 0 0) := (blk_cell BK128.out 0).trans rfl; have hcz11_1 : w10.cell? ⟨gb128, 1, none⟩ = some (.slice none 0 0) := (blk_cell BK128.out 1).trans rfl; have hcz11_2 : w10.cell? ⟨gb128, 2, none⟩ = some (.slice none 0 0) := (blk_cell BK128.out 2).trans rfl; have hcz11_3 : w10.cell? ⟨gb128, 3, none⟩ = some (.int .i64 0) := (blk_cell BK128.out 3).trans rfl; have hcz11_4 : w10.cell? ⟨gb128, 4, none⟩ = some (.slice none 0 0) := (blk_cell BK128.out 4).trans rfl; have hfz11_0 := blk_frozen BK128.out 0; have hfz11_1 := blk_frozen BK128.out 1; have hfz11_2 := blk_frozen BK128.out 2; have hfz11_3 := blk_frozen BK128.out 3; have hfz11_4 := blk_frozen BK128.out 4))
                    go_ret
                    exact ⟨by first | rfl | (simp [errW_none, errW_some] <;> rfl) | (simp [*, errW_none, errW_some] <;> rfl), by repeat (first | (with_reducible first | exact HB.out | apply below_alloc | apply pw_below_drewN | apply below_drew1 | refine below_set ?_ GE128.out) | exact HB.out)⟩
                  · rw [if_neg c9] at H
                    have c9b0 : decide (50 < (((rd_T39 l0 x17_2).f0).length : Int)) = false := decide_eq_false c9
                    have c9b1 : decide (50 < ((rd_T39 l0 x17_2).f0).length) = false := decide_eq_false (by omega)
                    clear c9
                    by_cases c12 : (((rd_T39 l0 x17_2).f2).length : Int) > 50
                    · rw [if_pos c12] at H
                      have c12b0 : decide (50 < (((rd_T39 l0 x17_2).f2).length : Int)) = true := decide_eq_true c12
                      have c12b1 : decide (50 < ((rd_T39 l0 x17_2).f2).length) = true := decide_eq_true (by omega)
                      clear c12
                      obtain rfl := Option.some.inj H
                      have p127 : 0 ≤ (x17_2 : Int) := of_decide_eq_true (by first | (with_reducible assumption) | assumption)
                      have q127 : x17_2 < (l0.length : Int) := of_decide_eq_true (by first | (with_reducible assumption) | assumption)
                      obtain ⟨ad127, A127_0, c127_0, A127_1, c127_1, A127_2, c127_2, A127_4, c127_4, e127, hx127_0, hx127_1, hx127_2, hx127_3, hx127_4, hl127_0, hi127_0, hl127_1, hi127_1, hl127_2, hi127_2, hl127_4, hi127_4⟩ := at_T39 HR0.out x17_2 p127 q127
                      cases e127
                      replace hx127_0 := (HB.out.cell (World.block_lt_of_cell? w _ hx127_0)).trans hx127_0
                      replace hx127_1 := (HB.out.cell (World.block_lt_of_cell? w _ hx127_1)).trans hx127_1
                      replace hx127_2 := (HB.out.cell (World.block_lt_of_cell? w _ hx127_2)).trans hx127_2
                      replace hx127_3 := (HB.out.cell (World.block_lt_of_cell? w _ hx127_3)).trans hx127_3
                      replace hx127_4 := (HB.out.cell (World.block_lt_of_cell? w _ hx127_4)).trans hx127_4
                      have HR127_0 := Aside0.mk hi127_0
                      have HC127_0 := Aside0.mk hl127_0
                      clear hi127_0 hl127_0
                      have HR127_1 := Aside0.mk hi127_1
                      have HC127_1 := Aside0.mk hl127_1
                      clear hi127_1 hl127_1
                      have HR127_2 := Aside0.mk hi127_2
                      have HC127_2 := Aside0.mk hl127_2
                      clear hi127_2 hl127_2
                      have HR127_4 := Aside0.mk hi127_4
                      have HC127_4 := Aside0.mk hl127_4
                      clear hi127_4 hl127_4
                      replace p127 := eq_true p127
                      replace q127 := eq_true q127
                      go_wp2_with (first | ((with_reducible refine gate_dst (N := 6) rfl ?_); (try (refine gate_guard (by rfl) ?_; dsimp only)); refine box_event ?hg (N := 6) ?hd (cs := #[.slice none 0 0, .slice none 0 0, .slice none 0 0, .int .i64 0, .slice none 0 0]) (t := 39) ?hr ?_; (case hd => rfl); (case hg => rfl); (case hr => first | (go_simp; done) | (go_simp; rfl)); intro gb128 hg w13 hbox hb; have n0_ := Aside0.mk (below_step (by repeat (first | (with_reducible first | exact HB.out | apply below_alloc | apply pw_below_drewN | apply below_drew1) | exact HB.out)) hb); have n1_ := Aside0.mk (hbox); have n2_ := Aside0.mk ((by rw [hg]; exact (below_size (by repeat (first | (with_reducible first | exact HB.out | apply below_alloc | apply pw_below_drewN | apply below_drew1) | exact HB.out))) : w.heap.size ≤ gb128)); have n3_ := Aside0.mk ((by rw [hg]; exact (below_size (by repeat (first | (with_reducible first | exact HB.out | apply below_alloc | apply pw_below_drewN | apply below_drew1) | exact HB.out))) : w.heap.size ≤ gb128)); clear HB; have HB := n0_; have BK128 := n1_; have GW128 := n2_; have GE128 := n3_; clear n0_ n1_ n2_ n3_; clear hb hbox hg; have hcz14_0 : w13.cell? ⟨gb128, 0, none⟩ = some (.slice none 0 0) := (blk_cell BK128.out 0).trans rfl; have hcz14_1 : w13.cell? ⟨gb128, 1, none⟩ = some (.slice none 0 0) := (blk_cell BK128.out 1).trans rfl; have hcz14_2 : w13.cell? ⟨gb128, 2, none⟩ = some (.slice none 0 0) := (blk_cell BK128.out 2).trans rfl; have hcz14_3 : w13.cell? ⟨gb128, 3, none⟩ = some (.int .i64 0) := (blk_cell BK128.out 3).trans rfl; have hcz14_4 : w13.cell? ⟨gb128, 4, none⟩ = some (.slice none 0 0) := (blk_cell BK128.out 4).trans rfl; have hfz14_0 := blk_frozen BK128.out 0; have hfz14_1 := blk_frozen BK128.out 1; have hfz14_2 := blk_frozen BK128.out 2; have hfz14_3 := blk_frozen BK128.out 3; have hfz14_4 := blk_frozen BK128.out 4))
                      go_ret
                      exact ⟨by first | rfl | (simp [errW_none, errW_some] <;> rfl) | (simp [*, errW_none, errW_some] <;> rfl), by repeat (first | (with_reducible first | exact HB.out | apply below_alloc | apply pw_below_drewN | apply below_drew1 | refine below_set ?_ GE128.out) | exact HB.out)⟩
                    · rw [if_neg c12] at H
                      have c12b0 : decide (50 < (((rd_T39 l0 x17_2).f2).length : Int)) = false := decide_eq_false c12
                      have c12b1 : decide (50 < ((rd_T39 l0 x17_2).f2).length) = false := decide_eq_false (by omega)
                      clear c12
                      by_cases c15 : (((rd_T39 l0 x17_2).f1.f0).length : Int) > 0
                      · rw [if_pos c15] at H
                        have c15b0 : decide (0 < (((rd_T39 l0 x17_2).f1.f0).length : Int)) = true := decide_eq_true c15
                        have c15b1 : decide (0 < ((rd_T39 l0 x17_2).f1.f0).length) = true := decide_eq_true (by omega)
                        clear c15
                        obtain rfl := Option.some.inj H
                        have p127 : 0 ≤ (x17_2 : Int) := of_decide_eq_true (by first | (with_reducible assumption) | assumption)
                        have q127 : x17_2 < (l0.length : Int) := of_decide_eq_true (by first | (with_reducible assumption) | assumption)
                        obtain ⟨ad127, A127_0, c127_0, A127_1, c127_1, A127_2, c127_2, A127_4, c127_4, e127, hx127_0, hx127_1, hx127_2, hx127_3, hx127_4, hl127_0, hi127_0, hl127_1, hi127_1, hl127_2, hi127_2, hl127_4, hi127_4⟩ := at_T39 HR0.out x17_2 p127 q127
                        cases e127
                        replace hx127_0 := (HB.out.cell (World.block_lt_of_cell? w _ hx127_0)).trans hx127_0
                        replace hx127_1 := (HB.out.cell (World.block_lt_of_cell? w _ hx127_1)).trans hx127_1
                        replace hx127_2 := (HB.out.cell (World.block_lt_of_cell? w _ hx127_2)).trans hx127_2
                        replace hx127_3 := (HB.out.cell (World.block_lt_of_cell? w _ hx127_3)).trans hx127_3
                        replace hx127_4 := (HB.out.cell (World.block_lt_of_cell? w _ hx127_4)).trans hx127_4
                        have HR127_0 := Aside0.mk hi127_0
                        have HC127_0 := Aside0.mk hl127_0
                        clear hi127_0 hl127_0
                        have HR127_1 := Aside0.mk hi127_1
                        have HC127_1 := Aside0.mk hl127_1
                        clear hi127_1 hl127_1
                        have HR127_2 := Aside0.mk hi127_2
                        have HC127_2 := Aside0.mk hl127_2
                        clear hi127_2 hl127_2
                        have HR127_4 := Aside0.mk hi127_4
                        have HC127_4 := Aside0.mk hl127_4
                        clear hi127_4 hl127_4
                        replace p127 := eq_true p127
                        replace q127 := eq_true q127
                        go_wp2_with (first | ((with_reducible refine gate_dst (N := 6) rfl ?_); (try (refine gate_guard (by rfl) ?_; dsimp only)); refine box_event ?hg (N := 6) ?hd (cs := #[.slice none 0 0, .slice none 0 0, .slice none 0 0, .int .i64 0, .slice none 0 0]) (t := 39) ?hr ?_; (case hd => rfl); (case hg => rfl); (case hr => first | (go_simp; done) | (go_simp; rfl)); intro gb128 hg w16 hbox hb; have n0_ := Aside0.mk (below_step (by repeat (first | (with_reducible first | exact HB.out | apply below_alloc | apply pw_below_drewN | apply below_drew1) | exact HB.out)) hb); have n1_ := Aside0.mk (hbox); have n2_ := Aside0.mk ((by rw [hg]; exact (below_size (by repeat (first | (with_reducible first | exact HB.out | apply below_alloc | apply pw_below_drewN | apply below_drew1) | exact HB.out))) : w.heap.size ≤ gb128)); have n3_ := Aside0.mk ((by rw [hg]; exact (below_size (by repeat (first | (with_reducible first | exact HB.out | apply below_alloc | apply pw_below_drewN | apply below_drew1) | exact HB.out))) : w.heap.size ≤ gb128)); clear HB; have HB := n0_; have BK128 := n1_; have GW128 := n2_; have GE128 := n3_; clear n0_ n1_ n2_ n3_; clear hb hbox hg; have hcz17_0 : w16.cell? ⟨gb128, 0, none⟩ = some (.slice none 0 0) := (blk_cell BK128.out 0).trans rfl; have hcz17_1 : w16.cell? ⟨gb128, 1, none⟩ = some (.slice none 0 0) := (blk_cell BK128.out 1).trans rfl; have hcz17_2 : w16.cell? ⟨gb128, 2, none⟩ = some (.slice none 0 0) := (blk_cell BK128.out 2).trans rfl; have hcz17_3 : w16.cell? ⟨gb128, 3, none⟩ = some (.int .i64 0) := (blk_cell BK128.out 3).trans rfl; have hcz17_4 : w16.cell? ⟨gb128, 4, none⟩ = some (.slice none 0 0) := (blk_cell BK128.out 4).trans rfl; have hfz17_0 := blk_frozen BK128.out 0; have hfz17_1 := blk_frozen BK128.out 1; have hfz17_2 := blk_frozen BK128.out 2; have hfz17_3 := blk_frozen BK128.out 3; have hfz17_4 := blk_frozen BK128.out 4))
                        go_ret
                        exact ⟨by first | rfl | (simp [errW_none, errW_some] <;> rfl) | (simp [*, errW_none, errW_some] <;> rfl), by repeat (first | (with_reducible first | exact HB.out | apply below_alloc | apply pw_below_drewN | apply below_drew1 | refine below_set ?_ GE128.out) | exact HB.out)⟩
                      · rw [if_neg c15] at H
                        have c15b0 : decide (0 < (((rd_T39 l0 x17_2).f1.f0).length : Int)) = false := decide_eq_false c15
                        have c15b1 : decide (0 < ((rd_T39 l0 x17_2).f1.f0).length) = false := decide_eq_false (by omega)
                        clear c15
                        by_cases c18 : (((rd_T39 l0 x17_2).f1.f1).length : Int) > 0
                        · rw [if_pos c18] at H
                          have c18b0 : decide (0 < (((rd_T39 l0 x17_2).f1.f1).length : Int)) = true := decide_eq_true c18
                          have c18b1 : decide (0 < ((rd_T39 l0 x17_2).f1.f1).length) = true := decide_eq_true (by omega)
                          clear c18
                          obtain rfl := Option.some.inj H
                          have p127 : 0 ≤ (x17_2 : Int) := of_decide_eq_true (by first | (with_reducible assumption) | assumption)
                          have q127 : x17_2 < (l0.length : Int) := of_decide_eq_true (by first | (with_reducible assumption) | assumption)
                          obtain ⟨ad127, A127_0, c127_0, A127_1, c127_1, A127_2, c127_2, A127_4, c127_4, e127, hx127_0, hx127_1, hx127_2, hx127_3, hx127_4, hl127_0, hi127_0, hl127_1, hi127_1, hl127_2, hi127_2, hl127_4, hi127_4⟩ := at_T39 HR0.out x17_2 p127 q127
                          cases e127
                          replace hx127_0 := (HB.out.cell (World.block_lt_of_cell? w _ hx127_0)).trans hx127_0
                          replace hx127_1 := (HB.out.cell (World.block_lt_of_cell? w _ hx127_1)).trans hx127_1
                          replace hx127_2 := (HB.out.cell (World.block_lt_of_cell? w _ hx127_2)).trans hx127_2
                          replace hx127_3 := (HB.out.cell (World.block_lt_of_cell? w _ hx127_3)).trans hx127_3
                          replace hx127_4 := (HB.out.cell (World.block_lt_of_cell? w _ hx127_4)).trans hx127_4
                          have HR127_0 := Aside0.mk hi127_0
                          have HC127_0 := Aside0.mk hl127_0
                          clear hi127_0 hl127_0
                          have HR127_1 := Aside0.mk hi127_1
                          have HC127_1 := Aside0.mk hl127_1
                          clear hi127_1 hl127_1
                          have HR127_2 := Aside0.mk hi127_2
                          have HC127_2 := Aside0.mk hl127_2
                          clear hi127_2 hl127_2
                          have HR127_4 := Aside0.mk hi127_4
                          have HC127_4 := Aside0.mk hl127_4
                          clear hi127_4 hl127_4
                          replace p127 := eq_true p127
                          replace q127 := eq_true q127
                          go_wp2_with (first | ((with_reducible refine gate_dst (N := 6) rfl ?_); (try (refine gate_guard (by rfl) ?_; dsimp only)); refine box_event ?hg (N := 6) ?hd (cs := #[.slice none 0 0, .slice none 0 0, .slice none 0 0, .int .i64 0, .slice none 0 0]) (t := 39) ?hr ?_; (case hd => rfl); (case hg => rfl); (case hr => first | (go_simp; done) | (go_simp; rfl)); intro gb128 hg w19 hbox hb; have n0_ := Aside0.mk (below_step (by repeat (first | (with_reducible first | exact HB.out | apply below_alloc | apply pw_below_drewN | apply below_drew1) | exact HB.out)) hb); have n1_ := Aside0.mk (hbox); have n2_ := Aside0.mk ((by rw [hg]; exact (below_size (by repeat (first | (with_reducible first | exact HB.out | apply below_alloc | apply pw_below_drewN | apply below_drew1) | exact HB.out))) : w.heap.size ≤ gb128)); have n3_ := Aside0.mk ((by rw [hg]; exact (below_size (by repeat (first | (with_reducible first | exact HB.out | apply below_alloc | apply pw_below_drewN | apply below_drew1) | exact HB.out))) : w.heap.size ≤ gb128)); clear HB; have HB := n0_; have BK128 := n1_; have GW128 := n2_; have GE128 := n3_; clear n0_ n1_ n2_ n3_; clear hb hbox hg; have hcz20_0 : w19.cell? ⟨gb128, 0, none⟩ = some (.slice none 0 0) := (blk_cell BK128.out 0).trans rfl; have hcz20_1 : w19.cell? ⟨gb128, 1, none⟩ = some (.slice none 0 0) := (blk_cell BK128.out 1).trans rfl; have hcz20_2 : w19.cell? ⟨gb128, 2, none⟩ = some (.slice none 0 0) := (blk_cell BK128.out 2).trans rfl; have hcz20_3 : w19.cell? ⟨gb128, 3, none⟩ = some (.int .i64 0) := (blk_cell BK128.out 3).trans rfl; have hcz20_4 : w19.cell? ⟨gb128, 4, none⟩ = some (.slice none 0 0) := (blk_cell BK128.out 4).trans rfl; have hfz20_0 := blk_frozen BK128.out 0; have hfz20_1 := blk_frozen BK128.out 1; have hfz20_2 := blk_frozen BK128.out 2; have hfz20_3 := blk_frozen BK128.out 3; have hfz20_4 := blk_frozen BK128.out 4))
                          go_ret
                          exact ⟨by first | rfl | (simp [errW_none, errW_some] <;> rfl) | (simp [*, errW_none, errW_some] <;> rfl), by repeat (first | (with_reducible first | exact HB.out | apply below_alloc | apply pw_below_drewN | apply below_drew1 | refine below_set ?_ GE128.out) | exact HB.out)⟩
                        · rw [if_neg c18] at H
                          have c18b0 : decide (0 < (((rd_T39 l0 x17_2).f1.f1).length : Int)) = false := decide_eq_false c18
                          have c18b1 : decide (0 < ((rd_T39 l0 x17_2).f1.f1).length) = false := decide_eq_false (by omega)
                          clear c18
                          have H' := Aside0.mk H
                          clear H
                          have p127 : 0 ≤ (x17_2 : Int) := of_decide_eq_true (by first | (with_reducible assumption) | assumption)
                          have q127 : x17_2 < (l0.length : Int) := of_decide_eq_true (by first | (with_reducible assumption) | assumption)
                          obtain ⟨ad127, A127_0, c127_0, A127_1, c127_1, A127_2, c127_2, A127_4, c127_4, e127, hx127_0, hx127_1, hx127_2, hx127_3, hx127_4, hl127_0, hi127_0, hl127_1, hi127_1, hl127_2, hi127_2, hl127_4, hi127_4⟩ := at_T39 HR0.out x17_2 p127 q127
                          cases e127
                          replace hx127_0 := (HB.out.cell (World.block_lt_of_cell? w _ hx127_0)).trans hx127_0
                          replace hx127_1 := (HB.out.cell (World.block_lt_of_cell? w _ hx127_1)).trans hx127_1
                          replace hx127_2 := (HB.out.cell (World.block_lt_of_cell? w _ hx127_2)).trans hx127_2
                          replace hx127_3 := (HB.out.cell (World.block_lt_of_cell? w _ hx127_3)).trans hx127_3
                          replace hx127_4 := (HB.out.cell (World.block_lt_of_cell? w _ hx127_4)).trans hx127_4
                          have HR127_0 := Aside0.mk hi127_0
                          have HC127_0 := Aside0.mk hl127_0
                          clear hi127_0 hl127_0
                          have HR127_1 := Aside0.mk hi127_1
                          have HC127_1 := Aside0.mk hl127_1
                          clear hi127_1 hl127_1
                          have HR127_2 := Aside0.mk hi127_2
                          have HC127_2 := Aside0.mk hl127_2
                          clear hi127_2 hl127_2
                          have HR127_4 := Aside0.mk hi127_4
                          have HC127_4 := Aside0.mk hl127_4
                          clear hi127_4 hl127_4
                          replace p127 := eq_true p127
                          replace q127 := eq_true q127
                          go_wp2_with (first | ((with_reducible refine gate_dst (N := 6) rfl ?_); (try (refine gate_guard (by rfl) ?_; dsimp only)); refine box_event ?hg (N := 6) ?hd (cs := #[.slice none 0 0, .slice none 0 0, .slice none 0 0, .int .i64 0, .slice none 0 0]) (t := 39) ?hr ?_; (case hd => rfl); (case hg => rfl); (case hr => first | (go_simp; done) | (go_simp; rfl)); intro gb128 hg w21 hbox hb; have n0_ := Aside0.mk (below_step (by repeat (first | (with_reducible first | exact HB.out | apply below_alloc | apply pw_below_drewN | apply below_drew1) | exact HB.out)) hb); have n1_ := Aside0.mk (hbox); have n2_ := Aside0.mk ((by rw [hg]; exact (below_size (by repeat (first | (with_reducible first | exact HB.out | apply below_alloc | apply pw_below_drewN | apply below_drew1) | exact HB.out))) : w.heap.size ≤ gb128)); have n3_ := Aside0.mk ((by rw [hg]; exact (below_size (by repeat (first | (with_reducible first | exact HB.out | apply below_alloc | apply pw_below_drewN | apply below_drew1) | exact HB.out))) : w.heap.size ≤ gb128)); clear HB; have HB := n0_; have BK128 := n1_; have GW128 := n2_; have GE128 := n3_; clear n0_ n1_ n2_ n3_; clear hb hbox hg; have hcz22_0 : w21.cell? ⟨gb128, 0, none⟩ = some (.slice none 0 0) := (blk_cell BK128.out 0).trans rfl; have hcz22_1 : w21.cell? ⟨gb128, 1, none⟩ = some (.slice none 0 0) := (blk_cell BK128.out 1).trans rfl; have hcz22_2 : w21.cell? ⟨gb128, 2, none⟩ = some (.slice none 0 0) := (blk_cell BK128.out 2).trans rfl; have hcz22_3 : w21.cell? ⟨gb128, 3, none⟩ = some (.int .i64 0) := (blk_cell BK128.out 3).trans rfl; have hcz22_4 : w21.cell? ⟨gb128, 4, none⟩ = some (.slice none 0 0) := (blk_cell BK128.out 4).trans rfl; have hfz22_0 := blk_frozen BK128.out 0; have hfz22_1 := blk_frozen BK128.out 1; have hfz22_2 := blk_frozen BK128.out 2; have hfz22_3 := blk_frozen BK128.out 3; have hfz22_4 := blk_frozen BK128.out 4))
                          go_roundg k2
                          case measure => have := HJ2.out; have := HK2.out; omega
                          case rel => exact ⟨(wrap64 (x17_2 + 1)), (by first | rfl | (simp; done) | (simp [*]; done)), H', ⟨by have := HJ2.out; have := HK2.out; omega⟩, ⟨by repeat (first | (with_reducible first | exact HB.out | apply below_alloc | apply pw_below_drewN | apply below_drew1 | refine below_set ?_ GE128.out) | exact HB.out)⟩⟩
                · rw [if_neg c8] at H
                  exact absurd H (by simp)
              · rw [if_neg c7] at H
                exact absurd H (by simp)
            · rw [if_neg c6] at H
              have c6b0 : decide (x17_2 < (l0.length : Int)) = false := decide_eq_false c6
              clear c6
              obtain rfl := Option.some.inj H
              go_wp2
              go_ret
              exact ⟨by first | rfl | (simp [errW_none, errW_some] <;> rfl) | (simp [*, errW_none, errW_some] <;> rfl), by repeat (first | (with_reducible first | exact HB.out | apply below_alloc | apply pw_below_drewN | apply below_drew1) | exact HB.out)⟩

/-! ### spinneyref19_Next: function 18 -/
def spinneyref19_Next.f (l0 : List Int) (a1 : Int) : Option (List Int) := if ([] : List Int).length + l0.length < 17592186044416 then ((some (([] : List Int) ++ l0 : List Int)).bind fun y129 => (if y129.length < 17592186044416 then (some (y129 ++ [a1])) else (none))) else (none)
set_option maxHeartbeats 8000000 in
set_option maxRecDepth 100000 in
theorem spinneyref19_Next.calls (A0 : Option Addr) (c0 : Nat) (l0 : List Int) (a1 : Int) (r : List Int) (w : World) (hr0 : Kd.C (Kd.int .i64) w A0 l0.length l0) (hc0 : l0.length ≤ c0) (h : spinneyref19_Next.f l0 a1 = some r) :
    Calls Try.prog 18 #[.slice A0 l0.length c0, .int .i64 a1] w fun e w' => ∃ v0_ : Value, e = .returned (v0_) ∧ Kd.R (Kd.int .i64) 3 w' w.heap.size (fun _ => True) v0_ r ∧ Below w.heap.size w w' := by
  have HR0 := Aside0.mk hr0
  have HC0 := Aside0.mk hc0
  clear hr0 hc0
  have HB := Aside0.mk (Below.refl w.heap.size w)
  have H : (if ([] : List Int).length + l0.length < 17592186044416 then ((some (([] : List Int) ++ l0 : List Int)).bind fun y129 => (if y129.length < 17592186044416 then (some (y129 ++ [a1])) else (none))) else (none)) = some r := h
  clear h
  by_cases c3 : ([] : List Int).length + l0.length < 17592186044416
  · rw [if_pos c3] at H
    have LMc3 := Aside0.mk c3
    clear c3
    obtain ⟨y129, hy129⟩ : ∃ y_ : List Int, y_ = (([] : List Int) ++ l0) := ⟨_, rfl⟩
    replace H : (if y129.length < 17592186044416 then (some (y129 ++ [a1])) else (none)) = some r := by first | (rw [hy129]; with_reducible exact H) | (have H2_ := (Option.bind_some _ _).symm.trans H; rw [hy129]; with_reducible exact H2_) | (have H2_ := (Option.bind_some _ _).symm.trans H; with_reducible exact H2_) | with_reducible exact H | (rw [hy129]; exact H) | exact H
    have Ny129 := Aside0.mk hy129
    clear hy129
    by_cases c4 : y129.length < 17592186044416
    · rw [if_pos c4] at H
      have LMc4 := Aside0.mk c4
      clear c4
      obtain ⟨y132, hy132⟩ : ∃ y_ : List Int, y_ = (y129 ++ [a1]) := ⟨_, rfl⟩
      replace H : (some y132) = some r := by first | (rw [hy132]; with_reducible exact H) | (have H2_ := (Option.bind_some _ _).symm.trans H; rw [hy132]; with_reducible exact H2_) | (have H2_ := (Option.bind_some _ _).symm.trans H; with_reducible exact H2_) | with_reducible exact H | (rw [hy132]; exact H) | exact H
      have Ny132 := Aside0.mk hy132
      clear hy132
      obtain rfl := Option.some.inj H
      go_enter Try.func18, Try.ntmps18
      go_wp2_with (first | ((with_reducible refine gate_builtin (b := .append) (xs := #[.const (.slice none 0 0), .tmp 5]) rfl ?_); at_builtin; refine Kd.R_append_rows (Kd.int .i64) (w0 := w) w.heap.size rfl (.const (.slice none 0 0)) (.tmp 5) 30 3 (.int .i64 0) 8 rfl Try.underlying30 info3 rfl (by decide) (by omega) (.slice none 0 0) ([] : List Int) l0 _ _ _ (fun _ => True) (fun _ => False) rfl rfl ?aO ?aR (fun _ _ h => h) (fun _ h => h.elim) ?aF ?aB ?aS ?aL ?_; (case aR => repeat (first | exact HR0.out | (with_reducible refine Kd.C_alloc ?_ _) | (with_reducible refine Kd.C_drewN ?_ _) | (with_reducible refine Kd.C_drew ?_))); (case aB => exact (by repeat (first | (with_reducible first | exact HB.out | apply below_alloc | apply pw_below_drewN | apply below_drew1) | exact HB.out))); (case aF => exact (fun _ _ => trivial)); (case aO => exact ((Kd.R_nil _ _ _ _ (fun _ => True)))); (case aS => exact (below_size (by repeat (first | (with_reducible first | exact HB.out | apply below_alloc | apply pw_below_drewN | apply below_drew1) | exact HB.out)))); (case aL => have := LMc3.out; omega); intro v130 w5 ho hb hg hat; rw [← Ny129.out] at ho; have n0_ := Aside0.mk (hb); have n1_ := Aside0.mk (ho); clear HB; have HB := n0_; have HO131 := n1_; clear n0_ n1_; clear ho hb hg hat) | ((with_reducible refine gate_builtin (b := .append) (xs := #[.tmp 6, .tmp 8]) rfl ?_); at_builtin; refine Kd.R_append (Kd.int .i64) (w0 := w) w.heap.size rfl (.tmp 6) (.tmp 8) 30 3 (.int .i64 0) 8 rfl Try.underlying30 info3 rfl (by decide) (by omega) v130 y129 a1 [.int .i64 a1] (fun _ => True) (fun _ => False) rfl rfl ?aP (fun _ hk => hk.elim) ?aF ?aO ?aB ?aS ?aL ?_; (case aP => exact rfl); (case aB => exact (by repeat (first | (with_reducible first | exact HB.out | apply below_alloc | apply pw_below_drewN | apply below_drew1) | exact HB.out))); (case aF => exact (fun _ _ => trivial)); (case aO => exact (by (with_reducible repeat (first | apply Kd.R_alloc | apply Kd.R_drewN | apply Kd.R_drew)); exact HO131.out)); (case aS => exact (below_size (by repeat (first | (with_reducible first | exact HB.out | apply below_alloc | apply pw_below_drewN | apply below_drew1) | exact HB.out)))); (case aL => have := LMc4.out; omega); intro v133 w6 ho hb hg hat; rw [← Ny132.out] at ho; have n0_ := Aside0.mk (hb); have n1_ := Aside0.mk (ho); clear HB; clear HO131; have HB := n0_; have HO134 := n1_; clear n0_ n1_; clear ho hb hg hat))
      go_ret
      exact ⟨_, by first | rfl | (simp [errW_none, errW_some] <;> rfl) | (simp [*, errW_none, errW_some] <;> rfl), by (with_reducible repeat (first | apply Kd.R_alloc | apply Kd.R_drewN | apply Kd.R_drew)); exact HO134.out, by repeat (first | (with_reducible first | exact HB.out | apply below_alloc | apply pw_below_drewN | apply below_drew1) | exact HB.out)⟩
    · rw [if_neg c4] at H
      exact absurd H (by simp)
  · rw [if_neg c3] at H
    exact absurd H (by simp)

/-! ### spinneyref21_Open: function 10 -/
mutual
def spinneyref21_Open.l0 : Nat → List (List Int) → List (S39) → Int → Int → Option ((List (List Int)))
  | 0, _, _, _, _ => none
  | k + 1, x3, x8, x9, x10 => if x10 < x9 then (if 0 ≤ x10 then (if x10 < (x8.length : Int) then (spinneyref21_Open.l1 k x3 x8 x9 x10 ((rd_T39 x8 x10).f2) (((rd_T39 x8 x10).f2).length : Int) 0 ((rd_T39 x8 x10).f0) ((rd_T39 x8 x10).f1.f0) ((rd_T39 x8 x10).f1.f1) ((rd_T39 x8 x10).f1.f2) ((rd_T39 x8 x10).f2)) else (none)) else (none)) else (some x3)
def spinneyref21_Open.l1 : Nat → List (List Int) → List (S39) → Int → Int → List Int → Int → Int → List Int → List (S63) → List (S66) → Int → List Int → Option ((List (List Int)))
  | 0, _, _, _, _, _, _, _, _, _, _, _, _ => none
  | k + 1, x3, x8, x9, x10, x15, x16, x17, x137000, x137001, x137002, x137003, x137004 => if x17 < x16 then (if 0 ≤ x17 then (if x17 < (x15.length : Int) then ((spinneyref19_Next.f x137000 (rd x15 x17)).bind fun t138 => (if x3.length < 5864062014805 then (spinneyref21_Open.l1 k (x3 ++ [t138]) x8 x9 x10 x15 x16 (wrap64 (x17 + 1)) x137000 x137001 x137002 x137003 x137004) else (none))) else (none)) else (none)) else (spinneyref21_Open.l0 k x3 x8 x9 (wrap64 (x10 + 1)))
end
def spinneyref21_Open.f (k : Nat) (l0 : List (S39)) : Option ((List (List Int))) := spinneyref21_Open.l0 k ([] : List (List Int)) l0 (l0.length : Int) 0
theorem spinneyref21_Open.mono_l : ∀ k, (∀ y0 y1 y2 y3, LeO (spinneyref21_Open.l0 k y0 y1 y2 y3) (spinneyref21_Open.l0 (k + 1) y0 y1 y2 y3)) ∧ (∀ y0 y1 y2 y3 y4 y5 y6 y7 y8 y9 y10 y11, LeO (spinneyref21_Open.l1 k y0 y1 y2 y3 y4 y5 y6 y7 y8 y9 y10 y11) (spinneyref21_Open.l1 (k + 1) y0 y1 y2 y3 y4 y5 y6 y7 y8 y9 y10 y11))
  | 0 => ⟨fun _ _ _ _ r h => by simp [spinneyref21_Open.l0] at h, fun _ _ _ _ _ _ _ _ _ _ _ _ r h => by simp [spinneyref21_Open.l1] at h⟩
  | k + 1 => by
    obtain ⟨ih0, ih1⟩ := spinneyref21_Open.mono_l k
    refine ⟨?_, ?_⟩
    · intro y0 y1 y2 y3
      unfold spinneyref21_Open.l0
      repeat' first
      | (with_reducible exact ih0 _ _ _ _)
      | (with_reducible exact ih1 _ _ _ _ _ _ _ _ _ _ _ _)
      | (with_reducible exact LeO.refl _)
      | (with_reducible exact LeO.none _)
      | (with_reducible refine LeO.ite ?_ ?_)
      | (with_reducible refine LeO.bind ?_ (fun _ => ?_))
      | exact ih0 _ _ _ _
      | exact ih1 _ _ _ _ _ _ _ _ _ _ _ _
      | exact LeO.none _
      | refine LeO.ite ?_ ?_
      | refine LeO.bind ?_ (fun _ => ?_)
    · intro y0 y1 y2 y3 y4 y5 y6 y7 y8 y9 y10 y11
      unfold spinneyref21_Open.l1
      repeat' first
      | (with_reducible exact ih0 _ _ _ _)
      | (with_reducible exact ih1 _ _ _ _ _ _ _ _ _ _ _ _)
      | (with_reducible exact LeO.refl _)
      | (with_reducible exact LeO.none _)
      | (with_reducible refine LeO.ite ?_ ?_)
      | (with_reducible refine LeO.bind ?_ (fun _ => ?_))
      | exact ih0 _ _ _ _
      | exact ih1 _ _ _ _ _ _ _ _ _ _ _ _
      | exact LeO.none _
      | refine LeO.ite ?_ ?_
      | refine LeO.bind ?_ (fun _ => ?_)
theorem spinneyref21_Open.mono : ∀ a0 k, LeO (spinneyref21_Open.f k a0) (spinneyref21_Open.f (k + 1) a0) := by
  intro a0 k
  obtain ⟨ih0, ih1⟩ := spinneyref21_Open.mono_l k
  unfold spinneyref21_Open.f
  repeat' first
      | (with_reducible exact ih0 _ _ _ _)
      | (with_reducible exact ih1 _ _ _ _ _ _ _ _ _ _ _ _)
      | (with_reducible exact LeO.refl _)
      | (with_reducible exact LeO.none _)
      | (with_reducible refine LeO.ite ?_ ?_)
      | (with_reducible refine LeO.bind ?_ (fun _ => ?_))
      | exact ih0 _ _ _ _
      | exact ih1 _ _ _ _ _ _ _ _ _ _ _ _
      | exact LeO.none _
      | refine LeO.ite ?_ ?_
      | refine LeO.bind ?_ (fun _ => ?_)
set_option maxHeartbeats 8000000 in
set_option maxRecDepth 100000 in
theorem spinneyref21_Open.calls (k : Nat) (A0 : Option Addr) (c0 : Nat) (l0 : List (S39)) (r : List (List Int)) (w : World) (hr0 : Kd.C k39 w A0 l0.length l0) (hc0 : l0.length ≤ c0) (h : spinneyref21_Open.f k l0 = some r) :
    Calls Try.prog 10 #[.slice A0 l0.length c0] w fun e w' => ∃ v0_ : Value, e = .returned (v0_) ∧ Kd.S (Kd.slice 3 (Kd.int .i64)) 30 w' w.heap.size (fun _ => True) v0_ r ∧ Below w.heap.size w w' := by
  have hu39 := Try.underlying39
  have HR0 := Aside0.mk hr0
  have HC0 := Aside0.mk hc0
  clear hr0 hc0
  have HB := Aside0.mk (Below.refl w.heap.size w)
  have H : (spinneyref21_Open.l0 k ([] : List (List Int)) l0 (l0.length : Int) 0) = some r := h
  clear h
  have H' := Aside0.mk H
  clear H
  go_enter Try.func10, Try.ntmps10
  go_wp2
  go_loopg [3, 10] k (fun kq v3 v10 w' => ∃ (x3_1 : List (List Int)) (x10_1 : Int), v10 = .int .i64 x10_1 ∧ Aside0 (spinneyref21_Open.l0 kq x3_1 l0 (l0.length : Int) x10_1 = some r) ∧ Aside0 (kq ≤ k) ∧ Aside0 (Kd.S (Kd.slice 3 (Kd.int .i64)) 30 w' w.heap.size (fun _ => True) v3 x3_1) ∧ Aside0 (Below w.heap.size w w'))
  case atStart => exact ⟨(([] : List (List Int))), (0), (by first | rfl | (simp; done) | (simp [*]; done)), H', ⟨Nat.le_refl _⟩, ⟨by first | exact Kd.S_nil _ _ _ _ _ | exact Kd.N_nil _ _ _ _ _ | exact Kd.V_nil _ _ _ _ _ | exact Kd.Q_nil _ _ _ _ _ | exact Kd.R_nil _ _ _ _ _⟩, ⟨by repeat (first | (with_reducible first | exact HB.out | apply below_alloc | apply pw_below_drewN | apply below_drew1) | exact HB.out)⟩⟩
  case round =>
    clear H'
    try clear c1
    obtain ⟨x3_1, x10_1, rfl, HA, HK1, HO_3, HB⟩ := hrel
    cases gk with
    | zero => exact absurd HA.out (by simp [spinneyref21_Open.l0])
    | succ k1 =>
      have H := HA.out
      clear HA
      simp only [spinneyref21_Open.l0] at H
      by_cases c2 : x10_1 < (l0.length : Int)
      · rw [if_pos c2] at H
        have c2b0 : decide (x10_1 < (l0.length : Int)) = true := decide_eq_true c2
        clear c2
        by_cases c3 : 0 ≤ x10_1
        · rw [if_pos c3] at H
          have c3b0 : decide (0 ≤ x10_1) = true := decide_eq_true c3
          clear c3
          by_cases c4 : x10_1 < (l0.length : Int)
          · rw [if_pos c4] at H
            have c4b0 : decide (x10_1 < (l0.length : Int)) = true := decide_eq_true c4
            clear c4
            have H' := Aside0.mk H
            clear H
            have p135 : 0 ≤ (x10_1 : Int) := of_decide_eq_true (by first | (with_reducible assumption) | assumption)
            have q135 : x10_1 < (l0.length : Int) := of_decide_eq_true (by first | (with_reducible assumption) | assumption)
            obtain ⟨ad135, A135_0, c135_0, A135_1, c135_1, A135_2, c135_2, A135_4, c135_4, e135, hx135_0, hx135_1, hx135_2, hx135_3, hx135_4, hl135_0, hi135_0, hl135_1, hi135_1, hl135_2, hi135_2, hl135_4, hi135_4⟩ := at_T39 HR0.out x10_1 p135 q135
            cases e135
            replace hx135_0 := (HB.out.cell (World.block_lt_of_cell? w _ hx135_0)).trans hx135_0
            replace hx135_1 := (HB.out.cell (World.block_lt_of_cell? w _ hx135_1)).trans hx135_1
            replace hx135_2 := (HB.out.cell (World.block_lt_of_cell? w _ hx135_2)).trans hx135_2
            replace hx135_3 := (HB.out.cell (World.block_lt_of_cell? w _ hx135_3)).trans hx135_3
            replace hx135_4 := (HB.out.cell (World.block_lt_of_cell? w _ hx135_4)).trans hx135_4
            have HR135_0 := Aside0.mk hi135_0
            have HC135_0 := Aside0.mk hl135_0
            clear hi135_0 hl135_0
            have HR135_1 := Aside0.mk hi135_1
            have HC135_1 := Aside0.mk hl135_1
            clear hi135_1 hl135_1
            have HR135_2 := Aside0.mk hi135_2
            have HC135_2 := Aside0.mk hl135_2
            clear hi135_2 hl135_2
            have HR135_4 := Aside0.mk hi135_4
            have HC135_4 := Aside0.mk hl135_4
            clear hi135_4 hl135_4
            replace p135 := eq_true p135
            replace q135 := eq_true q135
            go_wp2_with (first | ((with_reducible refine gate_dst (N := 5) rfl ?_); refine box_event ?hg (N := 5) ?hd (cs := #[.slice none 0 0, .slice none 0 0, .slice none 0 0, .int .i64 0, .slice none 0 0]) (t := 39) ?hr ?_; (case hd => rfl); (case hg => rfl); (case hr => first | (go_simp; done) | (go_simp; rfl)); intro gb136 hg w5 hbox hb; have n0_ := Aside0.mk (Kd.S_below (by (with_reducible repeat (first | apply Kd.S_alloc | apply Kd.S_drewN | apply Kd.S_drew)); exact HO_3.out) hb); have n1_ := Aside0.mk (below_step (by repeat (first | (with_reducible first | exact HB.out | apply below_alloc | apply pw_below_drewN | apply below_drew1) | exact HB.out)) hb); have n2_ := Aside0.mk (hbox); have n3_ := Aside0.mk ((by rw [hg]; exact (below_size (by repeat (first | (with_reducible first | exact HB.out | apply below_alloc | apply pw_below_drewN | apply below_drew1) | exact HB.out))) : w.heap.size ≤ gb136)); have n4_ := Aside0.mk ((by rw [hg]; exact (below_size (by repeat (first | (with_reducible first | exact HB.out | apply below_alloc | apply pw_below_drewN | apply below_drew1) | exact HB.out))) : w.heap.size ≤ gb136)); clear HO_3; clear HB; have HO_3 := n0_; have HB := n1_; have BK136 := n2_; have GW136 := n3_; have GE136 := n4_; clear n0_ n1_ n2_ n3_ n4_; clear hb hbox hg; have hcz6_0 : w5.cell? ⟨gb136, 0, none⟩ = some (.slice none 0 0) := (blk_cell BK136.out 0).trans rfl; have hcz6_1 : w5.cell? ⟨gb136, 1, none⟩ = some (.slice none 0 0) := (blk_cell BK136.out 1).trans rfl; have hcz6_2 : w5.cell? ⟨gb136, 2, none⟩ = some (.slice none 0 0) := (blk_cell BK136.out 2).trans rfl; have hcz6_3 : w5.cell? ⟨gb136, 3, none⟩ = some (.int .i64 0) := (blk_cell BK136.out 3).trans rfl; have hcz6_4 : w5.cell? ⟨gb136, 4, none⟩ = some (.slice none 0 0) := (blk_cell BK136.out 4).trans rfl; have hfz6_0 := blk_frozen BK136.out 0; have hfz6_1 := blk_frozen BK136.out 1; have hfz6_2 := blk_frozen BK136.out 2; have hfz6_3 := blk_frozen BK136.out 3; have hfz6_4 := blk_frozen BK136.out 4))
            go_loopg [3, 17] k1 (fun kq v3 v17 w' => ∃ (x3_2 : List (List Int)) (x17_2 : Int), v17 = .int .i64 x17_2 ∧ Aside0 (spinneyref21_Open.l1 kq x3_2 l0 (l0.length : Int) x10_1 ((rd_T39 l0 x10_1).f2) (((rd_T39 l0 x10_1).f2).length : Int) x17_2 ((rd_T39 l0 x10_1).f0) ((rd_T39 l0 x10_1).f1.f0) ((rd_T39 l0 x10_1).f1.f1) ((rd_T39 l0 x10_1).f1.f2) ((rd_T39 l0 x10_1).f2) = some r) ∧ Aside0 (kq ≤ k1) ∧ Aside0 (Kd.S (Kd.slice 3 (Kd.int .i64)) 30 w' w.heap.size (fun _ => True) v3 x3_2) ∧ Aside0 (w'.heap[gb136]? = some (.cells #[(.slice A135_0 ((rd_T39 l0 x10_1).f0).length c135_0), (.slice A135_1 ((rd_T39 l0 x10_1).f1.f0).length c135_1), (.slice A135_2 ((rd_T39 l0 x10_1).f1.f1).length c135_2), .int .i64 ((rd_T39 l0 x10_1).f1.f2), (.slice A135_4 ((rd_T39 l0 x10_1).f2).length c135_4)] 39 (0, 0))) ∧ Aside0 (Below w.heap.size w w'))
            case atStart => exact ⟨(x3_1), (0), (by first | rfl | (simp; done) | (simp [*]; done)), H', ⟨Nat.le_refl _⟩, ⟨by (with_reducible repeat (first | apply Kd.S_alloc | apply Kd.S_drewN | apply Kd.S_drew)); exact Kd.S_mono (Kd.S_far (p := ⟨gb136, 4, none⟩) (Kd.S_far (p := ⟨gb136, 3, none⟩) (Kd.S_far (p := ⟨gb136, 2, none⟩) (Kd.S_far (p := ⟨gb136, 1, none⟩) (Kd.S_far (p := ⟨gb136, 0, none⟩) (Kd.S_types HO_3.out BK136.out (by decide)) (fun _ hk => hk.2) (.slice A135_0 ((rd_T39 l0 x10_1).f0).length c135_0)) (fun _ hk => hk.2) (.slice A135_1 ((rd_T39 l0 x10_1).f1.f0).length c135_1)) (fun _ hk => hk.2) (.slice A135_2 ((rd_T39 l0 x10_1).f1.f1).length c135_2)) (fun _ hk => hk.2) (.int .i64 ((rd_T39 l0 x10_1).f1.f2))) (fun _ hk => hk.2) (.slice A135_4 ((rd_T39 l0 x10_1).f2).length c135_4)) (fun _ hk => trivial)⟩, ⟨by (with_reducible repeat (first | refine blk_drewN ?_ _ | refine blk_drew ?_ | refine blk_alloc ?_ _)); refine blk_put (cs := #[.slice A135_0 ((rd_T39 l0 x10_1).f0).length c135_0, .slice A135_1 ((rd_T39 l0 x10_1).f1.f0).length c135_1, .slice A135_2 ((rd_T39 l0 x10_1).f1.f1).length c135_2, .int .i64 ((rd_T39 l0 x10_1).f1.f2), .slice none 0 0]) ?_ 4 _ rfl; (with_reducible repeat (first | refine blk_drewN ?_ _ | refine blk_drew ?_ | refine blk_alloc ?_ _)); refine blk_put (cs := #[.slice A135_0 ((rd_T39 l0 x10_1).f0).length c135_0, .slice A135_1 ((rd_T39 l0 x10_1).f1.f0).length c135_1, .slice A135_2 ((rd_T39 l0 x10_1).f1.f1).length c135_2, .int .i64 0, .slice none 0 0]) ?_ 3 _ rfl; (with_reducible repeat (first | refine blk_drewN ?_ _ | refine blk_drew ?_ | refine blk_alloc ?_ _)); refine blk_put (cs := #[.slice A135_0 ((rd_T39 l0 x10_1).f0).length c135_0, .slice A135_1 ((rd_T39 l0 x10_1).f1.f0).length c135_1, .slice none 0 0, .int .i64 0, .slice none 0 0]) ?_ 2 _ rfl; (with_reducible repeat (first | refine blk_drewN ?_ _ | refine blk_drew ?_ | refine blk_alloc ?_ _)); refine blk_put (cs := #[.slice A135_0 ((rd_T39 l0 x10_1).f0).length c135_0, .slice none 0 0, .slice none 0 0, .int .i64 0, .slice none 0 0]) ?_ 1 _ rfl; (with_reducible repeat (first | refine blk_drewN ?_ _ | refine blk_drew ?_ | refine blk_alloc ?_ _)); refine blk_put (cs := #[.slice none 0 0, .slice none 0 0, .slice none 0 0, .int .i64 0, .slice none 0 0]) ?_ 0 _ rfl; (with_reducible repeat (first | refine blk_drewN ?_ _ | refine blk_drew ?_ | refine blk_alloc ?_ _)); exact BK136.out⟩, ⟨by repeat (first | (with_reducible first | exact HB.out | apply below_alloc | apply pw_below_drewN | apply below_drew1 | refine below_set ?_ GE136.out) | exact HB.out)⟩⟩
            case round =>
              clear H'
              try clear c1
              try clear p1
              try clear q1
              try clear hx1
              try clear c2
              try clear c2b0
              try clear p2
              try clear c3
              try clear c3b0
              try clear c4
              try clear c4b0
              try clear hcz6_0
              try clear hcz6_1
              try clear hcz6_2
              try clear hcz6_3
              try clear hcz6_4
              try clear hfz6_0
              try clear hfz6_1
              try clear hfz6_2
              try clear hfz6_3
              try clear hfz6_4
              try clear hx135_0
              try clear hx135_1
              try clear hx135_2
              try clear hx135_3
              try clear hx135_4
              try clear p135
              try clear q135
              obtain ⟨x3_2, x17_2, rfl, HA, HK2, HO_3, BK136, HB⟩ := hrel
              cases gk with
              | zero => exact absurd HA.out (by simp [spinneyref21_Open.l1])
              | succ k2 =>
                have H := HA.out
                clear HA
                simp only [spinneyref21_Open.l1] at H
                by_cases c7 : x17_2 < (((rd_T39 l0 x10_1).f2).length : Int)
                · rw [if_pos c7] at H
                  have c7b0 : decide (x17_2 < (((rd_T39 l0 x10_1).f2).length : Int)) = true := decide_eq_true c7
                  clear c7
                  by_cases c8 : 0 ≤ x17_2
                  · rw [if_pos c8] at H
                    have c8b0 : decide (0 ≤ x17_2) = true := decide_eq_true c8
                    clear c8
                    by_cases c9 : x17_2 < (((rd_T39 l0 x10_1).f2).length : Int)
                    · rw [if_pos c9] at H
                      have c9b0 : decide (x17_2 < (((rd_T39 l0 x10_1).f2).length : Int)) = true := decide_eq_true c9
                      clear c9
                      replace H := Option.bind_eq_some_iff.mp H
                      obtain ⟨t138, A100, H⟩ := H
                      replace H : (if x3_2.length < 5864062014805 then (spinneyref21_Open.l1 k2 (x3_2 ++ [t138]) l0 (l0.length : Int) x10_1 ((rd_T39 l0 x10_1).f2) (((rd_T39 l0 x10_1).f2).length : Int) (wrap64 (x17_2 + 1)) ((rd_T39 l0 x10_1).f0) ((rd_T39 l0 x10_1).f1.f0) ((rd_T39 l0 x10_1).f1.f1) ((rd_T39 l0 x10_1).f1.f2) ((rd_T39 l0 x10_1).f2)) else (none)) = some r := H
                      have A10 := Aside0.mk A100
                      clear A100
                      by_cases c11 : x3_2.length < 5864062014805
                      · rw [if_pos c11] at H
                        have LMc11 := Aside0.mk c11
                        clear c11
                        obtain ⟨y141, hy141⟩ : ∃ y_ : List (List Int), y_ = (x3_2 ++ [t138]) := ⟨_, rfl⟩
                        replace H : (spinneyref21_Open.l1 k2 y141 l0 (l0.length : Int) x10_1 ((rd_T39 l0 x10_1).f2) (((rd_T39 l0 x10_1).f2).length : Int) (wrap64 (x17_2 + 1)) ((rd_T39 l0 x10_1).f0) ((rd_T39 l0 x10_1).f1.f0) ((rd_T39 l0 x10_1).f1.f1) ((rd_T39 l0 x10_1).f1.f2) ((rd_T39 l0 x10_1).f2)) = some r := by first | (rw [hy141]; with_reducible exact H) | (have H2_ := (Option.bind_some _ _).symm.trans H; rw [hy141]; with_reducible exact H2_) | (have H2_ := (Option.bind_some _ _).symm.trans H; with_reducible exact H2_) | with_reducible exact H | (rw [hy141]; exact H) | exact H
                        have Ny141 := Aside0.mk hy141
                        clear hy141
                        have H' := Aside0.mk H
                        clear H
                        have p137 : 0 ≤ (x17_2 : Int) := of_decide_eq_true (by first | (with_reducible assumption) | assumption)
                        have q137 : x17_2 < (((rd_T39 l0 x10_1).f2).length : Int) := of_decide_eq_true (by first | (with_reducible assumption) | assumption)
                        obtain ⟨ad137, e137, hx137_0⟩ := Kd.at_int HR135_4.out x17_2 p137 q137
                        cases e137
                        replace hx137_0 := (HB.out.cell (World.block_lt_of_cell? w _ hx137_0)).trans hx137_0
                        replace p137 := eq_true p137
                        replace q137 := eq_true q137
                        have hcz12_0 : wr.cell? ⟨gb136, 0, none⟩ = some (.slice A135_0 ((rd_T39 l0 x10_1).f0).length c135_0) := (blk_cell BK136.out 0).trans rfl
                        have hcz12_1 : wr.cell? ⟨gb136, 1, none⟩ = some (.slice A135_1 ((rd_T39 l0 x10_1).f1.f0).length c135_1) := (blk_cell BK136.out 1).trans rfl
                        have hcz12_2 : wr.cell? ⟨gb136, 2, none⟩ = some (.slice A135_2 ((rd_T39 l0 x10_1).f1.f1).length c135_2) := (blk_cell BK136.out 2).trans rfl
                        have hcz12_3 : wr.cell? ⟨gb136, 3, none⟩ = some (.int .i64 ((rd_T39 l0 x10_1).f1.f2)) := (blk_cell BK136.out 3).trans rfl
                        have hcz12_4 : wr.cell? ⟨gb136, 4, none⟩ = some (.slice (some ad137) ((rd_T39 l0 x10_1).f2).length c135_4) := (blk_cell BK136.out 4).trans rfl
                        have hfz12_0 := blk_frozen BK136.out 0
                        have hfz12_1 := blk_frozen BK136.out 1
                        have hfz12_2 := blk_frozen BK136.out 2
                        have hfz12_3 := blk_frozen BK136.out 3
                        have hfz12_4 := blk_frozen BK136.out 4
                        go_wp2_with (first | ((with_reducible refine gate_callee (f := 18) rfl ?_); refine goesL_ (some 25) rfl rfl Try.func18 (by kernel_rfl) rfl #[.slice A135_0 ((rd_T39 l0 x10_1).f0).length c135_0, .int .i64 (rd ((rd_T39 l0 x10_1).f2) x17_2)] rfl (by (try simp only [List.map_toArray, List.map_cons, List.map_nil]); first | done | rfl | (simp only [List.length_drop, List.length_take]; rfl)) ?_; (with_reducible refine (spinneyref19_Next.calls _ _ ((rd_T39 l0 x10_1).f0) (rd ((rd_T39 l0 x10_1).f2) x17_2) t138 _ ?side1 ?side2 A10.out).mono ?_); (case side1 => repeat (first | exact (Kd.C_below HR135_0.out HB.out) | (with_reducible refine Kd.C_alloc ?_ _) | (with_reducible refine Kd.C_drewN ?_ _) | (with_reducible refine Kd.C_drew ?_))); (case side2 => exact HC135_0.out); rintro e w13 ⟨v139, rfl, ho0, hb⟩; refine ⟨_, rfl, ?_⟩; have n0_ := Aside0.mk (Kd.S_elder' (by (with_reducible repeat (first | apply Kd.S_alloc | apply Kd.S_drewN | apply Kd.S_drew)); exact HO_3.out) (Kd.R_base ho0) hb); have n1_ := Aside0.mk (Kd.R_lower ho0 (below_size (by repeat (first | (with_reducible first | exact HB.out | apply below_alloc | apply pw_below_drewN | apply below_drew1 | refine below_set ?_ GE136.out) | exact HB.out)))); have n2_ := Aside0.mk (blk_below (g := gb136) (o := .cells #[.slice A135_0 ((rd_T39 l0 x10_1).f0).length c135_0, .slice A135_1 ((rd_T39 l0 x10_1).f1.f0).length c135_1, .slice A135_2 ((rd_T39 l0 x10_1).f1.f1).length c135_2, .int .i64 ((rd_T39 l0 x10_1).f1.f2), .slice (some ad137) ((rd_T39 l0 x10_1).f2).length c135_4] 39 (0, 0)) (by (with_reducible repeat (first | refine blk_drewN ?_ _ | refine blk_drew ?_ | refine blk_alloc ?_ _)); exact BK136.out) hb); have n3_ := Aside0.mk (below_step (by repeat (first | (with_reducible first | exact HB.out | apply below_alloc | apply pw_below_drewN | apply below_drew1 | refine below_set ?_ GE136.out) | exact HB.out)) hb); clear HO_3; clear BK136; clear HB; have HO_3 := n0_; have HO140 := n1_; have BK136 := n2_; have HB := n3_; clear n0_ n1_ n2_ n3_; (try clear hb); (try clear hb2); (try clear hk); (try clear hi); (try clear ho0); obtain ⟨Ao15, co15, eo15⟩ := Kd.R_slice HO140.out; subst eo15) | ((with_reducible refine gate_builtin (b := .append) (xs := #[.tmp 21, .tmp 26]) rfl ?_); at_builtin; refine Kd.S_append (Kd.slice 3 (Kd.int .i64)) (w0 := w) w.heap.size rfl (.tmp 21) (.tmp 26) 26 30 (.slice none 0 0) 24 rfl Try.underlying26 info30 rfl (by decide) (by omega) u3 x3_2 t138 [.slice Ao15 t138.length co15] (fun _ => True) (fun k_ => some k_ = (.slice Ao15 t138.length co15 : Value).ownBlock) rfl rfl ?aP (fun k_ hk_ => ((Kd.R_mono (ok' := fun k_ => ((fun _ => True)) k_ ∧ some k_ ≠ (u3 : Value).ownBlock) (Kd.R_apart' (HO140.out) (Kd.S_typed HO_3.out) (by decide)) (fun k_ hk => ⟨trivial, hk.2⟩))).1 k_ hk_.symm) ?aF ?aO ?aB ?aS ?aL ?_; (case aP => exact Kd.M_row (Kd.R_mono (Kd.R_tight rfl (Kd.R_mono (ok' := fun k_ => ((fun _ => True)) k_ ∧ some k_ ≠ (u3 : Value).ownBlock) (Kd.R_apart' (HO140.out) (Kd.S_typed HO_3.out) (by decide)) (fun k_ hk => ⟨trivial, hk.2⟩))) (fun _ h_ => h_))); (case aB => exact (by repeat (first | (with_reducible first | exact HB.out | apply below_alloc | apply pw_below_drewN | apply below_drew1 | refine below_set ?_ GE136.out) | exact HB.out))); (case aF => exact (fun _ _ => trivial)); (case aO => exact (by (with_reducible repeat (first | apply Kd.S_alloc | apply Kd.S_drewN | apply Kd.S_drew)); exact Kd.S_mono HO_3.out (fun k_ hk => ⟨trivial, fun e_ => hk.2 e_⟩))); (case aS => exact (below_size (by repeat (first | (with_reducible first | exact HB.out | apply below_alloc | apply pw_below_drewN | apply below_drew1 | refine below_set ?_ GE136.out) | exact HB.out)))); (case aL => have := LMc11.out; omega); intro v142 w14 ho hb hg hat; rw [← Ny141.out] at ho; have n0_ := Aside0.mk (blk_grown (g := gb136) (o := .cells #[.slice A135_0 ((rd_T39 l0 x10_1).f0).length c135_0, .slice A135_1 ((rd_T39 l0 x10_1).f1.f0).length c135_1, .slice A135_2 ((rd_T39 l0 x10_1).f1.f1).length c135_2, .int .i64 ((rd_T39 l0 x10_1).f1.f2), .slice (some ad137) ((rd_T39 l0 x10_1).f2).length c135_4] 39 (0, 0)) (by (with_reducible repeat (first | refine blk_drewN ?_ _ | refine blk_drew ?_ | refine blk_alloc ?_ _)); exact BK136.out) hg (Kd.S_ne HO_3.out BK136.out (by decide))); have n1_ := Aside0.mk (hb); have n2_ := Aside0.mk (ho); clear BK136; clear HB; clear HO_3; clear HO140; have BK136 := n0_; have HB := n1_; have HO143 := n2_; clear n0_ n1_ n2_; clear ho hb hg hat))
                        go_roundg k2
                        case measure => have := HK1.out; have := HK2.out; omega
                        case rel => exact ⟨(y141), (wrap64 (x17_2 + 1)), (by first | rfl | (simp; done) | (simp [*]; done)), H', ⟨by have := HK1.out; have := HK2.out; omega⟩, ⟨by (with_reducible repeat (first | apply Kd.S_alloc | apply Kd.S_drewN | apply Kd.S_drew)); exact HO143.out⟩, ⟨by (with_reducible repeat (first | refine blk_drewN ?_ _ | refine blk_drew ?_ | refine blk_alloc ?_ _)); exact BK136.out⟩, ⟨by repeat (first | (with_reducible first | exact HB.out | apply below_alloc | apply pw_below_drewN | apply below_drew1 | refine below_set ?_ GE136.out) | exact HB.out)⟩⟩
                      · rw [if_neg c11] at H
                        exact absurd H (by simp)
                    · rw [if_neg c9] at H
                      exact absurd H (by simp)
                  · rw [if_neg c8] at H
                    exact absurd H (by simp)
                · rw [if_neg c7] at H
                  have c7b0 : decide (x17_2 < (((rd_T39 l0 x10_1).f2).length : Int)) = false := decide_eq_false c7
                  clear c7
                  have H' := Aside0.mk H
                  clear H
                  go_wp2
                  go_roundg k2
                  case measure => have := HK1.out; have := HK2.out; omega
                  case rel => exact ⟨(x3_2), (wrap64 (x10_1 + 1)), (by first | rfl | (simp; done) | (simp [*]; done)), H', ⟨by have := HK1.out; have := HK2.out; omega⟩, ⟨by (with_reducible repeat (first | apply Kd.S_alloc | apply Kd.S_drewN | apply Kd.S_drew)); exact HO_3.out⟩, ⟨by repeat (first | (with_reducible first | exact HB.out | apply below_alloc | apply pw_below_drewN | apply below_drew1 | refine below_set ?_ GE136.out) | exact HB.out)⟩⟩
          · rw [if_neg c4] at H
            exact absurd H (by simp)
        · rw [if_neg c3] at H
          exact absurd H (by simp)
      · rw [if_neg c2] at H
        have c2b0 : decide (x10_1 < (l0.length : Int)) = false := decide_eq_false c2
        clear c2
        obtain rfl := Option.some.inj H
        go_wp2
        go_ret
        exact ⟨_, by first | rfl | (simp [errW_none, errW_some] <;> rfl) | (simp [*, errW_none, errW_some] <;> rfl), by (with_reducible repeat (first | apply Kd.S_alloc | apply Kd.S_drewN | apply Kd.S_drew)); exact HO_3.out, by repeat (first | (with_reducible first | exact HB.out | apply below_alloc | apply pw_below_drewN | apply below_drew1) | exact HB.out)⟩

/-! ### spinneyref21_Count: function 12 -/
def spinneyref21_Count.f (k : Nat) (l0 : List (S39)) : Option (Int) := (spinneyref21_Open.f k l0).bind fun t144 => (some (t144.length : Int))
theorem spinneyref21_Count.mono : ∀ a0 k, LeO (spinneyref21_Count.f k a0) (spinneyref21_Count.f (k + 1) a0) := by
  intro a0 k
  unfold spinneyref21_Count.f
  repeat' first
      | (with_reducible exact spinneyref21_Open.mono _ _)
      | (with_reducible exact LeO.refl _)
      | (with_reducible exact LeO.none _)
      | (with_reducible refine LeO.ite ?_ ?_)
      | (with_reducible refine LeO.bind ?_ (fun _ => ?_))
      | exact spinneyref21_Open.mono _ _
      | exact LeO.none _
      | refine LeO.ite ?_ ?_
      | refine LeO.bind ?_ (fun _ => ?_)
set_option maxHeartbeats 8000000 in
set_option maxRecDepth 100000 in
theorem spinneyref21_Count.calls (k : Nat) (A0 : Option Addr) (c0 : Nat) (l0 : List (S39)) (r : Int) (w : World) (hr0 : Kd.C k39 w A0 l0.length l0) (hc0 : l0.length ≤ c0) (h : spinneyref21_Count.f k l0 = some r) :
    Calls Try.prog 12 #[.slice A0 l0.length c0] w fun e w' => e = .returned (.int .i64 r) ∧ Below w.heap.size w w' := by
  have HR0 := Aside0.mk hr0
  have HC0 := Aside0.mk hc0
  clear hr0 hc0
  have HB := Aside0.mk (Below.refl w.heap.size w)
  have H : ((spinneyref21_Open.f k l0).bind fun t144 => (some (t144.length : Int))) = some r := h
  clear h
  replace H := Option.bind_eq_some_iff.mp H
  obtain ⟨t144, A20, H⟩ := H
  replace H : (some (t144.length : Int)) = some r := H
  have A2 := Aside0.mk A20
  clear A20
  obtain rfl := Option.some.inj H
  go_enter Try.func12, Try.ntmps12
  go_wp2_with (first | ((with_reducible refine gate_callee (f := 10) rfl ?_); refine goesL_ (some 4) rfl rfl Try.func10 (by kernel_rfl) rfl #[.slice A0 l0.length c0] rfl (by (try simp only [List.map_toArray, List.map_cons, List.map_nil]); first | done | rfl | (simp only [List.length_drop, List.length_take]; rfl)) ?_; (with_reducible refine (spinneyref21_Open.calls k _ _ l0 t144 _ ?side1 ?side2 A2.out).mono ?_); (case side1 => repeat (first | exact HR0.out | (with_reducible refine Kd.C_alloc ?_ _) | (with_reducible refine Kd.C_drewN ?_ _) | (with_reducible refine Kd.C_drew ?_))); (case side2 => exact HC0.out); rintro e w3 ⟨v145, rfl, ho0, hb⟩; refine ⟨_, rfl, ?_⟩; have n0_ := Aside0.mk (Kd.S_lower ho0 (below_size (by repeat (first | (with_reducible first | exact HB.out | apply below_alloc | apply pw_below_drewN | apply below_drew1) | exact HB.out)))); have n1_ := Aside0.mk (below_step (by repeat (first | (with_reducible first | exact HB.out | apply below_alloc | apply pw_below_drewN | apply below_drew1) | exact HB.out)) hb); clear HB; have HO146 := n0_; have HB := n1_; clear n0_ n1_; (try clear hb); (try clear hb2); (try clear hk); (try clear hi); (try clear ho0); obtain ⟨Ao4, co4, eo4⟩ := Kd.S_slice HO146.out; subst eo4))
  go_ret
  exact ⟨by first | rfl | (simp [errW_none, errW_some] <;> rfl) | (simp [*, errW_none, errW_some] <;> rfl), by repeat (first | (with_reducible first | exact HB.out | apply below_alloc | apply pw_below_drewN | apply below_drew1) | exact HB.out)⟩

end Go.Proofs.Ytfcmbflpefhpaaa.P
