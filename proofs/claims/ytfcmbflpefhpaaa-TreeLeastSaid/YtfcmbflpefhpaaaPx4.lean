-- PRINTED by a program of this session over the kit's print.py.
import Derived.Test.YtfcmbflpefhpaaaPx0
import Derived.Test.YtfcmbflpefhpaaaPx2
import Derived.Test.YtfcmbflpefhpaaaPx3
namespace Go.Proofs.Ytfcmbflpefhpaaa.P
open Go.Own Go.RowKit Go.Proofs.YtfcmbflpefhpaaaW.PrintWords Go.Proofs.YtfcmbflpefhpaaaW.PrintLast Go.Proofs.YtfcmbflpefhpaaaW.PrintMore
attribute [local go_sem] max2_int min2_int max_two min_two max_three min_three max_four min_four   -- for this text's walks alone
set_option linter.unusedVariables false
set_option linter.unusedSimpArgs false

/-! ### tree_Prune: function 16 (given) -/
section
open Go.Shelf
attribute [local go_sem] Oper.semAt_some
theorem tree_Prune.mkF (W : World) (ok : Nat → Prop) (x : S39) {A0 : Option Addr} {c0 : Nat} (l0 : x.f0.length ≤ c0) (g0 : Kd.F (Kd.int .i64) W ok A0 x.f0.length x.f0) {A1 : Option Addr} {c1 : Nat} (l1 : x.f1.f0.length ≤ c1) (g1 : Kd.F k63 W ok A1 x.f1.f0.length x.f1.f0) {A2 : Option Addr} {c2 : Nat} (l2 : x.f1.f1.length ≤ c2) (g2 : Kd.F k66 W ok A2 x.f1.f1.length x.f1.f1) {A4 : Option Addr} {c4 : Nat} (l4 : x.f2.length ≤ c4) (g4 : Kd.F (Kd.int .i64) W ok A4 x.f2.length x.f2) : Kd.FK k39 W ok x [.slice A0 x.f0.length c0, .slice A1 x.f1.f0.length c1, .slice A2 x.f1.f1.length c2, .int .i64 x.f1.f2, .slice A4 x.f2.length c4] := fun W2 hW => k39_mk W2 x l0 (g0 W2 hW) l1 (g1 W2 hW) l2 (g2 W2 hW) l4 (g4 W2 hW)
/-- a place that a cut leaves -/
def tree_Prune.keep (c : S39) (by_ : List Int) (d : Int) (i : Int) : Bool := label_Pruned.f (c.f0 ++ [i]) by_ d == some false
def tree_Prune.one (by_ : List Int) (d : Int) (c : S39) : List S39 := if c.f2.filter (tree_Prune.keep c by_ d) = [] then [] else [⟨c.f0, c.f1, c.f2.filter (tree_Prune.keep c by_ d)⟩]
def tree_Prune.all (l0 : List S39) (by_ : List Int) (d : Int) : List S39 := l0.flatMap (tree_Prune.one by_ d)
def tree_Prune.fits (l0 : List S39) (by_ : List Int) (d : Int) : Prop := l0.length ≤ 1000000000 ∧ (∀ c ∈ l0, c.f0.length < 17592186044416 ∧ c.f2.length ≤ 1000000000 ∧ ∀ i ∈ c.f2, ∃ b, label_Pruned.f (c.f0 ++ [i]) by_ d = some b)
/-- what the inner rounds keep: the row of what is left in its box -/
def tree_Prune.In (gl gc Bc : Nat) (C : Array Value) (W : World) (xs : List Int) (X : World) : Prop := ∃ v, BoxN X gl 30 #[v] ∧ Kd.R (Kd.int .i64) 3 X W.heap.size (fun _ => True) v xs ∧ BoxN X gc 39 C ∧ BoxN X Bc 39 C ∧ Below W.heap.size W X
theorem tree_Prune.In.cells {gl gc Bc : Nat} {C : Array Value} {W X Y : World} {xs : List Int} (h : tree_Prune.In gl gc Bc C W xs X) (hk : KeepsCells X Y) (hb : Below W.heap.size X Y) : tree_Prune.In gl gc Bc C W xs Y := by
  obtain ⟨v, h0, h1, h2, h3, h4⟩ := h
  exact ⟨v, hk.2 _ _ _ h0, Kd.R_mono (R_cells h1 hk) (fun _ _ => trivial), hk.2 _ _ _ h2, hk.2 _ _ _ h3, h4.trans hb⟩
theorem tree_Prune.In.own {gl gc Bc B : Nat} {C : Array Value} {W : World} (hB : W.heap.size ≤ B) {β : Type} (f : β → List Int) : OwnFrom B (fun (s : β) X => tree_Prune.In gl gc Bc C W (f s) X) := by
  intro s X Y row h hg hr
  have hk := KeepsCells.of_grown hg (fun r e => (hr r e).2)
  exact h.cells hk ((Below.refl _ X).grown hg (by obtain ⟨v, -, -, -, -, h4⟩ := h; exact h4.size) (fun k e => Nat.le_trans hB (hr k e).1))
theorem tree_Prune.meas (n m : Nat) (a b : Array Value) (ha : a[15]? = some (.int .i64 ((m + 1 : Nat) : Int))) (hb : b[15]? = some (.int .i64 (m : Int))) (h : m < n) : ((n : Int) - intOf (a.getD 15 undef)).toNat < ((n : Int) - intOf (b.getD 15 undef)).toNat := by
  rw [Array.getD_eq_getD_getElem?, ha, Array.getD_eq_getD_getElem?, hb]
  simp only [Option.getD_some, intOf]
  omega
theorem tree_Prune.take_succ (l0 : List S39) (by_ : List Int) (d : Int) (m : Nat) (h : m < l0.length) : tree_Prune.all (l0.take (m + 1)) by_ d = tree_Prune.all (l0.take m) by_ d ++ tree_Prune.one by_ d (l0[m]'h) := by
  unfold tree_Prune.all
  rw [List.take_succ_eq_append_getElem h, List.flatMap_append]
  simp
theorem tree_Prune.one_len (by_ : List Int) (d : Int) (c : S39) : (tree_Prune.one by_ d c).length ≤ 1 := by
  unfold tree_Prune.one
  split <;> simp
theorem tree_Prune.all_len (by_ : List Int) (d : Int) : ∀ l0 : List S39, (tree_Prune.all l0 by_ d).length ≤ l0.length
  | [] => Nat.le_refl _
  | c :: l => by
    have h1 := tree_Prune.all_len by_ d l
    have h2 := tree_Prune.one_len by_ d c
    unfold tree_Prune.all at h1 ⊢
    rw [List.flatMap_cons, List.length_append, List.length_cons]
    omega
theorem tree_Prune.cnt (by_ : List Int) (d : Int) (l0 : List S39) (m : Nat) (hl : l0.length ≤ 1000000000) : ((tree_Prune.all (l0.take m) by_ d).length + 1) * 104 ≤ 140737488355328 := by
  have h1 := tree_Prune.all_len by_ d (l0.take m)
  have h2 : (l0.take m).length ≤ l0.length := by rw [List.length_take]; exact Nat.min_le_right _ _
  have h3 : (tree_Prune.all (l0.take m) by_ d).length + 1 ≤ 1000000001 := Nat.succ_le_succ (Nat.le_trans h1 (Nat.le_trans h2 hl))
  exact Nat.le_trans (Nat.mul_le_mul_right 104 h3) (by decide)
theorem tree_Prune.info : (Try.prog.info? 39).map (fun i => (i.zero, i.size, i.bytes)) = some (some (.agg #[.slice none 0 0, .slice none 0 0, .slice none 0 0, .int .i64 0, .slice none 0 0]), 5, 104) := by kernel_rfl
set_option maxRecDepth 100000 in
set_option maxHeartbeats 8000000 in
theorem tree_Prune.calls (A0 : Option Addr) (c0 : Nat) (l0 : List S39) (A1 : Option Addr) (c1 : Nat) (l1 : List Int) (a2 : Int) (w : World) (hr0 : Kd.C k39 w A0 l0.length l0) (hc0 : l0.length ≤ c0) (hr1 : Kd.C (Kd.int .i64) w A1 l1.length l1) (hc1 : l1.length ≤ c1) (hfit : tree_Prune.fits l0 l1 a2) :
    Calls Try.prog 16 #[.slice A0 l0.length c0, .slice A1 l1.length c1, .int .i64 a2] w fun e w' => ∃ v0_ : Value, e = .returned v0_ ∧ Kd.N k39 39 w' (w.heap.size + 2) (fun _ => True) v0_ (tree_Prune.all l0 l1 a2) ∧ Below w.heap.size w w' := by
  obtain ⟨hl63, hlab⟩ := hfit
  have hu39 := Try.underlying39
  have HR0 := Aside0.mk hr0
  have HR1 := Aside0.mk hr1
  clear hr0 hr1
  refine callsIn_wide (n := 5) |>.1 ?_
  refine callsIn_of_wp_marks Try.func16 rfl trivial ?_ rfl
  simp only [Try.ntmps16, List.size_toArray, List.length_cons, List.length_nil, Nat.reduceAdd, Nat.reduceSub, Array.replicate_succ, Array.replicate_zero, List.push_toArray, List.append_toArray, List.nil_append, List.cons_append]
  refine wpIn_wide.2 ?_
  go_wp2
  refine wp_loop (fun a W => ∃ (m : Nat) (Ds : List Nat) (vo u9 u10 u11 u12 u16 u17 u18 u19 u20 u21 u22 u23 u24 u25 u26 u27 u28 u29 u30 u31 u32 u33 u34 u35 u36 u37 u38 u39 u40 u41 u42 : Value), a = { tmps := #[.slice A0 l0.length c0, .slice A1 l1.length c1, .int .i64 a2, undef, .pointer (some ⟨w.heap.size, 0, none⟩), .pointer (some ⟨w.heap.size + 1, 0, none⟩), .slice none 0 0, vo, undef, u9, u10, u11, u12, .slice A0 l0.length c0, .int .i64 l0.length, .int .i64 (m : Int), u16, u17, u18, u19, u20, u21, u22, u23, u24, u25, u26, u27, u28, u29, u30, u31, u32, u33, u34, u35, u36, u37, u38, u39, u40, u41, u42], defers := Ds.map markOf } ∧
    m ≤ l0.length ∧ Aside0 (BoxN W w.heap.size 30 #[.slice A1 l1.length c1]) ∧ Aside0 (BoxN W (w.heap.size + 1) 3 #[.int .i64 a2]) ∧ Aside0 (Kd.N k39 39 W (w.heap.size + 2) (fun k => k ∉ Ds) vo (tree_Prune.all (l0.take m) l1 a2)) ∧ Aside0 (Below w.heap.size w W) ∧ Ds.Nodup ∧ (∀ D ∈ Ds, w.heap.size + 1 < D ∧ W.heap[D]? = some (.deferred (some [])))) (fun a _ => ((l0.length : Int) - intOf (a.tmps.getD 15 undef)).toNat) ?_ ?_
  · have b1 := (BoxN.new w 30 #[.slice A1 l1.length c1]).alloc (.cells #[.int .i64 a2] 3)
    have b2 := BoxN.new (w.alloc (.cells #[.slice A1 l1.length c1] 30)) 3 #[.int .i64 a2]
    rw [World.size_alloc] at b2
    exact ⟨0, [], _, _, _, _, _, _, _, _, _, _, _, _, _, _, _, _, _, _, _, _, _, _, _, _, _, _, _, _, _, _, _, _, rfl, Nat.zero_le _, ⟨b1⟩, ⟨b2⟩, ⟨Kd.N_nil _ _ _ _ _⟩, ⟨((Below.refl _ w).alloc (Nat.le_refl _) _).alloc (by simp) _⟩, List.nodup_nil, fun D h => by cases h⟩
  · rintro a W ⟨m, Ds, vo, u9, u10, u11, u12, u16, u17, u18, u19, u20, u21, u22, u23, u24, u25, u26, u27, u28, u29, u30, u31, u32, u33, u34, u35, u36, u37, u38, u39, u40, u41, u42, rfl, hm, hby, hdp, hN, hbl, hnd, hDs⟩
    by_cases hlt : m < l0.length
    · have q1 : ((m : Int) < (l0.length : Int)) = True := eq_true (by omega)
      have q0 : (0 ≤ (m : Int)) = True := eq_true (by omega)
      obtain ⟨ad, Al, cl, A1_, c1_, A2_, c2_, AL, cL, e, hx0, hx1, hx2, hx3, hx4, hl0, hi0, hl1, hi1, hl2, hi2, hl4, hi4⟩ := at_T39 HR0.out (m : Int) (by omega) (by omega)
      cases e
      obtain ⟨c, hc⟩ : ∃ c, rd_T39 l0 (m : Int) = c := ⟨_, rfl⟩
      rw [hc] at hx0 hx1 hx2 hx3 hx4 hl0 hl1 hl2 hl4 hi0 hi1 hi2 hi4
      replace hx0 := (hbl.out.cell (World.block_lt_of_cell? w _ hx0)).trans hx0
      replace hx1 := (hbl.out.cell (World.block_lt_of_cell? w _ hx1)).trans hx1
      replace hx2 := (hbl.out.cell (World.block_lt_of_cell? w _ hx2)).trans hx2
      replace hx3 := (hbl.out.cell (World.block_lt_of_cell? w _ hx3)).trans hx3
      replace hx4 := (hbl.out.cell (World.block_lt_of_cell? w _ hx4)).trans hx4
      have em : ((m : Nat) : Int).toNat = m := rfl
      rw [em] at hx0 hx1 hx2 hx3 hx4
      replace hi0 := Aside0.mk hi0
      replace hi1 := Aside0.mk hi1
      replace hi2 := Aside0.mk hi2
      replace hi4 := Aside0.mk hi4
      replace hl0 := Aside0.mk hl0
      replace hl1 := Aside0.mk hl1
      replace hl2 := Aside0.mk hl2
      replace hl4 := Aside0.mk hl4
      go_wp2_with (first | ((with_reducible refine gate_dst (N := 9) rfl ?_); refine box_event ?hg (N := 9) ?hd (cs := #[.slice none 0 0, .slice none 0 0, .slice none 0 0, .int .i64 0, .slice none 0 0]) (t := 39) ?hr ?_; (case hd => rfl); (case hg => rfl); (case hr => first | (go_simp; done) | (go_simp; rfl)); intro gc hgc w5 hbox2 hb5; have hcz0 : w5.cell? ⟨gc, 0, none⟩ = some (.slice none 0 0) := (blk_cell hbox2 0).trans rfl; have hcz1 : w5.cell? ⟨gc, 1, none⟩ = some (.slice none 0 0) := (blk_cell hbox2 1).trans rfl; have hcz2 : w5.cell? ⟨gc, 2, none⟩ = some (.slice none 0 0) := (blk_cell hbox2 2).trans rfl; have hcz3 : w5.cell? ⟨gc, 3, none⟩ = some (.int .i64 0) := (blk_cell hbox2 3).trans rfl; have hcz4 : w5.cell? ⟨gc, 4, none⟩ = some (.slice none 0 0) := (blk_cell hbox2 4).trans rfl; have hfz0 := blk_frozen hbox2 0; have hfz1 := blk_frozen hbox2 1; have hfz2 := blk_frozen hbox2 2; have hfz3 := blk_frozen hbox2 3; have hfz4 := blk_frozen hbox2 4; replace hbox2 := Aside0.mk hbox2; replace hb5 := Aside0.mk hb5; replace hgc := Aside0.mk hgc) | ((with_reducible refine gate_dst (N := 10) rfl ?_); refine box_event ?hg (N := 10) ?hd (cs := #[.slice none 0 0]) (t := 30) ?hr ?_; (case hd => rfl); (case hg => rfl); (case hr => first | (go_simp; done) | (go_simp; rfl)); intro gl hgl w6 hbox3 hb6; have hcb0 := blk_put (blk_put (blk_put (blk_put (blk_put hbox2.out 0 (.slice Al c.f0.length cl) rfl) 1 (.slice A1_ c.f1.f0.length c1_) rfl) 2 (.slice A2_ c.f1.f1.length c2_) rfl) 3 (.int .i64 c.f1.f2) rfl) 4 (.slice AL c.f2.length cL) rfl; have hcb := (hb6.block gc (Array.getElem?_eq_some_iff.1 hcb0).1).trans hcb0; have hcw0 : w6.cell? ⟨gc, 0, none⟩ = some (.slice Al c.f0.length cl) := (blk_cell hcb 0).trans rfl; have hcw1 : w6.cell? ⟨gc, 1, none⟩ = some (.slice A1_ c.f1.f0.length c1_) := (blk_cell hcb 1).trans rfl; have hcw2 : w6.cell? ⟨gc, 2, none⟩ = some (.slice A2_ c.f1.f1.length c2_) := (blk_cell hcb 2).trans rfl; have hcw3 : w6.cell? ⟨gc, 3, none⟩ = some (.int .i64 c.f1.f2) := (blk_cell hcb 3).trans rfl; have hcw4 : w6.cell? ⟨gc, 4, none⟩ = some (.slice AL c.f2.length cL) := (blk_cell hcb 4).trans rfl; clear hcz0 hcz1 hcz2 hcz3 hcz4 hfz0 hfz1 hfz2 hfz3 hfz4 hx0 hx1 hx2 hx3 hx4; replace hcb0 := Aside0.mk hcb0; replace hcb := Aside0.mk hcb; replace hbox3 := Aside0.mk hbox3; replace hb6 := Aside0.mk hb6; replace hgl := Aside0.mk hgl) | (go_at_call 22; (with_reducible refine (tree_places.calls _ _ _ _ _ _).mono ?_); rintro e w7 ⟨rfl, rfl⟩))
      have hge : W.heap.size ≤ gc := Nat.le_of_eq hgc.out.symm
      have hbS : Below W.heap.size W (((((w5.setCell ⟨gc, 0, none⟩ (.slice Al c.f0.length cl)).setCell ⟨gc, 1, none⟩ (.slice A1_ c.f1.f0.length c1_)).setCell ⟨gc, 2, none⟩ (.slice A2_ c.f1.f1.length c2_)).setCell ⟨gc, 3, none⟩ (.int .i64 c.f1.f2)).setCell ⟨gc, 4, none⟩ (.slice AL c.f2.length cL)) :=
        ((((hb5.out.setCell (p := ⟨gc, 0, none⟩) hge _).setCell (p := ⟨gc, 1, none⟩) hge _).setCell (p := ⟨gc, 2, none⟩) hge _).setCell (p := ⟨gc, 3, none⟩) hge _).setCell (p := ⟨gc, 4, none⟩) hge _
      have hgcS := (Array.getElem?_eq_some_iff.1 hcb0.out).1
      have hgl' := hgl.out
      have hcgl : gc < gl := by rw [hgl']; exact hgcS
      have hb6W : Below W.heap.size W w6 := hbS.trans (hb6.out.mono hbS.size)
      have hgcB6 : BoxN w6 gc 39 #[.slice Al c.f0.length cl, .slice A1_ c.f1.f0.length c1_, .slice A2_ c.f1.f1.length c2_, .int .i64 c.f1.f2, .slice AL c.f2.length cL] := hcb.out.trans rfl
      have hglB6 : BoxN w6 gl 30 #[.slice none 0 0] := hbox3.out
      have hgl6 : gl < w6.heap.size := hglB6.lt
      have hby' := hby.out
      have hdp' := hdp.out
      have hWw : w.heap.size + 1 < W.heap.size := hdp'.lt
      clear hcb0 hcb hb6 hgl hbS hgcS hgl' hbox2 hbox3 hcw0 hcw1 hcw2 hcw3 hcw4
      have hcm : c = l0[m]'hlt := by rw [← hc]; unfold rd_T39; simp [List.getD_eq_getElem?_getD, hlt]
      have hlabc := hlab c (by rw [hcm]; exact List.getElem_mem hlt)
      replace hcm := Aside0.mk hcm
      have hbW2 : Below W.heap.size W (w6.alloc (.cells #[.slice Al c.f0.length cl, .slice A1_ c.f1.f0.length c1_, .slice A2_ c.f1.f1.length c2_, .int .i64 c.f1.f2, .slice AL c.f2.length cL] 39)) := hb6W.alloc hb6W.size _
      have hBc : BoxN (w6.alloc (.cells #[.slice Al c.f0.length cl, .slice A1_ c.f1.f0.length c1_, .slice A2_ c.f1.f1.length c2_, .int .i64 c.f1.f2, .slice AL c.f2.length cL] 39)) w6.heap.size 39 #[.slice Al c.f0.length cl, .slice A1_ c.f1.f0.length c1_, .slice A2_ c.f1.f1.length c2_, .int .i64 c.f1.f2, .slice AL c.f2.length cL] := World.alloc_heap_new w6 (.cells #[.slice Al c.f0.length cl, .slice A1_ c.f1.f0.length c1_, .slice A2_ c.f1.f1.length c2_, .int .i64 c.f1.f2, .slice AL c.f2.length cL] 39)
      have hgcB := hgcB6.alloc (.cells #[.slice Al c.f0.length cl, .slice A1_ c.f1.f0.length c1_, .slice A2_ c.f1.f1.length c2_, .int .i64 c.f1.f2, .slice AL c.f2.length cL] 39)
      have hglB := hglB6.alloc (.cells #[.slice Al c.f0.length cl, .slice A1_ c.f1.f0.length c1_, .slice A2_ c.f1.f1.length c2_, .int .i64 c.f1.f2, .slice AL c.f2.length cL] 39)
      obtain ⟨W2, hW2⟩ : ∃ W2, w6.alloc (.cells #[.slice Al c.f0.length cl, .slice A1_ c.f1.f0.length c1_, .slice A2_ c.f1.f1.length c2_, .int .i64 c.f1.f2, .slice AL c.f2.length cL] 39) = W2 := ⟨_, rfl⟩
      rw [hW2] at hbW2 hBc hgcB hglB ⊢
      have hBlt : w6.heap.size < W2.heap.size := hBc.lt
      have hW6 : W.heap.size ≤ w6.heap.size := hb6W.size
      clear hW2 hb5 hgcB6 hglB6 hb6W
      have hwW2 : Below w.heap.size w W2 := hbl.out.trans (hbW2.mono (by omega))
      have hIn2 : tree_Prune.In gl gc w6.heap.size #[.slice Al c.f0.length cl, .slice A1_ c.f1.f0.length c1_, .slice A2_ c.f1.f1.length c2_, .int .i64 c.f1.f2, .slice AL c.f2.length cL] W [] W2 := ⟨_, hglB, Kd.R_nil _ _ _ _ _, hgcB, hBc, hbW2⟩
      have hDs2 : ∀ D ∈ Ds, w.heap.size + 1 < D ∧ D < W.heap.size := fun D h => ⟨(hDs D h).1, (Array.getElem?_eq_some_iff.1 (hDs D h).2).1⟩
      clear hgcB hglB
      generalize hBe : w6.heap.size = Bc at hBc hBlt hW6 hgl6 hIn2 ⊢
      refine (wpIn_wide (n := 5)).1 ?_
      refine wpIn_rangeG rfl (by decide) (gf := 30) (lb := #[.pointer (some ⟨Bc, 0, none⟩)]) rfl trivial (enters_of Try.func30 (by kernel_rfl) rfl)
        (tree_places.seq 4 (by decide) Bc Al cl c.f0 _ _ _ AL cL c.f2 hlabc.1 hl0.out (by have := hlabc.2.1; omega) w W2 hwW2 (fun X Y => Below w.heap.size X Y ∧ Y.heap[Bc]? = X.heap[Bc]?) (fun X Y h => h) hBc hi0.out hi4.out)
        (fun h k => ⟨h.1.trans k.1, k.2.trans h.2⟩) (fun X l o o' hl ho _ _ => ⟨(Below.refl _ X).grown (grownBy_putObj' X l o') (by have := (Array.getElem?_eq_some_iff.1 ho).1; omega) (fun k e => by cases e; omega), World.putObj_heap_other (by omega)⟩) (Below.refl _ _) (fun _ => rfl)
        (fun xs X => tree_Prune.In gl gc Bc #[.slice Al c.f0.length cl, .slice A1_ c.f1.f0.length c1_, .slice A2_ c.f1.f1.length c2_, .int .i64 c.f1.f2, .slice AL c.f2.length cL] W ((xs.map Prod.fst).filter (tree_Prune.keep c l1 a2)) X) (fun _ _ _ => False)
        (tree_Prune.In.own (by omega) _) (fun _ _ _ _ _ h _ _ => h) (fun pre x X => tree_places.G_own c.f0 c.f2 pre x X) hIn2
        (fun x => { tmps := #[.slice (some ad) l0.length c0, .slice A1 l1.length c1, .int .i64 a2, undef, .pointer (some ⟨w.heap.size, 0, none⟩), .pointer (some ⟨w.heap.size + 1, 0, none⟩), .slice none 0 0, vo, undef, .pointer (some ⟨gc, 0, none⟩), .pointer (some ⟨gl, 0, none⟩), .int .i64 x.1, x.2, .slice (some ad) l0.length c0, .int .i64 l0.length, .int .i64 (m : Int), .bool true, .pointer (some (ad.add (m * 5))), .agg #[.slice Al c.f0.length cl, .slice A1_ c.f1.f0.length c1_, .slice A2_ c.f1.f1.length c2_, .int .i64 c.f1.f2, .slice AL c.f2.length cL], .agg #[.slice Al c.f0.length cl, .slice A1_ c.f1.f0.length c1_, .slice A2_ c.f1.f1.length c2_, .int .i64 c.f1.f2, .slice AL c.f2.length cL], .func (.func 30) #[] #[.pointer (some ⟨Bc, 0, none⟩)], .int .i64 x.1, x.2, u23, u24, u25, u26, u27, u28, u29, u30, u31, u32, u33, u34, u35, u36, u37, u38, u39, u40, u41, u42], defers := [] })
        ?assign ?body ?done ?stop
      case assign =>
        intro l x X K hK
        dsimp only [tree_places.encs]
        gi_wp2
        exact hK
      case body =>
        rintro l pre x X Y ⟨vX, bX, -, -, -, blX⟩ ⟨vY, bY, RY, bgY, bcY, blY⟩ ⟨⟨hlp, hxp⟩, hR, hkc⟩
        obtain ⟨x1, x2⟩ := x
        dsimp only at hR hxp ⊢
        have hmem : x1 ∈ c.f2 := by rw [hxp]; exact List.getElem_mem hlp
        obtain ⟨b, hb⟩ := hlabc.2.2 x1 hmem
        have hkp : tree_Prune.keep c l1 a2 x1 = !b := by unfold tree_Prune.keep; rw [hb]; cases b <;> rfl
        obtain ⟨P, hP⟩ : ∃ P, c.f0 ++ [x1] = P := ⟨_, rfl⟩
        rw [hP] at hR hb
        obtain ⟨fl, hfl⟩ : ∃ fl, (pre.map Prod.fst).filter (tree_Prune.keep c l1 a2) = fl := ⟨_, rfl⟩
        rw [hfl] at RY
        have hlen : (fl.length + 1) * 8 ≤ 140737488355328 := by
          have h1 := List.length_filter_le (tree_Prune.keep c l1 a2) (pre.map Prod.fst)
          rw [hfl, List.length_map] at h1
          have h2 := hlabc.2.1
          omega
        have hflx : ((pre ++ [(x1, x2)]).map Prod.fst).filter (tree_Prune.keep c l1 a2) = fl ++ (if b = true then [] else [x1]) := by
          rw [List.map_append, List.filter_append, hfl, List.map_cons, List.map_nil, List.filter_cons, hkp]
          cases b <;> rfl
        obtain ⟨Ap, cp, ep⟩ := Kd.R_slice hR
        subst ep
        have hCP := Kd.R_reads' hR
        have hWY : w.heap.size + 1 < Y.heap.size := Nat.lt_of_lt_of_le hWw blY.size
        have byY : BoxN Y w.heap.size 30 #[.slice A1 l1.length c1] := (blY.block w.heap.size (by omega)).trans hby'
        have bdY : BoxN Y (w.heap.size + 1) 3 #[.int .i64 a2] := (blY.block (w.heap.size + 1) (by omega)).trans hdp'
        have hcy : Y.cell? ⟨w.heap.size, 0, none⟩ = some (.slice A1 l1.length c1) := byY.cell 0
        have hcd : Y.cell? ⟨w.heap.size + 1, 0, none⟩ = some (.int .i64 a2) := bdY.cell 0
        have hwY : Below w.heap.size w Y := hbl.out.trans (blY.mono (by omega))
        have hcall := CallsIn.inRound l ((callsIn_wide (n := 5 - 1 - 1 - 1)).2 (label_Pruned.calls Ap cp P A1 c1 l1 a2 b Y hCP.2.2 hCP.2.1 (Kd.C_below HR1.out hwY) hc1 hb))
        have hf23 : Fence.wide.fn 25 := trivial
        have hglY : gl < Y.heap.size := bY.lt
        have hcvY : Y.cell? ⟨gl, 0, none⟩ = some vY := bY.cell 0
        have hfvY : Y.frozen? ⟨gl, 0, none⟩ = false := bY.frozen 0
        replace hcall := Aside0.mk hcall
        replace hxp := Aside0.mk hxp
        replace hP := Aside0.mk hP
        replace hfl := Aside0.mk hfl
        replace hflx := Aside0.mk hflx
        replace hkp := Aside0.mk hkp
        replace hCP := Aside0.mk hCP
        replace hR := Aside0.mk hR
        replace RY := Aside0.mk RY
        replace hb := Aside0.mk hb
        replace hmem := Aside0.mk hmem
        replace byY := Aside0.mk byY
        replace bdY := Aside0.mk bdY
        replace hkc := Aside0.mk hkc
        cases b with
        | true =>
          gi_wp2_with (gi_at_call 25; refine hcall.out.mono ?_; rintro e w9 ⟨rfl, hb9⟩; replace hb9 := Aside0.mk hb9)
          have hko : KeepsOthers Y w9 := ⟨hb9.out.size, fun k o hk _ => (hb9.out.block k (Array.getElem?_eq_some_iff.1 hk).1).trans hk⟩
          have hkc9 : KeepsCells Y w9 := ⟨hb9.out.size, fun k cs t hk => (hb9.out.block k (Array.getElem?_eq_some_iff.1 hk).1).trans hk⟩
          refine ⟨hko.from _, ⟨hb9.out.mono (by omega), hb9.out.block Bc bcY.lt⟩, ?_⟩
          dsimp only
          simp only [hflx.out, if_true, List.append_nil]
          exact tree_Prune.In.cells ⟨vY, bY, RY.out, bgY, bcY, blY⟩ hkc9 (hb9.out.mono blY.size)
        | false =>
          gi_wp2_with (first | (gi_at_call 25; refine hcall.out.mono ?_; rintro e w9 ⟨rfl, hb9⟩; have hcv9 : w9.cell? ⟨gl, 0, none⟩ = some vY := (hb9.cell (p := ⟨gl, 0, none⟩) hglY).trans hcvY; have hfv9 : w9.frozen? ⟨gl, 0, none⟩ = false := (World.frozen?_of_block (a := ⟨gl, 0, none⟩) (hb9.block gl hglY)).trans hfvY; have RY9 := Aside0.mk (Kd.R_below RY.out hb9); have b9 := Aside0.mk ((hb9.block gl hglY).trans bY); have hne : some gl ≠ vY.ownBlock := Kd.R_ne RY9.out b9.out (by decide); have hW9 : W.heap.size ≤ w9.heap.size := Nat.le_trans blY.size hb9.size; have hgl9 : gl < w9.heap.size := Nat.lt_of_lt_of_le hglY hb9.size; replace hb9 := Aside0.mk hb9) | (gi_at_builtin; refine R_appendIn (Kd.int .i64) (W := w9) W.heap.size rfl (.tmp 28) (.tmp 30) 30 3 (.int .i64 0) 8 rfl Try.underlying30 info3 rfl (by decide) (by omega) vY fl x1 [.int .i64 x1] (fun _ => True) (fun _ => False) rfl rfl ?aP (fun _ h => h.elim) (fun _ _ => trivial) RY9.out hW9 hlen ?_; (case aP => exact rfl); intro v1 w1 hS1 hg1; obtain ⟨A9, c9, e9⟩ := Kd.R_slice hS1; obtain ⟨n9, hn9⟩ : ∃ n9, (fl ++ [x1]).length = n9 := ⟨_, rfl⟩; rw [hn9] at e9; clear hn9; subst e9; replace hS1 := Aside0.mk hS1; have hcv1 : w1.cell? ⟨gl, 0, none⟩ = some vY := (World.cell?_of_block (hg1.block gl hgl9 hne)).trans hcv9; have hfv1 : w1.frozen? ⟨gl, 0, none⟩ = false := (World.frozen?_of_block (hg1.block gl hgl9 hne)).trans hfv9; replace hg1 := Aside0.mk hg1))
          have hko : KeepsOthers Y w9 := ⟨hb9.out.size, fun k o hk _ => (hb9.out.block k (Array.getElem?_eq_some_iff.1 hk).1).trans hk⟩
          have hkeep : KeepsOthers w9 w1 := ⟨hg1.out.size, fun k o hk ho => (hg1.out.block k (Array.getElem?_eq_some_iff.1 hk).1 (fun e => by
            obtain ⟨cells, hcl⟩ := Kd.R_typed RY9.out k e.symm
            rw [hk] at hcl
            cases hcl
            cases ho)).trans hk⟩
          have hk2 := (hko.trans hkeep).trans (KeepsOthers.setCell w1 ⟨gl, 0, none⟩ (.slice A9 n9 c9))
          have bg9 : BoxN w9 gc 39 #[.slice Al c.f0.length cl, .slice A1_ c.f1.f0.length c1_, .slice A2_ c.f1.f1.length c2_, .int .i64 c.f1.f2, .slice AL c.f2.length cL] := (hb9.out.block gc bgY.lt).trans bgY
          have bc9 : BoxN w9 Bc 39 #[.slice Al c.f0.length cl, .slice A1_ c.f1.f0.length c1_, .slice A2_ c.f1.f1.length c2_, .int .i64 c.f1.f2, .slice AL c.f2.length cL] := (hb9.out.block Bc bcY.lt).trans bcY
          have box1 : BoxN w1 gl 30 #[vY] := (hg1.out.block gl hgl9 hne).trans b9.out
          have bg1 : BoxN w1 gc 39 #[.slice Al c.f0.length cl, .slice A1_ c.f1.f0.length c1_, .slice A2_ c.f1.f1.length c2_, .int .i64 c.f1.f2, .slice AL c.f2.length cL] := (hg1.out.block gc bg9.lt (Kd.R_ne RY9.out bg9 (by decide))).trans bg9
          have bc1 : w1.heap[Bc]? = w9.heap[Bc]? := hg1.out.block Bc bc9.lt (Kd.R_ne RY9.out bc9 (by decide))
          have hb1 : Below W.heap.size w9 w1 := (Below.refl _ w9).grown hg1.out hW9 (Kd.R_base RY9.out)
          have hset : ∀ k, k ≠ gl → (w1.setCell ⟨gl, 0, none⟩ (.slice A9 n9 c9)).heap[k]? = w1.heap[k]? := fun k hk => Below.heap_setCell w1 ⟨gl, 0, none⟩ (.slice A9 n9 c9) k hk
          have hb2 : Below W.heap.size Y (w1.setCell ⟨gl, 0, none⟩ (.slice A9 n9 c9)) := ((hb9.out.mono blY.size).trans hb1).setCell (p := ⟨gl, 0, none⟩) (by dsimp only; omega) (.slice A9 n9 c9)
          refine ⟨hk2.from _, ⟨hb2.mono (by omega), ((hset Bc (by omega)).trans bc1).trans (hb9.out.block Bc bcY.lt)⟩, ?_⟩
          dsimp only
          rw [hflx.out, if_neg (by decide)]
          exact ⟨.slice A9 n9 c9, blk_put box1 0 _ rfl, Kd.R_mono (Kd.R_far (p := ⟨gl, 0, none⟩) (Kd.R_types hS1.out box1 (by decide)) (fun _ hk => hk.2) (.slice A9 n9 c9)) (fun _ _ => trivial), (hset gc (by omega)).trans bg1, ((hset Bc (by omega)).trans bc1).trans bc9, blY.trans hb2⟩
      case done =>
        rintro D xs Y hD hS ⟨vY, bY, RY, bgY, bcY, blY⟩ hK
        rw [hS] at RY
        obtain ⟨fl, hfl⟩ : ∃ fl, c.f2.filter (tree_Prune.keep c l1 a2) = fl := ⟨_, rfl⟩
        rw [hfl] at RY
        obtain ⟨Ax, cx, ex⟩ := Kd.R_slice RY
        subst ex
        have hw1 : wrap64 ((m : Int) + 1) = ((m + 1 : Nat) : Int) := by unfold wrap64; omega
        have hWY : W.heap.size ≤ Y.heap.size := blY.size
        have hDlt : D < Y.heap.size := (Array.getElem?_eq_some_iff.1 hK).1
        have hDW : W.heap.size ≤ D := Nat.le_trans hbW2.size hD
        have hnd2 : (D :: Ds).Nodup := List.nodup_cons.2 ⟨fun e => by have h1 := (hDs2 D e).2; omega, hnd⟩
        have hmkY : ∀ E ∈ D :: Ds, w.heap.size + 1 < E ∧ E < Y.heap.size ∧ Y.heap[E]? = some (.deferred (some [])) := fun E hE => by
          rcases List.mem_cons.1 hE with rfl | hE
          · exact ⟨by omega, hDlt, hK⟩
          · have h1 := hDs2 E hE
            exact ⟨h1.1, by omega, (blY.block E h1.2).trans (hDs E hE).2⟩
        have byY : BoxN Y w.heap.size 30 #[.slice A1 l1.length c1] := (blY.block w.heap.size (by omega)).trans hby'
        have bdY : BoxN Y (w.heap.size + 1) 3 #[.int .i64 a2] := (blY.block (w.heap.size + 1) (by omega)).trans hdp'
        have hwY : Below w.heap.size w Y := hbl.out.trans (blY.mono (by omega))
        have hcl : Y.cell? ⟨gl, 0, none⟩ = some (.slice Ax fl.length cx) := bY.cell 0
        have hNW := hN.out
        have hNlt := Kd.N_lt hNW
        have hNb := Kd.N_base hNW
        have hNY : Kd.N k39 39 Y (w.heap.size + 2) (fun k => k ∉ D :: Ds) vo (tree_Prune.all (l0.take m) l1 a2) :=
          Kd.N_mono (Kd.N_step (Kd.N_bound hNW) (fun k hk _ => blY.block k hk.2)) (fun k hk e => by
            rcases List.mem_cons.1 e with rfl | e
            · exact absurd hk.2 (by omega)
            · exact hk.1 e)
        have hall : tree_Prune.all (l0.take (m + 1)) l1 a2 = tree_Prune.all (l0.take m) l1 a2 ++ (if fl = [] then [] else [⟨c.f0, c.f1, fl⟩]) := by
          rw [tree_Prune.take_succ l0 l1 a2 m hlt, ← hcm.out]
          unfold tree_Prune.one
          rw [hfl]
        have hcnt : ((tree_Prune.all (l0.take m) l1 a2).length + 1) * 104 ≤ 140737488355328 := by
          exact tree_Prune.cnt l1 a2 l0 m hl63
        obtain ⟨Ao, co, eo⟩ := Kd.N_slice hNY
        obtain ⟨nO, hnO⟩ : ∃ n, (tree_Prune.all (l0.take m) l1 a2).length = n := ⟨_, rfl⟩
        rw [hnO] at eo
        clear hnO
        subst eo
        replace hw1 := Aside0.mk hw1
        replace hNY := Aside0.mk hNY
        replace hN := Aside0.mk hNW
        clear hNW
        replace hall := Aside0.mk hall
        replace hfl := Aside0.mk hfl
        replace byY := Aside0.mk byY
        replace bdY := Aside0.mk bdY
        replace hcnt := Aside0.mk hcnt
        replace hmkY := Aside0.mk hmkY
        replace hwY := Aside0.mk hwY
        replace RY := Aside0.mk RY
        replace hS := Aside0.mk hS
        replace hK := Aside0.mk hK
        have ew : (m : Int) + 1 = ((m + 1 : Nat) : Int) := by omega
        replace ew := Aside0.mk ew
        dsimp only
        by_cases hfe : fl = []
        · have q7 : ((fl.length : Int) > 0) = False := eq_false (by rw [hfe]; simp)
          have q8 : ((0 : Int) < (fl.length : Int)) = False := q7
          have q9 : (0 < fl.length) = False := eq_false (by rw [hfe]; simp)
          replace hfe := Aside0.mk hfe
          go_wp2
          first | rw [hw1.out] | rw [ew.out]
          refine ⟨⟨m + 1, D :: Ds, _, _, _, _, _, _, _, _, _, _, _, _, _, _, _, _, _, _, _, _, _, _, _, _, _, _, _, _, _, _, _, _, rfl, hlt, byY, bdY, ⟨?_⟩, hwY, hnd2, fun E hE => ⟨(hmkY.out E hE).1, (hmkY.out E hE).2.2⟩⟩, ?_⟩
          · rw [hall.out, if_pos hfe.out, List.append_nil]
            exact hNY.out
          · exact tree_Prune.meas l0.length m _ _ rfl rfl hlt
        · have hflp : 0 < fl.length := List.length_pos_iff.2 hfe
          have q7 : ((fl.length : Int) > 0) = True := eq_true (by omega)
          have q8 : ((0 : Int) < (fl.length : Int)) = True := q7
          have q9 : (0 < fl.length) = True := eq_true hflp
          have hz0 : Y.cell? ⟨gc, 0, none⟩ = some (.slice Al c.f0.length cl) := bgY.cell 0
          have hz1 : Y.cell? ⟨gc, 1, none⟩ = some (.slice A1_ c.f1.f0.length c1_) := bgY.cell 1
          have hz2 : Y.cell? ⟨gc, 2, none⟩ = some (.slice A2_ c.f1.f1.length c2_) := bgY.cell 2
          have hz3 : Y.cell? ⟨gc, 3, none⟩ = some (.int .i64 c.f1.f2) := bgY.cell 3
          have hz4 : Y.cell? ⟨gc, 4, none⟩ = some (.slice AL c.f2.length cL) := bgY.cell 4
          have hy0 := bgY.frozen 0
          have hy1 := bgY.frozen 1
          have hy2 := bgY.frozen 2
          have hy3 := bgY.frozen 3
          have hy4 := bgY.frozen 4
          obtain ⟨Z, hZ⟩ : ∃ Z, Y.setCell ⟨gc, 4, none⟩ (.slice Ax fl.length cx) = Z := ⟨_, rfl⟩
          have hZk : ∀ k, k ≠ gc → Z.heap[k]? = Y.heap[k]? := fun k hk => by rw [← hZ]; exact Below.heap_setCell Y ⟨gc, 4, none⟩ (.slice Ax fl.length cx) k hk
          have hZs : Z.heap.size = Y.heap.size := by rw [← hZ, World.size_setCell]
          have hYZ : Below W.heap.size Y Z := by rw [← hZ]; exact (Below.refl _ Y).setCell (p := ⟨gc, 4, none⟩) hge _
          have hgcW : gc = W.heap.size := hgc.out
          have hNZ : Kd.N k39 39 Z (w.heap.size + 2) (fun k => k ∉ D :: Ds) (.slice Ao nO co) (tree_Prune.all (l0.take m) l1 a2) :=
            Kd.N_mono (Kd.N_step (Kd.N_bound hN.out) (fun k hk _ => (hZk k (by have := hk.2; omega)).trans (blY.block k hk.2))) (fun k hk e => by
              rcases List.mem_cons.1 e with rfl | e
              · exact absurd hk.2 (by omega)
              · exact hk.1 e)
          have RZ : Kd.R (Kd.int .i64) 3 Z W.heap.size (fun k => k ≠ gc) (.slice Ax fl.length cx) fl := by
            rw [← hZ]
            exact Kd.R_mono (Kd.R_far (p := ⟨gc, 4, none⟩) (Kd.R_types RY.out bgY (by decide)) (fun _ hk => hk.2) _) (fun _ hk => hk.2)
          have hwZ : Below w.heap.size w Z := hwY.out.trans (hYZ.mono (by omega))
          have hold : ∀ k, k < w.heap.size → k ∉ D :: Ds ∧ some k ≠ (Value.slice Ao nO co).ownBlock := fun k hk => ⟨fun e => by have := (hmkY.out k e).1; omega, fun e => by have := hNb k e.symm; omega⟩
          have hmkZ : ∀ E ∈ D :: Ds, Z.heap[E]? = some (.deferred (some [])) := fun E hE => (hZk E (fun e => by
            have h1 := (hmkY.out E hE).2.2
            rw [e, bgY] at h1
            cases h1)).trans (hmkY.out E hE).2.2
          have hlv := (Kd.R_reads' RZ).2.1
          have hel : Kd.FK k39 Z (fun k => k ∉ D :: Ds ∧ some k ≠ (Value.slice Ao nO co).ownBlock) ⟨c.f0, c.f1, fl⟩ [.slice Al c.f0.length cl, .slice A1_ c.f1.f0.length c1_, .slice A2_ c.f1.f1.length c2_, .int .i64 c.f1.f2, .slice Ax fl.length cx] := by
            refine tree_Prune.mkF Z _ ⟨c.f0, c.f1, fl⟩ hl0.out (Kd.F_mono (Kd.F_below (Kd.C_F (Kd.heap_int .i64) hi0.out) hwZ) hold) hl1.out (Kd.F_mono (Kd.F_below (Kd.C_F k63_heap hi1.out) hwZ) hold) hl2.out (Kd.F_mono (Kd.F_below (Kd.C_F k66_heap hi2.out) hwZ) hold) hlv (Kd.F_mono (Kd.R_F (Kd.R_bound RZ)) (fun k hk => ⟨fun e => ?_, fun e => ?_⟩))
            · obtain ⟨-, -, -, q, -, cells, hcl2⟩ := hk
              have h1 := hmkZ k e
              rw [hcl2] at h1
              cases h1
            · have h1 := hNlt k e.symm
              have h2 := hk.2.1
              omega
          have hfresh : ∀ k, Z.heap.size ≤ k → k ∉ D :: Ds := fun k hk e => by have := (hmkY.out k e).2.1; omega
          have hbZ : w.heap.size + 2 ≤ Z.heap.size := by omega
          have hZ4 : Z.cell? ⟨gc, 4, none⟩ = some (.slice Ax fl.length cx) := by
            have h1 := (blk_cell (blk_put bgY 4 (.slice Ax fl.length cx) rfl) 4).trans rfl
            rw [hZ] at h1
            exact h1
          have hZ0 : Z.cell? ⟨gc, 0, none⟩ = some (.slice Al c.f0.length cl) := by rw [← hZ]; exact (blk_cell (blk_put bgY 4 (.slice Ax fl.length cx) rfl) 0).trans rfl
          have hZ1 : Z.cell? ⟨gc, 1, none⟩ = some (.slice A1_ c.f1.f0.length c1_) := by rw [← hZ]; exact (blk_cell (blk_put bgY 4 (.slice Ax fl.length cx) rfl) 1).trans rfl
          have hZ2 : Z.cell? ⟨gc, 2, none⟩ = some (.slice A2_ c.f1.f1.length c2_) := by rw [← hZ]; exact (blk_cell (blk_put bgY 4 (.slice Ax fl.length cx) rfl) 2).trans rfl
          have hZ3 : Z.cell? ⟨gc, 3, none⟩ = some (.int .i64 c.f1.f2) := by rw [← hZ]; exact (blk_cell (blk_put bgY 4 (.slice Ax fl.length cx) rfl) 3).trans rfl
          replace hfe := Aside0.mk hfe
          replace hZs := Aside0.mk hZs
          replace hNZ := Aside0.mk hNZ
          replace RZ := Aside0.mk RZ
          replace hel := Aside0.mk hel
          replace hfresh := Aside0.mk hfresh
          replace hmkZ := Aside0.mk hmkZ
          replace hZ := Aside0.mk hZ
          replace hwZ := Aside0.mk hwZ
          replace hYZ := Aside0.mk hYZ
          have hgcA := Aside0.mk hgcW
          clear hgcW
          go_wp2_with ((with_reducible refine gate_builtin (b := .append) (xs := #[.tmp 37, .tmp 39]) rfl ?_); at_builtin; rw [hZ.out]; go_loud (refine Kd.N_append k39 (w0 := Z) (W := Z) (w.heap.size + 2) rfl (.tmp 37) (.tmp 39) 22 39 (.agg #[.slice none 0 0, .slice none 0 0, .slice none 0 0, .int .i64 0, .slice none 0 0]) 104 rfl Try.underlying22 tree_Prune.info rfl (by decide) (by omega) (.slice Ao nO co) _ ⟨c.f0, c.f1, fl⟩ [.slice Al c.f0.length cl, .slice A1_ c.f1.f0.length c1_, .slice A2_ c.f1.f1.length c2_, .int .i64 c.f1.f2, .slice Ax fl.length cx] (fun k => k ∉ D :: Ds) _ rfl ?aX hel.out (fun _ h => h) hfresh.out hNZ.out (Below.refl _ _) hbZ hcnt.out ?_); (case aX => (rw [hZs.out]; rfl)); intro v1 w1 hN1 hb1 hg1 hat1; replace hN1 := Aside0.mk hN1; replace hb1 := Aside0.mk hb1; replace hg1 := Aside0.mk hg1; replace hat1 := Aside0.mk hat1)
          first | rw [hw1.out] | rw [ew.out]
          have hgcW := hgcA.out
          replace hZs := hZs.out
          have hkp1 : ∀ k, k < Z.heap.size → some k ≠ (Value.slice Ao nO co).ownBlock → w1.heap[k]? = Z.heap[k]? := fun k h1 h2 => hg1.out.block k h1 h2
          refine ⟨⟨m + 1, D :: Ds, _, _, _, _, _, _, _, _, _, _, _, _, _, _, _, _, _, _, _, _, _, _, _, _, _, _, _, _, _, _, _, _, rfl, hlt, ⟨?_⟩, ⟨?_⟩, ⟨?_⟩, ⟨?_⟩, hnd2, fun E hE => ⟨(hmkY.out E hE).1, ?_⟩⟩, ?_⟩
          · exact ((hkp1 w.heap.size (by omega) (fun e => by have := hNb _ e.symm; omega)).trans (hZk w.heap.size (by omega))).trans byY.out
          · exact ((hkp1 (w.heap.size + 1) (by omega) (fun e => by have := hNb _ e.symm; omega)).trans (hZk (w.heap.size + 1) (by omega))).trans bdY.out
          · rw [hall.out, if_neg hfe.out]
            exact hN1.out
          · exact hwZ.out.trans (hb1.out.mono (by omega))
          · exact (hkp1 E (by have := (hmkY.out E hE).2.1; omega) (fun e => by
              obtain ⟨cells, h1⟩ := Kd.N_typed hNZ.out E e.symm
              rw [hmkZ.out E hE] at h1
              cases h1)).trans (hmkZ.out E hE)
          · exact tree_Prune.meas l0.length m _ _ rfl rfl hlt
      case stop =>
        intro D c pre Y _ _ h _
        exact h.elim
    · have q1 : ((m : Int) < (l0.length : Int)) = False := eq_false (by omega)
      have hml : m = l0.length := by omega
      subst hml
      have hN2 := hN.out
      rw [List.take_length] at hN2
      replace hN2 := Aside0.mk hN2
      obtain ⟨Ao, co, eo⟩ := Kd.N_slice hN2.out
      obtain ⟨nO, hnO⟩ : ∃ n, (tree_Prune.all l0 l1 a2).length = n := ⟨_, rfl⟩
      rw [hnO] at eo
      clear hnO
      subst eo
      go_wp2
      refine leaves_marks2 Ds _ hnd (fun D h => (hDs D h).2) (fun W' hb2 hk hsame => ?_)
      exact ⟨_, results_tmp rfl _ _ _, _, rfl, Kd.N_mono (Kd.N_step hN2.out (fun k h1 _ => hsame k h1)) (fun _ _ => trivial), hbl.out.trans (hb2 w.heap.size (fun D h => by have := (hDs D h).1; omega))⟩
end

-- NOT PRINTED: function 27 (api_Choice_27)

-- NOT PRINTED: function 28 (slices_Clone_int_int)

-- NOT PRINTED: function 29 (api_Choice_29)

/-! ### tree_Take: function 20 (given) -/
section
open Go.Shelf
theorem tree_Take.info : (Try.prog.info? 39).map (fun i => (i.zero, i.size, i.bytes)) = some (some (.agg #[.slice none 0 0, .slice none 0 0, .slice none 0 0, .int .i64 0, .slice none 0 0]), 5, 104) := by kernel_rfl
theorem tree_Take.eql (ty : TypeId) (e : TypeId) (ht : Try.prog.underlying ty = some (.slice e)) : ∀ (w : World) (a : Option Addr) (n c n' c' : Nat), (binOp .eql ty (.slice a n c) (.slice none n' c')).run Try.prog w = .ok (.bool a.isNone) w := fun w a n c n' c' => Go.Lib.run_eql_slice_nil w _ _ a n c n' c' ht
theorem tree_Take.empty {α : Type} (d : Kd α) (e : Nat) (w : World) : d.R e (w.alloc (.cells #[] e)) w.heap.size (fun _ => True) (.slice (some ⟨w.heap.size, 0, none⟩) 0 0) [] :=
  ⟨fun _ _ => trivial, [], World.ownsRow_made w #[] 0 (Nat.le_refl _) (Nat.zero_le _) (by simp), ⟨by simp, fun j p h => by simp at h⟩⟩
set_option maxRecDepth 100000 in
set_option maxHeartbeats 2000000 in
/-- slices.Clone of numbers, of no nil -/
theorem tree_Take.cloneI (A : Addr) (c0 : Nat) (l0 : List Int) (w : World) (hr0 : Kd.C (Kd.int .i64) w (some A) l0.length l0) (hl : l0.length ≤ 1000000) :
    Calls Try.prog 28 #[.slice (some A) l0.length c0] w fun e w' => ∃ v0_ : Value, e = .returned v0_ ∧ Kd.R (Kd.int .i64) 3 w' w.heap.size (fun _ => True) v0_ l0 ∧ Below w.heap.size w w' := by
  have q22 := tree_Take.eql 30 3 Try.underlying30
  have HR0 := Aside0.mk hr0
  have hL : (0 + l0.length) * 8 ≤ 140737488355328 := by omega
  clear hr0
  go_enter Try.func28, Try.ntmps28
  go_wp2_with ((with_reducible refine gate_builtin (b := .append) (xs := #[.tmp 5, .tmp 6]) rfl ?_); at_builtin; go_loud (refine Kd.R_append_rows (Kd.int .i64) (w0 := w.alloc (.cells #[] 3)) (W := w.alloc (.cells #[] 3)) w.heap.size rfl (.tmp 5) (.tmp 6) 30 3 (.int .i64 0) 8 rfl Try.underlying30 info3 rfl (by decide) (by omega) (.slice (some ⟨w.heap.size, 0, none⟩) 0 0) ([] : List Int) l0 _ _ _ (fun _ => True) (fun _ => False) rfl rfl (tree_Take.empty _ _ w) (Kd.C_alloc HR0.out _) (fun _ _ h => h) (fun _ h => h.elim) (fun _ _ => trivial) (Below.refl _ _) (by simp) hL ?_); intro v1 w1 hR1 hb1 hg1 hat1; obtain ⟨A9, c9, e9⟩ := Kd.R_slice hR1; rw [List.nil_append] at hR1 e9; subst e9; replace hR1 := Aside0.mk hR1; replace hb1 := Aside0.mk hb1; replace hg1 := Aside0.mk hg1; replace hat1 := Aside0.mk hat1)
  go_ret
  exact ⟨_, rfl, hR1.out, ((Below.refl _ w).alloc (Nat.le_refl _) _).trans hb1.out⟩
set_option maxRecDepth 100000 in
set_option maxHeartbeats 2000000 in
/-- slices.Clone of choices, of no nil: the cells, one by one -/
theorem tree_Take.cloneC (A : Addr) (c0 : Nat) (rows : List (List Value)) (w : World) (hr0 : Kd.C (Kd.raw 5) w (some A) rows.length rows) (hl : rows.length ≤ 1000000) :
    Calls Try.prog 27 #[.slice (some A) rows.length c0] w fun e w' => ∃ v0_ : Value, e = .returned v0_ ∧ Kd.R (Kd.raw 5) 39 w' w.heap.size (fun _ => True) v0_ rows ∧ Below w.heap.size w w' := by
  have q22 := tree_Take.eql 22 39 Try.underlying22
  have HR0 := Aside0.mk hr0
  have hL : (0 + rows.length) * 104 ≤ 140737488355328 := by omega
  clear hr0
  go_enter Try.func27, Try.ntmps27
  go_wp2_with ((with_reducible refine gate_builtin (b := .append) (xs := #[.tmp 5, .tmp 6]) rfl ?_); at_builtin; go_loud (refine Kd.R_append_rows (Kd.raw 5) (w0 := w.alloc (.cells #[] 39)) (W := w.alloc (.cells #[] 39)) w.heap.size rfl (.tmp 5) (.tmp 6) 22 39 (.agg #[.slice none 0 0, .slice none 0 0, .slice none 0 0, .int .i64 0, .slice none 0 0]) 104 rfl Try.underlying22 tree_Take.info rfl (by decide) (by omega) (.slice (some ⟨w.heap.size, 0, none⟩) 0 0) ([] : List (List Value)) rows _ _ _ (fun _ => True) (fun _ => False) rfl rfl (tree_Take.empty _ _ w) (Kd.C_alloc HR0.out _) (fun _ _ h => h) (fun _ h => h.elim) (fun _ _ => trivial) (Below.refl _ _) (by simp) hL ?_); intro v1 w1 hR1 hb1 hg1 hat1; obtain ⟨A9, c9, e9⟩ := Kd.R_slice hR1; rw [List.nil_append] at hR1 e9; subst e9; replace hR1 := Aside0.mk hR1; replace hb1 := Aside0.mk hb1; replace hg1 := Aside0.mk hg1; replace hat1 := Aside0.mk hat1)
  go_ret
  exact ⟨_, rfl, hR1.out, ((Below.refl _ w).alloc (Nat.le_refl _) _).trans hb1.out⟩
theorem tree_Take.below (g : Nat) : ∀ (vs : List Value) (o : Nat) (w X : World) (N : Nat), N ≤ g → Below N w X → Below N w (X.setCells g o vs)
  | [], _, _, _, _, _, h => h
  | v :: r, o, w, X, N, hN, h => tree_Take.below g r (o + 1) w _ N hN (h.setCell (p := ⟨g, o, none⟩) hN v)
theorem tree_Take.clr (W : World) (g o c : Nat) (ty : TypeId) (hc : ∀ j, j < 5 → (W.cell? ⟨g, o + j, none⟩).isSome = true) (hf : ∀ j, j < 5 → W.frozen? ⟨g, o + j, none⟩ = false) :
    (Builtin.clear_ #[22] ty #[.slice (some ⟨g, o, none⟩) 1 c]).run Try.prog W = .ok (.tuple #[]) (W.setCells g o [.slice none 0 0, .slice none 0 0, .slice none 0 0, .int .i64 0, .slice none 0 0]) := by
  have hst := run_storeCells_cells (P := Try.prog) g o [.slice none 0 0, .slice none 0 0, .slice none 0 0, .int .i64 0, .slice none 0 0] 0 W (by simpa using hc) (by simpa using hf) (by intro v hv; simp only [List.mem_cons, List.not_mem_nil, or_false] at hv; rcases hv with rfl | rfl | rfl | rfl | rfl <;> rfl)
  simp only [Nat.add_zero] at hst
  have hz : (Builtin.zeroCells (Value.agg #[.slice none 0 0, .slice none 0 0, .slice none 0 0, .int .i64 0, .slice none 0 0]).cells 1).toList = [.slice none 0 0, .slice none 0 0, .slice none 0 0, .int .i64 0, .slice none 0 0] := by kernel_rfl
  simp [Builtin.clear_, run_underlying Try.underlying22, Try.zeroValue39, hz, hst]
theorem tree_Take.cst (w w11 : World) (g4 g7 : Nat) (v0 v1 v2 v3 s : Value) (h4 : w.heap.size ≤ g4) (h7 : w.heap.size ≤ g7) (hn : g4 ≠ g7) (hb : Below w.heap.size w w11) (hB : w11.heap[g4]? = some (.cells #[.slice none 0 0, .slice none 0 0, .slice none 0 0, .int .i64 0, .slice none 0 0] 39 (0, 0))) :
    (((((((w11.setCell ⟨g7, 0, none⟩ v0).setCell ⟨g7, 4, none⟩ s).setCell ⟨g4, 0, none⟩ v0).setCell ⟨g4, 1, none⟩ v1).setCell ⟨g4, 2, none⟩ v2).setCell ⟨g4, 3, none⟩ v3).setCell ⟨g4, 4, none⟩ s).heap[g4]? = some (.cells #[v0, v1, v2, v3, s] 39 (0, 0)) ∧ Below w.heap.size w (((((((w11.setCell ⟨g7, 0, none⟩ v0).setCell ⟨g7, 4, none⟩ s).setCell ⟨g4, 0, none⟩ v0).setCell ⟨g4, 1, none⟩ v1).setCell ⟨g4, 2, none⟩ v2).setCell ⟨g4, 3, none⟩ v3).setCell ⟨g4, 4, none⟩ s) ∧
    (∀ k, k ≠ g4 → k ≠ g7 → (((((((w11.setCell ⟨g7, 0, none⟩ v0).setCell ⟨g7, 4, none⟩ s).setCell ⟨g4, 0, none⟩ v0).setCell ⟨g4, 1, none⟩ v1).setCell ⟨g4, 2, none⟩ v2).setCell ⟨g4, 3, none⟩ v3).setCell ⟨g4, 4, none⟩ s).heap[k]? = w11.heap[k]?) := by
  refine ⟨?_, ((((((hb.setCell (p := ⟨g7, 0, none⟩) h7 _).setCell (p := ⟨g7, 4, none⟩) h7 _).setCell (p := ⟨g4, 0, none⟩) h4 _).setCell (p := ⟨g4, 1, none⟩) h4 _).setCell (p := ⟨g4, 2, none⟩) h4 _).setCell (p := ⟨g4, 3, none⟩) h4 _).setCell (p := ⟨g4, 4, none⟩) h4 _, fun k k4 k7 => ?_⟩
  · exact (blk_put (blk_put (blk_put (blk_put (blk_put (blk_far (p := ⟨g7, 4, none⟩) (blk_far (p := ⟨g7, 0, none⟩) hB hn v0) hn s) 0 v0 rfl) 1 v1 rfl) 2 v2 rfl) 3 v3 rfl) 4 s rfl).trans rfl
  · rw [Below.heap_setCell _ ⟨g4, 4, none⟩ _ k k4, Below.heap_setCell _ ⟨g4, 3, none⟩ _ k k4, Below.heap_setCell _ ⟨g4, 2, none⟩ _ k k4, Below.heap_setCell _ ⟨g4, 1, none⟩ _ k k4, Below.heap_setCell _ ⟨g4, 0, none⟩ _ k k4, Below.heap_setCell _ ⟨g7, 4, none⟩ _ k k7, Below.heap_setCell _ ⟨g7, 0, none⟩ _ k k7]
theorem tree_Take.one (F : World) (b : Nat) (x : Int) (hB : F.heap[b]? = some (.cells #[.int .i64 x] 3 (0, 0))) : Kd.C (Kd.int .i64) F (some ⟨b, 0, none⟩) 1 [x] := by
  refine ⟨rfl, by decide, fun _ => ⟨_, rfl, fun j p hj => ⟨[.int .i64 p], rfl, rfl, fun i u hu => ?_⟩⟩⟩
  obtain rfl : j = 0 := by have := (List.getElem?_eq_some_iff.1 hj).1; simp at this; omega
  obtain rfl : i = 0 := by have := (List.getElem?_eq_some_iff.1 hu).1; simp at this; omega
  obtain rfl : x = p := by simpa using hj
  obtain rfl : Value.int .i64 x = u := by simpa using hu
  exact (blk_cell hB 0).trans rfl
theorem tree_Take.cloneX (A : Addr) (c0 : Nat) (l0 : List Int) (w10 W : World) (hb : Below w10.heap.size w10 W) (hr0 : Kd.C (Kd.int .i64) w10 (some A) l0.length l0) (hl : l0.length ≤ 1000000) :
    Calls Try.prog 28 #[.slice (some A) l0.length c0] W fun e w' => ∃ (A9 : Option Addr) (c9 : Nat), e = .returned (.slice A9 l0.length c9) ∧ Below w10.heap.size w10 w' ∧ ∀ (k : Nat) (o : Obj), W.heap[k]? = some o → w'.heap[k]? = some o :=
  (tree_Take.cloneI A c0 l0 W (Kd.C_below hr0 hb) hl).mono (fun e w' ⟨v, h1, h2, h3⟩ => by
    obtain ⟨A9, c9, e9⟩ := Kd.R_slice h2
    exact ⟨A9, c9, by rw [h1, e9], hb.trans (h3.mono hb.size), fun k o hk => (h3.block k (Array.getElem?_eq_some_iff.1 hk).1).trans hk⟩)
theorem tree_Take.cloneI0 (A : Addr) (c0 : Nat) (w : World) : Calls Try.prog 28 #[.slice (some A) 0 c0] w fun e w' => ∃ (A9 : Option Addr) (c9 : Nat), e = .returned (.slice A9 0 c9) ∧ Below w.heap.size w w' :=
  (tree_Take.cloneI A c0 [] w ⟨rfl, by decide, fun h => absurd h (by decide)⟩ (by decide)).mono (fun e w' ⟨v, h1, h2, h3⟩ => by
    obtain ⟨A9, c9, e9⟩ := Kd.R_slice h2
    exact ⟨A9, c9, by rw [h1, e9]; rfl, h3⟩)
set_option maxRecDepth 100000 in
set_option maxHeartbeats 4000000 in
/-- slices.Delete of the second of two -/
theorem tree_Take.del (g cp : Nat) (w : World) (hcp : 2 ≤ cp) (cs : Array Value) (hB : w.heap[g]? = some (.cells cs 39 (0, 0))) (h10 : 10 ≤ cs.size) :
    Calls Try.prog 29 #[.slice (some ⟨g, 0, none⟩) 2 cp, .int .i64 1, .int .i64 2] w fun e w' => e = .returned (.slice (some ⟨g, 0, none⟩) 1 cp) ∧ ∀ N, N ≤ g → N ≤ w.heap.size → Below N w w' := by
  have hc : ∀ j, j < 10 → (w.cell? ⟨g, j, none⟩).isSome = true := fun j hj => by rw [blk_cell hB j, Array.getElem?_eq_getElem (by omega)]; rfl
  have hf : ∀ j, j < 10 → w.frozen? ⟨g, j, none⟩ = false := fun j hj => blk_frozen hB j
  clear hB h10
  obtain ⟨i0, hi, hz0, hz1, hz2⟩ := info_parts tree_Take.info
  have hcl := fun c ty => tree_Take.clr w.drew g 5 c ty (fun j hj => hc (5 + j) (by omega)) (fun j hj => hf (5 + j) (by omega))
  have hb : ∀ N, N ≤ g → N ≤ w.heap.size → Below N w (w.drew.setCells g 5 [.slice none 0 0, .slice none 0 0, .slice none 0 0, .int .i64 0, .slice none 0 0]) := fun N h1 h2 => tree_Take.below g _ 5 w _ N h1 (below_drew (Below.refl _ _))
  replace hb := Aside0.mk hb
  clear hc hf
  by_cases hc2 : cp = 2
  · subst hc2
    go_enter Try.func29, Try.ntmps29
    go_wp2
    go_region
    go_wp2
    go_ret
    exact ⟨rfl, hb.out⟩
  · have h3 : 2 < cp := by omega
    have q0 : (cp = 2) = False := eq_false hc2
    have q1 : ((2 : Int) ≤ (cp : Int)) = True := eq_true (by omega)
    have q3 : (1 ≤ cp) = True := eq_true (by omega)
    have q4 : (2 ≤ cp) = True := eq_true (by omega)
    have q2 : ((1 : Int) ≤ (cp : Int)) = True := eq_true (by omega)
    go_enter Try.func29, Try.ntmps29
    go_wp2
    go_region
    go_wp2
    go_ret
    exact ⟨rfl, hb.out⟩
theorem tree_Take.ten {w : World} {base gR cR : Nat} {rows : List (List Value)} (h : Kd.R (Kd.raw 5) 39 w base (fun _ => True) (.slice (some ⟨gR, 0, none⟩) 2 cR) rows) : 2 ≤ cR ∧ (∀ j, j < 10 → (w.cell? ⟨gR, j, none⟩).isSome = true) ∧ (∀ j, j < 10 → w.frozen? ⟨gR, j, none⟩ = false) := by
  obtain ⟨c0, l0, -, h0, f0⟩ := Kd.R_elem h [] 0 (by omega) (by omega)
  obtain ⟨c1, l1, -, h1, f1⟩ := Kd.R_elem h [] 1 (by omega) (by omega)
  have hs : (Kd.raw 5).sz = 5 := rfl
  refine ⟨by have := (Kd.R_reads' h).2.1; have := (Kd.R_reads' h).1; omega, fun j hj => ?_, fun j hj => ?_⟩
  · rcases Nat.lt_or_ge j 5 with h5 | h5
    · have h3 := h0 j _ (List.getElem?_eq_getElem (by rw [l0, hs]; exact h5))
      rw [show (0 : Int).toNat * (Kd.raw 5).sz + j = j by rw [hs]; omega] at h3
      rw [h3]; rfl
    · have h3 := h1 (j - 5) _ (List.getElem?_eq_getElem (by rw [l1, hs]; omega))
      rw [show (1 : Int).toNat * (Kd.raw 5).sz + (j - 5) = j by rw [hs]; omega] at h3
      rw [h3]; rfl
  · have h3 := f0 j
    rw [show (0 : Int).toNat * (Kd.raw 5).sz + j = j by rw [hs]; omega] at h3
    exact h3
set_option maxRecDepth 100000 in
set_option maxHeartbeats 8000000 in
theorem tree_Take.calls (ad : Addr) (c0 : Nat) (l0 : List S39) (x : Int) (w : World) (hr0 : Kd.C k39 w (some ad) l0.length l0) (hc0 : l0.length ≤ c0) (hl : l0.length = 2) (hf2 : (rd_T39 l0 1).f2 = [x]) (hlab0 : 0 < (rd_T39 l0 1).f0.length) (hlab : (rd_T39 l0 1).f0.length ≤ 1000000) (hcap : ∀ AL cL, w.cell? ⟨ad.block, ad.off + 5 + 4, none⟩ = some (.slice AL 1 cL) → cL = 1) :
    Calls Try.prog 20 #[.slice (some ad) l0.length c0, .int .i64 1] w fun e w' => ∃ (B0 B1 B2 : Option Addr) (n0 n1 n2 d0 d1 d2 : Nat) (i3 : Int) (AL : Option Addr) (cL cm : Nat) (Am : Option Addr), e = .returned (.tuple #[.agg #[.slice B0 n0 d0, .slice B1 n1 d1, .slice B2 n2 d2, .int .i64 i3, .slice AL 1 cL], .slice Am 1 cm, .int .i64 0]) ∧ 1 ≤ cL ∧ Kd.C (Kd.int .i64) w' AL 1 [x] ∧ Below w.heap.size w w' := by
  have hu39 := Try.underlying39
  have HR0 := Aside0.mk hr0
  obtain ⟨rows, hrl, hrr, -⟩ := Kd.reads_raw hr0 (fun x c h => ⟨k39.K_len h, k39.K_one h⟩)
  rw [hl] at hrl hrr
  obtain ⟨ad', Al, cl, A1_, c1_, A2_, c2_, AL, cL, e, hx0, hx1, hx2, hx3, hx4, hl0, hi0, hl1, hi1, hl2, hi2, hl4, hi4⟩ := at_T39 hr0 1 (by omega) (by omega)
  cases e
  obtain ⟨c, hc⟩ : ∃ c, rd_T39 l0 1 = c := ⟨_, rfl⟩
  rw [hc] at hf2 hlab0 hlab hx0 hx1 hx2 hx3 hx4 hl0 hi0 hl1 hi1 hl2 hi2 hl4 hi4
  have e1 : (1 : Int).toNat * 5 = 5 := rfl
  have e5 : ad.add 5 = ⟨ad.block, ad.off + 5, none⟩ := by simp [Addr.add]
  rw [e1, e5] at hx0 hx1 hx2 hx3 hx4
  dsimp only at hx0 hx1 hx2 hx3 hx4
  clear e1 e5
  have hl21 : c.f2.length = 1 := by rw [hf2]; rfl
  rw [hl21] at hx4 hi4
  obtain rfl : cL = 1 := hcap _ _ hx4
  clear hcap
  rw [hl] at hc0 ⊢
  have hHR := Aside0.mk hrr
  clear hrr hr0 hc hl21
  replace hi0 := Aside0.mk hi0
  replace hi4 := Aside0.mk hi4
  replace hl0 := Aside0.mk hl0
  replace hl4 := Aside0.mk hl4
  replace hf2 := Aside0.mk hf2
  replace hrl := Aside0.mk hrl
  clear hi1 hi2 hl1 hl2
  go_enter Try.func20, Try.ntmps20
  go_wp2_with (first | ((with_reducible refine gate_dst (N := 4) rfl ?_); refine box_event ?hg (N := 4) ?hd (cs := #[.slice none 0 0, .slice none 0 0, .slice none 0 0, .int .i64 0, .slice none 0 0]) (t := 39) ?hr ?_; (case hd => rfl); (case hg => rfl); (case hr => first | (go_simp; done) | (go_simp; rfl)); intro g4 hg4 w4 hbox4 hb4; replace hx0 := (hb4.cell (World.block_lt_of_cell? w _ hx0)).trans hx0; replace hx1 := (hb4.cell (World.block_lt_of_cell? w _ hx1)).trans hx1; replace hx2 := (hb4.cell (World.block_lt_of_cell? w _ hx2)).trans hx2; replace hx3 := (hb4.cell (World.block_lt_of_cell? w _ hx3)).trans hx3; replace hx4 := (hb4.cell (World.block_lt_of_cell? w _ hx4)).trans hx4; replace hbox4 := Aside0.mk hbox4; replace hb4 := Aside0.mk hb4; replace hg4 := Aside0.mk hg4) | ((with_reducible refine gate_dst (N := 7) rfl ?_); refine box_event ?hg (N := 7) ?hd (cs := #[.slice none 0 0, .slice none 0 0, .slice none 0 0, .int .i64 0, .slice none 0 0]) (t := 39) ?hr ?_; (case hd => rfl); (case hg => rfl); (case hr => first | (go_simp; done) | (go_simp; rfl)); intro g7 hg7 w7 hbox7 hb7; have hcz0 : w7.cell? ⟨g7, 0, none⟩ = some (.slice none 0 0) := (blk_cell hbox7 0).trans rfl; have hcz1 : w7.cell? ⟨g7, 1, none⟩ = some (.slice none 0 0) := (blk_cell hbox7 1).trans rfl; have hcz2 : w7.cell? ⟨g7, 2, none⟩ = some (.slice none 0 0) := (blk_cell hbox7 2).trans rfl; have hcz3 : w7.cell? ⟨g7, 3, none⟩ = some (.int .i64 0) := (blk_cell hbox7 3).trans rfl; have hcz4 : w7.cell? ⟨g7, 4, none⟩ = some (.slice none 0 0) := (blk_cell hbox7 4).trans rfl; have hfz0 := blk_frozen hbox7 0; have hfz1 := blk_frozen hbox7 1; have hfz2 := blk_frozen hbox7 2; have hfz3 := blk_frozen hbox7 3; have hfz4 := blk_frozen hbox7 4; replace hbox7 := Aside0.mk hbox7; replace hb7 := Aside0.mk hb7; replace hg7 := Aside0.mk hg7))
  have hge4 : w.heap.size ≤ g4 := Nat.le_of_eq hg4.out.symm
  have hge : w.heap.size ≤ g7 := Nat.le_trans hb4.out.size (Nat.le_of_eq hg7.out.symm)
  have hbW : Below w.heap.size w (((((w7.setCell ⟨g7, 0, none⟩ (.slice Al c.f0.length cl)).setCell ⟨g7, 1, none⟩ (.slice A1_ c.f1.f0.length c1_)).setCell ⟨g7, 2, none⟩ (.slice A2_ c.f1.f1.length c2_)).setCell ⟨g7, 3, none⟩ (.int .i64 c.f1.f2)).setCell ⟨g7, 4, none⟩ (.slice AL 1 1)) := (((((hb4.out.trans (hb7.out.mono hb4.out.size)).setCell (p := ⟨g7, 0, none⟩) hge _).setCell (p := ⟨g7, 1, none⟩) hge _).setCell (p := ⟨g7, 2, none⟩) hge _).setCell (p := ⟨g7, 3, none⟩) hge _).setCell (p := ⟨g7, 4, none⟩) hge _
  have h7W := blk_put (blk_put (blk_put (blk_put (blk_put hbox7.out 0 (.slice Al c.f0.length cl) rfl) 1 (.slice A1_ c.f1.f0.length c1_) rfl) 2 (.slice A2_ c.f1.f1.length c2_) rfl) 3 (.int .i64 c.f1.f2) rfl) 4 (.slice AL 1 1) rfl
  have h4lt : g4 < w4.heap.size := (Array.getElem?_eq_some_iff.1 hbox4.out).1
  have hn47 : g4 ≠ g7 := by have := hg7.out; omega
  have h4W7 := (hb7.out.block g4 h4lt).trans hbox4.out
  have h4W := blk_far (p := ⟨g7, 4, none⟩) (blk_far (p := ⟨g7, 3, none⟩) (blk_far (p := ⟨g7, 2, none⟩) (blk_far (p := ⟨g7, 1, none⟩) (blk_far (p := ⟨g7, 0, none⟩) h4W7 hn47 (.slice Al c.f0.length cl)) hn47 (.slice A1_ c.f1.f0.length c1_)) hn47 (.slice A2_ c.f1.f1.length c2_)) hn47 (.int .i64 c.f1.f2)) hn47 (.slice AL 1 1)
  obtain ⟨W, hW⟩ : ∃ W, (((((w7.setCell ⟨g7, 0, none⟩ (.slice Al c.f0.length cl)).setCell ⟨g7, 1, none⟩ (.slice A1_ c.f1.f0.length c1_)).setCell ⟨g7, 2, none⟩ (.slice A2_ c.f1.f1.length c2_)).setCell ⟨g7, 3, none⟩ (.int .i64 c.f1.f2)).setCell ⟨g7, 4, none⟩ (.slice AL 1 1)) = W := ⟨_, rfl⟩
  rw [hW] at hbW h7W h4W ⊢
  replace h7W : BoxN W g7 39 #[.slice Al c.f0.length cl, .slice A1_ c.f1.f0.length c1_, .slice A2_ c.f1.f1.length c2_, .int .i64 c.f1.f2, .slice AL 1 1] := h7W.trans rfl
  clear hW hcz0 hcz1 hcz2 hcz3 hcz4 hfz0 hfz1 hfz2 hfz3 hfz4 hx0 hx1 hx2 hx3 hx4 hbox7 hbox4 h4W7 hb4 hb7 h4lt hg4 hg7
  have hrl2 : rows.length = 2 := hrl.out
  have hcl := tree_Take.cloneC ad c0 rows W (by rw [hrl2]; exact Kd.C_below hHR.out hbW) (by omega)
  rw [hrl2] at hcl
  refine hcl.mono ?_
  rintro e w8 ⟨v8, rfl, hR8, hb8⟩
  clear hcl
  obtain ⟨gR, cR, ev, hgR1, hgR2, cellsR, hcR⟩ := Kd.R_form hR8 (by omega)
  rw [hrl2] at ev
  subst ev
  obtain ⟨hcR2, hR10, hF10⟩ := tree_Take.ten hR8
  have h78 : BoxN w8 g7 39 #[.slice Al c.f0.length cl, .slice A1_ c.f1.f0.length c1_, .slice A2_ c.f1.f1.length c2_, .int .i64 c.f1.f2, .slice AL 1 1] := (hb8.block g7 h7W.lt).trans h7W
  have h48 := (hb8.block g4 (Array.getElem?_eq_some_iff.1 h4W).1).trans h4W
  have hbw8 : Below w.heap.size w w8 := hbW.trans (hb8.mono hbW.size)
  have hR7 : g7 < gR := Nat.lt_of_lt_of_le h7W.lt hgR1
  have hR4 : g4 < gR := Nat.lt_of_lt_of_le (Array.getElem?_eq_some_iff.1 h4W).1 hgR1
  have hd4 : w8.cell? ⟨g7, 4, none⟩ = some (.slice AL 1 1) := h78.cell 4
  obtain ⟨aL, eL⟩ : ∃ aL, AL = some aL := by
    obtain ⟨ad, h1, -⟩ := hi4.out.2.2 (by omega)
    exact ⟨ad, h1⟩
  subst eL
  obtain ⟨aB, eB⟩ : ∃ aB, Al = some aB := by
    obtain ⟨ad, h1, -⟩ := hi0.out.2.2 (by omega)
    exact ⟨ad, h1⟩
  subst eB
  have hs10 : 10 ≤ cellsR.size := by
    have h1 := hR10 9 (by omega)
    rw [blk_cell hcR 9] at h1
    obtain ⟨u, hu⟩ := Option.isSome_iff_exists.1 h1
    have := (Array.getElem?_eq_some_iff.1 hu).1
    omega
  have hxL : w.cell? aL = some (.int .i64 x) := by
    obtain ⟨a9, h1, h2⟩ := Kd.at_int hi4.out 0 (by omega) (by omega)
    rw [← Option.some.inj h1] at h2
    rw [show aL.add (0 : Int).toNat = aL by simp [Addr.add], show rd c.f2 0 = x by rw [hf2.out]; rfl] at h2
    exact h2
  obtain ⟨u9, hu9⟩ : ∃ u, cellsR[9]? = some u := ⟨_, Array.getElem?_eq_getElem (show 9 < cellsR.size by omega)⟩
  clear hR8 hR10 hF10
  have h48B : g4 < w8.heap.size := (Array.getElem?_eq_some_iff.1 h48).1
  replace h48 := Aside0.mk h48
  replace hb8 := Aside0.mk hb8
  replace hcR := Aside0.mk hcR
  (go_wp2_with (go_at_call 28; fail))
  (refine (tree_Take.cloneI0 _ _ w8).mono ?_)
  (rintro e w9 ⟨A9, c9, rfl, hb9⟩)
  (have hcR9 := (hb9.block gR hgR2).trans hcR.out)
  (have hc9 := (blk_cell hcR9 9).trans hu9)
  (have hf9 := blk_frozen hcR9 9)
  (have h79 : BoxN w9 g7 39 #[.slice (some aB) c.f0.length cl, .slice A1_ c.f1.f0.length c1_, .slice A2_ c.f1.f1.length c2_, .int .i64 c.f1.f2, .slice (some aL) 1 1] := (hb9.block g7 h78.lt).trans h78)
  (have h49 := (hb9.block g4 h48B).trans h48.out)
  (have hd9 : w9.cell? ⟨g7, 4, none⟩ = some (.slice (some aL) 1 1) := h79.cell 4)
  (have hlt9 : gR < w9.heap.size := Nat.lt_of_lt_of_le hgR2 hb9.size)
  (replace hcR9 := Aside0.mk hcR9; replace h49 := Aside0.mk h49; replace hb9 := Aside0.mk hb9)
  (go_wp2_with (go_at_call 29; fail))
  (have hB10 := blk_put hcR9.out 9 (.slice A9 0 c9) rfl)
  (refine (tree_Take.del gR cR _ hcR2 _ hB10 (by rw [Array.size_setIfInBounds]; exact hs10)).mono ?_)
  (rintro e w10 ⟨rfl, hb10⟩)
  (have h9s : (w9.setCell ⟨gR, 9, none⟩ (.slice A9 0 c9)).heap.size = w9.heap.size := World.size_setCell _ _ _)
  (have hbg := hb10 gR (Nat.le_refl _) (by rw [h9s]; omega))
  (have hbR : Below gR w9 w10 := ((Below.refl _ w9).setCell (p := ⟨gR, 9, none⟩) (Nat.le_refl _) _).trans hbg)
  (have hbw10 : Below w.heap.size w w10 := (hbw8.trans (hb9.out.mono hbw8.size)).trans (hbR.mono (by omega)))
  (have h710 : BoxN w10 g7 39 #[.slice (some aB) c.f0.length cl, .slice A1_ c.f1.f0.length c1_, .slice A2_ c.f1.f1.length c2_, .int .i64 c.f1.f2, .slice (some aL) 1 1] := (hbR.block g7 hR7).trans h79)
  (have h410 := (hbR.block g4 hR4).trans h49.out)
  (have hk0 : w10.cell? ⟨g7, 0, none⟩ = some (.slice (some aB) c.f0.length cl) := h710.cell 0)
  (have hk1 : w10.cell? ⟨g7, 1, none⟩ = some (.slice A1_ c.f1.f0.length c1_) := h710.cell 1)
  (have hk2 : w10.cell? ⟨g7, 2, none⟩ = some (.slice A2_ c.f1.f1.length c2_) := h710.cell 2)
  (have hk3 : w10.cell? ⟨g7, 3, none⟩ = some (.int .i64 c.f1.f2) := h710.cell 3)
  (have hk4 : w10.cell? ⟨g7, 4, none⟩ = some (.slice (some aL) 1 1) := h710.cell 4)
  (have hkx : w10.cell? aL = some (.int .i64 x) := (hbw10.cell (World.block_lt_of_cell? w _ hxL)).trans hxL)
  (have hlt710 : g7 < w10.heap.size := h710.lt)
  (have hltx10 : aL.block < w10.heap.size := World.block_lt_of_cell? w10 _ hkx)
  (have hne5 : (⟨g7, 0, none⟩ : Addr) ≠ aL := (fun e => by have h1 := World.block_lt_of_cell? w _ hxL; have h2 : g7 = aL.block := congrArg Addr.block e; omega))
  (have hne6 : (⟨g7, 4, none⟩ : Addr) ≠ aL := (fun e => by have h1 := World.block_lt_of_cell? w _ hxL; have h2 : g7 = aL.block := congrArg Addr.block e; omega))
  (replace hb9 := Aside0.mk hb9.out; replace hB10 := Aside0.mk hB10; replace hbg := Aside0.mk hbg; replace hbR := Aside0.mk hbR; replace hb10 := Aside0.mk hb10; replace h410 := Aside0.mk h410; replace h9s := Aside0.mk h9s; clear hc9 hf9 hd9 hd4)
  (go_wp2_with fail)
  (go_region_with (go_at_call 28; go_loud (refine (tree_Take.cloneX aB cl c.f0 w10 _ (by repeat (first | exact Below.refl _ _ | apply pw_below_drewN | apply below_drew1 | apply below_drew | refine Below.alloc ?_ (Nat.le_refl _) _)) (Kd.C_below hi0.out hbw10) hlab).mono ?_); rintro e w11 ⟨A11, c11, rfl, hb11, hkp11⟩; (try have hxB := hkp11 _ _ (heap_alloc_new w10 (.cells #[.int .i64 x] 3))); have h711 : BoxN w11 g7 39 #[.slice (some aB) c.f0.length cl, .slice A1_ c.f1.f0.length c1_, .slice A2_ c.f1.f1.length c2_, .int .i64 c.f1.f2, .slice (some aL) 1 1] := (hb11.block g7 h710.lt).trans h710; have h411 := (hb11.block g4 (Array.getElem?_eq_some_iff.1 h410.out).1).trans h410.out; have hj1 : w11.cell? ⟨g7, 1, none⟩ = some (.slice A1_ c.f1.f0.length c1_) := h711.cell 1; have hj2 : w11.cell? ⟨g7, 2, none⟩ = some (.slice A2_ c.f1.f1.length c2_) := h711.cell 2; have hj3 : w11.cell? ⟨g7, 3, none⟩ = some (.int .i64 c.f1.f2) := h711.cell 3; have hj4 : w11.cell? ⟨g7, 4, none⟩ = some (.slice (some aL) 1 1) := h711.cell 4; have hj0 : w11.cell? ⟨g7, 0, none⟩ = some (.slice (some aB) c.f0.length cl) := h711.cell 0; have hlt7 : g7 < w11.heap.size := h711.lt; have hjf0 : w11.frozen? ⟨g7, 0, none⟩ = false := h711.frozen 0; have hjf4 : w11.frozen? ⟨g7, 4, none⟩ = false := h711.frozen 4; have hjx : w11.cell? aL = some (.int .i64 x) := (hb11.cell (World.block_lt_of_cell? w10 _ hkx)).trans hkx; have hjx2 : w11.cell? (aL.add 0) = some (.int .i64 x) := (by simpa [Addr.add] using hjx); have hltx : aL.block < w11.heap.size := World.block_lt_of_cell? w11 _ hjx; have hm0 : w11.cell? ⟨g4, 0, none⟩ = some (.slice none 0 0) := (blk_cell h411 0).trans rfl; have hm1 : w11.cell? ⟨g4, 1, none⟩ = some (.slice none 0 0) := (blk_cell h411 1).trans rfl; have hm2 : w11.cell? ⟨g4, 2, none⟩ = some (.slice none 0 0) := (blk_cell h411 2).trans rfl; have hm3 : w11.cell? ⟨g4, 3, none⟩ = some (.int .i64 0) := (blk_cell h411 3).trans rfl; have hm4 : w11.cell? ⟨g4, 4, none⟩ = some (.slice none 0 0) := (blk_cell h411 4).trans rfl; have hmf0 : w11.frozen? ⟨g4, 0, none⟩ = false := blk_frozen h411 0; have hmf1 : w11.frozen? ⟨g4, 1, none⟩ = false := blk_frozen h411 1; have hmf2 : w11.frozen? ⟨g4, 2, none⟩ = false := blk_frozen h411 2; have hmf3 : w11.frozen? ⟨g4, 3, none⟩ = false := blk_frozen h411 3; have hmf4 : w11.frozen? ⟨g4, 4, none⟩ = false := blk_frozen h411 4; have hn74 : g7 ≠ g4 := (fun e => hn47 e.symm); have hlt4 : g4 < w11.heap.size := (Array.getElem?_eq_some_iff.1 h411).1; replace h411 := Aside0.mk h411; replace hkp11 := Aside0.mk hkp11; replace hb11 := Aside0.mk hb11))
  go_wp2
  all_goals (have hbF := tree_Take.cst w w11 g4 g7 (.slice A11 c.f0.length c11) (.slice A1_ c.f1.f0.length c1_) (.slice A2_ c.f1.f1.length c2_) (.int .i64 c.f1.f2))
  all_goals (have hb11w : Below w.heap.size w w11 := hbw10.trans (hb11.out.mono hbw10.size))
  all_goals clear hm0 hm1 hm2 hm3 hm4 hmf0 hmf1 hmf2 hmf3 hmf4 hj0 hj1 hj2 hj3 hj4 hjf0 hjf4 hjx hjx2
  all_goals first
    | (have hxB2 := hxB; obtain ⟨e1, e2, e3⟩ := hbF (.slice (some ⟨w10.heap.size, 0, none⟩) 1 1) hge4 hge hn47 hb11w h411.out; refine bodyPost_ret (results_ctt rfl _ _ g4 39 _ (0, 0) _ rfl e1 Try.underlying39 rfl (by kernel_rfl)) rfl ?_; exact ⟨_, _, _, _, _, _, _, _, _, _, _, _, _, _, rfl, Nat.le_refl _, tree_Take.one _ _ _ ((e3 _ (by have h1 := (Array.getElem?_eq_some_iff.1 h410.out).1; omega) (by omega)).trans hxB), e2⟩)
    | (obtain ⟨e1, e2, e3⟩ := hbF (.slice (some ⟨w11.heap.size, 0, none⟩) 1 1) hge4 hge hn47 hb11w h411.out; have hsz : (((((((w11.setCell ⟨g7, 0, none⟩ (.slice A11 c.f0.length c11)).setCell ⟨g7, 4, none⟩ (.slice (some ⟨w11.heap.size, 0, none⟩) 1 1)).setCell ⟨g4, 0, none⟩ (.slice A11 c.f0.length c11)).setCell ⟨g4, 1, none⟩ (.slice A1_ c.f1.f0.length c1_)).setCell ⟨g4, 2, none⟩ (.slice A2_ c.f1.f1.length c2_)).setCell ⟨g4, 3, none⟩ (.int .i64 c.f1.f2)).setCell ⟨g4, 4, none⟩ (.slice (some ⟨w11.heap.size, 0, none⟩) 1 1)).heap.size = w11.heap.size := (by simp only [World.size_setCell]); have hnew := heap_alloc_new (((((((w11.setCell ⟨g7, 0, none⟩ (.slice A11 c.f0.length c11)).setCell ⟨g7, 4, none⟩ (.slice (some ⟨w11.heap.size, 0, none⟩) 1 1)).setCell ⟨g4, 0, none⟩ (.slice A11 c.f0.length c11)).setCell ⟨g4, 1, none⟩ (.slice A1_ c.f1.f0.length c1_)).setCell ⟨g4, 2, none⟩ (.slice A2_ c.f1.f1.length c2_)).setCell ⟨g4, 3, none⟩ (.int .i64 c.f1.f2)).setCell ⟨g4, 4, none⟩ (.slice (some ⟨w11.heap.size, 0, none⟩) 1 1)) (.cells #[.int .i64 x] 3); rw [hsz] at hnew; refine bodyPost_ret (results_ctt rfl _ _ g4 39 _ (0, 0) _ rfl (BoxN.alloc e1 _) Try.underlying39 rfl (by kernel_rfl)) rfl ?_; exact ⟨_, _, _, _, _, _, _, _, _, _, _, _, _, _, rfl, Nat.le_refl _, tree_Take.one _ _ _ hnew, e2.alloc e2.size _⟩)
end

/-! ### spinneyref08_SameInts: function 21 -/
def spinneyref08_SameInts.l0 : Nat → List Int → List Int → Int → Int → Option (Bool)
  | 0, _, _, _, _ => none
  | k + 1, x0, x1, x12, x13 => if x13 < x12 then (if 0 ≤ x13 then (if x13 < (x0.length : Int) then (if x13 < (x1.length : Int) then (if (rd x0 x13) = (rd x1 x13) then (spinneyref08_SameInts.l0 k x0 x1 x12 (wrap64 (x13 + 1))) else (some false)) else (none)) else (none)) else (none)) else (some true)
def spinneyref08_SameInts.f (k : Nat) (l0 : List Int) (l1 : List Int) : Option (Bool) := if (l0.length : Int) = (l1.length : Int) then (spinneyref08_SameInts.l0 k l0 l1 (l0.length : Int) 0) else (some false)
theorem spinneyref08_SameInts.mono_l : ∀ k, (∀ y0 y1 y2 y3, LeO (spinneyref08_SameInts.l0 k y0 y1 y2 y3) (spinneyref08_SameInts.l0 (k + 1) y0 y1 y2 y3))
  | 0 => fun _ _ _ _ r h => by simp [spinneyref08_SameInts.l0] at h
  | k + 1 => by
    have ih0 := spinneyref08_SameInts.mono_l k
    · intro y0 y1 y2 y3
      unfold spinneyref08_SameInts.l0
      repeat' first
      | (with_reducible exact ih0 _ _ _ _)
      | (with_reducible exact LeO.refl _)
      | (with_reducible exact LeO.none _)
      | (with_reducible refine LeO.ite ?_ ?_)
      | (with_reducible refine LeO.bind ?_ (fun _ => ?_))
      | exact ih0 _ _ _ _
      | exact LeO.none _
      | refine LeO.ite ?_ ?_
      | refine LeO.bind ?_ (fun _ => ?_)
theorem spinneyref08_SameInts.mono : ∀ a0 a1 k, LeO (spinneyref08_SameInts.f k a0 a1) (spinneyref08_SameInts.f (k + 1) a0 a1) := by
  intro a0 a1 k
  have ih0 := spinneyref08_SameInts.mono_l k
  unfold spinneyref08_SameInts.f
  repeat' first
      | (with_reducible exact ih0 _ _ _ _)
      | (with_reducible exact LeO.refl _)
      | (with_reducible exact LeO.none _)
      | (with_reducible refine LeO.ite ?_ ?_)
      | (with_reducible refine LeO.bind ?_ (fun _ => ?_))
      | exact ih0 _ _ _ _
      | exact LeO.none _
      | refine LeO.ite ?_ ?_
      | refine LeO.bind ?_ (fun _ => ?_)
set_option maxHeartbeats 8000000 in
set_option maxRecDepth 100000 in
theorem spinneyref08_SameInts.calls (k : Nat) (A0 : Option Addr) (c0 : Nat) (l0 : List Int) (A1 : Option Addr) (c1 : Nat) (l1 : List Int) (r : Bool) (w : World) (hr0 : Kd.C (Kd.int .i64) w A0 l0.length l0) (hc0 : l0.length ≤ c0) (hr1 : Kd.C (Kd.int .i64) w A1 l1.length l1) (hc1 : l1.length ≤ c1) (h : spinneyref08_SameInts.f k l0 l1 = some r) :
    Calls Try.prog 21 #[.slice A0 l0.length c0, .slice A1 l1.length c1] w fun e w' => e = .returned (.bool r) ∧ Drawn0 w w' := by
  have HR0 := Aside0.mk hr0
  have HC0 := Aside0.mk hc0
  clear hr0 hc0
  have HR1 := Aside0.mk hr1
  have HC1 := Aside0.mk hc1
  clear hr1 hc1
  have H : (if (l0.length : Int) = (l1.length : Int) then (spinneyref08_SameInts.l0 k l0 l1 (l0.length : Int) 0) else (some false)) = some r := h
  clear h
  by_cases c3 : (l0.length : Int) = (l1.length : Int)
  · rw [if_pos c3] at H
    have c3b0 : ((l0.length : Int) == (l1.length : Int)) = true := beq_iff_eq.mpr c3
    have c3b1 : ((l0.length : Int) != (l1.length : Int)) = false := bne_eq_false_iff_eq.mpr c3
    have c3b2 : (l0.length == l1.length) = true := by first | simpa using c3 | (simp at c3 ⊢; omega)
    clear c3
    have H' := Aside0.mk H
    clear H
    go_enter Try.func21, Try.ntmps21
    go_wp2
    repeat (go_quiet (fail); try go_wp2)
    go_loopg [13] k (fun kq v13 w' => ∃ (x13_1 : Int), v13 = .int .i64 x13_1 ∧ Aside0 (spinneyref08_SameInts.l0 kq l0 l1 (l0.length : Int) x13_1 = some r) ∧ Aside0 (kq ≤ k) ∧ Drawn0 w w')
    case atStart => exact ⟨(0), (by first | rfl | (simp; done) | (simp [*]; done)), H', ⟨Nat.le_refl _⟩, by repeat (first | exact Drawn0.refl _ | apply Drawn0.step)⟩
    case round =>
      clear H'
      try clear c1
      try clear c2
      try clear p2
      try clear c3
      try clear c3b0
      try clear c3b1
      try clear c3b2
      obtain ⟨x13_1, rfl, HA, HK1, ⟨m1, rfl⟩⟩ := hrel
      cases gk with
      | zero => exact absurd HA.out (by simp [spinneyref08_SameInts.l0])
      | succ k1 =>
        have H := HA.out
        clear HA
        simp only [spinneyref08_SameInts.l0] at H
        by_cases c4 : x13_1 < (l0.length : Int)
        · rw [if_pos c4] at H
          have c4b0 : decide (x13_1 < (l0.length : Int)) = true := decide_eq_true c4
          clear c4
          by_cases c5 : 0 ≤ x13_1
          · rw [if_pos c5] at H
            have c5b0 : decide (0 ≤ x13_1) = true := decide_eq_true c5
            clear c5
            by_cases c6 : x13_1 < (l0.length : Int)
            · rw [if_pos c6] at H
              have c6b0 : decide (x13_1 < (l0.length : Int)) = true := decide_eq_true c6
              clear c6
              by_cases c7 : x13_1 < (l1.length : Int)
              · rw [if_pos c7] at H
                have c7b0 : decide (x13_1 < (l1.length : Int)) = true := decide_eq_true c7
                clear c7
                by_cases c8 : (rd l0 x13_1) = (rd l1 x13_1)
                · rw [if_pos c8] at H
                  have c8b0 : ((rd l0 x13_1) == (rd l1 x13_1)) = true := beq_iff_eq.mpr c8
                  have c8b1 : ((rd l0 x13_1) != (rd l1 x13_1)) = false := bne_eq_false_iff_eq.mpr c8
                  clear c8
                  have H' := Aside0.mk H
                  clear H
                  have p125 : 0 ≤ (x13_1 : Int) := of_decide_eq_true (by first | (with_reducible assumption) | assumption)
                  have q125 : x13_1 < (l0.length : Int) := of_decide_eq_true (by first | (with_reducible assumption) | assumption)
                  obtain ⟨ad125, e125, hx125_0⟩ := Kd.at_int HR0.out x13_1 p125 q125
                  cases e125
                  replace p125 := eq_true p125
                  replace q125 := eq_true q125
                  have p126 : 0 ≤ (x13_1 : Int) := of_decide_eq_true (by first | (with_reducible assumption) | assumption)
                  have q126 : x13_1 < (l1.length : Int) := of_decide_eq_true (by first | (with_reducible assumption) | assumption)
                  obtain ⟨ad126, e126, hx126_0⟩ := Kd.at_int HR1.out x13_1 p126 q126
                  cases e126
                  replace p126 := eq_true p126
                  replace q126 := eq_true q126
                  go_wp2
                  repeat (go_quiet (fail); try go_wp2)
                  go_roundg k1
                  case measure => have := HK1.out; omega
                  case rel => exact ⟨(wrap64 (x13_1 + 1)), (by first | rfl | (simp; done) | (simp [*]; done)), H', ⟨by have := HK1.out; omega⟩, by repeat (first | exact Drawn0.refl _ | apply Drawn0.step)⟩
                · rw [if_neg c8] at H
                  have c8b0 : ((rd l0 x13_1) == (rd l1 x13_1)) = false := beq_eq_false_iff_ne.mpr c8
                  have c8b1 : ((rd l0 x13_1) != (rd l1 x13_1)) = true := bne_iff_ne.mpr c8
                  obtain rfl := Option.some.inj H
                  have p125 : 0 ≤ (x13_1 : Int) := of_decide_eq_true (by first | (with_reducible assumption) | assumption)
                  have q125 : x13_1 < (l0.length : Int) := of_decide_eq_true (by first | (with_reducible assumption) | assumption)
                  obtain ⟨ad125, e125, hx125_0⟩ := Kd.at_int HR0.out x13_1 p125 q125
                  cases e125
                  replace p125 := eq_true p125
                  replace q125 := eq_true q125
                  have p126 : 0 ≤ (x13_1 : Int) := of_decide_eq_true (by first | (with_reducible assumption) | assumption)
                  have q126 : x13_1 < (l1.length : Int) := of_decide_eq_true (by first | (with_reducible assumption) | assumption)
                  obtain ⟨ad126, e126, hx126_0⟩ := Kd.at_int HR1.out x13_1 p126 q126
                  cases e126
                  replace p126 := eq_true p126
                  replace q126 := eq_true q126
                  go_wp2
                  repeat (go_quiet (fail); try go_wp2)
                  go_ret
                  exact ⟨by first | rfl | (simp; done) | (simp [*]; done), by repeat (first | exact Drawn0.refl _ | apply Drawn0.step)⟩
              · rw [if_neg c7] at H
                exact absurd H (by simp)
            · rw [if_neg c6] at H
              exact absurd H (by simp)
          · rw [if_neg c5] at H
            exact absurd H (by simp)
        · rw [if_neg c4] at H
          have c4b0 : decide (x13_1 < (l0.length : Int)) = false := decide_eq_false c4
          clear c4
          obtain rfl := Option.some.inj H
          go_wp2
          repeat (go_quiet (fail); try go_wp2)
          go_ret
          exact ⟨by first | rfl | (simp; done) | (simp [*]; done), by repeat (first | exact Drawn0.refl _ | apply Drawn0.step)⟩
  · rw [if_neg c3] at H
    have c3b0 : ((l0.length : Int) == (l1.length : Int)) = false := beq_eq_false_iff_ne.mpr c3
    have c3b1 : ((l0.length : Int) != (l1.length : Int)) = true := bne_iff_ne.mpr c3
    have c3b2 : (l0.length == l1.length) = false := by first | simpa using c3 | (simp at c3 ⊢; omega)
    obtain rfl := Option.some.inj H
    go_enter Try.func21, Try.ntmps21
    go_wp2
    repeat (go_quiet (fail); try go_wp2)
    go_ret
    exact ⟨by first | rfl | (simp; done) | (simp [*]; done), by repeat (first | exact Drawn0.refl _ | apply Drawn0.step)⟩

end Go.Proofs.Ytfcmbflpefhpaaa.P
