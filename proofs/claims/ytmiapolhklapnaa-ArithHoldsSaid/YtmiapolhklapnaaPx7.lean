-- PRINTED by a program of this session over the kit's print.py.
import Derived.Test.YtmiapolhklapnaaPx0
namespace Go.Proofs.Ytmiapolhklapnaa.P
open Go.Own Go.RowKit Go.Proofs.YtmiapolhklapnaaW.PrintWords Go.Proofs.YtmiapolhklapnaaW.PrintLast Go.Proofs.YtmiapolhklapnaaW.PrintMore
attribute [local go_sem] max2_int min2_int max_two min_two max_three min_three max_four min_four   -- for this text's walks alone
set_option linter.unusedVariables false
set_option linter.unusedSimpArgs false

/-- A state of type 54 at block g of W; what its slices lead to came in by w0. -/
def IsS54 (w0 W : World) (g : Nat) (f0 : Int) : Prop := W.heap[g]? = some (.cells #[.int .i64 f0] 54 (0, 0)) ∧ w0.heap.size ≤ g
theorem IsS54.grown {w0 W : World} {g : Nat} {f0 : Int} {W1 : World} {row : Option Nat} (h : IsS54 w0 W g f0) (hw : W.grownBy W1 row) (hne : some g ≠ row) : IsS54 w0 W1 g f0 := by
  obtain ⟨hb, hg⟩ := h
  exact ⟨blk_grown hb hw hne, hg⟩
theorem IsS54.own_neN {w0 W : World} {g : Nat} {f0 : Int} {α : Type} {d : Kd α} {e : Nat} {base : Nat} {ok : Nat → Prop} {v : Value} {xs : List α} (h : IsS54 w0 W g f0) (ho : Kd.N d e W base ok v xs) (ht : e ≠ 54) : some g ≠ v.ownBlock := by
  obtain ⟨hb, hg⟩ := h
  exact Kd.N_ne ho hb ht
theorem IsS54.fresh {w0 W : World} {g : Nat} {f0 : Int} (h : IsS54 w0 W g f0) : ∀ k, W.heap.size ≤ k → k ≠ g := by
  obtain ⟨hb, hg⟩ := h
  exact Kd.freshB hb
theorem IsS54.kept {w0 W : World} {g : Nat} {f0 : Int} {W1 : World} {S : Nat → Prop} (h : IsS54 w0 W g f0) (hk : Kept W W1 S) (hne : ¬ S g) : IsS54 w0 W1 g f0 := by
  obtain ⟨hb, hg⟩ := h
  exact ⟨blk_kept hb hk hne, hg⟩
theorem IsS54.below {w0 W : World} {g : Nat} {f0 : Int} {W1 : World} (h : IsS54 w0 W g f0) (hw : Below W.heap.size W W1) : IsS54 w0 W1 g f0 := h.grown (grown_of_below hw none) (by simp)
theorem IsS54.alloc {w0 W : World} {g : Nat} {f0 : Int} (h : IsS54 w0 W g f0) (o : Obj) : IsS54 w0 (W.alloc o) g f0 := h.below (below_alloc (Below.refl _ _) o)
theorem IsS54.drewN {w0 W : World} {g : Nat} {f0 : Int} (h : IsS54 w0 W g f0) (m : Nat) : IsS54 w0 (W.drewN m) g f0 := h
theorem IsS54.drew {w0 W : World} {g : Nat} {f0 : Int} (h : IsS54 w0 W g f0) : IsS54 w0 W.drew g f0 := h
theorem IsS54.at_ {w0 W : World} {g : Nat} {f0 : Int} {w' : World} {m : Nat} (hq : W.drewN m = w') (h : IsS54 w0 W g f0) : IsS54 w0 w' g f0 := by subst hq; exact IsS54.drewN h m
theorem IsS54.apart {w0 W : World} {g : Nat} {f0 : Int} {α : Type} {d : Kd α} {e : Nat} {base : Nat} {ok : Nat → Prop} {v : Value} {xs : List α} (h : IsS54 w0 W g f0) (ho : d.R e W base ok v xs) (ht : ∀ q, q ∈ e :: d.E → q ≠ 54) : d.R e W base (fun k => ok k ∧ k ≠ g) v xs := by
  obtain ⟨hb, hg⟩ := h
  exact Kd.R_types ho hb ht
theorem IsS54.own_ne {w0 W : World} {g : Nat} {f0 : Int} {α : Type} {d : Kd α} {e : Nat} {base : Nat} {ok : Nat → Prop} {v : Value} {xs : List α} (h : IsS54 w0 W g f0) (ho : d.R e W base ok v xs) (ht : e ≠ 54) : some g ≠ v.ownBlock := by
  obtain ⟨hb, hg⟩ := h
  exact Kd.R_ne ho hb ht
theorem IsS54.apartQ {w0 W : World} {g : Nat} {f0 : Int} {α : Type} {d : Kd α} {e : Nat} {base : Nat} {ok : Nat → Prop} {v : Value} {xs : List α} (h : IsS54 w0 W g f0) (ho : d.Q e W base ok v xs) (ht : ∀ q, q ∈ e :: d.E → q ≠ 54) : d.Q e W base (fun k => ok k ∧ k ≠ g) v xs := by
  obtain ⟨hb, hg⟩ := h
  exact Kd.Q_types ho hb ht
theorem IsS54.own_neQ {w0 W : World} {g : Nat} {f0 : Int} {α : Type} {d : Kd α} {e : Nat} {base : Nat} {ok : Nat → Prop} {v : Value} {xs : List α} (h : IsS54 w0 W g f0) (ho : d.Q e W base ok v xs) (ht : e ≠ 54) : some g ≠ v.ownBlock := by
  obtain ⟨hb, hg⟩ := h
  exact Kd.Q_ne ho hb ht
theorem IsS54.apartS {w0 W : World} {g : Nat} {f0 : Int} {α : Type} {d : Kd α} {e : Nat} {base : Nat} {ok : Nat → Prop} {v : Value} {xs : List α} (h : IsS54 w0 W g f0) (ho : d.S e W base ok v xs) (ht : ∀ q, q ∈ e :: d.E → q ≠ 54) : d.S e W base (fun k => ok k ∧ k ≠ g) v xs := by
  obtain ⟨hb, hg⟩ := h
  exact Kd.S_types ho hb ht
theorem IsS54.own_neS {w0 W : World} {g : Nat} {f0 : Int} {α : Type} {d : Kd α} {e : Nat} {base : Nat} {ok : Nat → Prop} {v : Value} {xs : List α} (h : IsS54 w0 W g f0) (ho : d.S e W base ok v xs) (ht : e ≠ 54) : some g ≠ v.ownBlock := by
  obtain ⟨hb, hg⟩ := h
  exact Kd.S_ne ho hb ht
theorem IsS54.lt {w0 W : World} {g : Nat} {f0 : Int} (h : IsS54 w0 W g f0) : g < W.heap.size := by
  obtain ⟨hb, hg⟩ := h
  exact blk_lt hb
theorem IsS54.ge {w0 W : World} {g : Nat} {f0 : Int} (h : IsS54 w0 W g f0) : w0.heap.size ≤ g := by
  obtain ⟨hb, hg⟩ := h
  exact hg
theorem IsS54.ne_blk {w0 W : World} {g : Nat} {f0 : Int} {a : Nat} {cs : Array Value} {t : TypeId} {fr : Nat × Nat} (h : IsS54 w0 W g f0) (hb2 : W.heap[a]? = some (.cells cs t fr)) (ht : t ≠ 54) : g ≠ a := by
  obtain ⟨hb, hg⟩ := h
  rintro rfl
  rw [hb] at hb2
  injection hb2 with hb2
  injection hb2 with _ ht2
  exact ht ht2.symm
theorem IsS54.far {w0 W : World} {g : Nat} {f0 : Int} {p : Addr} (h : IsS54 w0 W g f0) (hne : g ≠ p.block) (u : Value) : IsS54 w0 (W.setCell p u) g f0 := by
  obtain ⟨hb, hg⟩ := h
  exact ⟨blk_far hb hne u, hg⟩
theorem cellS54_0 {W : World} {g : Nat} {f0 : Int} (h : W.heap[g]? = some (.cells #[.int .i64 f0] 54 (0, 0))) : W.cell? ⟨g, 0, none⟩ = some (.int .i64 f0) := (blk_cell h 0).trans rfl
theorem IsS54.set_0 {w0 W : World} {g : Nat} {f0 : Int} (h : IsS54 w0 W g f0) (x : Int) : IsS54 w0 (W.setCell ⟨g, 0, none⟩ (.int .i64 x)) g x := by
  obtain ⟨hb, hg⟩ := h
  exact ⟨by simpa using blk_set hb 0 (.int .i64 x), hg⟩
theorem IsS54.new (w0 W : World) (f0 : Int) (hB : Below w0.heap.size w0 W) : IsS54 w0 (W.alloc (.cells #[.int .i64 f0] 54)) W.heap.size f0 := ⟨by simpa using heap_alloc_new W _, hB.size⟩

/-! ### spinneyref09_Meter_spend: function 46 -/
def spinneyref09_Meter_spend.f (s0_0 : Int) : Option (Bool × Int) := some (decide ((wrap64 (s0_0 + 1)) ≤ 2000), wrap64 (s0_0 + 1))
set_option maxHeartbeats 8000000 in
set_option maxRecDepth 100000 in
theorem spinneyref09_Meter_spend.calls (g : Nat) (s0_0 : Int) (r1 : Bool) (r2 : Int) (w0 w : World) (hI : IsS54 w0 w g s0_0) (hB : Below w0.heap.size w0 w) (h : spinneyref09_Meter_spend.f s0_0 = some (r1, r2)) :
    Calls Try.prog 46 #[.pointer (some ⟨g, 0, none⟩)] w fun e w' => e = .returned (.bool r1) ∧ IsS54 w0 w' g r2 ∧ Below w0.heap.size w0 w' ∧ KeepBut w w' g none := by
  have HI0 := Aside0.mk hI
  have HK := Aside0.mk (KeepBut.refl w g none)
  have HL := Aside0.mk hB.size
  clear hI
  have HW0 := Aside0.mk hB.size
  have HB := Aside0.mk hB
  clear hB
  have H : (some (decide ((wrap64 (s0_0 + 1)) ≤ 2000), wrap64 (s0_0 + 1))) = some (r1, r2) := h
  clear h
  simp only [Option.some.injEq, Prod.mk.injEq] at H
  obtain ⟨rfl, rfl⟩ := H
  obtain ⟨HGz2, hgz2⟩ := HI0.out
  have hcz2_0 := cellS54_0 HGz2
  have hfz2_0 := blk_frozen HGz2 0
  clear HGz2 hgz2
  go_enter Try.func46, Try.ntmps46
  go_wp2
  go_ret
  exact ⟨by first | rfl | (simp [errW_none, errW_some] <;> rfl) | (simp [*, errW_none, errW_some] <;> rfl), by repeat (first | (with_reducible first | exact HI0.out | apply IsS54.alloc | apply IsS54.drewN | apply IsS54.drew | apply IsS54.set_0) | exact HI0.out), by repeat (first | (with_reducible first | exact HB.out | apply below_alloc | apply pw_below_drewN | apply below_drew1 | refine below_set ?_ (IsS54.ge HI0.out)) | exact HB.out), by repeat (first | (with_reducible first | exact HK.out | apply KeepBut.set_ | apply keep_drewN | apply keep_drew | apply keep_alloc) | exact HK.out)⟩

/-! ### spinneyref09_Look: function 56 -/
def spinneyref09_Look.l0 : Nat → List (S45) → Int → Int → Option (Int × ByteArray × Int × (List (S25)) × Bool)
  | 0, _, _, _ => none
  | k + 1, x0, x1, x6 => if x6 ≥ 0 then (if 0 ≤ x6 then (if x6 < (x0.length : Int) then (if ((rd_T45 x0 x6).f0) = x1 then (some ((rd_T45 x0 x6).f1.f0, (rd_T45 x0 x6).f1.f1, (rd_T45 x0 x6).f1.f2, (rd_T45 x0 x6).f1.f3, true)) else (spinneyref09_Look.l0 k x0 x1 (wrap64 (x6 - 1)))) else (none)) else (none)) else (some (0, (⟨#[]⟩ : ByteArray), 0, ([] : List (S25)), false))
def spinneyref09_Look.f (k : Nat) (l0 : List (S45)) (a1 : Int) : Option (Int × ByteArray × Int × (List (S25)) × Bool) := spinneyref09_Look.l0 k l0 a1 (wrap64 ((l0.length : Int) - 1))
theorem spinneyref09_Look.mono_l : ∀ k, (∀ y0 y1 y2, LeO (spinneyref09_Look.l0 k y0 y1 y2) (spinneyref09_Look.l0 (k + 1) y0 y1 y2))
  | 0 => fun _ _ _ r h => by simp [spinneyref09_Look.l0] at h
  | k + 1 => by
    have ih0 := spinneyref09_Look.mono_l k
    · intro y0 y1 y2
      unfold spinneyref09_Look.l0
      repeat' first
      | (with_reducible exact ih0 _ _ _)
      | (with_reducible exact LeO.refl _)
      | (with_reducible exact LeO.none _)
      | (with_reducible refine LeO.ite ?_ ?_)
      | (with_reducible refine LeO.bind ?_ (fun _ => ?_))
      | exact ih0 _ _ _
      | exact LeO.none _
      | refine LeO.ite ?_ ?_
      | refine LeO.bind ?_ (fun _ => ?_)
theorem spinneyref09_Look.mono : ∀ a0 a1 k, LeO (spinneyref09_Look.f k a0 a1) (spinneyref09_Look.f (k + 1) a0 a1) := by
  intro a0 a1 k
  have ih0 := spinneyref09_Look.mono_l k
  unfold spinneyref09_Look.f
  repeat' first
      | (with_reducible exact ih0 _ _ _)
      | (with_reducible exact LeO.refl _)
      | (with_reducible exact LeO.none _)
      | (with_reducible refine LeO.ite ?_ ?_)
      | (with_reducible refine LeO.bind ?_ (fun _ => ?_))
      | exact ih0 _ _ _
      | exact LeO.none _
      | refine LeO.ite ?_ ?_
      | refine LeO.bind ?_ (fun _ => ?_)
set_option maxHeartbeats 8000000 in
set_option maxRecDepth 100000 in
theorem spinneyref09_Look.calls (k : Nat) (P0_ : Nat → Prop) (A0 : Option Addr) (c0 : Nat) (l0 : List (S45)) (a1 : Int) (r1 : Int) (r2 : ByteArray) (r3 : Int) (r4 : List (S25)) (r5 : Bool) (w : World) (hs0 : Kd.V k45 45 w w.heap.size (fun k_ => P0_ k_) (.slice A0 l0.length c0) l0) (h : spinneyref09_Look.f k l0 a1 = some (r1, r2, r3, r4, r5)) :
    Calls Try.prog 56 #[.slice A0 l0.length c0, .int .i64 a1] w fun e w' => ∃ v3_ : Value, e = .returned (.tuple #[.agg #[.int .i64 r1, .string r2, .int .i64 r3, v3_], .bool r5]) ∧ Kd.V k25 25 w' w.heap.size (fun k_ => (P0_ k_ ∨ w.heap.size ≤ k_)) v3_ r4 ∧ Below w.heap.size w w' := by
  have hu25 := Try.underlying25
  have HO0 := Aside0.mk (show Kd.V k45 45 w w.heap.size (fun k_ => (P0_ k_ ∨ w.heap.size ≤ k_)) (.slice A0 l0.length c0) l0 from Kd.V_mono hs0 (fun k_ hk => .inl hk))
  have HB := Aside0.mk (Below.refl w.heap.size w)
  have H : (spinneyref09_Look.l0 k l0 a1 (wrap64 ((l0.length : Int) - 1))) = some (r1, r2, r3, r4, r5) := h
  clear h
  have H' := Aside0.mk H
  clear H
  go_enter Try.func56, Try.ntmps56
  go_wp2_with (first | ((with_reducible refine gate_dst (N := 4) rfl ?_); refine box_event ?hg (N := 4) ?hd (cs := #[.int .i64 0, .string (⟨#[]⟩ : ByteArray), .int .i64 0, .slice none 0 0]) (t := 25) ?hr ?_; (case hd => rfl); (case hg => rfl); (case hr => first | (go_simp; done) | (go_simp; rfl)); intro gb279 hg w3 hbox hb; have n0_ := Aside0.mk (Kd.V_below (Kd.V_elderB (by (with_reducible repeat (first | apply Kd.V_alloc | apply Kd.V_drewN | apply Kd.V_drew)); exact HO0.out) gb279 (Nat.le_of_eq hg.symm)) hb); have n1_ := Aside0.mk (below_step (by repeat (first | (with_reducible first | exact HB.out | apply below_alloc | apply pw_below_drewN | apply below_drew1) | exact HB.out)) hb); have n2_ := Aside0.mk (hbox); have n3_ := Aside0.mk ((by rw [hg]; exact (below_size (by repeat (first | (with_reducible first | exact HB.out | apply below_alloc | apply pw_below_drewN | apply below_drew1) | exact HB.out))) : w.heap.size ≤ gb279)); have n4_ := Aside0.mk ((by rw [hg]; exact (below_size (by repeat (first | (with_reducible first | exact HB.out | apply below_alloc | apply pw_below_drewN | apply below_drew1) | exact HB.out))) : w.heap.size ≤ gb279)); clear HO0; clear HB; have HO0 := n0_; have HB := n1_; have BK279 := n2_; have GW279 := n3_; have GE279 := n4_; clear n0_ n1_ n2_ n3_ n4_; clear hb hbox hg))
  go_loopg [6] k (fun kq v6 w' => ∃ (x6_1 : Int) (x280000_1 : Int) (x280001_1 : ByteArray) (x280002_1 : Int), v6 = .int .i64 x6_1 ∧ Aside0 (spinneyref09_Look.l0 kq l0 a1 x6_1 = some (r1, r2, r3, r4, r5)) ∧ Aside0 (kq ≤ k) ∧ Aside0 (Kd.V k45 45 w' w.heap.size (fun k_ => (P0_ k_ ∨ w.heap.size ≤ k_) ∧ k_ ≠ gb279) (.slice A0 l0.length c0) l0) ∧ Aside0 (w'.heap[gb279]? = some (.cells #[.int .i64 x280000_1, .string x280001_1, .int .i64 x280002_1, (.slice none 0 0)] 25 (0, 0))) ∧ Aside0 (Below w.heap.size w w'))
  case atStart => exact ⟨(wrap64 ((l0.length : Int) - 1)), (0), ((⟨#[]⟩ : ByteArray)), (0), (by first | rfl | (simp; done) | (simp [*]; done)), H', ⟨Nat.le_refl _⟩, ⟨by (with_reducible repeat (first | apply Kd.V_alloc | apply Kd.V_drewN | apply Kd.V_drew)); exact HO0.out⟩, ⟨by (with_reducible repeat (first | refine blk_drewN ?_ _ | refine blk_drew ?_ | refine blk_alloc ?_ _)); exact BK279.out⟩, ⟨by repeat (first | (with_reducible first | exact HB.out | apply below_alloc | apply pw_below_drewN | apply below_drew1 | refine below_set ?_ GE279.out) | exact HB.out)⟩⟩
  case round =>
    clear H'
    try clear p2
    obtain ⟨x6_1, x280000_1, x280001_1, x280002_1, rfl, HA, HK1, HO_0, BK279, HB⟩ := hrel
    cases gk with
    | zero => exact absurd HA.out (by simp [spinneyref09_Look.l0])
    | succ k1 =>
      have H := HA.out
      clear HA
      simp only [spinneyref09_Look.l0] at H
      by_cases c4 : x6_1 ≥ 0
      · rw [if_pos c4] at H
        have c4b0 : decide (0 ≤ x6_1) = true := decide_eq_true c4
        clear c4
        by_cases c5 : 0 ≤ x6_1
        · rw [if_pos c5] at H
          have c5b0 : decide (0 ≤ x6_1) = true := decide_eq_true c5
          clear c5
          by_cases c6 : x6_1 < (l0.length : Int)
          · rw [if_pos c6] at H
            have c6b0 : decide (x6_1 < (l0.length : Int)) = true := decide_eq_true c6
            clear c6
            by_cases c7 : ((rd_T45 l0 x6_1).f0) = a1
            · rw [if_pos c7] at H
              have c7b0 : (((rd_T45 l0 x6_1).f0) == a1) = true := beq_iff_eq.mpr c7
              have c7b1 : (((rd_T45 l0 x6_1).f0) != a1) = false := bne_eq_false_iff_eq.mpr c7
              clear c7
              simp only [Option.some.injEq, Prod.mk.injEq] at H
              obtain ⟨rfl, rfl, rfl, rfl, rfl⟩ := H
              have p280 : 0 ≤ (x6_1 : Int) := of_decide_eq_true (by first | (with_reducible assumption) | assumption)
              have q280 : x6_1 < (l0.length : Int) := of_decide_eq_true (by first | (with_reducible assumption) | assumption)
              obtain ⟨ad280, A280_4, c280_4, e280, hx280_0, hx280_1, hx280_2, hx280_3, hx280_4, hl280_4, hi280_4⟩ := at_T45 (Kd.V_reads' HO_0.out).2.2 x6_1 p280 q280
              cases e280
              obtain ⟨ce280, hce280, hMe280, hcc280⟩ := Kd.V_get HO_0.out z45 x6_1 p280 (by first | exact q280 | exact of_decide_eq_true (by first | (with_reducible assumption) | assumption) | (have e_ := (Kd.V_reads' HO_0.out).1; omega))
              obtain ⟨ua280_4, uc280_4, rfl, ul280_4, ge280_4⟩ := k45_openF hMe280
              have hv280_4 := hcc280 4 _ rfl
              rw [add_field _ _ 4 (by omega)] at hv280_4
              replace hv280_4 := Option.some.inj (hv280_4.symm.trans hx280_4)
              injection hv280_4 with hva_ hvn_ hvc_
              rw [hva_] at ge280_4
              rw [hvc_] at ul280_4
              have HL280_4 := Aside0.mk (show Kd.V k25 25 _ w.heap.size _ _ ((rd_T45 l0 x6_1).f1.f3) from Kd.V_mk ul280_4 ge280_4)
              clear hva_ hvn_ hvc_ ge280_4 ul280_4
              clear hcc280 hce280
              have HR280_4 := Aside0.mk hi280_4
              have HC280_4 := Aside0.mk hl280_4
              clear hi280_4 hl280_4
              replace p280 := eq_true p280
              replace q280 := eq_true q280
              have p281 : 0 ≤ (x6_1 : Int) := of_decide_eq_true (by first | (with_reducible assumption) | assumption)
              have q281 : x6_1 < (l0.length : Int) := of_decide_eq_true (by first | (with_reducible assumption) | assumption)
              obtain ⟨ad281, A281_4, c281_4, e281, hx281_0, hx281_1, hx281_2, hx281_3, hx281_4, hl281_4, hi281_4⟩ := at_T45 (Kd.V_reads' HO_0.out).2.2 x6_1 p281 q281
              obtain rfl : ad280 = ad281 := (by injection e281)
              obtain ⟨ce281, hce281, hMe281, hcc281⟩ := Kd.V_get HO_0.out z45 x6_1 p281 (by first | exact q281 | exact of_decide_eq_true (by first | (with_reducible assumption) | assumption) | (have e_ := (Kd.V_reads' HO_0.out).1; omega))
              obtain ⟨ua281_4, uc281_4, rfl, ul281_4, ge281_4⟩ := k45_openF hMe281
              have hv281_4 := hcc281 4 _ rfl
              rw [add_field _ _ 4 (by omega)] at hv281_4
              replace hv281_4 := Option.some.inj (hv281_4.symm.trans hx281_4)
              injection hv281_4 with hva_ hvn_ hvc_
              rw [hva_] at ge281_4
              rw [hvc_] at ul281_4
              have HL281_4 := Aside0.mk (show Kd.V k25 25 _ w.heap.size _ _ ((rd_T45 l0 x6_1).f1.f3) from Kd.V_mk ul281_4 ge281_4)
              clear hva_ hvn_ hvc_ ge281_4 ul281_4
              clear hcc281 hce281
              have HR281_4 := Aside0.mk hi281_4
              have HC281_4 := Aside0.mk hl281_4
              clear hi281_4 hl281_4
              replace p281 := eq_true p281
              replace q281 := eq_true q281
              have ea_ := Option.some.inj (hx280_4.symm.trans hx281_4)
              injection ea_ with ea_ en_ ec_
              subst ea_
              subst ec_
              clear en_
              have hcz8_0 : wr.cell? ⟨gb279, 0, none⟩ = some (.int .i64 x280000_1) := (blk_cell BK279.out 0).trans rfl
              have hcz8_1 : wr.cell? ⟨gb279, 1, none⟩ = some (.string x280001_1) := (blk_cell BK279.out 1).trans rfl
              have hcz8_2 : wr.cell? ⟨gb279, 2, none⟩ = some (.int .i64 x280002_1) := (blk_cell BK279.out 2).trans rfl
              have hcz8_3 : wr.cell? ⟨gb279, 3, none⟩ = some (.slice none 0 0) := (blk_cell BK279.out 3).trans rfl
              have hfz8_0 := blk_frozen BK279.out 0
              have hfz8_1 := blk_frozen BK279.out 1
              have hfz8_2 := blk_frozen BK279.out 2
              have hfz8_3 := blk_frozen BK279.out 3
              go_wp2
              refine bodyPost_ret (results_ct rfl _ _ gb279 25 #[.int .i64 ((rd_T45 l0 x6_1).f1.f0), .string ((rd_T45 l0 x6_1).f1.f1), .int .i64 ((rd_T45 l0 x6_1).f1.f2), .slice A280_4 ((rd_T45 l0 x6_1).f1.f3).length c280_4] (0, 0) _ rfl (by (with_reducible repeat (first | refine blk_drewN ?_ _ | refine blk_drew ?_ | refine blk_alloc ?_ _)); refine blk_put (cs := #[.int .i64 ((rd_T45 l0 x6_1).f1.f0), .string ((rd_T45 l0 x6_1).f1.f1), .int .i64 ((rd_T45 l0 x6_1).f1.f2), .slice none 0 0]) ?_ 3 _ rfl; (with_reducible repeat (first | refine blk_drewN ?_ _ | refine blk_drew ?_ | refine blk_alloc ?_ _)); refine blk_put (cs := #[.int .i64 ((rd_T45 l0 x6_1).f1.f0), .string ((rd_T45 l0 x6_1).f1.f1), .int .i64 x280002_1, .slice none 0 0]) ?_ 2 _ rfl; (with_reducible repeat (first | refine blk_drewN ?_ _ | refine blk_drew ?_ | refine blk_alloc ?_ _)); refine blk_put (cs := #[.int .i64 ((rd_T45 l0 x6_1).f1.f0), .string x280001_1, .int .i64 x280002_1, .slice none 0 0]) ?_ 1 _ rfl; (with_reducible repeat (first | refine blk_drewN ?_ _ | refine blk_drew ?_ | refine blk_alloc ?_ _)); refine blk_put (cs := #[.int .i64 x280000_1, .string x280001_1, .int .i64 x280002_1, .slice none 0 0]) ?_ 0 _ rfl; (with_reducible repeat (first | refine blk_drewN ?_ _ | refine blk_drew ?_ | refine blk_alloc ?_ _)); exact BK279.out) Try.underlying25 rfl (by kernel_rfl)) rfl ?_
              exact ⟨_, by first | rfl | (simp [errW_none, errW_some] <;> rfl) | (simp [*, errW_none, errW_some] <;> rfl), by (with_reducible repeat (first | apply Kd.V_alloc | apply Kd.V_drewN | apply Kd.V_drew)); exact Kd.V_mono (Kd.V_far (p := ⟨gb279, 3, none⟩) (Kd.V_far (p := ⟨gb279, 2, none⟩) (Kd.V_far (p := ⟨gb279, 1, none⟩) (Kd.V_far (p := ⟨gb279, 0, none⟩) (Kd.V_mono HL281_4.out (fun k_ hk => (⟨hk, hk.2⟩ : _ ∧ k_ ≠ gb279))) (fun _ hk => hk.2) (.int .i64 ((rd_T45 l0 x6_1).f1.f0))) (fun _ hk => hk.2) (.string ((rd_T45 l0 x6_1).f1.f1))) (fun _ hk => hk.2) (.int .i64 ((rd_T45 l0 x6_1).f1.f2))) (fun _ hk => hk.2) (.slice A280_4 ((rd_T45 l0 x6_1).f1.f3).length c280_4)) (fun _ hk => hk.1.1), by repeat (first | (with_reducible first | exact HB.out | apply below_alloc | apply pw_below_drewN | apply below_drew1 | refine below_set ?_ GE279.out) | exact HB.out)⟩
            · rw [if_neg c7] at H
              have c7b0 : (((rd_T45 l0 x6_1).f0) == a1) = false := beq_eq_false_iff_ne.mpr c7
              have c7b1 : (((rd_T45 l0 x6_1).f0) != a1) = true := bne_iff_ne.mpr c7
              have H' := Aside0.mk H
              clear H
              have p280 : 0 ≤ (x6_1 : Int) := of_decide_eq_true (by first | (with_reducible assumption) | assumption)
              have q280 : x6_1 < (l0.length : Int) := of_decide_eq_true (by first | (with_reducible assumption) | assumption)
              obtain ⟨ad280, A280_4, c280_4, e280, hx280_0, hx280_1, hx280_2, hx280_3, hx280_4, hl280_4, hi280_4⟩ := at_T45 (Kd.V_reads' HO_0.out).2.2 x6_1 p280 q280
              cases e280
              obtain ⟨ce280, hce280, hMe280, hcc280⟩ := Kd.V_get HO_0.out z45 x6_1 p280 (by first | exact q280 | exact of_decide_eq_true (by first | (with_reducible assumption) | assumption) | (have e_ := (Kd.V_reads' HO_0.out).1; omega))
              obtain ⟨ua280_4, uc280_4, rfl, ul280_4, ge280_4⟩ := k45_openF hMe280
              have hv280_4 := hcc280 4 _ rfl
              rw [add_field _ _ 4 (by omega)] at hv280_4
              replace hv280_4 := Option.some.inj (hv280_4.symm.trans hx280_4)
              injection hv280_4 with hva_ hvn_ hvc_
              rw [hva_] at ge280_4
              rw [hvc_] at ul280_4
              have HL280_4 := Aside0.mk (show Kd.V k25 25 _ w.heap.size _ _ ((rd_T45 l0 x6_1).f1.f3) from Kd.V_mk ul280_4 ge280_4)
              clear hva_ hvn_ hvc_ ge280_4 ul280_4
              clear hcc280 hce280
              have HR280_4 := Aside0.mk hi280_4
              have HC280_4 := Aside0.mk hl280_4
              clear hi280_4 hl280_4
              replace p280 := eq_true p280
              replace q280 := eq_true q280
              go_wp2
              go_roundg k1
              case measure => have := HK1.out; omega
              case rel => exact ⟨(wrap64 (x6_1 - 1)), (x280000_1), (x280001_1), (x280002_1), (by first | rfl | (simp; done) | (simp [*]; done)), H', ⟨by have := HK1.out; omega⟩, ⟨by (with_reducible repeat (first | apply Kd.V_alloc | apply Kd.V_drewN | apply Kd.V_drew)); exact HO_0.out⟩, ⟨by (with_reducible repeat (first | refine blk_drewN ?_ _ | refine blk_drew ?_ | refine blk_alloc ?_ _)); exact BK279.out⟩, ⟨by repeat (first | (with_reducible first | exact HB.out | apply below_alloc | apply pw_below_drewN | apply below_drew1 | refine below_set ?_ GE279.out) | exact HB.out)⟩⟩
          · rw [if_neg c6] at H
            exact absurd H (by simp)
        · rw [if_neg c5] at H
          exact absurd H (by simp)
      · rw [if_neg c4] at H
        have c4b0 : decide (0 ≤ x6_1) = false := decide_eq_false c4
        clear c4
        simp only [Option.some.injEq, Prod.mk.injEq] at H
        obtain ⟨rfl, rfl, rfl, rfl, rfl⟩ := H
        have hcz9_0 : wr.cell? ⟨gb279, 0, none⟩ = some (.int .i64 x280000_1) := (blk_cell BK279.out 0).trans rfl
        have hcz9_1 : wr.cell? ⟨gb279, 1, none⟩ = some (.string x280001_1) := (blk_cell BK279.out 1).trans rfl
        have hcz9_2 : wr.cell? ⟨gb279, 2, none⟩ = some (.int .i64 x280002_1) := (blk_cell BK279.out 2).trans rfl
        have hcz9_3 : wr.cell? ⟨gb279, 3, none⟩ = some (.slice none 0 0) := (blk_cell BK279.out 3).trans rfl
        have hfz9_0 := blk_frozen BK279.out 0
        have hfz9_1 := blk_frozen BK279.out 1
        have hfz9_2 := blk_frozen BK279.out 2
        have hfz9_3 := blk_frozen BK279.out 3
        go_wp2
        refine bodyPost_ret (results_ct rfl _ _ gb279 25 #[.int .i64 0, .string (⟨#[]⟩ : ByteArray), .int .i64 0, .slice none 0 0] (0, 0) _ rfl (by (with_reducible repeat (first | refine blk_drewN ?_ _ | refine blk_drew ?_ | refine blk_alloc ?_ _)); refine blk_put (cs := #[.int .i64 0, .string (⟨#[]⟩ : ByteArray), .int .i64 0, .slice none 0 0]) ?_ 3 _ rfl; (with_reducible repeat (first | refine blk_drewN ?_ _ | refine blk_drew ?_ | refine blk_alloc ?_ _)); refine blk_put (cs := #[.int .i64 0, .string (⟨#[]⟩ : ByteArray), .int .i64 x280002_1, .slice none 0 0]) ?_ 2 _ rfl; (with_reducible repeat (first | refine blk_drewN ?_ _ | refine blk_drew ?_ | refine blk_alloc ?_ _)); refine blk_put (cs := #[.int .i64 0, .string x280001_1, .int .i64 x280002_1, .slice none 0 0]) ?_ 1 _ rfl; (with_reducible repeat (first | refine blk_drewN ?_ _ | refine blk_drew ?_ | refine blk_alloc ?_ _)); refine blk_put (cs := #[.int .i64 x280000_1, .string x280001_1, .int .i64 x280002_1, .slice none 0 0]) ?_ 0 _ rfl; (with_reducible repeat (first | refine blk_drewN ?_ _ | refine blk_drew ?_ | refine blk_alloc ?_ _)); exact BK279.out) Try.underlying25 rfl (by kernel_rfl)) rfl ?_
        exact ⟨_, by first | rfl | (simp [errW_none, errW_some] <;> rfl) | (simp [*, errW_none, errW_some] <;> rfl), Kd.V_mono (Kd.R_V (base := 0) (Kd.R_nil _ _ _ _ _)) (fun k_ hk => by first | exact ⟨(.inr (hk.1)), hk.2⟩ | exact (.inr (hk))), by repeat (first | (with_reducible first | exact HB.out | apply below_alloc | apply pw_below_drewN | apply below_drew1 | refine below_set ?_ GE279.out) | exact HB.out)⟩

end Go.Proofs.Ytmiapolhklapnaa.P
