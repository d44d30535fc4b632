-- PRINTED by a program of this session over the kit's print.py.
import Derived.Test.YtjlfclhlfgjgcabPx0
namespace Go.Proofs.Ytjlfclhlfgjgcab.P
open Go.Own Go.RowKit Go.Proofs.YtjlfclhlfgjgcabW.PrintWords Go.Proofs.YtjlfclhlfgjgcabW.PrintLast Go.Proofs.YtjlfclhlfgjgcabW.PrintMore
attribute [local go_sem] max2_int min2_int max_two min_two max_three min_three max_four min_four   -- for this text's walks alone
set_option linter.unusedVariables false
set_option linter.unusedSimpArgs false

/-! ### label_Next: function 15 (given) -/
def label_Next.f (l0 : List Int) (a1 : Int) : Option (List Int) := if l0.length < 17592186044416 then some (l0 ++ [a1]) else none

set_option maxRecDepth 100000 in
theorem label_Next.calls (A0 : Option Addr) (c0 : Nat) (l0 : List Int) (a1 : Int) (r : List Int) (w : World) (hr0 : Kd.C (Kd.int .i64) w A0 l0.length l0) (hc0 : l0.length ≤ c0) (h : label_Next.f l0 a1 = some r) :
    Calls Try.prog 15 #[.slice A0 l0.length c0, .int .i64 a1] w fun e w' => ∃ v0_ : Value, e = .returned (v0_) ∧ Kd.R (Kd.int .i64) 3 w' w.heap.size (fun _ => True) v0_ r ∧ Below w.heap.size w w' := by
  unfold label_Next.f at h
  split at h
  case isFalse => exact absurd h (by simp)
  case isTrue hlen =>
  injection h with h
  subst h
  have info : (Try.prog.info? 3).map (fun i => (i.zero, i.size, i.bytes)) = some (some (.int .i64 0), 1, 8) := by kernel_rfl
  have hmk := print_make_int (P := Try.prog) 22 3 (.int .i64 0) 8 Try.underlying22 info rfl (by decide) ((l0.length : Int) + 1) (by omega) (by omega)
  rw [show ((l0.length : Int) + 1).toNat = l0.length + 1 by omega] at hmk
  have hblk : (w.alloc (.cells (madeCells #[Value.int .i64 0] (l0.length + 1)) 3)).heap[w.heap.size]? = some (.cells (madeCells #[Value.int .i64 0] (l0.length + 1)) 3 (0, 0)) := heap_alloc_new w _
  have hC := Kd.C_below hr0 (below_alloc (Below.refl _ _) (.cells (madeCells #[Value.int .i64 0] (l0.length + 1)) 3))
  have hms : (madeCells #[Value.int .i64 0] (l0.length + 1)).size = l0.length + 1 := by simp [madeCells]
  obtain ⟨W2, hcp, hW2, hbW2⟩ := run_copy_read (P := Try.prog) (ty := 3) _ 22 22 3 Try.underlying22 (by rw [show (fun i : TypeInfo => i.size) = _ from rfl]; kernel_rfl) w.heap.size (l0.length + 1) (l0.length + 1) A0 l0.length c0 l0 0 hC _ 3 hblk (by omega) (by omega)
  have hB2 := Aside0.mk (hbW2 w.heap.size w (below_alloc (Below.refl _ _) _) (Nat.le_refl _))
  obtain ⟨last, hlast⟩ : ∃ v, (madeCells #[Value.int .i64 0] (l0.length + 1)).toList.drop l0.length = [v] := by
    refine List.length_eq_one_iff.mp ?_
    simp [hms]
  rw [hlast] at hW2
  have hcell : W2.cell? ⟨w.heap.size, l0.length, none⟩ = some last := by
    rw [cell_of_heap hW2]
    simp
  have hfree : W2.frozen? ⟨w.heap.size, l0.length, none⟩ = false := free_of_heap hW2 _
  have hend := heap_setCell hW2 l0.length (.int .i64 a1)
  have e : (l0.map (Value.int .i64) ++ [last]).set l0.length (.int .i64 a1) = (l0 ++ [a1]).map (Value.int .i64) := by
    rw [List.set_append_right _ _ (by simp)]
    simp
  have hR := Aside0.mk (R_of_heap (h1 := fun _ => rfl) (base := w.heap.size) (by rw [← e]; exact hend) (Nat.le_refl _) (by simp; omega))
  clear hblk hC hms hW2 hbW2 hlast hend e info
  go_enter Try.func15, Try.ntmps15
  go_wp2
  go_ret
  exact ⟨_, rfl, by have h_ := hR.out; rw [List.length_append, List.length_singleton] at h_; exact h_, below_set hB2.out (Nat.le_refl _)⟩

end Go.Proofs.Ytjlfclhlfgjgcab.P
