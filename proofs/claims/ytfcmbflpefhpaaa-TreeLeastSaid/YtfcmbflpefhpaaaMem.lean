/- Memory: copy into a row of the call's own, told as one run's equation; a row of the call's own out of its block. -/
import Derived.Test.YtfcmbflpefhpaaaWWords
import Derived.Test.YtfcmbflpefhpaaaWMore
import Derived.Laws.CopyOwn
set_option linter.unusedVariables false
set_option linter.unusedSimpArgs false
namespace Go.Own
open Go Go.RowKit Go.Proofs.YtfcmbflpefhpaaaW.PrintWords Go.Proofs.YtfcmbflpefhpaaaW.PrintLast Go.Proofs.YtfcmbflpefhpaaaW.PrintMore

theorem run_copy_read {α : Type} {enc : α → Value} {h1 : ∀ x, (enc x).oneCell' = true} {P : Program} (W : World) (dT sT ty elem : TypeId) (hu : P.underlying dT = some (.slice elem)) (hs : (P.info? elem).map (·.size) = some 1)
    (g dLen dCap : Nat) (A : Option Addr) (n c : Nat) (xs : List α) (d : α) (hC : (Kd.scalar enc h1).C W A n xs) (cur : Array Value) (t : TypeId) (hg : W.heap[g]? = some (.cells cur t (0, 0))) (hfit : n ≤ dLen) (hsz : dLen ≤ cur.size) :
    ∃ W2, (Builtin.copy_ #[dT, sT] ty #[.slice (some ⟨g, 0, none⟩) dLen dCap, .slice A n c]).run P W = .ok (.int .i64 n) W2 ∧
      W2.heap[g]? = some (.cells (xs.map enc ++ cur.toList.drop n).toArray t (0, 0)) ∧ ∀ B w0, Below B w0 W → B ≤ g → Below B w0 W2 := by
  have hR := Kd.reads_of_C (d := d) hC
  have hlen : xs.length = n := hR.1
  by_cases h0 : n = 0
  · subst h0
    refine ⟨W, run_copy_none W dT sT ty elem _ A dLen dCap 0 c hu hs (by simp), ?_, fun _ _ h _ => h⟩
    obtain rfl : xs = [] := List.eq_nil_of_length_eq_zero hlen
    simpa using hg
  · obtain ⟨ad, rfl, hc⟩ := hR.2.2 (by omega)
    refine ⟨W.setRow g (cur.toList.take 0 ++ xs.map enc ++ cur.toList.drop (0 + n)).toArray, ?_, ?_, ?_⟩
    · have := run_copy_row (P := P) W dT sT ty elem g 0 dLen dCap ad n c cur t (xs.map enc) hu hs hg (by simp [hlen]; exact (Nat.min_eq_left hfit).symm) (fun j v hj => by
        have hj2 : j < n := by
          rcases Nat.lt_or_ge j n with h | h
          · exact h
          · rw [List.getElem?_eq_none (by simp; omega)] at hj; cases hj
        rw [hc j hj2]
        simp at hj
        obtain ⟨x, hx, rfl⟩ := hj
        simp [hx]) (by simp [hlen]; omega) (fun v hv => by
        obtain ⟨x, _, rfl⟩ := List.mem_map.1 hv
        exact h1 x)
      have e : ((xs.map enc).length : Nat) = n := by simp [hlen]
      rw [e] at this
      exact this
    · have := setRow_heap W g cur (cur.toList.take 0 ++ xs.map enc ++ cur.toList.drop (0 + n)).toArray t (0, 0) hg
      simpa using this
    · intro B w0 hb hB
      exact below_setRow hb hB _

/-- a cell of a block that is known whole -/
theorem cell_of_heap {W : World} {g : Nat} {cur : List Value} {t : TypeId} (h : W.heap[g]? = some (.cells cur.toArray t (0, 0))) (i : Nat) : W.cell? ⟨g, i, none⟩ = cur[i]? := by
  simp [World.cell?, h]
theorem free_of_heap {W : World} {g : Nat} {cur : Array Value} {t : TypeId} (h : W.heap[g]? = some (.cells cur t (0, 0))) (i : Nat) : W.frozen? ⟨g, i, none⟩ = false := by
  simp [World.frozen?, h]
theorem heap_setCell {W : World} {g : Nat} {cur : List Value} {t : TypeId} (h : W.heap[g]? = some (.cells cur.toArray t (0, 0))) (i : Nat) (v : Value) : (W.setCell ⟨g, i, none⟩ v).heap[g]? = some (.cells (cur.set i v).toArray t (0, 0)) := by
  rw [setCell_eq_setRow W g i cur.toArray t (0, 0) v h, setRow_heap W g cur.toArray _ t (0, 0) h]
  simp
/-- a whole block as a row of the call's own -/
theorem R_of_heap {α : Type} {enc : α → Value} {h1 : ∀ x, (enc x).oneCell' = true} {W : World} {g base : Nat} {t : TypeId} {xs : List α} (h : W.heap[g]? = some (.cells (xs.map enc).toArray t (0, 0))) (hb : base ≤ g) (hl : xs.length ≤ 9223372036854775807) :
    (Kd.scalar enc h1).R t W base (fun _ => True) (.slice (some ⟨g, 0, none⟩) xs.length xs.length) xs := by
  refine Kd.R_of_own ⟨by simp [encs], .inr ⟨g, xs.length, (xs.map enc).toArray, rfl, hb, h, Nat.le_refl _, by simpa [maxLen] using hl, by simp, ?_⟩⟩ (fun _ _ => trivial)
  simp [encs]
  rw [List.take_of_length_le (by simp)]
end Go.Own
