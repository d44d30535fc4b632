/- What the reading of an argument says of its cells: its kind. -/ -- NOIMPORT
import Derived.Test.YtfcmbflpefhpaaaWWords
import Derived.ChangeArms
import Derived.DataReads
set_option linter.unusedVariables false
set_option linter.unusedSimpArgs false
namespace Go.Own
open Go Go.RowKit Go.Proofs.YtfcmbflpefhpaaaW.PrintWords
/-- whatever is read as of type t, in at most n rounds, is of the kind kd, and holds ok -/
def Opens {H α : Type} (enc : TypeId × Value → H) (P : Program) (W : World) (t : TypeId) (kd : Kd α) (ok : α → Prop) (n : Nat) : Prop :=
  ∀ f, f ≤ n → ∀ (cs : List Value) (x : DataW H × List MemPlace), DataW.trod enc P W 0 (fun _ => true) true f t cs = some x → ∃ a, kd.K W a cs ∧ ok a
section
variable {H : Type} {enc : TypeId × Value → H} {P : Program} {W : World} {n : Nat}
theorem opens_int {t : TypeId} {k : IntKind} (ht : P.underlying t = some (.int k)) : Opens enc P W t (Kd.int k) (fun i => (Lit.int k i).wf = true) n := by
  intro f _ cs x h
  obtain ⟨i, rfl, _, hw⟩ := DataW.trod_int ht h
  exact ⟨i, rfl, hw⟩
theorem opens_bool {t : TypeId} (ht : P.underlying t = some .bool) : Opens enc P W t Kd.bool (fun _ => True) n := by
  intro f _ cs x h
  obtain ⟨b, rfl, _⟩ := DataW.trod_bool ht h
  exact ⟨b, rfl, trivial⟩
theorem opens_string {t : TypeId} (ht : P.underlying t = some .string) : Opens enc P W t Kd.string (fun s => s.size ≤ maxLen) n := by
  intro f _ cs x h
  obtain ⟨s, rfl, _, hw⟩ := DataW.trod_string ht h
  exact ⟨s, rfl, hw⟩
theorem Opens.le {α : Type} {t : TypeId} {kd : Kd α} {ok : α → Prop} {m : Nat} (h : Opens enc P W t kd ok n) (hm : m ≤ n) : Opens enc P W t kd ok m :=
  fun f hf => h f (Nat.le_trans hf hm)
theorem opens_slice {α : Type} {t e : TypeId} {kd : Kd α} {ok : α → Prop} (ht : P.underlying t = some (.slice e)) (hc : P.cellsOf e = kd.sz) (h : Opens enc P W e kd ok n) :
    Opens enc P W t (Kd.slice e kd) (fun l => l.length ≤ maxLen ∧ ∀ y ∈ l, ok y) n := by
  intro f hf cs x hx
  rcases DataW.trod_slice ht hx with ⟨rfl, rfl⟩ | ⟨a, len, cap, elems, rest, m, rfl, rfl, _, hb, hl, hm, hlen, hel, _, _⟩
  · exact ⟨[], ⟨none, 0, rfl, Nat.le_refl _, rfl, by simp, fun h => absurd h (by simp)⟩, by simp, fun y hy => by simp at hy⟩
  · have key : ∀ i : Fin len, ∃ y, ∃ c, W.cells? 0 (a.add (i.1 * P.cellsOf e)) (P.cellsOf e) = some c ∧ kd.K W y c ∧ ok y := by
      intro i
      have h1 := hel i.1 i.2
      rw [List.getElem?_eq_getElem (by rw [hlen]; exact i.2)] at h1
      obtain ⟨c, hc1, hc2⟩ := Option.bind_eq_some_iff.1 h1
      obtain ⟨y, hy, hok⟩ := h m (by omega) c _ hc2
      exact ⟨y, c, hc1, hy, hok⟩
    have hml : maxLen = 140737488355328 ∨ maxLen ≤ 9223372036854775807 := .inr (by decide)
    refine ⟨List.ofFn (fun i => Classical.choose (key i)), ⟨some a, cap, ?_, ?_, ?_⟩, ?_, ?_⟩
    · rw [List.length_ofFn]
    · rw [List.length_ofFn]; exact hl
    · refine ⟨rfl, ?_, fun _ => ⟨a, rfl, fun j p hp => ?_⟩⟩
      · rw [List.length_ofFn]
        exact Nat.le_trans (Nat.le_trans hl hm) (by decide)
      · obtain ⟨hj, e1⟩ := List.getElem?_eq_some_iff.1 hp
        rw [List.length_ofFn] at hj
        rw [List.getElem_ofFn] at e1
        obtain ⟨c, hc1, hy, _⟩ := Classical.choose_spec (key ⟨j, hj⟩)
        obtain ⟨_, hcl, hcell⟩ := World.cells?_some hc1
        refine ⟨c, by rw [hcl, hc], by rw [← e1]; exact hy, fun i u hu => ?_⟩
        have hi : i < P.cellsOf e := by
          obtain ⟨hi, _⟩ := List.getElem?_eq_some_iff.1 hu
          omega
        have h2 := hcell i hi
        rw [hu] at h2
        rw [← h2, ← hc]
        congr 1
        unfold Addr.add
        by_cases h3 : j * P.cellsOf e = 0 <;> by_cases h4 : i = 0 <;> simp [h3, h4, Nat.add_assoc]
    · rw [List.length_ofFn]; omega
    · intro y hy
      obtain ⟨i, rfl⟩ := List.mem_ofFn.1 hy
      obtain ⟨c, _, _, hok⟩ := Classical.choose_spec (key i)
      exact hok
/-- a field's cells, and what stands behind them -/
theorem cut_pair {α β : Type} {a : Kd α} {b : Kd β} {x : α} {y : β} {cs : List Value} (o s : Nat) (h0 : a.K W x ((cs.drop o).take s)) (h1 : b.K W y (cs.drop (o + s))) : (Kd.pair a b).K W (x, y) (cs.drop o) :=
  ⟨_, _, by rw [← List.drop_drop, List.take_append_drop], h0, h1⟩
theorem cut_last {α : Type} {a : Kd α} {x : α} {cs : List Value} (o s : Nat) (h0 : a.K W x ((cs.drop o).take s)) (hl : cs.length ≤ o + s) : a.K W x (cs.drop o) := by
  rwa [List.take_of_length_le (by rw [List.length_drop]; omega)] at h0
theorem field_at {fs : Array Field} {xs : List (DataW H × List MemPlace)} {m : Nat} {cs : List Value} (hl : xs.length = fs.size)
    (hg : ∀ (i : Nat) (f : Field), fs[i]? = some f → DataW.trod enc P W 0 (fun _ => true) true m f.type ((cs.drop f.offset).take (P.cellsOf f.type)) = xs[i]?)
    {α : Type} {kd : Kd α} {ok : α → Prop} (i : Nat) (f : Field) (hf : fs[i]? = some f) (s : Nat) (hs : P.cellsOf f.type = s) (ho : Opens enc P W f.type kd ok n) (hm : m ≤ n) : ∃ a, kd.K W a ((cs.drop f.offset).take s) ∧ ok a := by
  have h1 := hg i f hf
  have hi : i < xs.length := by
    obtain ⟨hi, _⟩ := Array.getElem?_eq_some_iff.1 hf
    omega
  rw [List.getElem?_eq_getElem hi] at h1
  rw [← hs]
  exact ho m hm _ _ h1
end
end Go.Own
