/- Whether bindings and terms are too great is always told. -/
import Derived.Test.YtmiapolhklapnaaPx1
import Derived.Test.YtmiapolhklapnaaPx5
import Derived.Test.YtmiapolhklapnaaPx6
import Derived.Test.YtmiapolhklapnaaPureArith
set_option linter.unusedVariables false
set_option linter.unusedSimpArgs false
namespace Go.Proofs.Ytmiapolhklapnaa.Pure
open Go Go.Own Go.RowKit Go.Proofs.Ytmiapolhklapnaa.P Go.Proofs.YtmiapolhklapnaaW.PrintWords Go.Proofs.YtmiapolhklapnaaW.PrintLast

theorem left_up {t : S25} {most r : Int} {k k' : Nat} (hk : k ≤ k') (h : spinneyref03_left.f k t.f0 t.f1 t.f2 t.f3 most = some r) : spinneyref03_left.f k' t.f0 t.f1 t.f2 t.f3 most = some r :=
  leO_up (f := fun k => spinneyref03_left.f k t.f0 t.f1 t.f2 t.f3 most) (fun k => spinneyref03_left.mono _ _ _ _ _ k) hk h
theorem left_loop (ts : List S25) (hl : ts.length ≤ 9223372036854775807) (ih : ∀ t ∈ ts, ∀ most, ∃ k r, spinneyref03_left.f k t.f0 t.f1 t.f2 t.f3 most = some r) (n : Nat) : ∀ (i : Nat) (most : Int), ts.length - i = n → i ≤ ts.length → ∃ k r, ∀ k', k ≤ k' → spinneyref03_left.l0 k' most ts (ts.length : Int) (i : Int) = some r := by
  induction n with
  | zero =>
    intro i most hn hi
    refine ⟨1, most, fun k' hk' => ?_⟩
    obtain ⟨k', rfl⟩ : ∃ j, k' = j + 1 := ⟨k' - 1, by omega⟩
    unfold spinneyref03_left.l0
    rw [if_neg (by omega)]
  | succ n ihn =>
    intro i most hn hi
    have hlt : i < ts.length := by omega
    by_cases hm : most < 0
    · refine ⟨1, most, fun k' hk' => ?_⟩
      obtain ⟨k', rfl⟩ : ∃ j, k' = j + 1 := ⟨k' - 1, by omega⟩
      unfold spinneyref03_left.l0
      rw [if_pos (by omega), if_pos (by omega), if_pos (by omega), if_pos hm]
    · have er : rd_T25 ts (i : Int) = ts[i] := by
        unfold rd_T25
        rw [Int.toNat_natCast, List.getD_eq_getElem?_getD, List.getElem?_eq_getElem hlt]
        rfl
      obtain ⟨k1, r1, h1⟩ := ih ts[i] (List.getElem_mem hlt) most
      obtain ⟨k2, r2, h2⟩ := ihn (i + 1) r1 (by omega) (by omega)
      refine ⟨k1 + k2 + 1, r2, fun k' hk' => ?_⟩
      obtain ⟨k', rfl⟩ : ∃ j, k' = j + 1 := ⟨k' - 1, by omega⟩
      unfold spinneyref03_left.l0
      have ew : wrap64 ((i : Int) + 1) = ((i + 1 : Nat) : Int) := by unfold wrap64; omega
      rw [if_pos (by omega), if_pos (by omega), if_pos (by omega), if_neg hm, er, left_up (by omega) h1]
      simp only [Option.bind_some, ew]
      exact h2 k' (by omega)
theorem left_total {t : S25} (ht : Ok25 t) : ∀ most, ∃ k r, spinneyref03_left.f k t.f0 t.f1 t.f2 t.f3 most = some r := by
  induction ht with
  | mk x h0 h1 h2 h3 h4 ih =>
    intro most
    obtain ⟨k, r, h⟩ := left_loop x.f3 (Nat.le_trans h3 (by decide)) ih x.f3.length 0 (wrap64 (most - 1)) (by omega) (by omega)
    exact ⟨k + 1, r, h k (Nat.le_refl _)⟩
theorem few_total {t : S25} (ht : Ok25 t) (most : Int) : ∃ k b, ∀ k', k ≤ k' → spinneyref03_Few.f k' t.f0 t.f1 t.f2 t.f3 most = some b := by
  obtain ⟨k, r, h⟩ := left_total ht most
  refine ⟨k, decide (r ≥ 0), fun k' hk => ?_⟩
  unfold spinneyref03_Few.f
  rw [left_up hk h]
  rfl
theorem big_l1 (ts : List S25) (hl : ts.length ≤ 9223372036854775807) (hok : ∀ t ∈ ts, Ok25 t) (n : Nat) : ∀ i : Nat, ts.length - i = n → i ≤ ts.length → ∃ k b, ∀ k', k ≤ k' → spinneylaw11_big.l1 k' ts (ts.length : Int) (i : Int) = some b := by
  induction n with
  | zero =>
    intro i hn hi
    refine ⟨1, false, fun k' hk' => ?_⟩
    obtain ⟨k', rfl⟩ : ∃ j, k' = j + 1 := ⟨k' - 1, by omega⟩
    unfold spinneylaw11_big.l1
    rw [if_neg (by omega)]
  | succ n ihn =>
    intro i hn hi
    have hlt : i < ts.length := by omega
    have er : rd_T25 ts (i : Int) = ts[i] := by
      unfold rd_T25
      rw [Int.toNat_natCast, List.getD_eq_getElem?_getD, List.getElem?_eq_getElem hlt]
      rfl
    have ew : wrap64 ((i : Int) + 1) = ((i + 1 : Nat) : Int) := by unfold wrap64; omega
    obtain ⟨k1, b1, h1⟩ := few_total (hok ts[i] (List.getElem_mem hlt)) 200
    obtain ⟨k2, b2, h2⟩ := ihn (i + 1) (by omega) (by omega)
    refine ⟨k1 + k2 + 1, if b1 = true then b2 else true, fun k' hk' => ?_⟩
    obtain ⟨k', rfl⟩ : ∃ j, k' = j + 1 := ⟨k' - 1, by omega⟩
    unfold spinneylaw11_big.l1
    rw [if_pos (by omega), if_pos (by omega), if_pos (by omega), er, h1 k' (by omega)]
    simp only [Option.bind_some, ew]
    by_cases hb : b1 = true
    · rw [if_pos hb, if_pos hb]; exact h2 k' (by omega)
    · rw [if_neg hb, if_neg hb]
theorem big_l0 (ts : List S25) (htl : ts.length ≤ 9223372036854775807) (hts : ∀ t ∈ ts, Ok25 t) (l : List S45) (hl : l.length ≤ 9223372036854775807) (hok : ∀ y ∈ l, Ok45 y) (n : Nat) : ∀ i : Nat, l.length - i = n → i ≤ l.length → ∃ k b, ∀ k', k ≤ k' → spinneylaw11_big.l0 k' ts l (l.length : Int) (i : Int) = some b := by
  induction n with
  | zero =>
    intro i hn hi
    obtain ⟨k, b, h⟩ := big_l1 ts htl hts ts.length 0 (by omega) (by omega)
    refine ⟨k + 1, b, fun k' hk' => ?_⟩
    obtain ⟨k', rfl⟩ : ∃ j, k' = j + 1 := ⟨k' - 1, by omega⟩
    unfold spinneylaw11_big.l0
    rw [if_neg (by omega)]
    exact h k' (by omega)
  | succ n ihn =>
    intro i hn hi
    have hlt : i < l.length := by omega
    have er : rd_T45 l (i : Int) = l[i] := subst_Look.rd_at hlt
    have ew : wrap64 ((i : Int) + 1) = ((i + 1 : Nat) : Int) := by unfold wrap64; omega
    have hb1 : Ok25 l[i].f1 := by
      have := hok l[i] (List.getElem_mem hlt)
      cases this with
      | mk _ h2 => exact h2
    obtain ⟨k1, b1, h1⟩ := few_total hb1 5
    obtain ⟨k2, b2, h2⟩ := ihn (i + 1) (by omega) (by omega)
    refine ⟨k1 + k2 + 1, if b1 = true then b2 else true, fun k' hk' => ?_⟩
    obtain ⟨k', rfl⟩ : ∃ j, k' = j + 1 := ⟨k' - 1, by omega⟩
    unfold spinneylaw11_big.l0
    rw [if_pos (by omega), if_pos (by omega), if_pos (by omega), er, h1 k' (by omega)]
    simp only [Option.bind_some, ew]
    by_cases hb : b1 = true
    · rw [if_pos hb, if_pos hb]; exact h2 k' (by omega)
    · rw [if_neg hb, if_neg hb]
theorem big_total (ts : List S25) (htl : ts.length ≤ 9223372036854775807) (hts : ∀ t ∈ ts, Ok25 t) (l : List S45) (hl : l.length ≤ 9223372036854775807) (hok : ∀ y ∈ l, Ok45 y) : ∃ k b, ∀ k', k ≤ k' → spinneylaw11_big.f k' l ts = some b := by
  unfold spinneylaw11_big.f
  by_cases h : (l.length : Int) > 6
  · exact ⟨0, true, fun k' _ => by rw [if_pos h]⟩
  · obtain ⟨k, b, h2⟩ := big_l0 ts htl hts l hl hok l.length 0 (by omega) (by omega)
    exact ⟨k, b, fun k' hk => by rw [if_neg h]; exact h2 k' hk⟩

end Go.Proofs.Ytmiapolhklapnaa.Pure
