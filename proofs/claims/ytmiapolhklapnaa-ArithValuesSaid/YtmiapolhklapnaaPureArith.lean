/- What terms come to: the program's evaluation and the reference's, in plain words. -/
import Derived.Test.YtmiapolhklapnaaPx1
import Derived.Test.YtmiapolhklapnaaPx3
import Derived.Test.YtmiapolhklapnaaPx7
import Derived.Test.YtmiapolhklapnaaPx8
set_option linter.unusedVariables false
set_option linter.unusedSimpArgs false
namespace Go.Proofs.Ytmiapolhklapnaa.Pure
open Go Go.Own Go.RowKit Go.Proofs.Ytmiapolhklapnaa.P Go.Proofs.YtmiapolhklapnaaW.PrintWords Go.Proofs.YtmiapolhklapnaaW.PrintLast

theorem leO_up {α : Type} {f : Nat → Option α} (hm : ∀ k, LeO (f k) (f (k + 1))) {k k' : Nat} (h : k ≤ k') {r : α} (hr : f k = some r) : f k' = some r := by
  obtain ⟨d, rfl⟩ : ∃ d, k' = k + d := ⟨k' - k, by omega⟩
  clear h
  induction d with
  | zero => exact hr
  | succ d ih => exact hm _ _ ih
theorem find_snoc (a : Int) (x : S45) : ∀ p : List S45, subst_Look.find a (p ++ [x]) = if x.f0 = a then some x.f1 else subst_Look.find a p
  | [] => by simp [subst_Look.find]
  | y :: p => by
    rw [List.cons_append]
    unfold subst_Look.find
    rw [find_snoc a x p]
    by_cases h : x.f0 = a <;> simp [h]
def lookF (o : Option S25) : Int × ByteArray × Int × List S25 × Bool := match o with
  | some t => (t.f0, t.f1, t.f2, t.f3, true)
  | none => (0, (⟨#[]⟩ : ByteArray), 0, [], false)
theorem look_eq (l : List S45) (a : Int) (hl : l.length ≤ 9223372036854775807) : ∀ (n k : Nat), n ≤ l.length → n < k → spinneyref09_Look.l0 k l a ((n : Int) - 1) = some (lookF (subst_Look.find a (l.take n))) := by
  intro n
  induction n with
  | zero =>
    intro k _ hk
    obtain ⟨k, rfl⟩ : ∃ j, k = j + 1 := ⟨k - 1, by omega⟩
    unfold spinneyref09_Look.l0
    rw [if_neg (by omega)]
    rfl
  | succ n ih =>
    intro k hn hk
    obtain ⟨k, rfl⟩ : ∃ j, k = j + 1 := ⟨k - 1, by omega⟩
    unfold spinneyref09_Look.l0
    have e : ((n + 1 : Nat) : Int) - 1 = (n : Int) := by omega
    have ew : wrap64 ((n : Int) - 1) = (n : Int) - 1 := by unfold wrap64; omega
    have et : l.take (n + 1) = l.take n ++ [l[n]] := by rw [List.take_succ_eq_append_getElem (by omega)]
    have er : rd_T45 l (n : Int) = l[n] := subst_Look.rd_at (by omega)
    rw [e, if_pos (by omega), if_pos (by omega), if_pos (by omega), er, et, find_snoc]
    by_cases h : l[n].f0 = a
    · rw [if_pos h, if_pos h]; rfl
    · rw [if_neg h, if_neg h, ew]
      exact ih k (by omega) (by omega)
theorem look_f (l : List S45) (a : Int) (hl : l.length ≤ 9223372036854775807) (k : Nat) (hk : l.length < k) : spinneyref09_Look.f k l a = some (lookF (subst_Look.find a l)) := by
  unfold spinneyref09_Look.f
  have ew : wrap64 ((l.length : Int) - 1) = (l.length : Int) - 1 := by unfold wrap64; omega
  have := look_eq l a hl l.length k (Nat.le_refl _) hk
  rw [List.take_length] at this
  rw [ew]
  exact this
theorem find_ok (a : Int) : ∀ (l : List S45), (∀ y ∈ l, Ok45 y) → ∀ t, subst_Look.find a l = some t → Ok25 t
  | [], _, t, h => by cases h
  | y :: l, hl, t, h => by
    unfold subst_Look.find at h
    cases hf : subst_Look.find a l with
    | some u =>
      rw [hf] at h
      injection h with h
      subst h
      exact find_ok a l (fun z hz => hl z (List.mem_cons_of_mem _ hz)) u hf
    | none =>
      rw [hf] at h
      simp only at h
      split at h
      · injection h with h
        subst h
        cases hl y List.mem_cons_self with
        | mk _ h2 => exact h2
      · cases h
/-- following bindings: from a term and the steps so far -/
theorem walk_eq (l : List S45) (hl : l.length ≤ 9223372036854775807) (hok : ∀ y ∈ l, Ok45 y) : ∀ (d : Nat) (t : S25) (s : Int) (k1 k2 : Nat), s = 2000 - (d : Int) → d ≤ 2000 → d + 2 ≤ k1 → d + l.length + 3 ≤ k2 → Ok25 t →
    ∃ r : S25 × Int, arith_Eval.vl k1 l t s = some r ∧ Ok25 r.1 ∧ 0 ≤ r.2 ∧ r.2 ≤ 2001 ∧
      spinneyref09_Meter_Walk.l0 k2 l s t.f0 t.f1 t.f2 t.f3 = some (if r.2 > 2000 then (0, (⟨#[]⟩ : ByteArray), 0, [], 140, r.2) else (r.1.f0, r.1.f1, r.1.f2, r.1.f3, 0, r.2)) := by
  intro d
  induction d with
  | zero =>
    intro t s k1 k2 hs hd hk1 hk2 ht
    obtain ⟨k1, rfl⟩ : ∃ j, k1 = j + 1 + 1 := ⟨k1 - 2, by omega⟩
    obtain ⟨k2, rfl⟩ : ∃ j, k2 = j + 1 := ⟨k2 - 1, by omega⟩
    unfold arith_Eval.vl spinneyref09_Meter_Walk.l0
    rw [if_pos (by omega)]
    by_cases h1 : t.f0 = 1
    · rw [if_pos h1, if_pos h1, look_f l t.f2 hl k2 (by omega)]
      simp only [Option.bind_some]
      cases hf : subst_Look.find t.f2 l with
      | none =>
        refine ⟨(t, s), rfl, ht, by show 0 ≤ s; omega, by show s ≤ 2001; omega, ?_⟩
        rw [if_neg (show ¬ (t, s).2 > 2000 by show ¬ s > 2000; omega)]
        rfl
      | some x =>
        have e : wrap64 (s + 1) = 2001 := by unfold wrap64; omega
        simp only [e]
        refine ⟨(x, 2001), ?_, find_ok _ l hok x hf, by simp, by simp, ?_⟩
        · unfold arith_Eval.vl
          rw [if_neg (by omega)]
        · rw [show lookF (some x) = (x.f0, x.f1, x.f2, x.f3, true) from rfl]
          dsimp only
          rw [if_pos rfl]
          unfold spinneyref09_Meter_spend.f
          simp only [Option.bind_some, e]
          rfl
    · rw [if_neg h1, if_neg h1]
      refine ⟨(t, s), rfl, ht, by show 0 ≤ s; omega, by show s ≤ 2001; omega, ?_⟩
      rw [if_neg (show ¬ (t, s).2 > 2000 by show ¬ s > 2000; omega)]
  | succ d ih =>
    intro t s k1 k2 hs hd hk1 hk2 ht
    obtain ⟨k1, rfl⟩ : ∃ j, k1 = j + 1 := ⟨k1 - 1, by omega⟩
    obtain ⟨k2, rfl⟩ : ∃ j, k2 = j + 1 := ⟨k2 - 1, by omega⟩
    unfold arith_Eval.vl spinneyref09_Meter_Walk.l0
    rw [if_pos (by omega)]
    by_cases h1 : t.f0 = 1
    · rw [if_pos h1, if_pos h1, look_f l t.f2 hl k2 (by omega)]
      simp only [Option.bind_some]
      cases hf : subst_Look.find t.f2 l with
      | none =>
        refine ⟨(t, s), rfl, ht, by show 0 ≤ s; omega, by show s ≤ 2001; omega, ?_⟩
        rw [if_neg (show ¬ (t, s).2 > 2000 by show ¬ s > 2000; omega)]
        rfl
      | some x =>
        have e : wrap64 (s + 1) = s + 1 := by unfold wrap64; omega
        obtain ⟨r, h2, h3, h4, h5, h6⟩ := ih x (s + 1) k1 k2 (by omega) (by omega) (by omega) (by omega) (find_ok _ l hok x hf)
        refine ⟨r, ?_, h3, h4, h5, ?_⟩
        · simp only [e]; exact h2
        · rw [show lookF (some x) = (x.f0, x.f1, x.f2, x.f3, true) from rfl]
          dsimp only
          rw [if_pos rfl]
          unfold spinneyref09_Meter_spend.f
          simp only [Option.bind_some, e]
          rw [if_pos (by simp; omega)]
          exact h6
    · rw [if_neg h1, if_neg h1]
      refine ⟨(t, s), rfl, ht, by show 0 ≤ s; omega, by show s ≤ 2001; omega, ?_⟩
      rw [if_neg (show ¬ (t, s).2 > 2000 by show ¬ s > 2000; omega)]
theorem meet_eq (l : List S45) (hl : l.length ≤ 9223372036854775807) (hok : ∀ y ∈ l, Ok45 y) (t : S25) (ht : Ok25 t) (s : Int) (h0 : 0 ≤ s) (h1 : s ≤ 2000) (k1 k2 : Nat) (hk1 : 2002 ≤ k1) (hk2 : l.length + 2003 ≤ k2) :
    ∃ q : S25 × Int × Int, arith_Eval.visit k1 l t s = some q ∧ spinneyref09_Meter_Meet.f k2 s l t.f0 t.f1 t.f2 t.f3 = some (q.1.f0, q.1.f1, q.1.f2, q.1.f3, q.2.1, q.2.2) ∧ (q.2.1 = 0 → Ok25 q.1 ∧ 0 ≤ q.2.2 ∧ q.2.2 ≤ 2000) := by
  have e : wrap64 (s + 1) = s + 1 := by unfold wrap64; omega
  unfold arith_Eval.visit spinneyref09_Meter_Meet.f spinneyref09_Meter_spend.f spinneyref09_Meter_Walk.f
  simp only [Option.bind_some, e]
  by_cases h : s + 1 ≤ 2000
  · obtain ⟨d, hd⟩ : ∃ d : Nat, s + 1 = 2000 - (d : Int) := ⟨(2000 - (s + 1)).toNat, by omega⟩
    obtain ⟨r, h2, h3, h4, h5, h6⟩ := walk_eq l hl hok d t (s + 1) k1 k2 hd (by omega) (by omega) (by omega) ht
    rw [h2, if_pos (by simp; omega), h6]
    simp only [Option.bind_some]
    by_cases hr : r.2 > 2000
    · rw [if_pos hr, if_pos hr]
      exact ⟨(z25, 140, r.2), rfl, rfl, fun h => by simp at h⟩
    · rw [if_neg hr, if_neg hr]
      exact ⟨(r.1, 0, r.2), rfl, rfl, fun _ => ⟨h3, h4, by simp; omega⟩⟩
  · rw [if_neg (by simp; omega)]
    obtain ⟨k1, rfl⟩ : ∃ j, k1 = j + 1 := ⟨k1 - 1, by omega⟩
    have hv : arith_Eval.vl (k1 + 1) l t (s + 1) = some (t, s + 1) := by unfold arith_Eval.vl; rw [if_neg (by omega)]
    rw [hv]
    simp only [Option.bind_some]
    rw [if_pos (by omega)]
    exact ⟨(z25, 140, s + 1), rfl, rfl, fun h => by simp at h⟩

end Go.Proofs.Ytmiapolhklapnaa.Pure
