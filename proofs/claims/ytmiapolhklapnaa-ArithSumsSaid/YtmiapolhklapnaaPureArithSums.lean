/- Operators between Ints are what num makes of them. -/
import Derived.Test.YtmiapolhklapnaaPx4
import Derived.Test.YtmiapolhklapnaaPx5
import Derived.Test.YtmiapolhklapnaaPx6
import Derived.Test.YtmiapolhklapnaaPx7
import Derived.Test.YtmiapolhklapnaaPx2
import Derived.Test.YtmiapolhklapnaaPx3
import Derived.Test.YtmiapolhklapnaaPx1
set_option linter.unusedVariables false
set_option linter.unusedSimpArgs false
namespace Go.Proofs.Ytmiapolhklapnaa.Pure
open Go Go.Own Go.RowKit Go.Proofs.Ytmiapolhklapnaa.P Go.Proofs.YtmiapolhklapnaaW.PrintWords Go.Proofs.YtmiapolhklapnaaW.PrintLast

theorem leO_up {α : Type} {f : Nat → Option α} (hm : ∀ k, LeO (f k) (f (k + 1))) {k k' : Nat} (h : k ≤ k') {r : α} (hr : f k = some r) : f k' = some r := by
  obtain ⟨d, rfl⟩ : ∃ d, k' = k + d := ⟨k' - k, by omega⟩
  clear h
  induction d with
  | zero => exact hr
  | succ d ih => exact hm _ _ ih
theorem find_snoc (a : Int) (x : S45) : ∀ p : List S45, subst_Look.find a (p ++ [x]) = if x.f0 = a then some x.f1 else subst_Look.find a p
  | [] => by simp [subst_Look.find]
  | y :: p => by
    rw [List.cons_append]
    unfold subst_Look.find
    rw [find_snoc a x p]
    by_cases h : x.f0 = a <;> simp [h]
def lookF (o : Option S25) : Int × ByteArray × Int × List S25 × Bool := match o with
  | some t => (t.f0, t.f1, t.f2, t.f3, true)
  | none => (0, (⟨#[]⟩ : ByteArray), 0, [], false)
theorem look_eq (l : List S45) (a : Int) (hl : l.length ≤ 9223372036854775807) : ∀ (n k : Nat), n ≤ l.length → n < k → spinneyref09_Look.l0 k l a ((n : Int) - 1) = some (lookF (subst_Look.find a (l.take n))) := by
  intro n
  induction n with
  | zero =>
    intro k _ hk
    obtain ⟨k, rfl⟩ : ∃ j, k = j + 1 := ⟨k - 1, by omega⟩
    unfold spinneyref09_Look.l0
    rw [if_neg (by omega)]
    rfl
  | succ n ih =>
    intro k hn hk
    obtain ⟨k, rfl⟩ : ∃ j, k = j + 1 := ⟨k - 1, by omega⟩
    unfold spinneyref09_Look.l0
    have e : ((n + 1 : Nat) : Int) - 1 = (n : Int) := by omega
    have ew : wrap64 ((n : Int) - 1) = (n : Int) - 1 := by unfold wrap64; omega
    have et : l.take (n + 1) = l.take n ++ [l[n]] := by rw [List.take_succ_eq_append_getElem (by omega)]
    have er : rd_T45 l (n : Int) = l[n] := subst_Look.rd_at (by omega)
    rw [e, if_pos (by omega), if_pos (by omega), if_pos (by omega), er, et, find_snoc]
    by_cases h : l[n].f0 = a
    · rw [if_pos h, if_pos h]; rfl
    · rw [if_neg h, if_neg h, ew]
      exact ih k (by omega) (by omega)
theorem look_f (l : List S45) (a : Int) (hl : l.length ≤ 9223372036854775807) (k : Nat) (hk : l.length < k) : spinneyref09_Look.f k l a = some (lookF (subst_Look.find a l)) := by
  unfold spinneyref09_Look.f
  have ew : wrap64 ((l.length : Int) - 1) = (l.length : Int) - 1 := by unfold wrap64; omega
  have := look_eq l a hl l.length k (Nat.le_refl _) hk
  rw [List.take_length] at this
  rw [ew]
  exact this
theorem find_ok (a : Int) : ∀ (l : List S45), (∀ y ∈ l, Ok45 y) → ∀ t, subst_Look.find a l = some t → Ok25 t
  | [], _, t, h => by cases h
  | y :: l, hl, t, h => by
    unfold subst_Look.find at h
    cases hf : subst_Look.find a l with
    | some u =>
      rw [hf] at h
      injection h with h
      subst h
      exact find_ok a l (fun z hz => hl z (List.mem_cons_of_mem _ hz)) u hf
    | none =>
      rw [hf] at h
      simp only at h
      split at h
      · injection h with h
        subst h
        cases hl y List.mem_cons_self with
        | mk _ h2 => exact h2
      · cases h
/-- following bindings: from a term and the steps so far -/
theorem walk_eq (l : List S45) (hl : l.length ≤ 9223372036854775807) (hok : ∀ y ∈ l, Ok45 y) : ∀ (d : Nat) (t : S25) (s : Int) (k1 k2 : Nat), s = 2000 - (d : Int) → d ≤ 2000 → d + 2 ≤ k1 → d + l.length + 3 ≤ k2 → Ok25 t →
    ∃ r : S25 × Int, arith_Eval.vl k1 l t s = some r ∧ Ok25 r.1 ∧ 0 ≤ r.2 ∧ r.2 ≤ 2001 ∧
      spinneyref09_Meter_Walk.l0 k2 l s t.f0 t.f1 t.f2 t.f3 = some (if r.2 > 2000 then (0, (⟨#[]⟩ : ByteArray), 0, [], 140, r.2) else (r.1.f0, r.1.f1, r.1.f2, r.1.f3, 0, r.2)) := by
  intro d
  induction d with
  | zero =>
    intro t s k1 k2 hs hd hk1 hk2 ht
    obtain ⟨k1, rfl⟩ : ∃ j, k1 = j + 1 + 1 := ⟨k1 - 2, by omega⟩
    obtain ⟨k2, rfl⟩ : ∃ j, k2 = j + 1 := ⟨k2 - 1, by omega⟩
    unfold arith_Eval.vl spinneyref09_Meter_Walk.l0
    rw [if_pos (by omega)]
    by_cases h1 : t.f0 = 1
    · rw [if_pos h1, if_pos h1, look_f l t.f2 hl k2 (by omega)]
      simp only [Option.bind_some]
      cases hf : subst_Look.find t.f2 l with
      | none =>
        refine ⟨(t, s), rfl, ht, by show 0 ≤ s; omega, by show s ≤ 2001; omega, ?_⟩
        rw [if_neg (show ¬ (t, s).2 > 2000 by show ¬ s > 2000; omega)]
        rfl
      | some x =>
        have e : wrap64 (s + 1) = 2001 := by unfold wrap64; omega
        simp only [e]
        refine ⟨(x, 2001), ?_, find_ok _ l hok x hf, by simp, by simp, ?_⟩
        · unfold arith_Eval.vl
          rw [if_neg (by omega)]
        · rw [show lookF (some x) = (x.f0, x.f1, x.f2, x.f3, true) from rfl]
          dsimp only
          rw [if_pos rfl]
          unfold spinneyref09_Meter_spend.f
          simp only [Option.bind_some, e]
          rfl
    · rw [if_neg h1, if_neg h1]
      refine ⟨(t, s), rfl, ht, by show 0 ≤ s; omega, by show s ≤ 2001; omega, ?_⟩
      rw [if_neg (show ¬ (t, s).2 > 2000 by show ¬ s > 2000; omega)]
  | succ d ih =>
    intro t s k1 k2 hs hd hk1 hk2 ht
    obtain ⟨k1, rfl⟩ : ∃ j, k1 = j + 1 := ⟨k1 - 1, by omega⟩
    obtain ⟨k2, rfl⟩ : ∃ j, k2 = j + 1 := ⟨k2 - 1, by omega⟩
    unfold arith_Eval.vl spinneyref09_Meter_Walk.l0
    rw [if_pos (by omega)]
    by_cases h1 : t.f0 = 1
    · rw [if_pos h1, if_pos h1, look_f l t.f2 hl k2 (by omega)]
      simp only [Option.bind_some]
      cases hf : subst_Look.find t.f2 l with
      | none =>
        refine ⟨(t, s), rfl, ht, by show 0 ≤ s; omega, by show s ≤ 2001; omega, ?_⟩
        rw [if_neg (show ¬ (t, s).2 > 2000 by show ¬ s > 2000; omega)]
        rfl
      | some x =>
        have e : wrap64 (s + 1) = s + 1 := by unfold wrap64; omega
        obtain ⟨r, h2, h3, h4, h5, h6⟩ := ih x (s + 1) k1 k2 (by omega) (by omega) (by omega) (by omega) (find_ok _ l hok x hf)
        refine ⟨r, ?_, h3, h4, h5, ?_⟩
        · simp only [e]; exact h2
        · rw [show lookF (some x) = (x.f0, x.f1, x.f2, x.f3, true) from rfl]
          dsimp only
          rw [if_pos rfl]
          unfold spinneyref09_Meter_spend.f
          simp only [Option.bind_some, e]
          rw [if_pos (by simp; omega)]
          exact h6
    · rw [if_neg h1, if_neg h1]
      refine ⟨(t, s), rfl, ht, by show 0 ≤ s; omega, by show s ≤ 2001; omega, ?_⟩
      rw [if_neg (show ¬ (t, s).2 > 2000 by show ¬ s > 2000; omega)]
theorem meet_eq (l : List S45) (hl : l.length ≤ 9223372036854775807) (hok : ∀ y ∈ l, Ok45 y) (t : S25) (ht : Ok25 t) (s : Int) (h0 : 0 ≤ s) (h1 : s ≤ 2000) (k1 k2 : Nat) (hk1 : 2002 ≤ k1) (hk2 : l.length + 2003 ≤ k2) :
    ∃ q : S25 × Int × Int, arith_Eval.visit k1 l t s = some q ∧ spinneyref09_Meter_Meet.f k2 s l t.f0 t.f1 t.f2 t.f3 = some (q.1.f0, q.1.f1, q.1.f2, q.1.f3, q.2.1, q.2.2) ∧ (q.2.1 = 0 → Ok25 q.1 ∧ 0 ≤ q.2.2 ∧ q.2.2 ≤ 2000) := by
  have e : wrap64 (s + 1) = s + 1 := by unfold wrap64; omega
  unfold arith_Eval.visit spinneyref09_Meter_Meet.f spinneyref09_Meter_spend.f spinneyref09_Meter_Walk.f
  simp only [Option.bind_some, e]
  by_cases h : s + 1 ≤ 2000
  · obtain ⟨d, hd⟩ : ∃ d : Nat, s + 1 = 2000 - (d : Int) := ⟨(2000 - (s + 1)).toNat, by omega⟩
    obtain ⟨r, h2, h3, h4, h5, h6⟩ := walk_eq l hl hok d t (s + 1) k1 k2 hd (by omega) (by omega) (by omega) ht
    rw [h2, if_pos (by simp; omega), h6]
    simp only [Option.bind_some]
    by_cases hr : r.2 > 2000
    · rw [if_pos hr, if_pos hr]
      exact ⟨(z25, 140, r.2), rfl, rfl, fun h => by simp at h⟩
    · rw [if_neg hr, if_neg hr]
      exact ⟨(r.1, 0, r.2), rfl, rfl, fun _ => ⟨h3, h4, by simp; omega⟩⟩
  · rw [if_neg (by simp; omega)]
    obtain ⟨k1, rfl⟩ : ∃ j, k1 = j + 1 := ⟨k1 - 1, by omega⟩
    have hv : arith_Eval.vl (k1 + 1) l t (s + 1) = some (t, s + 1) := by unfold arith_Eval.vl; rw [if_neg (by omega)]
    rw [hv]
    simp only [Option.bind_some]
    rw [if_pos (by omega)]
    exact ⟨(z25, 140, s + 1), rfl, rfl, fun h => by simp at h⟩

end Go.Proofs.Ytmiapolhklapnaa.Pure
set_option linter.unusedVariables false
set_option linter.unusedSimpArgs false
namespace Go.Proofs.Ytmiapolhklapnaa.Pure
open Go Go.Own Go.RowKit Go.Proofs.Ytmiapolhklapnaa.P Go.Proofs.YtmiapolhklapnaaW.PrintWords Go.Proofs.YtmiapolhklapnaaW.PrintLast

theorem over_fit (n : Int) : num_over.f (wrap64 n) (decide (¬ In64 n)) = some (fit n) := by
  unfold num_over.f fit
  by_cases h : In64 n
  · simp [h, wrap64_id h]
  · simp [h]
theorem add_fit {a b : Int} (ha : In64 a) (hb : In64 b) : num_Add.f a b = some (fit (a + b)) := by
  unfold num_Add.f
  rw [add_flag ha hb, over_fit]
  rfl
theorem sub_fit {a b : Int} (ha : In64 a) (hb : In64 b) : num_Sub.f a b = some (fit (a - b)) := by
  unfold num_Sub.f
  rw [sub_flag ha hb, over_fit]
  rfl
theorem size_abs {a : Int} (ha : In64 a) : num_size.f a = some (a.natAbs : Int) := by
  unfold num_size.f
  unfold In64 at ha
  split
  · congr 1
    rw [IntKind.wrap_u64, IntKind.wrap_u64]
    omega
  · congr 1
    rw [IntKind.wrap_u64]
    omega
theorem mul64_eq {a b : Int} (ha : 0 ≤ a) (ha1 : a < 18446744073709551616) (hb : 0 ≤ b) (hb1 : b < 18446744073709551616) :
    bits_Mul64.f a b = some (a * b / 18446744073709551616, a * b % 18446744073709551616) := by
  unfold bits_Mul64.f
  rw [mul64_parts ha ha1 hb hb1, IntKind.wrap_u64]
theorem abs_mul_cases (a b : Int) : (a * b < 0 → (decide (a < 0) != decide (b < 0)) = true) ∧ ((decide (a < 0) != decide (b < 0)) = true → a * b ≤ 0) ∧ ((a.natAbs : Int) * (b.natAbs : Int) = a * b ∨ (a.natAbs : Int) * (b.natAbs : Int) = -(a * b)) := by
  refine ⟨?_, ?_, ?_⟩
  · intro h
    by_cases h1 : a < 0 <;> by_cases h2 : b < 0 <;> simp [h1, h2]
    · have := Int.mul_nonneg_of_nonpos_of_nonpos (Int.le_of_lt h1) (Int.le_of_lt h2); omega
    · have := Int.mul_nonneg (Int.not_lt.mp h1) (Int.not_lt.mp h2); omega
  · intro h
    by_cases h1 : a < 0 <;> by_cases h2 : b < 0 <;> simp [h1, h2] at h
    · exact Int.mul_nonpos_of_nonpos_of_nonneg (Int.le_of_lt h1) (Int.not_lt.mp h2)
    · exact Int.mul_nonpos_of_nonneg_of_nonpos (Int.not_lt.mp h1) (Int.le_of_lt h2)
  · rw [← Int.natCast_mul, ← Int.natAbs_mul]
    omega
theorem mul_fit {a b : Int} (ha : In64 a) (hb : In64 b) : num_Mul.f a b = some (fit (a * b)) := by
  unfold num_Mul.f
  obtain ⟨c1, c2, c3⟩ := abs_mul_cases a b
  have ha1 := ha
  have hb1 := hb
  unfold In64 at ha1 hb1
  rw [size_abs ha, size_abs hb]
  simp only [Option.bind_some]
  rw [mul64_eq (by omega) (by omega) (by omega) (by omega)]
  simp only [Option.bind_some]
  have hP0 : 0 ≤ (a.natAbs : Int) * (b.natAbs : Int) := by rw [← Int.natCast_mul]; omega
  generalize (a.natAbs : Int) * (b.natAbs : Int) = P at *
  have key : ∀ f : Bool, f = decide (¬ In64 (a * b)) → (num_over.f (wrap64 (a * b)) f).bind (fun bt => some (bt.1, bt.2)) = some (fit (a * b)) := by
    intro f hf
    subst hf
    rw [over_fit]
    rfl
  split
  · rename_i hs
    have := c2 hs
    split
    · apply key
      symm
      apply decide_eq_true
      unfold In64
      omega
    · apply key
      rw [decide_eq_decide]
      unfold In64
      omega
  · rename_i hs
    have : ¬ a * b < 0 := fun h => hs (c1 h)
    split
    · apply key
      symm
      apply decide_eq_true
      unfold In64
      omega
    · apply key
      rw [decide_eq_decide]
      unfold In64
      omega
theorem neg_fit {a : Int} (ha : In64 a) : num_Neg.f a = some (fit (-a)) := by
  unfold num_Neg.f
  have : (a == (-9223372036854775808)) = decide (¬ In64 (-a)) := by
    rw [Bool.eq_iff_iff]
    simp
    unfold In64 at *
    omega
  rw [this, over_fit]
  rfl

end Go.Proofs.Ytmiapolhklapnaa.Pure
set_option linter.unusedVariables false
set_option linter.unusedSimpArgs false
namespace Go.Proofs.Ytmiapolhklapnaa.Pure
open Go Go.Own Go.RowKit Go.Proofs.Ytmiapolhklapnaa.P Go.Proofs.YtmiapolhklapnaaW.PrintWords Go.Proofs.YtmiapolhklapnaaW.PrintLast

theorem refsub_fit {a b : Int} (ha : In64 a) (hb : In64 b) : spinneyref01_Sub.f a b = some (fit (a - b)) := by
  unfold spinneyref01_Sub.f
  have h : wrap64 (a - b) = a - b ∨ ¬ In64 (a - b) := by
    by_cases h : In64 (a - b)
    · exact .inl (wrap64_id h)
    · exact .inr h
  have w1 : b < 0 → wrap64 (9223372036854775807 + b) = 9223372036854775807 + b := fun h => wrap64_id (by unfold In64 at *; omega)
  have w2 : b > 0 → wrap64 ((-9223372036854775808) + b) = (-9223372036854775808) + b := fun h => wrap64_id (by unfold In64 at *; omega)
  by_cases hi : In64 (a - b)
  · rw [fit_in hi, wrap64_id hi]
    unfold In64 at *
    repeat' split
    all_goals first | rfl | (exfalso; first | (have := w1 (by assumption); omega) | (have := w2 (by assumption); omega))
  · rw [fit_out hi]
    unfold In64 at *
    repeat' split
    all_goals first | rfl | (exfalso; first | omega | (have := w1 (by assumption); omega) | (have := w2 (by assumption); omega))
theorem refneg_fit {a : Int} (ha : In64 a) : spinneyref01_Neg.f a = some (fit (-a)) := by
  unfold spinneyref01_Neg.f
  rw [refsub_fit (by unfold In64; omega) ha]
  simp
theorem abs_fit {a : Int} (ha : In64 a) : num_Abs.f a = some (if a < 0 then fit (-a) else (a, 0)) := by
  unfold num_Abs.f
  rw [neg_fit ha]
  split <;> rfl
theorem refabs_fit {a : Int} (ha : In64 a) : spinneyref01_Abs.f a = some (if a < 0 then fit (-a) else (a, 0)) := by
  unfold spinneyref01_Abs.f
  rw [refneg_fit ha]
  by_cases h : a < 0
  · rw [if_neg (by omega), if_pos h]; rfl
  · rw [if_pos (by omega), if_neg h]
theorem refcmp_eq (a b : Int) : spinneyref01_Cmp.f a b = some (if a < b then -1 else if a > b then 1 else 0) := by
  unfold spinneyref01_Cmp.f
  split
  · rfl
  · split <;> rfl
theorem refsign_eq (a : Int) : spinneyref01_Sign.f a = some (if a < 0 then -1 else if a > 0 then 1 else 0) := by
  unfold spinneyref01_Sign.f
  rw [refcmp_eq]
  rfl

end Go.Proofs.Ytmiapolhklapnaa.Pure
set_option linter.unusedVariables false
set_option linter.unusedSimpArgs false
namespace Go.Proofs.Ytmiapolhklapnaa.Pure
open Go Go.Own Go.RowKit Go.Proofs.Ytmiapolhklapnaa.P Go.Proofs.YtmiapolhklapnaaW.PrintWords Go.Proofs.YtmiapolhklapnaaW.PrintLast

theorem refadd_fit {a b : Int} (ha : In64 a) (hb : In64 b) : spinneyref01_Add.f a b = some (fit (a + b)) := by
  unfold spinneyref01_Add.f
  have w1 : b > 0 → wrap64 (9223372036854775807 - b) = 9223372036854775807 - b := fun h => wrap64_id (by unfold In64 at *; omega)
  have w2 : b < 0 → wrap64 ((-9223372036854775808) - b) = (-9223372036854775808) - b := fun h => wrap64_id (by unfold In64 at *; omega)
  by_cases hi : In64 (a + b)
  · rw [fit_in hi, wrap64_id hi]
    unfold In64 at *
    repeat' split
    all_goals first | rfl | (exfalso; first | (have := w1 (by assumption); omega) | (have := w2 (by assumption); omega))
  · rw [fit_out hi]
    unfold In64 at *
    repeat' split
    all_goals first | rfl | (exfalso; first | omega | (have := w1 (by assumption); omega) | (have := w2 (by assumption); omega))
theorem tdiv_wrap {a b : Int} (ha : In64 a) (hb : In64 b) (h0 : b ≠ 0) (h1 : ¬ (a = -9223372036854775808 ∧ b = -1)) :
    wrap64 ((wrap64 (a * b)).tdiv b) = a ↔ In64 (a * b) := by
  constructor
  · intro h
    by_cases hb1 : b = -1
    · subst hb1
      unfold In64 at *
      omega
    · have hin := wrap64_in (a * b)
      have habs : ((wrap64 (a * b)).tdiv b).natAbs = (wrap64 (a * b)).natAbs / b.natAbs := Int.natAbs_tdiv ..
      have hq : In64 ((wrap64 (a * b)).tdiv b) := by
        have hbn : b.natAbs = 1 ∨ 2 ≤ b.natAbs := by omega
        rcases hbn with hbn | hbn
        · have : b = 1 := by omega
          subst this
          rw [Int.tdiv_one]; exact hin
        · have : (wrap64 (a * b)).natAbs / b.natAbs ≤ (wrap64 (a * b)).natAbs / 2 := Nat.div_le_div_left hbn (by omega)
          unfold In64 at *
          omega
      rw [wrap64_id hq] at h
      have hd := Int.tmod_add_mul_tdiv (wrap64 (a * b)) b
      rw [h] at hd
      have hm : ((wrap64 (a * b)).tmod b).natAbs = (wrap64 (a * b)).natAbs % b.natAbs := Int.natAbs_tmod ..
      have hlt := Nat.mod_lt (wrap64 (a * b)).natAbs (show b.natAbs > 0 by omega)
      rw [Int.mul_comm b a] at hd
      have hk : ∃ k : Int, wrap64 (a * b) = a * b + k * 18446744073709551616 := ⟨-((a * b + 9223372036854775808) / 18446744073709551616), by unfold wrap64; omega⟩
      obtain ⟨k, hk⟩ := hk
      have : k = 0 := by unfold In64 at hb; omega
      subst this
      rw [hk] at hin
      simpa using hin
  · intro h
    rw [wrap64_id h, Int.mul_tdiv_cancel _ h0, wrap64_id ha]
theorem refmul_fit {a b : Int} (ha : In64 a) (hb : In64 b) (k : Nat) : spinneyref01_Mul.f (k + 2) a b = some (fit (a * b)) := by
  unfold spinneyref01_Mul.f
  by_cases h0 : a = 0
  · rw [if_pos h0]
    subst h0
    simp [spinneyref01_Mul.j0, fit_in (show In64 0 by unfold In64; omega)]
  · rw [if_neg h0]
    by_cases h1 : b = 0
    · subst h1
      simp [spinneyref01_Mul.j0, fit_in (show In64 0 by unfold In64; omega)]
    · have e : (b == 0) = false := by simpa using h1
      rw [e]
      have j1f : ¬ (a = -9223372036854775808 ∧ b = -1) → spinneyref01_Mul.j1 (k + 1) a b false = some (fit (a * b)) := by
        intro hs
        simp only [spinneyref01_Mul.j1]
        rw [if_neg (by simp), if_neg h1]
        have := tdiv_wrap ha hb h1 hs
        by_cases hi : In64 (a * b)
        · rw [if_pos (this.mpr hi), fit_in hi, wrap64_id hi]
        · rw [if_neg (fun h => hi (this.mp h)), fit_out hi]
      have j1t : ¬ In64 (a * b) → spinneyref01_Mul.j1 (k + 1) a b true = some (fit (a * b)) := by
        intro hs
        simp [spinneyref01_Mul.j1, fit_out hs]
      simp only [spinneyref01_Mul.j0]
      rw [if_neg (by simp)]
      by_cases h2 : a = -1
      · rw [if_pos h2]
        subst h2
        by_cases h3 : b = -9223372036854775808
        · rw [if_pos h3]
          exact j1t (by subst h3; unfold In64; omega)
        · rw [if_neg h3]
          have e2 : ((-1 : Int) == -9223372036854775808) = false := by decide
          rw [e2]
          split <;> exact j1f (by omega)
      · rw [if_neg h2]
        by_cases h3 : b = -1
        · rw [if_pos h3]
          subst h3
          by_cases h4 : a = -9223372036854775808
          · have : (a == -9223372036854775808) = true := by simpa using h4
            rw [this]
            exact j1t (by subst h4; unfold In64; omega)
          · have : (a == -9223372036854775808) = false := by simpa using h4
            rw [this]
            exact j1f (by omega)
        · rw [if_neg h3]
          exact j1f (by omega)

end Go.Proofs.Ytmiapolhklapnaa.Pure
set_option linter.unusedVariables false
set_option linter.unusedSimpArgs false
namespace Go.Proofs.Ytmiapolhklapnaa.Pure
open Go Go.Own Go.RowKit Go.Proofs.Ytmiapolhklapnaa.P Go.Proofs.YtmiapolhklapnaaW.PrintWords Go.Proofs.YtmiapolhklapnaaW.PrintLast

theorem quo_eq {a b : Int} (ha : In64 a) (hb : In64 b) : num_Quo.f a b = spinneyref01_Quo.f a b := by
  unfold num_Quo.f spinneyref01_Quo.f
  split
  · rfl
  · split
    · rename_i h
      subst h
      rw [neg_fit ha]
      by_cases h : a = -9223372036854775808
      · subst h; rw [fit_out (by unfold In64; omega)]; simp
      · have hn : In64 (-a) := by unfold In64 at *; omega
        have : wrap64 (a.tdiv (-1)) = -a := by rw [Int.tdiv_neg, Int.tdiv_one]; exact wrap64_id hn
        rw [if_neg h, this, fit_in hn]
        rfl
    · simp_all
theorem rem_eq (a b : Int) : num_Rem.f a b = spinneyref01_Rem.f a b := rfl
theorem mod_eq {a b : Int} (ha : In64 a) (hb : In64 b) : num_Mod.f a b = spinneyref01_Mod.f a b := by
  unfold num_Mod.f spinneyref01_Mod.f
  rw [rem_eq]
  unfold spinneyref01_Rem.f
  by_cases h0 : b = 0
  · subst h0; simp
  · by_cases h1 : b = -1
    · subst h1; simp
    · simp only [h0, h1, if_false, Option.bind_some]
      have hr : In64 (a.tmod b) := by
        have h2 : (a.tmod b).natAbs = a.natAbs % b.natAbs := Int.natAbs_tmod ..
        have h3 := Nat.mod_lt a.natAbs (show b.natAbs > 0 by omega)
        unfold In64 at *
        omega
      have hx := xor_neg hr hb
      by_cases hs : (decide (a.tmod b < 0) != decide (b < 0)) = true
      · have : bits .xor .i64 (a.tmod b) b < 0 := hx.mpr (by simpa using hs)
        simp only [this, hs, if_true]
      · have : ¬ bits .xor .i64 (a.tmod b) b < 0 := fun h => hs (by simpa using hx.mp h)
        simp only [this, hs, if_false]
        simp

end Go.Proofs.Ytmiapolhklapnaa.Pure
set_option linter.unusedVariables false
set_option linter.unusedSimpArgs false
namespace Go.Proofs.Ytmiapolhklapnaa.Pure
open Go Go.Own Go.RowKit Go.Proofs.Ytmiapolhklapnaa.P Go.Proofs.YtmiapolhklapnaaW.PrintWords Go.Proofs.YtmiapolhklapnaaW.PrintLast

theorem fit_range {n : Int} : (fit n).2 = 0 → In64 (fit n).1 := by
  unfold fit
  split
  · intro _; assumption
  · intro h; simp at h
theorem wrap_range (n : Int) : In64 (wrap64 n) := by unfold wrap64 In64; omega
theorem tmod_range {a b : Int} (ha : In64 a) (hb : In64 b) (h : b ≠ 0) : In64 (a.tmod b) := by
  unfold In64 at *
  have h1 : (a.tmod b).natAbs ≤ a.natAbs := by rw [Int.natAbs_tmod]; exact Nat.mod_le _ _
  by_cases h2 : 0 ≤ a
  · omega
  · have h3 := Int.tmod_nonneg b (show 0 ≤ -a by omega)
    rw [Int.neg_tmod] at h3
    omega
theorem refquo_total {a b : Int} (ha : In64 a) (hb : In64 b) : ∃ n e, spinneyref01_Quo.f a b = some (n, e) ∧ (e = 0 → In64 n) := by
  unfold spinneyref01_Quo.f
  by_cases h0 : b = 0
  · rw [if_pos h0]; exact ⟨_, _, rfl, fun h => by simp at h⟩
  · rw [if_neg h0]
    by_cases h1 : a = -9223372036854775808
    · rw [if_pos h1]
      by_cases h2 : b = -1
      · rw [if_pos h2]; exact ⟨_, _, rfl, fun h => by simp at h⟩
      · rw [if_neg h2]; exact ⟨_, _, rfl, fun _ => wrap_range _⟩
    · rw [if_neg h1]; exact ⟨_, _, rfl, fun _ => wrap_range _⟩
theorem refrem_total {a b : Int} (ha : In64 a) (hb : In64 b) : ∃ n e, spinneyref01_Rem.f a b = some (n, e) ∧ (e = 0 → In64 n) := by
  unfold spinneyref01_Rem.f
  by_cases h0 : b = 0
  · rw [if_pos h0]; exact ⟨_, _, rfl, fun h => by simp at h⟩
  · rw [if_neg h0]
    by_cases h2 : b = -1
    · rw [if_pos h2]; exact ⟨_, _, rfl, fun _ => by unfold In64; omega⟩
    · rw [if_neg h2]; exact ⟨_, _, rfl, fun _ => tmod_range ha hb h0⟩
theorem refmod_total {a b : Int} (ha : In64 a) (hb : In64 b) : ∃ n e, spinneyref01_Mod.f a b = some (n, e) ∧ (e = 0 → In64 n) := by
  obtain ⟨n, e, h, hr⟩ := refrem_total ha hb
  unfold spinneyref01_Mod.f
  rw [h]
  simp only [Option.bind_some]
  by_cases he : e = 0
  · rw [if_pos he]
    by_cases hn : n = 0
    · rw [if_pos hn]; exact ⟨_, _, rfl, hr⟩
    · rw [if_neg hn]
      split
      · exact ⟨_, _, rfl, fun _ => wrap_range _⟩
      · exact ⟨_, _, rfl, hr⟩
  · rw [if_neg he]; exact ⟨_, _, rfl, hr⟩
theorem two_eq (a : ByteArray) {x y : Int} (hx : In64 x) (hy : In64 y) (h : (arith_Eval.two a).isSome = true) (k : Nat) (hk : 2 ≤ k) :
    ∃ n e, arith_Eval.ap2 a x y = some (n, e) ∧ spinneyref11_two.f k a x y = some (n, e) ∧ (e = 0 → In64 n) := by
  obtain ⟨k, rfl⟩ : ∃ j, k = j + 2 := ⟨k - 2, by omega⟩
  unfold arith_Eval.two at h
  unfold arith_Eval.ap2 spinneyref11_two.f
  by_cases c1 : a.toList = ([43] : List UInt8)
  · rw [if_pos c1, if_pos c1, add_fit hx hy, refadd_fit hx hy]
    exact ⟨_, _, rfl, rfl, fit_range⟩
  rw [if_neg c1] at h
  rw [if_neg c1, if_neg c1]
  by_cases c2 : a.toList = ([45] : List UInt8)
  · rw [if_pos c2, if_pos c2, sub_fit hx hy, refsub_fit hx hy]
    exact ⟨_, _, rfl, rfl, fit_range⟩
  rw [if_neg c2] at h
  rw [if_neg c2, if_neg c2]
  by_cases c3 : a.toList = ([42] : List UInt8)
  · rw [if_pos c3, if_pos c3, mul_fit hx hy, refmul_fit hx hy]
    exact ⟨_, _, rfl, rfl, fit_range⟩
  rw [if_neg c3] at h
  rw [if_neg c3, if_neg c3]
  by_cases c4 : a.toList = ([47, 47] : List UInt8)
  · obtain ⟨n, e, hq, hr⟩ := refquo_total hx hy
    rw [if_pos c4, if_pos c4, quo_eq hx hy, hq]
    exact ⟨_, _, rfl, rfl, hr⟩
  rw [if_neg c4] at h
  rw [if_neg c4, if_neg c4]
  by_cases c5 : a.toList = ([114, 101, 109] : List UInt8)
  · obtain ⟨n, e, hq, hr⟩ := refrem_total hx hy
    rw [if_pos c5, if_pos c5, rem_eq, hq]
    exact ⟨_, _, rfl, rfl, hr⟩
  rw [if_neg c5] at h
  rw [if_neg c5, if_neg c5]
  by_cases c6 : a.toList = ([109, 111, 100] : List UInt8)
  · obtain ⟨n, e, hq, hr⟩ := refmod_total hx hy
    rw [if_pos c6, mod_eq hx hy, hq]
    exact ⟨_, _, rfl, rfl, hr⟩
  rw [if_neg c6] at h
  cases h
theorem one_eq (a : ByteArray) {x : Int} (hx : In64 x) (h : (arith_Eval.one a).isSome = true) :
    ∃ n e, arith_Eval.ap1 a x = some (n, e) ∧ spinneyref11_one.f a x = some (n, e) ∧ (e = 0 → In64 n) := by
  unfold arith_Eval.one at h
  unfold arith_Eval.ap1 spinneyref11_one.f
  by_cases c1 : a.toList = ([45] : List UInt8)
  · rw [if_pos c1, if_pos c1, neg_fit hx, refneg_fit hx]
    exact ⟨_, _, rfl, rfl, fit_range⟩
  rw [if_neg c1] at h
  rw [if_neg c1, if_neg c1]
  by_cases c2 : a.toList = ([97, 98, 115] : List UInt8)
  · rw [if_pos c2, if_pos c2, abs_fit hx, refabs_fit hx]
    by_cases hx0 : x < 0
    · rw [if_pos hx0]; exact ⟨_, _, rfl, rfl, fit_range⟩
    · rw [if_neg hx0]; exact ⟨_, _, rfl, rfl, fun _ => hx⟩
  rw [if_neg c2] at h
  rw [if_neg c2, if_neg c2]
  by_cases c3 : a.toList = ([115, 105, 103, 110] : List UInt8)
  · rw [if_pos c3, refsign_eq]
    refine ⟨arith_Eval.sg x, 0, rfl, ?_, ?_⟩
    · simp only [Option.bind_some]
      congr 1
    · intro _
      unfold arith_Eval.sg In64
      split
      · omega
      · split <;> omega
  rw [if_neg c3] at h
  cases h

end Go.Proofs.Ytmiapolhklapnaa.Pure
set_option linter.unusedVariables false
set_option linter.unusedSimpArgs false
namespace Go.Proofs.Ytmiapolhklapnaa.Pure
open Go Go.Own Go.RowKit Go.Proofs.Ytmiapolhklapnaa.P Go.Proofs.YtmiapolhklapnaaW.PrintWords Go.Proofs.YtmiapolhklapnaaW.PrintLast

theorem j0_eq (k : Nat) (l : List S45) (d s f0 f2 : Int) (f1 : ByteArray) (a : S25) (h1 : (arith_Eval.one f1).isSome = true) {n e s' : Int} (he : spinneyref11_eval.f k s l a.f0 a.f1 a.f2 a.f3 (wrap64 (d + 1)) = some (n, e, s')) (hr : e = 0 → In64 n) :
    ∃ n' e', spinneyref11_eval.j0 (k + 1) l d false s f0 f1 f2 [a] = some (n', e', s') ∧ (e ≠ 0 → n' = 0 ∧ e' = e) ∧ (e = 0 → ∃ x y, arith_Eval.ap1 f1 n = some (x, y) ∧ (y = 0 → In64 x) ∧ (n', e') = (if y = 0 then (x, 0) else (0, 112))) := by
  unfold spinneyref11_eval.j0
  rw [if_neg (by simp), if_pos (by simp)]
  have er : rd_T25 [a] 0 = a := rfl
  rw [er, he]
  simp only [Option.bind_some]
  by_cases h0 : e = 0
  · rw [if_pos h0]
    obtain ⟨x, y, h2, h3, h4⟩ := one_eq f1 (hr h0) h1
    rw [h3]
    simp only [Option.bind_some]
    unfold spinneyref11_told.f
    by_cases hy : y = 0
    · rw [if_pos hy]
      exact ⟨x, 0, rfl, fun h => absurd h0 h, fun _ => ⟨x, y, h2, h4, by rw [if_pos hy]⟩⟩
    · rw [if_neg hy]
      exact ⟨0, 112, rfl, fun h => absurd h0 h, fun _ => ⟨x, y, h2, h4, by rw [if_neg hy]⟩⟩
  · rw [if_neg h0]
    exact ⟨0, e, rfl, fun _ => ⟨rfl, rfl⟩, fun h => absurd h h0⟩
theorem eval_eq (l : List S45) (hl : l.length ≤ 9223372036854775807) (hok : ∀ y ∈ l, Ok45 y) : ∀ (m : Nat) (t : S25) (d s : Int) (k1 k2 : Nat), d = 60 - (m : Int) → m ≤ 60 → 0 ≤ s → s ≤ 2000 → Ok25 t → 2003 + m ≤ k1 → l.length + 2010 + 2 * m ≤ k2 →
    ∃ n e d' s', arith_Eval.val l k1 t d s = some (n, e, d', s') ∧ spinneyref11_eval.f k2 s l t.f0 t.f1 t.f2 t.f3 d = some (n, e, s') ∧ (e = 0 → d' = d ∧ 0 ≤ s' ∧ s' ≤ 2000 ∧ In64 n) := by
  intro m
  induction m with
  | zero =>
    intro t d s k1 k2 hd hm h0 h1 ht hk1 hk2
    obtain ⟨k1, rfl⟩ : ∃ j, k1 = j + 1 := ⟨k1 - 1, by omega⟩
    obtain ⟨k2, rfl⟩ : ∃ j, k2 = j + 1 := ⟨k2 - 1, by omega⟩
    refine ⟨0, 3, d, s, ?_, ?_, fun h => by simp at h⟩
    · simp only [arith_Eval.val]
      rw [if_pos (by omega)]
    · unfold spinneyref11_eval.f
      rw [if_pos (by omega)]
  | succ m ih =>
    intro t d s k1 k2 hd hm h0 h1 ht hk1 hk2
    obtain ⟨k1, rfl⟩ : ∃ j, k1 = j + 1 := ⟨k1 - 1, by omega⟩
    obtain ⟨k2, rfl⟩ : ∃ j, k2 = j + 1 + 1 := ⟨k2 - 2, by omega⟩
    obtain ⟨⟨q, e, s1⟩, hv, hm2, hq⟩ := meet_eq l hl hok t ht s h0 h1 k1 (k2 + 1) (by omega) (by omega)
    dsimp only at hm2 hq
    simp only [arith_Eval.val]
    unfold spinneyref11_eval.f
    rw [if_neg (show ¬ d = 60 by omega), if_neg (show ¬ d ≥ 60 by omega), hv, hm2]
    simp only [Option.bind_some]
    by_cases he : e = 0
    case neg =>
      rw [if_neg he, if_neg he]
      exact ⟨0, e, d, s1, rfl, rfl, fun h => absurd h he⟩
    rw [if_pos he, if_pos he]
    obtain ⟨hqo, hs0, hs1⟩ := hq he
    by_cases f1 : q.f0 = 1
    · rw [if_pos f1, if_pos f1]
      exact ⟨0, 110, d, s1, rfl, rfl, fun h => by simp at h⟩
    rw [if_neg f1, if_neg f1]
    by_cases f3 : q.f0 = 3
    · rw [if_pos f3, if_pos f3]
      refine ⟨q.f2, 0, d, s1, rfl, rfl, fun _ => ⟨rfl, hs0, hs1, ?_⟩⟩
      cases hqo with
      | mk _ _ _ h2 _ _ => exact in64_of_wf h2
    rw [if_neg f3, if_neg f3]
    by_cases f4 : q.f0 = 4
    case neg =>
      rw [if_neg f4, if_neg f4]
      exact ⟨0, 111, d, s1, rfl, rfl, fun h => by simp at h⟩
    rw [if_pos f4, if_pos f4]
    have ew : wrap64 (d + 1) = d + 1 := by unfold wrap64; omega
    have ew2 : wrap64 (d + 1 - 1) = d := by unfold wrap64; omega
    have hall : ∀ y ∈ q.f3, Ok25 y := by
      cases hqo with
      | mk _ _ _ _ _ h => exact h
    by_cases n2 : q.f3.length = 2
    · rw [if_pos n2, if_neg (show ¬ ((q.f3.length : Int) = 1) by omega), if_pos (show ((q.f3.length : Int) = 2) by omega)]
      obtain ⟨a, b, hab⟩ : ∃ a b, q.f3 = [a, b] := by
        match h : q.f3, n2 with
        | [a, b], _ => exact ⟨a, b, rfl⟩
      rw [hab] at hall ⊢
      obtain ⟨na, ea, da, sa, hva, hra, hga⟩ := ih a (d + 1) s1 k1 k2 (by omega) (by omega) hs0 hs1 (hall a (by simp)) (by omega) (by omega)
      -- the reference, where the name is an operator's
      have href : (arith_Eval.two q.f1).isSome = true → ∃ n' e' s', spinneyref11_eval.j1 (k2 + 1) l d s1 q.f0 q.f1 q.f2 [a, b] = some (n', e', s') ∧
          ∃ d', ((arith_Eval.argsf (arith_Eval.val l k1) [a, b] d s1).bind fun a => if a.2.2.1 = 0 then (arith_Eval.ap2 q.f1 a.1 a.2.1).bind fun n => (if n.2 = 0 then some (n.1, 0, a.2.2.2.1, a.2.2.2.2) else some (0, 112, a.2.2.2.1, a.2.2.2.2)) else some (0, a.2.2.1, a.2.2.2.1, a.2.2.2.2)) = some (n', e', d', s') ∧ (e' = 0 → d' = d ∧ 0 ≤ s' ∧ s' ≤ 2000 ∧ In64 n') := by
        intro htwo
        unfold spinneyref11_eval.j1 arith_Eval.argsf
        simp only [arith_Eval.al]
        rw [if_pos (by simp)]
        have er : rd_T25 [a, b] 0 = a := rfl
        have er1 : rd_T25 [a, b] 1 = b := rfl
        rw [er, er1, ew, hra, hva]
        simp only [Option.bind_some]
        by_cases hea : ea = 0
        case neg =>
          rw [if_neg hea, if_neg hea]
          refine ⟨0, ea, sa, rfl, da, ?_, fun h => absurd h hea⟩
          simp [hea]
        rw [if_pos hea, if_pos hea, if_pos (by simp)]
        obtain ⟨hda, hsa0, hsa1, hna⟩ := hga hea
        subst hda
        obtain ⟨nb, eb, db, sb, hvb, hrb, hgb⟩ := ih b (d + 1) sa k1 k2 (by omega) (by omega) hsa0 hsa1 (hall b (by simp)) (by omega) (by omega)
        rw [hrb, hvb]
        simp only [Option.bind_some]
        by_cases heb : eb = 0
        case neg =>
          rw [if_neg heb, if_neg heb]
          refine ⟨0, eb, sb, rfl, db, ?_, fun h => absurd h heb⟩
          simp [heb]
        rw [if_pos heb, if_pos heb]
        obtain ⟨hdb, hsb0, hsb1, hnb⟩ := hgb heb
        subst hdb
        obtain ⟨x, y, h2, h3, h4⟩ := two_eq q.f1 hna hnb htwo k2 (by omega)
        simp only [Option.bind_some, if_true, ew2]
        rw [h3]
        simp only [Option.bind_some]
        unfold spinneyref11_told.f
        by_cases hy : y = 0
        · refine ⟨x, 0, sb, by rw [if_pos hy]; rfl, d, ?_, fun _ => ⟨rfl, hsb0, hsb1, h4 hy⟩⟩
          simp [h2, hy]
        · refine ⟨0, 112, sb, by rw [if_neg hy]; rfl, d, ?_, fun h => by simp at h⟩
          simp [h2, hy]
      by_cases ht2 : (arith_Eval.two q.f1).isSome = true
      · obtain ⟨n', e', s', hj, d', hm', hg'⟩ := href ht2
        refine ⟨n', e', d', s', ?_, ?_, hg'⟩
        · rw [if_pos ht2]; exact hm'
        · rw [hj]
          unfold arith_Eval.two at ht2
          by_cases c1 : q.f1.toList = ([43] : List UInt8)
          · rw [if_pos c1]
          by_cases c2 : q.f1.toList = ([45] : List UInt8)
          · rw [if_neg c1, if_pos c2]
          by_cases c3 : q.f1.toList = ([42] : List UInt8)
          · rw [if_neg c1, if_neg c2, if_pos c3]
          by_cases c4 : q.f1.toList = ([47, 47] : List UInt8)
          · rw [if_neg c1, if_neg c2, if_neg c3, if_pos c4]
          by_cases c5 : q.f1.toList = ([114, 101, 109] : List UInt8)
          · rw [if_neg c1, if_neg c2, if_neg c3, if_neg c4, if_pos c5]
          by_cases c6 : q.f1.toList = ([109, 111, 100] : List UInt8)
          · rw [if_neg c1, if_neg c2, if_neg c3, if_neg c4, if_neg c5, if_pos c6]
          · rw [if_neg c1, if_neg c2, if_neg c3, if_neg c4, if_neg c5, if_neg c6] at ht2
            cases ht2
      · refine ⟨0, 111, d, s1, ?_, ?_, fun h => by simp at h⟩
        · rw [if_neg ht2]
        · unfold arith_Eval.two at ht2
          by_cases c1 : q.f1.toList = ([43] : List UInt8)
          · rw [if_pos c1] at ht2; simp at ht2
          rw [if_neg c1] at ht2
          by_cases c2 : q.f1.toList = ([45] : List UInt8)
          · rw [if_pos c2] at ht2; simp at ht2
          rw [if_neg c2] at ht2
          by_cases c3 : q.f1.toList = ([42] : List UInt8)
          · rw [if_pos c3] at ht2; simp at ht2
          rw [if_neg c3] at ht2
          by_cases c4 : q.f1.toList = ([47, 47] : List UInt8)
          · rw [if_pos c4] at ht2; simp at ht2
          rw [if_neg c4] at ht2
          by_cases c5 : q.f1.toList = ([114, 101, 109] : List UInt8)
          · rw [if_pos c5] at ht2; simp at ht2
          rw [if_neg c5] at ht2
          by_cases c6 : q.f1.toList = ([109, 111, 100] : List UInt8)
          · rw [if_pos c6] at ht2; simp at ht2
          rw [if_neg c1, if_neg c2, if_neg c3, if_neg c4, if_neg c5, if_neg c6]
    rw [if_neg n2]
    by_cases n1 : q.f3.length = 1
    case neg =>
      rw [if_neg n1, if_neg (show ¬ ((q.f3.length : Int) = 1) by omega), if_neg (show ¬ ((q.f3.length : Int) = 2) by omega)]
      exact ⟨0, 111, d, s1, rfl, rfl, fun h => by simp at h⟩
    rw [if_pos n1, if_pos (show ((q.f3.length : Int) = 1) by omega)]
    obtain ⟨a, hab⟩ := List.length_eq_one_iff.1 n1
    rw [hab] at hall ⊢
    obtain ⟨na, ea, da, sa, hva, hra, hga⟩ := ih a (d + 1) s1 k1 k2 (by omega) (by omega) hs0 hs1 (hall a (by simp)) (by omega) (by omega)
    by_cases ht1 : (arith_Eval.one q.f1).isSome = true
    · rw [if_pos ht1]
      obtain ⟨n', e', hj, hj1, hj2⟩ := j0_eq k2 l d s1 q.f0 q.f2 q.f1 a ht1 (by rw [ew]; exact hra) (fun h => (hga h).2.2.2)
      have hbr : spinneyref11_eval.j0 (k2 + 1) l d false s1 q.f0 q.f1 q.f2 [a] = some (n', e', sa) := hj
      have hval : ∃ d', ((arith_Eval.argsf (arith_Eval.val l k1) [a] d s1).bind fun a => if a.2.2.1 = 0 then (arith_Eval.ap1 q.f1 a.1).bind fun n => (if n.2 = 0 then some (n.1, 0, a.2.2.2.1, a.2.2.2.2) else some (0, 112, a.2.2.2.1, a.2.2.2.2)) else some (0, a.2.2.1, a.2.2.2.1, a.2.2.2.2)) = some (n', e', d', sa) ∧ (e' = 0 → d' = d ∧ 0 ≤ sa ∧ sa ≤ 2000 ∧ In64 n') := by
        unfold arith_Eval.argsf
        simp only [arith_Eval.al]
        rw [ew, hva]
        simp only [Option.bind_some]
        by_cases hea : ea = 0
        · obtain ⟨hda, hsa0, hsa1, hna⟩ := hga hea
          obtain ⟨x, y, hx1, hx2, hx3⟩ := hj2 hea
          rw [if_pos hea]
          simp only [Option.bind_some, if_true]
          rw [hda, ew2, hx1]
          simp only [Option.bind_some]
          by_cases hy : y = 0
          · rw [if_pos hy] at hx3
            obtain ⟨rfl, rfl⟩ := Prod.mk.inj hx3
            rw [if_pos hy]
            exact ⟨d, rfl, fun _ => ⟨rfl, hsa0, hsa1, hx2 hy⟩⟩
          · rw [if_neg hy] at hx3
            obtain ⟨rfl, rfl⟩ := Prod.mk.inj hx3
            rw [if_neg hy]
            exact ⟨d, rfl, fun h => by simp at h⟩
        · obtain ⟨rfl, rfl⟩ := hj1 hea
          rw [if_neg hea]
          refine ⟨da, ?_, fun h => absurd h hea⟩
          simp [hea]
      obtain ⟨d', hm', hg'⟩ := hval
      refine ⟨n', e', d', sa, hm', ?_, hg'⟩
      unfold arith_Eval.one at ht1
      by_cases c1 : q.f1.toList = ([45] : List UInt8)
      · rw [if_pos c1]; exact hbr
      by_cases c2 : q.f1.toList = ([97, 98, 115] : List UInt8)
      · rw [if_neg c1, if_pos c2]; exact hbr
      by_cases c3 : q.f1.toList = ([115, 105, 103, 110] : List UInt8)
      · rw [if_neg c1, if_neg c2, show (q.f1.toList != ([115, 105, 103, 110] : List UInt8)) = false from bne_eq_false_iff_eq.mpr c3]
        exact hbr
      · rw [if_neg c1, if_neg c2, if_neg c3] at ht1
        cases ht1
    · rw [if_neg ht1]
      refine ⟨0, 111, d, s1, rfl, ?_, fun h => by simp at h⟩
      unfold arith_Eval.one at ht1
      by_cases c1 : q.f1.toList = ([45] : List UInt8)
      · rw [if_pos c1] at ht1; simp at ht1
      rw [if_neg c1] at ht1
      by_cases c2 : q.f1.toList = ([97, 98, 115] : List UInt8)
      · rw [if_pos c2] at ht1; simp at ht1
      rw [if_neg c2] at ht1
      by_cases c3 : q.f1.toList = ([115, 105, 103, 110] : List UInt8)
      · rw [if_pos c3] at ht1; simp at ht1
      rw [if_neg c1, if_neg c2, bne_iff_ne.mpr c3]
      unfold spinneyref11_eval.j0
      rw [if_pos rfl]

end Go.Proofs.Ytmiapolhklapnaa.Pure
set_option linter.unusedVariables false
set_option linter.unusedSimpArgs false
namespace Go.Proofs.Ytmiapolhklapnaa.Pure
open Go Go.Own Go.RowKit Go.Proofs.Ytmiapolhklapnaa.P Go.Proofs.YtmiapolhklapnaaW.PrintWords Go.Proofs.YtmiapolhklapnaaW.PrintLast

theorem left_up {t : S25} {most r : Int} {k k' : Nat} (hk : k ≤ k') (h : spinneyref03_left.f k t.f0 t.f1 t.f2 t.f3 most = some r) : spinneyref03_left.f k' t.f0 t.f1 t.f2 t.f3 most = some r :=
  leO_up (f := fun k => spinneyref03_left.f k t.f0 t.f1 t.f2 t.f3 most) (fun k => spinneyref03_left.mono _ _ _ _ _ k) hk h
theorem left_loop (ts : List S25) (hl : ts.length ≤ 9223372036854775807) (ih : ∀ t ∈ ts, ∀ most, ∃ k r, spinneyref03_left.f k t.f0 t.f1 t.f2 t.f3 most = some r) (n : Nat) : ∀ (i : Nat) (most : Int), ts.length - i = n → i ≤ ts.length → ∃ k r, ∀ k', k ≤ k' → spinneyref03_left.l0 k' most ts (ts.length : Int) (i : Int) = some r := by
  induction n with
  | zero =>
    intro i most hn hi
    refine ⟨1, most, fun k' hk' => ?_⟩
    obtain ⟨k', rfl⟩ : ∃ j, k' = j + 1 := ⟨k' - 1, by omega⟩
    unfold spinneyref03_left.l0
    rw [if_neg (by omega)]
  | succ n ihn =>
    intro i most hn hi
    have hlt : i < ts.length := by omega
    by_cases hm : most < 0
    · refine ⟨1, most, fun k' hk' => ?_⟩
      obtain ⟨k', rfl⟩ : ∃ j, k' = j + 1 := ⟨k' - 1, by omega⟩
      unfold spinneyref03_left.l0
      rw [if_pos (by omega), if_pos (by omega), if_pos (by omega), if_pos hm]
    · have er : rd_T25 ts (i : Int) = ts[i] := by
        unfold rd_T25
        rw [Int.toNat_natCast, List.getD_eq_getElem?_getD, List.getElem?_eq_getElem hlt]
        rfl
      obtain ⟨k1, r1, h1⟩ := ih ts[i] (List.getElem_mem hlt) most
      obtain ⟨k2, r2, h2⟩ := ihn (i + 1) r1 (by omega) (by omega)
      refine ⟨k1 + k2 + 1, r2, fun k' hk' => ?_⟩
      obtain ⟨k', rfl⟩ : ∃ j, k' = j + 1 := ⟨k' - 1, by omega⟩
      unfold spinneyref03_left.l0
      have ew : wrap64 ((i : Int) + 1) = ((i + 1 : Nat) : Int) := by unfold wrap64; omega
      rw [if_pos (by omega), if_pos (by omega), if_pos (by omega), if_neg hm, er, left_up (by omega) h1]
      simp only [Option.bind_some, ew]
      exact h2 k' (by omega)
theorem left_total {t : S25} (ht : Ok25 t) : ∀ most, ∃ k r, spinneyref03_left.f k t.f0 t.f1 t.f2 t.f3 most = some r := by
  induction ht with
  | mk x h0 h1 h2 h3 h4 ih =>
    intro most
    obtain ⟨k, r, h⟩ := left_loop x.f3 (Nat.le_trans h3 (by decide)) ih x.f3.length 0 (wrap64 (most - 1)) (by omega) (by omega)
    exact ⟨k + 1, r, h k (Nat.le_refl _)⟩
theorem few_total {t : S25} (ht : Ok25 t) (most : Int) : ∃ k b, ∀ k', k ≤ k' → spinneyref03_Few.f k' t.f0 t.f1 t.f2 t.f3 most = some b := by
  obtain ⟨k, r, h⟩ := left_total ht most
  refine ⟨k, decide (r ≥ 0), fun k' hk => ?_⟩
  unfold spinneyref03_Few.f
  rw [left_up hk h]
  rfl
theorem big_l1 (ts : List S25) (hl : ts.length ≤ 9223372036854775807) (hok : ∀ t ∈ ts, Ok25 t) (n : Nat) : ∀ i : Nat, ts.length - i = n → i ≤ ts.length → ∃ k b, ∀ k', k ≤ k' → spinneylaw11_big.l1 k' ts (ts.length : Int) (i : Int) = some b := by
  induction n with
  | zero =>
    intro i hn hi
    refine ⟨1, false, fun k' hk' => ?_⟩
    obtain ⟨k', rfl⟩ : ∃ j, k' = j + 1 := ⟨k' - 1, by omega⟩
    unfold spinneylaw11_big.l1
    rw [if_neg (by omega)]
  | succ n ihn =>
    intro i hn hi
    have hlt : i < ts.length := by omega
    have er : rd_T25 ts (i : Int) = ts[i] := by
      unfold rd_T25
      rw [Int.toNat_natCast, List.getD_eq_getElem?_getD, List.getElem?_eq_getElem hlt]
      rfl
    have ew : wrap64 ((i : Int) + 1) = ((i + 1 : Nat) : Int) := by unfold wrap64; omega
    obtain ⟨k1, b1, h1⟩ := few_total (hok ts[i] (List.getElem_mem hlt)) 200
    obtain ⟨k2, b2, h2⟩ := ihn (i + 1) (by omega) (by omega)
    refine ⟨k1 + k2 + 1, if b1 = true then b2 else true, fun k' hk' => ?_⟩
    obtain ⟨k', rfl⟩ : ∃ j, k' = j + 1 := ⟨k' - 1, by omega⟩
    unfold spinneylaw11_big.l1
    rw [if_pos (by omega), if_pos (by omega), if_pos (by omega), er, h1 k' (by omega)]
    simp only [Option.bind_some, ew]
    by_cases hb : b1 = true
    · rw [if_pos hb, if_pos hb]; exact h2 k' (by omega)
    · rw [if_neg hb, if_neg hb]
theorem big_l0 (ts : List S25) (htl : ts.length ≤ 9223372036854775807) (hts : ∀ t ∈ ts, Ok25 t) (l : List S45) (hl : l.length ≤ 9223372036854775807) (hok : ∀ y ∈ l, Ok45 y) (n : Nat) : ∀ i : Nat, l.length - i = n → i ≤ l.length → ∃ k b, ∀ k', k ≤ k' → spinneylaw11_big.l0 k' ts l (l.length : Int) (i : Int) = some b := by
  induction n with
  | zero =>
    intro i hn hi
    obtain ⟨k, b, h⟩ := big_l1 ts htl hts ts.length 0 (by omega) (by omega)
    refine ⟨k + 1, b, fun k' hk' => ?_⟩
    obtain ⟨k', rfl⟩ : ∃ j, k' = j + 1 := ⟨k' - 1, by omega⟩
    unfold spinneylaw11_big.l0
    rw [if_neg (by omega)]
    exact h k' (by omega)
  | succ n ihn =>
    intro i hn hi
    have hlt : i < l.length := by omega
    have er : rd_T45 l (i : Int) = l[i] := subst_Look.rd_at hlt
    have ew : wrap64 ((i : Int) + 1) = ((i + 1 : Nat) : Int) := by unfold wrap64; omega
    have hb1 : Ok25 l[i].f1 := by
      have := hok l[i] (List.getElem_mem hlt)
      cases this with
      | mk _ h2 => exact h2
    obtain ⟨k1, b1, h1⟩ := few_total hb1 5
    obtain ⟨k2, b2, h2⟩ := ihn (i + 1) (by omega) (by omega)
    refine ⟨k1 + k2 + 1, if b1 = true then b2 else true, fun k' hk' => ?_⟩
    obtain ⟨k', rfl⟩ : ∃ j, k' = j + 1 := ⟨k' - 1, by omega⟩
    unfold spinneylaw11_big.l0
    rw [if_pos (by omega), if_pos (by omega), if_pos (by omega), er, h1 k' (by omega)]
    simp only [Option.bind_some, ew]
    by_cases hb : b1 = true
    · rw [if_pos hb, if_pos hb]; exact h2 k' (by omega)
    · rw [if_neg hb, if_neg hb]
theorem big_total (ts : List S25) (htl : ts.length ≤ 9223372036854775807) (hts : ∀ t ∈ ts, Ok25 t) (l : List S45) (hl : l.length ≤ 9223372036854775807) (hok : ∀ y ∈ l, Ok45 y) : ∃ k b, ∀ k', k ≤ k' → spinneylaw11_big.f k' l ts = some b := by
  unfold spinneylaw11_big.f
  by_cases h : (l.length : Int) > 6
  · exact ⟨0, true, fun k' _ => by rw [if_pos h]⟩
  · obtain ⟨k, b, h2⟩ := big_l0 ts htl hts l hl hok l.length 0 (by omega) (by omega)
    exact ⟨k, b, fun k' hk => by rw [if_neg h]; exact h2 k' hk⟩

end Go.Proofs.Ytmiapolhklapnaa.Pure
set_option linter.unusedVariables false
set_option linter.unusedSimpArgs false
namespace Go.Proofs.Ytmiapolhklapnaa.Pure
open Go Go.Own Go.RowKit Go.Proofs.Ytmiapolhklapnaa.P Go.Proofs.YtmiapolhklapnaaW.PrintWords Go.Proofs.YtmiapolhklapnaaW.PrintLast

theorem live11 (k : Nat) (hk : 30 ≤ k) : spinneylaw11_live.f k = some true :=
  leO_up (f := fun k => spinneylaw11_live.f k) (fun k => spinneylaw11_live.mono k) hk (by decide +kernel)

end Go.Proofs.Ytmiapolhklapnaa.Pure
set_option linter.unusedVariables false
set_option linter.unusedSimpArgs false
namespace Go.Proofs.Ytmiapolhklapnaa.Pure
open Go Go.Own Go.RowKit Go.Proofs.Ytmiapolhklapnaa.P Go.Proofs.YtmiapolhklapnaaW.PrintWords Go.Proofs.YtmiapolhklapnaaW.PrintLast

theorem evals (l : List S45) (hl : l.length ≤ 9223372036854775807) (hok : ∀ y ∈ l, Ok45 y) {a0 a2 : Int} {a1 : ByteArray} {a3 : List S25} (ht : Ok25 ⟨a0, a1, a2, a3⟩) (k : Nat) (hk : l.length + 3000 ≤ k) :
    ∃ n e, arith_Eval.f k l a0 a1 a2 a3 = some (n, e) ∧ spinneyref11_Eval.f k l a0 a1 a2 a3 = some (n, e) := by
  obtain ⟨n, e, d', s', h1, h2, _⟩ := eval_eq l hl hok 60 ⟨a0, a1, a2, a3⟩ 0 0 k k (by omega) (by omega) (by omega) (by omega) ht (by omega) (by omega)
  refine ⟨n, e, ?_, ?_⟩
  · unfold arith_Eval.f; rw [h1]; rfl
  · unfold spinneyref11_Eval.f
    dsimp only at h2
    rw [h2]; rfl
theorem tri (n m : Int) : (n < m ∧ ¬ m < n ∧ ¬ n = m ∧ n ≤ m ∧ ¬ m ≤ n ∧ (n == m) = false) ∨ (¬ n < m ∧ ¬ m < n ∧ n = m ∧ n ≤ m ∧ m ≤ n ∧ (n == m) = true) ∨ (¬ n < m ∧ m < n ∧ ¬ n = m ∧ ¬ n ≤ m ∧ m ≤ n ∧ (n == m) = false) := by
  rcases Int.lt_trichotomy n m with h | h | h
  · exact .inl ⟨h, by omega, by omega, by omega, by omega, by simp; omega⟩
  · exact .inr (.inl ⟨by omega, by omega, h, by omega, by omega, by simp [h]⟩)
  · exact .inr (.inr ⟨by omega, h, by omega, by omega, by omega, by simp; omega⟩)
theorem twoways {c1 c2 c3 c4 c5 c6 : Prop} [Decidable c1] [Decidable c2] [Decidable c3] [Decidable c4] [Decidable c5] [Decidable c6] {x y : Bool × Int} : ∃ b e, (if c1 then some x else if c2 then some x else if c3 then some x else if c4 then some x else if c5 then some x else if c6 then some x else some y) = some (b, e) ∧
    (if c2 then some x else if c1 then some x else if c4 then some x else if c6 then some x else if c5 then some x else if c3 then some x else some y) = some (b, e) := by
  by_cases h1 : c1 <;> by_cases h2 : c2 <;> by_cases h3 : c3 <;> by_cases h4 : c4 <;> by_cases h5 : c5 <;> by_cases h6 : c6 <;> first | (refine ⟨x.1, x.2, ?_, ?_⟩ <;> simp [h1, h2, h3, h4, h5, h6]; done) | (refine ⟨y.1, y.2, ?_, ?_⟩ <;> simp [h1, h2, h3, h4, h5, h6]; done)
theorem holds_eq (l : List S45) (hl : l.length ≤ 9223372036854775807) (hok : ∀ y ∈ l, Ok45 y) (op : ByteArray) {a0 a2 : Int} {a1 : ByteArray} {a3 : List S25} (ha : Ok25 ⟨a0, a1, a2, a3⟩) {b0 b2 : Int} {b1 : ByteArray} {b3 : List S25} (hb : Ok25 ⟨b0, b1, b2, b3⟩) (k : Nat) (hk : l.length + 3001 ≤ k) :
    ∃ b e, arith_Holds.f k l op a0 a1 a2 a3 b0 b1 b2 b3 = some (b, e) ∧ spinneyref11_Holds.f k l op a0 a1 a2 a3 b0 b1 b2 b3 = some (b, e) := by
  obtain ⟨k, rfl⟩ : ∃ j, k = j + 1 := ⟨k - 1, by omega⟩
  obtain ⟨n, e, h1, h2⟩ := evals l hl hok ha k (by omega)
  obtain ⟨m, f, g1, g2⟩ := evals l hl hok hb k (by omega)
  unfold arith_Holds.f spinneyref11_Holds.f
  simp only [arith_Holds.j0, spinneyref11_Holds.j0, h1, h2, g1, g2, Option.bind_some]
  by_cases he : e = 0
  case neg =>
    simp only [he, if_false]
    exact twoways
  by_cases hf : f = 0
  case neg =>
    simp only [he, hf, if_false, if_true]
    exact twoways
  simp only [he, hf, if_true]
  by_cases c1 : op.toList = ([61, 92, 61] : List UInt8)
  · refine ⟨!decide (n = m), 0, ?_, ?_⟩ <;> rcases tri n m with ⟨q1, q2, q3, q4, q5, q6⟩ | ⟨q1, q2, q3, q4, q5, q6⟩ | ⟨q1, q2, q3, q4, q5, q6⟩ <;> simp [c1, q1, q2, q3, q4, q5, q6]
  by_cases c2 : op.toList = ([61, 58, 61] : List UInt8)
  · refine ⟨decide (n = m), 0, ?_, ?_⟩ <;> rcases tri n m with ⟨q1, q2, q3, q4, q5, q6⟩ | ⟨q1, q2, q3, q4, q5, q6⟩ | ⟨q1, q2, q3, q4, q5, q6⟩ <;> simp [c2, q1, q2, q3, q4, q5, q6]
  by_cases c3 : op.toList = ([62, 61] : List UInt8)
  · refine ⟨decide (m ≤ n), 0, ?_, ?_⟩ <;> rcases tri n m with ⟨q1, q2, q3, q4, q5, q6⟩ | ⟨q1, q2, q3, q4, q5, q6⟩ | ⟨q1, q2, q3, q4, q5, q6⟩ <;> simp [c3, q1, q2, q3, q4, q5, q6]
  by_cases c4 : op.toList = ([60] : List UInt8)
  · refine ⟨decide (n < m), 0, ?_, ?_⟩ <;> rcases tri n m with ⟨q1, q2, q3, q4, q5, q6⟩ | ⟨q1, q2, q3, q4, q5, q6⟩ | ⟨q1, q2, q3, q4, q5, q6⟩ <;> simp [c4, q1, q2, q3, q4, q5, q6]
  by_cases c5 : op.toList = ([62] : List UInt8)
  · refine ⟨decide (m < n), 0, ?_, ?_⟩ <;> rcases tri n m with ⟨q1, q2, q3, q4, q5, q6⟩ | ⟨q1, q2, q3, q4, q5, q6⟩ | ⟨q1, q2, q3, q4, q5, q6⟩ <;> simp [c5, q1, q2, q3, q4, q5, q6]
  by_cases c6 : op.toList = ([61, 60] : List UInt8)
  · refine ⟨decide (n ≤ m), 0, ?_, ?_⟩ <;> rcases tri n m with ⟨q1, q2, q3, q4, q5, q6⟩ | ⟨q1, q2, q3, q4, q5, q6⟩ | ⟨q1, q2, q3, q4, q5, q6⟩ <;> simp [c6, q1, q2, q3, q4, q5, q6]
  simp only [c1, c2, c3, c4, c5, c6, if_false]
  exact ⟨_, _, rfl, rfl⟩
theorem ArithHolds : spinneylaw11_ArithHolds.Pure := by
  intro l op a0 a1 a2 a3 b0 b1 b2 b3 hl hok _ ha hb
  have hl : l.length ≤ 9223372036854775807 := Nat.le_trans hl (by decide)
  obtain ⟨k, b, hbig⟩ := big_total [⟨a0, a1, a2, a3⟩, ⟨b0, b1, b2, b3⟩] (by simp) (by intro t ht; simp at ht; rcases ht with rfl | rfl <;> assumption) l hl hok
  obtain ⟨r, e, h1, h2⟩ := holds_eq l hl hok op ha hb (k + l.length + 3001) (by omega)
  refine ⟨k + l.length + 3001, ?_⟩
  unfold spinneylaw11_ArithHolds.f
  rw [live11 _ (by omega), hbig _ (by omega), h1, h2]
  simp only [Option.bind_some]
  split
  · rfl
  · simp

end Go.Proofs.Ytmiapolhklapnaa.Pure
set_option linter.unusedVariables false
set_option linter.unusedSimpArgs false
namespace Go.Proofs.Ytmiapolhklapnaa.Pure
open Go Go.Own Go.RowKit Go.Proofs.Ytmiapolhklapnaa.P Go.Proofs.YtmiapolhklapnaaW.PrintWords Go.Proofs.YtmiapolhklapnaaW.PrintLast

theorem sums_int (k : Nat) (x : Int) : spinneyref11_eval.f (k + 3) 1 [] 3 (⟨#[]⟩ : ByteArray) x [] (wrap64 (0 + 1)) = some (x, 0, 2) ∧ spinneyref11_eval.f (k + 3) 2 [] 3 (⟨#[]⟩ : ByteArray) x [] (wrap64 (0 + 1)) = some (x, 0, 3) := by
  constructor <;> simp [spinneyref11_eval.f, spinneyref09_Meter_Meet.f, spinneyref09_Meter_spend.f, spinneyref09_Meter_Walk.f, spinneyref09_Meter_Walk.l0, wrap64]
theorem sums_ref (op : ByteArray) (h : op.toList = ([43] : List UInt8) ∨ op.toList = ([45] : List UInt8) ∨ op.toList = ([42] : List UInt8) ∨ op.toList = ([47, 47] : List UInt8) ∨ op.toList = ([114, 101, 109] : List UInt8) ∨ op.toList = ([109, 111, 100] : List UInt8)) (k : Nat) (x y : Int) :
    spinneyref11_Eval.f (k + 5) [] 4 op 0 [(⟨3, ⟨#[]⟩, x, []⟩ : S25), ⟨3, ⟨#[]⟩, y, []⟩] = (spinneyref11_two.f (k + 3) op x y).bind fun p => spinneyref11_told.f p.1 p.2 := by
  have hM : spinneyref09_Meter_Meet.f (k + 4) 0 [] 4 op 0 [(⟨3, ⟨#[]⟩, x, []⟩ : S25), ⟨3, ⟨#[]⟩, y, []⟩] = some (4, op, 0, [(⟨3, ⟨#[]⟩, x, []⟩ : S25), ⟨3, ⟨#[]⟩, y, []⟩], 0, 1) := by
    simp [spinneyref09_Meter_Meet.f, spinneyref09_Meter_spend.f, spinneyref09_Meter_Walk.f, spinneyref09_Meter_Walk.l0, wrap64]
  have hj : spinneyref11_eval.j1 (k + 4) [] 0 1 4 op 0 [(⟨3, ⟨#[]⟩, x, []⟩ : S25), ⟨3, ⟨#[]⟩, y, []⟩] = ((spinneyref11_two.f (k + 3) op x y).bind fun p => (spinneyref11_told.f p.1 p.2).bind fun q => some (q.1, q.2, 3)) := by
    have e0 : rd_T25 [(⟨3, ⟨#[]⟩, x, []⟩ : S25), ⟨3, ⟨#[]⟩, y, []⟩] 0 = ⟨3, ⟨#[]⟩, x, []⟩ := rfl
    have e1 : rd_T25 [(⟨3, ⟨#[]⟩, x, []⟩ : S25), ⟨3, ⟨#[]⟩, y, []⟩] 1 = ⟨3, ⟨#[]⟩, y, []⟩ := rfl
    rw [spinneyref11_eval.j1, e0, e1]
    rw [if_pos (by simp)]
    dsimp only
    rw [(sums_int k x).1]
    simp only [Option.bind_some, if_true]
    rw [if_pos (by simp), (sums_int k y).2]
    simp only [Option.bind_some, if_true]
  unfold spinneyref11_Eval.f
  rw [spinneyref11_eval.f, if_neg (by decide), hM]
  simp only [Option.bind_some, if_true]
  rw [if_neg (by decide), if_neg (by decide), if_neg (by simp), if_pos (by simp), hj]
  have hb : ∀ z : Option (Int × Int), (z.bind fun p => (spinneyref11_told.f p.1 p.2).bind fun q => some (q.1, q.2, (3 : Int))).bind (fun r => some (r.1, r.2.1)) = z.bind fun p => spinneyref11_told.f p.1 p.2 := by
    intro z
    cases z with
    | none => rfl
    | some p => simp only [Option.bind_some, Option.bind_assoc]; cases spinneyref11_told.f p.1 p.2 <;> rfl
  rcases h with h | h | h | h | h | h <;> (rw [h]; repeat (first | rw [if_pos rfl] | rw [if_neg (by decide)])) <;> exact hb _
theorem told_good {m g : Int} (h : g ≠ 0 → m = 0) : ∃ n f, spinneyref11_told.f m g = some (n, f) ∧ n = m ∧ ((f = 0 ∧ g = 0) ∨ (f = 112 ∧ g ≠ 0)) := by
  unfold spinneyref11_told.f
  by_cases hg : g = 0
  · exact ⟨m, 0, by rw [if_pos hg], rfl, .inl ⟨rfl, hg⟩⟩
  · exact ⟨0, 112, by rw [if_neg hg], (h hg).symm, .inr ⟨rfl, hg⟩⟩
theorem sums_good (op : ByteArray) (hs : op.size ≤ 3) (h : op.toList = ([43] : List UInt8) ∨ op.toList = ([45] : List UInt8) ∨ op.toList = ([42] : List UInt8) ∨ op.toList = ([47, 47] : List UInt8) ∨ op.toList = ([114, 101, 109] : List UInt8) ∨ op.toList = ([109, 111, 100] : List UInt8)) (k : Nat) (hk : 3001 ≤ k) {x y : Int} (hx : (Lit.int .i64 x).wf = true) (hy : (Lit.int .i64 y).wf = true) (R : Option (Int × Int)) (hR : ∃ m g, R = some (m, g) ∧ (g ≠ 0 → m = 0)) (h2 : spinneyref11_two.f (k - 2) op x y = R) :
    spinneylaw11_ArithSums.Good k [(⟨3, ⟨#[]⟩, x, []⟩ : S25), ⟨3, ⟨#[]⟩, y, []⟩] op R := by
  obtain ⟨m, g, rfl, hg⟩ := hR
  obtain ⟨n, f, e1, e2, e3⟩ := told_good hg
  have w3 : (Lit.int .i64 3).wf = true := by decide
  have w4 : (Lit.int .i64 4).wf = true := by decide
  have w0 : (Lit.int .i64 0).wf = true := by decide
  have m0 : (⟨#[]⟩ : ByteArray).size ≤ maxLen := by decide
  have n0 : ([] : List S25).length ≤ maxLen := by decide
  have hoi : ∀ z : Int, (Lit.int .i64 z).wf = true → Ok25 (⟨3, ⟨#[]⟩, z, []⟩ : S25) := fun z hz => Ok25.mk _ w3 m0 hz n0 (by simp)
  have ho : Ok25 (⟨4, op, 0, [(⟨3, ⟨#[]⟩, x, []⟩ : S25), ⟨3, ⟨#[]⟩, y, []⟩]⟩ : S25) := Ok25.mk _ w4 (Nat.le_trans hs (by decide)) w0 (show 2 ≤ maxLen by decide) (by
    intro z hz
    simp only [List.mem_cons, List.not_mem_nil, or_false] at hz
    rcases hz with rfl | rfl
    · exact hoi x hx
    · exact hoi y hy)
  obtain ⟨n', f', q1, q2⟩ := evals [] (by simp) (by simp) ho k (by simp; omega)
  obtain ⟨j, rfl⟩ : ∃ j, k = j + 5 := ⟨k - 5, by omega⟩
  rw [sums_ref op h j x y, show j + 3 = j + 5 - 2 by omega, h2, Option.bind_some, e1] at q2
  cases q2
  exact ⟨4, op, 0, _, n, f, m, g, rfl, q1, rfl, e2, e3⟩
theorem fit_zero (n : Int) : ∃ m g, some (fit n) = some (m, g) ∧ (g ≠ 0 → m = 0) := by
  by_cases h : In64 n
  · rw [fit_in h]; exact ⟨_, _, rfl, fun h => absurd rfl h⟩
  · rw [fit_out h]; exact ⟨_, _, rfl, fun _ => rfl⟩
theorem quo_zero (x y : Int) : ∃ m g, spinneyref01_Quo.f x y = some (m, g) ∧ (g ≠ 0 → m = 0) := by
  unfold spinneyref01_Quo.f
  repeat' split
  all_goals exact ⟨_, _, rfl, fun h => by first | rfl | exact absurd rfl h⟩
theorem rem_zero (x y : Int) : ∃ m g, spinneyref01_Rem.f x y = some (m, g) ∧ (g ≠ 0 → m = 0) := by
  unfold spinneyref01_Rem.f
  repeat' split
  all_goals exact ⟨_, _, rfl, fun h => by first | rfl | exact absurd rfl h⟩
theorem mod_zero (x y : Int) : ∃ m g, spinneyref01_Mod.f x y = some (m, g) ∧ (g ≠ 0 → m = 0) := by
  unfold spinneyref01_Mod.f
  obtain ⟨m, g, h, hz⟩ := rem_zero x y
  rw [h, Option.bind_some]
  dsimp only
  by_cases hg : g = 0
  · rw [if_pos hg]
    repeat' split
    all_goals exact ⟨_, _, rfl, fun h => absurd hg h⟩
  · rw [if_neg hg]; exact ⟨_, _, rfl, hz⟩
theorem ArithSums : spinneylaw11_ArithSums.Pure := by
  intro x y hx hy
  have ix := in64_of_wf hx
  have iy := in64_of_wf hy
  have t0 : (⟨#[43]⟩ : ByteArray).toList = [43] := by decide +kernel
  have t1 : (⟨#[45]⟩ : ByteArray).toList = [45] := by decide +kernel
  have t2 : (⟨#[42]⟩ : ByteArray).toList = [42] := by decide +kernel
  have t3 : (⟨#[47, 47]⟩ : ByteArray).toList = [47, 47] := by decide +kernel
  have t4 : (⟨#[114, 101, 109]⟩ : ByteArray).toList = [114, 101, 109] := by decide +kernel
  have t5 : (⟨#[109, 111, 100]⟩ : ByteArray).toList = [109, 111, 100] := by decide +kernel
  have hb : ∀ z : Option (Int × Int), (z.bind fun b => some (b.1, b.2)) = z := fun z => by cases z <;> rfl
  have hm : spinneyref01_Mul.f 4001 x y = spinneyref01_Mul.f (4001 - 2) x y := by
    rw [refmul_fit ix iy 3999, show 4001 - 2 = 3997 + 2 by omega, refmul_fit ix iy 3997]
  refine ⟨4001, live11 _ (by omega), 3, ⟨#[]⟩, x, [], 3, ⟨#[]⟩, y, [], _, rfl, rfl, rfl, ?_⟩
  intro j hj
  obtain rfl | rfl | rfl | rfl | rfl | rfl : j = 0 ∨ j = 1 ∨ j = 2 ∨ j = 3 ∨ j = 4 ∨ j = 5 := by omega
  all_goals simp only [spinneylaw11_ArithSums.op, spinneylaw11_ArithSums.R]
  · exact sums_good _ (by decide) (by simp [t0]) _ (by omega) hx hy _ (by rw [refadd_fit ix iy]; exact fit_zero _) (by unfold spinneyref11_two.f; simp only [t0, if_true]; exact hb _)
  · exact sums_good _ (by decide) (by simp [t1]) _ (by omega) hx hy _ (by rw [refsub_fit ix iy]; exact fit_zero _) (by unfold spinneyref11_two.f; rw [t1]; repeat (first | rw [if_pos rfl] | rw [if_neg (by decide)]); exact hb _)
  · exact sums_good _ (by decide) (by simp [t2]) _ (by omega) hx hy _ (by rw [refmul_fit ix iy 3999]; exact fit_zero _) (by rw [hm]; unfold spinneyref11_two.f; rw [t2]; repeat (first | rw [if_pos rfl] | rw [if_neg (by decide)]); exact hb _)
  · exact sums_good _ (by decide) (by simp [t3]) _ (by omega) hx hy _ (quo_zero x y) (by unfold spinneyref11_two.f; rw [t3]; repeat (first | rw [if_pos rfl] | rw [if_neg (by decide)]); exact hb _)
  · exact sums_good _ (by decide) (by simp [t4]) _ (by omega) hx hy _ (rem_zero x y) (by unfold spinneyref11_two.f; rw [t4]; repeat (first | rw [if_pos rfl] | rw [if_neg (by decide)]); exact hb _)
  · exact sums_good _ (by decide) (by simp [t5]) _ (by omega) hx hy _ (mod_zero x y) (by unfold spinneyref11_two.f; rw [t5]; repeat (first | rw [if_pos rfl] | rw [if_neg (by decide)]); exact hb _)

end Go.Proofs.Ytmiapolhklapnaa.Pure
