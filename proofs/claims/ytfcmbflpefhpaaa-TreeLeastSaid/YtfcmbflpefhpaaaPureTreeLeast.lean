/- As many places are open as are told, and the least choice's first one is behind none of the other choices' first ones. No condition but the statement's own. -/
import Derived.Test.YtfcmbflpefhpaaaPx2
import Derived.Test.YtfcmbflpefhpaaaPx5
import Derived.Test.YtfcmbflpefhpaaaPx15
import Derived.Test.YtfcmbflpefhpaaaPx3
import Derived.Test.YtfcmbflpefhpaaaPx6
import Derived.Test.YtfcmbflpefhpaaaPx1
import Derived.Laws.NewBlocks
set_option linter.unusedVariables false
set_option linter.unusedSimpArgs false
namespace Go.Proofs.Ytfcmbflpefhpaaa.Pure
open Go Go.Own Go.RowKit Go.Proofs.Ytfcmbflpefhpaaa.P Go.Proofs.YtfcmbflpefhpaaaW.PrintWords Go.Proofs.YtfcmbflpefhpaaaW.PrintLast

abbrev Ch := S39
/-- choices that are not too many, nor too great -/
def SmallT (l0 : List Ch) : Prop := l0.length ≤ 100 ∧ ∀ c ∈ l0, c.f0.length ≤ 50 ∧ c.f2.length ≤ 50
theorem SmallT.len {l0 : List Ch} (h : ∀ c ∈ l0, c.f0.length ≤ 50 ∧ c.f2.length ≤ 50) : (tree_Open.all l0).length ≤ 50 * l0.length := by
  induction l0 with
  | nil => simp [tree_Open.all]
  | cons c l ih =>
    have h1 := (h c List.mem_cons_self).2
    have h2 := ih (fun c hc => h c (List.mem_cons_of_mem _ hc))
    unfold tree_Open.all at h2 ⊢
    rw [List.flatMap_cons, List.length_append, List.length_cons]
    have h3 : (tree_Open.one c).length = c.f2.length := by simp [tree_Open.one]
    omega
theorem SmallT.fits {l0 : List Ch} (h : SmallT l0) : tree_Open.fits l0 := by
  have h1 := SmallT.len h.2
  exact ⟨by have := h.1; omega, fun c hc => by have := (h.2 c hc).1; omega, by have := h.1; omega⟩
theorem ref_next (l : List Int) (i : Int) (h : l.length ≤ 50) : spinneyref19_Next.f l i = some (l ++ [i]) := by
  unfold spinneyref19_Next.f
  rw [if_pos (by simp only [List.length_nil]; omega)]
  simp only [Option.bind_some, List.nil_append]
  rw [if_pos (by omega)]
theorem wrT (m : Nat) (h : m ≤ 1000000) : wrap64 ((m : Int) + 1) = ((m + 1 : Nat) : Int) := by unfold wrap64; omega
theorem ref_open_in (l0 : List Ch) (n m : Int) (lab : List Int) (a : List S63) (b : List S66) (e : Int) (L : List Int) (hlab : lab.length ≤ 50) (hL : L.length ≤ 50) : ∀ (d j K : Nat) (acc : List (List Int)), j + d = L.length → acc.length + d ≤ 100000 →
    spinneyref21_Open.l1 (K + d + 1) acc l0 n m L (L.length : Int) (j : Int) lab a b e L = spinneyref21_Open.l0 K (acc ++ (L.drop j).map fun i => lab ++ [i]) l0 n (wrap64 (m + 1))
  | 0, j, K, acc, hj, ha => by
    have g : ¬ ((j : Int) < (L.length : Int)) := by omega
    rw [spinneyref21_Open.l1, if_neg g, List.drop_eq_nil_of_le (by omega)]
    simp
  | d + 1, j, K, acc, hj, ha => by
    have hjl : j < L.length := by omega
    have g : ((j : Int) < (L.length : Int)) := by omega
    have g0 : (0 : Int) ≤ (j : Int) := by omega
    have g1 : acc.length < 5864062014805 := by omega
    have hr : rd L (j : Int) = L[j] := by simp [rd, List.getD_eq_getElem?_getD, hjl]
    rw [show K + (d + 1) + 1 = (K + d + 1) + 1 by omega, spinneyref21_Open.l1, if_pos g, if_pos g0, if_pos g, ref_next lab _ hlab, hr]
    simp only [Option.bind_some]
    rw [if_pos g1, wrT j (by omega), ref_open_in l0 n m lab a b e L hlab hL d (j + 1) K (acc ++ [lab ++ [L[j]]]) (by omega) (by rw [List.length_append]; simp only [List.length_cons, List.length_nil]; omega), List.drop_eq_getElem_cons hjl]
    simp only [List.map_cons, List.append_assoc, List.cons_append, List.nil_append]
theorem ref_open_out (l0 : List Ch) (hs : SmallT l0) : ∀ (d m K : Nat) (acc : List (List Int)), m + d = l0.length → acc.length + 50 * d ≤ 100000 → 60 * d < K →
    spinneyref21_Open.l0 K acc l0 (l0.length : Int) (m : Int) = some (acc ++ tree_Open.all (l0.drop m))
  | 0, m, K, acc, hm, ha, hK => by
    obtain ⟨k, rfl⟩ : ∃ k, K = k + 1 := ⟨K - 1, by omega⟩
    have g : ¬ ((m : Int) < (l0.length : Int)) := by omega
    rw [spinneyref21_Open.l0, if_neg g, List.drop_eq_nil_of_le (by omega)]
    simp [tree_Open.all]
  | d + 1, m, K, acc, hm, ha, hK => by
    have hml : m < l0.length := by omega
    have g : ((m : Int) < (l0.length : Int)) := by omega
    have g0 : (0 : Int) ≤ (m : Int) := by omega
    have hc := hs.2 (l0[m]'hml) (List.getElem_mem hml)
    have hr : rd_T39 l0 (m : Int) = l0[m]'hml := by unfold rd_T39; simp [List.getD_eq_getElem?_getD, hml]
    obtain ⟨k, hk⟩ : ∃ k, K = (k + (l0[m]'hml).f2.length + 1) + 1 := ⟨K - (l0[m]'hml).f2.length - 2, by omega⟩
    rw [hk, spinneyref21_Open.l0, if_pos g, if_pos g0, if_pos g, hr]
    have hin := ref_open_in l0 (l0.length : Int) (m : Int) (l0[m]'hml).f0 (l0[m]'hml).f1.f0 (l0[m]'hml).f1.f1 (l0[m]'hml).f1.f2 (l0[m]'hml).f2 hc.1 hc.2 (l0[m]'hml).f2.length 0 k acc (by omega) (by omega)
    have e0 : ((0 : Nat) : Int) = 0 := rfl
    rw [e0] at hin
    have hlen : (acc ++ ((l0[m]'hml).f2.drop 0).map fun i => (l0[m]'hml).f0 ++ [i]).length = acc.length + (l0[m]'hml).f2.length := by simp
    rw [hin, wrT m (by have := hs.1; omega), ref_open_out l0 hs d (m + 1) k _ (by omega) (by rw [hlen]; omega) (by omega), List.drop_zero, List.drop_eq_getElem_cons hml]
    unfold tree_Open.all
    rw [List.flatMap_cons, List.append_assoc]
    rfl
theorem ref_open (l0 : List Ch) (hs : SmallT l0) (K : Nat) (hK : 7000 ≤ K) : spinneyref21_Open.f K l0 = some (tree_Open.all l0) := by
  have h := ref_open_out l0 hs l0.length 0 K [] (by omega) (by have := hs.1; simp only [List.length_nil]; omega) (by have := hs.1; omega)
  have e0 : ((0 : Nat) : Int) = 0 := rfl
  rw [e0, List.nil_append, List.drop_zero] at h
  unfold spinneyref21_Open.f
  exact h
theorem our_open (l0 : List Ch) (hs : SmallT l0) (K : Nat) : tree_Open.f K l0 = some (tree_Open.all l0) := by
  unfold tree_Open.f
  rw [if_pos hs.fits]
theorem ref_count (l0 : List Ch) (hs : SmallT l0) (K : Nat) (hK : 7000 ≤ K) : spinneyref21_Count.f K l0 = some ((tree_Open.all l0).length : Int) := by
  unfold spinneyref21_Count.f
  rw [ref_open l0 hs K hK]
  rfl
/-- how many places the choices have open -/
def total (l0 : List Ch) : Nat := (tree_Open.all l0).length
theorem total_cons (c : Ch) (l : List Ch) : total (c :: l) = c.f2.length + total l := by
  unfold total tree_Open.all
  rw [List.flatMap_cons, List.length_append]
  simp [tree_Open.one]
theorem our_count_in (l0 : List Ch) (hs : SmallT l0) : ∀ (d m K x : Nat), m + d = l0.length → x + 50 * d ≤ 100000 → d < K →
    tree_Count.l0 K (x : Int) l0 (l0.length : Int) (m : Int) = some ((x + total (l0.drop m) : Nat) : Int)
  | 0, m, K, x, hm, hx, hK => by
    obtain ⟨k, rfl⟩ : ∃ k, K = k + 1 := ⟨K - 1, by omega⟩
    have g : ¬ ((m : Int) < (l0.length : Int)) := by omega
    rw [tree_Count.l0, if_neg g, List.drop_eq_nil_of_le (by omega)]
    simp [total, tree_Open.all]
  | d + 1, m, K, x, hm, hx, hK => by
    obtain ⟨k, rfl⟩ : ∃ k, K = k + 1 := ⟨K - 1, by omega⟩
    have hml : m < l0.length := by omega
    have g : ((m : Int) < (l0.length : Int)) := by omega
    have g0 : (0 : Int) ≤ (m : Int) := by omega
    have hc := hs.2 (l0[m]'hml) (List.getElem_mem hml)
    have hr : rd_T39 l0 (m : Int) = l0[m]'hml := by unfold rd_T39; simp [List.getD_eq_getElem?_getD, hml]
    have hw : wrap64 ((x : Int) + ((l0[m]'hml).f2.length : Int)) = ((x + (l0[m]'hml).f2.length : Nat) : Int) := by unfold wrap64; omega
    rw [tree_Count.l0, if_pos g, if_pos g0, if_pos g, hr, hw, wrT m (by have := hs.1; omega), our_count_in l0 hs d (m + 1) k _ (by omega) (by omega) (by omega), List.drop_eq_getElem_cons hml, total_cons]
    congr 2
    omega
theorem our_count (l0 : List Ch) (hs : SmallT l0) (K : Nat) (hK : 101 ≤ K) : tree_Count.f K l0 = some ((tree_Open.all l0).length : Int) := by
  have h := our_count_in l0 hs l0.length 0 K 0 (by omega) (by have := hs.1; omega) (by have := hs.1; omega)
  have e0 : ((0 : Nat) : Int) = 0 := rfl
  rw [e0, List.drop_zero, Nat.zero_add] at h
  unfold tree_Count.f
  exact h

end Go.Proofs.Ytfcmbflpefhpaaa.Pure
set_option linter.unusedVariables false
set_option linter.unusedSimpArgs false
namespace Go.Proofs.Ytfcmbflpefhpaaa.Pure
open Go Go.Own Go.RowKit Go.Proofs.Ytfcmbflpefhpaaa.P Go.Proofs.YtfcmbflpefhpaaaW.PrintWords Go.Proofs.YtfcmbflpefhpaaaW.PrintLast

theorem cmpint_eq (a b : Int) : cmp_Compare_int.f a b = some (cmpI a b) := by
  unfold cmp_Compare_int.f cmp_isNaN_int.f cmpI
  simp
  split
  · rfl
  · split <;> rfl
theorem label_Compare_eq (k : Nat) (a b : List Int) : label_Compare.f (k + 1) a b = some (cmpL a b) := by
  unfold label_Compare.f label_parts.f
  simp only [Option.bind_some, label_Compare.j0, cmpint_eq, rd, Int.toNat_natCast]
  rw [cmp_parts]
  have c0 : (0 : Int) ≤ (partsL a b : Nat) := by omega
  by_cases h1 : partsL a b < a.length
  · have c1 : ((partsL a b : Nat) : Int) < (a.length : Int) := by omega
    by_cases h2 : partsL a b < b.length
    · have c2 : ((partsL a b : Nat) : Int) < (b.length : Int) := by omega
      simp only [c0, c1, c2, h1, h2, and_self, if_true, decide_true]
    · have c2 : ¬ ((partsL a b : Nat) : Int) < (b.length : Int) := by omega
      simp only [c1, c2, h1, h2, and_false, if_true, if_false, decide_false, Bool.false_eq_true]
  · have c1 : ¬ ((partsL a b : Nat) : Int) < (a.length : Int) := by omega
    simp only [c1, h1, false_and, if_false, Bool.false_eq_true]
theorem label_Left_eq (a b : List Int) : label_Left.f a b = some (leftL a b) := by
  unfold label_Left.f label_parts.f
  simp only [Option.bind_some, rd, Int.toNat_natCast]
  rw [left_parts]
  have c0 : (0 : Int) ≤ (partsL a b : Nat) := by omega
  by_cases h1 : partsL a b < a.length
  · have c1 : ((partsL a b : Nat) : Int) < (a.length : Int) := by omega
    by_cases h2 : partsL a b < b.length
    · have c2 : ((partsL a b : Nat) : Int) < (b.length : Int) := by omega
      simp only [c0, c1, c2, h1, h2, and_self, if_true]
      first | rfl | (congr 1; simp)
    · have c2 : ¬ ((partsL a b : Nat) : Int) < (b.length : Int) := by omega
      simp only [c1, c2, h1, h2, and_false, if_true, if_false]
  · have c1 : ¬ ((partsL a b : Nat) : Int) < (a.length : Int) := by omega
    simp only [c1, h1, false_and, if_false]
theorem label_Pruned_eq (a b : List Int) (d : Int) : label_Pruned.f a b d = some (prunedL a b d) := by
  unfold label_Pruned.f label_parts.f prunedL
  rw [label_Left_eq]
  simp only [Option.bind_some]
  have : mn d (b.length : Int) = min d (b.length : Int) := by unfold mn; omega
  rw [this]
  by_cases h : leftL b a = true
  · rw [if_pos h, h]; simp
  · rw [if_neg h]; simp at h; simp [h]
end Go.Proofs.Ytfcmbflpefhpaaa.Pure
set_option linter.unusedVariables false
set_option linter.unusedSimpArgs false
namespace Go.Proofs.Ytfcmbflpefhpaaa.Pure
open Go Go.Own Go.RowKit Go.Proofs.Ytfcmbflpefhpaaa.P Go.Proofs.YtfcmbflpefhpaaaW.PrintWords Go.Proofs.YtfcmbflpefhpaaaW.PrintLast

theorem rd_cons (x : Int) (l : List Int) : rd (x :: l) 0 = x := rfl
theorem ref_Compare_eq (a : List Int) : ∀ (b : List Int) (k : Nat), 2 * a.length + 2 ≤ k → spinneyref19_Compare.f k a b = some (cmpL a b) := by
  induction a with
  | nil =>
    intro b k hk
    obtain ⟨k, rfl⟩ : ∃ j, k = j + 1 + 1 := ⟨k - 2, by simp at hk; omega⟩
    unfold spinneyref19_Compare.f
    rw [if_pos (by simp)]
    unfold spinneyref19_Compare.j0
    cases b with
    | nil => rfl
    | cons y m =>
      rw [if_neg (by simp <;> omega), if_pos (by simp)]
      rfl
  | cons x l ih =>
    intro b k hk
    obtain ⟨k, rfl⟩ : ∃ j, k = j + 1 + 1 := ⟨k - 2, by simp at hk; omega⟩
    unfold spinneyref19_Compare.f
    have n0 : ¬ ((x :: l).length : Int) = 0 := by simp <;> omega
    have n1 : (0 : Int) < ((x :: l).length : Int) := by simp <;> omega
    have n2 : (1 : Int) ≤ ((x :: l).length : Int) := by simp <;> omega
    rw [if_neg n0]
    unfold spinneyref19_Compare.j0
    cases b with
    | nil =>
      rw [if_neg (by simp), if_neg n0, if_pos (by simp)]
      rfl
    | cons y m =>
      have m0 : ¬ ((y :: m).length : Int) = 0 := by simp <;> omega
      have m1 : (0 : Int) < ((y :: m).length : Int) := by simp <;> omega
      have m2 : (1 : Int) ≤ ((y :: m).length : Int) := by simp <;> omega
      rw [if_neg (by simp), if_neg n0, if_neg m0, if_pos n1, if_pos m1, rd_cons, rd_cons, if_pos n2, if_pos m2]
      rw [List.drop_one, List.drop_one, List.tail_cons, List.tail_cons, ih m k (by simp at hk; omega)]
      rw [show cmpL (x :: l) (y :: m) = if x < y then -1 else if x > y then 1 else cmpL l m from rfl]
      split
      · rfl
      · split
        · rfl
        · rfl

end Go.Proofs.Ytfcmbflpefhpaaa.Pure
set_option linter.unusedVariables false
set_option linter.unusedSimpArgs false
namespace Go.Proofs.Ytfcmbflpefhpaaa.Pure
open Go Go.Own Go.RowKit Go.Proofs.Ytfcmbflpefhpaaa.P Go.Proofs.YtfcmbflpefhpaaaW.PrintWords Go.Proofs.YtfcmbflpefhpaaaW.PrintLast

/-- the best so far is none, or one of the choices, with its first place -/
def CorrT (l0 : List Ch) (b : Int) (st : Int × List Int) : Prop := b = st.1 ∧ (b = -1 ∨ ∃ (n : Nat) (h : n < l0.length) (x : Int) (r : List Int), b = (n : Int) ∧ (l0[n]'h).f2 = x :: r ∧ st.2 = (l0[n]'h).f0 ++ [x])
theorem least_both (l0 : List Ch) (hs : SmallT l0) : ∀ (d m K Kc : Nat) (b : Int) (st : Int × List Int), m + d = l0.length → d + 200 < K → 1 ≤ Kc → CorrT l0 b st →
    ∃ st2, tree_Least.go Kc (l0.drop m) (m : Int) st = some st2 ∧ CorrT l0 st2.1 st2 ∧ spinneyref21_Least.l0 K l0 b l0 (l0.length : Int) (m : Int) = some st2.1
  | 0, m, K, Kc, b, st, hm, hK, hKc, hc => by
    obtain ⟨k, rfl⟩ : ∃ k, K = k + 1 := ⟨K - 1, by omega⟩
    have g : ¬ ((m : Int) < (l0.length : Int)) := by omega
    have e := hc.1
    subst e
    refine ⟨st, ?_, hc, ?_⟩
    · rw [List.drop_eq_nil_of_le (by omega)]; rfl
    · rw [spinneyref21_Least.l0, if_neg g]
  | d + 1, m, K, Kc, b, st, hm, hK, hKc, hc => by
    obtain ⟨k, rfl⟩ : ∃ k, K = k + 1 := ⟨K - 1, by omega⟩
    obtain ⟨kc, rfl⟩ : ∃ kc, Kc = kc + 1 := ⟨Kc - 1, by omega⟩
    have hml : m < l0.length := by omega
    have g : ((m : Int) < (l0.length : Int)) := by omega
    have g0 : (0 : Int) ≤ (m : Int) := by omega
    have hb := hs.2 (l0[m]'hml) (List.getElem_mem hml)
    have rdT : ∀ (n : Nat) (h : n < l0.length), rd_T39 l0 (n : Int) = l0[n]'h := fun n h => by unfold rd_T39; simp [List.getD_eq_getElem?_getD, h]
    have ew : (m : Int) + 1 = ((m + 1 : Nat) : Int) := by omega
    rw [spinneyref21_Least.l0, if_pos g, if_pos g0, if_pos g, rdT m hml, wrT m (by have := hs.1; omega), List.drop_eq_getElem_cons hml]
    simp only [tree_Least.go]
    rw [ew]
    cases hL : (l0[m]'hml).f2 with
    | nil =>
      rw [if_pos (by rfl)]
      obtain ⟨st2, h1, h2, h3⟩ := least_both l0 hs d (m + 1) k (kc + 1) b st (by omega) (by omega) (by omega) hc
      refine ⟨st2, ?_, h2, h3⟩
      unfold tree_Least.step
      rw [hL]
      exact h1
    | cons x r =>
      have hne : ¬ ((((x :: r).length : Nat) : Int) = 0) := by simp only [List.length_cons]; omega
      have hp : 0 < (((x :: r).length : Nat) : Int) := by simp only [List.length_cons]; omega
      rw [if_neg hne]
      have hstep : tree_Least.step (kc + 1) (m : Int) (l0[m]'hml) st = if st.1 < 0 then some ((m : Int), (l0[m]'hml).f0 ++ [x]) else (label_Compare.f (kc + 1) ((l0[m]'hml).f0 ++ [x]) st.2).bind fun r2 => some (if r2 < 0 then ((m : Int), (l0[m]'hml).f0 ++ [x]) else st) := by
        unfold tree_Least.step
        rw [hL]
      have hnew : CorrT l0 (m : Int) ((m : Int), (l0[m]'hml).f0 ++ [x]) := ⟨rfl, .inr ⟨m, hml, x, r, rfl, hL, rfl⟩⟩
      rw [hstep]
      obtain ⟨he, hcase⟩ := hc
      rcases hcase with hneg | ⟨n, hn, y, ys, hbn, hLn, hst⟩
      · have q : b < 0 := by omega
        have q2 : st.1 < 0 := by omega
        rw [if_pos q, if_pos q2]
        simp only [Option.bind_some]
        obtain ⟨st2, h1, h2, h3⟩ := least_both l0 hs d (m + 1) k (kc + 1) (m : Int) _ (by omega) (by omega) (by omega) hnew
        exact ⟨st2, h1, h2, h3⟩
      · have q : ¬ b < 0 := by omega
        have q2 : ¬ st.1 < 0 := by omega
        have hbb := hs.2 (l0[n]'hn) (List.getElem_mem hn)
        have p0 : (0 : Int) ≤ b := by omega
        have p1 : b < (l0.length : Int) := by omega
        have hp2 : 0 < (((y :: ys).length : Nat) : Int) := by simp only [List.length_cons]; omega
        have r0 : rd (x :: r) 0 = x := rfl
        have r1 : rd (y :: ys) 0 = y := rfl
        rw [if_neg q, if_neg q2, if_pos hp, r0, ref_next _ _ hb.1]
        simp only [Option.bind_some]
        rw [if_pos p0, if_pos p1, hbn, rdT n hn, hLn, if_pos hp2, r1, ref_next _ _ hbb.1]
        simp only [Option.bind_some]
        rw [label_Compare_eq kc, ref_Compare_eq _ _ k (by rw [List.length_append]; simp only [List.length_cons, List.length_nil]; omega), ← hst]
        simp only [Option.bind_some]
        by_cases hr : cmpL ((l0[m]'hml).f0 ++ [x]) st.2 < 0
        · rw [if_pos hr, if_pos hr]
          exact least_both l0 hs d (m + 1) k (kc + 1) (m : Int) _ (by omega) (by omega) (by omega) hnew
        · rw [if_neg hr, if_neg hr]
          exact least_both l0 hs d (m + 1) k (kc + 1) (n : Int) st (by omega) (by omega) (by omega) ⟨by omega, .inr ⟨n, hn, y, ys, rfl, hLn, hst⟩⟩

end Go.Proofs.Ytfcmbflpefhpaaa.Pure
set_option linter.unusedVariables false
set_option linter.unusedSimpArgs false
namespace Go.Proofs.Ytfcmbflpefhpaaa.Pure
open Go Go.Own Go.RowKit Go.Proofs.Ytfcmbflpefhpaaa.P Go.Proofs.YtfcmbflpefhpaaaW.PrintWords Go.Proofs.YtfcmbflpefhpaaaW.PrintLast

theorem cmpL_self : ∀ a : List Int, cmpL a a = 0
  | [] => rfl
  | x :: l => by
    unfold cmpL
    rw [if_neg (by omega), if_neg (by omega), cmpL_self l]
theorem sameAll_self (ls : List (List Int)) (hl : ls.length ≤ 100000) (hx : ∀ a ∈ ls, a.length ≤ 51) : ∀ (d j K : Nat), j + d = ls.length → d + 200 < K →
    spinneyref19_SameAll.l0 K ls ls (ls.length : Int) (j : Int) = some true
  | 0, j, K, hj, hK => by
    obtain ⟨k, rfl⟩ : ∃ k, K = k + 1 := ⟨K - 1, by omega⟩
    have g : ¬ ((j : Int) < (ls.length : Int)) := by omega
    rw [spinneyref19_SameAll.l0, if_neg g]
  | d + 1, j, K, hj, hK => by
    obtain ⟨k, rfl⟩ : ∃ k, K = k + 1 := ⟨K - 1, by omega⟩
    have hjl : j < ls.length := by omega
    have g : ((j : Int) < (ls.length : Int)) := by omega
    have g0 : (0 : Int) ≤ (j : Int) := by omega
    have hr : rd_L1 ls (j : Int) = ls[j]'hjl := by unfold rd_L1; simp [List.getD_eq_getElem?_getD, hjl]
    have hlen := hx (ls[j]'hjl) (List.getElem_mem hjl)
    rw [spinneyref19_SameAll.l0, if_pos g, if_pos g0, if_pos g, if_pos g, hr, ref_Compare_eq _ _ k (by omega), cmpL_self]
    simp only [Option.bind_some]
    rw [if_pos trivial, wrT j (by omega)]
    exact sameAll_self ls hl hx d (j + 1) k (by omega) (by omega)
theorem sameAll (ls : List (List Int)) (hl : ls.length ≤ 100000) (hx : ∀ a ∈ ls, a.length ≤ 51) (K : Nat) (hK : ls.length + 200 < K) : spinneyref19_SameAll.f K ls ls = some true := by
  have h := sameAll_self ls hl hx ls.length 0 K (by omega) hK
  have e0 : ((0 : Nat) : Int) = 0 := rfl
  rw [e0] at h
  unfold spinneyref19_SameAll.f
  rw [if_pos rfl, h]
theorem all_short (l0 : List Ch) (hs : SmallT l0) : ∀ a ∈ tree_Open.all l0, a.length ≤ 51 := by
  intro a ha
  unfold tree_Open.all at ha
  obtain ⟨c, hc, hac⟩ := List.mem_flatMap.1 ha
  unfold tree_Open.one at hac
  obtain ⟨i, -, rfl⟩ := List.mem_map.1 hac
  have := (hs.2 c hc).1
  rw [List.length_append]
  simp only [List.length_cons, List.length_nil]
  omega
theorem bigT_in (l0 : List Ch) (hl : l0.length ≤ 100) : ∀ (d m K : Nat), m + d = l0.length → d < K →
    ∃ b, spinneylaw21_big.l0 K l0 (l0.length : Int) (m : Int) = some b ∧ (b = false → ∀ c ∈ l0.drop m, (c.f0.length ≤ 50 ∧ c.f2.length ≤ 50) ∧ c.f1.f0 = [] ∧ c.f1.f1 = [])
  | 0, m, K, hm, hK => by
    obtain ⟨k, rfl⟩ : ∃ k, K = k + 1 := ⟨K - 1, by omega⟩
    have g : ¬ ((m : Int) < (l0.length : Int)) := by omega
    refine ⟨false, by rw [spinneylaw21_big.l0, if_neg g], fun _ c hc => ?_⟩
    rw [List.drop_eq_nil_of_le (by omega)] at hc
    cases hc
  | d + 1, m, K, hm, hK => by
    obtain ⟨k, rfl⟩ : ∃ k, K = k + 1 := ⟨K - 1, by omega⟩
    have hml : m < l0.length := by omega
    have g : ((m : Int) < (l0.length : Int)) := by omega
    have g0 : (0 : Int) ≤ (m : Int) := by omega
    have hr : rd_T39 l0 (m : Int) = l0[m]'hml := by unfold rd_T39; simp [List.getD_eq_getElem?_getD, hml]
    rw [spinneylaw21_big.l0, if_pos g, if_pos g0, if_pos g, hr]
    have no : ∀ b : Bool, b = true → (b = false → ∀ c ∈ l0.drop m, (c.f0.length ≤ 50 ∧ c.f2.length ≤ 50) ∧ c.f1.f0 = [] ∧ c.f1.f1 = []) := fun b hb h => by rw [hb] at h; cases h
    by_cases c1 : (((l0[m]'hml).f0.length : Nat) : Int) > 50
    · exact ⟨true, by rw [if_pos c1], no true rfl⟩
    rw [if_neg c1]
    by_cases c2 : (((l0[m]'hml).f2.length : Nat) : Int) > 50
    · exact ⟨true, by rw [if_pos c2], no true rfl⟩
    rw [if_neg c2]
    by_cases c3 : (((l0[m]'hml).f1.f0.length : Nat) : Int) > 0
    · exact ⟨true, by rw [if_pos c3], no true rfl⟩
    rw [if_neg c3]
    by_cases c4 : (((l0[m]'hml).f1.f1.length : Nat) : Int) > 0
    · exact ⟨true, by rw [if_pos c4], no true rfl⟩
    rw [if_neg c4, wrT m (by omega)]
    obtain ⟨b, h1, h2⟩ := bigT_in l0 hl d (m + 1) k (by omega) (by omega)
    refine ⟨b, h1, fun hb c hc => ?_⟩
    rw [List.drop_eq_getElem_cons hml] at hc
    rcases List.mem_cons.1 hc with rfl | hc
    · exact ⟨by omega, List.length_eq_zero_iff.1 (by omega), List.length_eq_zero_iff.1 (by omega)⟩
    · exact h2 hb c hc
theorem bigT (l0 : List Ch) (by_ : List Int) (K : Nat) (hK : 110 ≤ K) : ∃ b, spinneylaw21_big.f K l0 by_ = some b ∧ (b = false → SmallT l0 ∧ by_.length ≤ 100 ∧ ∀ c ∈ l0, c.f1.f0 = [] ∧ c.f1.f1 = []) := by
  obtain ⟨k, rfl⟩ : ∃ k, K = k + 1 := ⟨K - 1, by omega⟩
  have jt : spinneylaw21_big.j0 (k + 1) l0 true = some true := by rw [spinneylaw21_big.j0, if_pos rfl]
  unfold spinneylaw21_big.f
  by_cases g : ((l0.length : Int) > 100)
  · exact ⟨true, by rw [if_pos g, jt], fun h => by cases h⟩
  · rw [if_neg g]
    by_cases g2 : ((by_.length : Int) > 100)
    · exact ⟨true, by rw [decide_eq_true g2, jt], fun h => by cases h⟩
    · have nt : ¬ (false = true) := by decide
      rw [decide_eq_false g2, spinneylaw21_big.j0, if_neg nt]
      obtain ⟨b, h1, h2⟩ := bigT_in l0 (by omega) l0.length 0 k (by omega) (by omega)
      have e0 : ((0 : Nat) : Int) = 0 := rfl
      rw [e0] at h1
      refine ⟨b, h1, fun hb => ?_⟩
      have h3 := h2 hb
      rw [List.drop_zero] at h3
      exact ⟨⟨by omega, fun c hc => (h3 c hc).1⟩, by omega, fun c hc => (h3 c hc).2⟩
theorem leasts (l0 : List Ch) (hs : SmallT l0) (K Kc : Nat) (hK : 400 ≤ K) (hKc : 1 ≤ Kc) : ∃ b, tree_Least.f Kc l0 = some b ∧ spinneyref21_Least.f K l0 = some b := by
  obtain ⟨st2, h1, -, h3⟩ := least_both l0 hs l0.length 0 K Kc (-1) (-1, []) (by omega) (by have := hs.1; omega) hKc ⟨rfl, .inl rfl⟩
  have e0 : ((0 : Nat) : Int) = 0 := rfl
  rw [e0, List.drop_zero] at h1
  rw [e0] at h3
  have hf : tree_Least.fits l0 := ⟨by have := hs.1; omega, fun c hc => by have := hs.2 c hc; omega⟩
  refine ⟨st2.1, ?_, ?_⟩
  · unfold tree_Least.f
    rw [if_pos hf, h1]
    rfl
  · unfold spinneyref21_Least.f
    exact h3

end Go.Proofs.Ytfcmbflpefhpaaa.Pure
set_option linter.unusedVariables false
set_option linter.unusedSimpArgs false
namespace Go.Proofs.Ytfcmbflpefhpaaa.Pure
open Go Go.Own Go.RowKit Go.Proofs.Ytfcmbflpefhpaaa.P Go.Proofs.YtfcmbflpefhpaaaW.PrintWords Go.Proofs.YtfcmbflpefhpaaaW.PrintLast

def MinT (l0 : List Ch) (m : Nat) (st : Int × List Int) : Prop := ∀ (n : Nat) (h : n < l0.length), n < m → ∀ x r, (l0[n]'h).f2 = x :: r → 0 ≤ st.1 ∧ cmpL st.2 ((l0[n]'h).f0 ++ [x]) ≤ 0
theorem least_min (l0 : List Ch) : ∀ (d m Kc : Nat) (st st2 : Int × List Int), m + d = l0.length → tree_Least.go (Kc + 1) (l0.drop m) (m : Int) st = some st2 → MinT l0 m st → MinT l0 l0.length st2
  | 0, m, Kc, st, st2, hm, hg, hM => by
    rw [List.drop_eq_nil_of_le (by omega)] at hg
    obtain rfl : st = st2 := Option.some.inj hg
    have e : m = l0.length := by omega
    rw [← e]; exact hM
  | d + 1, m, Kc, st, st2, hm, hg, hM => by
    have hml : m < l0.length := by omega
    have ew : (m : Int) + 1 = ((m + 1 : Nat) : Int) := by omega
    rw [List.drop_eq_getElem_cons hml] at hg
    simp only [tree_Least.go] at hg
    rw [ew] at hg
    obtain ⟨s1, h1, h2⟩ := Option.bind_eq_some_iff.1 hg
    refine least_min l0 d (m + 1) Kc s1 st2 (by omega) h2 ?_
    unfold tree_Least.step at h1
    cases hL : (l0[m]'hml).f2 with
    | nil =>
      rw [hL] at h1
      obtain rfl : st = s1 := Option.some.inj h1
      intro n hn hnm x r hx
      rcases Nat.lt_or_ge n m with h | h
      · exact hM n hn h x r hx
      · have e : n = m := by omega
        subst e
        rw [hL] at hx; cases hx
    | cons y ys =>
      rw [hL] at h1
      dsimp only at h1
      have self : ∀ n (hn : n < l0.length), n = m → ∀ x r, (l0[n]'hn).f2 = x :: r → (l0[n]'hn).f0 ++ [x] = (l0[m]'hml).f0 ++ [y] := by
        intro n hn e x r hx
        subst e
        rw [hL] at hx
        injection hx with e1 e2
        rw [e1]
      by_cases hneg : st.1 < 0
      · rw [if_pos hneg] at h1
        obtain rfl := Option.some.inj h1
        intro n hn hnm x r hx
        rcases Nat.lt_or_ge n m with h | h
        · exact absurd (hM n hn h x r hx).1 (by omega)
        · refine ⟨by show (0 : Int) ≤ (m : Int); omega, ?_⟩
          rw [self n hn (by omega) x r hx]
          show cmpL ((l0[m]'hml).f0 ++ [y]) ((l0[m]'hml).f0 ++ [y]) ≤ 0
          rw [cmpL_self]
          exact Int.le_refl 0
      · rw [if_neg hneg, label_Compare_eq Kc] at h1
        simp only [Option.bind_some] at h1
        by_cases hr : cmpL ((l0[m]'hml).f0 ++ [y]) st.2 < 0
        · rw [if_pos hr] at h1
          obtain rfl := Option.some.inj h1
          intro n hn hnm x r hx
          refine ⟨by show (0 : Int) ≤ (m : Int); omega, ?_⟩
          show cmpL ((l0[m]'hml).f0 ++ [y]) ((l0[n]'hn).f0 ++ [x]) ≤ 0
          rcases Nat.lt_or_ge n m with h | h
          · exact cmp_trans _ _ _ (Int.le_of_lt hr) (hM n hn h x r hx).2
          · rw [self n hn (by omega) x r hx, cmpL_self]
            exact Int.le_refl 0
        · rw [if_neg hr] at h1
          obtain rfl := Option.some.inj h1
          intro n hn hnm x r hx
          rcases Nat.lt_or_ge n m with h | h
          · exact hM n hn h x r hx
          · refine ⟨by omega, ?_⟩
            rw [self n hn (by omega) x r hx, cmp_anti]
            omega
/-- what Least tells: a choice whose first place is behind none; or none is open -/
theorem least_tells (l0 : List Ch) (hs : SmallT l0) (Kc : Nat) : ∃ st2, tree_Least.f (Kc + 1) l0 = some st2.1 ∧ CorrT l0 st2.1 st2 ∧ MinT l0 l0.length st2 := by
  obtain ⟨st2, h1, h2, -⟩ := least_both l0 hs l0.length 0 (l0.length + 300) (Kc + 1) (-1) (-1, []) (by omega) (by omega) (by omega) ⟨rfl, .inl rfl⟩
  have hM := least_min l0 l0.length 0 Kc (-1, []) st2 (by omega) h1 (fun n hn h => absurd h (by omega))
  have e0 : ((0 : Nat) : Int) = 0 := rfl
  rw [e0, List.drop_zero] at h1
  have hf : tree_Least.fits l0 := ⟨by have := hs.1; omega, fun c hc => by have := hs.2 c hc; omega⟩
  refine ⟨st2, ?_, h2, hM⟩
  unfold tree_Least.f
  rw [if_pos hf, h1]
  rfl

end Go.Proofs.Ytfcmbflpefhpaaa.Pure
set_option linter.unusedVariables false
set_option linter.unusedSimpArgs false
namespace Go.Proofs.Ytfcmbflpefhpaaa.Pure
open Go Go.Own Go.RowKit Go.Proofs.Ytfcmbflpefhpaaa.P Go.Proofs.YtfcmbflpefhpaaaW.PrintWords Go.Proofs.YtfcmbflpefhpaaaW.PrintLast

theorem least_loop (l0 : List Ch) (hs : SmallT l0) (up : Bool) (P : List Int) (hP : P.length ≤ 51) (hM : ∀ (n : Nat) (h : n < l0.length), ∀ x r, (l0[n]'h).f2 = x :: r → cmpL P ((l0[n]'h).f0 ++ [x]) ≤ 0) : ∀ (d m K : Nat), m + d = l0.length → d + 200 < K →
    spinneylaw21_TreeLeast.l0 K up P l0 (l0.length : Int) (m : Int) = some up
  | 0, m, K, hm, hK => by
    obtain ⟨k, rfl⟩ : ∃ k, K = k + 1 := ⟨K - 1, by omega⟩
    have g : ¬ ((m : Int) < (l0.length : Int)) := by omega
    rw [spinneylaw21_TreeLeast.l0, if_neg g]
  | d + 1, m, K, hm, hK => by
    obtain ⟨k, rfl⟩ : ∃ k, K = k + 1 := ⟨K - 1, by omega⟩
    have hml : m < l0.length := by omega
    have g : ((m : Int) < (l0.length : Int)) := by omega
    have g0 : (0 : Int) ≤ (m : Int) := by omega
    have hr : rd_T39 l0 (m : Int) = l0[m]'hml := by unfold rd_T39; simp [List.getD_eq_getElem?_getD, hml]
    have hl := hs.1
    have hc := hs.2 (l0[m]'hml) (List.getElem_mem hml)
    rw [spinneylaw21_TreeLeast.l0, if_pos g, if_pos g0, if_pos g, hr, wrT m (by omega)]
    have ih := least_loop l0 hs up P hP hM d (m + 1) k (by omega) (by omega)
    cases hf : (l0[m]'hml).f2 with
    | nil =>
      rw [if_neg (by simp)]
      exact ih
    | cons x r =>
      have n1 : (((x :: r).length : Nat) : Int) > 0 := by simp
      have n2 : (0 : Int) < (((x :: r).length : Nat) : Int) := n1
      rw [if_pos n1, if_pos n2, rd_cons, ref_next _ _ hc.1, Option.bind_some]
      have hlen : ((l0[m]'hml).f0 ++ [x]).length ≤ 51 := by rw [List.length_append]; simp only [List.length_cons, List.length_nil]; omega
      rw [ref_Compare_eq _ _ k (by omega), Option.bind_some]
      have h3 := hM m hml x r hf
      rw [cmp_anti P, if_neg (by omega)]
      exact ih
theorem TreeLeast : spinneylaw21_TreeLeast.Pure := by
  intro l0 _ _
  obtain ⟨b, hb, hs⟩ := bigT l0 [] 10001 (by omega)
  refine ⟨10001, ?_⟩
  unfold spinneylaw21_TreeLeast.f
  rw [show spinneylaw21_live.f = some true from rfl, Option.bind_some, hb, Option.bind_some]
  cases b with
  | true => rw [if_pos rfl]
  | false =>
    have hs := (hs rfl).1
    have hlen := SmallT.len hs.2
    have hl := hs.1
    obtain ⟨st2, h1, ⟨hc1, hc2⟩, hM⟩ := least_tells l0 hs 10000
    rw [if_neg (by decide), our_count l0 hs 10001 (by omega), Option.bind_some, our_open l0 hs, Option.bind_some, if_pos rfl, h1, Option.bind_some]
    rcases hc2 with hn | ⟨n, hnl, x, r, hb1, hf, hst⟩
    · have g : st2.1 < 0 := by rw [hn]; decide
      rw [if_pos g, if_pos rfl]
      have hz : tree_Open.all l0 = [] := by
        unfold tree_Open.all
        rw [List.flatMap_eq_nil_iff]
        intro c hc
        obtain ⟨n, hnl, rfl⟩ := List.getElem_of_mem hc
        unfold tree_Open.one
        cases hf : (l0[n]'hnl).f2 with
        | nil => rfl
        | cons x r =>
          have := (hM n hnl hnl x r hf).1
          omega
      rw [hz]
      rfl
    · have g : ¬ st2.1 < 0 := by rw [hb1]; omega
      have g1 : ¬ st2.1 ≥ (l0.length : Int) := by rw [hb1]; omega
      have g2 : 0 ≤ st2.1 := by omega
      have g3 : st2.1 < (l0.length : Int) := by omega
      have hr : rd_T39 l0 st2.1 = l0[n]'hnl := by rw [hb1]; unfold rd_T39; simp [List.getD_eq_getElem?_getD, hnl]
      have hc := hs.2 (l0[n]'hnl) (List.getElem_mem hnl)
      have n2 : (0 : Int) < (((x :: r).length : Nat) : Int) := by simp
      have n3 : ((((x :: r).length : Nat) : Int) == 0) = false := by rw [beq_eq_false_iff_ne]; omega
      rw [if_neg g, if_neg g1, if_pos g2, if_pos g3, hr, hf, n3, spinneylaw21_TreeLeast.j0, if_neg (by decide), if_pos g2, if_pos g3, hr, hf, if_pos n2, rd_cons, ref_next _ _ hc.1, Option.bind_some]
      have hP : ((l0[n]'hnl).f0 ++ [x]).length ≤ 51 := by rw [List.length_append]; simp only [List.length_cons, List.length_nil]; omega
      have hloop := least_loop l0 hs true ((l0[n]'hnl).f0 ++ [x]) hP (fun m hm y s hy => by have h4 := (hM m hm hm y s hy).2; rw [hst] at h4; exact h4) l0.length 0 10000 (by omega) (by omega)
      exact hloop

end Go.Proofs.Ytfcmbflpefhpaaa.Pure
