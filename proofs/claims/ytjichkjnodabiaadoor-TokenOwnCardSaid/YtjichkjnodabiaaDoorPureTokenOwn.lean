/- A token's text is the source's own bytes; an error's place is within the source. -/
import Derived.Test.YtjichkjnodabiaaDoorPx5
import Derived.Test.YtjichkjnodabiaaDoorPx6
set_option linter.unusedVariables false
set_option linter.unusedSimpArgs false
namespace Go.Proofs.YtjichkjnodabiaaDoor.Pure
open Go Go.Own Go.RowKit Go.Proofs.YtjichkjnodabiaaDoor.P Go.Proofs.YtjichkjnodabiaaDoorW.PrintWords Go.Proofs.YtjichkjnodabiaaDoorW.PrintLast

theorem live05 : spinneylaw05_live.f = some true := by decide +kernel
/-- what is left from a place on -/
def sfx (src : ByteArray) (P : Nat) : ByteArray := src.extract P src.size
theorem sfx_size (src : ByteArray) (P : Nat) : (sfx src P).size = src.size - P := by unfold sfx; rw [ByteArray.size_extract]; omega
theorem sfx_zero (src : ByteArray) : sfx src 0 = src := by unfold sfx; simp
theorem sfx_sfx (src : ByteArray) (P n : Nat) : (sfx src P).extract n (sfx src P).size = sfx src (P + n) := by
  unfold sfx
  rw [ByteArray.extract_extract, ByteArray.size_extract]
  congr 1
  omega
theorem sfx_take (src : ByteArray) (P n : Nat) (h : P + n ≤ src.size) : (sfx src P).extract 0 n = src.extract P (P + n) := by
  unfold sfx
  rw [ByteArray.extract_extract]
  congr 1
  · omega
theorem blank_range {s : ByteArray} {n : Nat} (hz : s.size ≠ 0) (h : token_Cut.blank s = some (some n)) : 1 ≤ n ∧ n ≤ s.size := by
  have hpos : 0 < s.size := by omega
  unfold token_Cut.blank at h
  split at h
  · simp only [Option.some.injEq] at h; omega
  · split at h
    · rename_i hb
      simp only [Option.some.injEq] at h
      have hi := Lib.indexByte_ge s.data.toList 10
      split at h
      · omega
      · rename_i h0
        obtain ⟨o, ho⟩ : ∃ o : Nat, Lib.indexByte s.data.toList 10 = o := ⟨(Lib.indexByte s.data.toList 10).toNat, by omega⟩
        rw [ho, Int.toNat_natCast] at h
        subst h
        obtain ⟨ho1, ho2⟩ := Lib.indexByte_some ho
        have ho3 : o < s.data.toList.length := (List.getElem?_eq_some_iff.1 ho1).1
        rw [← Lib.size_eq] at ho3
        refine ⟨?_, by omega⟩
        rcases Nat.eq_zero_or_pos o with rfl | h
        · exfalso
          have h1 : s.data.toList[0]? = some (s[0]'hpos) := by
            rw [List.getElem?_eq_getElem (by rw [← Lib.size_eq]; exact hpos)]; rfl
          rw [h1] at ho1
          have h2 : (s[0]'hpos) = 10 := Option.some.inj ho1
          have hbt : ((s[0]'hpos).toNat : Int) = bt s 0 := bt_at s 0 hpos
          rw [h2, hb] at hbt
          exact absurd hbt (by decide)
        · exact h
    · split at h
      · rename_i hp
        have h2 := token_Cut.hp_two hp
        split at h
        · cases h
        · rename_i hj0
          simp only [Option.some.injEq] at h
          have hr := Lib.index_room _ _ (show 0 ≤ Lib.index (s.extract 2 s.size).data.toList [42, 47] by omega)
          rw [← Lib.size_eq, ByteArray.size_extract] at hr
          simp only [List.length_cons, List.length_nil] at hr
          omega
      · cases h
/-- blanks go on to a place -/
theorem bl_sfx (src : ByteArray) : ∀ (k P : Nat) (gl : Bool), P ≤ src.size → ∃ (ok : Bool) (Q : Nat) (gl2 : Bool), token_Cut.bl k (sfx src P) P gl = (ok, sfx src Q, (Q : Int), gl2) ∧ P ≤ Q ∧ Q ≤ src.size
  | 0, P, gl, h => ⟨true, P, gl, rfl, Nat.le_refl _, h⟩
  | k + 1, P, gl, h => by
    unfold token_Cut.bl
    split
    · exact ⟨true, P, gl, rfl, Nat.le_refl _, h⟩
    · rename_i hz
      split
      · exact ⟨true, P, gl, rfl, Nat.le_refl _, h⟩
      · exact ⟨false, P, gl, rfl, Nat.le_refl _, h⟩
      · rename_i n hb
        obtain ⟨h1, h2⟩ := blank_range hz hb
        rw [sfx_size] at h2
        obtain ⟨ok, Q, gl2, e, hQ, hQ2⟩ := bl_sfx src k (P + n) false (by omega)
        refine ⟨ok, Q, gl2, ?_, by omega, hQ2⟩
        rw [sfx_sfx, show (P : Int) + (n : Int) = ((P + n : Nat) : Int) by omega]
        exact e
theorem own_le {s : ByteArray} {kd : Int} {m : Nat} (hm : m ≤ s.size) {a : Int} {b : ByteArray} {c : Int} {n : Nat} (h : token_Cut.ownT s kd m = some (a, b, c, n)) : n ≤ s.size ∧ a = kd ∧ b = s.extract 0 n ∧ n = m ∧ c = 0 := by
  unfold token_Cut.ownT at h
  split at h
  · cases h
  · simp only [Option.some.injEq, Prod.mk.injEq] at h
    obtain ⟨h1, h2, h3, h4⟩ := h
    subst h4
    exact ⟨hm, h1.symm, h2.symm, rfl, h3.symm⟩
theorem numB_le {s : ByteArray} {a : Int} {b : ByteArray} {c : Int} {n : Nat} (h : token_Cut.numB s = some (a, b, c, n)) : n ≤ s.size ∧ a = 5 := by
  unfold token_Cut.numB at h
  split at h
  · split at h
    · simp only [Option.some.injEq, Prod.mk.injEq] at h
      have := token_Cut.wh_le token_Cut.qdigit s
      omega
    · cases h
  · cases h
theorem num_le {s : ByteArray} {a : Int} {b : ByteArray} {c : Int} {n : Nat} (h : token_Cut.num s = some (a, b, c, n)) : n ≤ s.size ∧ a = 5 := by
  unfold token_Cut.num at h
  rcases token_Cut.cp_some s with hP | ⟨h2, hP⟩
  · rw [hP] at h
    exact numB_le h
  · rw [hP] at h
    dsimp only at h
    split at h
    · rename_i N m hA
      simp only [Option.some.injEq, Prod.mk.injEq] at h
      obtain ⟨h3, -, -, h4⟩ := h
      subst h4
      refine ⟨?_, h3.symm⟩
      unfold token_Cut.numA at hA
      have hrs : (s.extract 2 s.size).size + 2 = s.size := by rw [ByteArray.size_extract]; omega
      obtain ⟨b2, hq, hq2⟩ := token_Cut.hq_some (s.extract 2 s.size)
      have hgo := token_Cut.go_le (s.extract 2 s.size)
      split at hA
      · rename_i hq3
        rw [hq3] at hq
        have := hq2 (Option.some.inj hq).symm
        simp only [Option.some.injEq, Prod.mk.injEq] at hA
        omega
      · split at hA
        · simp only [Option.some.injEq, Prod.mk.injEq] at hA
          omega
        · cases hA
    · exact numB_le h
/-- a token lies within what is left; its text is the source's own bytes, of names, signs, variables and brackets -/
theorem tok_le {s : ByteArray} {gl : Bool} (hz : s.size ≠ 0) {a : Int} {b : ByteArray} {c : Int} {n : Nat} (h : token_Cut.tok s gl = some (a, b, c, n)) : n ≤ s.size ∧ (a = 2 ∨ a = 5 ∨ (b = s.extract 0 n ∧ a ≠ 9 ∧ a ≠ 2 ∧ a ≠ 5)) := by
  have hown : ∀ {kd : Int} {m : Nat}, kd ≠ 9 → kd ≠ 2 → kd ≠ 5 → m ≤ s.size → token_Cut.ownT s kd m = some (a, b, c, n) → n ≤ s.size ∧ (a = 2 ∨ a = 5 ∨ (b = s.extract 0 n ∧ a ≠ 9 ∧ a ≠ 2 ∧ a ≠ 5)) := by
    intro kd m h9 h2 h5 hm ho
    obtain ⟨q1, q2, q3, -, -⟩ := own_le hm ho
    exact ⟨q1, .inr (.inr ⟨q3, by omega, by omega, by omega⟩)⟩
  unfold token_Cut.tok at h
  split at h
  · exact hown (by decide) (by decide) (by decide) (token_Cut.wh_le _ _) h
  · split at h
    · exact hown (by decide) (by decide) (by decide) (token_Cut.wh_le _ _) h
    · split at h
      · obtain ⟨q1, q2⟩ := num_le h; exact ⟨q1, .inr (.inl q2)⟩
      · split at h
        · split at h
          · exact hown (by decide) (by decide) (by decide) (token_Cut.wh_le _ _) h
          · exact hown (by decide) (by decide) (by decide) (token_Cut.wh_le _ _) h
        · split at h
          · split at h <;> exact hown (by decide) (by decide) (by decide) (by omega) h
          · split at h
            · split at h <;> exact hown (by decide) (by decide) (by decide) (by omega) h
            · split at h
              · split at h
                · rename_i t m e hr
                  split at h
                  · rename_i c2
                    obtain ⟨rfl, -⟩ := c2
                    have := token_Cut.rd_range s hr
                    simp only [Option.some.injEq, Prod.mk.injEq] at h
                    exact ⟨by omega, .inl h.1.symm⟩
                  · cases h
                · cases h
              · cases h
/-- the tokens from here on, or the place of the error -/
def cutL : Nat → ByteArray → Int → Bool → Option (List S30) × Int
  | 0, _, _, _ => (some [], 0)
  | k + 1, s, p, gl => match token_Cut.bl s.size s p gl with
    | (false, _, p2, _) => (none, p2)
    | (true, s2, p2, gl2) => if s2.size = 0 then (some [(⟨9, ⟨#[]⟩, 0, p2⟩ : S30)], 0) else match token_Cut.tok s2 gl2 with
      | none => (none, p2)
      | some (kd, tx, N, n) => ((cutL k (s2.extract n s2.size) (p2 + n) (token_Cut.glue kd tx)).1.map ((⟨kd, tx, N, p2⟩ : S30) :: ·), (cutL k (s2.extract n s2.size) (p2 + n) (token_Cut.glue kd tx)).2)
theorem cutF_L : ∀ (k : Nat) (s : ByteArray) (p : Int) (gl : Bool) (l : List S30), s.size < k → token_Cut.cutF k s p gl l = match cutL k s p gl with
    | (some ts, _) => (l ++ ts, 0, 0)
    | (none, q) => ([], q, 50)
  | 0, s, p, gl, l, h => absurd h (Nat.not_lt_zero _)
  | k + 1, s, p, gl, l, h => by
    unfold token_Cut.cutF cutL
    have hle := token_Cut.bl_le s.size s p gl
    rcases hb : token_Cut.bl s.size s p gl with ⟨ok, s2, p2, gl2⟩
    rw [hb] at hle
    dsimp only at hle
    cases ok with
    | false => rfl
    | true =>
      dsimp only
      by_cases hz : s2.size = 0
      · rw [if_pos hz, if_pos hz]
      · rw [if_neg hz, if_neg hz]
        cases ht : token_Cut.tok s2 gl2 with
        | none => rfl
        | some q =>
          obtain ⟨kd, tx, N, n⟩ := q
          dsimp only
          have hp := token_Cut.tok_pos hz ht
          rw [cutF_L k _ _ _ _ (by rw [ByteArray.size_extract]; omega)]
          rcases cutL k (s2.extract n s2.size) (p2 + n) (token_Cut.glue kd tx) with ⟨o, q⟩
          cases o with
          | none => rfl
          | some ts => simp
/-- what holds of each token and of each place -/
theorem cutL_inv (src : ByteArray) (R : S30 → Prop) (h9 : R ⟨9, ⟨#[]⟩, 0, src.size⟩)
    (ht : ∀ (P : Nat) (gl : Bool) (kd : Int) (tx : ByteArray) (N : Int) (n : Nat), P < src.size → token_Cut.tok (sfx src P) gl = some (kd, tx, N, n) → R ⟨kd, tx, N, P⟩) :
    ∀ (k P : Nat) (gl : Bool), P ≤ src.size → src.size - P < k → (∃ ts e, cutL k (sfx src P) P gl = (some ts, e) ∧ (∀ t ∈ ts, R t) ∧ ts.length ≤ src.size - P + 1 ∧ ts ≠ []) ∨ (∃ Q : Nat, cutL k (sfx src P) P gl = (none, (Q : Int)) ∧ P ≤ Q ∧ Q ≤ src.size)
  | 0, P, gl, h, hk => absurd hk (Nat.not_lt_zero _)
  | k + 1, P, gl, h, hk => by
    unfold cutL
    obtain ⟨ok, Q, gl2, hb, hQ, hQ2⟩ := bl_sfx src (sfx src P).size P gl h
    rw [hb]
    cases ok with
    | false => exact .inr ⟨Q, rfl, hQ, hQ2⟩
    | true =>
      dsimp only
      rw [sfx_size]
      by_cases hz : src.size - Q = 0
      · rw [if_pos hz]
        obtain rfl : Q = src.size := by omega
        exact .inl ⟨_, _, rfl, by intro t h; rw [List.mem_singleton] at h; subst h; exact h9, by simp, by simp⟩
      · rw [if_neg hz]
        cases hk2 : token_Cut.tok (sfx src Q) gl2 with
        | none => exact .inr ⟨Q, rfl, hQ, hQ2⟩
        | some q =>
          obtain ⟨kd, tx, N, n⟩ := q
          have hsz : (sfx src Q).size ≠ 0 := by rw [sfx_size]; exact hz
          have hn := (tok_le hsz hk2).1
          have hp := token_Cut.tok_pos hsz hk2
          rw [sfx_size] at hn
          have hR := ht Q gl2 kd tx N n (by omega) hk2
          dsimp only
          have e := sfx_sfx src Q n
          rw [sfx_size] at e
          rw [e, show (Q : Int) + (n : Int) = ((Q + n : Nat) : Int) by omega]
          rcases cutL_inv src R h9 ht k (Q + n) (token_Cut.glue kd tx) (by omega) (by omega) with ⟨ts, e, h1, h2, h3, h4⟩ | ⟨Q2, h1, h2, h3⟩
          · rw [h1]
            refine .inl ⟨_, _, rfl, ?_, ?_, by simp⟩
            · intro t ht
              rcases List.mem_cons.1 ht with rfl | ht
              · exact hR
              · exact h2 t ht
            · simp only [List.length_cons]; omega
          · rw [h1]
            exact .inr ⟨Q2, rfl, by omega, h3⟩
theorem cut_f (src : ByteArray) (h : src.size ≤ 4096) : token_Cut.f src = some (match cutL (src.size + 1) (sfx src 0) ((0 : Nat) : Int) false with
    | (some ts, _) => (ts, 0, 0)
    | (none, q) => ([], q, 50)) := by
  unfold token_Cut.f
  rw [if_neg (by omega), sfx_zero, cutF_L _ _ _ _ _ (Nat.lt_succ_self _)]
  rfl
theorem cut_long (src : ByteArray) (h : 4096 < src.size) : token_Cut.f src = some ([], 0, 2) := by
  unfold token_Cut.f
  rw [if_pos h]

end Go.Proofs.YtjichkjnodabiaaDoor.Pure
set_option linter.unusedVariables false
set_option linter.unusedSimpArgs false
namespace Go.Proofs.YtjichkjnodabiaaDoor.Pure
open Go Go.Own Go.RowKit Go.Proofs.YtjichkjnodabiaaDoor.P Go.Proofs.YtjichkjnodabiaaDoorW.PrintWords Go.Proofs.YtjichkjnodabiaaDoorW.PrintLast

def GoodT (src : ByteArray) (t : S30) : Prop := t.f0 = 2 ∨ t.f0 = 5 ∨ t.f0 = 9 ∨ (1 ≤ t.f1.size ∧ ∃ P : Nat, t.f3 = P ∧ P + t.f1.size ≤ src.size ∧ t.f1 = src.extract P (P + t.f1.size))
theorem own_loop (src : ByteArray) (hsz : src.size ≤ 4096) (l ts : List S30) (hT : ∀ t ∈ ts, GoodT src t) (hlen : ts.length ≤ 5000) : ∀ (n i k : Nat), i + n = ts.length → 2 * n + 1 ≤ k →
    spinneylaw05_TokenOwn.l0 k src true l ts (ts.length : Int) (i : Int) = some (decide ((l.length : Int) ≤ wrap64 ((src.size : Int) + 1)))
  | 0, i, k, hi, hk => by
    obtain ⟨k, rfl⟩ : ∃ j, k = j + 1 := ⟨k - 1, by omega⟩
    unfold spinneylaw05_TokenOwn.l0
    rw [if_neg (by omega), if_pos (by first | rfl | trivial)]
  | n + 1, i, k, hi, hk => by
    obtain ⟨k, rfl⟩ : ∃ j, k = j + 2 := ⟨k - 2, by omega⟩
    have ih := own_loop src hsz l ts hT hlen n (i + 1) k (by omega) (by omega)
    have hw : wrap64 ((i : Int) + 1) = ((i + 1 : Nat) : Int) := by unfold wrap64; omega
    have hm : rd_T30 ts (i : Int) ∈ ts := by
      unfold rd_T30
      rw [Int.toNat_natCast, List.getD_eq_getElem?_getD, List.getElem?_eq_getElem (by omega)]
      exact List.getElem_mem _
    have hG := hT _ hm
    unfold spinneylaw05_TokenOwn.l0
    rw [if_pos (by omega), if_pos (by omega), if_pos (by omega)]
    generalize rd_T30 ts (i : Int) = t at hG
    by_cases c2 : t.f0 = 2
    · rw [if_pos c2]
      unfold spinneylaw05_TokenOwn.j1
      rw [if_pos (by simp [c2]), hw]
      exact ih
    rw [if_neg c2]
    by_cases c5 : t.f0 = 5
    · rw [if_pos c5]
      unfold spinneylaw05_TokenOwn.j1
      rw [if_pos (by simp [c5]), hw]
      exact ih
    rw [if_neg c5]
    unfold spinneylaw05_TokenOwn.j1
    by_cases c9 : t.f0 = 9
    · rw [if_pos (by simp [c9]), hw]
      exact ih
    rcases hG with h | h | h | ⟨h1, P, h2, h3, h4⟩
    · exact absurd h c2
    · exact absurd h c5
    · exact absurd h c9
    have hne : ¬ t.f1.toList = ([] : List UInt8) := by
      intro h
      have : t.f1.size = 0 := by rw [Lib.size_eq, ← Lib.toList_data, h]; rfl
      omega
    have hwp : wrap64 (t.f3 + (t.f1.size : Int)) = ((P + t.f1.size : Nat) : Int) := by rw [h2]; unfold wrap64; omega
    rw [if_neg (by simp [c9]), if_neg hne, hwp, h2, if_neg (by omega), if_neg (by omega), if_pos (by omega), if_pos (by omega), if_pos (by omega), Int.toNat_natCast, Int.toNat_natCast, ← h4, if_pos (by first | rfl | trivial), hw]
    exact ih
theorem TokenOwn : spinneylaw05_TokenOwn.Pure := by
  intro src _
  by_cases hz : 4096 < src.size
  · refine ⟨1, ?_⟩
    unfold spinneylaw05_TokenOwn.f
    rw [live05, cut_long src hz]
    simp
  have hz : src.size ≤ 4096 := by omega
  obtain ⟨K, hK⟩ : ∃ K : Nat, K = 30000 := ⟨_, rfl⟩
  refine ⟨K + 1, ?_⟩
  unfold spinneylaw05_TokenOwn.f
  rw [live05, cut_f src hz]
  rcases cutL_inv src (GoodT src) (.inr (.inr (.inl rfl))) (fun P gl kd tx N n hP ht => by
    have hsz : (sfx src P).size ≠ 0 := by rw [sfx_size]; omega
    obtain ⟨h1, h2⟩ := tok_le hsz ht
    have hp := token_Cut.tok_pos hsz ht
    rw [sfx_size] at h1
    rcases h2 with h2 | h2 | ⟨h2, -⟩
    · exact .inl h2
    · exact .inr (.inl h2)
    · rw [sfx_take src P n (by omega)] at h2
      have hs : tx.size = n := by rw [h2, ByteArray.size_extract]; omega
      exact .inr (.inr (.inr ⟨by show 1 ≤ tx.size; omega, P, rfl, by show P + tx.size ≤ src.size; omega, by show tx = _; rw [hs]; exact h2⟩))) (src.size + 1) 0 false (by omega) (by omega) with ⟨ts, e, h1, h2, h3, h4⟩ | ⟨Q, h1, h2, h3⟩
  · rw [h1]
    simp only [Option.bind_some]
    rw [if_pos (by first | rfl | trivial)]
    have := own_loop src hz ts ts h2 (by omega) ts.length 0 (K + 1) (by omega) (by omega)
    rw [show ((0 : Nat) : Int) = 0 from rfl] at this
    rw [this]
    simp only [Option.some.injEq, decide_eq_true_eq]
    unfold wrap64
    omega
  · rw [h1]
    simp
    omega

end Go.Proofs.YtjichkjnodabiaaDoor.Pure
