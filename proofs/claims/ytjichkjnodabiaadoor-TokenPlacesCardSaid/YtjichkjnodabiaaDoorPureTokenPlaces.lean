/- Cut again from one token on the others are the same. -/
import Derived.Test.YtjichkjnodabiaaDoorPx5
import Derived.Test.YtjichkjnodabiaaDoorPx7
import Derived.Test.YtjichkjnodabiaaDoorPx6
set_option linter.unusedVariables false
set_option linter.unusedSimpArgs false
namespace Go.Proofs.YtjichkjnodabiaaDoor.Pure
open Go Go.Own Go.RowKit Go.Proofs.YtjichkjnodabiaaDoor.P Go.Proofs.YtjichkjnodabiaaDoorW.PrintWords Go.Proofs.YtjichkjnodabiaaDoorW.PrintLast

theorem live05 : spinneylaw05_live.f = some true := by decide +kernel
/-- what is left from a place on -/
def sfx (src : ByteArray) (P : Nat) : ByteArray := src.extract P src.size
theorem sfx_size (src : ByteArray) (P : Nat) : (sfx src P).size = src.size - P := by unfold sfx; rw [ByteArray.size_extract]; omega
theorem sfx_zero (src : ByteArray) : sfx src 0 = src := by unfold sfx; simp
theorem sfx_sfx (src : ByteArray) (P n : Nat) : (sfx src P).extract n (sfx src P).size = sfx src (P + n) := by
  unfold sfx
  rw [ByteArray.extract_extract, ByteArray.size_extract]
  congr 1
  omega
theorem sfx_take (src : ByteArray) (P n : Nat) (h : P + n ≤ src.size) : (sfx src P).extract 0 n = src.extract P (P + n) := by
  unfold sfx
  rw [ByteArray.extract_extract]
  congr 1
  · omega
theorem blank_range {s : ByteArray} {n : Nat} (hz : s.size ≠ 0) (h : token_Cut.blank s = some (some n)) : 1 ≤ n ∧ n ≤ s.size := by
  have hpos : 0 < s.size := by omega
  unfold token_Cut.blank at h
  split at h
  · simp only [Option.some.injEq] at h; omega
  · split at h
    · rename_i hb
      simp only [Option.some.injEq] at h
      have hi := Lib.indexByte_ge s.data.toList 10
      split at h
      · omega
      · rename_i h0
        obtain ⟨o, ho⟩ : ∃ o : Nat, Lib.indexByte s.data.toList 10 = o := ⟨(Lib.indexByte s.data.toList 10).toNat, by omega⟩
        rw [ho, Int.toNat_natCast] at h
        subst h
        obtain ⟨ho1, ho2⟩ := Lib.indexByte_some ho
        have ho3 : o < s.data.toList.length := (List.getElem?_eq_some_iff.1 ho1).1
        rw [← Lib.size_eq] at ho3
        refine ⟨?_, by omega⟩
        rcases Nat.eq_zero_or_pos o with rfl | h
        · exfalso
          have h1 : s.data.toList[0]? = some (s[0]'hpos) := by
            rw [List.getElem?_eq_getElem (by rw [← Lib.size_eq]; exact hpos)]; rfl
          rw [h1] at ho1
          have h2 : (s[0]'hpos) = 10 := Option.some.inj ho1
          have hbt : ((s[0]'hpos).toNat : Int) = bt s 0 := bt_at s 0 hpos
          rw [h2, hb] at hbt
          exact absurd hbt (by decide)
        · exact h
    · split at h
      · rename_i hp
        have h2 := token_Cut.hp_two hp
        split at h
        · cases h
        · rename_i hj0
          simp only [Option.some.injEq] at h
          have hr := Lib.index_room _ _ (show 0 ≤ Lib.index (s.extract 2 s.size).data.toList [42, 47] by omega)
          rw [← Lib.size_eq, ByteArray.size_extract] at hr
          simp only [List.length_cons, List.length_nil] at hr
          omega
      · cases h
/-- blanks go on to a place -/
theorem bl_sfx (src : ByteArray) : ∀ (k P : Nat) (gl : Bool), P ≤ src.size → ∃ (ok : Bool) (Q : Nat) (gl2 : Bool), token_Cut.bl k (sfx src P) P gl = (ok, sfx src Q, (Q : Int), gl2) ∧ P ≤ Q ∧ Q ≤ src.size
  | 0, P, gl, h => ⟨true, P, gl, rfl, Nat.le_refl _, h⟩
  | k + 1, P, gl, h => by
    unfold token_Cut.bl
    split
    · exact ⟨true, P, gl, rfl, Nat.le_refl _, h⟩
    · rename_i hz
      split
      · exact ⟨true, P, gl, rfl, Nat.le_refl _, h⟩
      · exact ⟨false, P, gl, rfl, Nat.le_refl _, h⟩
      · rename_i n hb
        obtain ⟨h1, h2⟩ := blank_range hz hb
        rw [sfx_size] at h2
        obtain ⟨ok, Q, gl2, e, hQ, hQ2⟩ := bl_sfx src k (P + n) false (by omega)
        refine ⟨ok, Q, gl2, ?_, by omega, hQ2⟩
        rw [sfx_sfx, show (P : Int) + (n : Int) = ((P + n : Nat) : Int) by omega]
        exact e
theorem own_le {s : ByteArray} {kd : Int} {m : Nat} (hm : m ≤ s.size) {a : Int} {b : ByteArray} {c : Int} {n : Nat} (h : token_Cut.ownT s kd m = some (a, b, c, n)) : n ≤ s.size ∧ a = kd ∧ b = s.extract 0 n ∧ n = m ∧ c = 0 := by
  unfold token_Cut.ownT at h
  split at h
  · cases h
  · simp only [Option.some.injEq, Prod.mk.injEq] at h
    obtain ⟨h1, h2, h3, h4⟩ := h
    subst h4
    exact ⟨hm, h1.symm, h2.symm, rfl, h3.symm⟩
theorem numB_le {s : ByteArray} {a : Int} {b : ByteArray} {c : Int} {n : Nat} (h : token_Cut.numB s = some (a, b, c, n)) : n ≤ s.size ∧ a = 5 := by
  unfold token_Cut.numB at h
  split at h
  · split at h
    · simp only [Option.some.injEq, Prod.mk.injEq] at h
      have := token_Cut.wh_le token_Cut.qdigit s
      omega
    · cases h
  · cases h
theorem num_le {s : ByteArray} {a : Int} {b : ByteArray} {c : Int} {n : Nat} (h : token_Cut.num s = some (a, b, c, n)) : n ≤ s.size ∧ a = 5 := by
  unfold token_Cut.num at h
  rcases token_Cut.cp_some s with hP | ⟨h2, hP⟩
  · rw [hP] at h
    exact numB_le h
  · rw [hP] at h
    dsimp only at h
    split at h
    · rename_i N m hA
      simp only [Option.some.injEq, Prod.mk.injEq] at h
      obtain ⟨h3, -, -, h4⟩ := h
      subst h4
      refine ⟨?_, h3.symm⟩
      unfold token_Cut.numA at hA
      have hrs : (s.extract 2 s.size).size + 2 = s.size := by rw [ByteArray.size_extract]; omega
      obtain ⟨b2, hq, hq2⟩ := token_Cut.hq_some (s.extract 2 s.size)
      have hgo := token_Cut.go_le (s.extract 2 s.size)
      split at hA
      · rename_i hq3
        rw [hq3] at hq
        have := hq2 (Option.some.inj hq).symm
        simp only [Option.some.injEq, Prod.mk.injEq] at hA
        omega
      · split at hA
        · simp only [Option.some.injEq, Prod.mk.injEq] at hA
          omega
        · cases hA
    · exact numB_le h
/-- a token lies within what is left; its text is the source's own bytes, of names, signs, variables and brackets -/
theorem tok_le {s : ByteArray} {gl : Bool} (hz : s.size ≠ 0) {a : Int} {b : ByteArray} {c : Int} {n : Nat} (h : token_Cut.tok s gl = some (a, b, c, n)) : n ≤ s.size ∧ (a = 2 ∨ a = 5 ∨ (b = s.extract 0 n ∧ a ≠ 9 ∧ a ≠ 2 ∧ a ≠ 5)) := by
  have hown : ∀ {kd : Int} {m : Nat}, kd ≠ 9 → kd ≠ 2 → kd ≠ 5 → m ≤ s.size → token_Cut.ownT s kd m = some (a, b, c, n) → n ≤ s.size ∧ (a = 2 ∨ a = 5 ∨ (b = s.extract 0 n ∧ a ≠ 9 ∧ a ≠ 2 ∧ a ≠ 5)) := by
    intro kd m h9 h2 h5 hm ho
    obtain ⟨q1, q2, q3, -, -⟩ := own_le hm ho
    exact ⟨q1, .inr (.inr ⟨q3, by omega, by omega, by omega⟩)⟩
  unfold token_Cut.tok at h
  split at h
  · exact hown (by decide) (by decide) (by decide) (token_Cut.wh_le _ _) h
  · split at h
    · exact hown (by decide) (by decide) (by decide) (token_Cut.wh_le _ _) h
    · split at h
      · obtain ⟨q1, q2⟩ := num_le h; exact ⟨q1, .inr (.inl q2)⟩
      · split at h
        · split at h
          · exact hown (by decide) (by decide) (by decide) (token_Cut.wh_le _ _) h
          · exact hown (by decide) (by decide) (by decide) (token_Cut.wh_le _ _) h
        · split at h
          · split at h <;> exact hown (by decide) (by decide) (by decide) (by omega) h
          · split at h
            · split at h <;> exact hown (by decide) (by decide) (by decide) (by omega) h
            · split at h
              · split at h
                · rename_i t m e hr
                  split at h
                  · rename_i c2
                    obtain ⟨rfl, -⟩ := c2
                    have := token_Cut.rd_range s hr
                    simp only [Option.some.injEq, Prod.mk.injEq] at h
                    exact ⟨by omega, .inl h.1.symm⟩
                  · cases h
                · cases h
              · cases h
/-- the tokens from here on, or the place of the error -/
def cutL : Nat → ByteArray → Int → Bool → Option (List S30) × Int
  | 0, _, _, _ => (some [], 0)
  | k + 1, s, p, gl => match token_Cut.bl s.size s p gl with
    | (false, _, p2, _) => (none, p2)
    | (true, s2, p2, gl2) => if s2.size = 0 then (some [(⟨9, ⟨#[]⟩, 0, p2⟩ : S30)], 0) else match token_Cut.tok s2 gl2 with
      | none => (none, p2)
      | some (kd, tx, N, n) => ((cutL k (s2.extract n s2.size) (p2 + n) (token_Cut.glue kd tx)).1.map ((⟨kd, tx, N, p2⟩ : S30) :: ·), (cutL k (s2.extract n s2.size) (p2 + n) (token_Cut.glue kd tx)).2)
theorem cutF_L : ∀ (k : Nat) (s : ByteArray) (p : Int) (gl : Bool) (l : List S30), s.size < k → token_Cut.cutF k s p gl l = match cutL k s p gl with
    | (some ts, _) => (l ++ ts, 0, 0)
    | (none, q) => ([], q, 50)
  | 0, s, p, gl, l, h => absurd h (Nat.not_lt_zero _)
  | k + 1, s, p, gl, l, h => by
    unfold token_Cut.cutF cutL
    have hle := token_Cut.bl_le s.size s p gl
    rcases hb : token_Cut.bl s.size s p gl with ⟨ok, s2, p2, gl2⟩
    rw [hb] at hle
    dsimp only at hle
    cases ok with
    | false => rfl
    | true =>
      dsimp only
      by_cases hz : s2.size = 0
      · rw [if_pos hz, if_pos hz]
      · rw [if_neg hz, if_neg hz]
        cases ht : token_Cut.tok s2 gl2 with
        | none => rfl
        | some q =>
          obtain ⟨kd, tx, N, n⟩ := q
          dsimp only
          have hp := token_Cut.tok_pos hz ht
          rw [cutF_L k _ _ _ _ (by rw [ByteArray.size_extract]; omega)]
          rcases cutL k (s2.extract n s2.size) (p2 + n) (token_Cut.glue kd tx) with ⟨o, q⟩
          cases o with
          | none => rfl
          | some ts => simp
/-- what holds of each token and of each place -/
theorem cutL_inv (src : ByteArray) (R : S30 → Prop) (h9 : R ⟨9, ⟨#[]⟩, 0, src.size⟩)
    (ht : ∀ (P : Nat) (gl : Bool) (kd : Int) (tx : ByteArray) (N : Int) (n : Nat), P < src.size → token_Cut.tok (sfx src P) gl = some (kd, tx, N, n) → R ⟨kd, tx, N, P⟩) :
    ∀ (k P : Nat) (gl : Bool), P ≤ src.size → src.size - P < k → (∃ ts e, cutL k (sfx src P) P gl = (some ts, e) ∧ (∀ t ∈ ts, R t) ∧ ts.length ≤ src.size - P + 1 ∧ ts ≠ []) ∨ (∃ Q : Nat, cutL k (sfx src P) P gl = (none, (Q : Int)) ∧ P ≤ Q ∧ Q ≤ src.size)
  | 0, P, gl, h, hk => absurd hk (Nat.not_lt_zero _)
  | k + 1, P, gl, h, hk => by
    unfold cutL
    obtain ⟨ok, Q, gl2, hb, hQ, hQ2⟩ := bl_sfx src (sfx src P).size P gl h
    rw [hb]
    cases ok with
    | false => exact .inr ⟨Q, rfl, hQ, hQ2⟩
    | true =>
      dsimp only
      rw [sfx_size]
      by_cases hz : src.size - Q = 0
      · rw [if_pos hz]
        obtain rfl : Q = src.size := by omega
        exact .inl ⟨_, _, rfl, by intro t h; rw [List.mem_singleton] at h; subst h; exact h9, by simp, by simp⟩
      · rw [if_neg hz]
        cases hk2 : token_Cut.tok (sfx src Q) gl2 with
        | none => exact .inr ⟨Q, rfl, hQ, hQ2⟩
        | some q =>
          obtain ⟨kd, tx, N, n⟩ := q
          have hsz : (sfx src Q).size ≠ 0 := by rw [sfx_size]; exact hz
          have hn := (tok_le hsz hk2).1
          have hp := token_Cut.tok_pos hsz hk2
          rw [sfx_size] at hn
          have hR := ht Q gl2 kd tx N n (by omega) hk2
          dsimp only
          have e := sfx_sfx src Q n
          rw [sfx_size] at e
          rw [e, show (Q : Int) + (n : Int) = ((Q + n : Nat) : Int) by omega]
          rcases cutL_inv src R h9 ht k (Q + n) (token_Cut.glue kd tx) (by omega) (by omega) with ⟨ts, e, h1, h2, h3, h4⟩ | ⟨Q2, h1, h2, h3⟩
          · rw [h1]
            refine .inl ⟨_, _, rfl, ?_, ?_, by simp⟩
            · intro t ht
              rcases List.mem_cons.1 ht with rfl | ht
              · exact hR
              · exact h2 t ht
            · simp only [List.length_cons]; omega
          · rw [h1]
            exact .inr ⟨Q2, rfl, by omega, h3⟩
theorem cut_f (src : ByteArray) (h : src.size ≤ 4096) : token_Cut.f src = some (match cutL (src.size + 1) (sfx src 0) ((0 : Nat) : Int) false with
    | (some ts, _) => (ts, 0, 0)
    | (none, q) => ([], q, 50)) := by
  unfold token_Cut.f
  rw [if_neg (by omega), sfx_zero, cutF_L _ _ _ _ _ (Nat.lt_succ_self _)]
  rfl
theorem cut_long (src : ByteArray) (h : 4096 < src.size) : token_Cut.f src = some ([], 0, 2) := by
  unfold token_Cut.f
  rw [if_pos h]

end Go.Proofs.YtjichkjnodabiaaDoor.Pure
set_option linter.unusedVariables false
set_option linter.unusedSimpArgs false
namespace Go.Proofs.YtjichkjnodabiaaDoor.Pure
open Go Go.Own Go.RowKit Go.Proofs.YtjichkjnodabiaaDoor.P Go.Proofs.YtjichkjnodabiaaDoorW.PrintWords Go.Proofs.YtjichkjnodabiaaDoorW.PrintLast

abbrev TokT := S30
def sh (d : Int) (t : TokT) : TokT := ⟨t.f0, t.f1, t.f2, t.f3 + d⟩
theorem bl_shift (d : Int) : ∀ (k : Nat) (s : ByteArray) (p : Int) (gl : Bool), token_Cut.bl k s (p + d) gl = ((token_Cut.bl k s p gl).1, (token_Cut.bl k s p gl).2.1, (token_Cut.bl k s p gl).2.2.1 + d, (token_Cut.bl k s p gl).2.2.2)
  | 0, s, p, gl => rfl
  | k + 1, s, p, gl => by
    unfold token_Cut.bl
    by_cases hz : s.size = 0
    · simp only [if_pos hz]
    · simp only [if_neg hz]
      rcases token_Cut.blank s with _ | _ | n
      · rfl
      · rfl
      · dsimp only
        rw [show p + d + (n : Int) = (p + n) + d by omega]
        exact bl_shift d k _ _ _
theorem cutL_shift (d : Int) : ∀ (k : Nat) (s : ByteArray) (p : Int) (gl : Bool) (ts : List TokT) (e : Int), cutL k s p gl = (some ts, e) → cutL k s (p + d) gl = (some (ts.map (sh d)), e)
  | 0, s, p, gl, ts, e, h => by
    simp only [cutL, Prod.mk.injEq, Option.some.injEq] at h
    obtain ⟨rfl, rfl⟩ := h
    rfl
  | k + 1, s, p, gl, ts, e, h => by
    unfold cutL at h ⊢
    rw [bl_shift]
    rcases hb : token_Cut.bl s.size s p gl with ⟨ok, s2, p2, gl2⟩
    rw [hb] at h
    cases ok with
    | false => simp at h
    | true =>
      dsimp only at h ⊢
      by_cases hz : s2.size = 0
      · rw [if_pos hz] at h ⊢
        simp only [Prod.mk.injEq, Option.some.injEq] at h
        obtain ⟨rfl, rfl⟩ := h
        rfl
      · rw [if_neg hz] at h ⊢
        cases ht : token_Cut.tok s2 gl2 with
        | none => rw [ht] at h; simp at h
        | some q =>
          obtain ⟨kd, tx, N, n⟩ := q
          rw [ht] at h
          dsimp only at h ⊢
          rcases hc : cutL k (s2.extract n s2.size) (p2 + n) (token_Cut.glue kd tx) with ⟨o, q⟩
          rw [hc] at h
          cases o with
          | none => simp at h
          | some us =>
            simp only [Option.map_some, Prod.mk.injEq, Option.some.injEq] at h
            obtain ⟨rfl, rfl⟩ := h
            rw [show p2 + d + (n : Int) = (p2 + n) + d by omega, cutL_shift d k _ _ _ _ _ hc]
            rfl
theorem cutL_fuel : ∀ (k k2 : Nat) (s : ByteArray) (p : Int) (gl : Bool), s.size < k → s.size < k2 → cutL k s p gl = cutL k2 s p gl
  | 0, _, _, _, _, h, _ => absurd h (Nat.not_lt_zero _)
  | _, 0, _, _, _, _, h => absurd h (Nat.not_lt_zero _)
  | k + 1, k2 + 1, s, p, gl, h, h2 => by
    unfold cutL
    have hle := token_Cut.bl_le s.size s p gl
    rcases hb : token_Cut.bl s.size s p gl with ⟨ok, s2, p2, gl2⟩
    rw [hb] at hle
    dsimp only at hle
    cases ok with
    | false => rfl
    | true =>
      dsimp only
      by_cases hz : s2.size = 0
      · rw [if_pos hz, if_pos hz]
      · rw [if_neg hz, if_neg hz]
        cases ht : token_Cut.tok s2 gl2 with
        | none => rfl
        | some q =>
          obtain ⟨kd, tx, N, n⟩ := q
          have hp := token_Cut.tok_pos hz ht
          dsimp only
          rw [cutL_fuel k k2 (s2.extract n s2.size) (p2 + n) (token_Cut.glue kd tx) (by rw [ByteArray.size_extract]; omega) (by rw [ByteArray.size_extract]; omega)]
/-- no blank stands at the beginning -/
def NoBl (s : ByteArray) : Prop := ∀ (k : Nat) (p : Int) (g : Bool), token_Cut.bl k s p g = (true, s, p, g)
theorem bl_stop : ∀ (k : Nat) (s : ByteArray) (p : Int) (gl : Bool) (s2 : ByteArray) (p2 : Int) (gl2 : Bool), s.size ≤ k → token_Cut.bl k s p gl = (true, s2, p2, gl2) → NoBl s2
  | 0, s, p, gl, s2, p2, gl2, hk, h => by
    simp only [token_Cut.bl, Prod.mk.injEq] at h
    obtain ⟨-, rfl, -, -⟩ := h
    intro k p g
    cases k with
    | zero => rfl
    | succ k => unfold token_Cut.bl; rw [if_pos (by omega)]
  | k + 1, s, p, gl, s2, p2, gl2, hk, h => by
    unfold token_Cut.bl at h
    by_cases hz : s.size = 0
    · rw [if_pos hz] at h
      simp only [Prod.mk.injEq] at h
      obtain ⟨-, rfl, -, -⟩ := h
      intro k p g
      cases k with
      | zero => rfl
      | succ k => unfold token_Cut.bl; rw [if_pos hz]
    · rw [if_neg hz] at h
      rcases hb : token_Cut.blank s with _ | _ | n
      · rw [hb] at h
        simp only [Prod.mk.injEq] at h
        obtain ⟨-, rfl, -, -⟩ := h
        intro k p g
        cases k with
        | zero => rfl
        | succ k => unfold token_Cut.bl; rw [if_neg hz, hb]
      · rw [hb] at h
        simp at h
      · rw [hb] at h
        dsimp only at h
        obtain ⟨h1, h2⟩ := blank_range hz hb
        exact bl_stop k _ _ _ _ _ _ (by rw [ByteArray.size_extract]; omega) h
/-- the first token, cut without glue -/
def unglue (t : TokT) : TokT := if t.f0 = 7 then ⟨6, t.f1, t.f2, t.f3⟩ else t
theorem tok_false {s : ByteArray} {gl : Bool} {kd : Int} {tx : ByteArray} {N : Int} {n : Nat} (h : token_Cut.tok s gl = some (kd, tx, N, n)) : token_Cut.tok s false = some (if kd = 7 then 6 else kd, tx, N, n) := by
  have hown : ∀ {kd2 : Int} {m : Nat}, kd2 ≠ 7 → token_Cut.ownT s kd2 m = some (kd, tx, N, n) → token_Cut.ownT s kd2 m = some (if kd = 7 then 6 else kd, tx, N, n) := by
    intro kd2 m h7 h
    unfold token_Cut.ownT at h ⊢
    split at h
    · cases h
    · rename_i hc
      rw [if_neg hc]
      simp only [Option.some.injEq, Prod.mk.injEq] at h
      obtain ⟨rfl, rfl, rfl, rfl⟩ := h
      rw [if_neg h7]
  unfold token_Cut.tok at h ⊢
  split at h
  · rename_i c; rw [if_pos c]; exact hown (by decide) h
  · rename_i c; rw [if_neg c]
    split at h
    · rename_i c; rw [if_pos c]; exact hown (by decide) h
    · rename_i c; rw [if_neg c]
      split at h
      · rename_i c; rw [if_pos c]
        have := (num_le h).2
        rw [if_neg (by omega)]
        exact h
      · rename_i c; rw [if_neg c]
        split at h
        · rename_i c; rw [if_pos c]
          split at h
          · rename_i c; rw [if_pos c]; exact hown (by decide) h
          · rename_i c; rw [if_neg c]; exact hown (by decide) h
        · rename_i c; rw [if_neg c]
          split at h
          · rename_i c; rw [if_pos c]
            split at h
            · rename_i c; rw [if_pos c]; exact hown (by decide) h
            · rename_i c; rw [if_neg c]; exact hown (by decide) h
          · rename_i c; rw [if_neg c]
            split at h
            · rename_i c; rw [if_pos c, if_neg (by simp)]
              split at h
              · unfold token_Cut.ownT at h ⊢
                rw [if_neg (by omega)] at h
                rw [if_neg (by omega)]
                simp only [Option.some.injEq, Prod.mk.injEq] at h
                obtain ⟨rfl, rfl, rfl, rfl⟩ := h
                rfl
              · exact hown (by decide) h
            · rename_i c; rw [if_neg c]
              split at h
              · rename_i c; rw [if_pos c]
                split at h
                · rename_i t m e hr
                  split at h
                  · rename_i c2
                    rw [if_pos c2]
                    simp only [Option.some.injEq, Prod.mk.injEq] at h
                    obtain ⟨rfl, rfl, rfl, rfl⟩ := h
                    rfl
                  · cases h
                · cases h
              · cases h
theorem glue_false (kd : Int) (tx : ByteArray) : token_Cut.glue (if kd = 7 then 6 else kd) tx = token_Cut.glue kd tx := by
  by_cases h : kd = 7
  · rw [if_pos h, h]; rfl
  · rw [if_neg h]
/-- cut again from one of the tokens on -/
theorem cut_suffix (src : ByteArray) : ∀ (k P : Nat) (gl : Bool) (ts : List TokT) (e : Int), P ≤ src.size → src.size - P < k → cutL k (sfx src P) P gl = (some ts, e) →
    e = 0 ∧ ts.getLast? = some ⟨9, ⟨#[]⟩, 0, src.size⟩ ∧ ∀ i t, ts[i]? = some t → ∃ Q : Nat, P ≤ Q ∧ Q ≤ src.size ∧ t.f3 = (Q : Int) ∧ (∀ t2, ts[i + 1]? = some t2 → t.f3 < t2.f3) ∧
      cutL k (sfx src Q) Q false = (some (unglue t :: ts.drop (i + 1)), 0)
  | 0, P, gl, ts, e, h, hk, _ => absurd hk (Nat.not_lt_zero _)
  | k + 1, P, gl, ts, e, h, hk, hc => by
    unfold cutL at hc
    obtain ⟨ok, Q, gl2, hb, hQ, hQ2⟩ := bl_sfx src (sfx src P).size P gl h
    rw [hb] at hc
    cases ok with
    | false => simp at hc
    | true =>
      have hno := bl_stop _ _ _ _ _ _ _ (Nat.le_refl _) hb
      dsimp only at hc
      by_cases hz : (sfx src Q).size = 0
      · rw [if_pos hz] at hc
        simp only [Prod.mk.injEq, Option.some.injEq] at hc
        obtain ⟨rfl, rfl⟩ := hc
        obtain rfl : Q = src.size := by rw [sfx_size] at hz; omega
        refine ⟨rfl, rfl, ?_⟩
        intro i t ht
        cases i with
        | zero =>
          simp only [List.getElem?_cons_zero, Option.some.injEq] at ht
          subst ht
          refine ⟨src.size, h, Nat.le_refl _, rfl, by simp, ?_⟩
          unfold cutL
          rw [hno]
          dsimp only
          rw [if_pos hz]
          rfl
        | succ i => simp at ht
      · rw [if_neg hz] at hc
        cases ht : token_Cut.tok (sfx src Q) gl2 with
        | none => rw [ht] at hc; simp at hc
        | some q =>
          obtain ⟨kd, tx, N, n⟩ := q
          have hn := (tok_le hz ht).1
          have hp := token_Cut.tok_pos hz ht
          have hsz := sfx_size src Q
          rw [ht] at hc
          dsimp only at hc
          rw [sfx_sfx, show (Q : Int) + (n : Int) = ((Q + n : Nat) : Int) by omega] at hc
          rcases hr : cutL k (sfx src (Q + n)) ((Q + n : Nat) : Int) (token_Cut.glue kd tx) with ⟨o, q⟩
          rw [hr] at hc
          cases o with
          | none => simp at hc
          | some us =>
            simp only [Option.map_some, Prod.mk.injEq, Option.some.injEq] at hc
            obtain ⟨rfl, rfl⟩ := hc
            obtain ⟨e0, hl, hi⟩ := cut_suffix src k (Q + n) _ us _ (by omega) (by omega) hr
            subst e0
            have hne : us ≠ [] := by intro h; rw [h] at hl; simp at hl
            refine ⟨rfl, ?_, ?_⟩
            · rw [List.getLast?_cons]
              rw [hl]; rfl
            · intro i t ht2
              cases i with
              | zero =>
                simp only [List.getElem?_cons_zero, Option.some.injEq] at ht2
                subst ht2
                refine ⟨Q, hQ, hQ2, rfl, ?_, ?_⟩
                · intro t2 ht3
                  simp only [List.getElem?_cons_succ] at ht3
                  obtain ⟨Q2, h1, h2, h3, -, -⟩ := hi 0 t2 ht3
                  rw [h3]
                  show (Q : Int) < (Q2 : Int)
                  omega
                · unfold cutL
                  rw [hno]
                  dsimp only
                  rw [if_neg hz, tok_false ht]
                  dsimp only
                  rw [glue_false, sfx_sfx, show (Q : Int) + (n : Int) = ((Q + n : Nat) : Int) by omega, hr]
                  unfold unglue
                  by_cases h7 : kd = 7
                  · subst h7; rfl
                  · simp [h7]
              | succ i =>
                simp only [List.getElem?_cons_succ] at ht2
                obtain ⟨Q2, h1, h2, h3, h4, h5⟩ := hi i t ht2
                refine ⟨Q2, by omega, h2, h3, ?_, ?_⟩
                · intro t2 ht3
                  simp only [List.getElem?_cons_succ] at ht3
                  exact h4 t2 ht3
                · rw [← cutL_fuel k (k + 1) _ _ _ (by rw [sfx_size]; omega) (by rw [sfx_size]; omega)]
                  simpa using h5

end Go.Proofs.YtjichkjnodabiaaDoor.Pure
set_option linter.unusedVariables false
set_option linter.unusedSimpArgs false
namespace Go.Proofs.YtjichkjnodabiaaDoor.Pure
open Go Go.Own Go.RowKit Go.Proofs.YtjichkjnodabiaaDoor.P Go.Proofs.YtjichkjnodabiaaDoorW.PrintWords Go.Proofs.YtjichkjnodabiaaDoorW.PrintLast

theorem rd_some {ts : List TokT} {i : Nat} {t : TokT} (h : ts[i]? = some t) : rd_T30 ts (i : Int) = t := by
  unfold rd_T30
  rw [Int.toNat_natCast, List.getD_eq_getElem?_getD, h]
  rfl
theorem idx_range (x : Int) (n : Nat) (h0 : 0 < n) (h1 : n ≤ 5000) : ∃ i : Nat, Int.tmod (wrap64 ((Int.tmod x (n : Int)) + (n : Int))) (n : Int) = (i : Int) ∧ i < n := by
  have ha : (Int.tmod x (n : Int)).natAbs < n := by
    rw [Int.natAbs_tmod]
    exact Nat.mod_lt _ (by simpa using h0)
  have hw : wrap64 ((Int.tmod x (n : Int)) + (n : Int)) = (Int.tmod x (n : Int)) + (n : Int) := by unfold wrap64; omega
  rw [hw]
  obtain ⟨y, hy⟩ : ∃ y : Nat, (Int.tmod x (n : Int)) + (n : Int) = (y : Int) := ⟨((Int.tmod x (n : Int)) + (n : Int)).toNat, by omega⟩
  rw [hy]
  refine ⟨y % n, ?_, Nat.mod_lt _ h0⟩
  rw [Int.ofNat_tmod]
theorem places_l1 (ts m : List TokT) (Q i : Nat) (hlen : ts.length ≤ 5000) (hQ : Q ≤ 4096) (hi : i < ts.length) (hm : m.length + i = ts.length)
    (h0 : ∀ t, ts[i]? = some t → m[0]? = some (sh (-(Q : Int)) (unglue t))) (hj : ∀ j, 1 ≤ j → j < m.length → ∀ t, ts[i + j]? = some t → m[j]? = some (sh (-(Q : Int)) t))
    (hp : ∀ (j : Nat) t, ts[j]? = some t → 0 ≤ t.f3 ∧ t.f3 ≤ 4096) :
    ∀ (n j k : Nat), j + n = m.length → 2 * n + 1 ≤ k → spinneylaw05_TokenPlaces.l1 k (i : Int) true ts (Q : Int) m (m.length : Int) (j : Int) = some true
  | 0, j, k, h, hk => by
    obtain ⟨k, rfl⟩ : ∃ x, k = x + 1 := ⟨k - 1, by omega⟩
    unfold spinneylaw05_TokenPlaces.l1
    rw [if_neg (by omega)]
  | n + 1, j, k, h, hk => by
    obtain ⟨k, rfl⟩ : ∃ x, k = x + 2 := ⟨k - 2, by omega⟩
    have ih := places_l1 ts m Q i hlen hQ hi hm h0 hj hp n (j + 1) k (by omega) (by omega)
    have hw : wrap64 ((j : Int) + 1) = ((j + 1 : Nat) : Int) := by unfold wrap64; omega
    have hw2 : wrap64 ((i : Int) + (j : Int)) = ((i + j : Nat) : Int) := by unfold wrap64; omega
    obtain ⟨t, ht⟩ : ∃ t, ts[i + j]? = some t := ⟨_, List.getElem?_eq_getElem (by omega)⟩
    obtain ⟨hp1, hp2⟩ := hp _ _ ht
    have hrt := rd_some ht
    have hwp : wrap64 (t.f3 + -(Q : Int) + (Q : Int)) = t.f3 := by unfold wrap64; omega
    unfold spinneylaw05_TokenPlaces.l1
    rw [if_pos (by omega), if_pos (by omega), if_pos (by omega)]
    by_cases hj0 : j = 0
    · subst hj0
      have hm0 := rd_some (h0 t ht)
      rw [Nat.add_zero] at hrt hw2
      rw [if_pos (by first | rfl | trivial), if_pos (by omega), if_pos (by omega), hrt, hm0]
      by_cases h7 : t.f0 = 7
      · rw [if_pos h7]
        have hu : unglue t = ⟨6, t.f1, t.f2, t.f3⟩ := by unfold unglue; rw [if_pos h7]
        unfold spinneylaw05_TokenPlaces.j4
        rw [if_pos (by rw [hu]; rfl), hw2, if_pos (by omega), if_pos (by omega), hrt, hu]
        rw [if_neg (by simp [sh, hwp, h7]), hw]
        exact ih
      · rw [if_neg h7]
        have hu : unglue t = t := by unfold unglue; rw [if_neg h7]
        unfold spinneylaw05_TokenPlaces.j4
        rw [if_neg (by decide), hw2, if_pos (by omega), if_pos (by omega), hrt, hu]
        rw [if_neg (by simp [sh, hwp]), hw]
        exact ih
    · have hmj := rd_some (hj j (by omega) (by omega) t ht)
      rw [if_neg (by omega), hmj]
      unfold spinneylaw05_TokenPlaces.j4
      rw [if_neg (by decide), hw2, if_pos (by omega), if_pos (by omega), hrt]
      rw [if_neg (by simp [sh, hwp]), hw]
      exact ih
theorem idx_step (i n L : Nat) (hL : L ≤ 5000) (h1 : i + (n + 1) = L) (h2 : 1 ≤ i) : i - 1 < L ∧ i < L ∧ i - 1 + 1 = i ∧ (i + 1) + n = L ∧ wrap64 ((i : Int) - 1) = ((i - 1 : Nat) : Int) ∧ wrap64 ((i : Int) + 1) = ((i + 1 : Nat) : Int) ∧ (i : Int) < (L : Int) ∧ (0 : Int) ≤ ((i - 1 : Nat) : Int) ∧ ((i - 1 : Nat) : Int) < (L : Int) ∧ (0 : Int) ≤ (i : Int) := by
  refine ⟨by omega, by omega, by omega, by omega, by unfold wrap64; omega, by unfold wrap64; omega, by omega, by omega, by omega, by omega⟩
theorem TokenPlaces : spinneylaw05_TokenPlaces.Pure := by
  intro src x _ hx
  by_cases hz : 4096 < src.size
  · refine ⟨1, ?_⟩
    unfold spinneylaw05_TokenPlaces.f
    rw [live05, cut_long src hz]
    simp
  have hz : src.size ≤ 4096 := by omega
  obtain ⟨K, hK⟩ : ∃ K : Nat, K = 30000 := ⟨_, rfl⟩
  refine ⟨K + 1, ?_⟩
  unfold spinneylaw05_TokenPlaces.f
  rw [live05, cut_f src hz]
  rcases hc : cutL (src.size + 1) (sfx src 0) ((0 : Nat) : Int) false with ⟨o, e⟩
  cases o with
  | none => simp
  | some ts =>
  have hlen : ts.length ≤ 5000 := by
    rcases cutL_inv src (fun _ => True) trivial (fun _ _ _ _ _ _ _ _ => trivial) (src.size + 1) 0 false (by omega) (by omega) with ⟨us, e2, h1, -, h3, -⟩ | ⟨Q, h1, -, -⟩
    · rw [hc] at h1
      simp only [Prod.mk.injEq, Option.some.injEq] at h1
      obtain ⟨rfl, -⟩ := h1
      omega
    · rw [hc] at h1
      simp at h1
  obtain ⟨he, hl, hi⟩ := cut_suffix src (src.size + 1) 0 false ts e (by omega) (by omega) hc
  subst he
  have hne : 0 < ts.length := by
    rcases ts with _ | ⟨t, ts⟩
    · simp at hl
    · simp
  have hpos : ∀ (j : Nat) t, ts[j]? = some t → 0 ≤ t.f3 ∧ t.f3 ≤ 4096 := by
    intro j t h
    obtain ⟨Q, h1, h2, h3, -, -⟩ := hi j t h
    rw [h3]
    omega
  have hlast : ts[ts.length - 1]? = some ⟨9, ⟨#[]⟩, 0, src.size⟩ := by rw [← hl, List.getLast?_eq_getElem?]
  have hwl : wrap64 ((ts.length : Int) - 1) = ((ts.length - 1 : Nat) : Int) := by unfold wrap64; omega
  simp only [Option.bind_some]
  rw [if_pos (by first | rfl | trivial), if_neg (by omega), hwl, if_pos (by omega), if_pos (by omega), rd_some hlast]
  have hnl : (⟨#[]⟩ : ByteArray).toList = ([] : List UInt8) := by rw [Lib.toList_data]
  unfold spinneylaw05_TokenPlaces.j0
  dsimp only
  rw [if_neg (by simp [hnl])]
  -- the walk over the places
  have hl0 : ∀ (n i k : Nat), i + n = ts.length → 1 ≤ i → n + 20000 ≤ k → spinneylaw05_TokenPlaces.l0 k src x true ts (i : Int) = some true := by
    intro n
    induction n with
    | zero =>
      intro i k h1 h2 hk
      obtain ⟨k, rfl⟩ : ∃ j, k = j + 2 := ⟨k - 2, by omega⟩
      unfold spinneylaw05_TokenPlaces.l0
      rw [if_neg (by omega), if_neg (by omega)]
      obtain ⟨I, hI, hI2⟩ := idx_range x ts.length hne hlen
      rw [hI]
      obtain ⟨t, ht⟩ : ∃ t, ts[I]? = some t := ⟨_, List.getElem?_eq_getElem hI2⟩
      obtain ⟨Q, hQ1, hQ2, hQ3, -, hcQ⟩ := hi I t ht
      rw [rd_some ht, hQ3, if_pos (by omega), if_pos (by omega), if_pos (by omega), if_pos (by omega), Int.toNat_natCast]
      have hsfx : src.extract Q src.size = sfx src Q := rfl
      have hcut : token_Cut.f (sfx src Q) = some ((unglue t :: ts.drop (I + 1)).map (sh (-(Q : Int))), 0, 0) := by
        rw [cut_f _ (by rw [sfx_size]; omega), sfx_zero]
        have := cutL_shift (-(Q : Int)) _ _ _ _ _ _ hcQ
        rw [show (Q : Int) + -(Q : Int) = ((0 : Nat) : Int) by omega] at this
        rw [cutL_fuel _ (src.size + 1) _ _ _ (Nat.lt_succ_self _) (by rw [sfx_size]; omega), this]
      rw [hsfx, hcut]
      simp only [Option.bind_some]
      rw [if_pos (by first | rfl | trivial)]
      have hml : ((unglue t :: ts.drop (I + 1)).map (sh (-(Q : Int)))).length + I = ts.length := by simp; omega
      have hwm : wrap64 ((ts.length : Int) - (I : Int)) = ((((unglue t :: ts.drop (I + 1)).map (sh (-(Q : Int)))).length : Nat) : Int) := by unfold wrap64; omega
      rw [hwm]
      unfold spinneylaw05_TokenPlaces.j2
      dsimp only
      rw [if_neg (by simp)]
      have hj := places_l1 ts ((unglue t :: ts.drop (I + 1)).map (sh (-(Q : Int)))) Q I hlen (by omega) hI2 hml (fun t2 h2 => by
          rw [ht] at h2
          cases h2
          rfl) (fun j h1 h2 t2 h3 => by
          obtain ⟨j, rfl⟩ : ∃ y, j = y + 1 := ⟨j - 1, by omega⟩
          rw [List.getElem?_map, List.getElem?_cons_succ, List.getElem?_drop, show I + 1 + j = I + (j + 1) by omega, h3]
          rfl) hpos (((unglue t :: ts.drop (I + 1)).map (sh (-(Q : Int)))).length) 0 k (by omega) (by omega)
      exact hj
    | succ n ih =>
      intro i k h1 h2 hk
      obtain ⟨k, rfl⟩ : ∃ j, k = j + 1 := ⟨k - 1, by omega⟩
      have hk2 : n + 20000 ≤ k := by omega
      clear hk hK
      obtain ⟨g1, g2, g3, g4, g5, g6, g7, g8, g9, g10⟩ := idx_step i n ts.length hlen h1 h2
      obtain ⟨t, ht⟩ : ∃ t, ts[i - 1]? = some t := ⟨ts[i - 1], List.getElem?_eq_getElem g1⟩
      obtain ⟨t2, ht2⟩ : ∃ t, ts[i]? = some t := ⟨ts[i], List.getElem?_eq_getElem g2⟩
      obtain ⟨Q, -, -, -, h4, -⟩ := hi (i - 1) t ht
      have h5 := h4 t2 (by rw [g3]; exact ht2)
      have h6 : ¬ t.f3 ≥ t2.f3 := Int.not_le.2 h5
      unfold spinneylaw05_TokenPlaces.l0
      rw [if_pos g7, g5, if_pos g8, if_pos g9, if_pos g10, rd_some ht, rd_some ht2, if_neg h6, g6]
      exact ih (i + 1) k g4 (Nat.le_add_left 1 i) hk2
  exact hl0 (ts.length - 1) 1 K (by omega) (Nat.le_refl _) (by omega)

end Go.Proofs.YtjichkjnodabiaaDoor.Pure
