/- Blanks and remarks ahead change nothing but the places. -/
import Derived.Test.YtjichkjnodabiaaDoorPx3
import Derived.Test.YtjichkjnodabiaaDoorPx5
import Derived.Test.YtjichkjnodabiaaDoorPx8
import Derived.Test.YtjichkjnodabiaaDoorPx7
import Derived.Test.YtjichkjnodabiaaDoorPx6
set_option linter.unusedVariables false
set_option linter.unusedSimpArgs false
namespace Go.Proofs.YtjichkjnodabiaaDoor.Pure
open Go Go.Own Go.RowKit Go.Proofs.YtjichkjnodabiaaDoor.P Go.Proofs.YtjichkjnodabiaaDoorW.PrintWords Go.Proofs.YtjichkjnodabiaaDoorW.PrintLast

theorem live05 : spinneylaw05_live.f = some true := by decide +kernel
/-- what is left from a place on -/
def sfx (src : ByteArray) (P : Nat) : ByteArray := src.extract P src.size
theorem sfx_size (src : ByteArray) (P : Nat) : (sfx src P).size = src.size - P := by unfold sfx; rw [ByteArray.size_extract]; omega
theorem sfx_zero (src : ByteArray) : sfx src 0 = src := by unfold sfx; simp
theorem sfx_sfx (src : ByteArray) (P n : Nat) : (sfx src P).extract n (sfx src P).size = sfx src (P + n) := by
  unfold sfx
  rw [ByteArray.extract_extract, ByteArray.size_extract]
  congr 1
  omega
theorem sfx_take (src : ByteArray) (P n : Nat) (h : P + n ≤ src.size) : (sfx src P).extract 0 n = src.extract P (P + n) := by
  unfold sfx
  rw [ByteArray.extract_extract]
  congr 1
  · omega
theorem blank_range {s : ByteArray} {n : Nat} (hz : s.size ≠ 0) (h : token_Cut.blank s = some (some n)) : 1 ≤ n ∧ n ≤ s.size := by
  have hpos : 0 < s.size := by omega
  unfold token_Cut.blank at h
  split at h
  · simp only [Option.some.injEq] at h; omega
  · split at h
    · rename_i hb
      simp only [Option.some.injEq] at h
      have hi := Lib.indexByte_ge s.data.toList 10
      split at h
      · omega
      · rename_i h0
        obtain ⟨o, ho⟩ : ∃ o : Nat, Lib.indexByte s.data.toList 10 = o := ⟨(Lib.indexByte s.data.toList 10).toNat, by omega⟩
        rw [ho, Int.toNat_natCast] at h
        subst h
        obtain ⟨ho1, ho2⟩ := Lib.indexByte_some ho
        have ho3 : o < s.data.toList.length := (List.getElem?_eq_some_iff.1 ho1).1
        rw [← Lib.size_eq] at ho3
        refine ⟨?_, by omega⟩
        rcases Nat.eq_zero_or_pos o with rfl | h
        · exfalso
          have h1 : s.data.toList[0]? = some (s[0]'hpos) := by
            rw [List.getElem?_eq_getElem (by rw [← Lib.size_eq]; exact hpos)]; rfl
          rw [h1] at ho1
          have h2 : (s[0]'hpos) = 10 := Option.some.inj ho1
          have hbt : ((s[0]'hpos).toNat : Int) = bt s 0 := bt_at s 0 hpos
          rw [h2, hb] at hbt
          exact absurd hbt (by decide)
        · exact h
    · split at h
      · rename_i hp
        have h2 := token_Cut.hp_two hp
        split at h
        · cases h
        · rename_i hj0
          simp only [Option.some.injEq] at h
          have hr := Lib.index_room _ _ (show 0 ≤ Lib.index (s.extract 2 s.size).data.toList [42, 47] by omega)
          rw [← Lib.size_eq, ByteArray.size_extract] at hr
          simp only [List.length_cons, List.length_nil] at hr
          omega
      · cases h
/-- blanks go on to a place -/
theorem bl_sfx (src : ByteArray) : ∀ (k P : Nat) (gl : Bool), P ≤ src.size → ∃ (ok : Bool) (Q : Nat) (gl2 : Bool), token_Cut.bl k (sfx src P) P gl = (ok, sfx src Q, (Q : Int), gl2) ∧ P ≤ Q ∧ Q ≤ src.size
  | 0, P, gl, h => ⟨true, P, gl, rfl, Nat.le_refl _, h⟩
  | k + 1, P, gl, h => by
    unfold token_Cut.bl
    split
    · exact ⟨true, P, gl, rfl, Nat.le_refl _, h⟩
    · rename_i hz
      split
      · exact ⟨true, P, gl, rfl, Nat.le_refl _, h⟩
      · exact ⟨false, P, gl, rfl, Nat.le_refl _, h⟩
      · rename_i n hb
        obtain ⟨h1, h2⟩ := blank_range hz hb
        rw [sfx_size] at h2
        obtain ⟨ok, Q, gl2, e, hQ, hQ2⟩ := bl_sfx src k (P + n) false (by omega)
        refine ⟨ok, Q, gl2, ?_, by omega, hQ2⟩
        rw [sfx_sfx, show (P : Int) + (n : Int) = ((P + n : Nat) : Int) by omega]
        exact e
theorem own_le {s : ByteArray} {kd : Int} {m : Nat} (hm : m ≤ s.size) {a : Int} {b : ByteArray} {c : Int} {n : Nat} (h : token_Cut.ownT s kd m = some (a, b, c, n)) : n ≤ s.size ∧ a = kd ∧ b = s.extract 0 n ∧ n = m ∧ c = 0 := by
  unfold token_Cut.ownT at h
  split at h
  · cases h
  · simp only [Option.some.injEq, Prod.mk.injEq] at h
    obtain ⟨h1, h2, h3, h4⟩ := h
    subst h4
    exact ⟨hm, h1.symm, h2.symm, rfl, h3.symm⟩
theorem numB_le {s : ByteArray} {a : Int} {b : ByteArray} {c : Int} {n : Nat} (h : token_Cut.numB s = some (a, b, c, n)) : n ≤ s.size ∧ a = 5 := by
  unfold token_Cut.numB at h
  split at h
  · split at h
    · simp only [Option.some.injEq, Prod.mk.injEq] at h
      have := token_Cut.wh_le token_Cut.qdigit s
      omega
    · cases h
  · cases h
theorem num_le {s : ByteArray} {a : Int} {b : ByteArray} {c : Int} {n : Nat} (h : token_Cut.num s = some (a, b, c, n)) : n ≤ s.size ∧ a = 5 := by
  unfold token_Cut.num at h
  rcases token_Cut.cp_some s with hP | ⟨h2, hP⟩
  · rw [hP] at h
    exact numB_le h
  · rw [hP] at h
    dsimp only at h
    split at h
    · rename_i N m hA
      simp only [Option.some.injEq, Prod.mk.injEq] at h
      obtain ⟨h3, -, -, h4⟩ := h
      subst h4
      refine ⟨?_, h3.symm⟩
      unfold token_Cut.numA at hA
      have hrs : (s.extract 2 s.size).size + 2 = s.size := by rw [ByteArray.size_extract]; omega
      obtain ⟨b2, hq, hq2⟩ := token_Cut.hq_some (s.extract 2 s.size)
      have hgo := token_Cut.go_le (s.extract 2 s.size)
      split at hA
      · rename_i hq3
        rw [hq3] at hq
        have := hq2 (Option.some.inj hq).symm
        simp only [Option.some.injEq, Prod.mk.injEq] at hA
        omega
      · split at hA
        · simp only [Option.some.injEq, Prod.mk.injEq] at hA
          omega
        · cases hA
    · exact numB_le h
/-- a token lies within what is left; its text is the source's own bytes, of names, signs, variables and brackets -/
theorem tok_le {s : ByteArray} {gl : Bool} (hz : s.size ≠ 0) {a : Int} {b : ByteArray} {c : Int} {n : Nat} (h : token_Cut.tok s gl = some (a, b, c, n)) : n ≤ s.size ∧ (a = 2 ∨ a = 5 ∨ (b = s.extract 0 n ∧ a ≠ 9 ∧ a ≠ 2 ∧ a ≠ 5)) := by
  have hown : ∀ {kd : Int} {m : Nat}, kd ≠ 9 → kd ≠ 2 → kd ≠ 5 → m ≤ s.size → token_Cut.ownT s kd m = some (a, b, c, n) → n ≤ s.size ∧ (a = 2 ∨ a = 5 ∨ (b = s.extract 0 n ∧ a ≠ 9 ∧ a ≠ 2 ∧ a ≠ 5)) := by
    intro kd m h9 h2 h5 hm ho
    obtain ⟨q1, q2, q3, -, -⟩ := own_le hm ho
    exact ⟨q1, .inr (.inr ⟨q3, by omega, by omega, by omega⟩)⟩
  unfold token_Cut.tok at h
  split at h
  · exact hown (by decide) (by decide) (by decide) (token_Cut.wh_le _ _) h
  · split at h
    · exact hown (by decide) (by decide) (by decide) (token_Cut.wh_le _ _) h
    · split at h
      · obtain ⟨q1, q2⟩ := num_le h; exact ⟨q1, .inr (.inl q2)⟩
      · split at h
        · split at h
          · exact hown (by decide) (by decide) (by decide) (token_Cut.wh_le _ _) h
          · exact hown (by decide) (by decide) (by decide) (token_Cut.wh_le _ _) h
        · split at h
          · split at h <;> exact hown (by decide) (by decide) (by decide) (by omega) h
          · split at h
            · split at h <;> exact hown (by decide) (by decide) (by decide) (by omega) h
            · split at h
              · split at h
                · rename_i t m e hr
                  split at h
                  · rename_i c2
                    obtain ⟨rfl, -⟩ := c2
                    have := token_Cut.rd_range s hr
                    simp only [Option.some.injEq, Prod.mk.injEq] at h
                    exact ⟨by omega, .inl h.1.symm⟩
                  · cases h
                · cases h
              · cases h
/-- the tokens from here on, or the place of the error -/
def cutL : Nat → ByteArray → Int → Bool → Option (List S30) × Int
  | 0, _, _, _ => (some [], 0)
  | k + 1, s, p, gl => match token_Cut.bl s.size s p gl with
    | (false, _, p2, _) => (none, p2)
    | (true, s2, p2, gl2) => if s2.size = 0 then (some [(⟨9, ⟨#[]⟩, 0, p2⟩ : S30)], 0) else match token_Cut.tok s2 gl2 with
      | none => (none, p2)
      | some (kd, tx, N, n) => ((cutL k (s2.extract n s2.size) (p2 + n) (token_Cut.glue kd tx)).1.map ((⟨kd, tx, N, p2⟩ : S30) :: ·), (cutL k (s2.extract n s2.size) (p2 + n) (token_Cut.glue kd tx)).2)
theorem cutF_L : ∀ (k : Nat) (s : ByteArray) (p : Int) (gl : Bool) (l : List S30), s.size < k → token_Cut.cutF k s p gl l = match cutL k s p gl with
    | (some ts, _) => (l ++ ts, 0, 0)
    | (none, q) => ([], q, 50)
  | 0, s, p, gl, l, h => absurd h (Nat.not_lt_zero _)
  | k + 1, s, p, gl, l, h => by
    unfold token_Cut.cutF cutL
    have hle := token_Cut.bl_le s.size s p gl
    rcases hb : token_Cut.bl s.size s p gl with ⟨ok, s2, p2, gl2⟩
    rw [hb] at hle
    dsimp only at hle
    cases ok with
    | false => rfl
    | true =>
      dsimp only
      by_cases hz : s2.size = 0
      · rw [if_pos hz, if_pos hz]
      · rw [if_neg hz, if_neg hz]
        cases ht : token_Cut.tok s2 gl2 with
        | none => rfl
        | some q =>
          obtain ⟨kd, tx, N, n⟩ := q
          dsimp only
          have hp := token_Cut.tok_pos hz ht
          rw [cutF_L k _ _ _ _ (by rw [ByteArray.size_extract]; omega)]
          rcases cutL k (s2.extract n s2.size) (p2 + n) (token_Cut.glue kd tx) with ⟨o, q⟩
          cases o with
          | none => rfl
          | some ts => simp
/-- what holds of each token and of each place -/
theorem cutL_inv (src : ByteArray) (R : S30 → Prop) (h9 : R ⟨9, ⟨#[]⟩, 0, src.size⟩)
    (ht : ∀ (P : Nat) (gl : Bool) (kd : Int) (tx : ByteArray) (N : Int) (n : Nat), P < src.size → token_Cut.tok (sfx src P) gl = some (kd, tx, N, n) → R ⟨kd, tx, N, P⟩) :
    ∀ (k P : Nat) (gl : Bool), P ≤ src.size → src.size - P < k → (∃ ts e, cutL k (sfx src P) P gl = (some ts, e) ∧ (∀ t ∈ ts, R t) ∧ ts.length ≤ src.size - P + 1 ∧ ts ≠ []) ∨ (∃ Q : Nat, cutL k (sfx src P) P gl = (none, (Q : Int)) ∧ P ≤ Q ∧ Q ≤ src.size)
  | 0, P, gl, h, hk => absurd hk (Nat.not_lt_zero _)
  | k + 1, P, gl, h, hk => by
    unfold cutL
    obtain ⟨ok, Q, gl2, hb, hQ, hQ2⟩ := bl_sfx src (sfx src P).size P gl h
    rw [hb]
    cases ok with
    | false => exact .inr ⟨Q, rfl, hQ, hQ2⟩
    | true =>
      dsimp only
      rw [sfx_size]
      by_cases hz : src.size - Q = 0
      · rw [if_pos hz]
        obtain rfl : Q = src.size := by omega
        exact .inl ⟨_, _, rfl, by intro t h; rw [List.mem_singleton] at h; subst h; exact h9, by simp, by simp⟩
      · rw [if_neg hz]
        cases hk2 : token_Cut.tok (sfx src Q) gl2 with
        | none => exact .inr ⟨Q, rfl, hQ, hQ2⟩
        | some q =>
          obtain ⟨kd, tx, N, n⟩ := q
          have hsz : (sfx src Q).size ≠ 0 := by rw [sfx_size]; exact hz
          have hn := (tok_le hsz hk2).1
          have hp := token_Cut.tok_pos hsz hk2
          rw [sfx_size] at hn
          have hR := ht Q gl2 kd tx N n (by omega) hk2
          dsimp only
          have e := sfx_sfx src Q n
          rw [sfx_size] at e
          rw [e, show (Q : Int) + (n : Int) = ((Q + n : Nat) : Int) by omega]
          rcases cutL_inv src R h9 ht k (Q + n) (token_Cut.glue kd tx) (by omega) (by omega) with ⟨ts, e, h1, h2, h3, h4⟩ | ⟨Q2, h1, h2, h3⟩
          · rw [h1]
            refine .inl ⟨_, _, rfl, ?_, ?_, by simp⟩
            · intro t ht
              rcases List.mem_cons.1 ht with rfl | ht
              · exact hR
              · exact h2 t ht
            · simp only [List.length_cons]; omega
          · rw [h1]
            exact .inr ⟨Q2, rfl, by omega, h3⟩
theorem cut_f (src : ByteArray) (h : src.size ≤ 4096) : token_Cut.f src = some (match cutL (src.size + 1) (sfx src 0) ((0 : Nat) : Int) false with
    | (some ts, _) => (ts, 0, 0)
    | (none, q) => ([], q, 50)) := by
  unfold token_Cut.f
  rw [if_neg (by omega), sfx_zero, cutF_L _ _ _ _ _ (Nat.lt_succ_self _)]
  rfl
theorem cut_long (src : ByteArray) (h : 4096 < src.size) : token_Cut.f src = some ([], 0, 2) := by
  unfold token_Cut.f
  rw [if_pos h]

end Go.Proofs.YtjichkjnodabiaaDoor.Pure
set_option linter.unusedVariables false
set_option linter.unusedSimpArgs false
namespace Go.Proofs.YtjichkjnodabiaaDoor.Pure
open Go Go.Own Go.RowKit Go.Proofs.YtjichkjnodabiaaDoor.P Go.Proofs.YtjichkjnodabiaaDoorW.PrintWords Go.Proofs.YtjichkjnodabiaaDoorW.PrintLast

abbrev TokT := S30
def sh (d : Int) (t : TokT) : TokT := ⟨t.f0, t.f1, t.f2, t.f3 + d⟩
theorem bl_shift (d : Int) : ∀ (k : Nat) (s : ByteArray) (p : Int) (gl : Bool), token_Cut.bl k s (p + d) gl = ((token_Cut.bl k s p gl).1, (token_Cut.bl k s p gl).2.1, (token_Cut.bl k s p gl).2.2.1 + d, (token_Cut.bl k s p gl).2.2.2)
  | 0, s, p, gl => rfl
  | k + 1, s, p, gl => by
    unfold token_Cut.bl
    by_cases hz : s.size = 0
    · simp only [if_pos hz]
    · simp only [if_neg hz]
      rcases token_Cut.blank s with _ | _ | n
      · rfl
      · rfl
      · dsimp only
        rw [show p + d + (n : Int) = (p + n) + d by omega]
        exact bl_shift d k _ _ _
theorem cutL_shift (d : Int) : ∀ (k : Nat) (s : ByteArray) (p : Int) (gl : Bool) (ts : List TokT) (e : Int), cutL k s p gl = (some ts, e) → cutL k s (p + d) gl = (some (ts.map (sh d)), e)
  | 0, s, p, gl, ts, e, h => by
    simp only [cutL, Prod.mk.injEq, Option.some.injEq] at h
    obtain ⟨rfl, rfl⟩ := h
    rfl
  | k + 1, s, p, gl, ts, e, h => by
    unfold cutL at h ⊢
    rw [bl_shift]
    rcases hb : token_Cut.bl s.size s p gl with ⟨ok, s2, p2, gl2⟩
    rw [hb] at h
    cases ok with
    | false => simp at h
    | true =>
      dsimp only at h ⊢
      by_cases hz : s2.size = 0
      · rw [if_pos hz] at h ⊢
        simp only [Prod.mk.injEq, Option.some.injEq] at h
        obtain ⟨rfl, rfl⟩ := h
        rfl
      · rw [if_neg hz] at h ⊢
        cases ht : token_Cut.tok s2 gl2 with
        | none => rw [ht] at h; simp at h
        | some q =>
          obtain ⟨kd, tx, N, n⟩ := q
          rw [ht] at h
          dsimp only at h ⊢
          rcases hc : cutL k (s2.extract n s2.size) (p2 + n) (token_Cut.glue kd tx) with ⟨o, q⟩
          rw [hc] at h
          cases o with
          | none => simp at h
          | some us =>
            simp only [Option.map_some, Prod.mk.injEq, Option.some.injEq] at h
            obtain ⟨rfl, rfl⟩ := h
            rw [show p2 + d + (n : Int) = (p2 + n) + d by omega, cutL_shift d k _ _ _ _ _ hc]
            rfl
theorem cutL_fuel : ∀ (k k2 : Nat) (s : ByteArray) (p : Int) (gl : Bool), s.size < k → s.size < k2 → cutL k s p gl = cutL k2 s p gl
  | 0, _, _, _, _, h, _ => absurd h (Nat.not_lt_zero _)
  | _, 0, _, _, _, _, h => absurd h (Nat.not_lt_zero _)
  | k + 1, k2 + 1, s, p, gl, h, h2 => by
    unfold cutL
    have hle := token_Cut.bl_le s.size s p gl
    rcases hb : token_Cut.bl s.size s p gl with ⟨ok, s2, p2, gl2⟩
    rw [hb] at hle
    dsimp only at hle
    cases ok with
    | false => rfl
    | true =>
      dsimp only
      by_cases hz : s2.size = 0
      · rw [if_pos hz, if_pos hz]
      · rw [if_neg hz, if_neg hz]
        cases ht : token_Cut.tok s2 gl2 with
        | none => rfl
        | some q =>
          obtain ⟨kd, tx, N, n⟩ := q
          have hp := token_Cut.tok_pos hz ht
          dsimp only
          rw [cutL_fuel k k2 (s2.extract n s2.size) (p2 + n) (token_Cut.glue kd tx) (by rw [ByteArray.size_extract]; omega) (by rw [ByteArray.size_extract]; omega)]
/-- no blank stands at the beginning -/
def NoBl (s : ByteArray) : Prop := ∀ (k : Nat) (p : Int) (g : Bool), token_Cut.bl k s p g = (true, s, p, g)
theorem bl_stop : ∀ (k : Nat) (s : ByteArray) (p : Int) (gl : Bool) (s2 : ByteArray) (p2 : Int) (gl2 : Bool), s.size ≤ k → token_Cut.bl k s p gl = (true, s2, p2, gl2) → NoBl s2
  | 0, s, p, gl, s2, p2, gl2, hk, h => by
    simp only [token_Cut.bl, Prod.mk.injEq] at h
    obtain ⟨-, rfl, -, -⟩ := h
    intro k p g
    cases k with
    | zero => rfl
    | succ k => unfold token_Cut.bl; rw [if_pos (by omega)]
  | k + 1, s, p, gl, s2, p2, gl2, hk, h => by
    unfold token_Cut.bl at h
    by_cases hz : s.size = 0
    · rw [if_pos hz] at h
      simp only [Prod.mk.injEq] at h
      obtain ⟨-, rfl, -, -⟩ := h
      intro k p g
      cases k with
      | zero => rfl
      | succ k => unfold token_Cut.bl; rw [if_pos hz]
    · rw [if_neg hz] at h
      rcases hb : token_Cut.blank s with _ | _ | n
      · rw [hb] at h
        simp only [Prod.mk.injEq] at h
        obtain ⟨-, rfl, -, -⟩ := h
        intro k p g
        cases k with
        | zero => rfl
        | succ k => unfold token_Cut.bl; rw [if_neg hz, hb]
      · rw [hb] at h
        simp at h
      · rw [hb] at h
        dsimp only at h
        obtain ⟨h1, h2⟩ := blank_range hz hb
        exact bl_stop k _ _ _ _ _ _ (by rw [ByteArray.size_extract]; omega) h
/-- the first token, cut without glue -/
def unglue (t : TokT) : TokT := if t.f0 = 7 then ⟨6, t.f1, t.f2, t.f3⟩ else t
theorem tok_false {s : ByteArray} {gl : Bool} {kd : Int} {tx : ByteArray} {N : Int} {n : Nat} (h : token_Cut.tok s gl = some (kd, tx, N, n)) : token_Cut.tok s false = some (if kd = 7 then 6 else kd, tx, N, n) := by
  have hown : ∀ {kd2 : Int} {m : Nat}, kd2 ≠ 7 → token_Cut.ownT s kd2 m = some (kd, tx, N, n) → token_Cut.ownT s kd2 m = some (if kd = 7 then 6 else kd, tx, N, n) := by
    intro kd2 m h7 h
    unfold token_Cut.ownT at h ⊢
    split at h
    · cases h
    · rename_i hc
      rw [if_neg hc]
      simp only [Option.some.injEq, Prod.mk.injEq] at h
      obtain ⟨rfl, rfl, rfl, rfl⟩ := h
      rw [if_neg h7]
  unfold token_Cut.tok at h ⊢
  split at h
  · rename_i c; rw [if_pos c]; exact hown (by decide) h
  · rename_i c; rw [if_neg c]
    split at h
    · rename_i c; rw [if_pos c]; exact hown (by decide) h
    · rename_i c; rw [if_neg c]
      split at h
      · rename_i c; rw [if_pos c]
        have := (num_le h).2
        rw [if_neg (by omega)]
        exact h
      · rename_i c; rw [if_neg c]
        split at h
        · rename_i c; rw [if_pos c]
          split at h
          · rename_i c; rw [if_pos c]; exact hown (by decide) h
          · rename_i c; rw [if_neg c]; exact hown (by decide) h
        · rename_i c; rw [if_neg c]
          split at h
          · rename_i c; rw [if_pos c]
            split at h
            · rename_i c; rw [if_pos c]; exact hown (by decide) h
            · rename_i c; rw [if_neg c]; exact hown (by decide) h
          · rename_i c; rw [if_neg c]
            split at h
            · rename_i c; rw [if_pos c, if_neg (by simp)]
              split at h
              · unfold token_Cut.ownT at h ⊢
                rw [if_neg (by omega)] at h
                rw [if_neg (by omega)]
                simp only [Option.some.injEq, Prod.mk.injEq] at h
                obtain ⟨rfl, rfl, rfl, rfl⟩ := h
                rfl
              · exact hown (by decide) h
            · rename_i c; rw [if_neg c]
              split at h
              · rename_i c; rw [if_pos c]
                split at h
                · rename_i t m e hr
                  split at h
                  · rename_i c2
                    rw [if_pos c2]
                    simp only [Option.some.injEq, Prod.mk.injEq] at h
                    obtain ⟨rfl, rfl, rfl, rfl⟩ := h
                    rfl
                  · cases h
                · cases h
              · cases h
theorem glue_false (kd : Int) (tx : ByteArray) : token_Cut.glue (if kd = 7 then 6 else kd) tx = token_Cut.glue kd tx := by
  by_cases h : kd = 7
  · rw [if_pos h, h]; rfl
  · rw [if_neg h]
/-- cut again from one of the tokens on -/
theorem cut_suffix (src : ByteArray) : ∀ (k P : Nat) (gl : Bool) (ts : List TokT) (e : Int), P ≤ src.size → src.size - P < k → cutL k (sfx src P) P gl = (some ts, e) →
    e = 0 ∧ ts.getLast? = some ⟨9, ⟨#[]⟩, 0, src.size⟩ ∧ ∀ i t, ts[i]? = some t → ∃ Q : Nat, P ≤ Q ∧ Q ≤ src.size ∧ t.f3 = (Q : Int) ∧ (∀ t2, ts[i + 1]? = some t2 → t.f3 < t2.f3) ∧
      cutL k (sfx src Q) Q false = (some (unglue t :: ts.drop (i + 1)), 0)
  | 0, P, gl, ts, e, h, hk, _ => absurd hk (Nat.not_lt_zero _)
  | k + 1, P, gl, ts, e, h, hk, hc => by
    unfold cutL at hc
    obtain ⟨ok, Q, gl2, hb, hQ, hQ2⟩ := bl_sfx src (sfx src P).size P gl h
    rw [hb] at hc
    cases ok with
    | false => simp at hc
    | true =>
      have hno := bl_stop _ _ _ _ _ _ _ (Nat.le_refl _) hb
      dsimp only at hc
      by_cases hz : (sfx src Q).size = 0
      · rw [if_pos hz] at hc
        simp only [Prod.mk.injEq, Option.some.injEq] at hc
        obtain ⟨rfl, rfl⟩ := hc
        obtain rfl : Q = src.size := by rw [sfx_size] at hz; omega
        refine ⟨rfl, rfl, ?_⟩
        intro i t ht
        cases i with
        | zero =>
          simp only [List.getElem?_cons_zero, Option.some.injEq] at ht
          subst ht
          refine ⟨src.size, h, Nat.le_refl _, rfl, by simp, ?_⟩
          unfold cutL
          rw [hno]
          dsimp only
          rw [if_pos hz]
          rfl
        | succ i => simp at ht
      · rw [if_neg hz] at hc
        cases ht : token_Cut.tok (sfx src Q) gl2 with
        | none => rw [ht] at hc; simp at hc
        | some q =>
          obtain ⟨kd, tx, N, n⟩ := q
          have hn := (tok_le hz ht).1
          have hp := token_Cut.tok_pos hz ht
          have hsz := sfx_size src Q
          rw [ht] at hc
          dsimp only at hc
          rw [sfx_sfx, show (Q : Int) + (n : Int) = ((Q + n : Nat) : Int) by omega] at hc
          rcases hr : cutL k (sfx src (Q + n)) ((Q + n : Nat) : Int) (token_Cut.glue kd tx) with ⟨o, q⟩
          rw [hr] at hc
          cases o with
          | none => simp at hc
          | some us =>
            simp only [Option.map_some, Prod.mk.injEq, Option.some.injEq] at hc
            obtain ⟨rfl, rfl⟩ := hc
            obtain ⟨e0, hl, hi⟩ := cut_suffix src k (Q + n) _ us _ (by omega) (by omega) hr
            subst e0
            have hne : us ≠ [] := by intro h; rw [h] at hl; simp at hl
            refine ⟨rfl, ?_, ?_⟩
            · rw [List.getLast?_cons]
              rw [hl]; rfl
            · intro i t ht2
              cases i with
              | zero =>
                simp only [List.getElem?_cons_zero, Option.some.injEq] at ht2
                subst ht2
                refine ⟨Q, hQ, hQ2, rfl, ?_, ?_⟩
                · intro t2 ht3
                  simp only [List.getElem?_cons_succ] at ht3
                  obtain ⟨Q2, h1, h2, h3, -, -⟩ := hi 0 t2 ht3
                  rw [h3]
                  show (Q : Int) < (Q2 : Int)
                  omega
                · unfold cutL
                  rw [hno]
                  dsimp only
                  rw [if_neg hz, tok_false ht]
                  dsimp only
                  rw [glue_false, sfx_sfx, show (Q : Int) + (n : Int) = ((Q + n : Nat) : Int) by omega, hr]
                  unfold unglue
                  by_cases h7 : kd = 7
                  · subst h7; rfl
                  · simp [h7]
              | succ i =>
                simp only [List.getElem?_cons_succ] at ht2
                obtain ⟨Q2, h1, h2, h3, h4, h5⟩ := hi i t ht2
                refine ⟨Q2, by omega, h2, h3, ?_, ?_⟩
                · intro t2 ht3
                  simp only [List.getElem?_cons_succ] at ht3
                  exact h4 t2 ht3
                · rw [← cutL_fuel k (k + 1) _ _ _ (by rw [sfx_size]; omega) (by rw [sfx_size]; omega)]
                  simpa using h5

end Go.Proofs.YtjichkjnodabiaaDoor.Pure
set_option linter.unusedVariables false
set_option linter.unusedSimpArgs false
namespace Go.Proofs.YtjichkjnodabiaaDoor.Pure
open Go Go.Own Go.RowKit Go.Proofs.YtjichkjnodabiaaDoor.P Go.Proofs.YtjichkjnodabiaaDoorW.PrintWords Go.Proofs.YtjichkjnodabiaaDoorW.PrintLast

theorem rd_some {ts : List TokT} {i : Nat} {t : TokT} (h : ts[i]? = some t) : rd_T30 ts (i : Int) = t := by
  unfold rd_T30
  rw [Int.toNat_natCast, List.getD_eq_getElem?_getD, h]
  rfl
theorem idx_range (x : Int) (n : Nat) (h0 : 0 < n) (h1 : n ≤ 5000) : ∃ i : Nat, Int.tmod (wrap64 ((Int.tmod x (n : Int)) + (n : Int))) (n : Int) = (i : Int) ∧ i < n := by
  have ha : (Int.tmod x (n : Int)).natAbs < n := by
    rw [Int.natAbs_tmod]
    exact Nat.mod_lt _ (by simpa using h0)
  have hw : wrap64 ((Int.tmod x (n : Int)) + (n : Int)) = (Int.tmod x (n : Int)) + (n : Int) := by unfold wrap64; omega
  rw [hw]
  obtain ⟨y, hy⟩ : ∃ y : Nat, (Int.tmod x (n : Int)) + (n : Int) = (y : Int) := ⟨((Int.tmod x (n : Int)) + (n : Int)).toNat, by omega⟩
  rw [hy]
  refine ⟨y % n, ?_, Nat.mod_lt _ h0⟩
  rw [Int.ofNat_tmod]
theorem places_l1 (ts m : List TokT) (Q i : Nat) (hlen : ts.length ≤ 5000) (hQ : Q ≤ 4096) (hi : i < ts.length) (hm : m.length + i = ts.length)
    (h0 : ∀ t, ts[i]? = some t → m[0]? = some (sh (-(Q : Int)) (unglue t))) (hj : ∀ j, 1 ≤ j → j < m.length → ∀ t, ts[i + j]? = some t → m[j]? = some (sh (-(Q : Int)) t))
    (hp : ∀ (j : Nat) t, ts[j]? = some t → 0 ≤ t.f3 ∧ t.f3 ≤ 4096) :
    ∀ (n j k : Nat), j + n = m.length → 2 * n + 1 ≤ k → spinneylaw05_TokenPlaces.l1 k (i : Int) true ts (Q : Int) m (m.length : Int) (j : Int) = some true
  | 0, j, k, h, hk => by
    obtain ⟨k, rfl⟩ : ∃ x, k = x + 1 := ⟨k - 1, by omega⟩
    unfold spinneylaw05_TokenPlaces.l1
    rw [if_neg (by omega)]
  | n + 1, j, k, h, hk => by
    obtain ⟨k, rfl⟩ : ∃ x, k = x + 2 := ⟨k - 2, by omega⟩
    have ih := places_l1 ts m Q i hlen hQ hi hm h0 hj hp n (j + 1) k (by omega) (by omega)
    have hw : wrap64 ((j : Int) + 1) = ((j + 1 : Nat) : Int) := by unfold wrap64; omega
    have hw2 : wrap64 ((i : Int) + (j : Int)) = ((i + j : Nat) : Int) := by unfold wrap64; omega
    obtain ⟨t, ht⟩ : ∃ t, ts[i + j]? = some t := ⟨_, List.getElem?_eq_getElem (by omega)⟩
    obtain ⟨hp1, hp2⟩ := hp _ _ ht
    have hrt := rd_some ht
    have hwp : wrap64 (t.f3 + -(Q : Int) + (Q : Int)) = t.f3 := by unfold wrap64; omega
    unfold spinneylaw05_TokenPlaces.l1
    rw [if_pos (by omega), if_pos (by omega), if_pos (by omega)]
    by_cases hj0 : j = 0
    · subst hj0
      have hm0 := rd_some (h0 t ht)
      rw [Nat.add_zero] at hrt hw2
      rw [if_pos (by first | rfl | trivial), if_pos (by omega), if_pos (by omega), hrt, hm0]
      by_cases h7 : t.f0 = 7
      · rw [if_pos h7]
        have hu : unglue t = ⟨6, t.f1, t.f2, t.f3⟩ := by unfold unglue; rw [if_pos h7]
        unfold spinneylaw05_TokenPlaces.j4
        rw [if_pos (by rw [hu]; rfl), hw2, if_pos (by omega), if_pos (by omega), hrt, hu]
        rw [if_neg (by simp [sh, hwp, h7]), hw]
        exact ih
      · rw [if_neg h7]
        have hu : unglue t = t := by unfold unglue; rw [if_neg h7]
        unfold spinneylaw05_TokenPlaces.j4
        rw [if_neg (by decide), hw2, if_pos (by omega), if_pos (by omega), hrt, hu]
        rw [if_neg (by simp [sh, hwp]), hw]
        exact ih
    · have hmj := rd_some (hj j (by omega) (by omega) t ht)
      rw [if_neg (by omega), hmj]
      unfold spinneylaw05_TokenPlaces.j4
      rw [if_neg (by decide), hw2, if_pos (by omega), if_pos (by omega), hrt]
      rw [if_neg (by simp [sh, hwp]), hw]
      exact ih
theorem idx_step (i n L : Nat) (hL : L ≤ 5000) (h1 : i + (n + 1) = L) (h2 : 1 ≤ i) : i - 1 < L ∧ i < L ∧ i - 1 + 1 = i ∧ (i + 1) + n = L ∧ wrap64 ((i : Int) - 1) = ((i - 1 : Nat) : Int) ∧ wrap64 ((i : Int) + 1) = ((i + 1 : Nat) : Int) ∧ (i : Int) < (L : Int) ∧ (0 : Int) ≤ ((i - 1 : Nat) : Int) ∧ ((i - 1 : Nat) : Int) < (L : Int) ∧ (0 : Int) ≤ (i : Int) := by
  refine ⟨by omega, by omega, by omega, by omega, by unfold wrap64; omega, by unfold wrap64; omega, by omega, by omega, by omega, by omega⟩
theorem TokenPlaces : spinneylaw05_TokenPlaces.Pure := by
  intro src x _ hx
  by_cases hz : 4096 < src.size
  · refine ⟨1, ?_⟩
    unfold spinneylaw05_TokenPlaces.f
    rw [live05, cut_long src hz]
    simp
  have hz : src.size ≤ 4096 := by omega
  obtain ⟨K, hK⟩ : ∃ K : Nat, K = 30000 := ⟨_, rfl⟩
  refine ⟨K + 1, ?_⟩
  unfold spinneylaw05_TokenPlaces.f
  rw [live05, cut_f src hz]
  rcases hc : cutL (src.size + 1) (sfx src 0) ((0 : Nat) : Int) false with ⟨o, e⟩
  cases o with
  | none => simp
  | some ts =>
  have hlen : ts.length ≤ 5000 := by
    rcases cutL_inv src (fun _ => True) trivial (fun _ _ _ _ _ _ _ _ => trivial) (src.size + 1) 0 false (by omega) (by omega) with ⟨us, e2, h1, -, h3, -⟩ | ⟨Q, h1, -, -⟩
    · rw [hc] at h1
      simp only [Prod.mk.injEq, Option.some.injEq] at h1
      obtain ⟨rfl, -⟩ := h1
      omega
    · rw [hc] at h1
      simp at h1
  obtain ⟨he, hl, hi⟩ := cut_suffix src (src.size + 1) 0 false ts e (by omega) (by omega) hc
  subst he
  have hne : 0 < ts.length := by
    rcases ts with _ | ⟨t, ts⟩
    · simp at hl
    · simp
  have hpos : ∀ (j : Nat) t, ts[j]? = some t → 0 ≤ t.f3 ∧ t.f3 ≤ 4096 := by
    intro j t h
    obtain ⟨Q, h1, h2, h3, -, -⟩ := hi j t h
    rw [h3]
    omega
  have hlast : ts[ts.length - 1]? = some ⟨9, ⟨#[]⟩, 0, src.size⟩ := by rw [← hl, List.getLast?_eq_getElem?]
  have hwl : wrap64 ((ts.length : Int) - 1) = ((ts.length - 1 : Nat) : Int) := by unfold wrap64; omega
  simp only [Option.bind_some]
  rw [if_pos (by first | rfl | trivial), if_neg (by omega), hwl, if_pos (by omega), if_pos (by omega), rd_some hlast]
  have hnl : (⟨#[]⟩ : ByteArray).toList = ([] : List UInt8) := by rw [Lib.toList_data]
  unfold spinneylaw05_TokenPlaces.j0
  dsimp only
  rw [if_neg (by simp [hnl])]
  -- the walk over the places
  have hl0 : ∀ (n i k : Nat), i + n = ts.length → 1 ≤ i → n + 20000 ≤ k → spinneylaw05_TokenPlaces.l0 k src x true ts (i : Int) = some true := by
    intro n
    induction n with
    | zero =>
      intro i k h1 h2 hk
      obtain ⟨k, rfl⟩ : ∃ j, k = j + 2 := ⟨k - 2, by omega⟩
      unfold spinneylaw05_TokenPlaces.l0
      rw [if_neg (by omega), if_neg (by omega)]
      obtain ⟨I, hI, hI2⟩ := idx_range x ts.length hne hlen
      rw [hI]
      obtain ⟨t, ht⟩ : ∃ t, ts[I]? = some t := ⟨_, List.getElem?_eq_getElem hI2⟩
      obtain ⟨Q, hQ1, hQ2, hQ3, -, hcQ⟩ := hi I t ht
      rw [rd_some ht, hQ3, if_pos (by omega), if_pos (by omega), if_pos (by omega), if_pos (by omega), Int.toNat_natCast]
      have hsfx : src.extract Q src.size = sfx src Q := rfl
      have hcut : token_Cut.f (sfx src Q) = some ((unglue t :: ts.drop (I + 1)).map (sh (-(Q : Int))), 0, 0) := by
        rw [cut_f _ (by rw [sfx_size]; omega), sfx_zero]
        have := cutL_shift (-(Q : Int)) _ _ _ _ _ _ hcQ
        rw [show (Q : Int) + -(Q : Int) = ((0 : Nat) : Int) by omega] at this
        rw [cutL_fuel _ (src.size + 1) _ _ _ (Nat.lt_succ_self _) (by rw [sfx_size]; omega), this]
      rw [hsfx, hcut]
      simp only [Option.bind_some]
      rw [if_pos (by first | rfl | trivial)]
      have hml : ((unglue t :: ts.drop (I + 1)).map (sh (-(Q : Int)))).length + I = ts.length := by simp; omega
      have hwm : wrap64 ((ts.length : Int) - (I : Int)) = ((((unglue t :: ts.drop (I + 1)).map (sh (-(Q : Int)))).length : Nat) : Int) := by unfold wrap64; omega
      rw [hwm]
      unfold spinneylaw05_TokenPlaces.j2
      dsimp only
      rw [if_neg (by simp)]
      have hj := places_l1 ts ((unglue t :: ts.drop (I + 1)).map (sh (-(Q : Int)))) Q I hlen (by omega) hI2 hml (fun t2 h2 => by
          rw [ht] at h2
          cases h2
          rfl) (fun j h1 h2 t2 h3 => by
          obtain ⟨j, rfl⟩ : ∃ y, j = y + 1 := ⟨j - 1, by omega⟩
          rw [List.getElem?_map, List.getElem?_cons_succ, List.getElem?_drop, show I + 1 + j = I + (j + 1) by omega, h3]
          rfl) hpos (((unglue t :: ts.drop (I + 1)).map (sh (-(Q : Int)))).length) 0 k (by omega) (by omega)
      exact hj
    | succ n ih =>
      intro i k h1 h2 hk
      obtain ⟨k, rfl⟩ : ∃ j, k = j + 1 := ⟨k - 1, by omega⟩
      have hk2 : n + 20000 ≤ k := by omega
      clear hk hK
      obtain ⟨g1, g2, g3, g4, g5, g6, g7, g8, g9, g10⟩ := idx_step i n ts.length hlen h1 h2
      obtain ⟨t, ht⟩ : ∃ t, ts[i - 1]? = some t := ⟨ts[i - 1], List.getElem?_eq_getElem g1⟩
      obtain ⟨t2, ht2⟩ : ∃ t, ts[i]? = some t := ⟨ts[i], List.getElem?_eq_getElem g2⟩
      obtain ⟨Q, -, -, -, h4, -⟩ := hi (i - 1) t ht
      have h5 := h4 t2 (by rw [g3]; exact ht2)
      have h6 : ¬ t.f3 ≥ t2.f3 := Int.not_le.2 h5
      unfold spinneylaw05_TokenPlaces.l0
      rw [if_pos g7, g5, if_pos g8, if_pos g9, if_pos g10, rd_some ht, rd_some ht2, if_neg h6, g6]
      exact ih (i + 1) k g4 (Nat.le_add_left 1 i) hk2
  exact hl0 (ts.length - 1) 1 K (by omega) (Nat.le_refl _) (by omega)

end Go.Proofs.YtjichkjnodabiaaDoor.Pure
set_option linter.unusedVariables false
set_option linter.unusedSimpArgs false
namespace Go.Proofs.YtjichkjnodabiaaDoor.Pure
open Go Go.Own Go.RowKit Go.Proofs.YtjichkjnodabiaaDoor.P Go.Proofs.YtjichkjnodabiaaDoorW.PrintWords Go.Proofs.YtjichkjnodabiaaDoorW.PrintLast

theorem ba_ext {a b : ByteArray} (h : a.data.toList = b.data.toList) : a = b := ByteArray.ext (Array.toList_inj.1 h)
theorem app_list (a b : ByteArray) : (a ++ b).data.toList = a.data.toList ++ b.data.toList := by rw [ByteArray.data_append, Array.toList_append]
theorem suf_list (s : ByteArray) (n : Nat) : (s.extract n s.size).data.toList = s.data.toList.drop n := by
  rw [Lib.extract_data, List.take_of_length_le]
  rw [List.length_drop, ← Lib.size_eq]
  omega
theorem bt_list (s : ByteArray) (i : Nat) : bt s (i : Int) = ((s.data.toList.getD i 0).toNat : Int) := by
  unfold bt
  rw [Int.toNat_natCast]
  by_cases h : i < s.size
  · rw [dif_pos h, List.getD_eq_getElem?_getD, List.getElem?_eq_getElem (by rw [← Lib.size_eq]; exact h)]
    rfl
  · rw [dif_neg h, List.getD_eq_getElem?_getD, List.getElem?_eq_none (by rw [← Lib.size_eq]; omega)]
    rfl
theorem get_list (s : ByteArray) (i : Nat) : s.get! i = s.data.toList.getD i 0 := by
  rcases s with ⟨d⟩
  show d[i]! = d.toList.getD i 0
  rw [List.getD_eq_getElem?_getD, Array.getElem?_toList, getElem!_def]
  cases d[i]? <;> rfl
theorem dec_ascii {s : ByteArray} {pos : Nat} (h : (s.data.toList.getD pos 0).toNat < 128) : Utf8.decode s pos = ((s.data.toList.getD pos 0).toNat, 1) := by
  rw [Lib.decode_at, get_list]
  unfold Lib.decodeN
  rw [if_pos h]
theorem dec_high {s : ByteArray} {pos : Nat} (h : 128 ≤ (s.data.toList.getD pos 0).toNat) : 128 ≤ (Utf8.decode s pos).1 := by
  rw [Lib.decode_at, get_list]
  unfold Lib.decodeN
  rw [if_neg (by omega)]
  repeat' split
  all_goals (dsimp only; omega)
theorem class_high (c : Nat) (h : 128 ≤ c) : classN (c : Int) = 0 := by
  unfold classN classN.c0 classN.c1 classN.c2 classN.c3 classN.c4 classN.c5
  repeat rw [if_neg (by omega)]
theorem whL_list (q : Int → Bool) (hq : q 0 = false) (s : ByteArray) : ∀ f pos, s.size ≤ pos + f → pos ≤ s.size → token_Cut.whL q s.size (runesAt s f pos) = pos + ((s.data.toList.drop pos).takeWhile (fun b => q (classN (b.toNat : Int)))).length
  | 0, pos, hf, hp => by
    obtain rfl : pos = s.size := by omega
    rw [Lib.size_eq, List.drop_length]
    rfl
  | f + 1, pos, hf, hp => by
    by_cases h : pos < s.size
    · have hl : pos < s.data.toList.length := by rw [← Lib.size_eq]; exact h
      have hd : s.data.toList.drop pos = s.data.toList.getD pos 0 :: s.data.toList.drop (pos + 1) := by
        rw [List.getD_eq_getElem?_getD, List.getElem?_eq_getElem hl, List.drop_eq_getElem_cons hl]; rfl
      have hr : runesAt s (f + 1) pos = (pos, (Utf8.decode s pos).1) :: runesAt s f (pos + (Utf8.decode s pos).2) := by
        conv => lhs; unfold runesAt
        rw [if_pos h]
      rw [hr, hd]
      unfold token_Cut.whL
      by_cases ha : (s.data.toList.getD pos 0).toNat < 128
      · rw [dec_ascii ha]
        dsimp only
        by_cases hc : q (classN ((s.data.toList.getD pos 0).toNat : Int)) = true
        · rw [if_pos hc, List.takeWhile_cons, if_pos hc, whL_list q hq s f (pos + 1) (by omega) (by omega)]
          simp only [List.length_cons]
          omega
        · rw [if_neg hc, List.takeWhile_cons, if_neg hc]
          rfl
      · have hh := dec_high (s := s) (pos := pos) (by omega)
        rw [if_neg (by rw [class_high _ hh, hq]; simp), List.takeWhile_cons, if_neg (by rw [class_high _ (by omega), hq]; simp)]
        rfl
    · obtain rfl : pos = s.size := by omega
      rw [runesAt_end h, Lib.size_eq, List.drop_length]
      rfl
theorem wh_list (q : Int → Bool) (hq : q 0 = false) (s : ByteArray) : token_Cut.wh q s = (s.data.toList.takeWhile (fun b => q (classN (b.toNat : Int)))).length := by
  unfold token_Cut.wh runesOf
  rw [whL_list q hq s s.size 0 (by omega) (by omega), Nat.zero_add, List.drop_zero]
theorem pre2 (t : ByteArray) (c d : UInt8) : strings_HasPrefix.f t (⟨#[c, d]⟩ : ByteArray) = some (t.data.toList.take 2 == [c, d]) := by
  unfold strings_HasPrefix.f stringslite_HasPrefix.f
  have h2 : ((⟨#[c, d]⟩ : ByteArray).size : Int) = 2 := rfl
  have h3 : (⟨#[c, d]⟩ : ByteArray).toList = [c, d] := by rw [Lib.toList_data]
  rw [h2, h3]
  by_cases h : (t.size : Int) ≥ 2
  · rw [if_pos h, if_pos (by decide), if_pos h, Option.bind_some, Lib.extract_toList]
    rfl
  · rw [if_neg h, Option.bind_some]
    congr 1
    symm
    rw [beq_eq_false_iff_ne]
    intro hx
    have := congrArg List.length hx
    rw [List.length_take, ← Lib.size_eq] at this
    simp at this
    omega
theorem cut2 (t : ByteArray) (c d : UInt8) : strings_CutPrefix.f t (⟨#[c, d]⟩ : ByteArray) = if (t.data.toList.take 2 == [c, d]) = true then some (t.extract 2 t.size, true) else some (t, false) := by
  have hp := pre2 t c d
  unfold strings_HasPrefix.f at hp
  unfold strings_CutPrefix.f stringslite_CutPrefix.f
  have hp2 : stringslite_HasPrefix.f t (⟨#[c, d]⟩ : ByteArray) = some (t.data.toList.take 2 == [c, d]) := by
    rcases hq : stringslite_HasPrefix.f t (⟨#[c, d]⟩ : ByteArray) with _ | b
    · rw [hq] at hp; simp at hp
    · rw [hq, Option.bind_some] at hp; exact hp
  rw [hp2, Option.bind_some]
  by_cases h : (t.data.toList.take 2 == [c, d]) = true
  · have hl : 2 ≤ t.size := by
      have := congrArg List.length (beq_iff_eq.1 h)
      rw [List.length_take, ← Lib.size_eq] at this
      simp at this
      omega
    have h2 : ((⟨#[c, d]⟩ : ByteArray).size : Int) = 2 := rfl
    rw [if_pos h, if_pos h, h2, if_pos (by decide), if_pos (by omega)]
    rfl
  · rw [if_neg h, if_neg h]
    rfl

end Go.Proofs.YtjichkjnodabiaaDoor.Pure
set_option linter.unusedVariables false
set_option linter.unusedSimpArgs false
namespace Go.Proofs.YtjichkjnodabiaaDoor.Pure
open Go Go.Own Go.RowKit Go.Proofs.YtjichkjnodabiaaDoor.P Go.Proofs.YtjichkjnodabiaaDoorW.PrintWords Go.Proofs.YtjichkjnodabiaaDoorW.PrintLast

theorem hp_list (s : ByteArray) (h : 2 ≤ s.size) : strings_HasPrefix.f s (⟨#[47, 42]⟩ : ByteArray) = some (s.data.toList.take 2 == [47, 42]) := by
  unfold strings_HasPrefix.f stringslite_HasPrefix.f
  have h2 : ((⟨#[47, 42]⟩ : ByteArray).size : Int) = 2 := rfl
  have h3 : (⟨#[47, 42]⟩ : ByteArray).toList = [47, 42] := by rw [Lib.toList_data]
  rw [h2, if_pos (by omega), if_pos (by decide), if_pos (by omega), Option.bind_some, h3, Lib.extract_toList]
  rfl
/-- one blank or remark ahead -/
theorem blank_app (A B src : ByteArray) (n : Nat) (hd : A.data.toList.drop n = B.data.toList) (hn : n ≤ A.data.toList.length) (hb : token_Cut.blank (A ++ src) = some (some n)) (k : Nat) (p : Int) (g : Bool) (hz : 0 < A.data.toList.length) :
    token_Cut.bl (k + 1) (A ++ src) p g = token_Cut.bl k (B ++ src) (p + n) false := by
  have hs : (A ++ src).size ≠ 0 := by rw [ByteArray.size_append]; rw [← Lib.size_eq] at hz; omega
  conv => lhs; unfold token_Cut.bl
  rw [if_neg hs, hb]
  dsimp only
  congr 1
  apply ba_ext
  rw [suf_list, app_list, app_list, ← hd, List.drop_append_of_le_length hn]
theorem bl_fuel : ∀ (k k2 : Nat) (s : ByteArray) (p : Int) (g : Bool), s.size ≤ k → s.size ≤ k2 → token_Cut.bl k s p g = token_Cut.bl k2 s p g
  | 0, 0, _, _, _, _, _ => rfl
  | 0, k2 + 1, s, p, g, h, _ => by conv => rhs; unfold token_Cut.bl
                                   rw [if_pos (by omega)]; rfl
  | k + 1, 0, s, p, g, _, h => by conv => lhs; unfold token_Cut.bl
                                  rw [if_pos (by omega)]; rfl
  | k + 1, k2 + 1, s, p, g, h, h2 => by
    unfold token_Cut.bl
    by_cases hz : s.size = 0
    · rw [if_pos hz, if_pos hz]
    · rw [if_neg hz, if_neg hz]
      rcases hb : token_Cut.blank s with _ | _ | n
      · rfl
      · rfl
      · obtain ⟨h3, h4⟩ := blank_range hz hb
        exact bl_fuel k k2 _ _ _ (by rw [ByteArray.size_extract]; omega) (by rw [ByteArray.size_extract]; omega)
theorem cutL_shiftN (d : Int) : ∀ (k : Nat) (s : ByteArray) (p : Int) (gl : Bool) (q : Int), cutL k s p gl = (none, q) → cutL k s (p + d) gl = (none, q + d)
  | 0, s, p, gl, q, h => by simp [cutL] at h
  | k + 1, s, p, gl, q, h => by
    unfold cutL at h ⊢
    rw [bl_shift]
    rcases hb : token_Cut.bl s.size s p gl with ⟨ok, s2, p2, gl2⟩
    rw [hb] at h
    cases ok with
    | false =>
      simp only [Prod.mk.injEq, true_and] at h
      rw [h]
    | true =>
      dsimp only at h ⊢
      by_cases hz : s2.size = 0
      · rw [if_pos hz] at h
        simp at h
      · rw [if_neg hz] at h ⊢
        cases ht : token_Cut.tok s2 gl2 with
        | none =>
          rw [ht] at h
          simp only [Prod.mk.injEq, true_and] at h
          rw [h]
        | some x =>
          obtain ⟨kd, tx, N, n⟩ := x
          rw [ht] at h
          dsimp only at h ⊢
          rcases hc : cutL k (s2.extract n s2.size) (p2 + n) (token_Cut.glue kd tx) with ⟨o, q2⟩
          rw [hc] at h
          cases o with
          | some us => simp at h
          | none =>
            simp only [Option.map_none, Prod.mk.injEq, true_and] at h
            subst h
            rw [show p2 + d + (n : Int) = (p2 + n) + d by omega, cutL_shiftN d k _ _ _ _ hc]
            rfl
/-- what stands ahead goes by -/
theorem cut_ahead (A src : ByteArray) (m : Nat) (h : ∀ (k : Nat) (p : Int), token_Cut.bl (k + m) (A ++ src) p false = token_Cut.bl k src (p + A.size) false) (hm : m ≤ A.size) :
    cutL ((A ++ src).size + 1) (A ++ src) 0 false = cutL (src.size + 1) src (A.size : Int) false := by
  have hs : (A ++ src).size = A.size + src.size := ByteArray.size_append
  rw [cutL_fuel (src.size + 1) ((A ++ src).size + 1) src _ _ (Nat.lt_succ_self _) (by omega)]
  unfold cutL
  have h1 := h ((A ++ src).size - m) 0
  rw [show (A ++ src).size - m + m = (A ++ src).size by omega, bl_fuel _ src.size src _ _ (by omega) (Nat.le_refl _), Int.zero_add] at h1
  rw [h1]
/-- the five texts ahead -/
def Aheads : List ByteArray := [⟨#[32]⟩, ⟨#[10]⟩, ⟨#[37, 32, 120, 32, 46, 32, 39, 32, 121, 10]⟩, ⟨#[47, 42, 32, 97, 10, 32, 39, 42, 47]⟩, ⟨#[47, 42, 42, 47, 9]⟩]
theorem blank_five {A src : ByteArray} {b : UInt8} {r : List UInt8} (hA : A.data.toList = b :: r) (hc : classN ((b.toNat : Int)) = 5) : token_Cut.blank (A ++ src) = some (some 1) := by
  have h0 : bt (A ++ src) 0 = (b.toNat : Int) := by
    rw [show (0 : Int) = ((0 : Nat) : Int) from rfl, bt_list, app_list, hA]; rfl
  unfold token_Cut.blank
  rw [h0, if_pos hc]
theorem blank_remark {A src : ByteArray} {r : List UInt8} {j : Nat} (hA : A.data.toList = 47 :: 42 :: r) (hj : Lib.index (r ++ src.data.toList) [42, 47] = (j : Int)) : token_Cut.blank (A ++ src) = some (some (j + 4)) := by
  have h0 : bt (A ++ src) 0 = 47 := by
    rw [show (0 : Int) = ((0 : Nat) : Int) from rfl, bt_list, app_list, hA]; rfl
  have hsz : 2 ≤ (A ++ src).size := by rw [Lib.size_eq, app_list, hA]; simp
  unfold token_Cut.blank
  rw [h0, if_neg (by decide), if_neg (by decide), hp_list _ hsz, app_list, hA, if_pos (by rfl), suf_list, app_list, hA]
  have e : List.drop 2 (47 :: 42 :: r ++ src.data.toList) = r ++ src.data.toList := rfl
  rw [e, hj, if_neg (by omega), Int.toNat_natCast]
theorem aheads (A src : ByteArray) (hA : A ∈ Aheads) : ∃ m, m ≤ A.size ∧ 1 ≤ A.size ∧ A.size ≤ 20 ∧ ∀ (k : Nat) (p : Int), token_Cut.bl (k + m) (A ++ src) p false = token_Cut.bl k src (p + A.size) false := by
  have he : ∀ p : Int, (⟨#[]⟩ : ByteArray) ++ src = src := fun _ => ba_ext (by rw [app_list]; rfl)
  have hnil : (⟨#[]⟩ : ByteArray) ++ src = src := he 0
  simp only [Aheads, List.mem_cons, List.not_mem_nil, or_false] at hA
  rcases hA with rfl | rfl | rfl | rfl | rfl
  · refine ⟨1, by decide, by decide, by decide, fun k p => ?_⟩
    rw [blank_app ⟨#[32]⟩ ⟨#[]⟩ src 1 rfl (by decide) (blank_five (b := 32) (r := []) rfl (by decide)) k p false (by decide), hnil]
    rfl
  · refine ⟨1, by decide, by decide, by decide, fun k p => ?_⟩
    rw [blank_app ⟨#[10]⟩ ⟨#[]⟩ src 1 rfl (by decide) (blank_five (b := 10) (r := []) rfl (by decide)) k p false (by decide), hnil]
    rfl
  · refine ⟨2, by decide, by decide, by decide, fun k p => ?_⟩
    have hb : token_Cut.blank ((⟨#[37, 32, 120, 32, 46, 32, 39, 32, 121, 10]⟩ : ByteArray) ++ src) = some (some 9) := by
      have h0 : bt ((⟨#[37, 32, 120, 32, 46, 32, 39, 32, 121, 10]⟩ : ByteArray) ++ src) 0 = 37 := by
        rw [show (0 : Int) = ((0 : Nat) : Int) from rfl, bt_list, app_list]; rfl
      have hi : Lib.indexByte ((⟨#[37, 32, 120, 32, 46, 32, 39, 32, 121, 10]⟩ : ByteArray) ++ src).data.toList 10 = 9 := by
        rw [app_list]; simp [Lib.indexByte]
      unfold token_Cut.blank
      rw [h0, if_neg (by decide), if_pos (by first | rfl | trivial), hi]
      rfl
    rw [show k + 2 = (k + 1) + 1 from rfl, blank_app _ ⟨#[10]⟩ src 9 rfl (by decide) hb (k + 1) p false (by decide),
      blank_app ⟨#[10]⟩ ⟨#[]⟩ src 1 rfl (by decide) (blank_five (b := 10) (r := []) rfl (by decide)) k _ false (by decide), hnil]
    congr 1
    show p + 9 + 1 = p + 10
    omega
  · refine ⟨1, by decide, by decide, by decide, fun k p => ?_⟩
    rw [blank_app ⟨#[47, 42, 32, 97, 10, 32, 39, 42, 47]⟩ ⟨#[]⟩ src 9 rfl (by decide) (blank_remark (r := [32, 97, 10, 32, 39, 42, 47]) (j := 5) rfl (by simp [Lib.index, List.isPrefixOf])) k p false (by decide), hnil]
    rfl
  · refine ⟨2, by decide, by decide, by decide, fun k p => ?_⟩
    rw [show k + 2 = (k + 1) + 1 from rfl, blank_app ⟨#[47, 42, 42, 47, 9]⟩ ⟨#[9]⟩ src 4 rfl (by decide) (blank_remark (r := [42, 47, 9]) (j := 0) rfl (by simp [Lib.index, List.isPrefixOf])) (k + 1) p false (by decide),
      blank_app ⟨#[9]⟩ ⟨#[]⟩ src 1 rfl (by decide) (blank_five (b := 9) (r := []) rfl (by decide)) k _ false (by decide), hnil]
    congr 1
    show p + 4 + 1 = p + 5
    omega
theorem blanks_l0 (A : ByteArray) (hA : A.size ≤ 20) (ts : List TokT) (hlen : ts.length ≤ 5000) (hp : ∀ (j : Nat) t, ts[j]? = some t → 0 ≤ t.f3 ∧ t.f3 ≤ 4096) :
    ∀ (n i k : Nat), i + n = ts.length → n + 1 ≤ k → spinneylaw05_TokenBlanks.l0 k true A ts (ts.map (sh (A.size : Int))) (ts.length : Int) (i : Int) = some true
  | 0, i, k, h, hk => by
    obtain ⟨k, rfl⟩ : ∃ x, k = x + 1 := ⟨k - 1, by omega⟩
    unfold spinneylaw05_TokenBlanks.l0
    rw [if_neg (by omega)]
  | n + 1, i, k, h, hk => by
    obtain ⟨k, rfl⟩ : ∃ x, k = x + 1 := ⟨k - 1, by omega⟩
    have ih := blanks_l0 A hA ts hlen hp n (i + 1) k (by omega) (by omega)
    obtain ⟨t, ht⟩ : ∃ t, ts[i]? = some t := ⟨_, List.getElem?_eq_getElem (by omega)⟩
    obtain ⟨h1, h2⟩ := hp i t ht
    have hm : (ts.map (sh (A.size : Int)))[i]? = some (sh (A.size : Int) t) := by rw [List.getElem?_map, ht]; rfl
    have hw : wrap64 ((i : Int) + 1) = ((i + 1 : Nat) : Int) := by unfold wrap64; omega
    have hwp : wrap64 (t.f3 + (A.size : Int)) = t.f3 + (A.size : Int) := by unfold wrap64; omega
    unfold spinneylaw05_TokenBlanks.l0
    rw [if_pos (by omega), if_pos (by omega), if_pos (by omega), if_pos (by rw [List.length_map]; omega), rd_some ht, rd_some hm, hwp]
    rw [if_neg (by simp [sh]), hw]
    exact ih
theorem TokenBlanks : spinneylaw05_TokenBlanks.Pure := by
  intro src x _ _
  obtain ⟨i, hi, hi2⟩ := idx_range x 5 (by decide) (by decide)
  have hi3 : Int.tmod (wrap64 ((Int.tmod x 5) + 5)) 5 = (i : Int) := hi
  have hmem : selB Aheads (i : Int) ∈ Aheads := by
    unfold selB
    rw [Int.toNat_natCast, List.getD_eq_getElem?_getD, List.getElem?_eq_getElem (by show i < 5; exact hi2)]
    exact List.getElem_mem _
  obtain ⟨K, hK⟩ : ∃ K : Nat, K = 30000 := ⟨_, rfl⟩
  refine ⟨K + 1, ?_⟩
  unfold spinneylaw05_TokenBlanks.f
  rw [live05, hi3]
  simp only [Option.bind_some]
  rw [if_pos (by omega), if_pos (by omega)]
  by_cases hz : wrap64 ((src.size : Int) + 20) > 4096
  · rw [if_pos hz]
  rw [if_neg hz]
  have hz2 : src.size + 20 ≤ 4096 ∨ 9000000000000000000 < src.size := by unfold wrap64 at hz; omega
  rcases hz2 with hz2 | hz2
  case inr => rename_i hsz _; omega
  obtain ⟨A, hA⟩ : ∃ A, A = selB Aheads (i : Int) := ⟨_, rfl⟩
  have hA2 : selB [(⟨#[32]⟩ : ByteArray), (⟨#[10]⟩ : ByteArray), (⟨#[37, 32, 120, 32, 46, 32, 39, 32, 121, 10]⟩ : ByteArray), (⟨#[47, 42, 32, 97, 10, 32, 39, 42, 47]⟩ : ByteArray), (⟨#[47, 42, 42, 47, 9]⟩ : ByteArray)] (i : Int) = A := hA.symm
  simp only [hA2]
  rw [← hA] at hmem
  obtain ⟨m, h1, h2, h3, h4⟩ := aheads A src hmem
  have hca := cut_ahead A src m h4 h1
  have hsz : (A ++ src).size = A.size + src.size := ByteArray.size_append
  rw [cut_f src (by omega), cut_f (A ++ src) (by omega), sfx_zero, sfx_zero, show (((0 : Nat) : Int)) = (0 : Int) from rfl, hca]
  simp only [Option.bind_some]
  rw [if_pos (by omega)]
  rcases hc : cutL (src.size + 1) src 0 false with ⟨o, e⟩
  cases o with
  | none =>
    have := cutL_shiftN (A.size : Int) _ _ _ _ _ hc
    rw [Int.zero_add] at this
    rw [this]
    have he : 0 ≤ e ∧ e ≤ 4096 := by
      rcases cutL_inv src (fun _ => True) trivial (fun _ _ _ _ _ _ _ _ => trivial) (src.size + 1) 0 false (by omega) (by omega) with ⟨us, e2, g1, -, -, -⟩ | ⟨Q, g1, -, g3⟩
      · rw [sfx_zero] at g1
        rw [show (((0 : Nat) : Int)) = (0 : Int) from rfl, hc] at g1
        simp at g1
      · rw [sfx_zero] at g1
        rw [show (((0 : Nat) : Int)) = (0 : Int) from rfl, hc] at g1
        simp only [Prod.mk.injEq, true_and] at g1
        omega
    have hwe : wrap64 (e + (A.size : Int)) = e + (A.size : Int) := by unfold wrap64; omega
    simp only [Option.bind_some]
    rw [if_pos (by first | rfl | trivial), if_pos (by first | rfl | trivial), if_neg (by decide), hwe]
    unfold spinneylaw05_TokenBlanks.j0
    dsimp only
    rw [if_neg (by simp)]
    exact blanks_l0 A h3 [] (by simp) (by simp) 0 0 K rfl (by omega)
  | some ts =>
    have hsx := hc
    rw [show (0 : Int) = ((0 : Nat) : Int) from rfl, show src = sfx src 0 from (sfx_zero src).symm] at hsx
    rw [sfx_zero] at hsx
    obtain ⟨he, hl, hpos⟩ := cut_suffix src (src.size + 1) 0 false ts e (by omega) (by omega) (by rw [sfx_zero]; exact hc)
    have := cutL_shift (A.size : Int) _ _ _ _ _ _ hc
    rw [Int.zero_add] at this
    rw [this]
    have hlen : ts.length ≤ 5000 := by
      rcases cutL_inv src (fun _ => True) trivial (fun _ _ _ _ _ _ _ _ => trivial) (src.size + 1) 0 false (by omega) (by omega) with ⟨us, e2, g1, -, g3, -⟩ | ⟨Q, g1, -, -⟩
      · rw [sfx_zero, show (((0 : Nat) : Int)) = (0 : Int) from rfl, hc] at g1
        simp only [Prod.mk.injEq, Option.some.injEq] at g1
        obtain ⟨rfl, -⟩ := g1
        omega
      · rw [sfx_zero, show (((0 : Nat) : Int)) = (0 : Int) from rfl, hc] at g1
        simp at g1
    simp only [Option.bind_some]
    rw [if_pos (by first | rfl | trivial), if_pos (by rw [List.length_map]), if_pos (by first | rfl | trivial)]
    unfold spinneylaw05_TokenBlanks.j0
    dsimp only
    rw [if_neg (by decide)]
    exact blanks_l0 A h3 ts hlen (fun j t h => by
      obtain ⟨Q, q1, q2, q3, -, -⟩ := hpos j t h
      rw [q3]; omega) ts.length 0 K (by omega) (by omega)

end Go.Proofs.YtjichkjnodabiaaDoor.Pure
