/- Any atom, written, with a blank behind it, is one token that is it. No condition. -/
import Derived.Test.YtjichkjnodabiaaDoorPx5
import Derived.Test.YtjichkjnodabiaaDoorPx8
import Derived.Test.YtjichkjnodabiaaDoorPx3
import Derived.Test.YtjichkjnodabiaaDoorPx6
import Derived.Test.YtjichkjnodabiaaDoorPx4
import Derived.Test.YtjichkjnodabiaaDoorPx7
import Derived.Lib.MapLaws
import Derived.Lib.ValidLaws
import Derived.Lib.TrimUEq
import Derived.Lib.TrimAscii
import Derived.WideShapes
import Derived.Test.YtjichkjnodabiaaDoorPx0
set_option linter.unusedVariables false
set_option linter.unusedSimpArgs false
namespace Go.Proofs.YtjichkjnodabiaaDoor.Pure
open Go Go.Own Go.RowKit Go.Proofs.YtjichkjnodabiaaDoor.P Go.Proofs.YtjichkjnodabiaaDoorW.PrintWords Go.Proofs.YtjichkjnodabiaaDoorW.PrintLast

theorem live05 : spinneylaw05_live.f = some true := by decide +kernel
/-- what is left from a place on -/
def sfx (src : ByteArray) (P : Nat) : ByteArray := src.extract P src.size
theorem sfx_size (src : ByteArray) (P : Nat) : (sfx src P).size = src.size - P := by unfold sfx; rw [ByteArray.size_extract]; omega
theorem sfx_zero (src : ByteArray) : sfx src 0 = src := by unfold sfx; simp
theorem sfx_sfx (src : ByteArray) (P n : Nat) : (sfx src P).extract n (sfx src P).size = sfx src (P + n) := by
  unfold sfx
  rw [ByteArray.extract_extract, ByteArray.size_extract]
  congr 1
  omega
theorem sfx_take (src : ByteArray) (P n : Nat) (h : P + n ≤ src.size) : (sfx src P).extract 0 n = src.extract P (P + n) := by
  unfold sfx
  rw [ByteArray.extract_extract]
  congr 1
  · omega
theorem blank_range {s : ByteArray} {n : Nat} (hz : s.size ≠ 0) (h : token_Cut.blank s = some (some n)) : 1 ≤ n ∧ n ≤ s.size := by
  have hpos : 0 < s.size := by omega
  unfold token_Cut.blank at h
  split at h
  · simp only [Option.some.injEq] at h; omega
  · split at h
    · rename_i hb
      simp only [Option.some.injEq] at h
      have hi := Lib.indexByte_ge s.data.toList 10
      split at h
      · omega
      · rename_i h0
        obtain ⟨o, ho⟩ : ∃ o : Nat, Lib.indexByte s.data.toList 10 = o := ⟨(Lib.indexByte s.data.toList 10).toNat, by omega⟩
        rw [ho, Int.toNat_natCast] at h
        subst h
        obtain ⟨ho1, ho2⟩ := Lib.indexByte_some ho
        have ho3 : o < s.data.toList.length := (List.getElem?_eq_some_iff.1 ho1).1
        rw [← Lib.size_eq] at ho3
        refine ⟨?_, by omega⟩
        rcases Nat.eq_zero_or_pos o with rfl | h
        · exfalso
          have h1 : s.data.toList[0]? = some (s[0]'hpos) := by
            rw [List.getElem?_eq_getElem (by rw [← Lib.size_eq]; exact hpos)]; rfl
          rw [h1] at ho1
          have h2 : (s[0]'hpos) = 10 := Option.some.inj ho1
          have hbt : ((s[0]'hpos).toNat : Int) = bt s 0 := bt_at s 0 hpos
          rw [h2, hb] at hbt
          exact absurd hbt (by decide)
        · exact h
    · split at h
      · rename_i hp
        have h2 := token_Cut.hp_two hp
        split at h
        · cases h
        · rename_i hj0
          simp only [Option.some.injEq] at h
          have hr := Lib.index_room _ _ (show 0 ≤ Lib.index (s.extract 2 s.size).data.toList [42, 47] by omega)
          rw [← Lib.size_eq, ByteArray.size_extract] at hr
          simp only [List.length_cons, List.length_nil] at hr
          omega
      · cases h
/-- blanks go on to a place -/
theorem bl_sfx (src : ByteArray) : ∀ (k P : Nat) (gl : Bool), P ≤ src.size → ∃ (ok : Bool) (Q : Nat) (gl2 : Bool), token_Cut.bl k (sfx src P) P gl = (ok, sfx src Q, (Q : Int), gl2) ∧ P ≤ Q ∧ Q ≤ src.size
  | 0, P, gl, h => ⟨true, P, gl, rfl, Nat.le_refl _, h⟩
  | k + 1, P, gl, h => by
    unfold token_Cut.bl
    split
    · exact ⟨true, P, gl, rfl, Nat.le_refl _, h⟩
    · rename_i hz
      split
      · exact ⟨true, P, gl, rfl, Nat.le_refl _, h⟩
      · exact ⟨false, P, gl, rfl, Nat.le_refl _, h⟩
      · rename_i n hb
        obtain ⟨h1, h2⟩ := blank_range hz hb
        rw [sfx_size] at h2
        obtain ⟨ok, Q, gl2, e, hQ, hQ2⟩ := bl_sfx src k (P + n) false (by omega)
        refine ⟨ok, Q, gl2, ?_, by omega, hQ2⟩
        rw [sfx_sfx, show (P : Int) + (n : Int) = ((P + n : Nat) : Int) by omega]
        exact e
theorem own_le {s : ByteArray} {kd : Int} {m : Nat} (hm : m ≤ s.size) {a : Int} {b : ByteArray} {c : Int} {n : Nat} (h : token_Cut.ownT s kd m = some (a, b, c, n)) : n ≤ s.size ∧ a = kd ∧ b = s.extract 0 n ∧ n = m ∧ c = 0 := by
  unfold token_Cut.ownT at h
  split at h
  · cases h
  · simp only [Option.some.injEq, Prod.mk.injEq] at h
    obtain ⟨h1, h2, h3, h4⟩ := h
    subst h4
    exact ⟨hm, h1.symm, h2.symm, rfl, h3.symm⟩
theorem numB_le {s : ByteArray} {a : Int} {b : ByteArray} {c : Int} {n : Nat} (h : token_Cut.numB s = some (a, b, c, n)) : n ≤ s.size ∧ a = 5 := by
  unfold token_Cut.numB at h
  split at h
  · split at h
    · simp only [Option.some.injEq, Prod.mk.injEq] at h
      have := token_Cut.wh_le token_Cut.qdigit s
      omega
    · cases h
  · cases h
theorem num_le {s : ByteArray} {a : Int} {b : ByteArray} {c : Int} {n : Nat} (h : token_Cut.num s = some (a, b, c, n)) : n ≤ s.size ∧ a = 5 := by
  unfold token_Cut.num at h
  rcases token_Cut.cp_some s with hP | ⟨h2, hP⟩
  · rw [hP] at h
    exact numB_le h
  · rw [hP] at h
    dsimp only at h
    split at h
    · rename_i N m hA
      simp only [Option.some.injEq, Prod.mk.injEq] at h
      obtain ⟨h3, -, -, h4⟩ := h
      subst h4
      refine ⟨?_, h3.symm⟩
      unfold token_Cut.numA at hA
      have hrs : (s.extract 2 s.size).size + 2 = s.size := by rw [ByteArray.size_extract]; omega
      obtain ⟨b2, hq, hq2⟩ := token_Cut.hq_some (s.extract 2 s.size)
      have hgo := token_Cut.go_le (s.extract 2 s.size)
      split at hA
      · rename_i hq3
        rw [hq3] at hq
        have := hq2 (Option.some.inj hq).symm
        simp only [Option.some.injEq, Prod.mk.injEq] at hA
        omega
      · split at hA
        · simp only [Option.some.injEq, Prod.mk.injEq] at hA
          omega
        · cases hA
    · exact numB_le h
/-- a token lies within what is left; its text is the source's own bytes, of names, signs, variables and brackets -/
theorem tok_le {s : ByteArray} {gl : Bool} (hz : s.size ≠ 0) {a : Int} {b : ByteArray} {c : Int} {n : Nat} (h : token_Cut.tok s gl = some (a, b, c, n)) : n ≤ s.size ∧ (a = 2 ∨ a = 5 ∨ (b = s.extract 0 n ∧ a ≠ 9 ∧ a ≠ 2 ∧ a ≠ 5)) := by
  have hown : ∀ {kd : Int} {m : Nat}, kd ≠ 9 → kd ≠ 2 → kd ≠ 5 → m ≤ s.size → token_Cut.ownT s kd m = some (a, b, c, n) → n ≤ s.size ∧ (a = 2 ∨ a = 5 ∨ (b = s.extract 0 n ∧ a ≠ 9 ∧ a ≠ 2 ∧ a ≠ 5)) := by
    intro kd m h9 h2 h5 hm ho
    obtain ⟨q1, q2, q3, -, -⟩ := own_le hm ho
    exact ⟨q1, .inr (.inr ⟨q3, by omega, by omega, by omega⟩)⟩
  unfold token_Cut.tok at h
  split at h
  · exact hown (by decide) (by decide) (by decide) (token_Cut.wh_le _ _) h
  · split at h
    · exact hown (by decide) (by decide) (by decide) (token_Cut.wh_le _ _) h
    · split at h
      · obtain ⟨q1, q2⟩ := num_le h; exact ⟨q1, .inr (.inl q2)⟩
      · split at h
        · split at h
          · exact hown (by decide) (by decide) (by decide) (token_Cut.wh_le _ _) h
          · exact hown (by decide) (by decide) (by decide) (token_Cut.wh_le _ _) h
        · split at h
          · split at h <;> exact hown (by decide) (by decide) (by decide) (by omega) h
          · split at h
            · split at h <;> exact hown (by decide) (by decide) (by decide) (by omega) h
            · split at h
              · split at h
                · rename_i t m e hr
                  split at h
                  · rename_i c2
                    obtain ⟨rfl, -⟩ := c2
                    have := token_Cut.rd_range s hr
                    simp only [Option.some.injEq, Prod.mk.injEq] at h
                    exact ⟨by omega, .inl h.1.symm⟩
                  · cases h
                · cases h
              · cases h
/-- the tokens from here on, or the place of the error -/
def cutL : Nat → ByteArray → Int → Bool → Option (List S30) × Int
  | 0, _, _, _ => (some [], 0)
  | k + 1, s, p, gl => match token_Cut.bl s.size s p gl with
    | (false, _, p2, _) => (none, p2)
    | (true, s2, p2, gl2) => if s2.size = 0 then (some [(⟨9, ⟨#[]⟩, 0, p2⟩ : S30)], 0) else match token_Cut.tok s2 gl2 with
      | none => (none, p2)
      | some (kd, tx, N, n) => ((cutL k (s2.extract n s2.size) (p2 + n) (token_Cut.glue kd tx)).1.map ((⟨kd, tx, N, p2⟩ : S30) :: ·), (cutL k (s2.extract n s2.size) (p2 + n) (token_Cut.glue kd tx)).2)
theorem cutF_L : ∀ (k : Nat) (s : ByteArray) (p : Int) (gl : Bool) (l : List S30), s.size < k → token_Cut.cutF k s p gl l = match cutL k s p gl with
    | (some ts, _) => (l ++ ts, 0, 0)
    | (none, q) => ([], q, 50)
  | 0, s, p, gl, l, h => absurd h (Nat.not_lt_zero _)
  | k + 1, s, p, gl, l, h => by
    unfold token_Cut.cutF cutL
    have hle := token_Cut.bl_le s.size s p gl
    rcases hb : token_Cut.bl s.size s p gl with ⟨ok, s2, p2, gl2⟩
    rw [hb] at hle
    dsimp only at hle
    cases ok with
    | false => rfl
    | true =>
      dsimp only
      by_cases hz : s2.size = 0
      · rw [if_pos hz, if_pos hz]
      · rw [if_neg hz, if_neg hz]
        cases ht : token_Cut.tok s2 gl2 with
        | none => rfl
        | some q =>
          obtain ⟨kd, tx, N, n⟩ := q
          dsimp only
          have hp := token_Cut.tok_pos hz ht
          rw [cutF_L k _ _ _ _ (by rw [ByteArray.size_extract]; omega)]
          rcases cutL k (s2.extract n s2.size) (p2 + n) (token_Cut.glue kd tx) with ⟨o, q⟩
          cases o with
          | none => rfl
          | some ts => simp
/-- what holds of each token and of each place -/
theorem cutL_inv (src : ByteArray) (R : S30 → Prop) (h9 : R ⟨9, ⟨#[]⟩, 0, src.size⟩)
    (ht : ∀ (P : Nat) (gl : Bool) (kd : Int) (tx : ByteArray) (N : Int) (n : Nat), P < src.size → token_Cut.tok (sfx src P) gl = some (kd, tx, N, n) → R ⟨kd, tx, N, P⟩) :
    ∀ (k P : Nat) (gl : Bool), P ≤ src.size → src.size - P < k → (∃ ts e, cutL k (sfx src P) P gl = (some ts, e) ∧ (∀ t ∈ ts, R t) ∧ ts.length ≤ src.size - P + 1 ∧ ts ≠ []) ∨ (∃ Q : Nat, cutL k (sfx src P) P gl = (none, (Q : Int)) ∧ P ≤ Q ∧ Q ≤ src.size)
  | 0, P, gl, h, hk => absurd hk (Nat.not_lt_zero _)
  | k + 1, P, gl, h, hk => by
    unfold cutL
    obtain ⟨ok, Q, gl2, hb, hQ, hQ2⟩ := bl_sfx src (sfx src P).size P gl h
    rw [hb]
    cases ok with
    | false => exact .inr ⟨Q, rfl, hQ, hQ2⟩
    | true =>
      dsimp only
      rw [sfx_size]
      by_cases hz : src.size - Q = 0
      · rw [if_pos hz]
        obtain rfl : Q = src.size := by omega
        exact .inl ⟨_, _, rfl, by intro t h; rw [List.mem_singleton] at h; subst h; exact h9, by simp, by simp⟩
      · rw [if_neg hz]
        cases hk2 : token_Cut.tok (sfx src Q) gl2 with
        | none => exact .inr ⟨Q, rfl, hQ, hQ2⟩
        | some q =>
          obtain ⟨kd, tx, N, n⟩ := q
          have hsz : (sfx src Q).size ≠ 0 := by rw [sfx_size]; exact hz
          have hn := (tok_le hsz hk2).1
          have hp := token_Cut.tok_pos hsz hk2
          rw [sfx_size] at hn
          have hR := ht Q gl2 kd tx N n (by omega) hk2
          dsimp only
          have e := sfx_sfx src Q n
          rw [sfx_size] at e
          rw [e, show (Q : Int) + (n : Int) = ((Q + n : Nat) : Int) by omega]
          rcases cutL_inv src R h9 ht k (Q + n) (token_Cut.glue kd tx) (by omega) (by omega) with ⟨ts, e, h1, h2, h3, h4⟩ | ⟨Q2, h1, h2, h3⟩
          · rw [h1]
            refine .inl ⟨_, _, rfl, ?_, ?_, by simp⟩
            · intro t ht
              rcases List.mem_cons.1 ht with rfl | ht
              · exact hR
              · exact h2 t ht
            · simp only [List.length_cons]; omega
          · rw [h1]
            exact .inr ⟨Q2, rfl, by omega, h3⟩
theorem cut_f (src : ByteArray) (h : src.size ≤ 4096) : token_Cut.f src = some (match cutL (src.size + 1) (sfx src 0) ((0 : Nat) : Int) false with
    | (some ts, _) => (ts, 0, 0)
    | (none, q) => ([], q, 50)) := by
  unfold token_Cut.f
  rw [if_neg (by omega), sfx_zero, cutF_L _ _ _ _ _ (Nat.lt_succ_self _)]
  rfl
theorem cut_long (src : ByteArray) (h : 4096 < src.size) : token_Cut.f src = some ([], 0, 2) := by
  unfold token_Cut.f
  rw [if_pos h]

end Go.Proofs.YtjichkjnodabiaaDoor.Pure
set_option linter.unusedVariables false
set_option linter.unusedSimpArgs false
namespace Go.Proofs.YtjichkjnodabiaaDoor.Pure
open Go Go.Own Go.RowKit Go.Proofs.YtjichkjnodabiaaDoor.P Go.Proofs.YtjichkjnodabiaaDoorW.PrintWords Go.Proofs.YtjichkjnodabiaaDoorW.PrintLast

theorem ba_ext {a b : ByteArray} (h : a.data.toList = b.data.toList) : a = b := ByteArray.ext (Array.toList_inj.1 h)
theorem app_list (a b : ByteArray) : (a ++ b).data.toList = a.data.toList ++ b.data.toList := by rw [ByteArray.data_append, Array.toList_append]
theorem suf_list (s : ByteArray) (n : Nat) : (s.extract n s.size).data.toList = s.data.toList.drop n := by
  rw [Lib.extract_data, List.take_of_length_le]
  rw [List.length_drop, ← Lib.size_eq]
  omega
theorem bt_list (s : ByteArray) (i : Nat) : bt s (i : Int) = ((s.data.toList.getD i 0).toNat : Int) := by
  unfold bt
  rw [Int.toNat_natCast]
  by_cases h : i < s.size
  · rw [dif_pos h, List.getD_eq_getElem?_getD, List.getElem?_eq_getElem (by rw [← Lib.size_eq]; exact h)]
    rfl
  · rw [dif_neg h, List.getD_eq_getElem?_getD, List.getElem?_eq_none (by rw [← Lib.size_eq]; omega)]
    rfl
theorem get_list (s : ByteArray) (i : Nat) : s.get! i = s.data.toList.getD i 0 := by
  rcases s with ⟨d⟩
  show d[i]! = d.toList.getD i 0
  rw [List.getD_eq_getElem?_getD, Array.getElem?_toList, getElem!_def]
  cases d[i]? <;> rfl
theorem dec_ascii {s : ByteArray} {pos : Nat} (h : (s.data.toList.getD pos 0).toNat < 128) : Utf8.decode s pos = ((s.data.toList.getD pos 0).toNat, 1) := by
  rw [Lib.decode_at, get_list]
  unfold Lib.decodeN
  rw [if_pos h]
theorem dec_high {s : ByteArray} {pos : Nat} (h : 128 ≤ (s.data.toList.getD pos 0).toNat) : 128 ≤ (Utf8.decode s pos).1 := by
  rw [Lib.decode_at, get_list]
  unfold Lib.decodeN
  rw [if_neg (by omega)]
  repeat' split
  all_goals (dsimp only; omega)
theorem class_high (c : Nat) (h : 128 ≤ c) : classN (c : Int) = 0 := by
  unfold classN classN.c0 classN.c1 classN.c2 classN.c3 classN.c4 classN.c5
  repeat rw [if_neg (by omega)]
theorem whL_list (q : Int → Bool) (hq : q 0 = false) (s : ByteArray) : ∀ f pos, s.size ≤ pos + f → pos ≤ s.size → token_Cut.whL q s.size (runesAt s f pos) = pos + ((s.data.toList.drop pos).takeWhile (fun b => q (classN (b.toNat : Int)))).length
  | 0, pos, hf, hp => by
    obtain rfl : pos = s.size := by omega
    rw [Lib.size_eq, List.drop_length]
    rfl
  | f + 1, pos, hf, hp => by
    by_cases h : pos < s.size
    · have hl : pos < s.data.toList.length := by rw [← Lib.size_eq]; exact h
      have hd : s.data.toList.drop pos = s.data.toList.getD pos 0 :: s.data.toList.drop (pos + 1) := by
        rw [List.getD_eq_getElem?_getD, List.getElem?_eq_getElem hl, List.drop_eq_getElem_cons hl]; rfl
      have hr : runesAt s (f + 1) pos = (pos, (Utf8.decode s pos).1) :: runesAt s f (pos + (Utf8.decode s pos).2) := by
        conv => lhs; unfold runesAt
        rw [if_pos h]
      rw [hr, hd]
      unfold token_Cut.whL
      by_cases ha : (s.data.toList.getD pos 0).toNat < 128
      · rw [dec_ascii ha]
        dsimp only
        by_cases hc : q (classN ((s.data.toList.getD pos 0).toNat : Int)) = true
        · rw [if_pos hc, List.takeWhile_cons, if_pos hc, whL_list q hq s f (pos + 1) (by omega) (by omega)]
          simp only [List.length_cons]
          omega
        · rw [if_neg hc, List.takeWhile_cons, if_neg hc]
          rfl
      · have hh := dec_high (s := s) (pos := pos) (by omega)
        rw [if_neg (by rw [class_high _ hh, hq]; simp), List.takeWhile_cons, if_neg (by rw [class_high _ (by omega), hq]; simp)]
        rfl
    · obtain rfl : pos = s.size := by omega
      rw [runesAt_end h, Lib.size_eq, List.drop_length]
      rfl
theorem wh_list (q : Int → Bool) (hq : q 0 = false) (s : ByteArray) : token_Cut.wh q s = (s.data.toList.takeWhile (fun b => q (classN (b.toNat : Int)))).length := by
  unfold token_Cut.wh runesOf
  rw [whL_list q hq s s.size 0 (by omega) (by omega), Nat.zero_add, List.drop_zero]
theorem pre2 (t : ByteArray) (c d : UInt8) : strings_HasPrefix.f t (⟨#[c, d]⟩ : ByteArray) = some (t.data.toList.take 2 == [c, d]) := by
  unfold strings_HasPrefix.f stringslite_HasPrefix.f
  have h2 : ((⟨#[c, d]⟩ : ByteArray).size : Int) = 2 := rfl
  have h3 : (⟨#[c, d]⟩ : ByteArray).toList = [c, d] := by rw [Lib.toList_data]
  rw [h2, h3]
  by_cases h : (t.size : Int) ≥ 2
  · rw [if_pos h, if_pos (by decide), if_pos h, Option.bind_some, Lib.extract_toList]
    rfl
  · rw [if_neg h, Option.bind_some]
    congr 1
    symm
    rw [beq_eq_false_iff_ne]
    intro hx
    have := congrArg List.length hx
    rw [List.length_take, ← Lib.size_eq] at this
    simp at this
    omega
theorem cut2 (t : ByteArray) (c d : UInt8) : strings_CutPrefix.f t (⟨#[c, d]⟩ : ByteArray) = if (t.data.toList.take 2 == [c, d]) = true then some (t.extract 2 t.size, true) else some (t, false) := by
  have hp := pre2 t c d
  unfold strings_HasPrefix.f at hp
  unfold strings_CutPrefix.f stringslite_CutPrefix.f
  have hp2 : stringslite_HasPrefix.f t (⟨#[c, d]⟩ : ByteArray) = some (t.data.toList.take 2 == [c, d]) := by
    rcases hq : stringslite_HasPrefix.f t (⟨#[c, d]⟩ : ByteArray) with _ | b
    · rw [hq] at hp; simp at hp
    · rw [hq, Option.bind_some] at hp; exact hp
  rw [hp2, Option.bind_some]
  by_cases h : (t.data.toList.take 2 == [c, d]) = true
  · have hl : 2 ≤ t.size := by
      have := congrArg List.length (beq_iff_eq.1 h)
      rw [List.length_take, ← Lib.size_eq] at this
      simp at this
      omega
    have h2 : ((⟨#[c, d]⟩ : ByteArray).size : Int) = 2 := rfl
    rw [if_pos h, if_pos h, h2, if_pos (by decide), if_pos (by omega)]
    rfl
  · rw [if_neg h, if_neg h]
    rfl
theorem first_rune (s : ByteArray) (h : s.size ≠ 0) : ((Lib.decodeGo s).1 : Int) = bt s 0 ∨ (128 ≤ (Lib.decodeGo s).1 ∧ 128 ≤ bt s 0) := by
  have hb : bt s 0 = ((s.data.toList.getD 0 0).toNat : Int) := bt_list s 0
  unfold Lib.decodeGo
  rw [if_neg h, hb]
  by_cases h7 : (s.data.toList.getD 0 0).toNat < 128
  · rw [dec_ascii h7]; exact .inl rfl
  · exact .inr ⟨dec_high (by omega), by omega⟩

end Go.Proofs.YtjichkjnodabiaaDoor.Pure
set_option linter.unusedVariables false
set_option linter.unusedSimpArgs false
namespace Go.Proofs.YtjichkjnodabiaaDoor.Pure
open Go Go.Own Go.RowKit Go.Proofs.YtjichkjnodabiaaDoor.P Go.Proofs.YtjichkjnodabiaaDoorW.PrintWords Go.Proofs.YtjichkjnodabiaaDoorW.PrintLast

theorem leO_up {α : Type} {f : Nat → Option α} (hm : ∀ k, LeO (f k) (f (k + 1))) {k k' : Nat} (h : k ≤ k') {r : α} (hr : f k = some r) : f k' = some r := by
  obtain ⟨d, rfl⟩ : ∃ d, k' = k + d := ⟨k' - k, by omega⟩
  clear h
  induction d with
  | zero => exact hr
  | succ d ih => exact hm _ _ ih
theorem bt_drop {s : ByteArray} {i : Nat} (h : i < s.size) : s.data.toList.drop i = (s[i]'h) :: s.data.toList.drop (i + 1) := by
  have h' : i < s.data.toList.length := by rw [Array.length_toList]; exact h
  rw [List.drop_eq_getElem_cons h']
  rfl
theorem among_all (s : ByteArray) (hs : s.size ≤ 9223372036854775806) (c : Int) : ∀ (k i : Nat), i ≤ s.size → s.size < k + i → spinneyref02_among.l0 k c s i = some ((s.data.toList.drop i).any fun b => decide (c = (b.toNat : Int)))
  | 0, i, h1, h2 => by omega
  | k + 1, i, h1, h2 => by
    unfold spinneyref02_among.l0
    by_cases hi : i < s.size
    · have hb := bt_at s i (by simpa using hi)
      have hr := bt_range s i
      rw [if_pos (by omega), if_pos (by omega), bt_drop hi]
      have hw : wrap32 (bt s i) = ((s[i]'hi).toNat : Int) := by
        rw [← hb] at hr ⊢
        simp only [Int.toNat_natCast] at hr ⊢
        unfold wrap32
        omega
      rw [hw, List.any_cons]
      by_cases hc : c = ((s[i]'hi).toNat : Int)
      · rw [if_pos hc]; simp [hc]
      · rw [if_neg hc]
        have hw2 : wrap64 ((i : Int) + 1) = ((i + 1 : Nat) : Int) := by unfold wrap64; omega
        rw [hw2, among_all s hs c k (i + 1) (by omega) (by omega)]
        simp [hc]
    · rw [if_neg (by omega)]
      have : i = s.size := by omega
      subst this
      rw [List.drop_eq_nil_of_le (by rw [Array.length_toList]; exact Nat.le_refl _)]
      rfl
theorem among_f (s : ByteArray) (hs : s.size ≤ 9223372036854775806) (c : Int) (k : Nat) (h : s.size < k) : spinneyref02_among.f k c s = some (s.data.toList.any fun b => decide (c = (b.toNat : Int))) := by
  unfold spinneyref02_among.f
  exact among_all s hs c k 0 (by omega) (by omega)
theorem ref_class_in : ∀ c : Fin 128, spinneyref02_Class.f 30 ((c.val : Nat) : Int) = some (classN ((c.val : Nat) : Int)) := by decide +kernel
theorem classN_out (c : Int) (h : c < 0 ∨ 127 < c) : classN c = 0 := by
  unfold classN classN.c0 classN.c1 classN.c2 classN.c3 classN.c4 classN.c5
  repeat rw [if_neg (by omega)]
theorem ref_class_out (c : Int) (h : c < 0 ∨ 127 < c) : spinneyref02_Class.f 30 c = some 0 := by
  have a1 : spinneyref02_among.f 27 c (⟨#[43, 45, 42, 47, 92, 94, 60, 62, 61, 126, 58, 46, 63, 64, 35, 38, 36]⟩ : ByteArray) = some false := by
    rw [among_f _ (by decide) c _ (by decide)]
    simp
    omega
  have a2 : spinneyref02_among.f 26 c (⟨#[33, 59, 44, 124]⟩ : ByteArray) = some false := by
    rw [among_f _ (by decide) c _ (by decide)]
    simp
    omega
  have a3 : spinneyref02_among.f 26 c (⟨#[40, 41, 91, 93, 123, 125]⟩ : ByteArray) = some false := by
    rw [among_f _ (by decide) c _ (by decide)]
    simp
    omega
  have e0 : (decide (c ≤ 122) = true) → c < 0 := by simp; omega
  have x1 : ¬ c = 9 := by omega
  have x2 : ¬ c = 10 := by omega
  have x3 : ¬ c = 13 := by omega
  have x4 : (c == 32) = false := by simp; omega
  have x5 : ¬ c = 39 := by omega
  have x6 : (c == 95) = false := by simp; omega
  have j3 : spinneyref02_Class.j3 27 c false = some 0 := by
    unfold spinneyref02_Class.j3
    simp [a2, a3, x5]
  have j2 : spinneyref02_Class.j2 28 c false = some 0 := by
    unfold spinneyref02_Class.j2
    simp only [a1, Option.bind_some, x1, x2, x3, x4, j3, if_false, Bool.false_eq_true]
  have j1 : spinneyref02_Class.j1 29 c false = some 0 := by
    unfold spinneyref02_Class.j1
    rcases h with h | h
    · have : ¬ c ≥ 48 := by omega
      simp [this, j2]
    · have h1 : c ≥ 48 := by omega
      have h2 : decide (c ≤ 57) = false := by simp; omega
      simp only [h1, if_true, h2, j2, Bool.false_eq_true, if_false]
  have j0 : spinneyref02_Class.j0 30 c false = some 0 := by
    unfold spinneyref02_Class.j0
    rcases h with h | h
    · have : ¬ c ≥ 65 := by omega
      simp only [this, x6, j1, Bool.false_eq_true, if_false]
    · have h1 : c ≥ 65 := by omega
      have h2 : ¬ c ≤ 90 := by omega
      simp only [h1, if_true, h2, x6, j1, Bool.false_eq_true, if_false]
  unfold spinneyref02_Class.f
  rcases h with h | h
  · have : ¬ c ≥ 97 := by omega
    rw [if_neg this, j0]
  · have h1 : c ≥ 97 := by omega
    have h2 : decide (c ≤ 122) = false := by simp; omega
    rw [if_pos h1, h2, j0]
theorem ref_class (c : Int) (k : Nat) (hk : 30 ≤ k) : spinneyref02_Class.f k c = some (classN c) := by
  refine leO_up (f := fun k => spinneyref02_Class.f k c) (fun k => spinneyref02_Class.mono _ k) hk ?_
  by_cases h : 0 ≤ c ∧ c ≤ 127
  · have := ref_class_in ⟨c.toNat, by omega⟩
    have e : ((c.toNat : Nat) : Int) = c := by omega
    simp only [e] at this
    exact this
  · show spinneyref02_Class.f 30 c = _
    rw [ref_class_out c (by omega), classN_out c (by omega)]

end Go.Proofs.YtjichkjnodabiaaDoor.Pure
set_option linter.unusedVariables false
set_option linter.unusedSimpArgs false
namespace Go.Proofs.YtjichkjnodabiaaDoor.Pure
open Go Go.Own Go.RowKit Go.Proofs.YtjichkjnodabiaaDoor.P Go.Proofs.YtjichkjnodabiaaDoorW.PrintWords Go.Proofs.YtjichkjnodabiaaDoorW.PrintLast

def hexD (x : Int) : UInt8 := if x < 10 then UInt8.ofNat (48 + x.toNat) else UInt8.ofNat (87 + x.toNat)
def hexL (x : Int) : List UInt8 := if x < 16 then [hexD x] else [49, hexD (x - 16)]
def char_Bare.go (n : Int) : Int → List (Nat × Nat) → Bool
  | _, [] => decide (n ≤ 255)
  | a, x :: l =>
    if (if x.1 = 0 then classN x.2 else a) = 1 then (if classN x.2 < 1 then false else if classN x.2 > 3 then false else char_Bare.go n (if x.1 = 0 then classN x.2 else a) l)
    else if (if x.1 = 0 then classN x.2 else a) = 4 then (if classN x.2 = 4 then char_Bare.go n (if x.1 = 0 then classN x.2 else a) l else false) else false
def char_Bare.val (a0 : ByteArray) : Bool :=
  if a0.toList = ([91, 93] : List UInt8) then true else if a0.toList = ([123, 125] : List UInt8) then true else if a0.toList = ([33] : List UInt8) then true else if a0.toList = ([59] : List UInt8) then true
  else if a0.toList = ([] : List UInt8) then false else if a0.toList = ([46] : List UInt8) then false else if preB a0 (⟨#[47, 42]⟩ : ByteArray) = true then false else char_Bare.go a0.size 0 (runesOf a0)
def char_Write.one (c : Int) : List UInt8 := if c = 39 then 92 :: Lib.encodeRune c else if c = 92 then 92 :: Lib.encodeRune c else if c = 10 then [92, 110] else if c = 9 then [92, 116] else if c < 32 then [92, 120] ++ hexL c ++ [92] else Lib.encodeRune c
def char_Write.go : List (Nat × Nat) → List UInt8
  | [] => [39]
  | x :: l => char_Write.one x.2 ++ char_Write.go l
def char_Write.quoted (a0 : ByteArray) : ByteArray := ⟨([39] ++ char_Write.go (runesOf a0)).toArray⟩
theorem hexL_len (c : Int) : (hexL c).length ≤ 2 := by unfold hexL; split <;> simp

end Go.Proofs.YtjichkjnodabiaaDoor.Pure
set_option linter.unusedVariables false
set_option linter.unusedSimpArgs false
namespace Go.Proofs.YtjichkjnodabiaaDoor.Pure
open Go Go.Own Go.RowKit Go.Proofs.YtjichkjnodabiaaDoor.P Go.Proofs.YtjichkjnodabiaaDoorW.PrintWords Go.Proofs.YtjichkjnodabiaaDoorW.PrintLast

def checkB (a : ByteArray) : Bool := decide (a.size ≤ 255) && Lib.validD a.data.toList
theorem ref_check_val (a : ByteArray) : spinneyref02_Check.f a = some (checkB a) := by
  unfold spinneyref02_Check.f checkB utf8_ValidString.f
  by_cases h : a.size ≤ 255
  · rw [if_pos (by omega), if_pos (by omega), decide_eq_true h]; rfl
  · rw [if_neg (by omega), decide_eq_false h]; rfl
theorem checkB_small {a : ByteArray} (h : checkB a = true) : a.size ≤ 255 := by
  unfold checkB at h
  simp at h
  exact h.1
def writeV (a : ByteArray) : ByteArray := if checkB a = true then (if char_Bare.val a = true then a else char_Write.quoted a) else ⟨#[]⟩
theorem hexD_ge : ∀ n : Fin 16, 48 ≤ (hexD (n.val : Int)).toNat := by decide
theorem hexL_ge {c : Int} (h0 : 0 ≤ c) (h1 : c < 32) : ∀ b ∈ hexL c, 32 ≤ b.toNat := by
  intro b hb
  unfold hexL at hb
  split at hb
  · simp at hb
    subst hb
    have := hexD_ge ⟨c.toNat, by omega⟩
    have e : ((c.toNat : Nat) : Int) = c := by omega
    simp only [e] at this
    omega
  · simp at hb
    rcases hb with rfl | rfl
    · decide
    · have := hexD_ge ⟨(c - 16).toNat, by omega⟩
      have e : (((c - 16).toNat : Nat) : Int) = c - 16 := by omega
      simp only [e] at this
      omega
theorem encode_ge {c : Int} (h : 32 ≤ c) : ∀ b ∈ Lib.encodeRune c, 32 ≤ b.toNat := by
  have key : ∀ z ∈ Lib.encodeRuneZ c, 32 ≤ z ∧ z ≤ 255 := by
    unfold Lib.encodeRuneZ
    intro z hz
    split at hz
    · simp at hz; omega
    · split at hz
      · simp at hz; omega
      · split at hz
        · simp at hz; omega
        · split at hz
          · simp at hz; omega
          · simp at hz; omega
  intro b hb
  unfold Lib.encodeRune at hb
  obtain ⟨z, hz, rfl⟩ := List.mem_map.1 hb
  have := key z hz
  have : z.toNat.toUInt8.toNat = z.toNat := by
    show (UInt8.ofNat z.toNat).toNat = _
    rw [UInt8.toNat_ofNat']
    omega
  omega
theorem one_ge {c : Int} (h0 : 0 ≤ c) : ∀ b ∈ char_Write.one c, 32 ≤ b.toNat := by
  intro b hb
  unfold char_Write.one at hb
  split at hb
  · rename_i h
    rcases List.mem_cons.1 hb with rfl | hb
    · decide
    · exact encode_ge (by omega) b hb
  · split at hb
    · rename_i h
      rcases List.mem_cons.1 hb with rfl | hb
      · decide
      · exact encode_ge (by omega) b hb
    · split at hb
      · simp at hb
        rcases hb with rfl | rfl <;> decide
      · split at hb
        · simp at hb
          rcases hb with rfl | rfl <;> decide
        · split at hb
          · rename_i h
            rcases List.mem_append.1 hb with hb | hb
            · rcases List.mem_append.1 hb with hb | hb
              · simp at hb
                rcases hb with rfl | rfl <;> decide
              · exact hexL_ge h0 h b hb
            · simp at hb
              subst hb
              decide
          · exact encode_ge (by omega) b hb
theorem write_go_ge : ∀ l : List (Nat × Nat), ∀ b ∈ char_Write.go l, 32 ≤ b.toNat
  | [], b, hb => by
    unfold char_Write.go at hb
    simp at hb
    subst hb
    decide
  | x :: l, b, hb => by
    unfold char_Write.go at hb
    rcases List.mem_append.1 hb with hb | hb
    · exact one_ge (by omega) b hb
    · exact write_go_ge l b hb
theorem write_go_last : ∀ l : List (Nat × Nat), ∃ m, char_Write.go l = m ++ [39]
  | [] => ⟨[], by unfold char_Write.go; rfl⟩
  | x :: l => by
    obtain ⟨m, h⟩ := write_go_last l
    unfold char_Write.go
    exact ⟨_ ++ m, by rw [h, List.append_assoc]⟩
theorem writeV_small (a : ByteArray) (x : Nat) (hx : 255 ≤ x) (h : checkB a = true) (h2 : char_Bare.val a = true) : (writeV a).size ≤ x := by
  unfold writeV
  rw [if_pos h, if_pos h2]
  have := checkB_small h
  omega

end Go.Proofs.YtjichkjnodabiaaDoor.Pure
set_option linter.unusedVariables false
set_option linter.unusedSimpArgs false
namespace Go.Proofs.YtjichkjnodabiaaDoor.Pure
open Go Go.Own Go.RowKit Go.Proofs.YtjichkjnodabiaaDoor.P Go.Proofs.YtjichkjnodabiaaDoorW.PrintWords Go.Proofs.YtjichkjnodabiaaDoorW.PrintLast

open Go.Lib
def chop : Nat → List UInt8 → List (Nat × Nat)
  | 0, _ => []
  | f + 1, l => if l = [] then [] else decodeL l :: chop f (l.drop (decodeL l).2)
def tag : Nat → List (Nat × Nat) → List (Nat × Nat)
  | _, [] => []
  | p, x :: t => (p, x.1) :: tag (p + x.2) t
def chopA (l : List UInt8) : List (Nat × Nat) := chop l.length l
theorem chop_nil (f : Nat) : chop f [] = [] := by cases f <;> rfl
theorem chop_fuel : ∀ (f g : Nat) (l : List UInt8), l.length ≤ f → l.length ≤ g → chop f l = chop g l
  | 0, g, l, h, _ => by
    have : l = [] := List.length_eq_zero_iff.1 (by omega)
    subst this
    rw [chop_nil, chop_nil]
  | f + 1, 0, l, _, h => by
    have : l = [] := List.length_eq_zero_iff.1 (by omega)
    subst this
    rw [chop_nil, chop_nil]
  | f + 1, g + 1, l, h1, h2 => by
    unfold chop
    split
    · rfl
    · have := decodeL_width l
      rw [chop_fuel f g (l.drop (decodeL l).2) (by rw [List.length_drop]; omega) (by rw [List.length_drop]; omega)]
theorem chopA_step {l : List UInt8} (h : l ≠ []) : chopA l = decodeL l :: chopA (l.drop (decodeL l).2) := by
  have hl : 0 < l.length := List.length_pos_iff.2 h
  have hw := decodeL_width l
  obtain ⟨n, hn⟩ : ∃ n, l.length = n + 1 := ⟨l.length - 1, by omega⟩
  unfold chopA
  rw [hn]
  conv => lhs; unfold chop
  rw [if_neg h]
  congr 1
  exact chop_fuel _ _ _ (by rw [List.length_drop]; omega) (Nat.le_refl _)
theorem chopA_nil : chopA [] = [] := rfl
theorem runesAt_tag (s : ByteArray) : ∀ f pos, pos ≤ s.size → runesAt s f pos = tag pos (chop f (s.data.toList.drop pos))
  | 0, pos, _ => rfl
  | f + 1, pos, hp => by
    have hlen : s.data.toList.length = s.size := data_length s
    unfold runesAt chop
    by_cases h : pos < s.size
    · have hne : s.data.toList.drop pos ≠ [] := by
        intro e
        have := congrArg List.length e
        simp only [List.length_drop, List.length_nil] at this
        omega
      have he := decode_end s pos h
      rw [if_pos h, if_neg hne, decodeL_drop, tag, runesAt_tag s f _ he, List.drop_drop]
    · have hne : s.data.toList.drop pos = [] := List.drop_eq_nil_of_le (by omega)
      rw [if_neg h, if_pos hne, tag]
theorem runesOf_tag (s : ByteArray) : runesOf s = tag 0 (chopA s.data.toList) := by
  unfold runesOf chopA
  rw [runesAt_tag s _ 0 (by omega), List.drop_zero, data_length]
theorem write_go_tag : ∀ (cs : List (Nat × Nat)) (p : Nat), char_Write.go (tag p cs) = (cs.flatMap fun x => char_Write.one (x.1 : Int)) ++ [39]
  | [], p => by unfold tag char_Write.go; rfl
  | x :: cs, p => by
    unfold tag char_Write.go
    rw [write_go_tag cs, List.flatMap_cons, List.append_assoc]
theorem validD_chop : ∀ (n : Nat) (l : List UInt8), l.length ≤ n → (validD l = true ↔ ∀ x ∈ chopA l, ¬ (x.1 = 65533 ∧ x.2 = 1))
  | 0, l, h => by
    have : l = [] := List.length_eq_zero_iff.1 (by omega)
    subst this
    rw [chopA_nil, validD_nil]
    simp
  | n + 1, l, h => by
    by_cases hl : l = []
    · subst hl
      rw [chopA_nil, validD_nil]
      simp
    · have hw := decodeL_width l
      have ih := validD_chop n (l.drop (decodeL l).2) (by rw [List.length_drop]; omega)
      rw [validD_step l hl, chopA_step hl]
      by_cases hb : (decodeL l).1 = 65533 ∧ (decodeL l).2 = 1
      · rw [if_pos hb]
        constructor
        · intro x; cases x
        · intro x
          exact absurd hb (x _ (List.mem_cons_self ..))
      · rw [if_neg hb, ih]
        constructor
        · intro x y hy
          rcases List.mem_cons.1 hy with rfl | hy
          · exact hb
          · exact x y hy
        · intro x y hy
          exact x y (List.mem_cons_of_mem _ hy)
theorem chop_encode : ∀ (n : Nat) (l : List UInt8), l.length ≤ n → (∀ x ∈ chopA l, ¬ (x.1 = 65533 ∧ x.2 = 1)) → ((chopA l).flatMap fun x => encodeRune (x.1 : Int)) = l
  | 0, l, h, _ => by
    have : l = [] := List.length_eq_zero_iff.1 (by omega)
    subst this
    rfl
  | n + 1, l, h, hv => by
    by_cases hl : l = []
    · subst hl; rfl
    · have hw := decodeL_width l
      rw [chopA_step hl] at hv ⊢
      rw [List.flatMap_cons, encode_decode l hl (hv _ (List.mem_cons_self ..)), chop_encode n _ (by rw [List.length_drop]; omega) (fun x hx => hv x (List.mem_cons_of_mem _ hx)), List.take_append_drop]
theorem chopA_runes (l : List UInt8) : ∀ (n : Nat), l.length ≤ n → ∀ x ∈ chopA l, x.1 ≤ 1114111 ∧ 1 ≤ x.2 := by
  intro n
  induction n generalizing l with
  | zero =>
    intro h x hx
    have : l = [] := List.length_eq_zero_iff.1 (by omega)
    subst this
    cases hx
  | succ n ih =>
    intro h x hx
    by_cases hl : l = []
    · subst hl; cases hx
    · have hw := decodeL_width l
      rw [chopA_step hl] at hx
      rcases List.mem_cons.1 hx with rfl | hx
      · exact ⟨decodeL_rune l, hw⟩
      · exact ih _ (by rw [List.length_drop]; omega) x hx

end Go.Proofs.YtjichkjnodabiaaDoor.Pure
set_option linter.unusedVariables false
set_option linter.unusedSimpArgs false
namespace Go.Proofs.YtjichkjnodabiaaDoor.Pure
open Go Go.Own Go.RowKit Go.Proofs.YtjichkjnodabiaaDoor.P Go.Proofs.YtjichkjnodabiaaDoorW.PrintWords Go.Proofs.YtjichkjnodabiaaDoorW.PrintLast

open Go.Lib
def small1 (x : Nat × Nat) : Bool := decide (1 ≤ classN (x.1 : Int)) && decide (classN (x.1 : Int) ≤ 3)
def sign4 (x : Nat × Nat) : Bool := decide (classN (x.1 : Int) = 4)
theorem bare_go1 (n : Int) : ∀ (cs : List (Nat × Nat)) (p : Nat), 0 < p → char_Bare.go n 1 (tag p cs) = (decide (n ≤ 255) && cs.all small1)
  | [], p, _ => by unfold tag char_Bare.go; simp
  | x :: cs, p, hp => by
    unfold tag char_Bare.go
    dsimp only
    rw [if_neg (show ¬ p = 0 by omega), if_pos rfl, bare_go1 n cs (p + x.2) (by omega), List.all_cons]
    unfold small1
    by_cases h1 : classN (x.1 : Int) < 1
    · rw [if_pos h1, decide_eq_false (by omega : ¬ 1 ≤ classN (x.1 : Int))]; simp
    · rw [if_neg h1, decide_eq_true (by omega : 1 ≤ classN (x.1 : Int))]
      by_cases h2 : classN (x.1 : Int) > 3
      · rw [if_pos h2, decide_eq_false (by omega : ¬ classN (x.1 : Int) ≤ 3)]; simp
      · rw [if_neg h2, decide_eq_true (by omega : classN (x.1 : Int) ≤ 3)]; simp
theorem bare_go4 (n : Int) : ∀ (cs : List (Nat × Nat)) (p : Nat), 0 < p → char_Bare.go n 4 (tag p cs) = (decide (n ≤ 255) && cs.all sign4)
  | [], p, _ => by unfold tag char_Bare.go; simp
  | x :: cs, p, hp => by
    unfold tag char_Bare.go
    dsimp only
    rw [if_neg (show ¬ p = 0 by omega), if_neg (show ¬ (4 : Int) = 1 by decide), if_pos rfl, bare_go4 n cs (p + x.2) (by omega), List.all_cons]
    unfold sign4
    by_cases h1 : classN (x.1 : Int) = 4
    · rw [if_pos h1, decide_eq_true h1]; simp
    · rw [if_neg h1, decide_eq_false h1]; simp
/-- bare by its runes -/
def bareR (n : Int) : List (Nat × Nat) → Bool
  | [] => decide (n ≤ 255)
  | x :: cs => if classN (x.1 : Int) = 1 then decide (n ≤ 255) && cs.all small1 else if classN (x.1 : Int) = 4 then decide (n ≤ 255) && cs.all sign4 else false
theorem bare_go0 (n : Int) (cs : List (Nat × Nat)) (hw : ∀ x ∈ cs, 1 ≤ x.2) : char_Bare.go n 0 (tag 0 cs) = bareR n cs := by
  cases cs with
  | nil => unfold tag char_Bare.go bareR; rfl
  | cons x cs =>
    have hx := hw x (List.mem_cons_self ..)
    unfold tag char_Bare.go bareR
    dsimp only
    rw [if_pos rfl]
    by_cases h1 : classN (x.1 : Int) = 1
    · rw [h1, if_pos rfl, if_pos rfl, if_neg (by decide), if_neg (by decide), bare_go1 n cs _ (by omega)]
    · rw [if_neg h1, if_neg h1]
      by_cases h4 : classN (x.1 : Int) = 4
      · rw [h4, if_pos rfl, if_pos rfl, if_pos rfl, bare_go4 n cs _ (by omega)]
      · rw [if_neg h4, if_neg h4]
theorem small1_ne {x : Nat × Nat} (h : small1 x = true) : x.1 ≠ 65533 := by
  intro e
  unfold small1 at h
  rw [e] at h
  exact absurd h (by decide)
theorem sign4_ne {x : Nat × Nat} (h : sign4 x = true) : x.1 ≠ 65533 := by
  intro e
  unfold sign4 at h
  rw [e] at h
  exact absurd h (by decide)
theorem bareR_valid {n : Int} {cs : List (Nat × Nat)} (h : bareR n cs = true) : n ≤ 255 ∧ ∀ x ∈ cs, x.1 ≠ 65533 := by
  cases cs with
  | nil => unfold bareR at h; exact ⟨of_decide_eq_true h, fun x hx => by cases hx⟩
  | cons y cs =>
    simp only [bareR] at h
    split at h
    · rename_i h1
      rw [Bool.and_eq_true] at h
      refine ⟨of_decide_eq_true h.1, fun x hx => ?_⟩
      rcases List.mem_cons.1 hx with rfl | hx
      · intro e; rw [e] at h1; exact absurd h1 (by decide)
      · exact small1_ne (List.all_eq_true.1 h.2 x hx)
    · split at h
      · rename_i h1
        rw [Bool.and_eq_true] at h
        refine ⟨of_decide_eq_true h.1, fun x hx => ?_⟩
        rcases List.mem_cons.1 hx with rfl | hx
        · intro e; rw [e] at h1; exact absurd h1 (by decide)
        · exact sign4_ne (List.all_eq_true.1 h.2 x hx)
      · cases h
theorem ref_runes (s : ByteArray) (h : s.size ≤ 255) : ∀ (k : Nat) (t : ByteArray) (acc : List Int), t.size < k → t.size ≤ 255 → acc.length + t.size ≤ 255 → spinneyref02_Runes.l0 k t acc = some (acc ++ (chopA t.data.toList).map fun x => (x.1 : Int))
  | 0, t, acc, a, _, _ => by omega
  | k + 1, t, acc, a, b, c => by
    unfold spinneyref02_Runes.l0
    by_cases ht : t.size = 0
    · rw [if_neg (by omega)]
      have : t.data.toList = [] := List.length_eq_zero_iff.1 (by rw [data_length]; exact ht)
      rw [this, chopA_nil]
      simp
    · have hd : decodeGo t = decodeL t.data.toList := by
        unfold decodeGo
        rw [if_neg ht]
        have := decodeL_drop t 0
        rw [List.drop_zero] at this
        exact this.symm
      have hne : t.data.toList ≠ [] := by
        intro e
        have := data_length t
        rw [e] at this
        simp at this
        omega
      have hl := decodeL_le t.data.toList hne
      have hw := decodeL_width t.data.toList
      rw [data_length] at hl
      rw [if_pos (by omega)]
      unfold utf8_DecodeRuneInString.f
      rw [hd]
      simp only [Option.bind_some]
      rw [if_pos (by omega), if_pos (by omega), if_pos (by omega)]
      have hx : (t.extract ((((decodeL t.data.toList).2 : Nat) : Int)).toNat t.size).data.toList = t.data.toList.drop (decodeL t.data.toList).2 := by
        simp only [Int.toNat_natCast]
        rw [ByteArray.data_extract, Array.toList_extract]
        have := data_length t
        rw [List.extract_eq_take_drop]
        rw [← data_length t]
        exact List.take_of_length_le (by rw [List.length_drop]; omega)
      rw [ref_runes s h k _ _ (by rw [ByteArray.size_extract]; omega) (by rw [ByteArray.size_extract]; omega) (by rw [List.length_append, ByteArray.size_extract]; simp only [List.length_cons, List.length_nil]; omega), hx, chopA_step hne]
      simp
theorem ref_bare_loop (L : List Int) (hL : L.length ≤ 255) : ∀ (k i : Nat) (nm sg : Bool), i ≤ L.length → 30 + L.length < k + i → spinneyref02_Bare.l0 k nm sg L (L.length : Int) i = some ((nm && (L.drop i).all fun c => decide (classN c = 1) || decide (classN c = 2) || decide (classN c = 3)) || (sg && (L.drop i).all fun c => decide (classN c = 4)))
  | 0, i, nm, sg, a, b => by omega
  | k + 1, i, nm, sg, a, b => by
    unfold spinneyref02_Bare.l0
    by_cases hi : i < L.length
    · have hr : rd L (i : Int) = L[i] := by
        unfold rd
        simp [hi]
      have hw2 : wrap64 ((i : Int) + 1) = ((i + 1 : Nat) : Int) := by unfold wrap64; omega
      rw [if_pos (by omega), if_pos (by omega), if_pos (by omega), ref_class _ k (by omega), Option.bind_some, hr, hw2, List.drop_eq_getElem_cons hi, List.all_cons, List.all_cons]
      have ih := fun nm sg => ref_bare_loop L hL k (i + 1) nm sg (by omega) (by omega)
      simp only [ih]
      generalize (List.drop (i + 1) L).all _ = A
      generalize (List.drop (i + 1) L).all _ = B
      generalize classN L[i] = t
      have e3 : ∀ z : Int, (t == z) = decide (t = z) := fun z => by by_cases h : t = z <;> simp [h]
      simp only [e3]
      by_cases t1 : t = 1
      · subst t1; cases nm <;> cases sg <;> simp
      · by_cases t2 : t = 2
        · subst t2; cases nm <;> cases sg <;> simp
        · cases nm <;> cases sg <;> simp [t1, t2]
    · have : i = L.length := by omega
      subst this
      rw [if_neg (by omega), List.drop_eq_nil_of_le (Nat.le_refl _)]
      cases nm <;> cases sg <;> rfl
theorem data_ext (a : ByteArray) (n : Nat) : (a.extract 0 n).data.toList = a.data.toList.take n := by
  rw [ByteArray.data_extract, Array.toList_extract, List.extract_eq_take_drop, List.drop_zero, Nat.sub_zero]
theorem preB_iff (a b : ByteArray) : preB a b = true ↔ a.data.toList.take b.size = b.data.toList := by
  unfold preB strings_HasPrefix.f stringslite_HasPrefix.f
  have la := data_length a
  have lb := data_length b
  by_cases h : b.size ≤ a.size
  · rw [if_pos (by omega), if_pos (by omega), if_pos (by omega)]
    simp only [Option.bind_some, Option.getD_some, Int.toNat_natCast, ByteArray.toList_eq, data_ext]
    exact beq_iff_eq
  · rw [if_neg (by omega)]
    simp only [Option.bind_some, Option.getD_some]
    constructor
    · intro x; cases x
    · intro x
      have := congrArg List.length x
      rw [List.length_take] at this
      omega
theorem val_eq (a : ByteArray) : char_Bare.val a = (if a.data.toList = [91, 93] then true else if a.data.toList = [123, 125] then true else if a.data.toList = [33] then true else if a.data.toList = [59] then true
    else if a.data.toList = [] then false else if a.data.toList = [46] then false else if a.data.toList.take 2 = [47, 42] then false else bareR a.size (chopA a.data.toList)) := by
  unfold char_Bare.val
  have hp := preB_iff a (⟨#[47, 42]⟩ : ByteArray)
  rw [runesOf_tag, bare_go0 _ _ (fun x hx => (chopA_runes _ _ (Nat.le_refl _) x hx).2)]
  simp only [ByteArray.toList_eq]
  have e : (preB a (⟨#[47, 42]⟩ : ByteArray) = true) = (a.data.toList.take 2 = [47, 42]) := propext hp
  simp only [e]
theorem bare_check {a : ByteArray} (h : char_Bare.val a = true) : checkB a = true := by
  have hl := data_length a
  rw [val_eq] at h
  unfold checkB
  split at h
  · rename_i e; rw [e] at hl ⊢; rw [← hl]; decide +kernel
  split at h
  · rename_i e; rw [e] at hl ⊢; rw [← hl]; decide +kernel
  split at h
  · rename_i e; rw [e] at hl ⊢; rw [← hl]; decide +kernel
  split at h
  · rename_i e; rw [e] at hl ⊢; rw [← hl]; decide +kernel
  split at h
  · cases h
  split at h
  · cases h
  split at h
  · cases h
  have h2 := bareR_valid h
  rw [Bool.and_eq_true]
  exact ⟨decide_eq_true (by omega), (validD_chop _ _ (Nat.le_refl _)).2 (fun x hx hb => h2.2 x hx hb.1)⟩
theorem bareR_ref {n : Int} (hn : n ≤ 255) (x : Nat × Nat) (cs : List (Nat × Nat)) :
    ((decide (classN (x.1 : Int) = 1) && (((x :: cs).map fun y => (y.1 : Int)).all fun c => decide (classN c = 1) || decide (classN c = 2) || decide (classN c = 3))) || (true && ((x :: cs).map fun y => (y.1 : Int)).all fun c => decide (classN c = 4))) = bareR n (x :: cs) := by
  have e1 : ((cs.map fun y => (y.1 : Int)).all fun c => decide (classN c = 1) || decide (classN c = 2) || decide (classN c = 3)) = cs.all small1 := by
    rw [List.all_map]
    congr 1
    funext y
    unfold small1
    simp only [Function.comp]
    by_cases h1 : classN (y.1 : Int) = 1
    · rw [h1]; rfl
    · by_cases h2 : classN (y.1 : Int) = 2
      · rw [h2]; rfl
      · by_cases h3 : classN (y.1 : Int) = 3
        · rw [h3]; rfl
        · rw [decide_eq_false h1, decide_eq_false h2, decide_eq_false h3]
          by_cases h4 : 1 ≤ classN (y.1 : Int)
          · rw [decide_eq_false (by omega : ¬ classN (y.1 : Int) ≤ 3)]; simp
          · rw [decide_eq_false h4]; simp
  have e2 : ((cs.map fun y => (y.1 : Int)).all fun c => decide (classN c = 4)) = cs.all sign4 := by
    rw [List.all_map]
    rfl
  simp only [bareR, List.map_cons, List.all_cons, e1, e2]
  by_cases h1 : classN (x.1 : Int) = 1
  · rw [if_pos h1, h1, decide_eq_true hn]
    cases cs.all small1 <;> cases cs.all sign4 <;> rfl
  · rw [if_neg h1, decide_eq_false h1]
    by_cases h4 : classN (x.1 : Int) = 4
    · rw [if_pos h4, decide_eq_true h4, decide_eq_true hn]
      simp
    · rw [if_neg h4, decide_eq_false h4]
      simp
theorem ref_bare (a : ByteArray) (k : Nat) (hk : 400 ≤ k) : spinneyref02_Bare.f k a = some (char_Bare.val a) := by
  refine leO_up (f := fun k => spinneyref02_Bare.f k a) (fun k => spinneyref02_Bare.mono _ k) hk ?_
  show spinneyref02_Bare.f 400 a = _
  unfold spinneyref02_Bare.f
  rw [ref_check_val, Option.bind_some]
  by_cases hc : checkB a = true
  · rw [if_pos hc]
    have ha := checkB_small hc
    have hl := data_length a
    have hv := val_eq a
    simp only [ByteArray.toList_eq, data_ext]
    generalize hL : a.data.toList = l at hl hv
    have j1t : ∀ k, spinneyref02_Bare.j1 (k + 1) a true = some true := fun k => by rw [spinneyref02_Bare.j1, if_pos rfl]
    have j0t : ∀ k, spinneyref02_Bare.j0 (k + 1) a true = some false := fun k => by rw [spinneyref02_Bare.j0, if_pos rfl]
    by_cases h0 : l = []
    · subst h0
      rw [if_pos rfl, j0t 399, hv]
      rfl
    rw [if_neg h0]
    by_cases h1 : l = [46]
    · subst h1
      rw [if_pos rfl, j0t 399, hv]
      rfl
    rw [if_neg h1]
    have key : spinneyref02_Bare.j0 400 a false = some (if l = [91, 93] then true else if l = [123, 125] then true else if l = [33] then true else if l = [59] then true else bareR a.size (chopA l)) := by
      rw [spinneyref02_Bare.j0]
      simp only [ByteArray.toList_eq, hL]
      rw [if_neg (by decide)]
      by_cases g1 : l = [91, 93]
      · rw [if_pos g1, if_pos g1, j1t 398]
      rw [if_neg g1, if_neg g1]
      by_cases g2 : l = [123, 125]
      · rw [if_pos g2, if_pos g2, j1t 398]
      rw [if_neg g2, if_neg g2]
      by_cases g3 : l = [33]
      · rw [if_pos g3, if_pos g3, j1t 398]
      rw [if_neg g3, if_neg g3]
      by_cases g4 : l = [59]
      · rw [if_pos g4, beq_iff_eq.mpr g4, j1t 398]
      rw [if_neg g4, beq_eq_false_iff_ne.mpr g4]
      rw [spinneyref02_Bare.j1, if_neg (by decide)]
      have hr : spinneyref02_Runes.f 398 a = some ((chopA l).map fun x => (x.1 : Int)) := by
        unfold spinneyref02_Runes.f
        rw [ref_runes a ha 398 a [] (by omega) ha (by simp; exact ha), hL, List.nil_append]
      rw [hr, Option.bind_some, chopA_step h0]
      generalize hx : decodeL l = x
      generalize hcs : chopA (l.drop x.2) = cs
      have hcl : (x :: cs).length ≤ 255 := by
        have h5 : chopA l = x :: cs := by rw [chopA_step h0, hx, hcs]
        have h6 : (chopA l).length ≤ l.length := by
          have : ∀ (f : Nat) (l : List UInt8), (chop f l).length ≤ f := by
            intro f
            induction f with
            | zero => intro l; simp [chop]
            | succ f ih => intro l; unfold chop; split
                           · simp
                           · rw [List.length_cons]; have := ih (l.drop (decodeL l).2); omega
          exact this _ _
        rw [← h5]
        omega
      have hr0 : rd ((x :: cs).map fun y => (y.1 : Int)) 0 = (x.1 : Int) := rfl
      rw [if_pos (by rw [List.length_map, List.length_cons]; omega), hr0, ref_class _ 398 (by omega), Option.bind_some]
      have hb := ref_bare_loop ((x :: cs).map fun y => (y.1 : Int)) (by rw [List.length_map]; exact hcl) 398 0 (classN (x.1 : Int) == 1) true (by omega) (by rw [List.length_map]; omega)
      rw [List.drop_zero] at hb
      have e3 : (classN (x.1 : Int) == 1) = decide (classN (x.1 : Int) = 1) := by by_cases h : classN (x.1 : Int) = 1 <;> simp [h]
      rw [e3] at hb ⊢
      rw [bareR_ref (n := (a.size : Int)) (by omega) x cs] at hb
      exact hb
    by_cases h2 : a.size ≤ 1
    · rw [if_neg (by omega), key, hv]
      have : ¬ l.take 2 = [47, 42] := by
        intro e
        have := congrArg List.length e
        rw [List.length_take] at this
        simp at this
        omega
      rw [if_neg h0, if_neg h1, if_neg this]
    · rw [if_pos (by omega), if_pos (by omega), if_pos (by omega)]
      by_cases hp : l.take 2 = [47, 42]
      · rw [beq_iff_eq.mpr hp, j0t 399, hv, if_neg h0, if_neg h1, if_pos hp]
        have n1 : l ≠ [91, 93] := by intro e; rw [e] at hp; exact absurd hp (by decide)
        have n2 : l ≠ [123, 125] := by intro e; rw [e] at hp; exact absurd hp (by decide)
        have n3 : l ≠ [33] := by intro e; rw [e] at hp; exact absurd hp (by decide)
        have n4 : l ≠ [59] := by intro e; rw [e] at hp; exact absurd hp (by decide)
        rw [if_neg n1, if_neg n2, if_neg n3, if_neg n4]
      · rw [beq_eq_false_iff_ne.mpr hp, key, hv, if_neg h0, if_neg h1, if_neg hp]
  · rw [if_neg hc]
    have : char_Bare.val a = false := by
      cases h : char_Bare.val a with
      | false => rfl
      | true => exact absurd (bare_check h) hc
    rw [this]
    rw [spinneyref02_Bare.j0, if_pos rfl]

end Go.Proofs.YtjichkjnodabiaaDoor.Pure
set_option linter.unusedVariables false
set_option linter.unusedSimpArgs false
namespace Go.Proofs.YtjichkjnodabiaaDoor.Pure
open Go Go.Own Go.RowKit Go.Proofs.YtjichkjnodabiaaDoor.P Go.Proofs.YtjichkjnodabiaaDoorW.PrintWords Go.Proofs.YtjichkjnodabiaaDoorW.PrintLast

open Go.Lib
theorem tbR (z : Int) (m : Nat) (h : z = (m : Int)) (h2 : m < 256) : (z.toNat.toUInt8).toNat = m := by
  subst h
  show (UInt8.ofNat m).toNat = m
  rw [UInt8.toNat_ofNat']
  omega
theorem decode_encode {c : Int} (h : validRune c = true) (t : List UInt8) : decodeL (encodeRune c ++ t) = (c.toNat, (encodeRune c).length) := by
  unfold validRune at h
  have h := of_decide_eq_true h
  obtain ⟨r, rfl⟩ : ∃ r : Nat, c = (r : Int) := ⟨c.toNat, by omega⟩
  rw [decodeL_N]
  unfold encodeRune
  by_cases c1 : r < 128
  · rw [encodeRuneZ_one (by omega) (by omega)]
    have e0 := tbR (r : Int) r rfl (by omega)
    simp only [List.map_cons, List.map_nil, List.cons_append, List.nil_append, List.getD_cons_zero, e0]
    unfold decodeN
    rw [if_pos c1]
    simp
  by_cases c2 : r < 2048
  · rw [encodeRuneZ_two (by omega) (by omega)]
    have e0 := tbR (192 + (r : Int) / 64) (192 + r / 64) (by omega) (by omega)
    have e1 := tbR (128 + (r : Int) % 64) (128 + r % 64) (by omega) (by omega)
    simp only [List.map_cons, List.map_nil, List.cons_append, List.nil_append, List.getD_cons_zero, List.getD_cons_succ, e0, e1]
    unfold decodeN
    rw [if_neg (by omega), if_pos ⟨by omega, by simp, by omega⟩, if_pos (by omega)]
    refine Prod.ext ?_ rfl
    show _ = r
    dsimp only
    omega
  by_cases c3 : r < 65536
  · rw [encodeRuneZ_three (by omega)]
    have e0 := tbR (224 + (r : Int) / 4096) (224 + r / 4096) (by omega) (by omega)
    have e1 := tbR (128 + (r : Int) / 64 % 64) (128 + r / 64 % 64) (by omega) (by omega)
    have e2 := tbR (128 + (r : Int) % 64) (128 + r % 64) (by omega) (by omega)
    simp only [List.map_cons, List.map_nil, List.cons_append, List.nil_append, List.getD_cons_zero, List.getD_cons_succ, e0, e1, e2]
    unfold decodeN
    rw [if_neg (by omega), if_neg (by omega), if_pos ⟨by omega, ⟨by simp, by omega⟩, by simp, by omega⟩, if_pos ⟨by omega, by omega⟩]
    refine Prod.ext ?_ rfl
    show _ = r
    dsimp only
    omega
  · rw [encodeRuneZ_four (by omega) (by omega)]
    have e0 := tbR (240 + (r : Int) / 262144) (240 + r / 262144) (by omega) (by omega)
    have e1 := tbR (128 + (r : Int) / 4096 % 64) (128 + r / 4096 % 64) (by omega) (by omega)
    have e2 := tbR (128 + (r : Int) / 64 % 64) (128 + r / 64 % 64) (by omega) (by omega)
    have e3 := tbR (128 + (r : Int) % 64) (128 + r % 64) (by omega) (by omega)
    simp only [List.map_cons, List.map_nil, List.cons_append, List.nil_append, List.getD_cons_zero, List.getD_cons_succ, e0, e1, e2, e3]
    unfold decodeN
    rw [if_neg (by omega), if_neg (by omega), if_neg (by omega), if_pos ⟨by omega, ⟨by simp, by omega⟩, ⟨by simp, by omega⟩, by simp, by omega⟩, if_pos ⟨by omega, by omega⟩]
    refine Prod.ext ?_ rfl
    show _ = r
    dsimp only
    omega
theorem encode_ne (c : Int) : encodeRune c ≠ [] := by
  unfold encodeRune encodeRuneZ
  repeat' split
  all_goals simp
theorem encode_ascii {c : Int} (h0 : 0 ≤ c) (h1 : c < 128) : encodeRune c = [c.toNat.toUInt8] := by
  unfold encodeRune
  rw [encodeRuneZ_one h0 (by omega)]
  rfl
theorem encode_width {c : Int} (h : validRune c = true) (h2 : (encodeRune c).length = 1) : c < 128 := by
  unfold validRune at h
  have h := of_decide_eq_true h
  by_cases h3 : c < 128
  · exact h3
  · exfalso
    unfold encodeRune encodeRuneZ at h2
    rw [if_neg (by omega)] at h2
    split at h2
    · simp at h2
    · split at h2
      · simp at h2
      · split at h2 <;> simp at h2
/-- a decoded rune that is no fault is one -/
theorem decode_valid (l : List UInt8) (h : ¬ ((decodeL l).1 = 65533 ∧ (decodeL l).2 = 1)) : validRune ((decodeL l).1 : Int) = true := by
  rw [decodeL_N] at h ⊢
  unfold validRune
  apply decide_eq_true
  have k0 := (l.getD 0 0).toNat_lt
  rcases decodeN_shape l.length (l.getD 0 0).toNat (l.getD 1 0).toNat (l.getD 2 0).toNat (l.getD 3 0).toNat with ⟨c, e⟩ | ⟨c1, c2, c3, cv, e⟩ | ⟨c1, c2, c3, c4, cv, cs, e⟩ | ⟨c1, c2, c3, c4, c5, cv, cw, e⟩ | e
  · rw [e]; dsimp only; omega
  · rw [e]; dsimp only; omega
  · rw [e]; dsimp only; omega
  · rw [e]; dsimp only; omega
  · rw [e]; dsimp only; omega
/-- the runes of what valid runes are written as -/
theorem chopA_encode : ∀ cs : List Int, (∀ c ∈ cs, validRune c = true) → chopA (cs.flatMap encodeRune) = cs.map fun c => (c.toNat, (encodeRune c).length)
  | [], _ => rfl
  | c :: cs, h => by
    have hc := h c (List.mem_cons_self ..)
    have hne : (c :: cs).flatMap encodeRune ≠ [] := by
      rw [List.flatMap_cons]
      intro e
      exact encode_ne c (List.append_eq_nil_iff.1 e).1
    rw [chopA_step hne, List.flatMap_cons, decode_encode hc, List.map_cons]
    dsimp only
    rw [List.drop_left, chopA_encode cs (fun x hx => h x (List.mem_cons_of_mem _ hx))]
theorem valid_encode (cs : List Int) (h : ∀ c ∈ cs, validRune c = true) : validD (cs.flatMap encodeRune) = true := by
  rw [validD_chop _ _ (Nat.le_refl _), chopA_encode cs h]
  intro x hx hb
  obtain ⟨c, hc, rfl⟩ := List.mem_map.1 hx
  dsimp only at hb
  have := encode_width (h c hc) hb.2
  omega
/-- what stands behind a \\, by bytes -/
def codeL (l : List UInt8) : Int × Int :=
  if indexByte l 92 < 1 then (0, 0) else if 6 < indexByte l 92 then (0, 0)
  else match hexGo 0 (l.take (indexByte l 92).toNat) with
    | none => (0, 0)
    | some v => if validRune v = true then ((v : Int), indexByte l 92 + 1) else (0, 0)
def escL : List UInt8 → Int × Int
  | [] => (0, 0)
  | b :: t => if b.toNat = 92 ∨ b.toNat = 39 then ((b.toNat : Int), 1) else if b.toNat = 110 then (10, 1) else if b.toNat = 116 then (9, 1)
    else if b.toNat = 120 then (if (codeL t).2 > 0 then ((codeL t).1, (codeL t).2 + 1) else (0, 0)) else (0, 0)
theorem codeL_le (l : List UInt8) : 0 ≤ (codeL l).2 ∧ (codeL l).2 ≤ 7 := by
  unfold codeL
  split
  · simp
  · split
    · simp
    · split
      · simp
      · split
        · dsimp only; omega
        · simp
theorem esc_eq (s : ByteArray) (hs : s.size ≤ 9223372036854775807) : escN s = escL s.data.toList := by
  have hl := data_length s
  unfold escN char_escape.f
  rw [ByteArray.toList_eq]
  cases h : s.data.toList with
  | nil => rfl
  | cons b t =>
    rw [h] at hl
    have hsz : 0 < s.size := by rw [← hl]; simp
    have hb : bt s 0 = (b.toNat : Int) := by
      rw [← bt_at s 0 hsz]
      have : s[0]'hsz = s.data.toList[0]'(by rw [h]; simp) := rfl
      show (((s[0]'hsz).toNat : Nat) : Int) = _
      rw [this]
      simp [h]
    have hx : (s.extract 1 s.size).data.toList = t := by
      have := data_cons s hsz
      rw [h] at this
      injection this with _ this
      exact this.symm
    have hcv : char_code.f (s.extract 1 s.size) = some (codeL t) := by
      unfold char_code.f
      rw [if_pos (by rw [ByteArray.size_extract]; omega)]
      unfold char_code.val codeL
      rw [hx]
      rfl
    have hc := codeL_le t
    have hbl := b.toNat_lt
    rw [if_neg (by simp), if_pos (by omega), hb]
    have hj : ∀ x : Bool, char_escape.j0 2 s (b.toNat : Int) (b.toNat : Int) x = some (if x = true then ((b.toNat : Int), 1) else if b.toNat = 110 then (10, 1) else if b.toNat = 116 then (9, 1)
      else if b.toNat = 120 then (if (codeL t).2 > 0 then ((codeL t).1, (codeL t).2 + 1) else (0, 0)) else (0, 0)) := by
      intro x
      rw [char_escape.j0]
      cases x with
      | true =>
        rw [if_pos rfl, if_pos rfl]
        have : wrap32 (b.toNat : Int) = (b.toNat : Int) := by unfold wrap32; omega
        rw [this]
      | false =>
        simp only [Bool.false_eq_true, if_false, hcv, Option.bind_some]
        by_cases c1 : b.toNat = 110
        · rw [if_pos c1, if_pos (by omega)]
        rw [if_neg c1, if_neg (by omega)]
        by_cases c2 : b.toNat = 116
        · rw [if_pos c2, if_pos (by omega)]
        rw [if_neg c2, if_neg (by omega)]
        by_cases c3 : b.toNat = 120
        · rw [if_pos c3, if_pos (by omega), if_pos (by omega)]
          by_cases c4 : (codeL t).2 > 0
          · rw [if_pos c4, if_pos c4]
            have : wrap64 ((codeL t).2 + 1) = (codeL t).2 + 1 := by unfold wrap64; omega
            rw [this]
          · rw [if_neg c4, if_neg c4]
        · rw [if_neg c3, if_neg (by omega)]
    rw [escL]
    by_cases c92 : b.toNat = 92
    · rw [if_pos (by omega), hj, Option.getD_some, if_pos (by rw [c92]; rfl), if_pos (Or.inl c92)]
    · rw [if_neg (by omega), hj, Option.getD_some]
      by_cases c39 : b.toNat = 39
      · rw [if_pos (by rw [c39]; rfl), if_pos (Or.inr c39)]
      · rw [if_neg (show ¬ ((b.toNat : Int) == 39) = true from fun e => by have := beq_iff_eq.1 e; omega), if_neg (show ¬ (b.toNat = 92 ∨ b.toNat = 39) by omega)]

end Go.Proofs.YtjichkjnodabiaaDoor.Pure
set_option linter.unusedVariables false
set_option linter.unusedSimpArgs false
namespace Go.Proofs.YtjichkjnodabiaaDoor.Pure
open Go Go.Own Go.RowKit Go.Proofs.YtjichkjnodabiaaDoor.P Go.Proofs.YtjichkjnodabiaaDoorW.PrintWords Go.Proofs.YtjichkjnodabiaaDoorW.PrintLast

open Go.Lib
def readP : Nat → List UInt8 → Nat → List UInt8 → List UInt8 × Int × Int
  | 0, _, _, _ => ([], 0, 20)
  | f + 1, t, p, acc =>
    if t = [] then ([], 0, 20)
    else if (decodeL t).1 = 39 then (if (t.drop 1).take 1 = [39] then readP f (t.drop 2) (p + 2) (acc ++ [39]) else (acc, ((p + 1 : Nat) : Int), 0))
    else if (decodeL t).1 = 92 then (if (escL (t.drop 1)).2 = 0 then ([], 0, 20) else readP f (t.drop (1 + (escL (t.drop 1)).2.toNat)) (p + 1 + (escL (t.drop 1)).2.toNat) (acc ++ encodeRune (escL (t.drop 1)).1))
    else if (decodeL t).1 < 32 then ([], 0, 20)
    else if (decodeL t).1 = 65533 ∧ (decodeL t).2 = 1 then ([], 0, 20)
    else readP f (t.drop (decodeL t).2) (p + (decodeL t).2) (acc ++ encodeRune ((decodeL t).1 : Int))
theorem idx_split : ∀ (l : List UInt8) (i : Nat), indexByte l 92 = (i : Int) → l = l.take i ++ 92 :: l.drop (i + 1) ∧ i < l.length
  | [], i, h => by
    unfold indexByte at h
    omega
  | b :: l, i, h => by
    unfold indexByte at h
    split at h
    · rename_i hb
      have : i = 0 := by omega
      subst this
      have : b = 92 := beq_iff_eq.1 hb
      subst this
      exact ⟨rfl, by simp⟩
    · split at h
      · omega
      · rename_i hm
        obtain ⟨j, hj⟩ : ∃ j : Nat, i = j + 1 := by
          have hne : indexByte l 92 ≠ -1 := fun e => hm (beq_iff_eq.2 e)
          have : -1 ≤ indexByte l 92 := by
            have : ∀ l : List UInt8, -1 ≤ indexByte l 92 := by
              intro l
              induction l with
              | nil => unfold indexByte; omega
              | cons b l ih => unfold indexByte; split; · omega
                               split; · omega
                               omega
            exact this l
          exact ⟨i - 1, by omega⟩
        subst hj
        obtain ⟨h1, h2⟩ := idx_split l j (by omega)
        refine ⟨?_, by rw [List.length_cons]; omega⟩
        rw [List.take_succ_cons, List.drop_succ_cons, List.cons_append, ← h1]
theorem hexV_lo {c : UInt8} {d : Nat} (h : hexV c = some d) : c.toNat < 128 := by
  unfold hexV at h
  split at h
  · omega
  · split at h
    · omega
    · split at h
      · omega
      · cases h
theorem hexGo_lo : ∀ (l : List UInt8) (n v : Nat), hexGo n l = some v → ∀ b ∈ l, b.toNat < 128
  | [], n, v, h, b, hb => by cases hb
  | c :: l, n, v, h, b, hb => by
    unfold hexGo at h
    cases hc : hexV c with
    | none => rw [hc] at h; cases h
    | some d =>
      rw [hc] at h
      rcases List.mem_cons.1 hb with rfl | hb
      · exact hexV_lo hc
      · exact hexGo_lo l _ v h b hb
theorem codeL_cases (l : List UInt8) : codeL l = (0, 0) ∨ ∃ (i v : Nat), indexByte l 92 = (i : Int) ∧ 1 ≤ i ∧ i ≤ 6 ∧ hexGo 0 (l.take i) = some v ∧ validRune (v : Int) = true ∧ codeL l = ((v : Int), (i : Int) + 1) := by
  unfold codeL
  by_cases h1 : indexByte l 92 < 1
  · rw [if_pos h1]; exact Or.inl rfl
  rw [if_neg h1]
  by_cases h2 : 6 < indexByte l 92
  · rw [if_pos h2]; exact Or.inl rfl
  rw [if_neg h2]
  obtain ⟨i, hi⟩ : ∃ i : Nat, indexByte l 92 = (i : Int) := ⟨(indexByte l 92).toNat, by omega⟩
  rw [hi]
  simp only [Int.toNat_natCast]
  cases hg : hexGo 0 (l.take i) with
  | none => exact Or.inl rfl
  | some v =>
    dsimp only
    by_cases hv : validRune (v : Int) = true
    · rw [if_pos hv]
      exact Or.inr ⟨i, v, rfl, by omega, by omega, hg, hv, rfl⟩
    · rw [if_neg hv]; exact Or.inl rfl
theorem esc_ascii (t : List UInt8) (h : (escL t).2 ≠ 0) : 1 ≤ (escL t).2.toNat ∧ (escL t).2.toNat ≤ t.length ∧ 0 ≤ (escL t).2 ∧ (∀ b ∈ t.take (escL t).2.toNat, b.toNat < 128) ∧ validRune (escL t).1 = true := by
  cases t with
  | nil => exact absurd rfl h
  | cons b t =>
    rw [escL] at h ⊢
    have one : ∀ r : Int, b.toNat < 128 → validRune r = true → 1 ≤ ((r, 1) : Int × Int).2.toNat ∧ ((r, 1) : Int × Int).2.toNat ≤ (b :: t).length ∧ 0 ≤ ((r, 1) : Int × Int).2 ∧ (∀ x ∈ (b :: t).take ((r, 1) : Int × Int).2.toNat, x.toNat < 128) ∧ validRune ((r, 1) : Int × Int).1 = true := by
      intro r hb hr
      refine ⟨by show 1 ≤ (1 : Int).toNat; decide, by simp, by show (0 : Int) ≤ 1; decide, ?_, hr⟩
      intro x hx
      simp at hx
      subst hx
      exact hb
    by_cases h1 : b.toNat = 92 ∨ b.toNat = 39
    · rw [if_pos h1]
      exact one _ (by omega) (by unfold validRune; apply decide_eq_true; omega)
    rw [if_neg h1] at h ⊢
    by_cases h2 : b.toNat = 110
    · rw [if_pos h2]
      exact one _ (by omega) (by decide)
    rw [if_neg h2] at h ⊢
    by_cases h3 : b.toNat = 116
    · rw [if_pos h3]
      exact one _ (by omega) (by decide)
    rw [if_neg h3] at h ⊢
    by_cases h4 : b.toNat = 120
    · rw [if_pos h4] at h ⊢
      by_cases h5 : (codeL t).2 > 0
      · rw [if_pos h5]
        rcases codeL_cases t with hc | ⟨i, v, hi, hi1, hi6, hg, hv, hc⟩
        · rw [hc] at h5; exact absurd h5 (by decide)
        · rw [hc]
          dsimp only
          obtain ⟨hs, hlt⟩ := idx_split t i hi
          have e : ((i : Int) + 1 + 1).toNat = i + 2 := by omega
          rw [e]
          refine ⟨by omega, by rw [List.length_cons]; omega, by omega, ?_, hv⟩
          intro x hx
          rw [List.take_succ_cons] at hx
          rcases List.mem_cons.1 hx with rfl | hx
          · omega
          · have htk : t.take (i + 1) = t.take i ++ [92] := by
              have hl : (t.take i).length = i := by rw [List.length_take]; omega
              conv => lhs; rw [hs]
              have h92 : (92 :: t.drop (i + 1)).take (i + 1 - i) = ([92] : List UInt8) := by rw [show i + 1 - i = 1 by omega]; rfl
              rw [List.take_append, hl, h92, List.take_of_length_le (by rw [hl]; omega)]
            rw [htk] at hx
            rcases List.mem_append.1 hx with hx | hx
            · exact hexGo_lo _ _ _ hg x hx
            · simp at hx
              subst hx
              decide
      · rw [if_neg h5] at h; exact absurd rfl h
    · rw [if_neg h4] at h; exact absurd rfl h
/-- a rune below 128 is one byte -/
theorem width1 {t : List UInt8} (hne : t ≠ []) (h : (decodeL t).1 < 128) : (decodeL t).2 = 1 ∧ ∃ b t', t = b :: t' ∧ b.toNat = (decodeL t).1 := by
  cases t with
  | nil => exact absurd rfl hne
  | cons b t' =>
    rw [decodeL_N] at h ⊢
    rcases decodeN_shape (b :: t').length ((b :: t').getD 0 0).toNat ((b :: t').getD 1 0).toNat ((b :: t').getD 2 0).toNat ((b :: t').getD 3 0).toNat with ⟨c, e⟩ | ⟨c1, c2, c3, cv, e⟩ | ⟨c1, c2, c3, c4, cv, cs, e⟩ | ⟨c1, c2, c3, c4, c5, cv, cw, e⟩ | e
    · rw [e] at h ⊢; exact ⟨rfl, b, t', rfl, rfl⟩
    · rw [e] at h; exact absurd h (by dsimp only; omega)
    · rw [e] at h; exact absurd h (by dsimp only; omega)
    · rw [e] at h; exact absurd h (by dsimp only; omega)
    · rw [e] at h; exact absurd h (by dsimp only; omega)
theorem ext_drop (s : ByteArray) (p : Nat) : (s.extract p s.size).data.toList = s.data.toList.drop p := by
  rw [ByteArray.data_extract, Array.toList_extract, List.extract_eq_take_drop, ← data_length s]
  exact List.take_of_length_le (by rw [List.length_drop]; omega)
theorem go_skip (s : ByteArray) (acc : List UInt8) : ∀ (d pos f : Nat), pos + d ≤ s.size → s.size ≤ pos + f → (∀ b ∈ (s.data.toList.drop pos).take d, b.toNat < 128) →
    ∃ f', s.size ≤ pos + d + f' ∧ char_Read.go s ((pos + d : Nat) : Int) acc (runesAt s f pos) = char_Read.go s ((pos + d : Nat) : Int) acc (runesAt s f' (pos + d))
  | 0, pos, f, h1, h2, h3 => ⟨f, h2, rfl⟩
  | d + 1, pos, f, h1, h2, h3 => by
    have hp : pos < s.size := by omega
    obtain ⟨f', -, hf', hst⟩ := runesAt_step hp h2
    have hd := bt_drop hp
    rw [hd, List.take_succ_cons] at h3
    have hb := h3 _ (List.mem_cons_self ..)
    have hdec : Utf8.decode s pos = ((s[pos]'hp).toNat, 1) := by
      rw [← decodeL_drop, hd, decodeL_ascii _ _ hb]
    rw [hdec] at hst hf'
    dsimp only at hst hf'
    obtain ⟨g, hg1, hg2⟩ := go_skip s acc d (pos + 1) f' (by omega) (by omega) (fun b hb => h3 b (List.mem_cons_of_mem _ hb))
    have e : pos + 1 + d = pos + (d + 1) := by omega
    rw [e] at hg1 hg2
    refine ⟨g, hg1, ?_⟩
    rw [hst, char_Read.go]
    dsimp only
    rw [if_pos (by omega)]
    exact hg2
theorem go_read (s : ByteArray) (hs : s.size ≤ 35184372088832) : ∀ (g pos f : Nat) (skip : Int) (acc : List UInt8), skip ≤ pos → pos ≤ s.size → s.size ≤ pos + f → s.size < pos + g →
    char_Read.go s skip acc (runesAt s f pos) = readP g (s.data.toList.drop pos) pos acc
  | 0, pos, f, skip, acc, h1, h2, h3, h4 => by omega
  | g + 1, pos, f, skip, acc, h1, h2, h3, h4 => by
    have hlen := data_length s
    by_cases hp : pos < s.size
    · obtain ⟨f', -, hf', hst⟩ := runesAt_step hp h3
      have hne : s.data.toList.drop pos ≠ [] := by
        intro e
        have := congrArg List.length e
        simp only [List.length_drop, List.length_nil] at this
        omega
      have hw := decodeL_width (s.data.toList.drop pos)
      have hle := decodeL_le _ hne
      rw [List.length_drop] at hle
      have hx1 := ext_drop s (pos + 1)
      have hd1 : (s.data.toList.drop pos).drop 1 = s.data.toList.drop (pos + 1) := by rw [List.drop_drop]
      rw [hst, char_Read.go, readP, if_neg hne, if_neg (by dsimp only; omega)]
      dsimp only
      rw [← decodeL_drop] at hf' ⊢
      by_cases c39 : (decodeL (s.data.toList.drop pos)).1 = 39
      · obtain ⟨w1, -⟩ := width1 hne (by omega)
        rw [if_pos (by omega), if_pos c39, w1, hd1]
        have hq := preB_iff (s.extract (pos + 1) s.size) (⟨#[39]⟩ : ByteArray)
        rw [hx1] at hq
        have hq : preB (s.extract (pos + 1) s.size) (⟨#[39]⟩ : ByteArray) = true ↔ (s.data.toList.drop (pos + 1)).take 1 = [39] := hq
        by_cases hb : (s.data.toList.drop (pos + 1)).take 1 = [39]
        · rw [if_pos (hq.2 hb), if_pos hb]
          have hl2 : pos + 2 ≤ s.size := by
            have := congrArg List.length hb
            rw [List.length_take, List.length_drop] at this
            simp only [List.length_cons, List.length_nil] at this
            omega
          rw [w1] at hf'
          obtain ⟨f2, hf2, hgo⟩ := go_skip s (acc ++ [39]) 1 (pos + 1) f' (by omega) (by omega) (by
            intro b hb2
            rw [hb] at hb2
            simp at hb2
            subst hb2
            decide)
          have e39 : encodeRune ((decodeL (s.data.toList.drop pos)).1 : Int) = [39] := by rw [c39]; rfl
          rw [e39]
          have e : ((pos + 1 + 1 : Nat) : Int) = (pos : Int) + 2 := by omega
          rw [e] at hgo
          rw [hgo, show pos + 1 + 1 = pos + 2 by omega, go_read s hs g (pos + 2) f2 _ _ (by omega) (by omega) (by omega) (by omega), List.drop_drop]
        · rw [if_neg (fun h => hb (hq.1 h)), if_neg hb]
          rfl
      rw [if_neg (by omega), if_neg c39]
      by_cases c92 : (decodeL (s.data.toList.drop pos)).1 = 92
      · obtain ⟨w1, -⟩ := width1 hne (by omega)
        rw [if_pos (by omega), if_pos c92, w1, hd1, esc_eq _ (by rw [ByteArray.size_extract]; omega), hx1]
        have hea := esc_ascii (s.data.toList.drop (pos + 1))
        generalize escL (s.data.toList.drop (pos + 1)) = er at hea ⊢
        by_cases hm : er.2 = 0
        · rw [if_pos hm, if_pos hm]
        · rw [if_neg hm, if_neg hm]
          obtain ⟨m1, m2, m3, m4, -⟩ := hea hm
          rw [List.length_drop] at m2
          rw [w1] at hf'
          obtain ⟨f2, hf2, hgo⟩ := go_skip s (acc ++ encodeRune er.1) er.2.toNat (pos + 1) f' (by omega) (by omega) m4
          have e : ((pos + 1 + er.2.toNat : Nat) : Int) = (pos : Int) + 1 + er.2 := by omega
          rw [e] at hgo
          rw [hgo, go_read s hs g (pos + 1 + er.2.toNat) f2 _ _ (by omega) (by omega) (by omega) (by omega), List.drop_drop, Nat.add_assoc]
      rw [if_neg (by omega), if_neg c92]
      by_cases c32 : (decodeL (s.data.toList.drop pos)).1 < 32
      · rw [if_pos (by omega), if_pos c32]
      rw [if_neg (by omega), if_neg c32]
      have hrec := go_read s hs g (pos + (decodeL (s.data.toList.drop pos)).2) f' skip (acc ++ encodeRune ((decodeL (s.data.toList.drop pos)).1 : Int)) (by omega) (by omega) (by omega) (by omega)
      by_cases cf : (decodeL (s.data.toList.drop pos)).1 = 65533
      · have hq := preB_iff (s.extract pos s.size) fffd
        rw [ext_drop] at hq
        have hq : preB (s.extract pos s.size) fffd = true ↔ (s.data.toList.drop pos).take 3 = encodeRune 65533 := hq
        rw [if_pos (by omega)]
        by_cases hb : (decodeL (s.data.toList.drop pos)).2 = 1
        · have hnp : ¬ preB (s.extract pos s.size) fffd = true := by
            intro h
            have h := hq.1 h
            have hsp : s.data.toList.drop pos = encodeRune 65533 ++ (s.data.toList.drop pos).drop 3 := by rw [← h, List.take_append_drop]
            rw [hsp, decode_encode (by decide)] at hb
            exact absurd hb (by decide)
          rw [if_neg hnp, if_pos (show _ ∧ _ from ⟨cf, hb⟩)]
        · suffices hpp : preB (s.extract pos s.size) fffd = true by
            rw [if_pos hpp, if_neg (show ¬ ((decodeL (s.data.toList.drop pos)).1 = 65533 ∧ (decodeL (s.data.toList.drop pos)).2 = 1) from fun h => hb h.2), hrec, List.drop_drop]
          apply hq.2
          have he := encode_decode _ hne (fun h => hb h.2)
          rw [cf] at he
          have hln := congrArg List.length he
          rw [List.length_take, List.length_drop] at hln
          have h3 : (encodeRune (((65533 : Nat)) : Int)).length = 3 := by decide
          have : (decodeL (s.data.toList.drop pos)).2 = 3 := by omega
          rw [this] at he
          exact he.symm
      · rw [if_neg (by omega), if_neg (fun h => cf h.1), hrec, List.drop_drop]
    · rw [runesAt_end hp, char_Read.go, readP, if_pos (List.drop_eq_nil_of_le (by omega))]
/-- char.Read -/
theorem read_val (s : ByteArray) (hs : s.size ≤ 35184372088832) (t : List UInt8) (h : s.data.toList = 39 :: t) : char_Read.val s = readP (s.size + 1) t 1 [] := by
  have hlen := data_length s
  have hne : s.data.toList ≠ [] := by rw [h]; simp
  have hsz : 0 < s.size := by rw [← hlen, h]; simp
  unfold char_Read.val
  have hb : bt s 0 = 39 := by
    rw [← bt_at s 0 hsz]
    have : s[0]'hsz = s.data.toList[0]'(by rw [h]; simp) := rfl
    show (((s[0]'hsz).toNat : Nat) : Int) = _
    rw [this]
    simp [h]
  rw [ByteArray.toList_eq, if_neg hne, if_pos hb]
  obtain ⟨f', hf', hgo⟩ := go_skip s [] 1 0 s.size (by omega) (by omega) (by
    intro b hb
    rw [List.drop_zero, h] at hb
    simp at hb
    subst hb
    decide)
  unfold runesOf
  have e : ((0 + 1 : Nat) : Int) = 1 := rfl
  rw [e] at hgo
  rw [hgo, go_read s hs (s.size + 1) (0 + 1) f' 1 [] (by omega) (by omega) (by omega) (by omega), h]
  rfl
theorem read_shut (s : ByteArray) (h : ∀ t, s.data.toList ≠ 39 :: t) : char_Read.val s = ([], 0, 20) := by
  have hlen := data_length s
  unfold char_Read.val
  rw [ByteArray.toList_eq]
  cases hl : s.data.toList with
  | nil => rw [if_pos rfl]
  | cons b t =>
    rw [if_neg (by simp)]
    have hsz : 0 < s.size := by rw [← hlen, hl]; simp
    rw [if_neg]
    intro hb
    rw [← bt_at s 0 hsz] at hb
    have e : s[0]'hsz = s.data.toList[0]'(by rw [hl]; simp) := rfl
    have hb : (((s[0]'hsz).toNat : Nat) : Int) = 39 := hb
    rw [e] at hb
    simp only [hl, List.getElem_cons_zero] at hb
    refine h t ?_
    rw [hl]
    congr 1
    exact UInt8.toNat_inj.1 (by show b.toNat = 39; omega)

end Go.Proofs.YtjichkjnodabiaaDoor.Pure
set_option linter.unusedVariables false
set_option linter.unusedSimpArgs false
namespace Go.Proofs.YtjichkjnodabiaaDoor.Pure
open Go Go.Own Go.RowKit Go.Proofs.YtjichkjnodabiaaDoor.P Go.Proofs.YtjichkjnodabiaaDoorW.PrintWords Go.Proofs.YtjichkjnodabiaaDoorW.PrintLast

open Go.Lib
theorem hexD_facts : ∀ n : Fin 16, hexD (n.val : Int) ≠ 92 ∧ hexV (hexD (n.val : Int)) = some n.val := by decide
theorem idx_here (r : List UInt8) : indexByte (92 :: r) 92 = 0 := by
  unfold indexByte
  rw [if_pos (by rfl)]
theorem idx_next {d : UInt8} {l : List UInt8} {i : Int} (hd : d ≠ 92) (h : indexByte l 92 = i) (h0 : 0 ≤ i) : indexByte (d :: l) 92 = i + 1 := by
  unfold indexByte
  rw [if_neg (fun x => hd (beq_iff_eq.1 x)), h, if_neg (fun x => by have := beq_iff_eq.1 x; omega)]
theorem code_hex {c : Int} (h0 : 0 ≤ c) (h1 : c < 32) (r : List UInt8) : codeL (hexL c ++ 92 :: r) = (c, ((hexL c).length : Int) + 1) := by
  have v : validRune c = true := by unfold validRune; apply decide_eq_true; omega
  unfold hexL
  by_cases h : c < 16
  · rw [if_pos h]
    have hd := hexD_facts ⟨c.toNat, by omega⟩
    have e : ((c.toNat : Nat) : Int) = c := by omega
    simp only [e] at hd
    generalize hexD c = d at hd
    have hi : indexByte (d :: 92 :: r) 92 = 1 := idx_next hd.1 (idx_here r) (by decide)
    have hg : hexGo 0 [d] = some c.toNat := by
      unfold hexGo
      rw [hd.2]
      unfold hexGo
      simp
    show codeL (d :: 92 :: r) = _
    unfold codeL
    rw [hi, if_neg (by decide), if_neg (by decide)]
    show (match hexGo 0 [d] with | none => ((0, 0) : Int × Int) | some v => if validRune (v : Int) = true then ((v : Int), (1 : Int) + 1) else (0, 0)) = _
    rw [hg]
    dsimp only
    rw [e, if_pos v]
    rfl
  · rw [if_neg h]
    have hd := hexD_facts ⟨(c - 16).toNat, by omega⟩
    have e : (((c - 16).toNat : Nat) : Int) = c - 16 := by omega
    simp only [e] at hd
    generalize hexD (c - 16) = d at hd
    have hi : indexByte (49 :: d :: 92 :: r) 92 = 2 := idx_next (by decide) (idx_next hd.1 (idx_here r) (by decide)) (by decide)
    have hg : hexGo 0 [49, d] = some c.toNat := by
      have h49 : hexV 49 = some 1 := by decide
      unfold hexGo
      rw [h49]
      unfold hexGo
      rw [hd.2]
      unfold hexGo
      dsimp only
      congr 1
      omega
    show codeL (49 :: d :: 92 :: r) = _
    unfold codeL
    rw [hi, if_neg (by decide), if_neg (by decide)]
    show (match hexGo 0 [49, d] with | none => ((0, 0) : Int × Int) | some v => if validRune (v : Int) = true then ((v : Int), (2 : Int) + 1) else (0, 0)) = _
    rw [hg]
    dsimp only
    have e2 : ((c.toNat : Nat) : Int) = c := by omega
    rw [e2, if_pos v]
    rfl
theorem decode_ascii1 (b : UInt8) (t : List UInt8) (h : b.toNat < 128) : decodeL (b :: t) = (b.toNat, 1) := decodeL_ascii b t h
/-- an escape -/
theorem read_esc (g : Nat) (u r : List UInt8) (p : Nat) (acc : List UInt8) (c : Int) (m : Nat) (hm : 1 ≤ m) (hu : u.length = m) (h : escL (u ++ r) = (c, (m : Int))) : readP (g + 1) (92 :: (u ++ r)) p acc = readP g r (p + (m + 1)) (acc ++ encodeRune c) := by
  rw [readP, if_neg (by simp), decode_ascii1 92 _ (by decide), if_neg (by decide), if_pos (by rfl)]
  show (if (escL (u ++ r)).2 = 0 then _ else readP g ((92 :: (u ++ r)).drop (1 + (escL (u ++ r)).2.toNat)) (p + 1 + (escL (u ++ r)).2.toNat) (acc ++ encodeRune (escL (u ++ r)).1)) = _
  rw [h]
  dsimp only
  rw [if_neg (by omega), Int.toNat_natCast]
  have e : (92 :: (u ++ r)).drop (1 + m) = r := by
    rw [Nat.add_comm, List.drop_succ_cons, ← hu, List.drop_left]
  rw [e, show p + 1 + m = p + (m + 1) by omega]
theorem read_one (c : Int) (h : validRune c = true) (g : Nat) (r : List UInt8) (p : Nat) (acc : List UInt8) : readP (g + 1) (char_Write.one c ++ r) p acc = readP g r (p + (char_Write.one c).length) (acc ++ encodeRune c) := by
  have hv : (0 ≤ c ∧ c < 0xD800) ∨ (0xDFFF < c ∧ c ≤ 0x10FFFF) := by unfold validRune at h; exact of_decide_eq_true h
  unfold char_Write.one
  by_cases c39 : c = 39
  · subst c39
    rw [if_pos rfl]
    exact read_esc g [39] r p acc 39 1 (by omega) rfl rfl
  rw [if_neg c39]
  by_cases c92 : c = 92
  · subst c92
    rw [if_pos rfl]
    exact read_esc g [92] r p acc 92 1 (by omega) rfl rfl
  rw [if_neg c92]
  by_cases c10 : c = 10
  · subst c10
    rw [if_pos rfl]
    exact read_esc g [110] r p acc 10 1 (by omega) rfl rfl
  rw [if_neg c10]
  by_cases c9 : c = 9
  · subst c9
    rw [if_pos rfl]
    exact read_esc g [116] r p acc 9 1 (by omega) rfl rfl
  rw [if_neg c9]
  by_cases c32 : c < 32
  · rw [if_pos c32]
    have hc := code_hex (by omega : 0 ≤ c) c32 r
    have he : escL (120 :: (hexL c ++ 92 :: r)) = (c, (((hexL c).length + 2 : Nat) : Int)) := by
      rw [escL, if_neg (by decide), if_neg (by decide), if_neg (by decide), if_pos (by rfl), hc]
      dsimp only
      rw [if_pos (by omega)]
      refine Prod.ext rfl ?_
      dsimp only
      omega
    have := read_esc g (120 :: (hexL c ++ [92])) r p acc c ((hexL c).length + 2) (by omega) (by simp) (by
      have e : (120 :: (hexL c ++ [92])) ++ r = 120 :: (hexL c ++ 92 :: r) := by simp
      rw [e]
      exact he)
    have e1 : ([92, 120] ++ hexL c ++ [92] : List UInt8) ++ r = 92 :: ((120 :: (hexL c ++ [92])) ++ r) := by simp
    have e2 : ([92, 120] ++ hexL c ++ [92] : List UInt8).length = (hexL c).length + 2 + 1 := by simp
    rw [e1, e2]
    exact this
  rw [if_neg c32]
  have hne : encodeRune c ++ r ≠ [] := by
    intro e
    exact encode_ne c (List.append_eq_nil_iff.1 e).1
  rw [readP, if_neg hne, decode_encode h]
  dsimp only
  have hcn : ((c.toNat : Nat) : Int) = c := by omega
  rw [if_neg (by omega), if_neg (by omega), if_neg (by omega), if_neg, hcn, List.drop_left]
  intro x
  have := encode_width h x.2
  omega
theorem read_back : ∀ (cs : List Int) (g : Nat) (behind : List UInt8) (p : Nat) (acc : List UInt8), (∀ c ∈ cs, validRune c = true) → behind.take 1 ≠ [39] → cs.length < g →
    readP g (cs.flatMap char_Write.one ++ 39 :: behind) p acc = (acc ++ cs.flatMap encodeRune, ((p + (cs.flatMap char_Write.one).length + 1 : Nat) : Int), 0)
  | [], g, behind, p, acc, h, hb, hg => by
    obtain ⟨g, rfl⟩ : ∃ j, g = j + 1 := ⟨g - 1, by simp at hg; omega⟩
    show readP (g + 1) (39 :: behind) p acc = _
    rw [readP, if_neg (by simp), decode_ascii1 39 _ (by decide), if_pos (by rfl)]
    show (if behind.take 1 = [39] then _ else _) = _
    rw [if_neg hb]
    simp
  | c :: cs, g, behind, p, acc, h, hb, hg => by
    obtain ⟨g, rfl⟩ : ∃ j, g = j + 1 := ⟨g - 1, by omega⟩
    rw [List.flatMap_cons, List.flatMap_cons, List.append_assoc, read_one c (h c (List.mem_cons_self ..)), read_back cs g behind _ _ (fun x hx => h x (List.mem_cons_of_mem _ hx)) hb (by rw [List.length_cons] at hg; omega), List.append_assoc, List.length_append]
    refine Prod.ext rfl (Prod.ext ?_ rfl)
    dsimp only
    omega
/-- what is read: nothing, or valid runes -/
theorem read_shape : ∀ (g : Nat) (t : List UInt8) (p : Nat) (acc : List UInt8), readP g t p acc = ([], 0, 20) ∨ ∃ (cs : List Int) (q : Nat), (∀ c ∈ cs, validRune c = true) ∧ readP g t p acc = (acc ++ cs.flatMap encodeRune, (q : Int), 0) ∧ p < q ∧ q ≤ p + t.length ∧ cs.length ≤ t.length
  | 0, t, p, acc => Or.inl rfl
  | g + 1, t, p, acc => by
    rw [readP]
    by_cases hne : t = []
    · rw [if_pos hne]; exact Or.inl rfl
    rw [if_neg hne]
    have hpos : 0 < t.length := List.length_pos_iff.2 hne
    have step : ∀ (d : Nat) (c : Int) (x : List UInt8), x = encodeRune c → validRune c = true → 1 ≤ d → d ≤ t.length → (readP g (t.drop d) (p + d) (acc ++ x) = ([], 0, 20) ∨ ∃ (cs : List Int) (q : Nat), (∀ c ∈ cs, validRune c = true) ∧ readP g (t.drop d) (p + d) (acc ++ x) = (acc ++ cs.flatMap encodeRune, (q : Int), 0) ∧ p < q ∧ q ≤ p + t.length ∧ cs.length ≤ t.length) := by
      intro d c x hx hc hd1 hd2
      rcases read_shape g (t.drop d) (p + d) (acc ++ x) with h | ⟨cs, q, h1, h2, h3, h4, h5⟩
      · exact Or.inl h
      · rw [List.length_drop] at h4 h5
        refine Or.inr ⟨c :: cs, q, ?_, ?_, by omega, by omega, by rw [List.length_cons]; omega⟩
        · intro y hy
          rcases List.mem_cons.1 hy with rfl | hy
          · exact hc
          · exact h1 y hy
        · rw [h2, List.flatMap_cons, hx, List.append_assoc]
    by_cases c39 : (decodeL t).1 = 39
    · rw [if_pos c39]
      by_cases hb : (t.drop 1).take 1 = [39]
      · rw [if_pos hb]
        have hl := congrArg List.length hb
        rw [List.length_take, List.length_drop] at hl
        simp only [List.length_cons, List.length_nil] at hl
        exact step 2 39 [39] rfl (by decide) (by omega) (by omega)
      · rw [if_neg hb]
        exact Or.inr ⟨[], p + 1, fun _ h => (by cases h), by simp, by omega, by omega, by simp⟩
    rw [if_neg c39]
    by_cases c92 : (decodeL t).1 = 92
    · rw [if_pos c92]
      by_cases hm : (escL (t.drop 1)).2 = 0
      · rw [if_pos hm]; exact Or.inl rfl
      · rw [if_neg hm]
        obtain ⟨m1, m2, m3, m4, m5⟩ := esc_ascii _ hm
        rw [List.length_drop] at m2
        have := step (1 + (escL (t.drop 1)).2.toNat) (escL (t.drop 1)).1 _ rfl m5 (by omega) (by omega)
        rw [← Nat.add_assoc] at this
        exact this
    rw [if_neg c92]
    by_cases c32 : (decodeL t).1 < 32
    · rw [if_pos c32]; exact Or.inl rfl
    rw [if_neg c32]
    by_cases cf : (decodeL t).1 = 65533 ∧ (decodeL t).2 = 1
    · rw [if_pos cf]; exact Or.inl rfl
    · rw [if_neg cf]
      exact step (decodeL t).2 _ _ rfl (decode_valid t cf) (decodeL_width t) (decodeL_le t hne)
theorem quoted_dataB (a : ByteArray) : (char_Write.quoted a).data.toList = [39] ++ (((chopA a.data.toList).flatMap fun x => char_Write.one (x.1 : Int)) ++ [39]) := by
  have : (char_Write.quoted a).data.toList = [39] ++ char_Write.go (runesOf a) := rfl
  rw [this, runesOf_tag, write_go_tag]
theorem chop_valid : ∀ (n : Nat) (l : List UInt8), l.length ≤ n → (∀ x ∈ chopA l, ¬ (x.1 = 65533 ∧ x.2 = 1)) → ∀ x ∈ chopA l, validRune (x.1 : Int) = true
  | 0, l, h, _, x, hx => by
    have : l = [] := List.length_eq_zero_iff.1 (by omega)
    subst this
    cases hx
  | n + 1, l, h, hv, x, hx => by
    by_cases hl : l = []
    · subst hl; cases hx
    · have hw := decodeL_width l
      rw [chopA_step hl] at hv hx
      rcases List.mem_cons.1 hx with rfl | hx
      · exact decode_valid l (hv _ (List.mem_cons_self ..))
      · exact chop_valid n _ (by rw [List.length_drop]; omega) (fun y hy => hv y (List.mem_cons_of_mem _ hy)) x hx
/-- reading what was written between quotes -/
theorem read_quoted (a : ByteArray) (hv : validD a.data.toList = true) (behind : ByteArray) (hb : behind.data.toList.take 1 ≠ [39]) (hs : (char_Write.quoted a ++ behind).size ≤ 35184372088832) :
    char_Read.f (char_Write.quoted a ++ behind) = some (⟨a.data.toList.toArray⟩, ((char_Write.quoted a).size : Int), 0) := by
  have hvc := (validD_chop _ _ (Nat.le_refl _)).1 hv
  have hq := quoted_dataB a
  have hd : (char_Write.quoted a ++ behind).data.toList = 39 :: (((chopA a.data.toList).map fun x => (x.1 : Int)).flatMap char_Write.one ++ 39 :: behind.data.toList) := by
    rw [ByteArray.data_append, Array.toList_append, hq, List.flatMap_map]
    simp
  have hlen := data_length (char_Write.quoted a ++ behind)
  have hvs : ∀ c ∈ ((chopA a.data.toList).map fun x => (x.1 : Int)), validRune c = true := by
    intro c hc
    obtain ⟨x, hx, rfl⟩ := List.mem_map.1 hc
    exact chop_valid a.data.toList.length a.data.toList (Nat.le_refl _) hvc x hx
  have hcl : ((chopA a.data.toList).map fun x => (x.1 : Int)).length ≤ (((chopA a.data.toList).map fun x => (x.1 : Int)).flatMap char_Write.one).length := by
    generalize ((chopA a.data.toList).map fun x => (x.1 : Int)) = cs
    induction cs with
    | nil => simp
    | cons c cs ih =>
      rw [List.flatMap_cons, List.length_append, List.length_cons]
      have : 1 ≤ (char_Write.one c).length := by
        have := List.length_pos_iff.2 (encode_ne c)
        unfold char_Write.one
        repeat' split
        all_goals ((try simp only [List.length_cons, List.length_append, List.length_nil]); omega)
      omega
  have hf : char_Read.val (char_Write.quoted a ++ behind) = _ := read_val _ hs _ hd
  have hle := congrArg List.length hd
  rw [hlen] at hle
  simp only [List.length_cons, List.length_append] at hle
  rw [read_back _ _ behind.data.toList 1 [] hvs hb (by omega)] at hf
  unfold char_Read.f
  rw [if_pos hs, hf]
  have henc : ((chopA a.data.toList).map fun x => (x.1 : Int)).flatMap encodeRune = a.data.toList := by
    rw [List.flatMap_map]
    exact chop_encode _ _ (Nat.le_refl _) hvc
  have hsz : (char_Write.quoted a).size = (((chopA a.data.toList).map fun x => (x.1 : Int)).flatMap char_Write.one).length + 2 := by
    rw [← data_length, hq, List.flatMap_map]
    simp only [List.length_append, List.length_cons, List.length_nil]
    omega
  dsimp only
  rw [henc, List.nil_append, hsz]
  congr 3
  omega

end Go.Proofs.YtjichkjnodabiaaDoor.Pure
set_option linter.unusedVariables false
set_option linter.unusedSimpArgs false
namespace Go.Proofs.YtjichkjnodabiaaDoor.Pure
open Go Go.Own Go.RowKit Go.Proofs.YtjichkjnodabiaaDoor.P Go.Proofs.YtjichkjnodabiaaDoorW.PrintWords Go.Proofs.YtjichkjnodabiaaDoorW.PrintLast

open Go.Lib
theorem tb (z : Int) (m : Nat) (h : z = (m : Int)) : z.toNat.toUInt8 = UInt8.ofNat m := by
  subst h
  rfl
theorem encode_data (c : Int) : (Utf8.encode c).data.toList = encodeRune c := by
  unfold encodeRune
  by_cases h0 : 0 ≤ c
  · obtain ⟨r, rfl⟩ : ∃ r : Nat, c = (r : Int) := ⟨c.toNat, by omega⟩
    by_cases c1 : r < 128
    · have v : Utf8.valid (r : Int) = true := by simp [Utf8.valid]; omega
      rw [encodeRuneZ_one (by omega) (by omega)]
      simp only [List.map_cons, List.map_nil]
      rw [tb _ r rfl]
      simp [Utf8.encode, v, c1]
    by_cases c2 : r < 2048
    · have v : Utf8.valid (r : Int) = true := by simp [Utf8.valid]; omega
      rw [encodeRuneZ_two (by omega) (by omega)]
      simp only [List.map_cons, List.map_nil]
      rw [tb _ (192 + r / 64) (by omega), tb _ (128 + r % 64) (by omega)]
      simp [Utf8.encode, v, c1, c2]
    by_cases hv : (55296 ≤ r ∧ r ≤ 57343) ∨ 1114111 < r
    · have v : Utf8.valid (r : Int) = false := by simp [Utf8.valid]; omega
      unfold encodeRuneZ
      rw [if_neg (by omega), if_neg (by omega), if_neg (by omega), if_neg (by omega)]
      simp [Utf8.encode, v, Utf8.runeError]
    by_cases c3 : r < 65536
    · have v : Utf8.valid (r : Int) = true := by simp [Utf8.valid]; omega
      rw [encodeRuneZ_three (by omega)]
      simp only [List.map_cons, List.map_nil]
      rw [tb _ (224 + r / 4096) (by omega), tb _ (128 + r / 64 % 64) (by omega), tb _ (128 + r % 64) (by omega)]
      simp [Utf8.encode, v, c1, c2, c3]
    · have v : Utf8.valid (r : Int) = true := by simp [Utf8.valid]; omega
      rw [encodeRuneZ_four (by omega) (by omega)]
      simp only [List.map_cons, List.map_nil]
      rw [tb _ (240 + r / 262144) (by omega), tb _ (128 + r / 4096 % 64) (by omega), tb _ (128 + r / 64 % 64) (by omega), tb _ (128 + r % 64) (by omega)]
      simp [Utf8.encode, v, c1, c2, c3]
  · have v : Utf8.valid c = false := by simp [Utf8.valid]; omega
    unfold encodeRuneZ
    rw [if_neg (by omega), if_neg (by omega), if_neg (by omega), if_neg (by omega)]
    simp [Utf8.encode, v, Utf8.runeError]
theorem hex_all : ∀ n : Fin 32, (spinneyref02_hex.f 3 (n.val : Int)).map (fun b => b.data.toList) = some (hexL (n.val : Int)) := by decide +kernel
theorem hex_val {c : Int} (h0 : 0 ≤ c) (h1 : c < 32) (k : Nat) (hk : 3 ≤ k) : ∃ r, spinneyref02_hex.f k c = some r ∧ r.data.toList = hexL c := by
  have := hex_all ⟨c.toNat, by omega⟩
  have e : ((c.toNat : Nat) : Int) = c := by omega
  simp only [e] at this
  obtain ⟨r, hr, hd⟩ := Option.map_eq_some_iff.1 this
  exact ⟨r, leO_up (f := fun k => spinneyref02_hex.f k c) (fun k => spinneyref02_hex.mono _ k) hk hr, hd⟩
theorem one_len (c : Int) : (char_Write.one c).length ≤ 5 := by
  have h4 := encode_len4 c
  have hh := hexL_len c
  unfold char_Write.one
  repeat' split
  all_goals ((try simp only [List.length_cons, List.length_append, List.length_nil]); omega)
theorem app_data (a b : ByteArray) : (a ++ b).data.toList = a.data.toList ++ b.data.toList := by
  rw [ByteArray.data_append, Array.toList_append]
theorem ref_write_loop (L : List Int) (hL : L.length ≤ 255) (hp : ∀ c ∈ L, 0 ≤ c) : ∀ (n k i : Nat) (out : ByteArray), L.length = n + i → 2 * n + 6 ≤ k → out.data.toList.length ≤ 5 * i + 5 →
    ∃ r, spinneyref02_Write.l0 k out L (L.length : Int) i = some r ∧ r.data.toList = out.data.toList ++ ((L.drop i).flatMap char_Write.one ++ [39])
  | 0, k, i, out, hn, hk, ho => by
    obtain ⟨k, rfl⟩ : ∃ j, k = j + 1 := ⟨k - 1, by omega⟩
    have hs := data_length out
    rw [spinneyref02_Write.l0, if_neg (by omega), if_pos (by omega)]
    refine ⟨_, rfl, ?_⟩
    rw [app_data, List.drop_eq_nil_of_le (by omega)]
    rfl
  | n + 1, k, i, out, hn, hk, ho => by
    obtain ⟨k, rfl⟩ : ∃ j, k = j + 2 := ⟨k - 2, by omega⟩
    have hi : i < L.length := by omega
    have hs := data_length out
    have hr : rd L (i : Int) = L[i] := by
      unfold rd
      simp [hi]
    have hw2 : wrap64 ((i : Int) + 1) = ((i + 1 : Nat) : Int) := by unfold wrap64; omega
    have hc := hp L[i] (List.getElem_mem hi)
    have ih := ref_write_loop L hL hp n k (i + 1)
    rw [List.drop_eq_getElem_cons hi, List.flatMap_cons]
    have h4 := encode_len4 L[i]
    have hed := encode_data L[i]
    have hes : (Utf8.encode L[i]).size = (encodeRune L[i]).length := by rw [← hed]; exact (data_length _).symm
    have h1l := one_len L[i]
    rw [spinneyref02_Write.l0, if_pos (by omega), if_pos (by omega), if_pos (by omega), hr]
    have fin : ∀ (x : ByteArray), x.data.toList = char_Write.one L[i] → ∃ r, spinneyref02_Write.l0 k (out ++ x) L (L.length : Int) ((i + 1 : Nat) : Int) = some r ∧ r.data.toList = out.data.toList ++ ((char_Write.one L[i] ++ (L.drop (i + 1)).flatMap char_Write.one) ++ [39]) := by
      intro x hx
      obtain ⟨r, h1, h2⟩ := ih (out ++ x) (by omega) (by omega) (by rw [app_data, hx, List.length_append]; omega)
      refine ⟨r, h1, ?_⟩
      rw [h2, app_data, hx]
      simp only [List.append_assoc]
    generalize L[i] = c at *
    have hj : ∀ b : Bool, (b = true → char_Write.one c = 92 :: encodeRune c) → (b = false → c ≠ 39 ∧ c ≠ 92) → ∃ r, spinneyref02_Write.j1 (k + 1) out c L (L.length : Int) i b = some r ∧ r.data.toList = out.data.toList ++ ((char_Write.one c ++ (L.drop (i + 1)).flatMap char_Write.one) ++ [39]) := by
      intro b hb1 hb2
      rw [spinneyref02_Write.j1, hw2]
      cases b with
      | true =>
        rw [if_pos rfl, if_pos (by omega), if_pos (by rw [ByteArray.size_append]; show out.size + (1 + _) ≤ _; omega)]
        exact fin _ (by rw [app_data, hb1 rfl, hed]; rfl)
      | false =>
        obtain ⟨n1, n2⟩ := hb2 rfl
        rw [if_neg (by decide)]
        unfold char_Write.one at fin ⊢
        rw [if_neg n1, if_neg n2] at fin ⊢
        by_cases c10 : c = 10
        · rw [if_pos c10, if_pos (by omega)]
          rw [if_pos c10] at fin ⊢
          exact fin _ rfl
        rw [if_neg c10] at fin ⊢
        rw [if_neg c10]
        by_cases c9 : c = 9
        · rw [if_pos c9, if_pos (by omega)]
          rw [if_pos c9] at fin ⊢
          exact fin _ rfl
        rw [if_neg c9] at fin ⊢
        rw [if_neg c9]
        by_cases c32 : c < 32
        · rw [if_pos c32]
          rw [if_pos c32] at fin ⊢
          obtain ⟨t, ht, hd⟩ := hex_val hc c32 k (by omega)
          have hts : t.size = (hexL c).length := by rw [← hd]; exact (data_length _).symm
          have hh := hexL_len c
          rw [ht, Option.bind_some, if_pos (by omega), if_pos (by rw [ByteArray.size_append]; show 2 + _ + 1 ≤ _; omega), if_pos (by rw [ByteArray.size_append, ByteArray.size_append]; show out.size + (2 + _ + 1) ≤ _; omega)]
          exact fin _ (by rw [app_data, app_data, hd])
        · rw [if_neg c32]
          rw [if_neg c32] at fin ⊢
          rw [if_pos (by omega)]
          exact fin _ hed
    by_cases c39 : c = 39
    · rw [if_pos c39]
      exact hj true (fun _ => by unfold char_Write.one; rw [if_pos c39]) (fun h => by cases h)
    · rw [if_neg c39]
      by_cases c92 : c = 92
      · rw [beq_iff_eq.mpr c92]
        exact hj true (fun _ => by unfold char_Write.one; rw [if_neg c39, if_pos c92]) (fun h => by cases h)
      · rw [beq_eq_false_iff_ne.mpr c92]
        exact hj false (fun h => by cases h) (fun _ => ⟨c39, c92⟩)
theorem quoted_data (a : ByteArray) : (char_Write.quoted a).data.toList = [39] ++ (((chopA a.data.toList).flatMap fun x => char_Write.one (x.1 : Int)) ++ [39]) := by
  have : (char_Write.quoted a).data.toList = [39] ++ char_Write.go (runesOf a) := rfl
  rw [this, runesOf_tag, write_go_tag]
theorem chop_len : ∀ (f : Nat) (l : List UInt8), (chop f l).length ≤ f
  | 0, l => by simp [chop]
  | f + 1, l => by
    unfold chop
    split
    · simp
    · rw [List.length_cons]; have := chop_len f (l.drop (decodeL l).2); omega
theorem ref_write (a : ByteArray) (k : Nat) (hk : 1000 ≤ k) : ∃ r, spinneyref02_Write.f k a = some r ∧ r.toList = (writeV a).toList := by
  unfold spinneyref02_Write.f writeV
  rw [ref_check_val, Option.bind_some]
  by_cases hc : checkB a = true
  · rw [if_pos hc, if_pos hc, ref_bare a k (by omega), Option.bind_some]
    by_cases hb : char_Bare.val a = true
    · rw [if_pos hb, if_pos hb]
      exact ⟨a, rfl, rfl⟩
    · rw [if_neg hb, if_neg hb]
      have ha := checkB_small hc
      have hr : spinneyref02_Runes.f k a = some ((chopA a.data.toList).map fun x => (x.1 : Int)) := by
        unfold spinneyref02_Runes.f
        rw [ref_runes a ha k a [] (by omega) ha (by simp; exact ha), List.nil_append]
      have hln : (chopA a.data.toList).length ≤ 255 := by
        have := chop_len a.data.toList.length a.data.toList
        have h2 := data_length a
        unfold chopA
        omega
      rw [hr, Option.bind_some]
      obtain ⟨r, h1, h2⟩ := ref_write_loop ((chopA a.data.toList).map fun x => (x.1 : Int)) (by rw [List.length_map]; exact hln) (by
        intro c hc
        obtain ⟨x, _, rfl⟩ := List.mem_map.1 hc
        omega) (chopA a.data.toList).length k 0 (⟨#[39]⟩ : ByteArray) (by rw [List.length_map]; omega) (by omega) (by show 1 ≤ _; omega)
      refine ⟨r, h1, ?_⟩
      rw [ByteArray.toList_eq, ByteArray.toList_eq, h2, quoted_data, List.drop_zero, List.flatMap_map]
  · rw [if_neg hc, if_neg hc]
    exact ⟨_, rfl, rfl⟩

end Go.Proofs.YtjichkjnodabiaaDoor.Pure
set_option linter.unusedVariables false
set_option linter.unusedSimpArgs false
namespace Go.Proofs.YtjichkjnodabiaaDoor.Pure
open Go Go.Own Go.RowKit Go.Proofs.YtjichkjnodabiaaDoor.P Go.Proofs.YtjichkjnodabiaaDoorW.PrintWords Go.Proofs.YtjichkjnodabiaaDoorW.PrintLast

open Go.Lib
def sp : ByteArray := ⟨#[32]⟩
theorem sp_list : sp.data.toList = [32] := rfl
theorem cut_sp (n : Nat) (p : Int) (gl : Bool) (l : List S30) : token_Cut.cutF (n + 1) sp p gl l = (l ++ [(⟨9, ⟨#[]⟩, 0, p + 1⟩ : S30)], 0, 0) := by
  have hb : token_Cut.blank sp = some (some 1) := by decide +kernel
  have hz : ¬ sp.size = 0 := by decide
  have h1 : token_Cut.bl sp.size sp p gl = (true, sp.extract 1 sp.size, p + 1, false) := by
    show token_Cut.bl 1 sp p gl = _
    rw [token_Cut.bl, if_neg hz, hb]
    rfl
  have h2 : (sp.extract 1 sp.size).size = 0 := by decide
  rw [token_Cut.cutF, h1]
  dsimp only
  rw [if_pos h2]
theorem atom_cut (w s : ByteArray) (kd : Int) (hw : 0 < w.size) (hsz : w.size ≤ 4000) (hb : token_Cut.blank (w ++ sp) = none) (ht : token_Cut.tok (w ++ sp) false = some (kd, s, 0, w.size)) :
    token_Cut.f (w ++ sp) = some ([(⟨kd, s, 0, 0⟩ : S30), ⟨9, ⟨#[]⟩, 0, (w.size : Int) + 1⟩], 0, 0) := by
  have hT : (w ++ sp).size = w.size + 1 := by rw [ByteArray.size_append]; rfl
  have hz : ¬ (w ++ sp).size = 0 := by omega
  have h4 : ¬ 4096 < (w ++ sp).size := by omega
  have hbl : token_Cut.bl (w ++ sp).size (w ++ sp) 0 false = (true, w ++ sp, 0, false) := by
    generalize hm : (w ++ sp).size = m
    rw [hT] at hm
    subst hm
    rw [token_Cut.bl, if_neg hz, hb]
  have hx : (w ++ sp).extract w.size (w ++ sp).size = sp := by
    apply ba_ext
    rw [suf_list, app_list, List.drop_left' (by rw [← Lib.size_eq])]
  unfold token_Cut.f
  rw [if_neg h4, token_Cut.cutF, hbl]
  dsimp only
  rw [if_neg hz, ht]
  dsimp only
  rw [hx, hT, cut_sp]
  simp
theorem head_bt {s : ByteArray} {b : UInt8} {r : List UInt8} (h : s.data.toList = b :: r) : bt s 0 = (b.toNat : Int) := by
  have hb := bt_list s 0
  have e0 : ((0 : Nat) : Int) = 0 := rfl
  rw [e0] at hb
  rw [hb, h]
  rfl
/-- nothing blank stands ahead -/
theorem no_blank {s : ByteArray} {b : UInt8} {r : List UInt8} (h : s.data.toList = b :: r) (h5 : classN (b.toNat : Int) ≠ 5) (h37 : b ≠ 37) (h2 : s.data.toList.take 2 ≠ [47, 42]) : token_Cut.blank s = none := by
  have hb := head_bt h
  have n37 : ¬ bt s 0 = 37 := by
    rw [hb]
    exact fun e => h37 (UInt8.toNat_inj.1 (by show _ = 37; omega))
  have hp := pre2 s 47 42
  have e : (s.data.toList.take 2 == [47, 42]) = false := by simpa using h2
  rw [e] at hp
  have nt : ¬ (some false = some true) := by decide
  unfold token_Cut.blank
  rw [hb, if_neg h5, ← hb, if_neg n37, hp, if_neg nt]
theorem first_lo {s : ByteArray} {b : UInt8} {r : List UInt8} (h : s.data.toList = b :: r) (hb : b.toNat < 128) : ((Lib.decodeGo s).1 : Int) = (b.toNat : Int) := by
  have hz : s.size ≠ 0 := by rw [Lib.size_eq, h]; simp
  have e := head_bt h
  rcases first_rune s hz with h1 | ⟨h1, h2⟩
  · rw [h1, e]
  · omega
/-- the bytes of a text whose runes have classes -/
theorem bytes_of (q : Int → Bool) (hq : q 0 = false) : ∀ (n : Nat) (l : List UInt8), l.length ≤ n → (∀ x ∈ chopA l, q (classN (x.1 : Int)) = true) → ∀ b ∈ l, q (classN (b.toNat : Int)) = true
  | 0, l, hl, h, b, hb => by
    have : l = [] := List.eq_nil_of_length_eq_zero (by omega)
    rw [this] at hb; cases hb
  | n + 1, l, hl, h, b, hb => by
    have hne : l ≠ [] := by intro e; rw [e] at hb; cases hb
    rw [chopA_step hne] at h
    have h1 := h _ List.mem_cons_self
    have hlo : (decodeL l).1 < 128 := by
      rcases Nat.lt_or_ge (decodeL l).1 128 with h2 | h2
      · exact h2
      · rw [class_high _ h2, hq] at h1; cases h1
    obtain ⟨hw, b0, t, rfl, hb0⟩ := width1 hne hlo
    rcases List.mem_cons.1 hb with rfl | hb
    · rw [hb0]; exact h1
    · refine bytes_of q hq n t (by simp only [List.length_cons] at hl; omega) (fun x hx => h x (List.mem_cons_of_mem _ ?_)) b hb
      rw [hw]
      exact hx
theorem run_of (q : Int → Bool) (hq : q 0 = false) (h5 : q 5 = false) (a : ByteArray) (h : ∀ b ∈ a.data.toList, q (classN (b.toNat : Int)) = true) : token_Cut.wh q (a ++ sp) = a.size := by
  rw [wh_list q hq, app_list, sp_list]
  rw [List.takeWhile_append_of_pos h]
  have : classN (((32 : UInt8)).toNat : Int) = 5 := by decide
  have e : (List.takeWhile (fun b : UInt8 => q (classN (b.toNat : Int))) [32]) = [] := by
    rw [List.takeWhile_cons, this, h5]
    rfl
  rw [e, List.append_nil, ← Lib.size_eq]
theorem own_sp (a : ByteArray) (kd : Int) (h : a.size ≤ 255) : token_Cut.ownT (a ++ sp) kd a.size = some (kd, a, 0, a.size) := by
  have g : ¬ (255 < a.size ∧ kd ≠ 4) := fun x => by omega
  have e : (a ++ sp).extract 0 a.size = a := by
    apply ba_ext
    rw [data_ext, app_list, List.take_left' (by rw [← Lib.size_eq])]
  unfold token_Cut.ownT
  rw [if_neg g, e]
/-- a bare name -/
theorem bare_name (a : ByteArray) {b : UInt8} {r : List UInt8} (ha : a.data.toList = b :: r) (hc : classN (b.toNat : Int) = 1) (h : ∀ b ∈ a.data.toList, token_Cut.qword (classN (b.toNat : Int)) = true) (hsz : a.size ≤ 255) :
    token_Cut.blank (a ++ sp) = none ∧ token_Cut.tok (a ++ sp) false = some (1, a, 0, a.size) := by
  have hl : (a ++ sp).data.toList = b :: (r ++ [32]) := by rw [app_list, ha]; rfl
  have hlo : b.toNat < 128 := by
    rcases Nat.lt_or_ge b.toNat 128 with h2 | h2
    · exact h2
    · rw [class_high _ h2] at hc; exact absurd hc (by decide)
  have nb : ∀ v : UInt8, classN (v.toNat : Int) ≠ 1 → b ≠ v := fun v hv e => hv (by rw [← e]; exact hc)
  refine ⟨no_blank hl (by rw [hc]; decide) (nb 37 (by decide)) ?_, ?_⟩
  · rw [hl]
    intro e
    simp only [List.take_succ_cons, List.cons.injEq] at e
    exact nb 47 (by decide) e.1
  · unfold token_Cut.tok
    rw [first_lo hl hlo, if_pos hc, run_of token_Cut.qword rfl rfl a h, own_sp a 1 hsz]
/-- a bare sign -/
theorem bare_sign (a : ByteArray) {b : UInt8} {r : List UInt8} (ha : a.data.toList = b :: r) (hc : classN (b.toNat : Int) = 4) (h : ∀ b ∈ a.data.toList, token_Cut.qsign (classN (b.toNat : Int)) = true) (hsz : a.size ≤ 255) (h46 : a.data.toList ≠ [46]) (h2 : a.data.toList.take 2 ≠ [47, 42]) :
    token_Cut.blank (a ++ sp) = none ∧ token_Cut.tok (a ++ sp) false = some (3, a, 0, a.size) := by
  have hl : (a ++ sp).data.toList = b :: (r ++ [32]) := by rw [app_list, ha]; rfl
  have hlo : b.toNat < 128 := by
    rcases Nat.lt_or_ge b.toNat 128 with h2 | h2
    · exact h2
    · rw [class_high _ h2] at hc; exact absurd hc (by decide)
  have nb : ∀ v : UInt8, classN (v.toNat : Int) ≠ 4 → b ≠ v := fun v hv e => hv (by rw [← e]; exact hc)
  have hrun := run_of token_Cut.qsign rfl rfl a h
  have e : (a ++ sp).extract 0 a.size = a := by
    apply ba_ext
    rw [data_ext, app_list, List.take_left' (by rw [← Lib.size_eq])]
  refine ⟨no_blank hl (by rw [hc]; decide) (nb 37 (by decide)) ?_, ?_⟩
  · rw [hl]
    rw [ha] at h2
    intro e
    cases r with
    | nil => simp at e
    | cons c r => exact h2 (by simpa using e)
  · have n1 : ¬ (4 : Int) = 1 := by decide
    have n2 : ¬ (4 : Int) = 2 := by decide
    have n3 : ¬ (4 : Int) = 3 := by decide
    unfold token_Cut.tok
    rw [first_lo hl hlo, hc, if_neg n1, if_neg n2, if_neg n3, if_pos rfl, hrun, e, ByteArray.toList_eq]
    rw [if_neg (fun x => h46 x.1), own_sp a 3 hsz]
/-- an atom in quotes -/
theorem in_quotes (a : ByteArray) (hv : validD a.data.toList = true) (hsz : a.size ≤ 255) (hq : (char_Write.quoted a).size ≤ 4000) :
    token_Cut.blank (char_Write.quoted a ++ sp) = none ∧ token_Cut.tok (char_Write.quoted a ++ sp) false = some (2, a, 0, (char_Write.quoted a).size) := by
  obtain ⟨r, hr⟩ : ∃ r, (char_Write.quoted a).data.toList = 39 :: r := ⟨_, rfl⟩
  have hl : (char_Write.quoted a ++ sp).data.toList = 39 :: (r ++ [32]) := by rw [app_list, hr]; rfl
  have hT : (char_Write.quoted a ++ sp).size = (char_Write.quoted a).size + 1 := by rw [ByteArray.size_append]; rfl
  have hread := read_quoted a hv sp (by rw [sp_list]; decide) (by omega)
  refine ⟨no_blank hl (by decide) (by decide) ?_, ?_⟩
  · rw [hl]
    intro e
    simp only [List.take_succ_cons, List.cons.injEq] at e
    exact absurd e.1 (by decide)
  · have hc : classN ((((39 : UInt8)).toNat : Nat) : Int) = 8 := by decide
    have n : ∀ v : Int, v ≠ 8 → ¬ (8 : Int) = v := fun v hv e => hv e.symm
    have ea : (⟨a.data.toList.toArray⟩ : ByteArray) = a := ba_ext rfl
    have g : (0 : Int) = 0 ∧ a.size ≤ 255 := ⟨rfl, hsz⟩
    unfold token_Cut.tok
    rw [first_lo hl (by decide), hc, if_neg (n 1 (by decide)), if_neg (n 2 (by decide)), if_neg (n 3 (by decide)), if_neg (n 4 (by decide)), if_neg (n 6 (by decide)), if_neg (n 7 (by decide)), if_pos rfl, hread, ea]
    dsimp only
    rw [if_pos g]
    rfl
/-- an atom that is not of two brackets is one token -/
theorem one_token (s : ByteArray) (hc : checkB s = true) (n1 : s.data.toList ≠ [91, 93]) (n2 : s.data.toList ≠ [123, 125]) (hw : (writeV s).size ≤ 4000) :
    ∃ kd, (kd = 1 ∨ kd = 2 ∨ kd = 3) ∧ token_Cut.f (writeV s ++ sp) = some ([(⟨kd, s, 0, 0⟩ : S30), ⟨9, ⟨#[]⟩, 0, ((writeV s).size : Int) + 1⟩], 0, 0) := by
  have hsz := checkB_small hc
  have hv : validD s.data.toList = true := by
    unfold checkB at hc
    exact (Bool.and_eq_true _ _ ▸ hc).2
  have hwv : writeV s = if char_Bare.val s = true then s else char_Write.quoted s := by
    unfold writeV; rw [if_pos hc]
  by_cases hb : char_Bare.val s = true
  · rw [if_pos hb] at hwv
    rw [hwv] at hw ⊢
    have hpos : s.data.toList ≠ [] := by
      intro e
      rw [val_eq, e] at hb
      simp at hb
    have hp : 0 < s.size := by rw [Lib.size_eq]; exact List.length_pos_iff.2 hpos
    rw [val_eq, if_neg n1, if_neg n2] at hb
    by_cases c33 : s.data.toList = [33]
    · have e : s = ⟨#[33]⟩ := ba_ext c33
      subst e
      exact ⟨1, .inl rfl, atom_cut _ _ 1 (by decide) (by decide) (by decide +kernel) (by decide +kernel)⟩
    by_cases c59 : s.data.toList = [59]
    · have e : s = ⟨#[59]⟩ := ba_ext c59
      subst e
      exact ⟨1, .inl rfl, atom_cut _ _ 1 (by decide) (by decide) (by decide +kernel) (by decide +kernel)⟩
    rw [if_neg c33, if_neg c59, if_neg hpos] at hb
    by_cases c46 : s.data.toList = [46]
    · rw [if_pos c46] at hb; cases hb
    rw [if_neg c46] at hb
    by_cases c2 : s.data.toList.take 2 = [47, 42]
    · rw [if_pos c2] at hb; cases hb
    rw [if_neg c2, chopA_step hpos] at hb
    have hall := chopA_step hpos
    obtain ⟨b, r, hbr⟩ : ∃ b r, s.data.toList = b :: r := by
      cases h : s.data.toList with
      | nil => exact absurd h hpos
      | cons b r => exact ⟨b, r, rfl⟩
    have hfirst : ∀ c : Int, c ≠ 0 → classN ((decodeL s.data.toList).1 : Int) = c → classN (b.toNat : Int) = c := by
      intro c h0 hcl
      have hlo : (decodeL s.data.toList).1 < 128 := by
        rcases Nat.lt_or_ge (decodeL s.data.toList).1 128 with h2 | h2
        · exact h2
        · rw [class_high _ h2] at hcl; exact absurd hcl.symm h0
      obtain ⟨-, b0, t, e, hb0⟩ := width1 hpos hlo
      rw [hbr] at e
      injection e with e1 e2
      rw [e1, hb0]; exact hcl
    unfold bareR at hb
    dsimp only at hb
    by_cases k1 : classN ((decodeL s.data.toList).1 : Int) = 1
    · rw [if_pos k1] at hb
      have hb2 := (Bool.and_eq_true _ _ ▸ hb : _ ∧ _).2
      have hq : ∀ x ∈ chopA s.data.toList, token_Cut.qword (classN (x.1 : Int)) = true := by
        rw [hall]
        intro x hx
        rcases List.mem_cons.1 hx with rfl | hx
        · rw [k1]; rfl
        · exact List.all_eq_true.1 hb2 x hx
      have hm := bare_name s hbr (hfirst 1 (by decide) k1) (bytes_of token_Cut.qword rfl _ _ (Nat.le_refl _) hq) hsz
      exact ⟨1, .inl rfl, atom_cut s s 1 hp hw hm.1 hm.2⟩
    · rw [if_neg k1] at hb
      by_cases k4 : classN ((decodeL s.data.toList).1 : Int) = 4
      · rw [if_pos k4] at hb
        have hb2 := (Bool.and_eq_true _ _ ▸ hb : _ ∧ _).2
        have hq : ∀ x ∈ chopA s.data.toList, token_Cut.qsign (classN (x.1 : Int)) = true := by
          rw [hall]
          intro x hx
          rcases List.mem_cons.1 hx with rfl | hx
          · rw [k4]; rfl
          · have := List.all_eq_true.1 hb2 x hx
            unfold sign4 at this
            rw [of_decide_eq_true this]; rfl
        have hm := bare_sign s hbr (hfirst 4 (by decide) k4) (bytes_of token_Cut.qsign rfl _ _ (Nat.le_refl _) hq) hsz c46 c2
        exact ⟨3, .inr (.inr rfl), atom_cut s s 3 hp hw hm.1 hm.2⟩
      · rw [if_neg k4] at hb; cases hb
  · rw [if_neg hb] at hwv
    rw [hwv] at hw ⊢
    have hm := in_quotes s hv hsz hw
    have hp : 0 < (char_Write.quoted s).size := by
      have : (char_Write.quoted s).data.toList ≠ [] := by
        obtain ⟨r, hr⟩ : ∃ r, (char_Write.quoted s).data.toList = 39 :: r := ⟨_, rfl⟩
        rw [hr]; simp
      rw [Lib.size_eq]; exact List.length_pos_iff.2 this
    exact ⟨2, .inr (.inl rfl), atom_cut _ s 2 hp hw hm.1 hm.2⟩
theorem TokenAtoms : spinneylaw05_TokenAtoms.Pure := by
  intro s _
  obtain ⟨K, hK⟩ : ∃ K : Nat, K = 1000 := ⟨_, rfl⟩
  refine ⟨K + 1, ?_⟩
  obtain ⟨w, hw, hwl⟩ := ref_write s (K + 1) (by omega)
  have hwe : w = writeV s := ba_ext (by rw [ByteArray.toList_eq, ByteArray.toList_eq] at hwl; exact hwl)
  unfold spinneylaw05_TokenAtoms.f
  rw [live05, hw, ref_check_val]
  simp only [Option.bind_some]
  have up : spinneylaw05_TokenAtoms.j0 (K + 1) s true w true = some true := by
    rw [spinneylaw05_TokenAtoms.j0, if_pos rfl]
  by_cases hc : checkB s = true
  · rw [if_pos hc]
    by_cases h4 : (w.size : Int) > 4000
    · rw [decide_eq_true h4, up]
    · rw [decide_eq_false h4, spinneylaw05_TokenAtoms.j0]
      have nt : ¬ (false = true) := by decide
      have hs1 : w.size + 1 ≤ 9223372036854775807 := by omega
      have hsp : w ++ (⟨#[32]⟩ : ByteArray) = writeV s ++ sp := by rw [hwe]; rfl
      rw [if_neg nt, if_pos hs1, hsp, ByteArray.toList_eq]
      by_cases n1 : s.data.toList = [91, 93]
      · have e : s = ⟨#[91, 93]⟩ := ba_ext n1
        have hwv : writeV s = s := by rw [e]; decide +kernel
        rw [hwv, e]
        decide +kernel
      by_cases n2 : s.data.toList = [123, 125]
      · have e : s = ⟨#[123, 125]⟩ := ba_ext n2
        have hwv : writeV s = s := by rw [e]; decide +kernel
        rw [hwv, e]
        decide +kernel
      · obtain ⟨kd, hk, hf⟩ := one_token s hc n1 n2 (by rw [← hwe]; omega)
        rw [hf]
        simp only [Option.bind_some]
        rw [if_neg n1, if_neg n2]
        rcases hk with rfl | rfl | rfl <;> simp [rd_T30, ByteArray.toList_eq]
  · rw [if_neg hc, up]

end Go.Proofs.YtjichkjnodabiaaDoor.Pure
