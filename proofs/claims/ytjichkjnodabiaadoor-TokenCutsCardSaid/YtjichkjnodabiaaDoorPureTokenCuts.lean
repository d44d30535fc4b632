/- Any source is cut, or refused, just as the reference does. No condition. -/
import Derived.Test.YtjichkjnodabiaaDoorPx5
import Derived.Test.YtjichkjnodabiaaDoorPx14
import Derived.Test.YtjichkjnodabiaaDoorPx7
import Derived.Test.YtjichkjnodabiaaDoorPx13
import Derived.Test.YtjichkjnodabiaaDoorPx3
import Derived.Test.YtjichkjnodabiaaDoorPx4
import Derived.Test.YtjichkjnodabiaaDoorPx8
import Derived.Test.YtjichkjnodabiaaDoorPx9
import Derived.Test.YtjichkjnodabiaaDoorPx10
import Derived.Test.YtjichkjnodabiaaDoorPx6
import Derived.Test.YtjichkjnodabiaaDoorPx12
import Derived.Test.YtjichkjnodabiaaDoorPx11
import Derived.Test.YtjichkjnodabiaaDoorPx0
import Derived.Lib.MapLaws
import Derived.Lib.ValidLaws
import Derived.Lib.TrimUEq
import Derived.Lib.TrimAscii
import Derived.WideShapes
set_option linter.unusedVariables false
set_option linter.unusedSimpArgs false
namespace Go.Proofs.YtjichkjnodabiaaDoor.Pure
open Go Go.Own Go.RowKit Go.Proofs.YtjichkjnodabiaaDoor.P Go.Proofs.YtjichkjnodabiaaDoorW.PrintWords Go.Proofs.YtjichkjnodabiaaDoorW.PrintLast

theorem live05 : spinneylaw05_live.f = some true := by decide +kernel
/-- what is left from a place on -/
def sfx (src : ByteArray) (P : Nat) : ByteArray := src.extract P src.size
theorem sfx_size (src : ByteArray) (P : Nat) : (sfx src P).size = src.size - P := by unfold sfx; rw [ByteArray.size_extract]; omega
theorem sfx_zero (src : ByteArray) : sfx src 0 = src := by unfold sfx; simp
theorem sfx_sfx (src : ByteArray) (P n : Nat) : (sfx src P).extract n (sfx src P).size = sfx src (P + n) := by
  unfold sfx
  rw [ByteArray.extract_extract, ByteArray.size_extract]
  congr 1
  omega
theorem sfx_take (src : ByteArray) (P n : Nat) (h : P + n ≤ src.size) : (sfx src P).extract 0 n = src.extract P (P + n) := by
  unfold sfx
  rw [ByteArray.extract_extract]
  congr 1
  · omega
theorem blank_range {s : ByteArray} {n : Nat} (hz : s.size ≠ 0) (h : token_Cut.blank s = some (some n)) : 1 ≤ n ∧ n ≤ s.size := by
  have hpos : 0 < s.size := by omega
  unfold token_Cut.blank at h
  split at h
  · simp only [Option.some.injEq] at h; omega
  · split at h
    · rename_i hb
      simp only [Option.some.injEq] at h
      have hi := Lib.indexByte_ge s.data.toList 10
      split at h
      · omega
      · rename_i h0
        obtain ⟨o, ho⟩ : ∃ o : Nat, Lib.indexByte s.data.toList 10 = o := ⟨(Lib.indexByte s.data.toList 10).toNat, by omega⟩
        rw [ho, Int.toNat_natCast] at h
        subst h
        obtain ⟨ho1, ho2⟩ := Lib.indexByte_some ho
        have ho3 : o < s.data.toList.length := (List.getElem?_eq_some_iff.1 ho1).1
        rw [← Lib.size_eq] at ho3
        refine ⟨?_, by omega⟩
        rcases Nat.eq_zero_or_pos o with rfl | h
        · exfalso
          have h1 : s.data.toList[0]? = some (s[0]'hpos) := by
            rw [List.getElem?_eq_getElem (by rw [← Lib.size_eq]; exact hpos)]; rfl
          rw [h1] at ho1
          have h2 : (s[0]'hpos) = 10 := Option.some.inj ho1
          have hbt : ((s[0]'hpos).toNat : Int) = bt s 0 := bt_at s 0 hpos
          rw [h2, hb] at hbt
          exact absurd hbt (by decide)
        · exact h
    · split at h
      · rename_i hp
        have h2 := token_Cut.hp_two hp
        split at h
        · cases h
        · rename_i hj0
          simp only [Option.some.injEq] at h
          have hr := Lib.index_room _ _ (show 0 ≤ Lib.index (s.extract 2 s.size).data.toList [42, 47] by omega)
          rw [← Lib.size_eq, ByteArray.size_extract] at hr
          simp only [List.length_cons, List.length_nil] at hr
          omega
      · cases h
/-- blanks go on to a place -/
theorem bl_sfx (src : ByteArray) : ∀ (k P : Nat) (gl : Bool), P ≤ src.size → ∃ (ok : Bool) (Q : Nat) (gl2 : Bool), token_Cut.bl k (sfx src P) P gl = (ok, sfx src Q, (Q : Int), gl2) ∧ P ≤ Q ∧ Q ≤ src.size
  | 0, P, gl, h => ⟨true, P, gl, rfl, Nat.le_refl _, h⟩
  | k + 1, P, gl, h => by
    unfold token_Cut.bl
    split
    · exact ⟨true, P, gl, rfl, Nat.le_refl _, h⟩
    · rename_i hz
      split
      · exact ⟨true, P, gl, rfl, Nat.le_refl _, h⟩
      · exact ⟨false, P, gl, rfl, Nat.le_refl _, h⟩
      · rename_i n hb
        obtain ⟨h1, h2⟩ := blank_range hz hb
        rw [sfx_size] at h2
        obtain ⟨ok, Q, gl2, e, hQ, hQ2⟩ := bl_sfx src k (P + n) false (by omega)
        refine ⟨ok, Q, gl2, ?_, by omega, hQ2⟩
        rw [sfx_sfx, show (P : Int) + (n : Int) = ((P + n : Nat) : Int) by omega]
        exact e
theorem own_le {s : ByteArray} {kd : Int} {m : Nat} (hm : m ≤ s.size) {a : Int} {b : ByteArray} {c : Int} {n : Nat} (h : token_Cut.ownT s kd m = some (a, b, c, n)) : n ≤ s.size ∧ a = kd ∧ b = s.extract 0 n ∧ n = m ∧ c = 0 := by
  unfold token_Cut.ownT at h
  split at h
  · cases h
  · simp only [Option.some.injEq, Prod.mk.injEq] at h
    obtain ⟨h1, h2, h3, h4⟩ := h
    subst h4
    exact ⟨hm, h1.symm, h2.symm, rfl, h3.symm⟩
theorem numB_le {s : ByteArray} {a : Int} {b : ByteArray} {c : Int} {n : Nat} (h : token_Cut.numB s = some (a, b, c, n)) : n ≤ s.size ∧ a = 5 := by
  unfold token_Cut.numB at h
  split at h
  · split at h
    · simp only [Option.some.injEq, Prod.mk.injEq] at h
      have := token_Cut.wh_le token_Cut.qdigit s
      omega
    · cases h
  · cases h
theorem num_le {s : ByteArray} {a : Int} {b : ByteArray} {c : Int} {n : Nat} (h : token_Cut.num s = some (a, b, c, n)) : n ≤ s.size ∧ a = 5 := by
  unfold token_Cut.num at h
  rcases token_Cut.cp_some s with hP | ⟨h2, hP⟩
  · rw [hP] at h
    exact numB_le h
  · rw [hP] at h
    dsimp only at h
    split at h
    · rename_i N m hA
      simp only [Option.some.injEq, Prod.mk.injEq] at h
      obtain ⟨h3, -, -, h4⟩ := h
      subst h4
      refine ⟨?_, h3.symm⟩
      unfold token_Cut.numA at hA
      have hrs : (s.extract 2 s.size).size + 2 = s.size := by rw [ByteArray.size_extract]; omega
      obtain ⟨b2, hq, hq2⟩ := token_Cut.hq_some (s.extract 2 s.size)
      have hgo := token_Cut.go_le (s.extract 2 s.size)
      split at hA
      · rename_i hq3
        rw [hq3] at hq
        have := hq2 (Option.some.inj hq).symm
        simp only [Option.some.injEq, Prod.mk.injEq] at hA
        omega
      · split at hA
        · simp only [Option.some.injEq, Prod.mk.injEq] at hA
          omega
        · cases hA
    · exact numB_le h
/-- a token lies within what is left; its text is the source's own bytes, of names, signs, variables and brackets -/
theorem tok_le {s : ByteArray} {gl : Bool} (hz : s.size ≠ 0) {a : Int} {b : ByteArray} {c : Int} {n : Nat} (h : token_Cut.tok s gl = some (a, b, c, n)) : n ≤ s.size ∧ (a = 2 ∨ a = 5 ∨ (b = s.extract 0 n ∧ a ≠ 9 ∧ a ≠ 2 ∧ a ≠ 5)) := by
  have hown : ∀ {kd : Int} {m : Nat}, kd ≠ 9 → kd ≠ 2 → kd ≠ 5 → m ≤ s.size → token_Cut.ownT s kd m = some (a, b, c, n) → n ≤ s.size ∧ (a = 2 ∨ a = 5 ∨ (b = s.extract 0 n ∧ a ≠ 9 ∧ a ≠ 2 ∧ a ≠ 5)) := by
    intro kd m h9 h2 h5 hm ho
    obtain ⟨q1, q2, q3, -, -⟩ := own_le hm ho
    exact ⟨q1, .inr (.inr ⟨q3, by omega, by omega, by omega⟩)⟩
  unfold token_Cut.tok at h
  split at h
  · exact hown (by decide) (by decide) (by decide) (token_Cut.wh_le _ _) h
  · split at h
    · exact hown (by decide) (by decide) (by decide) (token_Cut.wh_le _ _) h
    · split at h
      · obtain ⟨q1, q2⟩ := num_le h; exact ⟨q1, .inr (.inl q2)⟩
      · split at h
        · split at h
          · exact hown (by decide) (by decide) (by decide) (token_Cut.wh_le _ _) h
          · exact hown (by decide) (by decide) (by decide) (token_Cut.wh_le _ _) h
        · split at h
          · split at h <;> exact hown (by decide) (by decide) (by decide) (by omega) h
          · split at h
            · split at h <;> exact hown (by decide) (by decide) (by decide) (by omega) h
            · split at h
              · split at h
                · rename_i t m e hr
                  split at h
                  · rename_i c2
                    obtain ⟨rfl, -⟩ := c2
                    have := token_Cut.rd_range s hr
                    simp only [Option.some.injEq, Prod.mk.injEq] at h
                    exact ⟨by omega, .inl h.1.symm⟩
                  · cases h
                · cases h
              · cases h
/-- the tokens from here on, or the place of the error -/
def cutL : Nat → ByteArray → Int → Bool → Option (List S30) × Int
  | 0, _, _, _ => (some [], 0)
  | k + 1, s, p, gl => match token_Cut.bl s.size s p gl with
    | (false, _, p2, _) => (none, p2)
    | (true, s2, p2, gl2) => if s2.size = 0 then (some [(⟨9, ⟨#[]⟩, 0, p2⟩ : S30)], 0) else match token_Cut.tok s2 gl2 with
      | none => (none, p2)
      | some (kd, tx, N, n) => ((cutL k (s2.extract n s2.size) (p2 + n) (token_Cut.glue kd tx)).1.map ((⟨kd, tx, N, p2⟩ : S30) :: ·), (cutL k (s2.extract n s2.size) (p2 + n) (token_Cut.glue kd tx)).2)
theorem cutF_L : ∀ (k : Nat) (s : ByteArray) (p : Int) (gl : Bool) (l : List S30), s.size < k → token_Cut.cutF k s p gl l = match cutL k s p gl with
    | (some ts, _) => (l ++ ts, 0, 0)
    | (none, q) => ([], q, 50)
  | 0, s, p, gl, l, h => absurd h (Nat.not_lt_zero _)
  | k + 1, s, p, gl, l, h => by
    unfold token_Cut.cutF cutL
    have hle := token_Cut.bl_le s.size s p gl
    rcases hb : token_Cut.bl s.size s p gl with ⟨ok, s2, p2, gl2⟩
    rw [hb] at hle
    dsimp only at hle
    cases ok with
    | false => rfl
    | true =>
      dsimp only
      by_cases hz : s2.size = 0
      · rw [if_pos hz, if_pos hz]
      · rw [if_neg hz, if_neg hz]
        cases ht : token_Cut.tok s2 gl2 with
        | none => rfl
        | some q =>
          obtain ⟨kd, tx, N, n⟩ := q
          dsimp only
          have hp := token_Cut.tok_pos hz ht
          rw [cutF_L k _ _ _ _ (by rw [ByteArray.size_extract]; omega)]
          rcases cutL k (s2.extract n s2.size) (p2 + n) (token_Cut.glue kd tx) with ⟨o, q⟩
          cases o with
          | none => rfl
          | some ts => simp
/-- what holds of each token and of each place -/
theorem cutL_inv (src : ByteArray) (R : S30 → Prop) (h9 : R ⟨9, ⟨#[]⟩, 0, src.size⟩)
    (ht : ∀ (P : Nat) (gl : Bool) (kd : Int) (tx : ByteArray) (N : Int) (n : Nat), P < src.size → token_Cut.tok (sfx src P) gl = some (kd, tx, N, n) → R ⟨kd, tx, N, P⟩) :
    ∀ (k P : Nat) (gl : Bool), P ≤ src.size → src.size - P < k → (∃ ts e, cutL k (sfx src P) P gl = (some ts, e) ∧ (∀ t ∈ ts, R t) ∧ ts.length ≤ src.size - P + 1 ∧ ts ≠ []) ∨ (∃ Q : Nat, cutL k (sfx src P) P gl = (none, (Q : Int)) ∧ P ≤ Q ∧ Q ≤ src.size)
  | 0, P, gl, h, hk => absurd hk (Nat.not_lt_zero _)
  | k + 1, P, gl, h, hk => by
    unfold cutL
    obtain ⟨ok, Q, gl2, hb, hQ, hQ2⟩ := bl_sfx src (sfx src P).size P gl h
    rw [hb]
    cases ok with
    | false => exact .inr ⟨Q, rfl, hQ, hQ2⟩
    | true =>
      dsimp only
      rw [sfx_size]
      by_cases hz : src.size - Q = 0
      · rw [if_pos hz]
        obtain rfl : Q = src.size := by omega
        exact .inl ⟨_, _, rfl, by intro t h; rw [List.mem_singleton] at h; subst h; exact h9, by simp, by simp⟩
      · rw [if_neg hz]
        cases hk2 : token_Cut.tok (sfx src Q) gl2 with
        | none => exact .inr ⟨Q, rfl, hQ, hQ2⟩
        | some q =>
          obtain ⟨kd, tx, N, n⟩ := q
          have hsz : (sfx src Q).size ≠ 0 := by rw [sfx_size]; exact hz
          have hn := (tok_le hsz hk2).1
          have hp := token_Cut.tok_pos hsz hk2
          rw [sfx_size] at hn
          have hR := ht Q gl2 kd tx N n (by omega) hk2
          dsimp only
          have e := sfx_sfx src Q n
          rw [sfx_size] at e
          rw [e, show (Q : Int) + (n : Int) = ((Q + n : Nat) : Int) by omega]
          rcases cutL_inv src R h9 ht k (Q + n) (token_Cut.glue kd tx) (by omega) (by omega) with ⟨ts, e, h1, h2, h3, h4⟩ | ⟨Q2, h1, h2, h3⟩
          · rw [h1]
            refine .inl ⟨_, _, rfl, ?_, ?_, by simp⟩
            · intro t ht
              rcases List.mem_cons.1 ht with rfl | ht
              · exact hR
              · exact h2 t ht
            · simp only [List.length_cons]; omega
          · rw [h1]
            exact .inr ⟨Q2, rfl, by omega, h3⟩
theorem cut_f (src : ByteArray) (h : src.size ≤ 4096) : token_Cut.f src = some (match cutL (src.size + 1) (sfx src 0) ((0 : Nat) : Int) false with
    | (some ts, _) => (ts, 0, 0)
    | (none, q) => ([], q, 50)) := by
  unfold token_Cut.f
  rw [if_neg (by omega), sfx_zero, cutF_L _ _ _ _ _ (Nat.lt_succ_self _)]
  rfl
theorem cut_long (src : ByteArray) (h : 4096 < src.size) : token_Cut.f src = some ([], 0, 2) := by
  unfold token_Cut.f
  rw [if_pos h]

end Go.Proofs.YtjichkjnodabiaaDoor.Pure
set_option linter.unusedVariables false
set_option linter.unusedSimpArgs false
namespace Go.Proofs.YtjichkjnodabiaaDoor.Pure
open Go Go.Own Go.RowKit Go.Proofs.YtjichkjnodabiaaDoor.P Go.Proofs.YtjichkjnodabiaaDoorW.PrintWords Go.Proofs.YtjichkjnodabiaaDoorW.PrintLast

theorem ba_ext {a b : ByteArray} (h : a.data.toList = b.data.toList) : a = b := ByteArray.ext (Array.toList_inj.1 h)
theorem app_list (a b : ByteArray) : (a ++ b).data.toList = a.data.toList ++ b.data.toList := by rw [ByteArray.data_append, Array.toList_append]
theorem suf_list (s : ByteArray) (n : Nat) : (s.extract n s.size).data.toList = s.data.toList.drop n := by
  rw [Lib.extract_data, List.take_of_length_le]
  rw [List.length_drop, ← Lib.size_eq]
  omega
theorem bt_list (s : ByteArray) (i : Nat) : bt s (i : Int) = ((s.data.toList.getD i 0).toNat : Int) := by
  unfold bt
  rw [Int.toNat_natCast]
  by_cases h : i < s.size
  · rw [dif_pos h, List.getD_eq_getElem?_getD, List.getElem?_eq_getElem (by rw [← Lib.size_eq]; exact h)]
    rfl
  · rw [dif_neg h, List.getD_eq_getElem?_getD, List.getElem?_eq_none (by rw [← Lib.size_eq]; omega)]
    rfl
theorem get_list (s : ByteArray) (i : Nat) : s.get! i = s.data.toList.getD i 0 := by
  rcases s with ⟨d⟩
  show d[i]! = d.toList.getD i 0
  rw [List.getD_eq_getElem?_getD, Array.getElem?_toList, getElem!_def]
  cases d[i]? <;> rfl
theorem dec_ascii {s : ByteArray} {pos : Nat} (h : (s.data.toList.getD pos 0).toNat < 128) : Utf8.decode s pos = ((s.data.toList.getD pos 0).toNat, 1) := by
  rw [Lib.decode_at, get_list]
  unfold Lib.decodeN
  rw [if_pos h]
theorem dec_high {s : ByteArray} {pos : Nat} (h : 128 ≤ (s.data.toList.getD pos 0).toNat) : 128 ≤ (Utf8.decode s pos).1 := by
  rw [Lib.decode_at, get_list]
  unfold Lib.decodeN
  rw [if_neg (by omega)]
  repeat' split
  all_goals (dsimp only; omega)
theorem class_high (c : Nat) (h : 128 ≤ c) : classN (c : Int) = 0 := by
  unfold classN classN.c0 classN.c1 classN.c2 classN.c3 classN.c4 classN.c5
  repeat rw [if_neg (by omega)]
theorem whL_list (q : Int → Bool) (hq : q 0 = false) (s : ByteArray) : ∀ f pos, s.size ≤ pos + f → pos ≤ s.size → token_Cut.whL q s.size (runesAt s f pos) = pos + ((s.data.toList.drop pos).takeWhile (fun b => q (classN (b.toNat : Int)))).length
  | 0, pos, hf, hp => by
    obtain rfl : pos = s.size := by omega
    rw [Lib.size_eq, List.drop_length]
    rfl
  | f + 1, pos, hf, hp => by
    by_cases h : pos < s.size
    · have hl : pos < s.data.toList.length := by rw [← Lib.size_eq]; exact h
      have hd : s.data.toList.drop pos = s.data.toList.getD pos 0 :: s.data.toList.drop (pos + 1) := by
        rw [List.getD_eq_getElem?_getD, List.getElem?_eq_getElem hl, List.drop_eq_getElem_cons hl]; rfl
      have hr : runesAt s (f + 1) pos = (pos, (Utf8.decode s pos).1) :: runesAt s f (pos + (Utf8.decode s pos).2) := by
        conv => lhs; unfold runesAt
        rw [if_pos h]
      rw [hr, hd]
      unfold token_Cut.whL
      by_cases ha : (s.data.toList.getD pos 0).toNat < 128
      · rw [dec_ascii ha]
        dsimp only
        by_cases hc : q (classN ((s.data.toList.getD pos 0).toNat : Int)) = true
        · rw [if_pos hc, List.takeWhile_cons, if_pos hc, whL_list q hq s f (pos + 1) (by omega) (by omega)]
          simp only [List.length_cons]
          omega
        · rw [if_neg hc, List.takeWhile_cons, if_neg hc]
          rfl
      · have hh := dec_high (s := s) (pos := pos) (by omega)
        rw [if_neg (by rw [class_high _ hh, hq]; simp), List.takeWhile_cons, if_neg (by rw [class_high _ (by omega), hq]; simp)]
        rfl
    · obtain rfl : pos = s.size := by omega
      rw [runesAt_end h, Lib.size_eq, List.drop_length]
      rfl
theorem wh_list (q : Int → Bool) (hq : q 0 = false) (s : ByteArray) : token_Cut.wh q s = (s.data.toList.takeWhile (fun b => q (classN (b.toNat : Int)))).length := by
  unfold token_Cut.wh runesOf
  rw [whL_list q hq s s.size 0 (by omega) (by omega), Nat.zero_add, List.drop_zero]
theorem pre2 (t : ByteArray) (c d : UInt8) : strings_HasPrefix.f t (⟨#[c, d]⟩ : ByteArray) = some (t.data.toList.take 2 == [c, d]) := by
  unfold strings_HasPrefix.f stringslite_HasPrefix.f
  have h2 : ((⟨#[c, d]⟩ : ByteArray).size : Int) = 2 := rfl
  have h3 : (⟨#[c, d]⟩ : ByteArray).toList = [c, d] := by rw [Lib.toList_data]
  rw [h2, h3]
  by_cases h : (t.size : Int) ≥ 2
  · rw [if_pos h, if_pos (by decide), if_pos h, Option.bind_some, Lib.extract_toList]
    rfl
  · rw [if_neg h, Option.bind_some]
    congr 1
    symm
    rw [beq_eq_false_iff_ne]
    intro hx
    have := congrArg List.length hx
    rw [List.length_take, ← Lib.size_eq] at this
    simp at this
    omega
theorem cut2 (t : ByteArray) (c d : UInt8) : strings_CutPrefix.f t (⟨#[c, d]⟩ : ByteArray) = if (t.data.toList.take 2 == [c, d]) = true then some (t.extract 2 t.size, true) else some (t, false) := by
  have hp := pre2 t c d
  unfold strings_HasPrefix.f at hp
  unfold strings_CutPrefix.f stringslite_CutPrefix.f
  have hp2 : stringslite_HasPrefix.f t (⟨#[c, d]⟩ : ByteArray) = some (t.data.toList.take 2 == [c, d]) := by
    rcases hq : stringslite_HasPrefix.f t (⟨#[c, d]⟩ : ByteArray) with _ | b
    · rw [hq] at hp; simp at hp
    · rw [hq, Option.bind_some] at hp; exact hp
  rw [hp2, Option.bind_some]
  by_cases h : (t.data.toList.take 2 == [c, d]) = true
  · have hl : 2 ≤ t.size := by
      have := congrArg List.length (beq_iff_eq.1 h)
      rw [List.length_take, ← Lib.size_eq] at this
      simp at this
      omega
    have h2 : ((⟨#[c, d]⟩ : ByteArray).size : Int) = 2 := rfl
    rw [if_pos h, if_pos h, h2, if_pos (by decide), if_pos (by omega)]
    rfl
  · rw [if_neg h, if_neg h]
    rfl
theorem first_rune (s : ByteArray) (h : s.size ≠ 0) : ((Lib.decodeGo s).1 : Int) = bt s 0 ∨ (128 ≤ (Lib.decodeGo s).1 ∧ 128 ≤ bt s 0) := by
  have hb : bt s 0 = ((s.data.toList.getD 0 0).toNat : Int) := bt_list s 0
  unfold Lib.decodeGo
  rw [if_neg h, hb]
  by_cases h7 : (s.data.toList.getD 0 0).toNat < 128
  · rw [dec_ascii h7]; exact .inl rfl
  · exact .inr ⟨dec_high (by omega), by omega⟩

end Go.Proofs.YtjichkjnodabiaaDoor.Pure
set_option linter.unusedVariables false
set_option linter.unusedSimpArgs false
namespace Go.Proofs.YtjichkjnodabiaaDoor.Pure
open Go Go.Own Go.RowKit Go.Proofs.YtjichkjnodabiaaDoor.P Go.Proofs.YtjichkjnodabiaaDoorW.PrintWords Go.Proofs.YtjichkjnodabiaaDoorW.PrintLast

theorem leO_up {α : Type} {f : Nat → Option α} (hm : ∀ k, LeO (f k) (f (k + 1))) {k k' : Nat} (h : k ≤ k') {r : α} (hr : f k = some r) : f k' = some r := by
  obtain ⟨d, rfl⟩ : ∃ d, k' = k + d := ⟨k' - k, by omega⟩
  clear h
  induction d with
  | zero => exact hr
  | succ d ih => exact hm _ _ ih
theorem bt_drop {s : ByteArray} {i : Nat} (h : i < s.size) : s.data.toList.drop i = (s[i]'h) :: s.data.toList.drop (i + 1) := by
  have h' : i < s.data.toList.length := by rw [Array.length_toList]; exact h
  rw [List.drop_eq_getElem_cons h']
  rfl
theorem among_all (s : ByteArray) (hs : s.size ≤ 9223372036854775806) (c : Int) : ∀ (k i : Nat), i ≤ s.size → s.size < k + i → spinneyref02_among.l0 k c s i = some ((s.data.toList.drop i).any fun b => decide (c = (b.toNat : Int)))
  | 0, i, h1, h2 => by omega
  | k + 1, i, h1, h2 => by
    unfold spinneyref02_among.l0
    by_cases hi : i < s.size
    · have hb := bt_at s i (by simpa using hi)
      have hr := bt_range s i
      rw [if_pos (by omega), if_pos (by omega), bt_drop hi]
      have hw : wrap32 (bt s i) = ((s[i]'hi).toNat : Int) := by
        rw [← hb] at hr ⊢
        simp only [Int.toNat_natCast] at hr ⊢
        unfold wrap32
        omega
      rw [hw, List.any_cons]
      by_cases hc : c = ((s[i]'hi).toNat : Int)
      · rw [if_pos hc]; simp [hc]
      · rw [if_neg hc]
        have hw2 : wrap64 ((i : Int) + 1) = ((i + 1 : Nat) : Int) := by unfold wrap64; omega
        rw [hw2, among_all s hs c k (i + 1) (by omega) (by omega)]
        simp [hc]
    · rw [if_neg (by omega)]
      have : i = s.size := by omega
      subst this
      rw [List.drop_eq_nil_of_le (by rw [Array.length_toList]; exact Nat.le_refl _)]
      rfl
theorem among_f (s : ByteArray) (hs : s.size ≤ 9223372036854775806) (c : Int) (k : Nat) (h : s.size < k) : spinneyref02_among.f k c s = some (s.data.toList.any fun b => decide (c = (b.toNat : Int))) := by
  unfold spinneyref02_among.f
  exact among_all s hs c k 0 (by omega) (by omega)
theorem ref_class_in : ∀ c : Fin 128, spinneyref02_Class.f 30 ((c.val : Nat) : Int) = some (classN ((c.val : Nat) : Int)) := by decide +kernel
theorem classN_out (c : Int) (h : c < 0 ∨ 127 < c) : classN c = 0 := by
  unfold classN classN.c0 classN.c1 classN.c2 classN.c3 classN.c4 classN.c5
  repeat rw [if_neg (by omega)]
theorem ref_class_out (c : Int) (h : c < 0 ∨ 127 < c) : spinneyref02_Class.f 30 c = some 0 := by
  have a1 : spinneyref02_among.f 27 c (⟨#[43, 45, 42, 47, 92, 94, 60, 62, 61, 126, 58, 46, 63, 64, 35, 38, 36]⟩ : ByteArray) = some false := by
    rw [among_f _ (by decide) c _ (by decide)]
    simp
    omega
  have a2 : spinneyref02_among.f 26 c (⟨#[33, 59, 44, 124]⟩ : ByteArray) = some false := by
    rw [among_f _ (by decide) c _ (by decide)]
    simp
    omega
  have a3 : spinneyref02_among.f 26 c (⟨#[40, 41, 91, 93, 123, 125]⟩ : ByteArray) = some false := by
    rw [among_f _ (by decide) c _ (by decide)]
    simp
    omega
  have e0 : (decide (c ≤ 122) = true) → c < 0 := by simp; omega
  have x1 : ¬ c = 9 := by omega
  have x2 : ¬ c = 10 := by omega
  have x3 : ¬ c = 13 := by omega
  have x4 : (c == 32) = false := by simp; omega
  have x5 : ¬ c = 39 := by omega
  have x6 : (c == 95) = false := by simp; omega
  have j3 : spinneyref02_Class.j3 27 c false = some 0 := by
    unfold spinneyref02_Class.j3
    simp [a2, a3, x5]
  have j2 : spinneyref02_Class.j2 28 c false = some 0 := by
    unfold spinneyref02_Class.j2
    simp only [a1, Option.bind_some, x1, x2, x3, x4, j3, if_false, Bool.false_eq_true]
  have j1 : spinneyref02_Class.j1 29 c false = some 0 := by
    unfold spinneyref02_Class.j1
    rcases h with h | h
    · have : ¬ c ≥ 48 := by omega
      simp [this, j2]
    · have h1 : c ≥ 48 := by omega
      have h2 : decide (c ≤ 57) = false := by simp; omega
      simp only [h1, if_true, h2, j2, Bool.false_eq_true, if_false]
  have j0 : spinneyref02_Class.j0 30 c false = some 0 := by
    unfold spinneyref02_Class.j0
    rcases h with h | h
    · have : ¬ c ≥ 65 := by omega
      simp only [this, x6, j1, Bool.false_eq_true, if_false]
    · have h1 : c ≥ 65 := by omega
      have h2 : ¬ c ≤ 90 := by omega
      simp only [h1, if_true, h2, x6, j1, Bool.false_eq_true, if_false]
  unfold spinneyref02_Class.f
  rcases h with h | h
  · have : ¬ c ≥ 97 := by omega
    rw [if_neg this, j0]
  · have h1 : c ≥ 97 := by omega
    have h2 : decide (c ≤ 122) = false := by simp; omega
    rw [if_pos h1, h2, j0]
theorem ref_class (c : Int) (k : Nat) (hk : 30 ≤ k) : spinneyref02_Class.f k c = some (classN c) := by
  refine leO_up (f := fun k => spinneyref02_Class.f k c) (fun k => spinneyref02_Class.mono _ k) hk ?_
  by_cases h : 0 ≤ c ∧ c ≤ 127
  · have := ref_class_in ⟨c.toNat, by omega⟩
    have e : ((c.toNat : Nat) : Int) = c := by omega
    simp only [e] at this
    exact this
  · show spinneyref02_Class.f 30 c = _
    rw [ref_class_out c (by omega), classN_out c (by omega)]

end Go.Proofs.YtjichkjnodabiaaDoor.Pure
set_option linter.unusedVariables false
set_option linter.unusedSimpArgs false
namespace Go.Proofs.YtjichkjnodabiaaDoor.Pure
open Go Go.Own Go.RowKit Go.Proofs.YtjichkjnodabiaaDoor.P Go.Proofs.YtjichkjnodabiaaDoorW.PrintWords Go.Proofs.YtjichkjnodabiaaDoorW.PrintLast

/-- the class of the first byte of what is left -/
def cb : List UInt8 → Int
  | [] => 0
  | b :: _ => classN (b.toNat : Int)
theorem cb_drop (l : List UInt8) (P : Nat) (h : P < l.length) : cb (l.drop P) = classN ((l.getD P 0).toNat : Int) := by
  rw [List.drop_eq_getElem_cons h]
  simp only [cb]
  rw [List.getD_eq_getElem?_getD, List.getElem?_eq_getElem h]
  rfl
theorem size_list (s : ByteArray) : s.size = s.data.toList.length := Lib.size_eq s
theorem u8_lt (b : UInt8) : b.toNat < 256 := b.toNat_lt
theorem rclass (src : ByteArray) (P : Nat) (k : Nat) (hk : 30 ≤ k) : spinneyref05_class.f k src P = some (cb (src.data.toList.drop P)) := by
  unfold spinneyref05_class.f
  by_cases h : P < src.size
  · have hl : P < src.data.toList.length := by rw [← size_list]; exact h
    rw [if_neg (by omega), if_pos (by omega), if_pos (by omega), bt_list, cb_drop _ _ hl]
    have hb := u8_lt (src.data.toList.getD P 0)
    by_cases h7 : 127 < (src.data.toList.getD P 0).toNat
    · rw [if_pos (by omega), class_high _ (by omega)]
    · have hw : wrap32 (((src.data.toList.getD P 0).toNat : Nat) : Int) = ((src.data.toList.getD P 0).toNat : Int) := by
        unfold wrap32; omega
      rw [if_neg (by omega), hw, ref_class _ _ hk]
      rfl
  · have hl : src.data.toList.length ≤ P := by rw [← size_list]; omega
    rw [if_pos (by omega), List.drop_eq_nil_of_le hl]
    rfl
theorem wr1 (P n : Nat) (h : P + n ≤ 1000000) : wrap64 ((P : Int) + (n : Int)) = ((P + n : Nat) : Int) := by unfold wrap64; omega
theorem rd_nat (cs : List Int) (j : Nat) (h : j < cs.length) : rd cs (j : Int) = cs[j]'h := by
  unfold rd
  simp [List.getD_eq_getElem?_getD, h]
/-- the inner loop: is the class among some -/
theorem run_in (src : ByteArray) (P : Nat) (cs : List Int) (hc : cs.length ≤ 100) (k : Nat) (hk : 30 ≤ k) : ∀ (d j : Nat) (b : Bool), j + d = cs.length →
    spinneyref05_run.l1 (k + d + 1) src P cs b cs (cs.length : Int) j = if (b || (cs.drop j).any fun c => cb (src.data.toList.drop P) == c) = true then spinneyref05_run.l0 k src (wrap64 ((P : Int) + 1)) cs else some (P : Int)
  | 0, j, b, h => by
    rw [spinneyref05_run.l1]
    rw [if_neg (by omega), List.drop_eq_nil_of_le (by omega)]
    simp
  | d + 1, j, b, h => by
    have ih := run_in src P cs hc k hk d (j + 1)
    rw [show k + (d + 1) + 1 = (k + d + 1) + 1 by omega]
    rw [spinneyref05_run.l1]
    have hj : j < cs.length := by omega
    rw [if_pos (by omega), if_pos (by omega), if_pos (by omega)]
    have hw : wrap64 ((j : Int) + 1) = ((j + 1 : Nat) : Int) := wr1 j 1 (by omega)
    rw [hw, List.drop_eq_getElem_cons hj]
    cases b with
    | true =>
      rw [if_pos rfl, ih true (by omega)]
      simp
    | false =>
      rw [if_neg (by simp), rclass src P _ (by omega)]
      simp only [Option.bind_some]
      rw [ih _ (by omega), rd_nat cs j hj]
      simp only [List.any_cons, Bool.false_or]
def inCls (cs : List Int) (b : UInt8) : Bool := cs.any fun c => classN (b.toNat : Int) == c
theorem run_all (src : ByteArray) (hs : src.size ≤ 100000) (cs : List Int) (hc : cs.length ≤ 100) : ∀ (d P k : Nat), P + d = src.size → 30 + d * (cs.length + 2) < k →
    spinneyref05_run.l0 k src P cs = some ((P + ((src.data.toList.drop P).takeWhile (inCls cs)).length : Nat) : Int)
  | 0, P, k, h, hk => by
    obtain ⟨k, rfl⟩ : ∃ m, k = m + 1 := ⟨k - 1, by omega⟩
    rw [spinneyref05_run.l0]
    rw [if_neg (by omega), List.drop_eq_nil_of_le (by rw [← size_list]; omega)]
    simp
  | d + 1, P, k, h, hk => by
    have e1 : (d + 1) * (cs.length + 2) = d * (cs.length + 2) + cs.length + 2 := by rw [Nat.add_mul]; omega
    obtain ⟨m, rfl⟩ : ∃ m, k = (m + cs.length + 1) + 1 := ⟨k - cs.length - 2, by omega⟩
    have hP : P < src.data.toList.length := by rw [← size_list]; omega
    rw [spinneyref05_run.l0]
    rw [if_pos (by omega)]
    have hi := run_in src P cs hc m (by omega) cs.length 0 false (by omega)
    simp only [Int.ofNat_zero] at hi
    have w1 : wrap64 ((P : Int) + 1) = ((P + 1 : Nat) : Int) := wr1 P 1 (by omega)
    rw [hi, w1, run_all src hs cs hc d (P + 1) m (by omega) (by omega)]
    simp only [List.drop_zero, Bool.false_or]
    rw [List.drop_eq_getElem_cons hP]
    by_cases hq : inCls cs src.data.toList[P] = true
    · have hq' : (cs.any fun c => cb (src.data.toList[P] :: src.data.toList.drop (P + 1)) == c) = true := hq
      rw [if_pos hq', List.takeWhile_cons, if_pos hq, List.length_cons]
      congr 2; omega
    · have hq' : ¬ (cs.any fun c => cb (src.data.toList[P] :: src.data.toList.drop (P + 1)) == c) = true := hq
      rw [if_neg hq', List.takeWhile_cons, if_neg hq]
      simp
theorem runR (src : ByteArray) (hs : src.size ≤ 5000) (cs : List Int) (hc : cs.length ≤ 3) (P : Nat) (hP : P ≤ src.size) (k : Nat) (hk : 30000 ≤ k) :
    spinneyref05_run.f k src P cs = some ((P + ((src.data.toList.drop P).takeWhile (inCls cs)).length : Nat) : Int) := by
  unfold spinneyref05_run.f
  refine run_all src (by omega) cs (by omega) (src.size - P) P k (by omega) ?_
  have : (src.size - P) * (cs.length + 2) ≤ 5000 * 5 := Nat.mul_le_mul (by omega) (by omega)
  omega
theorem sfx_list (src : ByteArray) (P : Nat) : (sfx src P).data.toList = src.data.toList.drop P := suf_list src P
theorem in_word (b : UInt8) : inCls [1, 2, 3] b = token_Cut.qword (classN (b.toNat : Int)) := by
  unfold inCls token_Cut.qword
  obtain ⟨c, hc⟩ : ∃ c, classN (b.toNat : Int) = c := ⟨_, rfl⟩
  rw [hc]
  simp only [List.any_cons, List.any_nil, Bool.or_false]
  rw [Bool.eq_iff_iff]
  simp
  omega
theorem in_sign (b : UInt8) : inCls [4] b = token_Cut.qsign (classN (b.toNat : Int)) := by simp [inCls, token_Cut.qsign]
theorem in_digit (b : UInt8) : inCls [3] b = token_Cut.qdigit (classN (b.toNat : Int)) := by simp [inCls, token_Cut.qdigit]
/-- a run of the reference is one of the program -/
theorem run_wh (src : ByteArray) (hs : src.size ≤ 5000) (cs : List Int) (hc : cs.length ≤ 3) (q : Int → Bool) (hq : q 0 = false) (hcs : ∀ b, inCls cs b = q (classN (b.toNat : Int))) (P : Nat) (hP : P ≤ src.size) (k : Nat) (hk : 30000 ≤ k) :
    spinneyref05_run.f k src P cs = some ((P + token_Cut.wh q (sfx src P) : Nat) : Int) := by
  rw [runR src hs cs hc P hP k hk, wh_list q hq, sfx_list]
  have : inCls cs = fun b => q (classN (b.toNat : Int)) := funext hcs
  rw [this]

end Go.Proofs.YtjichkjnodabiaaDoor.Pure
set_option linter.unusedVariables false
set_option linter.unusedSimpArgs false
namespace Go.Proofs.YtjichkjnodabiaaDoor.Pure
open Go Go.Own Go.RowKit Go.Proofs.YtjichkjnodabiaaDoor.P Go.Proofs.YtjichkjnodabiaaDoorW.PrintWords Go.Proofs.YtjichkjnodabiaaDoorW.PrintLast

def lineR (src : ByteArray) (P d k : Nat) (o : Int) : Option (Int × Bool) := if o < 0 then spinneyref05_skip.l0 k src src.size else spinneyref05_skip.l0 (k + d - o.toNat) src ((P + o.toNat : Nat) : Int)
def remR (src : ByteArray) (P : Int) (e d k : Nat) (o : Int) : Option (Int × Bool) := if o < 0 then some (P, false) else spinneyref05_skip.l0 (k + d - o.toNat) src ((e + o.toNat + 2 : Nat) : Int)
theorem getD_at (l : List UInt8) (P : Nat) (h : P < l.length) : l.getD P 0 = l[P] := by
  rw [List.getD_eq_getElem?_getD, List.getElem?_eq_getElem h]; rfl
theorem lineR_next (src : ByteArray) (P d k : Nat) (o : Int) (h : -1 ≤ o) : lineR src (P + 1) d k o = lineR src P (d + 1) k (if o == -1 then -1 else o + 1) := by
  by_cases hm : o = -1
  · subst hm; rfl
  · have hm2 : ¬ (o == -1) = true := by simpa using hm
    rw [if_neg hm2]
    unfold lineR
    rw [if_neg (show ¬ o < 0 by omega), if_neg (show ¬ o + 1 < 0 by omega)]
    congr 1
    · omega
    · omega
theorem remR_next (src : ByteArray) (P : Int) (e d k : Nat) (o : Int) (h : -1 ≤ o) : remR src P (e + 1) d k o = remR src P e (d + 1) k (if o == -1 then -1 else o + 1) := by
  by_cases hm : o = -1
  · subst hm; rfl
  · have hm2 : ¬ (o == -1) = true := by simpa using hm
    rw [if_neg hm2]
    unfold remR
    rw [if_neg (show ¬ o < 0 by omega), if_neg (show ¬ o + 1 < 0 by omega)]
    congr 1
    · omega
    · omega
/-- a remark to the line's end -/
theorem skip_line (src : ByteArray) (hs : src.size ≤ 100000) : ∀ (d P k : Nat), P + d = src.size →
    spinneyref05_skip.l1 (k + d + 1) src P = lineR src P d k (Lib.indexByte (src.data.toList.drop P) 10)
  | 0, P, k, h => by
    rw [spinneyref05_skip.l1, if_neg (by omega), List.drop_eq_nil_of_le (by rw [← size_list]; omega), show (P : Int) = (src.size : Int) by omega]
    rfl
  | d + 1, P, k, h => by
    have hP : P < src.data.toList.length := by rw [← size_list]; omega
    have ih := skip_line src hs d (P + 1) k (by omega)
    rw [show k + (d + 1) + 1 = (k + d + 1) + 1 by omega, spinneyref05_skip.l1, if_pos (by omega), if_pos (by omega), bt_list, List.drop_eq_getElem_cons hP, getD_at _ _ hP, Lib.indexByte]
    by_cases h10 : src.data.toList[P] = 10
    · have h1 : (((src.data.toList[P]).toNat : Nat) : Int) = 10 := by rw [h10]; rfl
      have : (src.data.toList[P] == 10) = true := by rw [h10]; rfl
      rw [if_pos h1, if_pos this]
      rfl
    · have hne : ¬ (((src.data.toList[P]).toNat : Nat) : Int) = 10 := fun e => h10 (UInt8.toNat_inj.1 (by show _ = 10; omega))
      have : ¬ (src.data.toList[P] == 10) = true := by simpa using h10
      have w1 : wrap64 ((P : Int) + 1) = ((P + 1 : Nat) : Int) := wr1 P 1 (by omega)
      rw [if_neg hne, if_neg this, w1, ih]
      exact lineR_next src P d k _ (Lib.indexByte_ge _ 10)
/-- the end of a remark -/
theorem skip_rem (src : ByteArray) (hs : src.size ≤ 100000) (P : Int) : ∀ (d e k : Nat), e + d = src.size →
    spinneyref05_skip.l2 (k + d + 1) src P e = remR src P e d k (Lib.index (src.data.toList.drop e) [42, 47])
  | 0, e, k, h => by
    have w1 : wrap64 ((e : Int) + 1) = ((e + 1 : Nat) : Int) := wr1 e 1 (by omega)
    rw [spinneyref05_skip.l2, w1, if_neg (by omega), if_pos (by omega), List.drop_eq_nil_of_le (by rw [← size_list]; omega)]
    rfl
  | d + 1, e, k, h => by
    have he : e < src.data.toList.length := by rw [← size_list]; omega
    have ih := skip_rem src hs P d (e + 1) k (by omega)
    have w1 : wrap64 ((e : Int) + 1) = ((e + 1 : Nat) : Int) := wr1 e 1 (by omega)
    rw [show k + (d + 1) + 1 = (k + d + 1) + 1 by omega, spinneyref05_skip.l2, w1]
    by_cases hlast : e + 1 < src.size
    · have he1 : e + 1 < src.data.toList.length := by rw [← size_list]; omega
      have miss : List.isPrefixOf [42, 47] (src.data.toList.drop e) = false → spinneyref05_skip.l2 (k + d + 1) src P ((e + 1 : Nat) : Int) = remR src P e (d + 1) k (Lib.index (src.data.toList.drop e) [42, 47]) := by
        intro hm
        rw [ih]
        rw [List.drop_eq_getElem_cons he] at hm
        rw [List.drop_eq_getElem_cons he, Lib.index, if_neg (by rw [hm]; decide)]
        exact remR_next src P e d k _ (Lib.index_ge _ _)
      rw [if_pos (by omega), if_pos (by omega), if_pos (by omega), bt_list, getD_at _ _ he]
      by_cases h42 : src.data.toList[e] = 42
      · have h1 : (((src.data.toList[e]).toNat : Nat) : Int) = 42 := by rw [h42]; rfl
        rw [if_pos h1, if_pos (by omega), bt_list, getD_at _ _ he1]
        by_cases h47 : src.data.toList[e + 1] = 47
        · have h2 : (((src.data.toList[e + 1]).toNat : Nat) : Int) = 47 := by rw [h47]; rfl
          have hp : Lib.index (src.data.toList.drop e) [42, 47] = 0 := by
            rw [List.drop_eq_getElem_cons he, List.drop_eq_getElem_cons he1, h42, h47, Lib.index]
            rfl
          have w2 : wrap64 ((e : Int) + 2) = ((e + 2 : Nat) : Int) := wr1 e 2 (by omega)
          rw [if_pos h2, if_neg (by omega), hp, w2]
          rfl
        · have hne : ¬ (((src.data.toList[e + 1]).toNat : Nat) : Int) = 47 := fun x => h47 (UInt8.toNat_inj.1 (by show _ = 47; omega))
          rw [if_neg hne]
          refine miss ?_
          rw [List.drop_eq_getElem_cons he, List.drop_eq_getElem_cons he1]
          simp only [List.isPrefixOf]
          have : ((47 : UInt8) == src.data.toList[e + 1]) = false := by simpa using fun x => h47 x.symm
          rw [this]; simp
      · have hne : ¬ (((src.data.toList[e]).toNat : Nat) : Int) = 42 := fun x => h42 (UInt8.toNat_inj.1 (by show _ = 42; omega))
        rw [if_neg hne]
        refine miss ?_
        rw [List.drop_eq_getElem_cons he]
        simp only [List.isPrefixOf]
        have : ((42 : UInt8) == src.data.toList[e]) = false := by simpa using fun x => h42 x.symm
        rw [this]; simp
    · have hx : Lib.index (src.data.toList.drop e) [42, 47] = -1 := by
        rw [List.drop_eq_getElem_cons he, List.drop_eq_nil_of_le (by rw [← size_list]; omega), Lib.index]
        simp [List.isPrefixOf, Lib.index]
      rw [if_neg (by omega), if_pos (by omega), hx]
      rfl

end Go.Proofs.YtjichkjnodabiaaDoor.Pure
set_option linter.unusedVariables false
set_option linter.unusedSimpArgs false
namespace Go.Proofs.YtjichkjnodabiaaDoor.Pure
open Go Go.Own Go.RowKit Go.Proofs.YtjichkjnodabiaaDoor.P Go.Proofs.YtjichkjnodabiaaDoorW.PrintWords Go.Proofs.YtjichkjnodabiaaDoorW.PrintLast

theorem sfx_len (src : ByteArray) (P : Nat) : (sfx src P).data.toList.length = src.size - P := by rw [← size_list, sfx_size]
theorem bt_sfx (src : ByteArray) (P : Nat) (i : Nat) : bt (sfx src P) (i : Int) = bt src ((P + i : Nat) : Int) := by
  rw [bt_list, bt_list, sfx_list]
  congr 2
  rw [List.getD_eq_getElem?_getD, List.getD_eq_getElem?_getD, List.getElem?_drop]
theorem bt_sfx0 (src : ByteArray) (P : Nat) : bt (sfx src P) 0 = bt src (P : Int) := bt_sfx src P 0
theorem cb_bt (src : ByteArray) (P : Nat) (h : P < src.size) : cb (src.data.toList.drop P) = classN (bt (sfx src P) 0) := by
  rw [cb_drop _ _ (by rw [← size_list]; exact h), bt_sfx0, bt_list]
theorem take2 (src : ByteArray) (P : Nat) (c d : UInt8) (h : P < src.size) : ((sfx src P).data.toList.take 2 == [c, d]) = (decide (bt src (P : Int) = (c.toNat : Int)) && (decide (P + 1 < src.size) && decide (bt src ((P + 1 : Nat) : Int) = (d.toNat : Int)))) := by
  have hP : P < src.data.toList.length := by rw [← size_list]; exact h
  rw [sfx_list, bt_list, bt_list, List.drop_eq_getElem_cons hP, getD_at _ _ hP]
  have inj : ∀ a b : UInt8, ((a.toNat : Int) = (b.toNat : Int)) ↔ a = b := fun a b => ⟨fun e => UInt8.toNat_inj.1 (by omega), fun e => by rw [e]⟩
  by_cases h1 : P + 1 < src.size
  · have hP1 : P + 1 < src.data.toList.length := by rw [← size_list]; exact h1
    rw [List.drop_eq_getElem_cons hP1, getD_at _ _ hP1]
    rw [Bool.eq_iff_iff]
    simp [inj, h1]
  · rw [List.drop_eq_nil_of_le (by rw [← size_list]; omega)]
    rw [Bool.eq_iff_iff]
    simp [h1]
theorem skip_step (src : ByteArray) (hs : src.size ≤ 100000) (P K : Nat) (h : P < src.size) (hK : 40 + 3 * (src.size - P) ≤ K) :
    (token_Cut.blank (sfx src P) = none ∧ spinneyref05_skip.l0 K src P = some ((P : Int), true)) ∨ (token_Cut.blank (sfx src P) = some none ∧ spinneyref05_skip.l0 K src P = some ((P : Int), false)) ∨
    (∃ n F, token_Cut.blank (sfx src P) = some (some n) ∧ 1 ≤ n ∧ n ≤ src.size - P ∧ spinneyref05_skip.l0 K src P = spinneyref05_skip.l0 F src ((P + n : Nat) : Int) ∧ 40 + 3 * (src.size - (P + n)) ≤ F) := by
  have hsz : (sfx src P).size ≠ 0 := by rw [sfx_size]; omega
  have hrange := fun n => blank_range (n := n) hsz
  obtain ⟨m, rfl⟩ : ∃ m, K = m + 1 := ⟨K - 1, by omega⟩
  have w1 : wrap64 ((P : Int) + 1) = ((P + 1 : Nat) : Int) := wr1 P 1 (by omega)
  rw [spinneyref05_skip.l0, if_pos (by omega), rclass src P m (by omega)]
  simp only [Option.bind_some]
  rw [cb_bt src P h]
  by_cases c5 : classN (bt (sfx src P) 0) = 5
  · refine .inr (.inr ⟨1, m, ?_, by omega, by omega, ?_, by omega⟩)
    · unfold token_Cut.blank; rw [if_pos c5]
    · rw [if_pos c5, w1]
  · rw [if_neg c5, if_pos (by omega), ← bt_sfx0]
    by_cases c37 : bt (sfx src P) 0 = 37
    · rw [if_pos c37]
      obtain ⟨d, hd⟩ : ∃ d, P + d = src.size := ⟨src.size - P, by omega⟩
      obtain ⟨k, rfl⟩ : ∃ k, m = k + d + 1 := ⟨m - d - 1, by omega⟩
      rw [skip_line src hs d P k hd]
      obtain ⟨o, ho⟩ : ∃ o, Lib.indexByte (src.data.toList.drop P) 10 = o := ⟨_, rfl⟩
      obtain ⟨nn, hnn⟩ : ∃ nn : Nat, (if o < 0 then (sfx src P).size else o.toNat) = nn := ⟨_, rfl⟩
      have hb : token_Cut.blank (sfx src P) = some (some nn) := by
        unfold token_Cut.blank; rw [if_neg c5, if_pos c37, sfx_list, ho, hnn]
      obtain ⟨r1, r2⟩ := hrange _ hb
      rw [sfx_size] at r2 hnn
      rw [ho]
      refine .inr (.inr ⟨nn, k + d - nn, hb, r1, r2, ?_, by omega⟩)
      unfold lineR
      by_cases hm : o < 0
      · rw [if_pos hm] at hnn ⊢
        rw [show src.size = P + nn by omega, show k + d - nn = k by omega]
      · rw [if_neg hm] at hnn ⊢
        rw [hnn]
    · rw [if_neg c37]
      have hpre := pre2 (sfx src P) 47 42
      rw [take2 src P 47 42 h, ← bt_sfx0] at hpre
      have ok47 : ((47 : UInt8).toNat : Int) = 47 := rfl
      have ok42 : ((42 : UInt8).toNat : Int) = 42 := rfl
      rw [ok47, ok42] at hpre
      have stop : strings_HasPrefix.f (sfx src P) (⟨#[47, 42]⟩ : ByteArray) = some false → token_Cut.blank (sfx src P) = none := by
        intro e
        unfold token_Cut.blank
        rw [if_neg c5, if_neg c37, e, if_neg (by decide)]
      obtain ⟨m2, rfl⟩ : ∃ m2, m = m2 + 1 := ⟨m - 1, by omega⟩
      have jf : spinneyref05_skip.j2 (m2 + 1) src P false = some ((P : Int), true) := by
        rw [spinneyref05_skip.j2, if_neg (by decide)]
      by_cases c47 : bt (sfx src P) 0 = 47
      · rw [if_pos c47, w1]
        rw [decide_eq_true c47, Bool.true_and] at hpre
        by_cases h1 : P + 1 < src.size
        · rw [if_pos (by omega), if_pos (by omega)]
          rw [decide_eq_true h1, Bool.true_and] at hpre
          by_cases c42 : bt src ((P + 1 : Nat) : Int) = 42
          · have e42 : (bt src ((P + 1 : Nat) : Int) == 42) = true := by rw [c42]; rfl
            rw [decide_eq_true c42] at hpre
            have w2 : wrap64 ((P : Int) + 2) = ((P + 2 : Nat) : Int) := wr1 P 2 (by omega)
            rw [e42, spinneyref05_skip.j2, if_pos rfl, w2]
            obtain ⟨d, hd⟩ : ∃ d, P + 2 + d = src.size := ⟨src.size - P - 2, by omega⟩
            obtain ⟨k, rfl⟩ : ∃ k, m2 = k + d + 1 := ⟨m2 - d - 1, by omega⟩
            rw [skip_rem src hs P d (P + 2) k hd]
            have hx : ((sfx src P).extract 2 (sfx src P).size).data.toList = src.data.toList.drop (P + 2) := by
              rw [sfx_sfx, sfx_list]
            obtain ⟨o, ho⟩ : ∃ o, Lib.index (src.data.toList.drop (P + 2)) [42, 47] = o := ⟨_, rfl⟩
            have hb : token_Cut.blank (sfx src P) = if o < 0 then some none else some (some (o.toNat + 4)) := by
              unfold token_Cut.blank
              rw [if_neg c5, if_neg c37, hpre, if_pos rfl, hx, ho]
            rw [ho]
            unfold remR
            by_cases hm : o < 0
            · rw [if_pos hm] at hb ⊢
              exact .inr (.inl ⟨hb, rfl⟩)
            · rw [if_neg hm] at hb ⊢
              obtain ⟨r1, r2⟩ := hrange _ hb
              rw [sfx_size] at r2
              refine .inr (.inr ⟨_, k + d - o.toNat, hb, r1, r2, ?_, by omega⟩)
              rw [show P + 2 + o.toNat + 2 = P + (o.toNat + 4) by omega]
          · have e42 : (bt src ((P + 1 : Nat) : Int) == 42) = false := by simpa using c42
            rw [decide_eq_false c42] at hpre
            rw [e42, jf]
            exact .inl ⟨stop hpre, rfl⟩
        · rw [if_neg (by omega), jf]
          rw [decide_eq_false h1, Bool.false_and] at hpre
          exact .inl ⟨stop hpre, rfl⟩
      · rw [if_neg c47, jf]
        rw [decide_eq_false c47, Bool.false_and] at hpre
        exact .inl ⟨stop hpre, rfl⟩
theorem skip_bl (src : ByteArray) (hs : src.size ≤ 100000) : ∀ (n P : Nat) (gl : Bool) (K : Nat), P ≤ src.size → src.size - P ≤ n → 40 + 3 * (src.size - P) ≤ K →
    ∃ (Q : Nat) (ok : Bool), token_Cut.bl n (sfx src P) P gl = (ok, sfx src Q, (Q : Int), if Q = P then gl else false) ∧ P ≤ Q ∧ Q ≤ src.size ∧ spinneyref05_skip.l0 K src P = some ((Q : Int), ok)
  | 0, P, gl, K, h, hn, hK => by
    obtain ⟨m, rfl⟩ : ∃ m, K = m + 1 := ⟨K - 1, by omega⟩
    refine ⟨P, true, ?_, Nat.le_refl _, h, ?_⟩
    · rw [if_pos rfl]; rfl
    · rw [spinneyref05_skip.l0, if_neg (by omega)]
  | n + 1, P, gl, K, h, hn, hK => by
    by_cases hP : P < src.size
    · have hsz : ¬ (sfx src P).size = 0 := by rw [sfx_size]; omega
      have hu : token_Cut.bl (n + 1) (sfx src P) P gl = match token_Cut.blank (sfx src P) with
        | none => (true, sfx src P, (P : Int), gl)
        | some none => (false, sfx src P, (P : Int), gl)
        | some (some n') => token_Cut.bl n ((sfx src P).extract n' (sfx src P).size) ((P : Int) + n') false := by
        rw [token_Cut.bl, if_neg hsz]; rfl
      rcases skip_step src hs P K hP hK with ⟨hb, hl⟩ | ⟨hb, hl⟩ | ⟨n', F, hb, h1, h2, hl, hF⟩
      · rw [hb] at hu
        exact ⟨P, true, by rw [hu, if_pos rfl], Nat.le_refl _, h, hl⟩
      · rw [hb] at hu
        exact ⟨P, false, by rw [hu, if_pos rfl], Nat.le_refl _, h, hl⟩
      · rw [hb] at hu
        dsimp only at hu
        obtain ⟨Q, ok, e, q1, q2, q3⟩ := skip_bl src hs n (P + n') false F (by omega) (by omega) hF
        refine ⟨Q, ok, ?_, by omega, q2, by rw [hl]; exact q3⟩
        rw [hu, sfx_sfx, show (P : Int) + (n' : Int) = ((P + n' : Nat) : Int) by omega, e, if_neg (show ¬ Q = P by omega)]
        split <;> rfl
    · obtain ⟨m, rfl⟩ : ∃ m, K = m + 1 := ⟨K - 1, by omega⟩
      have hsz : (sfx src P).size = 0 := by rw [sfx_size]; omega
      refine ⟨P, true, ?_, Nat.le_refl _, h, ?_⟩
      · rw [token_Cut.bl, if_pos hsz, if_pos rfl]
      · rw [spinneyref05_skip.l0, if_neg (by omega)]

end Go.Proofs.YtjichkjnodabiaaDoor.Pure
set_option linter.unusedVariables false
set_option linter.unusedSimpArgs false
namespace Go.Proofs.YtjichkjnodabiaaDoor.Pure
open Go Go.Own Go.RowKit Go.Proofs.YtjichkjnodabiaaDoor.P Go.Proofs.YtjichkjnodabiaaDoorW.PrintWords Go.Proofs.YtjichkjnodabiaaDoorW.PrintLast

namespace TN
/-- the number that digits tell, behind another one -/
def val (l : List UInt8) (n : Nat) : Nat := l.foldl (fun n c => 10 * n + (c.toNat - 48)) n
def digits (l : List UInt8) : Bool := l.all fun c => decide (48 ≤ c.toNat) && decide (c.toNat ≤ 57)
theorem val_ge (l : List UInt8) : ∀ n, n ≤ val l n := by
  induction l with
  | nil => intro n; exact Nat.le_refl _
  | cons c l ih => intro n; have := ih (10 * n + (c.toNat - 48)); unfold val at *; simp only [List.foldl_cons]; omega
theorem scan_far (l : List UInt8) : ∀ n, digits l = true → ∃ m, scan l n true = some (m, true) := by
  induction l with
  | nil => intro n _; exact ⟨n, rfl⟩
  | cons c l ih =>
    intro n h
    simp only [digits, List.all_cons, Bool.and_eq_true, decide_eq_true_eq] at h
    unfold scan
    rw [if_neg (by omega), if_neg (by omega)]
    exact ih _ h.2
theorem scan_no (l : List UInt8) : ∀ n far, digits l = false → scan l n far = none := by
  induction l with
  | nil => intro n far h; simp [digits] at h
  | cons c l ih =>
    intro n far h
    unfold scan
    split
    · rfl
    · split
      · rfl
      · apply ih
        simp only [digits, List.all_cons] at h ⊢
        have e : (decide (48 ≤ c.toNat) && decide (c.toNat ≤ 57)) = true := by simp; omega
        rw [e] at h
        simpa using h
theorem scan_val (l : List UInt8) : ∀ n : Nat, n ≤ 9223372036854775808 → digits l = true →
    (val l n ≤ 9223372036854775808 → scan l n false = some (((val l n : Nat) : Int), false)) ∧ (9223372036854775808 < val l n → ∃ m, scan l n false = some (m, true)) := by
  induction l with
  | nil => intro n hn _; exact ⟨fun _ => rfl, fun h => by unfold val at h; simp at h; omega⟩
  | cons c l ih =>
    intro n hn h
    simp only [digits, List.all_cons, Bool.and_eq_true, decide_eq_true_eq] at h
    have hv : val (c :: l) n = val l (10 * n + (c.toNat - 48)) := rfl
    have hc : ((c.toNat : Int) - 48) = ((c.toNat - 48 : Nat) : Int) := by omega
    have hscan : scan (c :: l) n false = scan l ((10 * (n : Int) + ((c.toNat : Int) - 48)) % 18446744073709551616) (false || decide ((n : Int) > (9223372036854775808 - ((c.toNat : Int) - 48)) / 10)) := by
      rw [scan, if_neg (by omega), if_neg (by omega)]
    rw [hv, hscan]
    by_cases hf : 10 * n + (c.toNat - 48) ≤ 9223372036854775808
    · have e1 : (10 * (n : Int) + ((c.toNat : Int) - 48)) % 18446744073709551616 = ((10 * n + (c.toNat - 48) : Nat) : Int) := by omega
      have e2 : (false || decide ((n : Int) > (9223372036854775808 - ((c.toNat : Int) - 48)) / 10)) = false := by simp; omega
      rw [e1, e2]
      exact ih _ hf h.2
    · have e2 : (false || decide ((n : Int) > (9223372036854775808 - ((c.toNat : Int) - 48)) / 10)) = true := by simp; omega
      rw [e2]
      have := val_ge l (10 * n + (c.toNat - 48))
      exact ⟨fun h => by omega, fun _ => scan_far l _ h.2⟩

def In64 (n : Int) : Prop := -9223372036854775808 ≤ n ∧ n ≤ 9223372036854775807
instance (n : Int) : Decidable (In64 n) := by unfold In64; infer_instance
/-- a result within 64 bits, or the error -/
def fit (n : Int) : Int × Int := if In64 n then (n, 0) else (0, 10)
theorem fit_in {n : Int} (h : In64 n) : fit n = (n, 0) := if_pos h
theorem fit_out {n : Int} (h : ¬ In64 n) : fit n = (0, 10) := if_neg h
theorem wrap64_id {n : Int} (h : In64 n) : wrap64 n = n := by
  unfold In64 at h
  unfold wrap64
  omega
theorem wrap64_in (n : Int) : In64 (wrap64 n) := by
  unfold In64 wrap64
  omega
theorem refsub_fit {a b : Int} (ha : In64 a) (hb : In64 b) : spinneyref01_Sub.f a b = some (fit (a - b)) := by
  unfold spinneyref01_Sub.f
  have h : wrap64 (a - b) = a - b ∨ ¬ In64 (a - b) := by
    by_cases h : In64 (a - b)
    · exact .inl (wrap64_id h)
    · exact .inr h
  have w1 : b < 0 → wrap64 (9223372036854775807 + b) = 9223372036854775807 + b := fun h => wrap64_id (by unfold In64 at *; omega)
  have w2 : b > 0 → wrap64 ((-9223372036854775808) + b) = (-9223372036854775808) + b := fun h => wrap64_id (by unfold In64 at *; omega)
  by_cases hi : In64 (a - b)
  · rw [fit_in hi, wrap64_id hi]
    unfold In64 at *
    repeat' split
    all_goals first | rfl | (exfalso; first | (have := w1 (by assumption); omega) | (have := w2 (by assumption); omega))
  · rw [fit_out hi]
    unfold In64 at *
    repeat' split
    all_goals first | rfl | (exfalso; first | omega | (have := w1 (by assumption); omega) | (have := w2 (by assumption); omega))
theorem refneg_fit {a : Int} (ha : In64 a) : spinneyref01_Neg.f a = some (fit (-a)) := by
  unfold spinneyref01_Neg.f
  rw [refsub_fit (by unfold In64; omega) ha]
  simp
theorem tdiv_wrap {a b : Int} (ha : In64 a) (hb : In64 b) (h0 : b ≠ 0) (h1 : ¬ (a = -9223372036854775808 ∧ b = -1)) :
    wrap64 ((wrap64 (a * b)).tdiv b) = a ↔ In64 (a * b) := by
  constructor
  · intro h
    by_cases hb1 : b = -1
    · subst hb1
      unfold In64 at *
      omega
    · have hin := wrap64_in (a * b)
      have habs : ((wrap64 (a * b)).tdiv b).natAbs = (wrap64 (a * b)).natAbs / b.natAbs := Int.natAbs_tdiv ..
      have hq : In64 ((wrap64 (a * b)).tdiv b) := by
        have hbn : b.natAbs = 1 ∨ 2 ≤ b.natAbs := by omega
        rcases hbn with hbn | hbn
        · have : b = 1 := by omega
          subst this
          rw [Int.tdiv_one]; exact hin
        · have : (wrap64 (a * b)).natAbs / b.natAbs ≤ (wrap64 (a * b)).natAbs / 2 := Nat.div_le_div_left hbn (by omega)
          unfold In64 at *
          omega
      rw [wrap64_id hq] at h
      have hd := Int.tmod_add_mul_tdiv (wrap64 (a * b)) b
      rw [h] at hd
      have hm : ((wrap64 (a * b)).tmod b).natAbs = (wrap64 (a * b)).natAbs % b.natAbs := Int.natAbs_tmod ..
      have hlt := Nat.mod_lt (wrap64 (a * b)).natAbs (show b.natAbs > 0 by omega)
      rw [Int.mul_comm b a] at hd
      have hk : ∃ k : Int, wrap64 (a * b) = a * b + k * 18446744073709551616 := ⟨-((a * b + 9223372036854775808) / 18446744073709551616), by unfold wrap64; omega⟩
      obtain ⟨k, hk⟩ := hk
      have : k = 0 := by unfold In64 at hb; omega
      subst this
      rw [hk] at hin
      simpa using hin
  · intro h
    rw [wrap64_id h, Int.mul_tdiv_cancel _ h0, wrap64_id ha]
theorem refmul_fit {a b : Int} (ha : In64 a) (hb : In64 b) (k : Nat) : spinneyref01_Mul.f (k + 2) a b = some (fit (a * b)) := by
  unfold spinneyref01_Mul.f
  by_cases h0 : a = 0
  · rw [if_pos h0]
    subst h0
    simp [spinneyref01_Mul.j0, fit_in (show In64 0 by unfold In64; omega)]
  · rw [if_neg h0]
    by_cases h1 : b = 0
    · subst h1
      simp [spinneyref01_Mul.j0, fit_in (show In64 0 by unfold In64; omega)]
    · have e : (b == 0) = false := by simpa using h1
      rw [e]
      have j1f : ¬ (a = -9223372036854775808 ∧ b = -1) → spinneyref01_Mul.j1 (k + 1) a b false = some (fit (a * b)) := by
        intro hs
        simp only [spinneyref01_Mul.j1]
        rw [if_neg (by simp), if_neg h1]
        have := tdiv_wrap ha hb h1 hs
        by_cases hi : In64 (a * b)
        · rw [if_pos (this.mpr hi), fit_in hi, wrap64_id hi]
        · rw [if_neg (fun h => hi (this.mp h)), fit_out hi]
      have j1t : ¬ In64 (a * b) → spinneyref01_Mul.j1 (k + 1) a b true = some (fit (a * b)) := by
        intro hs
        simp [spinneyref01_Mul.j1, fit_out hs]
      simp only [spinneyref01_Mul.j0]
      rw [if_neg (by simp)]
      by_cases h2 : a = -1
      · rw [if_pos h2]
        subst h2
        by_cases h3 : b = -9223372036854775808
        · rw [if_pos h3]
          exact j1t (by subst h3; unfold In64; omega)
        · rw [if_neg h3]
          have e2 : ((-1 : Int) == -9223372036854775808) = false := by decide
          rw [e2]
          split <;> exact j1f (by omega)
      · rw [if_neg h2]
        by_cases h3 : b = -1
        · rw [if_pos h3]
          subst h3
          by_cases h4 : a = -9223372036854775808
          · have : (a == -9223372036854775808) = true := by simpa using h4
            rw [this]
            exact j1t (by subst h4; unfold In64; omega)
          · have : (a == -9223372036854775808) = false := by simpa using h4
            rw [this]
            exact j1f (by omega)
        · rw [if_neg h3]
          exact j1f (by omega)

theorem wrap_step {i : Int} {n : Nat} (h0 : 0 ≤ i) (h : i < (n : Int)) (hn : n ≤ 140737488351232) : wrap64 (i + 1) = i + 1 := by
  unfold wrap64
  omega
theorem bt_drop (s : ByteArray) (i : Nat) (h : i < s.size) : bt s (i : Int) = (s[i].toNat : Int) := by
  unfold bt
  simp [h]
/-- the reference's first loop: are all bytes digits -/
theorem ref_l0 (x0 x4 : ByteArray) (hs : x4.size ≤ 140737488351232) (d : Nat) : ∀ (k i : Nat), x4.size - i = d → d < k → i ≤ x4.size →
    spinneyref01_Read.l0 k x0 x4 i = if digits (x4.data.toList.drop i) = true then spinneyref01_Read.l1 (k - d - 1) x0 x4 0 0 else some (0, 20) := by
  induction d with
  | zero =>
    intro k i hd hk hi
    obtain ⟨k, rfl⟩ : ∃ j, k = j + 1 := ⟨k - 1, by omega⟩
    have : i = x4.size := by omega
    subst this
    simp only [spinneyref01_Read.l0]
    rw [if_neg (by omega)]
    have e : List.drop x4.size x4.data.toList = [] := List.drop_eq_nil_of_le (by rw [← size_len]; exact Nat.le_refl _)
    rw [e]
    simp [digits]
  | succ d ih =>
    intro k i hd hk hi
    obtain ⟨k, rfl⟩ : ∃ j, k = j + 1 := ⟨k - 1, by omega⟩
    have hlt : i < x4.size := by omega
    simp only [spinneyref01_Read.l0]
    rw [if_pos (by omega), if_pos (by omega), bt_drop x4 i hlt, scan_drop x4 i hlt]
    have hdg : digits (x4[i] :: List.drop (i + 1) x4.data.toList) = ((decide (48 ≤ x4[i].toNat) && decide (x4[i].toNat ≤ 57)) && digits (List.drop (i + 1) x4.data.toList)) := rfl
    rw [hdg]
    by_cases h1 : (x4[i].toNat : Int) < 48
    · rw [if_pos h1, if_neg]
      simp; omega
    · rw [if_neg h1]
      by_cases h2 : (x4[i].toNat : Int) > 57
      · rw [if_pos h2, if_neg]
        simp; omega
      · rw [if_neg h2]
        have e : wrap64 ((i : Int) + 1) = ((i + 1 : Nat) : Int) := by unfold wrap64; omega
        rw [e, ih k (i + 1) (by omega) (by omega) (by omega)]
        have e2 : (decide (48 ≤ x4[i].toNat) && decide (x4[i].toNat ≤ 57)) = true := by simp; omega
        rw [e2, Bool.true_and]
        have e3 : k + 1 - (d + 1) - 1 = k - d - 1 := by omega
        rw [e3]
theorem ref_l1 (x0 x4 : ByteArray) (hs : x4.size ≤ 140737488351232) (d : Nat) : ∀ (k i n : Nat), x4.size - i = d → d + 2 < k → i ≤ x4.size → n ≤ 9223372036854775808 → digits (x4.data.toList.drop i) = true →
    spinneyref01_Read.l1 k x0 x4 (-(n : Int)) i = if val (x4.data.toList.drop i) n ≤ 9223372036854775808 then (if x4.size < x0.size then some (-((val (x4.data.toList.drop i) n : Nat) : Int), 0) else some (fit (val (x4.data.toList.drop i) n : Nat))) else some (0, 10) := by
  induction d with
  | zero =>
    intro k i n hd hk hi hn _
    obtain ⟨k, rfl⟩ : ∃ j, k = j + 1 := ⟨k - 1, by omega⟩
    have : i = x4.size := by omega
    subst this
    simp only [spinneyref01_Read.l1]
    rw [if_neg (by omega)]
    have e : List.drop x4.size x4.data.toList = [] := List.drop_eq_nil_of_le (by rw [← size_len]; exact Nat.le_refl _)
    rw [e]
    have ev : val [] n = n := rfl
    rw [ev, if_pos hn]
    by_cases h : x4.size < x0.size
    · rw [if_pos (by omega), if_pos h]
    · rw [if_neg (by omega), if_neg h, refneg_fit (by unfold In64; omega), Int.neg_neg]
      rfl
  | succ d ih =>
    intro k i n hd hk hi hn hdg
    obtain ⟨k, rfl⟩ : ∃ j, k = j + 1 := ⟨k - 1, by omega⟩
    have hlt : i < x4.size := by omega
    have e : wrap64 ((i : Int) + 1) = ((i + 1 : Nat) : Int) := by unfold wrap64; omega
    have q1 : x4.size - (i + 1) = d := by omega
    have q2 : d + 2 < k := by omega
    have q3 : i + 1 ≤ x4.size := by omega
    have hmul : spinneyref01_Mul.f k (-(n : Int)) 10 = some (fit (-(n : Int) * 10)) := by
      have := refmul_fit (a := -(n : Int)) (b := 10) (by unfold In64; omega) (by unfold In64; omega) (k - 2)
      have hk2 : k - 2 + 2 = k := by omega
      rwa [hk2] at this
    rw [scan_drop x4 i hlt] at hdg ⊢
    have hdg2 : (decide (48 ≤ x4[i].toNat) && decide (x4[i].toNat ≤ 57)) = true ∧ digits (List.drop (i + 1) x4.data.toList) = true := by
      simpa only [digits, List.all_cons, Bool.and_eq_true] using hdg
    have hc : 48 ≤ x4[i].toNat ∧ x4[i].toNat ≤ 57 := by simpa using hdg2.1
    have hv : val (x4[i] :: List.drop (i + 1) x4.data.toList) n = val (List.drop (i + 1) x4.data.toList) (10 * n + (x4[i].toNat - 48)) := rfl
    have hge := val_ge (List.drop (i + 1) x4.data.toList) (10 * n + (x4[i].toNat - 48))
    rw [hv]
    simp only [spinneyref01_Read.l1]
    rw [if_pos (by omega), hmul]
    simp only [Option.bind_some]
    have e0 : -(n : Int) * 10 = -((10 * n : Nat) : Int) := by omega
    rw [e0]
    by_cases h10 : 10 * n ≤ 9223372036854775808
    · rw [fit_in (by unfold In64; omega)]
      simp only [if_true]
      rw [if_pos (by omega), bt_drop x4 i hlt]
      have e1 : ((x4[i].toNat : Int) - 48) % 256 = ((x4[i].toNat - 48 : Nat) : Int) := by omega
      rw [e1, refsub_fit (by unfold In64; omega) (by unfold In64; omega)]
      simp only [Option.bind_some]
      have e2 : -((10 * n : Nat) : Int) - ((x4[i].toNat - 48 : Nat) : Int) = -((10 * n + (x4[i].toNat - 48) : Nat) : Int) := by omega
      rw [e2]
      generalize 10 * n + (x4[i].toNat - 48) = m at hge ⊢
      by_cases hf : m ≤ 9223372036854775808
      · have hin : In64 (-(m : Int)) := by unfold In64; omega
        rw [fit_in hin]
        simp only [if_true]
        rw [e]
        exact ih k (i + 1) m q1 q2 q3 hf hdg2.2
      · have hne : ¬ ((10 : Int) = 0) := by decide
        have hno : ¬ In64 (-(m : Int)) := by unfold In64; omega
        have hbig : ¬ val (List.drop (i + 1) x4.data.toList) m ≤ 9223372036854775808 := by omega
        rw [fit_out hno]
        simp only [hne, if_false]
        rw [if_neg hbig]
    · have hne : ¬ ((10 : Int) = 0) := by decide
      have hno : ¬ In64 (-((10 * n : Nat) : Int)) := by unfold In64; omega
      have hbig : ¬ val (List.drop (i + 1) x4.data.toList) (10 * n + (x4[i].toNat - 48)) ≤ 9223372036854775808 := by omega
      rw [fit_out hno]
      simp only [hne, if_false]
      rw [if_neg hbig]

def readT (short : Bool) (l : List UInt8) : Int × Int :=
  if l = [] then (0, 20) else match scan l 0 false with
  | none => (0, 20)
  | some (n, far) => if short = true then (if far = true then (0, 10) else (wrap64 (-(wrap64 n)), 0)) else (if (far || decide (n > 9223372036854775807)) = true then (0, 10) else (wrap64 n, 0))
theorem refread (s : ByteArray) (hs : s.size ≤ 140737488351232) (k : Nat) : spinneyref01_Read.f (k + 2 * s.size + 10) s = some (readL s.data.toList) := by
  have tail : ∀ (t : ByteArray), t.size ≤ s.size → spinneyref01_Read.j1 (k + 2 * s.size + 9) s t = some (readT (decide (t.size < s.size)) t.data.toList) := by
    intro t ht
    have he : k + 2 * s.size + 9 = (k + 2 * s.size + 8) + 1 := by omega
    rw [he]
    simp only [spinneyref01_Read.j1]
    rw [ByteArray.toList_eq]
    by_cases h0 : t.data.toList = []
    · rw [if_pos h0, readT, if_pos h0]
    · rw [if_neg h0, readT, if_neg h0]
      have := ref_l0 s t (by omega) t.size (k + 2 * s.size + 8) 0 (by omega) (by omega) (by omega)
      simp only [Int.ofNat_zero, List.drop_zero] at this
      rw [this]
      by_cases hd : digits t.data.toList = true
      · rw [if_pos hd]
        have h1 := ref_l1 s t (by omega) t.size (k + 2 * s.size + 8 - t.size - 1) 0 0 (by omega) (by omega) (by omega) (by omega) (by simpa using hd)
        have hz2 : ∀ j, spinneyref01_Read.l1 j s t 0 0 = spinneyref01_Read.l1 j s t (-((0 : Nat) : Int)) ((0 : Nat) : Int) := fun _ => rfl
        rw [hz2, h1]
        simp only [List.drop_zero]
        obtain ⟨h2, h3⟩ := scan_val t.data.toList 0 (by omega) hd
        have hz3 : scan t.data.toList 0 false = scan t.data.toList ((0 : Nat) : Int) false := rfl
        rw [hz3]
        by_cases hv : val t.data.toList 0 ≤ 9223372036854775808
        · rw [if_pos hv, h2 hv]
          simp only [Bool.false_or]
          by_cases hlt : t.size < s.size
          · rw [if_pos hlt, if_pos (by simpa using hlt), if_neg (by simp)]
            congr 2
            unfold wrap64; omega
          · rw [if_neg hlt, if_neg (by simpa using hlt)]
            by_cases hm : val t.data.toList 0 ≤ 9223372036854775807
            · rw [fit_in (by unfold In64; omega), if_neg (by simp; omega), wrap64_id (by unfold In64; omega)]
            · rw [fit_out (by unfold In64; omega), if_pos (by simp; omega)]
        · rw [if_neg hv]
          obtain ⟨m, hm⟩ := h3 (by omega)
          rw [hm]
          simp
      · rw [if_neg hd, scan_no _ _ _ (by simpa using hd)]
  unfold spinneyref01_Read.f
  by_cases h0 : 0 < s.size
  · rw [if_pos (by omega), if_pos (by omega)]
    have hb : bt s 0 = (s[0].toNat : Int) := bt_drop s 0 h0
    have hk : k + 2 * s.size + 10 = (k + 2 * s.size + 9) + 1 := by omega
    rw [hk]
    simp only [spinneyref01_Read.j0]
    have hdc := data_cons s h0
    by_cases h45 : s[0] = 45
    · have : (bt s 0 == 45) = true := by rw [hb, h45]; rfl
      rw [this, if_pos rfl, if_pos (by omega), tail _ (by simp)]
      have hsz : (s.extract 1 s.size).size < s.size := by simp; omega
      congr 1
      unfold readL readT
      rw [hdc, h45]
      simp only [List.head?_cons, if_true, List.drop_succ_cons, List.drop_zero, decide_eq_true hsz]
      rfl
    · have : (bt s 0 == 45) = false := by
        rw [hb]
        simp
        intro h
        exact h45 (UInt8.toNat_inj.mp (by simpa using (by omega : s[0].toNat = 45)))
      rw [this, if_neg (by simp), tail s (Nat.le_refl _)]
      congr 1
      have hne : s.data.toList ≠ [] := by rw [hdc]; simp
      have hh : ¬ (s.data.toList.head? = some 45) := by rw [hdc]; simpa using h45
      unfold readL readT
      rw [if_neg hh, if_neg hne, if_neg hne]
      simp
      rfl
  · rw [if_neg (by omega)]
    have hk : k + 2 * s.size + 10 = (k + 2 * s.size + 9) + 1 := by omega
    rw [hk]
    simp only [spinneyref01_Read.j0]
    rw [if_neg (by simp), tail s (Nat.le_refl _)]
    have hn : s.data.toList = [] := List.eq_nil_of_length_eq_zero (by rw [← size_len]; omega)
    rw [hn]
    rfl


end TN

end Go.Proofs.YtjichkjnodabiaaDoor.Pure
set_option linter.unusedVariables false
set_option linter.unusedSimpArgs false
namespace Go.Proofs.YtjichkjnodabiaaDoor.Pure
open Go Go.Own Go.RowKit Go.Proofs.YtjichkjnodabiaaDoor.P Go.Proofs.YtjichkjnodabiaaDoorW.PrintWords Go.Proofs.YtjichkjnodabiaaDoorW.PrintLast

def hexD (x : Int) : UInt8 := if x < 10 then UInt8.ofNat (48 + x.toNat) else UInt8.ofNat (87 + x.toNat)
def hexL (x : Int) : List UInt8 := if x < 16 then [hexD x] else [49, hexD (x - 16)]
def char_Bare.go (n : Int) : Int → List (Nat × Nat) → Bool
  | _, [] => decide (n ≤ 255)
  | a, x :: l =>
    if (if x.1 = 0 then classN x.2 else a) = 1 then (if classN x.2 < 1 then false else if classN x.2 > 3 then false else char_Bare.go n (if x.1 = 0 then classN x.2 else a) l)
    else if (if x.1 = 0 then classN x.2 else a) = 4 then (if classN x.2 = 4 then char_Bare.go n (if x.1 = 0 then classN x.2 else a) l else false) else false
def char_Bare.val (a0 : ByteArray) : Bool :=
  if a0.toList = ([91, 93] : List UInt8) then true else if a0.toList = ([123, 125] : List UInt8) then true else if a0.toList = ([33] : List UInt8) then true else if a0.toList = ([59] : List UInt8) then true
  else if a0.toList = ([] : List UInt8) then false else if a0.toList = ([46] : List UInt8) then false else if preB a0 (⟨#[47, 42]⟩ : ByteArray) = true then false else char_Bare.go a0.size 0 (runesOf a0)
def char_Write.one (c : Int) : List UInt8 := if c = 39 then 92 :: Lib.encodeRune c else if c = 92 then 92 :: Lib.encodeRune c else if c = 10 then [92, 110] else if c = 9 then [92, 116] else if c < 32 then [92, 120] ++ hexL c ++ [92] else Lib.encodeRune c
def char_Write.go : List (Nat × Nat) → List UInt8
  | [] => [39]
  | x :: l => char_Write.one x.2 ++ char_Write.go l
def char_Write.quoted (a0 : ByteArray) : ByteArray := ⟨([39] ++ char_Write.go (runesOf a0)).toArray⟩
theorem hexL_len (c : Int) : (hexL c).length ≤ 2 := by unfold hexL; split <;> simp

end Go.Proofs.YtjichkjnodabiaaDoor.Pure
set_option linter.unusedVariables false
set_option linter.unusedSimpArgs false
namespace Go.Proofs.YtjichkjnodabiaaDoor.Pure
open Go Go.Own Go.RowKit Go.Proofs.YtjichkjnodabiaaDoor.P Go.Proofs.YtjichkjnodabiaaDoorW.PrintWords Go.Proofs.YtjichkjnodabiaaDoorW.PrintLast


end Go.Proofs.YtjichkjnodabiaaDoor.Pure
set_option linter.unusedVariables false
set_option linter.unusedSimpArgs false
namespace Go.Proofs.YtjichkjnodabiaaDoor.Pure
open Go Go.Own Go.RowKit Go.Proofs.YtjichkjnodabiaaDoor.P Go.Proofs.YtjichkjnodabiaaDoorW.PrintWords Go.Proofs.YtjichkjnodabiaaDoorW.PrintLast

open Go.Lib
def chop : Nat → List UInt8 → List (Nat × Nat)
  | 0, _ => []
  | f + 1, l => if l = [] then [] else decodeL l :: chop f (l.drop (decodeL l).2)
def tag : Nat → List (Nat × Nat) → List (Nat × Nat)
  | _, [] => []
  | p, x :: t => (p, x.1) :: tag (p + x.2) t
def chopA (l : List UInt8) : List (Nat × Nat) := chop l.length l
theorem chop_nil (f : Nat) : chop f [] = [] := by cases f <;> rfl
theorem chop_fuel : ∀ (f g : Nat) (l : List UInt8), l.length ≤ f → l.length ≤ g → chop f l = chop g l
  | 0, g, l, h, _ => by
    have : l = [] := List.length_eq_zero_iff.1 (by omega)
    subst this
    rw [chop_nil, chop_nil]
  | f + 1, 0, l, _, h => by
    have : l = [] := List.length_eq_zero_iff.1 (by omega)
    subst this
    rw [chop_nil, chop_nil]
  | f + 1, g + 1, l, h1, h2 => by
    unfold chop
    split
    · rfl
    · have := decodeL_width l
      rw [chop_fuel f g (l.drop (decodeL l).2) (by rw [List.length_drop]; omega) (by rw [List.length_drop]; omega)]
theorem chopA_step {l : List UInt8} (h : l ≠ []) : chopA l = decodeL l :: chopA (l.drop (decodeL l).2) := by
  have hl : 0 < l.length := List.length_pos_iff.2 h
  have hw := decodeL_width l
  obtain ⟨n, hn⟩ : ∃ n, l.length = n + 1 := ⟨l.length - 1, by omega⟩
  unfold chopA
  rw [hn]
  conv => lhs; unfold chop
  rw [if_neg h]
  congr 1
  exact chop_fuel _ _ _ (by rw [List.length_drop]; omega) (Nat.le_refl _)
theorem chopA_nil : chopA [] = [] := rfl
theorem runesAt_tag (s : ByteArray) : ∀ f pos, pos ≤ s.size → runesAt s f pos = tag pos (chop f (s.data.toList.drop pos))
  | 0, pos, _ => rfl
  | f + 1, pos, hp => by
    have hlen : s.data.toList.length = s.size := data_length s
    unfold runesAt chop
    by_cases h : pos < s.size
    · have hne : s.data.toList.drop pos ≠ [] := by
        intro e
        have := congrArg List.length e
        simp only [List.length_drop, List.length_nil] at this
        omega
      have he := decode_end s pos h
      rw [if_pos h, if_neg hne, decodeL_drop, tag, runesAt_tag s f _ he, List.drop_drop]
    · have hne : s.data.toList.drop pos = [] := List.drop_eq_nil_of_le (by omega)
      rw [if_neg h, if_pos hne, tag]
theorem runesOf_tag (s : ByteArray) : runesOf s = tag 0 (chopA s.data.toList) := by
  unfold runesOf chopA
  rw [runesAt_tag s _ 0 (by omega), List.drop_zero, data_length]
theorem validD_chop : ∀ (n : Nat) (l : List UInt8), l.length ≤ n → (validD l = true ↔ ∀ x ∈ chopA l, ¬ (x.1 = 65533 ∧ x.2 = 1))
  | 0, l, h => by
    have : l = [] := List.length_eq_zero_iff.1 (by omega)
    subst this
    rw [chopA_nil, validD_nil]
    simp
  | n + 1, l, h => by
    by_cases hl : l = []
    · subst hl
      rw [chopA_nil, validD_nil]
      simp
    · have hw := decodeL_width l
      have ih := validD_chop n (l.drop (decodeL l).2) (by rw [List.length_drop]; omega)
      rw [validD_step l hl, chopA_step hl]
      by_cases hb : (decodeL l).1 = 65533 ∧ (decodeL l).2 = 1
      · rw [if_pos hb]
        constructor
        · intro x; cases x
        · intro x
          exact absurd hb (x _ (List.mem_cons_self ..))
      · rw [if_neg hb, ih]
        constructor
        · intro x y hy
          rcases List.mem_cons.1 hy with rfl | hy
          · exact hb
          · exact x y hy
        · intro x y hy
          exact x y (List.mem_cons_of_mem _ hy)
theorem chop_encode : ∀ (n : Nat) (l : List UInt8), l.length ≤ n → (∀ x ∈ chopA l, ¬ (x.1 = 65533 ∧ x.2 = 1)) → ((chopA l).flatMap fun x => encodeRune (x.1 : Int)) = l
  | 0, l, h, _ => by
    have : l = [] := List.length_eq_zero_iff.1 (by omega)
    subst this
    rfl
  | n + 1, l, h, hv => by
    by_cases hl : l = []
    · subst hl; rfl
    · have hw := decodeL_width l
      rw [chopA_step hl] at hv ⊢
      rw [List.flatMap_cons, encode_decode l hl (hv _ (List.mem_cons_self ..)), chop_encode n _ (by rw [List.length_drop]; omega) (fun x hx => hv x (List.mem_cons_of_mem _ hx)), List.take_append_drop]
theorem chopA_runes (l : List UInt8) : ∀ (n : Nat), l.length ≤ n → ∀ x ∈ chopA l, x.1 ≤ 1114111 ∧ 1 ≤ x.2 := by
  intro n
  induction n generalizing l with
  | zero =>
    intro h x hx
    have : l = [] := List.length_eq_zero_iff.1 (by omega)
    subst this
    cases hx
  | succ n ih =>
    intro h x hx
    by_cases hl : l = []
    · subst hl; cases hx
    · have hw := decodeL_width l
      rw [chopA_step hl] at hx
      rcases List.mem_cons.1 hx with rfl | hx
      · exact ⟨decodeL_rune l, hw⟩
      · exact ih _ (by rw [List.length_drop]; omega) x hx

end Go.Proofs.YtjichkjnodabiaaDoor.Pure
set_option linter.unusedVariables false
set_option linter.unusedSimpArgs false
namespace Go.Proofs.YtjichkjnodabiaaDoor.Pure
open Go Go.Own Go.RowKit Go.Proofs.YtjichkjnodabiaaDoor.P Go.Proofs.YtjichkjnodabiaaDoorW.PrintWords Go.Proofs.YtjichkjnodabiaaDoorW.PrintLast

open Go.Lib
theorem data_ext (a : ByteArray) (n : Nat) : (a.extract 0 n).data.toList = a.data.toList.take n := by
  rw [ByteArray.data_extract, Array.toList_extract, List.extract_eq_take_drop, List.drop_zero, Nat.sub_zero]
theorem preB_iff (a b : ByteArray) : preB a b = true ↔ a.data.toList.take b.size = b.data.toList := by
  unfold preB strings_HasPrefix.f stringslite_HasPrefix.f
  have la := data_length a
  have lb := data_length b
  by_cases h : b.size ≤ a.size
  · rw [if_pos (by omega), if_pos (by omega), if_pos (by omega)]
    simp only [Option.bind_some, Option.getD_some, Int.toNat_natCast, ByteArray.toList_eq, data_ext]
    exact beq_iff_eq
  · rw [if_neg (by omega)]
    simp only [Option.bind_some, Option.getD_some]
    constructor
    · intro x; cases x
    · intro x
      have := congrArg List.length x
      rw [List.length_take] at this
      omega
end Go.Proofs.YtjichkjnodabiaaDoor.Pure
set_option linter.unusedVariables false
set_option linter.unusedSimpArgs false
namespace Go.Proofs.YtjichkjnodabiaaDoor.Pure
open Go Go.Own Go.RowKit Go.Proofs.YtjichkjnodabiaaDoor.P Go.Proofs.YtjichkjnodabiaaDoorW.PrintWords Go.Proofs.YtjichkjnodabiaaDoorW.PrintLast

open Go.Lib
theorem tbR (z : Int) (m : Nat) (h : z = (m : Int)) (h2 : m < 256) : (z.toNat.toUInt8).toNat = m := by
  subst h
  show (UInt8.ofNat m).toNat = m
  rw [UInt8.toNat_ofNat']
  omega
theorem decode_encode {c : Int} (h : validRune c = true) (t : List UInt8) : decodeL (encodeRune c ++ t) = (c.toNat, (encodeRune c).length) := by
  unfold validRune at h
  have h := of_decide_eq_true h
  obtain ⟨r, rfl⟩ : ∃ r : Nat, c = (r : Int) := ⟨c.toNat, by omega⟩
  rw [decodeL_N]
  unfold encodeRune
  by_cases c1 : r < 128
  · rw [encodeRuneZ_one (by omega) (by omega)]
    have e0 := tbR (r : Int) r rfl (by omega)
    simp only [List.map_cons, List.map_nil, List.cons_append, List.nil_append, List.getD_cons_zero, e0]
    unfold decodeN
    rw [if_pos c1]
    simp
  by_cases c2 : r < 2048
  · rw [encodeRuneZ_two (by omega) (by omega)]
    have e0 := tbR (192 + (r : Int) / 64) (192 + r / 64) (by omega) (by omega)
    have e1 := tbR (128 + (r : Int) % 64) (128 + r % 64) (by omega) (by omega)
    simp only [List.map_cons, List.map_nil, List.cons_append, List.nil_append, List.getD_cons_zero, List.getD_cons_succ, e0, e1]
    unfold decodeN
    rw [if_neg (by omega), if_pos ⟨by omega, by simp, by omega⟩, if_pos (by omega)]
    refine Prod.ext ?_ rfl
    show _ = r
    dsimp only
    omega
  by_cases c3 : r < 65536
  · rw [encodeRuneZ_three (by omega)]
    have e0 := tbR (224 + (r : Int) / 4096) (224 + r / 4096) (by omega) (by omega)
    have e1 := tbR (128 + (r : Int) / 64 % 64) (128 + r / 64 % 64) (by omega) (by omega)
    have e2 := tbR (128 + (r : Int) % 64) (128 + r % 64) (by omega) (by omega)
    simp only [List.map_cons, List.map_nil, List.cons_append, List.nil_append, List.getD_cons_zero, List.getD_cons_succ, e0, e1, e2]
    unfold decodeN
    rw [if_neg (by omega), if_neg (by omega), if_pos ⟨by omega, ⟨by simp, by omega⟩, by simp, by omega⟩, if_pos ⟨by omega, by omega⟩]
    refine Prod.ext ?_ rfl
    show _ = r
    dsimp only
    omega
  · rw [encodeRuneZ_four (by omega) (by omega)]
    have e0 := tbR (240 + (r : Int) / 262144) (240 + r / 262144) (by omega) (by omega)
    have e1 := tbR (128 + (r : Int) / 4096 % 64) (128 + r / 4096 % 64) (by omega) (by omega)
    have e2 := tbR (128 + (r : Int) / 64 % 64) (128 + r / 64 % 64) (by omega) (by omega)
    have e3 := tbR (128 + (r : Int) % 64) (128 + r % 64) (by omega) (by omega)
    simp only [List.map_cons, List.map_nil, List.cons_append, List.nil_append, List.getD_cons_zero, List.getD_cons_succ, e0, e1, e2, e3]
    unfold decodeN
    rw [if_neg (by omega), if_neg (by omega), if_neg (by omega), if_pos ⟨by omega, ⟨by simp, by omega⟩, ⟨by simp, by omega⟩, by simp, by omega⟩, if_pos ⟨by omega, by omega⟩]
    refine Prod.ext ?_ rfl
    show _ = r
    dsimp only
    omega
theorem encode_ne (c : Int) : encodeRune c ≠ [] := by
  unfold encodeRune encodeRuneZ
  repeat' split
  all_goals simp
theorem encode_ascii {c : Int} (h0 : 0 ≤ c) (h1 : c < 128) : encodeRune c = [c.toNat.toUInt8] := by
  unfold encodeRune
  rw [encodeRuneZ_one h0 (by omega)]
  rfl
theorem encode_width {c : Int} (h : validRune c = true) (h2 : (encodeRune c).length = 1) : c < 128 := by
  unfold validRune at h
  have h := of_decide_eq_true h
  by_cases h3 : c < 128
  · exact h3
  · exfalso
    unfold encodeRune encodeRuneZ at h2
    rw [if_neg (by omega)] at h2
    split at h2
    · simp at h2
    · split at h2
      · simp at h2
      · split at h2 <;> simp at h2
/-- a decoded rune that is no fault is one -/
theorem decode_valid (l : List UInt8) (h : ¬ ((decodeL l).1 = 65533 ∧ (decodeL l).2 = 1)) : validRune ((decodeL l).1 : Int) = true := by
  rw [decodeL_N] at h ⊢
  unfold validRune
  apply decide_eq_true
  have k0 := (l.getD 0 0).toNat_lt
  rcases decodeN_shape l.length (l.getD 0 0).toNat (l.getD 1 0).toNat (l.getD 2 0).toNat (l.getD 3 0).toNat with ⟨c, e⟩ | ⟨c1, c2, c3, cv, e⟩ | ⟨c1, c2, c3, c4, cv, cs, e⟩ | ⟨c1, c2, c3, c4, c5, cv, cw, e⟩ | e
  · rw [e]; dsimp only; omega
  · rw [e]; dsimp only; omega
  · rw [e]; dsimp only; omega
  · rw [e]; dsimp only; omega
  · rw [e]; dsimp only; omega
/-- the runes of what valid runes are written as -/
theorem chopA_encode : ∀ cs : List Int, (∀ c ∈ cs, validRune c = true) → chopA (cs.flatMap encodeRune) = cs.map fun c => (c.toNat, (encodeRune c).length)
  | [], _ => rfl
  | c :: cs, h => by
    have hc := h c (List.mem_cons_self ..)
    have hne : (c :: cs).flatMap encodeRune ≠ [] := by
      rw [List.flatMap_cons]
      intro e
      exact encode_ne c (List.append_eq_nil_iff.1 e).1
    rw [chopA_step hne, List.flatMap_cons, decode_encode hc, List.map_cons]
    dsimp only
    rw [List.drop_left, chopA_encode cs (fun x hx => h x (List.mem_cons_of_mem _ hx))]
theorem valid_encode (cs : List Int) (h : ∀ c ∈ cs, validRune c = true) : validD (cs.flatMap encodeRune) = true := by
  rw [validD_chop _ _ (Nat.le_refl _), chopA_encode cs h]
  intro x hx hb
  obtain ⟨c, hc, rfl⟩ := List.mem_map.1 hx
  dsimp only at hb
  have := encode_width (h c hc) hb.2
  omega
/-- what stands behind a \\, by bytes -/
def codeL (l : List UInt8) : Int × Int :=
  if indexByte l 92 < 1 then (0, 0) else if 6 < indexByte l 92 then (0, 0)
  else match hexGo 0 (l.take (indexByte l 92).toNat) with
    | none => (0, 0)
    | some v => if validRune v = true then ((v : Int), indexByte l 92 + 1) else (0, 0)
def escL : List UInt8 → Int × Int
  | [] => (0, 0)
  | b :: t => if b.toNat = 92 ∨ b.toNat = 39 then ((b.toNat : Int), 1) else if b.toNat = 110 then (10, 1) else if b.toNat = 116 then (9, 1)
    else if b.toNat = 120 then (if (codeL t).2 > 0 then ((codeL t).1, (codeL t).2 + 1) else (0, 0)) else (0, 0)
theorem codeL_le (l : List UInt8) : 0 ≤ (codeL l).2 ∧ (codeL l).2 ≤ 7 := by
  unfold codeL
  split
  · simp
  · split
    · simp
    · split
      · simp
      · split
        · dsimp only; omega
        · simp
theorem esc_eq (s : ByteArray) (hs : s.size ≤ 9223372036854775807) : escN s = escL s.data.toList := by
  have hl := data_length s
  unfold escN char_escape.f
  rw [ByteArray.toList_eq]
  cases h : s.data.toList with
  | nil => rfl
  | cons b t =>
    rw [h] at hl
    have hsz : 0 < s.size := by rw [← hl]; simp
    have hb : bt s 0 = (b.toNat : Int) := by
      rw [← bt_at s 0 hsz]
      have : s[0]'hsz = s.data.toList[0]'(by rw [h]; simp) := rfl
      show (((s[0]'hsz).toNat : Nat) : Int) = _
      rw [this]
      simp [h]
    have hx : (s.extract 1 s.size).data.toList = t := by
      have := data_cons s hsz
      rw [h] at this
      injection this with _ this
      exact this.symm
    have hcv : char_code.f (s.extract 1 s.size) = some (codeL t) := by
      unfold char_code.f
      rw [if_pos (by rw [ByteArray.size_extract]; omega)]
      unfold char_code.val codeL
      rw [hx]
      rfl
    have hc := codeL_le t
    have hbl := b.toNat_lt
    rw [if_neg (by simp), if_pos (by omega), hb]
    have hj : ∀ x : Bool, char_escape.j0 2 s (b.toNat : Int) (b.toNat : Int) x = some (if x = true then ((b.toNat : Int), 1) else if b.toNat = 110 then (10, 1) else if b.toNat = 116 then (9, 1)
      else if b.toNat = 120 then (if (codeL t).2 > 0 then ((codeL t).1, (codeL t).2 + 1) else (0, 0)) else (0, 0)) := by
      intro x
      rw [char_escape.j0]
      cases x with
      | true =>
        rw [if_pos rfl, if_pos rfl]
        have : wrap32 (b.toNat : Int) = (b.toNat : Int) := by unfold wrap32; omega
        rw [this]
      | false =>
        simp only [Bool.false_eq_true, if_false, hcv, Option.bind_some]
        by_cases c1 : b.toNat = 110
        · rw [if_pos c1, if_pos (by omega)]
        rw [if_neg c1, if_neg (by omega)]
        by_cases c2 : b.toNat = 116
        · rw [if_pos c2, if_pos (by omega)]
        rw [if_neg c2, if_neg (by omega)]
        by_cases c3 : b.toNat = 120
        · rw [if_pos c3, if_pos (by omega), if_pos (by omega)]
          by_cases c4 : (codeL t).2 > 0
          · rw [if_pos c4, if_pos c4]
            have : wrap64 ((codeL t).2 + 1) = (codeL t).2 + 1 := by unfold wrap64; omega
            rw [this]
          · rw [if_neg c4, if_neg c4]
        · rw [if_neg c3, if_neg (by omega)]
    rw [escL]
    by_cases c92 : b.toNat = 92
    · rw [if_pos (by omega), hj, Option.getD_some, if_pos (by rw [c92]; rfl), if_pos (Or.inl c92)]
    · rw [if_neg (by omega), hj, Option.getD_some]
      by_cases c39 : b.toNat = 39
      · rw [if_pos (by rw [c39]; rfl), if_pos (Or.inr c39)]
      · rw [if_neg (show ¬ ((b.toNat : Int) == 39) = true from fun e => by have := beq_iff_eq.1 e; omega), if_neg (show ¬ (b.toNat = 92 ∨ b.toNat = 39) by omega)]

end Go.Proofs.YtjichkjnodabiaaDoor.Pure
set_option linter.unusedVariables false
set_option linter.unusedSimpArgs false
namespace Go.Proofs.YtjichkjnodabiaaDoor.Pure
open Go Go.Own Go.RowKit Go.Proofs.YtjichkjnodabiaaDoor.P Go.Proofs.YtjichkjnodabiaaDoorW.PrintWords Go.Proofs.YtjichkjnodabiaaDoorW.PrintLast

open Go.Lib
def readP : Nat → List UInt8 → Nat → List UInt8 → List UInt8 × Int × Int
  | 0, _, _, _ => ([], 0, 20)
  | f + 1, t, p, acc =>
    if t = [] then ([], 0, 20)
    else if (decodeL t).1 = 39 then (if (t.drop 1).take 1 = [39] then readP f (t.drop 2) (p + 2) (acc ++ [39]) else (acc, ((p + 1 : Nat) : Int), 0))
    else if (decodeL t).1 = 92 then (if (escL (t.drop 1)).2 = 0 then ([], 0, 20) else readP f (t.drop (1 + (escL (t.drop 1)).2.toNat)) (p + 1 + (escL (t.drop 1)).2.toNat) (acc ++ encodeRune (escL (t.drop 1)).1))
    else if (decodeL t).1 < 32 then ([], 0, 20)
    else if (decodeL t).1 = 65533 ∧ (decodeL t).2 = 1 then ([], 0, 20)
    else readP f (t.drop (decodeL t).2) (p + (decodeL t).2) (acc ++ encodeRune ((decodeL t).1 : Int))
theorem idx_split : ∀ (l : List UInt8) (i : Nat), indexByte l 92 = (i : Int) → l = l.take i ++ 92 :: l.drop (i + 1) ∧ i < l.length
  | [], i, h => by
    unfold indexByte at h
    omega
  | b :: l, i, h => by
    unfold indexByte at h
    split at h
    · rename_i hb
      have : i = 0 := by omega
      subst this
      have : b = 92 := beq_iff_eq.1 hb
      subst this
      exact ⟨rfl, by simp⟩
    · split at h
      · omega
      · rename_i hm
        obtain ⟨j, hj⟩ : ∃ j : Nat, i = j + 1 := by
          have hne : indexByte l 92 ≠ -1 := fun e => hm (beq_iff_eq.2 e)
          have : -1 ≤ indexByte l 92 := by
            have : ∀ l : List UInt8, -1 ≤ indexByte l 92 := by
              intro l
              induction l with
              | nil => unfold indexByte; omega
              | cons b l ih => unfold indexByte; split; · omega
                               split; · omega
                               omega
            exact this l
          exact ⟨i - 1, by omega⟩
        subst hj
        obtain ⟨h1, h2⟩ := idx_split l j (by omega)
        refine ⟨?_, by rw [List.length_cons]; omega⟩
        rw [List.take_succ_cons, List.drop_succ_cons, List.cons_append, ← h1]
theorem hexV_lo {c : UInt8} {d : Nat} (h : hexV c = some d) : c.toNat < 128 := by
  unfold hexV at h
  split at h
  · omega
  · split at h
    · omega
    · split at h
      · omega
      · cases h
theorem hexGo_lo : ∀ (l : List UInt8) (n v : Nat), hexGo n l = some v → ∀ b ∈ l, b.toNat < 128
  | [], n, v, h, b, hb => by cases hb
  | c :: l, n, v, h, b, hb => by
    unfold hexGo at h
    cases hc : hexV c with
    | none => rw [hc] at h; cases h
    | some d =>
      rw [hc] at h
      rcases List.mem_cons.1 hb with rfl | hb
      · exact hexV_lo hc
      · exact hexGo_lo l _ v h b hb
theorem codeL_cases (l : List UInt8) : codeL l = (0, 0) ∨ ∃ (i v : Nat), indexByte l 92 = (i : Int) ∧ 1 ≤ i ∧ i ≤ 6 ∧ hexGo 0 (l.take i) = some v ∧ validRune (v : Int) = true ∧ codeL l = ((v : Int), (i : Int) + 1) := by
  unfold codeL
  by_cases h1 : indexByte l 92 < 1
  · rw [if_pos h1]; exact Or.inl rfl
  rw [if_neg h1]
  by_cases h2 : 6 < indexByte l 92
  · rw [if_pos h2]; exact Or.inl rfl
  rw [if_neg h2]
  obtain ⟨i, hi⟩ : ∃ i : Nat, indexByte l 92 = (i : Int) := ⟨(indexByte l 92).toNat, by omega⟩
  rw [hi]
  simp only [Int.toNat_natCast]
  cases hg : hexGo 0 (l.take i) with
  | none => exact Or.inl rfl
  | some v =>
    dsimp only
    by_cases hv : validRune (v : Int) = true
    · rw [if_pos hv]
      exact Or.inr ⟨i, v, rfl, by omega, by omega, hg, hv, rfl⟩
    · rw [if_neg hv]; exact Or.inl rfl
theorem esc_ascii (t : List UInt8) (h : (escL t).2 ≠ 0) : 1 ≤ (escL t).2.toNat ∧ (escL t).2.toNat ≤ t.length ∧ 0 ≤ (escL t).2 ∧ (∀ b ∈ t.take (escL t).2.toNat, b.toNat < 128) ∧ validRune (escL t).1 = true := by
  cases t with
  | nil => exact absurd rfl h
  | cons b t =>
    rw [escL] at h ⊢
    have one : ∀ r : Int, b.toNat < 128 → validRune r = true → 1 ≤ ((r, 1) : Int × Int).2.toNat ∧ ((r, 1) : Int × Int).2.toNat ≤ (b :: t).length ∧ 0 ≤ ((r, 1) : Int × Int).2 ∧ (∀ x ∈ (b :: t).take ((r, 1) : Int × Int).2.toNat, x.toNat < 128) ∧ validRune ((r, 1) : Int × Int).1 = true := by
      intro r hb hr
      refine ⟨by show 1 ≤ (1 : Int).toNat; decide, by simp, by show (0 : Int) ≤ 1; decide, ?_, hr⟩
      intro x hx
      simp at hx
      subst hx
      exact hb
    by_cases h1 : b.toNat = 92 ∨ b.toNat = 39
    · rw [if_pos h1]
      exact one _ (by omega) (by unfold validRune; apply decide_eq_true; omega)
    rw [if_neg h1] at h ⊢
    by_cases h2 : b.toNat = 110
    · rw [if_pos h2]
      exact one _ (by omega) (by decide)
    rw [if_neg h2] at h ⊢
    by_cases h3 : b.toNat = 116
    · rw [if_pos h3]
      exact one _ (by omega) (by decide)
    rw [if_neg h3] at h ⊢
    by_cases h4 : b.toNat = 120
    · rw [if_pos h4] at h ⊢
      by_cases h5 : (codeL t).2 > 0
      · rw [if_pos h5]
        rcases codeL_cases t with hc | ⟨i, v, hi, hi1, hi6, hg, hv, hc⟩
        · rw [hc] at h5; exact absurd h5 (by decide)
        · rw [hc]
          dsimp only
          obtain ⟨hs, hlt⟩ := idx_split t i hi
          have e : ((i : Int) + 1 + 1).toNat = i + 2 := by omega
          rw [e]
          refine ⟨by omega, by rw [List.length_cons]; omega, by omega, ?_, hv⟩
          intro x hx
          rw [List.take_succ_cons] at hx
          rcases List.mem_cons.1 hx with rfl | hx
          · omega
          · have htk : t.take (i + 1) = t.take i ++ [92] := by
              have hl : (t.take i).length = i := by rw [List.length_take]; omega
              conv => lhs; rw [hs]
              have h92 : (92 :: t.drop (i + 1)).take (i + 1 - i) = ([92] : List UInt8) := by rw [show i + 1 - i = 1 by omega]; rfl
              rw [List.take_append, hl, h92, List.take_of_length_le (by rw [hl]; omega)]
            rw [htk] at hx
            rcases List.mem_append.1 hx with hx | hx
            · exact hexGo_lo _ _ _ hg x hx
            · simp at hx
              subst hx
              decide
      · rw [if_neg h5] at h; exact absurd rfl h
    · rw [if_neg h4] at h; exact absurd rfl h
/-- a rune below 128 is one byte -/
theorem width1 {t : List UInt8} (hne : t ≠ []) (h : (decodeL t).1 < 128) : (decodeL t).2 = 1 ∧ ∃ b t', t = b :: t' ∧ b.toNat = (decodeL t).1 := by
  cases t with
  | nil => exact absurd rfl hne
  | cons b t' =>
    rw [decodeL_N] at h ⊢
    rcases decodeN_shape (b :: t').length ((b :: t').getD 0 0).toNat ((b :: t').getD 1 0).toNat ((b :: t').getD 2 0).toNat ((b :: t').getD 3 0).toNat with ⟨c, e⟩ | ⟨c1, c2, c3, cv, e⟩ | ⟨c1, c2, c3, c4, cv, cs, e⟩ | ⟨c1, c2, c3, c4, c5, cv, cw, e⟩ | e
    · rw [e] at h ⊢; exact ⟨rfl, b, t', rfl, rfl⟩
    · rw [e] at h; exact absurd h (by dsimp only; omega)
    · rw [e] at h; exact absurd h (by dsimp only; omega)
    · rw [e] at h; exact absurd h (by dsimp only; omega)
    · rw [e] at h; exact absurd h (by dsimp only; omega)
theorem ext_drop (s : ByteArray) (p : Nat) : (s.extract p s.size).data.toList = s.data.toList.drop p := by
  rw [ByteArray.data_extract, Array.toList_extract, List.extract_eq_take_drop, ← data_length s]
  exact List.take_of_length_le (by rw [List.length_drop]; omega)
theorem go_skip (s : ByteArray) (acc : List UInt8) : ∀ (d pos f : Nat), pos + d ≤ s.size → s.size ≤ pos + f → (∀ b ∈ (s.data.toList.drop pos).take d, b.toNat < 128) →
    ∃ f', s.size ≤ pos + d + f' ∧ char_Read.go s ((pos + d : Nat) : Int) acc (runesAt s f pos) = char_Read.go s ((pos + d : Nat) : Int) acc (runesAt s f' (pos + d))
  | 0, pos, f, h1, h2, h3 => ⟨f, h2, rfl⟩
  | d + 1, pos, f, h1, h2, h3 => by
    have hp : pos < s.size := by omega
    obtain ⟨f', -, hf', hst⟩ := runesAt_step hp h2
    have hd := bt_drop hp
    rw [hd, List.take_succ_cons] at h3
    have hb := h3 _ (List.mem_cons_self ..)
    have hdec : Utf8.decode s pos = ((s[pos]'hp).toNat, 1) := by
      rw [← decodeL_drop, hd, decodeL_ascii _ _ hb]
    rw [hdec] at hst hf'
    dsimp only at hst hf'
    obtain ⟨g, hg1, hg2⟩ := go_skip s acc d (pos + 1) f' (by omega) (by omega) (fun b hb => h3 b (List.mem_cons_of_mem _ hb))
    have e : pos + 1 + d = pos + (d + 1) := by omega
    rw [e] at hg1 hg2
    refine ⟨g, hg1, ?_⟩
    rw [hst, char_Read.go]
    dsimp only
    rw [if_pos (by omega)]
    exact hg2
theorem go_read (s : ByteArray) (hs : s.size ≤ 35184372088832) : ∀ (g pos f : Nat) (skip : Int) (acc : List UInt8), skip ≤ pos → pos ≤ s.size → s.size ≤ pos + f → s.size < pos + g →
    char_Read.go s skip acc (runesAt s f pos) = readP g (s.data.toList.drop pos) pos acc
  | 0, pos, f, skip, acc, h1, h2, h3, h4 => by omega
  | g + 1, pos, f, skip, acc, h1, h2, h3, h4 => by
    have hlen := data_length s
    by_cases hp : pos < s.size
    · obtain ⟨f', -, hf', hst⟩ := runesAt_step hp h3
      have hne : s.data.toList.drop pos ≠ [] := by
        intro e
        have := congrArg List.length e
        simp only [List.length_drop, List.length_nil] at this
        omega
      have hw := decodeL_width (s.data.toList.drop pos)
      have hle := decodeL_le _ hne
      rw [List.length_drop] at hle
      have hx1 := ext_drop s (pos + 1)
      have hd1 : (s.data.toList.drop pos).drop 1 = s.data.toList.drop (pos + 1) := by rw [List.drop_drop]
      rw [hst, char_Read.go, readP, if_neg hne, if_neg (by dsimp only; omega)]
      dsimp only
      rw [← decodeL_drop] at hf' ⊢
      by_cases c39 : (decodeL (s.data.toList.drop pos)).1 = 39
      · obtain ⟨w1, -⟩ := width1 hne (by omega)
        rw [if_pos (by omega), if_pos c39, w1, hd1]
        have hq := preB_iff (s.extract (pos + 1) s.size) (⟨#[39]⟩ : ByteArray)
        rw [hx1] at hq
        have hq : preB (s.extract (pos + 1) s.size) (⟨#[39]⟩ : ByteArray) = true ↔ (s.data.toList.drop (pos + 1)).take 1 = [39] := hq
        by_cases hb : (s.data.toList.drop (pos + 1)).take 1 = [39]
        · rw [if_pos (hq.2 hb), if_pos hb]
          have hl2 : pos + 2 ≤ s.size := by
            have := congrArg List.length hb
            rw [List.length_take, List.length_drop] at this
            simp only [List.length_cons, List.length_nil] at this
            omega
          rw [w1] at hf'
          obtain ⟨f2, hf2, hgo⟩ := go_skip s (acc ++ [39]) 1 (pos + 1) f' (by omega) (by omega) (by
            intro b hb2
            rw [hb] at hb2
            simp at hb2
            subst hb2
            decide)
          have e39 : encodeRune ((decodeL (s.data.toList.drop pos)).1 : Int) = [39] := by rw [c39]; rfl
          rw [e39]
          have e : ((pos + 1 + 1 : Nat) : Int) = (pos : Int) + 2 := by omega
          rw [e] at hgo
          rw [hgo, show pos + 1 + 1 = pos + 2 by omega, go_read s hs g (pos + 2) f2 _ _ (by omega) (by omega) (by omega) (by omega), List.drop_drop]
        · rw [if_neg (fun h => hb (hq.1 h)), if_neg hb]
          rfl
      rw [if_neg (by omega), if_neg c39]
      by_cases c92 : (decodeL (s.data.toList.drop pos)).1 = 92
      · obtain ⟨w1, -⟩ := width1 hne (by omega)
        rw [if_pos (by omega), if_pos c92, w1, hd1, esc_eq _ (by rw [ByteArray.size_extract]; omega), hx1]
        have hea := esc_ascii (s.data.toList.drop (pos + 1))
        generalize escL (s.data.toList.drop (pos + 1)) = er at hea ⊢
        by_cases hm : er.2 = 0
        · rw [if_pos hm, if_pos hm]
        · rw [if_neg hm, if_neg hm]
          obtain ⟨m1, m2, m3, m4, -⟩ := hea hm
          rw [List.length_drop] at m2
          rw [w1] at hf'
          obtain ⟨f2, hf2, hgo⟩ := go_skip s (acc ++ encodeRune er.1) er.2.toNat (pos + 1) f' (by omega) (by omega) m4
          have e : ((pos + 1 + er.2.toNat : Nat) : Int) = (pos : Int) + 1 + er.2 := by omega
          rw [e] at hgo
          rw [hgo, go_read s hs g (pos + 1 + er.2.toNat) f2 _ _ (by omega) (by omega) (by omega) (by omega), List.drop_drop, Nat.add_assoc]
      rw [if_neg (by omega), if_neg c92]
      by_cases c32 : (decodeL (s.data.toList.drop pos)).1 < 32
      · rw [if_pos (by omega), if_pos c32]
      rw [if_neg (by omega), if_neg c32]
      have hrec := go_read s hs g (pos + (decodeL (s.data.toList.drop pos)).2) f' skip (acc ++ encodeRune ((decodeL (s.data.toList.drop pos)).1 : Int)) (by omega) (by omega) (by omega) (by omega)
      by_cases cf : (decodeL (s.data.toList.drop pos)).1 = 65533
      · have hq := preB_iff (s.extract pos s.size) fffd
        rw [ext_drop] at hq
        have hq : preB (s.extract pos s.size) fffd = true ↔ (s.data.toList.drop pos).take 3 = encodeRune 65533 := hq
        rw [if_pos (by omega)]
        by_cases hb : (decodeL (s.data.toList.drop pos)).2 = 1
        · have hnp : ¬ preB (s.extract pos s.size) fffd = true := by
            intro h
            have h := hq.1 h
            have hsp : s.data.toList.drop pos = encodeRune 65533 ++ (s.data.toList.drop pos).drop 3 := by rw [← h, List.take_append_drop]
            rw [hsp, decode_encode (by decide)] at hb
            exact absurd hb (by decide)
          rw [if_neg hnp, if_pos (show _ ∧ _ from ⟨cf, hb⟩)]
        · suffices hpp : preB (s.extract pos s.size) fffd = true by
            rw [if_pos hpp, if_neg (show ¬ ((decodeL (s.data.toList.drop pos)).1 = 65533 ∧ (decodeL (s.data.toList.drop pos)).2 = 1) from fun h => hb h.2), hrec, List.drop_drop]
          apply hq.2
          have he := encode_decode _ hne (fun h => hb h.2)
          rw [cf] at he
          have hln := congrArg List.length he
          rw [List.length_take, List.length_drop] at hln
          have h3 : (encodeRune (((65533 : Nat)) : Int)).length = 3 := by decide
          have : (decodeL (s.data.toList.drop pos)).2 = 3 := by omega
          rw [this] at he
          exact he.symm
      · rw [if_neg (by omega), if_neg (fun h => cf h.1), hrec, List.drop_drop]
    · rw [runesAt_end hp, char_Read.go, readP, if_pos (List.drop_eq_nil_of_le (by omega))]
/-- char.Read -/
theorem read_val (s : ByteArray) (hs : s.size ≤ 35184372088832) (t : List UInt8) (h : s.data.toList = 39 :: t) : char_Read.val s = readP (s.size + 1) t 1 [] := by
  have hlen := data_length s
  have hne : s.data.toList ≠ [] := by rw [h]; simp
  have hsz : 0 < s.size := by rw [← hlen, h]; simp
  unfold char_Read.val
  have hb : bt s 0 = 39 := by
    rw [← bt_at s 0 hsz]
    have : s[0]'hsz = s.data.toList[0]'(by rw [h]; simp) := rfl
    show (((s[0]'hsz).toNat : Nat) : Int) = _
    rw [this]
    simp [h]
  rw [ByteArray.toList_eq, if_neg hne, if_pos hb]
  obtain ⟨f', hf', hgo⟩ := go_skip s [] 1 0 s.size (by omega) (by omega) (by
    intro b hb
    rw [List.drop_zero, h] at hb
    simp at hb
    subst hb
    decide)
  unfold runesOf
  have e : ((0 + 1 : Nat) : Int) = 1 := rfl
  rw [e] at hgo
  rw [hgo, go_read s hs (s.size + 1) (0 + 1) f' 1 [] (by omega) (by omega) (by omega) (by omega), h]
  rfl
theorem read_shut (s : ByteArray) (h : ∀ t, s.data.toList ≠ 39 :: t) : char_Read.val s = ([], 0, 20) := by
  have hlen := data_length s
  unfold char_Read.val
  rw [ByteArray.toList_eq]
  cases hl : s.data.toList with
  | nil => rw [if_pos rfl]
  | cons b t =>
    rw [if_neg (by simp)]
    have hsz : 0 < s.size := by rw [← hlen, hl]; simp
    rw [if_neg]
    intro hb
    rw [← bt_at s 0 hsz] at hb
    have e : s[0]'hsz = s.data.toList[0]'(by rw [hl]; simp) := rfl
    have hb : (((s[0]'hsz).toNat : Nat) : Int) = 39 := hb
    rw [e] at hb
    simp only [hl, List.getElem_cons_zero] at hb
    refine h t ?_
    rw [hl]
    congr 1
    exact UInt8.toNat_inj.1 (by show b.toNat = 39; omega)

end Go.Proofs.YtjichkjnodabiaaDoor.Pure
set_option linter.unusedVariables false
set_option linter.unusedSimpArgs false
namespace Go.Proofs.YtjichkjnodabiaaDoor.Pure
open Go Go.Own Go.RowKit Go.Proofs.YtjichkjnodabiaaDoor.P Go.Proofs.YtjichkjnodabiaaDoorW.PrintWords Go.Proofs.YtjichkjnodabiaaDoorW.PrintLast

open Go.Lib
theorem tb (z : Int) (m : Nat) (h : z = (m : Int)) : z.toNat.toUInt8 = UInt8.ofNat m := by
  subst h
  rfl
theorem encode_data (c : Int) : (Utf8.encode c).data.toList = encodeRune c := by
  unfold encodeRune
  by_cases h0 : 0 ≤ c
  · obtain ⟨r, rfl⟩ : ∃ r : Nat, c = (r : Int) := ⟨c.toNat, by omega⟩
    by_cases c1 : r < 128
    · have v : Utf8.valid (r : Int) = true := by simp [Utf8.valid]; omega
      rw [encodeRuneZ_one (by omega) (by omega)]
      simp only [List.map_cons, List.map_nil]
      rw [tb _ r rfl]
      simp [Utf8.encode, v, c1]
    by_cases c2 : r < 2048
    · have v : Utf8.valid (r : Int) = true := by simp [Utf8.valid]; omega
      rw [encodeRuneZ_two (by omega) (by omega)]
      simp only [List.map_cons, List.map_nil]
      rw [tb _ (192 + r / 64) (by omega), tb _ (128 + r % 64) (by omega)]
      simp [Utf8.encode, v, c1, c2]
    by_cases hv : (55296 ≤ r ∧ r ≤ 57343) ∨ 1114111 < r
    · have v : Utf8.valid (r : Int) = false := by simp [Utf8.valid]; omega
      unfold encodeRuneZ
      rw [if_neg (by omega), if_neg (by omega), if_neg (by omega), if_neg (by omega)]
      simp [Utf8.encode, v, Utf8.runeError]
    by_cases c3 : r < 65536
    · have v : Utf8.valid (r : Int) = true := by simp [Utf8.valid]; omega
      rw [encodeRuneZ_three (by omega)]
      simp only [List.map_cons, List.map_nil]
      rw [tb _ (224 + r / 4096) (by omega), tb _ (128 + r / 64 % 64) (by omega), tb _ (128 + r % 64) (by omega)]
      simp [Utf8.encode, v, c1, c2, c3]
    · have v : Utf8.valid (r : Int) = true := by simp [Utf8.valid]; omega
      rw [encodeRuneZ_four (by omega) (by omega)]
      simp only [List.map_cons, List.map_nil]
      rw [tb _ (240 + r / 262144) (by omega), tb _ (128 + r / 4096 % 64) (by omega), tb _ (128 + r / 64 % 64) (by omega), tb _ (128 + r % 64) (by omega)]
      simp [Utf8.encode, v, c1, c2, c3]
  · have v : Utf8.valid c = false := by simp [Utf8.valid]; omega
    unfold encodeRuneZ
    rw [if_neg (by omega), if_neg (by omega), if_neg (by omega), if_neg (by omega)]
    simp [Utf8.encode, v, Utf8.runeError]
theorem app_data (a b : ByteArray) : (a ++ b).data.toList = a.data.toList ++ b.data.toList := by
  rw [ByteArray.data_append, Array.toList_append]
end Go.Proofs.YtjichkjnodabiaaDoor.Pure
set_option linter.unusedVariables false
set_option linter.unusedSimpArgs false
namespace Go.Proofs.YtjichkjnodabiaaDoor.Pure
open Go Go.Own Go.RowKit Go.Proofs.YtjichkjnodabiaaDoor.P Go.Proofs.YtjichkjnodabiaaDoorW.PrintWords Go.Proofs.YtjichkjnodabiaaDoorW.PrintLast

open Go.Lib
theorem ref_value_in : ∀ b : Fin 256, spinneyref02_value.f 5 (b.val : Int) = some (match hexV (UInt8.ofNat b.val) with | some d => (d : Int) | none => -1) := by decide +kernel
theorem ref_value (b : UInt8) (k : Nat) (hk : 5 ≤ k) : spinneyref02_value.f k (b.toNat : Int) = some (match hexV b with | some d => (d : Int) | none => -1) := by
  refine leO_up (f := fun k => spinneyref02_value.f k (b.toNat : Int)) (fun k => spinneyref02_value.mono _ k) hk ?_
  have h := ref_value_in ⟨b.toNat, by have := b.toNat_lt; omega⟩
  have e : UInt8.ofNat b.toNat = b := by simp
  simp only [e] at h
  exact h
theorem idx_app : ∀ (u l : List UInt8), (∀ x ∈ u, x ≠ 92) → (indexByte l 92 = -1 → indexByte (u ++ l) 92 = -1) ∧ (0 ≤ indexByte l 92 → indexByte (u ++ l) 92 = u.length + indexByte l 92)
  | [], l, h => ⟨fun x => x, fun _ => by rw [List.nil_append, List.length_nil]; omega⟩
  | b :: u, l, h => by
    have ih := idx_app u l (fun x hx => h x (List.mem_cons_of_mem _ hx))
    have hb := h b (List.mem_cons_self ..)
    constructor
    · intro hl
      show indexByte (b :: (u ++ l)) 92 = -1
      unfold indexByte
      rw [if_neg (fun x => hb (beq_iff_eq.1 x)), ih.1 hl]
      rfl
    · intro hl
      have h2 := ih.2 hl
      have e : indexByte (b :: (u ++ l)) 92 = if b == 92 then 0 else if indexByte (u ++ l) 92 == -1 then -1 else indexByte (u ++ l) 92 + 1 := rfl
      show indexByte (b :: (u ++ l)) 92 = _
      rw [e, if_neg (fun x => hb (beq_iff_eq.1 x)), h2, if_neg (fun x => by have := beq_iff_eq.1 x; omega), List.length_cons]
      omega
theorem idx_ge : ∀ l : List UInt8, -1 ≤ indexByte l 92
  | [] => by unfold indexByte; omega
  | b :: l => by
    have := idx_ge l
    unfold indexByte
    split
    · omega
    · split <;> omega
theorem hexGo_app : ∀ (u v : List UInt8) (n : Nat), hexGo n (u ++ v) = (hexGo n u).bind fun m => hexGo m v
  | [], v, n => by unfold hexGo; simp [hexGo]
  | b :: u, v, n => by
    have e : ∀ l, hexGo n (b :: l) = match hexV b with | some d => hexGo (16 * n + d) l | none => none := fun _ => rfl
    show hexGo n (b :: (u ++ v)) = _
    rw [e, e]
    cases hexV b with
    | none => rfl
    | some d => exact hexGo_app u v _
theorem hexGo_no92 {u : List UInt8} {n v : Nat} (h : hexGo n u = some v) : ∀ x ∈ u, x ≠ 92 := by
  induction u generalizing n with
  | nil => intro x hx; cases hx
  | cons b u ih =>
    unfold hexGo at h
    cases hc : hexV b with
    | none => rw [hc] at h; cases h
    | some d =>
      rw [hc] at h
      intro x hx
      rcases List.mem_cons.1 hx with rfl | hx
      · intro e
        rw [e] at hc
        have h0 : hexV 92 = none := by decide
        rw [h0] at hc
        cases hc
      · exact ih h x hx
theorem codeL_92 (u r : List UInt8) (n : Nat) (h : hexGo 0 u = some n) (h1 : 1 ≤ u.length) (h6 : u.length ≤ 6) : codeL (u ++ 92 :: r) = if validRune (n : Int) = true then ((n : Int), (u.length : Int) + 1) else (0, 0) := by
  have h0 : indexByte (92 :: r) 92 = 0 := by unfold indexByte; rw [if_pos (by rfl)]
  have hi := (idx_app u (92 :: r) (hexGo_no92 h)).2 (by omega)
  rw [h0, Int.add_zero] at hi
  unfold codeL
  rw [hi, if_neg (by omega), if_neg (by omega), Int.toNat_natCast, List.take_left, h]
theorem codeL_none (u : List UInt8) (n : Nat) (h : hexGo 0 u = some n) : codeL u = (0, 0) := by
  have hi := (idx_app u [] (hexGo_no92 h)).1 rfl
  rw [List.append_nil] at hi
  unfold codeL
  rw [hi, if_pos (by omega)]
theorem codeL_bad (u r : List UInt8) (b : UInt8) (n : Nat) (h : hexGo 0 u = some n) (hb : b ≠ 92) (hv : hexV b = none ∨ 6 ≤ u.length) : codeL (u ++ b :: r) = (0, 0) := by
  have hn := hexGo_no92 h
  have hn2 : ∀ x ∈ u ++ [b], x ≠ 92 := by
    intro x hx
    rcases List.mem_append.1 hx with hx | hx
    · exact hn x hx
    · simp at hx; rw [hx]; exact hb
  have hs : u ++ b :: r = (u ++ [b]) ++ r := by simp
  have hi := idx_app (u ++ [b]) r hn2
  have hg := idx_ge r
  rw [← hs] at hi
  unfold codeL
  by_cases hm : indexByte r 92 = -1
  · rw [hi.1 hm, if_pos (by omega)]
  · have hp := hi.2 (by omega)
    rw [List.length_append, List.length_cons, List.length_nil] at hp
    rw [hp, if_neg (by omega)]
    by_cases h6 : 6 < ((u.length + (0 + 1) : Nat) : Int) + indexByte r 92
    · rw [if_pos h6]
    · rw [if_neg h6]
      have hvn : hexV b = none := by
        rcases hv with hv | hv
        · exact hv
        · omega
      have ht : ((u ++ b :: r).take (((u.length + (0 + 1) : Nat) : Int) + indexByte r 92).toNat) = u ++ b :: (r.take (indexByte r 92).toNat) := by
        have e : (((u.length + (0 + 1) : Nat) : Int) + indexByte r 92).toNat = u.length + ((indexByte r 92).toNat + 1) := by omega
        rw [e, List.take_append, List.take_of_length_le (by omega), Nat.add_sub_cancel_left, List.take_succ_cons]
      have hgo : hexGo 0 (u ++ b :: (r.take (indexByte r 92).toNat)) = none := by
        rw [hexGo_app, h]
        show hexGo n (b :: _) = none
        unfold hexGo
        rw [hvn]
      rw [ht, hgo]
theorem wr_hex (n e : Nat) (h : n < 1048576) (h2 : e < 16) : wrap32 (wrap32 (16 * (n : Int)) + (e : Int)) = ((16 * n + e : Nat) : Int) := by
  have a : wrap32 (16 * (n : Int)) = 16 * (n : Int) := by unfold wrap32; omega
  rw [a]
  unfold wrap32
  omega
theorem ref_esc_loop (x : ByteArray) (hx : x.size ≤ 100000) (b0 : UInt8) : ∀ (d k n : Nat) (u r : List UInt8), x.data.toList = b0 :: (u ++ r) → hexGo 0 u = some n → u.length ≤ 6 → d + u.length = 6 → d + 10 ≤ k →
    spinneyref02_escaped.l0 k x n ((u.length + 1 : Nat) : Int) = some (if (codeL (u ++ r)).2 > 0 then ((codeL (u ++ r)).1, (codeL (u ++ r)).2 + 1) else (0, 0)) := by
  intro d
  induction d with
  | zero =>
    intro k n u r hl hg h6 hd hk
    obtain ⟨k, rfl⟩ : ∃ j, k = j + 1 := ⟨k - 1, by omega⟩
    have hlen := data_length x
    rw [hl, List.length_cons, List.length_append] at hlen
    have hn : n < 16777216 := by have := hexGo_lt u 0 n hg; rw [show u.length = 6 by omega] at this; omega
    rw [spinneyref02_escaped.l0]
    cases r with
    | nil =>
      rw [List.length_nil] at hlen
      rw [if_neg (by omega), if_neg (by omega), if_pos (by omega), List.append_nil, codeL_none u n hg]
      rfl
    | cons b r =>
      rw [List.length_cons] at hlen
      have hb : bt x ((u.length + 1 : Nat) : Int) = (b.toNat : Int) := by
        have hsz : u.length + 1 < x.size := by omega
        rw [← bt_at x _ (by simpa using hsz)]
        simp only [Int.toNat_natCast]
        have e : x[u.length + 1]'hsz = x.data.toList[u.length + 1]'(by rw [data_length]; exact hsz) := rfl
        rw [e]
        simp [hl]
      have hw : wrap64 (((u.length + 1 : Nat) : Int) + 1) = (u.length : Int) + 2 := by unfold wrap64; omega
      rw [if_pos (by omega), if_neg (by omega), if_neg (by omega), if_neg (by omega), if_pos (by omega), hb, hw]
      by_cases h92 : b = 92
      · subst h92
        rw [if_pos (by rfl), codeL_92 u r n hg (by omega) (by omega)]
        unfold validRune
        by_cases v1 : (n : Int) > 1114111
        · rw [if_pos v1, decide_eq_false (by omega)]; rfl
        rw [if_neg v1]
        by_cases v2 : (n : Int) ≥ 55296
        · rw [if_pos v2]
          by_cases v3 : (n : Int) ≤ 57343
          · rw [if_pos v3, decide_eq_false (by omega)]; rfl
          · rw [if_neg v3, decide_eq_true (by omega), if_pos rfl, if_pos (by dsimp only; omega)]
            congr 2
        · rw [if_neg v2, decide_eq_true (by omega), if_pos rfl, if_pos (by dsimp only; omega)]
          congr 2
      · have : ¬ (b.toNat : Int) = 92 := fun e => h92 (UInt8.toNat_inj.1 (by show b.toNat = 92; omega))
        rw [if_neg this, codeL_bad u r b n hg h92 (Or.inr (by omega))]
        rfl
  | succ d ih =>
    intro k n u r hl hg h6 hd hk
    obtain ⟨k, rfl⟩ : ∃ j, k = j + 1 := ⟨k - 1, by omega⟩
    have hlen := data_length x
    rw [hl, List.length_cons, List.length_append] at hlen
    have hn : n < 1048576 := by
      have h1 := hexGo_lt u 0 n hg
      have h2 : 16 ^ u.length ≤ 16 ^ 5 := Nat.pow_le_pow_right (by decide) (by omega)
      omega
    rw [spinneyref02_escaped.l0]
    cases r with
    | nil =>
      rw [List.length_nil] at hlen
      rw [if_neg (by omega), List.append_nil, codeL_none u n hg]
      by_cases h1 : ((u.length + 1 : Nat) : Int) = 1
      · rw [if_pos h1]; rfl
      · rw [if_neg h1, if_pos (by omega)]; rfl
    | cons b r =>
      rw [List.length_cons] at hlen
      have hb : bt x ((u.length + 1 : Nat) : Int) = (b.toNat : Int) := by
        have hsz : u.length + 1 < x.size := by omega
        rw [← bt_at x _ (by simpa using hsz)]
        simp only [Int.toNat_natCast]
        have e : x[u.length + 1]'hsz = x.data.toList[u.length + 1]'(by rw [data_length]; exact hsz) := rfl
        rw [e]
        simp [hl]
      have hw : wrap64 (((u.length + 1 : Nat) : Int) + 1) = (u.length : Int) + 2 := by unfold wrap64; omega
      rw [if_pos (by omega), if_pos (by omega), if_pos (by omega), hb, ref_value b k (by omega), Option.bind_some, hw]
      cases hv : hexV b with
      | some e =>
        dsimp only
        have he := hexV_lt hv
        have hw2 : wrap32 (wrap32 (16 * (n : Int)) + (e : Int)) = ((16 * n + e : Nat) : Int) := wr_hex n e hn he
        have hi : (u.length : Int) + 2 = (((u ++ [b]).length + 1 : Nat) : Int) := by rw [List.length_append, List.length_cons, List.length_nil]; omega
        have hg2 : hexGo 0 (u ++ [b]) = some (16 * n + e) := by
          rw [hexGo_app, hg]
          show hexGo n [b] = _
          unfold hexGo
          rw [hv]
          rfl
        have hs : u ++ b :: r = (u ++ [b]) ++ r := by simp
        rw [if_pos (show (e : Int) ≥ 0 from Int.natCast_nonneg e), hw2, hi, hs]
        exact ih k (16 * n + e) (u ++ [b]) r (by rw [hl, hs]) hg2 (by rw [List.length_append, List.length_cons, List.length_nil]; omega) (by rw [List.length_append, List.length_cons, List.length_nil]; omega) (by omega)
      | none =>
        dsimp only
        rw [if_neg (by decide)]
        by_cases h92 : b = 92
        · subst h92
          by_cases h1 : ((u.length + 1 : Nat) : Int) = 1
          · have hu : u = [] := List.length_eq_zero_iff.1 (by omega)
            subst hu
            rw [if_pos h1]
            have h0 : indexByte (92 :: r) 92 = 0 := by unfold indexByte; rw [if_pos (by rfl)]
            have : codeL (92 :: r) = (0, 0) := by unfold codeL; rw [h0, if_pos (by decide)]
            rw [List.nil_append, this]
            rfl
          · rw [if_neg h1, if_neg (by omega), if_pos (by rfl), codeL_92 u r n hg (by omega) (by omega)]
            unfold validRune
            by_cases v1 : (n : Int) > 1114111
            · rw [if_pos v1, decide_eq_false (by omega)]; rfl
            rw [if_neg v1]
            by_cases v2 : (n : Int) ≥ 55296
            · rw [if_pos v2]
              by_cases v3 : (n : Int) ≤ 57343
              · rw [if_pos v3, decide_eq_false (by omega)]; rfl
              · rw [if_neg v3, decide_eq_true (by omega), if_pos rfl, if_pos (by dsimp only; omega)]
                congr 2
            · rw [if_neg v2, decide_eq_true (by omega), if_pos rfl, if_pos (by dsimp only; omega)]
              congr 2
        · have hnb : ¬ (b.toNat : Int) = 92 := fun e => h92 (UInt8.toNat_inj.1 (by show b.toNat = 92; omega))
          rw [codeL_bad u r b n hg h92 (Or.inl hv), if_neg hnb]
          by_cases h1 : ((u.length + 1 : Nat) : Int) = 1
          · rw [if_pos h1]; rfl
          · rw [if_neg h1, if_neg (by omega)]; rfl
theorem ref_esc (x : ByteArray) (hx : x.size ≤ 100000) (k : Nat) (hk : 20 ≤ k) : spinneyref02_escaped.f k x = some (escL x.data.toList) := by
  refine leO_up (f := fun k => spinneyref02_escaped.f k x) (fun k => spinneyref02_escaped.mono _ k) hk ?_
  show spinneyref02_escaped.f 20 x = _
  have hlen := data_length x
  unfold spinneyref02_escaped.f
  rw [ByteArray.toList_eq]
  cases hl : x.data.toList with
  | nil => rw [if_pos rfl]; rfl
  | cons b t =>
    rw [hl, List.length_cons] at hlen
    have hsz : 0 < x.size := by omega
    have hb : bt x 0 = (b.toNat : Int) := by
      rw [← bt_at x 0 hsz]
      have e : x[0]'hsz = x.data.toList[0]'(by rw [data_length]; exact hsz) := rfl
      show (((x[0]'hsz).toNat : Nat) : Int) = _
      rw [e]
      simp [hl]
    rw [if_neg (by simp), if_pos (by omega), hb]
    have hbl := b.toNat_lt
    have jt : (b.toNat = 92 ∨ b.toNat = 39) → spinneyref02_escaped.j0 20 x (b.toNat : Int) true = some (escL (b :: t)) := by
      intro h
      rw [spinneyref02_escaped.j0, if_pos rfl, if_pos (by omega), hb, escL, if_pos h]
      have : wrap32 (b.toNat : Int) = (b.toNat : Int) := by unfold wrap32; omega
      rw [this]
    by_cases h92 : b.toNat = 92
    · rw [if_pos (by omega), beq_iff_eq.mpr (by omega), jt (Or.inl h92)]
    rw [if_neg (by omega)]
    by_cases h39 : b.toNat = 39
    · rw [beq_iff_eq.mpr (by omega), jt (Or.inr h39)]
    rw [beq_eq_false_iff_ne.mpr (by omega), spinneyref02_escaped.j0, if_neg (by decide), escL, if_neg (show ¬ (b.toNat = 92 ∨ b.toNat = 39) by omega)]
    by_cases c1 : b.toNat = 110
    · rw [if_pos (by omega), if_pos c1]
    rw [if_neg (show ¬ (b.toNat : Int) = 110 by omega), if_neg c1]
    by_cases c2 : b.toNat = 116
    · rw [if_pos (by omega), if_pos c2]
    rw [if_neg (show ¬ (b.toNat : Int) = 116 by omega), if_neg c2]
    by_cases c3 : b.toNat = 120
    · rw [if_pos (by omega), if_pos c3]
      exact ref_esc_loop x hx b 6 19 0 [] t (by rw [hl]; rfl) rfl (by simp) (by simp) (by omega)
    · rw [if_neg (by omega), if_neg c3]

end Go.Proofs.YtjichkjnodabiaaDoor.Pure
set_option linter.unusedVariables false
set_option linter.unusedSimpArgs false
namespace Go.Proofs.YtjichkjnodabiaaDoor.Pure
open Go Go.Own Go.RowKit Go.Proofs.YtjichkjnodabiaaDoor.P Go.Proofs.YtjichkjnodabiaaDoorW.PrintWords Go.Proofs.YtjichkjnodabiaaDoorW.PrintLast

open Go.Lib
theorem enc_size (c : Int) : (Utf8.encode c).size ≤ 4 := by
  rw [← data_length, encode_data]
  exact encode_len4 c
theorem decGo (s : ByteArray) (p : Nat) (h : p < s.size) : utf8_DecodeRuneInString.f (s.extract p s.size) = some (((decodeL (s.data.toList.drop p)).1 : Int), ((decodeL (s.data.toList.drop p)).2 : Int)) := by
  unfold utf8_DecodeRuneInString.f decodeGo
  have hsz : (s.extract p s.size).size = s.size - p := by rw [ByteArray.size_extract]; omega
  have h0 := decodeL_drop (s.extract p s.size) 0
  rw [List.drop_zero, ext_drop] at h0
  rw [if_neg (by omega), ← h0]
theorem wr64n (a b : Nat) (h : a + b ≤ 1000000) : wrap64 ((a : Int) + (b : Int)) = ((a + b : Nat) : Int) := by unfold wrap64; omega
theorem ne1 {d : Nat} (h : ¬ d = 1) : ¬ (d : Int) = 1 := by omega
theorem eq1 {d : Nat} (h : d = 1) : (d : Int) = 1 := by omega
theorem neF {d : Nat} (h : ¬ d = 65533) : ¬ (d : Int) = 65533 := by omega
theorem eqF {d : Nat} (h : d = 65533) : (d : Int) = 65533 := by omega
theorem szfit {a b p n : Nat} (h : a ≤ 4 * p) (h2 : b ≤ 4) (h3 : p ≤ n) (h4 : n ≤ 100000) : a + b ≤ 9223372036854775807 := by omega
theorem ref_read_loop (s : ByteArray) (hs : s.size ≤ 100000) : ∀ (g p k : Nat) (out : ByteArray), p ≤ s.size → s.size < p + g → g + 30 ≤ k → out.size ≤ 4 * p →
    ∃ o, spinneyref02_Read.l0 k s out (p : Int) = some (o, (readP g (s.data.toList.drop p) p out.data.toList).2.1, (readP g (s.data.toList.drop p) p out.data.toList).2.2) ∧ o.data.toList = (readP g (s.data.toList.drop p) p out.data.toList).1
  | 0, p, k, out, h1, h2, h3, h4 => by omega
  | g + 1, p, k, out, h1, h2, h3, h4 => by
    obtain ⟨k, rfl⟩ : ∃ j, k = j + 1 := ⟨k - 1, by omega⟩
    have hlen := data_length s
    have fail : ∀ R : List UInt8 × Int × Int, R = ([], 0, 20) → ∃ o, (some ((⟨#[]⟩ : ByteArray), (0 : Int), (20 : Int)) : Option (ByteArray × Int × Int)) = some (o, R.2.1, R.2.2) ∧ o.data.toList = R.1 := fun R h => ⟨⟨#[]⟩, by rw [h], by rw [h]⟩
    rw [spinneyref02_Read.l0]
    by_cases hp : p < s.size
    · have hne : s.data.toList.drop p ≠ [] := by
        intro e
        have := congrArg List.length e
        simp only [List.length_drop, List.length_nil] at this
        omega
      have hw := decodeL_width (s.data.toList.drop p)
      have hle := decodeL_le _ hne
      rw [List.length_drop] at hle
      have hd1 : (s.data.toList.drop p).drop 1 = s.data.toList.drop (p + 1) := by rw [List.drop_drop]
      have hw1 : wrap64 ((p : Int) + 1) = ((p + 1 : Nat) : Int) := by unfold wrap64; omega
      have hw2 : wrap64 ((p : Int) + 2) = ((p + 2 : Nat) : Int) := by unfold wrap64; omega
      have next : ∀ (d : Nat) (c : Int), 1 ≤ d → p + d ≤ s.size → ∃ o, spinneyref02_Read.l0 k s (out ++ Utf8.encode c) ((p + d : Nat) : Int) = some (o, (readP g (s.data.toList.drop (p + d)) (p + d) (out.data.toList ++ encodeRune c)).2.1, (readP g (s.data.toList.drop (p + d)) (p + d) (out.data.toList ++ encodeRune c)).2.2) ∧ o.data.toList = (readP g (s.data.toList.drop (p + d)) (p + d) (out.data.toList ++ encodeRune c)).1 := by
        intro d c hd1 hd2
        have := ref_read_loop s hs g (p + d) k (out ++ Utf8.encode c) hd2 (by omega) (by omega) (by rw [ByteArray.size_append]; have := enc_size c; omega)
        rw [app_data, encode_data] at this
        exact this
      rw [if_pos (by omega), if_pos (by omega), if_pos (by omega), Int.toNat_natCast, decGo s p hp, Option.bind_some, readP, if_neg hne]
      dsimp only
      by_cases c39 : (decodeL (s.data.toList.drop p)).1 = 39
      · rw [if_pos (show ((decodeL (s.data.toList.drop p)).1 : Int) = 39 by omega), if_pos c39, hw1, hd1]
        by_cases hb : (s.data.toList.drop (p + 1)).take 1 = [39]
        · have hl := congrArg List.length hb
          rw [List.length_take, List.length_drop] at hl
          simp only [List.length_cons, List.length_nil] at hl
          have hp1 : p + 1 < s.size := by omega
          have hbt : bt s ((p + 1 : Nat) : Int) = 39 := by
            rw [← bt_at s _ (by simpa using hp1)]
            simp only [Int.toNat_natCast]
            have hd := bt_drop hp1
            rw [hd] at hb
            simp at hb
            rw [hb]
            rfl
          have e39 : encodeRune ((decodeL (s.data.toList.drop p)).1 : Int) = [39] := by rw [c39]; rfl
          have hsz := enc_size ((decodeL (s.data.toList.drop p)).1 : Int)
          rw [if_neg (by omega), if_pos (by omega), if_pos (by omega), if_pos hbt, if_pos (by omega), if_pos hb, hw2, List.drop_drop]
          have := next 2 ((decodeL (s.data.toList.drop p)).1 : Int) (by omega) (by omega)
          rw [e39] at this
          exact this
        · rw [if_neg hb]
          have fin : ∃ o, (some (out, ((p + 1 : Nat) : Int), (0 : Int)) : Option (ByteArray × Int × Int)) = some (o, ((p + 1 : Nat) : Int), (0 : Int)) ∧ o.data.toList = out.data.toList := ⟨out, rfl, rfl⟩
          by_cases hp1 : p + 1 < s.size
          · have hbt : ¬ bt s ((p + 1 : Nat) : Int) = 39 := by
              intro h
              apply hb
              rw [← bt_at s _ (by simpa using hp1)] at h
              simp only [Int.toNat_natCast] at h
              rw [bt_drop hp1, List.take_succ_cons, List.take_zero]
              congr 1
              exact UInt8.toNat_inj.1 (by show (s[p + 1]'hp1).toNat = 39; omega)
            rw [if_neg (by omega), if_pos (by omega), if_pos (by omega), if_neg hbt]
            exact fin
          · rw [if_pos (by omega)]
            exact fin
      rw [if_neg (show ¬ ((decodeL (s.data.toList.drop p)).1 : Int) = 39 by omega), if_neg c39]
      by_cases c92 : (decodeL (s.data.toList.drop p)).1 = 92
      · rw [if_pos (show ((decodeL (s.data.toList.drop p)).1 : Int) = 92 by omega), if_pos c92, hw1, if_pos (by omega), if_pos (by omega), Int.toNat_natCast, ref_esc _ (by rw [ByteArray.size_extract]; omega) k (by omega), Option.bind_some, ext_drop, hd1]
        have hea := esc_ascii (s.data.toList.drop (p + 1))
        generalize escL (s.data.toList.drop (p + 1)) = er at hea ⊢
        by_cases hm : er.2 = 0
        · rw [if_pos hm, if_pos hm]
          exact fail _ rfl
        · rw [if_neg hm, if_neg hm]
          obtain ⟨m1, m2, m3, -, -⟩ := hea hm
          rw [List.length_drop] at m2
          have hsz := enc_size er.1
          have hw3 : wrap64 ((p : Int) + wrap64 (er.2 + 1)) = ((p + (1 + er.2.toNat) : Nat) : Int) := by
            have : wrap64 (er.2 + 1) = er.2 + 1 := by unfold wrap64; omega
            rw [this]
            unfold wrap64
            omega
          rw [if_pos (by omega), hw3, List.drop_drop, Nat.add_assoc]
          exact next (1 + er.2.toNat) er.1 (by omega) (by omega)
      rw [if_neg (show ¬ ((decodeL (s.data.toList.drop p)).1 : Int) = 92 by omega), if_neg c92]
      by_cases c32 : (decodeL (s.data.toList.drop p)).1 < 32
      · rw [if_pos (show ((decodeL (s.data.toList.drop p)).1 : Int) < 32 by omega), if_pos c32]
        exact fail _ rfl
      rw [if_neg (show ¬ ((decodeL (s.data.toList.drop p)).1 : Int) < 32 by omega), if_neg c32]
      have hsz := enc_size ((decodeL (s.data.toList.drop p)).1 : Int)
      have hpd : p + (decodeL (s.data.toList.drop p)).2 ≤ s.size := by omega
      have hw4 := wr64n p (decodeL (s.data.toList.drop p)).2 (Nat.le_trans hpd (Nat.le_trans hs (by decide)))
      have hn := next (decodeL (s.data.toList.drop p)).2 ((decodeL (s.data.toList.drop p)).1 : Int) hw hpd
      have hfit := szfit h4 hsz h1 hs
      by_cases cf : (decodeL (s.data.toList.drop p)).1 = 65533
      · rw [if_pos (eqF cf)]
        by_cases cw : (decodeL (s.data.toList.drop p)).2 = 1
        · rw [if_pos (eq1 cw), if_pos (show _ ∧ _ from ⟨cf, cw⟩)]
          exact fail _ rfl
        · rw [if_neg (ne1 cw), if_neg (show ¬ ((decodeL (s.data.toList.drop p)).1 = 65533 ∧ (decodeL (s.data.toList.drop p)).2 = 1) from fun h => cw h.2), if_pos hfit, hw4, List.drop_drop]
          exact hn
      · rw [if_neg (neF cf), if_neg (show ¬ ((decodeL (s.data.toList.drop p)).1 = 65533 ∧ (decodeL (s.data.toList.drop p)).2 = 1) from fun h => cf h.1), if_pos hfit, hw4, List.drop_drop]
        exact hn
    · rw [if_neg (by omega), readP, if_pos (List.drop_eq_nil_of_le (by omega))]
      exact fail _ rfl
theorem ref_read (a : ByteArray) (hs : a.size ≤ 100000) (k : Nat) (hk : 100040 ≤ k) : ∃ o, spinneyref02_Read.f k a = some (o, (char_Read.val a).2.1, (char_Read.val a).2.2) ∧ o.data.toList = (char_Read.val a).1 := by
  obtain ⟨k, rfl⟩ : ∃ j, k = j + 1 := ⟨k - 1, by omega⟩
  have hlen := data_length a
  have fail : char_Read.val a = ([], 0, 20) → ∃ o, (some ((⟨#[]⟩ : ByteArray), (0 : Int), (20 : Int)) : Option (ByteArray × Int × Int)) = some (o, (char_Read.val a).2.1, (char_Read.val a).2.2) ∧ o.data.toList = (char_Read.val a).1 := fun h => ⟨⟨#[]⟩, by rw [h], by rw [h]⟩
  unfold spinneyref02_Read.f
  rw [ByteArray.toList_eq]
  have jt : spinneyref02_Read.j0 (k + 1) a true = some ((⟨#[]⟩ : ByteArray), (0 : Int), (20 : Int)) := by rw [spinneyref02_Read.j0, if_pos rfl]
  by_cases h0 : a.data.toList = []
  · rw [if_pos h0, jt]
    exact fail (read_shut a (fun t ht => by rw [h0] at ht; cases ht))
  rw [if_neg h0]
  have hsz : 0 < a.size := by
    have := List.length_pos_iff.2 h0
    omega
  have hd := bt_drop hsz
  rw [List.drop_zero] at hd
  rw [if_pos (by omega)]
  have hb : bt a 0 = ((a[0]'hsz).toNat : Int) := (bt_at a 0 hsz).symm
  by_cases h39 : bt a 0 = 39
  · have hn : (bt a 0 != 39) = false := by rw [h39]; rfl
    rw [hn, spinneyref02_Read.j0, if_neg (by decide)]
    have he : a[0]'hsz = 39 := UInt8.toNat_inj.1 (by show (a[0]'hsz).toNat = 39; omega)
    rw [he] at hd
    have hv := read_val a (by omega) _ hd
    have hl := ref_read_loop a hs (a.size + 1) 1 k (⟨#[]⟩ : ByteArray) (by omega) (by omega) (by omega) (by show 0 ≤ _; omega)
    rw [hv]
    exact hl
  · have hn : (bt a 0 != 39) = true := by simpa using h39
    rw [hn, jt]
    refine fail (read_shut a (fun t ht => h39 ?_))
    rw [ht] at hd
    injection hd with hd _
    rw [hb, ← hd]
    rfl

end Go.Proofs.YtjichkjnodabiaaDoor.Pure
set_option linter.unusedVariables false
set_option linter.unusedSimpArgs false
namespace Go.Proofs.YtjichkjnodabiaaDoor.Pure
open Go Go.Own Go.RowKit Go.Proofs.YtjichkjnodabiaaDoor.P Go.Proofs.YtjichkjnodabiaaDoorW.PrintWords Go.Proofs.YtjichkjnodabiaaDoorW.PrintLast

/-- a token of the program, as the reference tells it -/
def RelT (P : Nat) (o : Option (Int × ByteArray × Int × Nat)) (r : Option (Int × ByteArray × Int × Int × Int × Bool)) : Prop :=
  match o with
  | some (a, b, c, n) => r = some (a, b, c, (P : Int), ((P + n : Nat) : Int), true)
  | none => ∃ q, r = some q ∧ q.2.2.2.2.2 = false
theorem bind6 (x : Option (Int × ByteArray × Int × Int × Int × Bool)) : (x.bind fun b => some (b.1, b.2.1, b.2.2.1, b.2.2.2.1, b.2.2.2.2.1, b.2.2.2.2.2)) = x := by
  cases x <;> rfl
theorem rel_some {P : Nat} {a : Int} {b : ByteArray} {c : Int} {n : Nat} {r : Option (Int × ByteArray × Int × Int × Int × Bool)} (h : r = some (a, b, c, (P : Int), ((P + n : Nat) : Int), true)) : RelT P (some (a, b, c, n)) r := h
theorem rel_get {P : Nat} {a : Int} {b : ByteArray} {c : Int} {n : Nat} {r : Option (Int × ByteArray × Int × Int × Int × Bool)} (h : RelT P (some (a, b, c, n)) r) : r = some (a, b, c, (P : Int), ((P + n : Nat) : Int), true) := h
theorem rel_no {P : Nat} {r : Option (Int × ByteArray × Int × Int × Int × Bool)} (h : RelT P none r) : ∃ q, r = some q ∧ q.2.2.2.2.2 = false := h
theorem rel_none {P : Nat} {r : Option (Int × ByteArray × Int × Int × Int × Bool)} {q : Int × ByteArray × Int × Int × Int × Bool} (h : r = some q) (h2 : q.2.2.2.2.2 = false) : RelT P none r := ⟨q, h, h2⟩
attribute [irreducible] RelT
theorem own_rel (src : ByteArray) (hs : src.size ≤ 5000) (P n : Nat) (kd : Int) (h : P + n ≤ src.size) (hk : kd = 1 ∨ kd = 3 ∨ kd = 4 ∨ n ≤ 255) :
    RelT P (token_Cut.ownT (sfx src P) kd n) (spinneyref05_own.f src P kd ((P + n : Nat) : Int)) := by
  have hw : wrap64 (((P + n : Nat) : Int) - (P : Int)) = (n : Int) := by unfold wrap64; omega
  have e1 : ((P + n : Nat) : Int).toNat = P + n := rfl
  have e2 : ((P : Nat) : Int).toNat = P := rfl
  have c0 : (0 : Int) ≤ (P : Int) := by omega
  have c1 : (P : Int) ≤ ((P + n : Nat) : Int) := by omega
  have c2 : ((P + n : Nat) : Int) ≤ (src.size : Int) := by omega
  unfold spinneyref05_own.f token_Cut.ownT
  rw [hw, sfx_take src P n h, e1, e2]
  simp only [if_pos c0, if_pos c1, if_pos c2]
  by_cases h5 : 255 < n
  · have g5 : (n : Int) > 255 := by omega
    rw [if_pos g5]
    by_cases k1 : kd = 1
    · have g : 255 < n ∧ kd ≠ 4 := ⟨h5, by omega⟩
      rw [if_pos k1, if_pos g]
      exact rel_none rfl rfl
    · rw [if_neg k1]
      by_cases k4 : kd = 4
      · have g : ¬ (255 < n ∧ kd ≠ 4) := fun x => x.2 k4
        have : (kd == 3) = false := by rw [k4]; rfl
        rw [if_neg g, this]
        exact rel_some rfl
      · have k3 : kd = 3 := by omega
        have g : 255 < n ∧ kd ≠ 4 := ⟨h5, k4⟩
        rw [if_pos g]
        exact rel_none rfl (by rw [k3]; rfl)
  · have g5 : ¬ (n : Int) > 255 := by omega
    have g : ¬ (255 < n ∧ kd ≠ 4) := fun x => h5 x.1
    rw [if_neg g5, if_neg g]
    exact rel_some rfl
/-- the digits, read -/
def numRd (k : Nat) (src : ByteArray) (x1 : Int) (x48 : Int) (x481 : ByteArray) (x483 : Int) : Option (Int × ByteArray × Int × Int × Int × Bool) :=
  (spinneyref05_run.f k src x1 (([3] : List Int))).bind fun t153 => (if 0 ≤ x1 then (if x1 ≤ t153 then (if t153 ≤ (src.size : Int) then (if 1 + (src.extract (x1 : Int).toNat (t153 : Int).toNat).size ≤ 9223372036854775807 then ((spinneyref01_Read.f k ((⟨#[45]⟩ : ByteArray) ++ (src.extract (x1 : Int).toNat (t153 : Int).toNat))).bind fun bt154 => (some (x48, x481, wrap64 (-bt154.1), x483, t153, (bt154.2 == 0)))) else (none)) else (none)) else (none)) else (none))
theorem wh_sfx (src : ByteArray) (P : Nat) (hP : P ≤ src.size) (q : Int → Bool) : P + token_Cut.wh q (sfx src P) ≤ src.size := by
  have := token_Cut.wh_le q (sfx src P)
  rw [sfx_size] at this
  omega
theorem num_rd (src : ByteArray) (hs : src.size ≤ 5000) (P : Nat) (hP : P ≤ src.size) (k : Nat) (hk : 30000 ≤ k) :
    RelT P (token_Cut.numB (sfx src P)) (numRd k src P 5 (⟨#[]⟩ : ByteArray) P) := by
  unfold numRd
  rw [run_wh src hs [3] (by decide) token_Cut.qdigit rfl in_digit P hP k hk]
  simp only [Option.bind_some]
  have hle := wh_sfx src P hP token_Cut.qdigit
  unfold token_Cut.numB
  generalize token_Cut.wh token_Cut.qdigit (sfx src P) = n at hle ⊢
  have e1 : ((P + n : Nat) : Int).toNat = P + n := rfl
  have e2 : ((P : Nat) : Int).toNat = P := rfl
  rw [e1, e2, sfx_take src P n hle]
  have hx : (src.extract P (P + n)).size = n := by rw [ByteArray.size_extract]; omega
  have c0 : (0 : Int) ≤ (P : Int) := by omega
  have c1 : (P : Int) ≤ ((P + n : Nat) : Int) := by omega
  have c2 : ((P + n : Nat) : Int) ≤ (src.size : Int) := by omega
  have c3 : 1 + n ≤ 9223372036854775807 := by omega
  rw [hx, if_pos c0, if_pos c1, if_pos c2, if_pos c3]
  have htz : ((⟨#[45]⟩ : ByteArray) ++ src.extract P (P + n)).size = 1 + n := by rw [ByteArray.size_append, hx]; rfl
  generalize (⟨#[45]⟩ : ByteArray) ++ src.extract P (P + n) = t at htz ⊢
  have hr := TN.refread t (by omega) (k - 2 * t.size - 10)
  rw [show k - 2 * t.size - 10 + 2 * t.size + 10 = k by omega] at hr
  have hf : num_Read.f t = some (readL t.data.toList) := by unfold num_Read.f; rw [if_pos (by omega)]
  rw [hr, hf]
  generalize readL t.data.toList = q
  obtain ⟨a, e⟩ := q
  simp only [Option.bind_some]
  by_cases he : e = 0
  · subst he
    rw [if_pos rfl]
    exact rel_some rfl
  · rw [if_neg he]
    exact rel_none rfl (by simpa using he)
theorem num_j2 (k : Nat) (src : ByteArray) (P : Nat) (c n : Int) (b : Bool) (k0 : Int) (t : ByteArray) (q0 q1 : Int) :
    spinneyref05_number.j2 (k + 1) src P c n b k0 t q0 q1 = if b = true then some (k0, t, wrap64 c, q1, wrap64 ((wrap64 ((P : Int) + 2)) + n), true) else numRd k src P k0 t q1 := rfl
theorem go_zero (s : ByteArray) (h : (Lib.decodeGo s).2 = 0) : (Lib.decodeGo s).1 = 65533 := by
  unfold Lib.decodeGo at h ⊢
  by_cases h0 : s.size = 0
  · rw [if_pos h0]
  · rw [if_neg h0] at h
    have h1 : 0 < s.size := by omega
    have := Lib.decode_width_pos s 0 h1
    omega
/-- what stands behind 0' -/
theorem num_j1 (src : ByteArray) (hs : src.size ≤ 5000) (P : Nat) (hP : P + 2 ≤ src.size) (k : Nat) (hk : 30000 ≤ k) (b : Bool) (hb : strings_HasPrefix.f (sfx src (P + 2)) (⟨#[39, 39]⟩ : ByteArray) = some b) :
    RelT P (match token_Cut.numA (sfx src (P + 2)) with | some (N, n) => some (5, ⟨#[]⟩, N, n) | none => token_Cut.numB (sfx src P)) (spinneyref05_number.j1 (k + 2) src P (sfx src (P + 2)) b 5 (⟨#[]⟩ : ByteArray) 0 P) := by
  have hrd := num_rd src hs P (by omega) k hk
  generalize hX : token_Cut.numB (sfx src P) = X at hrd ⊢
  generalize hY : numRd k src P 5 (⟨#[]⟩ : ByteArray) P = Y at hrd
  rw [spinneyref05_number.j1]
  have hA : token_Cut.numA (sfx src (P + 2)) = if b = true then some (39, 4)
      else if 32 ≤ (Lib.decodeGo (sfx src (P + 2))).1 ∧ (Lib.decodeGo (sfx src (P + 2))).1 ≠ 39 ∧ (Lib.decodeGo (sfx src (P + 2))).1 ≠ 92 ∧ ((Lib.decodeGo (sfx src (P + 2))).1 ≠ 65533 ∨ 1 < (Lib.decodeGo (sfx src (P + 2))).2) then some (((Lib.decodeGo (sfx src (P + 2))).1 : Int), 2 + (Lib.decodeGo (sfx src (P + 2))).2)
      else none := by
    unfold token_Cut.numA
    rw [hb]
    cases b <;> rfl
  rw [hA]
  clear hA
  cases b with
  | true =>
    rw [if_pos rfl, if_pos rfl]
    have w4 : wrap64 ((P : Int) + 4) = ((P + 4 : Nat) : Int) := wr1 P 4 (by omega)
    rw [w4]
    exact rel_some rfl
  | false =>
    have nt : ¬ (false = true) := by decide
    rw [if_neg nt, if_neg nt]
    unfold utf8_DecodeRuneInString.f
    simp only [Option.bind_some]
    have hlo := token_Cut.go_rune (sfx src (P + 2))
    have hle := token_Cut.go_le (sfx src (P + 2))
    rw [sfx_size] at hle
    have hz : (Lib.decodeGo (sfx src (P + 2))).2 = 0 → (Lib.decodeGo (sfx src (P + 2))).1 = 65533 := by
      intro h
      exact go_zero _ h
    generalize Lib.decodeGo (sfx src (P + 2)) = q at hlo hle hz ⊢
    obtain ⟨c, n⟩ := q
    dsimp only at hlo hle hz ⊢
    have jf : spinneyref05_number.j2 (k + 1) src P c n false 5 (⟨#[]⟩ : ByteArray) 0 P = Y := by
      rw [num_j2, if_neg nt, hY]
    have jt : spinneyref05_number.j2 (k + 1) src P c n true 5 (⟨#[]⟩ : ByteArray) 0 P = some (5, ⟨#[]⟩, (c : Int), (P : Int), ((P + (2 + n) : Nat) : Int), true) := by
      have w1 : wrap64 (c : Int) = (c : Int) := by unfold wrap64; omega
      have w2 : wrap64 (wrap64 ((P : Int) + 2) + (n : Int)) = ((P + (2 + n) : Nat) : Int) := by unfold wrap64; omega
      rw [num_j2, if_pos rfl, w1, w2]
    by_cases ok : 32 ≤ c ∧ c ≠ 39 ∧ c ≠ 92 ∧ (c ≠ 65533 ∨ 1 < n)
    · rw [if_pos ok]
      obtain ⟨o1, o2, o3, o4⟩ := ok
      have hn0 : n ≠ 0 := fun h => by have := hz h; omega
      have h92 : ((c : Int) != 92) = true := by simp; omega
      rw [if_pos (by omega), if_pos (show (c : Int) ≥ 32 by omega), if_neg (show ¬ (c : Int) = 39 by omega), h92]
      by_cases hF : (c : Int) = 65533
      · rw [if_pos hF, if_neg (by omega), jt]; exact rel_some rfl
      · rw [if_neg hF, jt]; exact rel_some rfl
    · rw [if_neg ok]
      by_cases hn0 : (n : Int) > 0
      · rw [if_pos hn0]
        by_cases h32 : (c : Int) ≥ 32
        · by_cases h39 : (c : Int) = 39
          · rw [if_neg (show ¬ (c : Int) = 65533 by omega), if_pos h32, if_pos h39, jf]
            exact hrd
          · by_cases h92 : (c : Int) = 92
            · have e92 : ((c : Int) != 92) = false := by rw [h92]; rfl
              rw [if_neg (show ¬ (c : Int) = 65533 by omega), if_pos h32, if_neg h39, e92, jf]
              exact hrd
            · have hF : (c : Int) = 65533 := by omega
              have h1 : (n : Int) = 1 := by omega
              rw [if_pos hF, if_pos h1, jf]
              exact hrd
        · rw [if_neg (show ¬ (c : Int) = 65533 by omega), if_neg h32, jf]
          exact hrd
      · rw [if_neg hn0, jf]
        exact hrd
theorem number_rel (src : ByteArray) (hs : src.size ≤ 5000) (P : Nat) (hP : P < src.size) (k : Nat) (hk : 30010 ≤ k) :
    RelT P (token_Cut.num (sfx src P)) (spinneyref05_number.f k src P) := by
  obtain ⟨k, rfl⟩ : ∃ m, k = m + 3 := ⟨k - 3, by omega⟩
  have hcut := cut2 (sfx src P) 48 39
  rw [take2 src P 48 39 hP] at hcut
  have e48 : ((48 : UInt8).toNat : Int) = 48 := rfl
  have e39 : ((39 : UInt8).toNat : Int) = 39 := rfl
  rw [e48, e39] at hcut
  have hrd := num_rd src hs P (by omega) (k + 2) (by omega)
  have jf : spinneyref05_number.j0 (k + 3) src P false 5 (⟨#[]⟩ : ByteArray) 0 P = numRd (k + 2) src P 5 (⟨#[]⟩ : ByteArray) P := by
    rw [spinneyref05_number.j0, if_neg (by decide)]; rfl
  have w1 : wrap64 ((P : Int) + 1) = ((P + 1 : Nat) : Int) := wr1 P 1 (by omega)
  have w2 : wrap64 ((P : Int) + 2) = ((P + 2 : Nat) : Int) := wr1 P 2 (by omega)
  unfold spinneyref05_number.f token_Cut.num
  rw [if_pos (by omega), if_pos (by omega), w1]
  have no : (decide (bt src (P : Int) = 48) && (decide (P + 1 < src.size) && decide (bt src ((P + 1 : Nat) : Int) = 39))) = false → RelT P (match strings_CutPrefix.f (sfx src P) (⟨#[48, 39]⟩ : ByteArray) with
      | some (rest, true) => (match token_Cut.numA rest with | some (N, n) => some (5, ⟨#[]⟩, N, n) | none => token_Cut.numB (sfx src P))
      | _ => token_Cut.numB (sfx src P)) (spinneyref05_number.j0 (k + 3) src P false 5 (⟨#[]⟩ : ByteArray) 0 P) := by
    intro h
    rw [hcut, h, if_neg (by decide), jf]
    exact hrd
  by_cases c48 : bt src (P : Int) = 48
  · rw [if_pos c48]
    by_cases h1 : P + 1 < src.size
    · rw [if_pos (by omega), if_pos (by omega)]
      by_cases c39 : bt src ((P + 1 : Nat) : Int) = 39
      · rw [hcut, decide_eq_true c48, decide_eq_true h1, decide_eq_true c39]
        have b39 : (bt src ((P + 1 : Nat) : Int) == 39) = true := by rw [c39]; rfl
        have tt : (true && (true && true)) = true := rfl
        have e2 : (((P + 2 : Nat) : Int)).toNat = P + 2 := rfl
        have hx : src.extract (P + 2) src.size = sfx src (P + 2) := rfl
        have d0 : (0 : Int) ≤ ((P + 2 : Nat) : Int) := by omega
        have d1 : ((P + 2 : Nat) : Int) ≤ (src.size : Int) := by omega
        rw [if_pos tt, b39, spinneyref05_number.j0, w2, e2, hx, sfx_sfx]
        simp only [if_true, if_pos d0, if_pos d1]
        have hpre := pre2 (sfx src (P + 2)) 39 39
        by_cases hz : P + 2 < src.size
        · rw [take2 src (P + 2) 39 39 hz, e39, ← bt_sfx0] at hpre
          by_cases hz1 : P + 2 + 1 < src.size
          · rw [if_pos (by rw [sfx_size]; omega), if_pos (by rw [sfx_size]; omega)]
            by_cases q1 : bt (sfx src (P + 2)) 0 = 39
            · rw [if_pos q1, if_pos (by rw [sfx_size]; omega)]
              refine num_j1 src hs P (by omega) k (by omega) _ ?_
              rw [hpre, decide_eq_true q1, decide_eq_true hz1]
              have := bt_sfx src (P + 2) 1
              have e1 : ((1 : Nat) : Int) = 1 := rfl
              rw [e1] at this
              rw [this]
              rfl
            · rw [if_neg q1]
              refine num_j1 src hs P (by omega) k (by omega) _ ?_
              rw [hpre, decide_eq_false q1]; rfl
          · rw [if_neg (by rw [sfx_size]; omega)]
            refine num_j1 src hs P (by omega) k (by omega) _ ?_
            rw [hpre, decide_eq_false hz1, Bool.false_and, Bool.and_false]
        · rw [if_neg (by rw [sfx_size]; omega)]
          refine num_j1 src hs P (by omega) k (by omega) _ ?_
          rw [hpre, sfx_list, List.drop_eq_nil_of_le (by rw [← size_list]; omega)]
          rfl
      · have b39 : (bt src ((P + 1 : Nat) : Int) == 39) = false := by simpa using c39
        rw [b39]
        exact no (by rw [decide_eq_false c39, Bool.and_false, Bool.and_false])
    · rw [if_neg (by omega)]
      exact no (by rw [decide_eq_false h1, Bool.false_and, Bool.and_false])
  · rw [if_neg c48]
    exact no (by rw [decide_eq_false c48, Bool.false_and])
theorem first_class (src : ByteArray) (P : Nat) (h : P < src.size) : classN ((Lib.decodeGo (sfx src P)).1 : Int) = cb (src.data.toList.drop P) := by
  have hz : (sfx src P).size ≠ 0 := by rw [sfx_size]; omega
  rw [cb_bt src P h]
  rcases first_rune _ hz with e | ⟨e1, e2⟩
  · rw [e]
  · rw [class_high _ e1]
    obtain ⟨b, hb⟩ : ∃ b : Nat, bt (sfx src P) 0 = (b : Int) := ⟨(bt (sfx src P) 0).toNat, by omega⟩
    rw [hb, class_high b (by omega)]
theorem first_is (src : ByteArray) (P : Nat) (h : P < src.size) (v : Int) (hv : v < 128) : ((Lib.decodeGo (sfx src P)).1 : Int) = v ↔ bt src (P : Int) = v := by
  have hz : (sfx src P).size ≠ 0 := by rw [sfx_size]; omega
  rw [← bt_sfx0]
  rcases first_rune _ hz with e | ⟨e1, e2⟩
  · rw [e]
  · constructor <;> intro <;> omega
theorem token_rel (src : ByteArray) (hs : src.size ≤ 5000) (P : Nat) (hP : P < src.size) (gl : Bool) (k : Nat) (hk : 110000 ≤ k) :
    RelT P (token_Cut.tok (sfx src P) gl) (spinneyref05_token.f k src P gl) := by
  obtain ⟨k, rfl⟩ : ∃ m, k = m + 1 := ⟨k - 1, by omega⟩
  unfold spinneyref05_token.f token_Cut.tok
  rw [rclass src P (k + 1) (by omega), first_class src P hP]
  simp only [Option.bind_some, bind6]
  generalize cb (src.data.toList.drop P) = c
  have w1 : wrap64 ((P : Int) + 1) = ((P + 1 : Nat) : Int) := wr1 P 1 (by omega)
  have own1 : ∀ kd : Int, RelT P (token_Cut.ownT (sfx src P) kd 1) (spinneyref05_own.f src P kd ((P + 1 : Nat) : Int)) := fun kd => own_rel src hs P 1 kd (by omega) (by omega)
  by_cases c1 : c = 1
  · rw [if_pos c1, if_pos c1, run_wh src hs [1, 2, 3] (by decide) token_Cut.qword rfl in_word P (by omega) (k + 1) (by omega)]
    exact own_rel src hs P _ 1 (wh_sfx src P (by omega) _) (.inl rfl)
  rw [if_neg c1, if_neg c1]
  by_cases c2 : c = 2
  · rw [if_pos c2, if_pos c2, run_wh src hs [1, 2, 3] (by decide) token_Cut.qword rfl in_word P (by omega) (k + 1) (by omega)]
    exact own_rel src hs P _ 4 (wh_sfx src P (by omega) _) (by omega)
  rw [if_neg c2, if_neg c2]
  by_cases c3 : c = 3
  · rw [if_pos c3, if_pos c3]
    exact number_rel src hs P hP (k + 1) (by omega)
  rw [if_neg c3, if_neg c3]
  by_cases c4 : c = 4
  · rw [if_pos c4, if_pos c4, run_wh src hs [4] (by decide) token_Cut.qsign rfl in_sign P (by omega) (k + 1) (by omega)]
    simp only [Option.bind_some]
    have hle := wh_sfx src P (by omega) token_Cut.qsign
    generalize token_Cut.wh token_Cut.qsign (sfx src P) = n at hle ⊢
    have c0 : (0 : Int) ≤ (P : Int) := by omega
    have c1 : (P : Int) ≤ ((P + n : Nat) : Int) := by omega
    have c2 : ((P + n : Nat) : Int) ≤ (src.size : Int) := by omega
    have e1 : ((P + n : Nat) : Int).toNat = P + n := rfl
    have e2 : ((P : Nat) : Int).toNat = P := rfl
    rw [e1, e2, ← sfx_take src P n hle]
    simp only [if_pos c0, if_pos c1, if_pos c2]
    rw [sfx_sfx, sfx_size]
    have jt : (sfx src P).extract 0 n ≠ (sfx src P).extract 0 n ∨ ((sfx src P).extract 0 n).toList = ([46] : List UInt8) → RelT P (token_Cut.ownT (sfx src P) 8 n) (spinneyref05_token.j0 (k + 1) src P ((P + n : Nat) : Int) true) := by
      intro h
      have h46 : ((sfx src P).extract 0 n).toList = ([46] : List UInt8) := by
        rcases h with h | h
        · exact absurd rfl h
        · exact h
      have hl : ((sfx src P).extract 0 n).size = 1 := by
        rw [ByteArray.toList_eq] at h46
        rw [size_list, h46]; rfl
      rw [ByteArray.size_extract, sfx_size] at hl
      rw [spinneyref05_token.j0, if_pos rfl, bind6]
      exact own_rel src hs P n 8 hle (by omega)
    have jf : RelT P (token_Cut.ownT (sfx src P) 3 n) (spinneyref05_token.j0 (k + 1) src P ((P + n : Nat) : Int) false) := by
      rw [spinneyref05_token.j0, if_neg (by decide), bind6]
      exact own_rel src hs P n 3 hle (by omega)
    by_cases h46 : ((sfx src P).extract 0 n).toList = ([46] : List UInt8)
    · rw [if_pos h46]
      by_cases hend : P + n = src.size
      · rw [if_pos (show ((P + n : Nat) : Int) = (src.size : Int) by omega), if_pos ⟨h46, .inl (by omega)⟩]
        exact jt (.inr h46)
      · rw [if_neg (show ¬ ((P + n : Nat) : Int) = (src.size : Int) by omega), rclass src (P + n) (k + 1) (by omega), first_class src (P + n) (by omega)]
        simp only [Option.bind_some]
        by_cases h5 : cb (src.data.toList.drop (P + n)) = 5
        · rw [if_pos h5, if_pos ⟨h46, .inr (.inr h5)⟩]
          exact jt (.inr h46)
        · have c3 : (0 : Int) ≤ ((P + n : Nat) : Int) := by omega
          have c4 : ((P + n : Nat) : Int) < (src.size : Int) := by omega
          rw [if_neg h5, if_pos c3, if_pos c4]
          by_cases h37 : bt src ((P + n : Nat) : Int) = 37
          · have e : (bt src ((P + n : Nat) : Int) == 37) = true := by rw [h37]; rfl
            have g := (first_is src (P + n) (by omega) 37 (by omega)).2 h37
            rw [e, if_pos ⟨h46, .inr (.inl g)⟩]
            exact jt (.inr h46)
          · have e : (bt src ((P + n : Nat) : Int) == 37) = false := by simpa using h37
            have g : ¬ (((sfx src P).extract 0 n).toList = ([46] : List UInt8) ∧ (n = src.size - P ∨ ((Lib.decodeGo (sfx src (P + n))).1 : Int) = 37 ∨ cb (src.data.toList.drop (P + n)) = 5)) := by
              rintro ⟨-, h | h | h⟩
              · omega
              · exact h37 ((first_is src (P + n) (by omega) 37 (by omega)).1 h)
              · exact h5 h
            rw [e, if_neg g]
            exact jf
    · rw [if_neg h46, if_neg (fun h => h46 h.1)]
      exact jf
  rw [if_neg c4, if_neg c4]
  by_cases c6 : c = 6
  · have d0 : (0 : Int) ≤ (P : Int) := by omega
    have d1 : (P : Int) < (src.size : Int) := by omega
    rw [if_pos c6, if_pos c6, if_pos d0, if_pos d1]
    have jt : RelT P (token_Cut.ownT (sfx src P) 1 1) (spinneyref05_token.j1 (k + 1) src P true) := by
      rw [spinneyref05_token.j1, if_pos rfl, bind6, w1]; exact own1 1
    have jf : RelT P (token_Cut.ownT (sfx src P) 6 1) (spinneyref05_token.j1 (k + 1) src P false) := by
      rw [spinneyref05_token.j1, if_neg (by decide), bind6, w1]; exact own1 6
    have i33 := first_is src P hP 33 (by omega)
    have i59 := first_is src P hP 59 (by omega)
    by_cases h33 : bt src (P : Int) = 33
    · rw [if_pos h33, if_pos (.inl (i33.2 h33))]; exact jt
    · rw [if_neg h33]
      by_cases h59 : bt src (P : Int) = 59
      · have e : (bt src (P : Int) == 59) = true := by rw [h59]; rfl
        rw [e, if_pos (.inr (i59.2 h59))]; exact jt
      · have e : (bt src (P : Int) == 59) = false := by simpa using h59
        rw [e, if_neg (by rintro (h | h); exact h33 (i33.1 h); exact h59 (i59.1 h))]; exact jf
  rw [if_neg c6, if_neg c6]
  by_cases c7 : c = 7
  · have d0 : (0 : Int) ≤ (P : Int) := by omega
    have d1 : (P : Int) < (src.size : Int) := by omega
    rw [if_pos c7, if_pos c7, if_pos d0, if_pos d1]
    have jt : RelT P (token_Cut.ownT (sfx src P) 7 1) (spinneyref05_token.j2 (k + 1) src P true) := by
      rw [spinneyref05_token.j2, if_pos rfl, bind6, w1]; exact own1 7
    have jf : RelT P (token_Cut.ownT (sfx src P) 6 1) (spinneyref05_token.j2 (k + 1) src P false) := by
      rw [spinneyref05_token.j2, if_neg (by decide), bind6, w1]; exact own1 6
    have i40 := first_is src P hP 40 (by omega)
    by_cases h40 : bt src (P : Int) = 40
    · rw [if_pos h40]
      cases gl with
      | true => rw [if_pos ⟨i40.2 h40, rfl⟩]; exact jt
      | false => rw [if_neg (fun h => absurd h.2 (by decide))]; exact jf
    · rw [if_neg h40, if_neg (fun h => h40 (i40.1 h.1))]; exact jf
  rw [if_neg c7, if_neg c7]
  by_cases c8 : c = 8
  · have d0 : (0 : Int) ≤ (P : Int) := by omega
    have d1 : (P : Int) ≤ (src.size : Int) := by omega
    rw [if_pos c8, if_pos c8, if_pos d0, if_pos d1]
    have e2 : ((P : Nat) : Int).toNat = P := rfl
    have hx : src.extract P src.size = sfx src P := rfl
    have hsz : (sfx src P).size ≤ 5000 := by rw [sfx_size]; omega
    obtain ⟨o, ho, hd⟩ := ref_read (sfx src P) (by omega) (k + 1) (by omega)
    have hoe : o = ⟨(char_Read.val (sfx src P)).1.toArray⟩ := ba_ext (by rw [hd])
    have hf : char_Read.f (sfx src P) = some (o, (char_Read.val (sfx src P)).2.1, (char_Read.val (sfx src P)).2.2) := by
      unfold char_Read.f; rw [if_pos (by omega), hoe]
    rw [e2, hx, ho, hf]
    generalize (char_Read.val (sfx src P)).2.1 = m at hf ⊢
    generalize (char_Read.val (sfx src P)).2.2 = e at hf ⊢
    simp only [Option.bind_some]
    by_cases h0 : e = 0
    · subst h0
      have hr := token_Cut.rd_range (sfx src P) hf
      rw [if_pos rfl]
      by_cases h255 : o.size ≤ 255
      · have g : ¬ ((o.size : Int) > 255) := by omega
        rw [if_neg g, if_pos ⟨rfl, h255⟩]
        have hw : wrap64 ((P : Int) + m) = ((P + m.toNat : Nat) : Int) := by unfold wrap64; omega
        rw [hw]
        exact rel_some rfl
      · have g : ((o.size : Int) > 255) := by omega
        rw [if_pos g, if_neg (fun h => h255 h.2)]
        exact rel_none rfl rfl
    · rw [if_neg h0, if_neg (fun h => h0 h.1)]
      exact rel_none rfl rfl
  rw [if_neg c8, if_neg c8]
  exact rel_none rfl rfl

end Go.Proofs.YtjichkjnodabiaaDoor.Pure
set_option linter.unusedVariables false
set_option linter.unusedSimpArgs false
namespace Go.Proofs.YtjichkjnodabiaaDoor.Pure
open Go Go.Own Go.RowKit Go.Proofs.YtjichkjnodabiaaDoor.P Go.Proofs.YtjichkjnodabiaaDoorW.PrintWords Go.Proofs.YtjichkjnodabiaaDoorW.PrintLast

theorem num_tx {s : ByteArray} {a : Int} {b : ByteArray} {c : Int} {n : Nat} (h : token_Cut.num s = some (a, b, c, n)) : b = ⟨#[]⟩ := by
  have hB : token_Cut.numB s = some (a, b, c, n) → b = ⟨#[]⟩ := by
    intro h
    unfold token_Cut.numB at h
    split at h
    · split at h
      · simp only [Option.some.injEq, Prod.mk.injEq] at h
        exact h.2.1.symm
      · cases h
    · cases h
  unfold token_Cut.num at h
  split at h
  · split at h
    · simp only [Option.some.injEq, Prod.mk.injEq] at h
      exact h.2.1.symm
    · exact hB h
  · exact hB h
theorem own_first {s : ByteArray} (hz : s.size ≠ 0) {kd : Int} {m : Nat} {a : Int} {b : ByteArray} {c : Int} {n : Nat} (h : token_Cut.ownT s kd m = some (a, b, c, n)) (v : UInt8) (hv : b.toList = [v]) : a = kd ∧ bt s 0 = (v.toNat : Int) := by
  unfold token_Cut.ownT at h
  split at h
  · cases h
  · simp only [Option.some.injEq, Prod.mk.injEq] at h
    obtain ⟨h1, h2, h3, h4⟩ := h
    refine ⟨h1.symm, ?_⟩
    rw [← h2, ByteArray.toList_eq] at hv
    have e : (s.extract 0 m).data.toList = s.data.toList.take m := by simp [ByteArray.data_extract, Array.toList_extract]
    rw [e] at hv
    have hb := bt_list s 0
    have e0 : ((0 : Nat) : Int) = 0 := rfl
    rw [e0] at hb
    rw [hb]
    cases hs : s.data.toList with
    | nil => rw [hs] at hv; simp at hv
    | cons x xs =>
      rw [hs] at hv
      cases m with
      | zero => simp at hv
      | succ m =>
        simp only [List.take_succ_cons, List.cons.injEq] at hv
        simp only [List.getD_cons_zero]
        rw [hv.1]
/-- what a token's text of one bracket tells of its kind -/
theorem tok_shut {s : ByteArray} (hz : s.size ≠ 0) {gl : Bool} {a : Int} {b : ByteArray} {c : Int} {n : Nat} (h : token_Cut.tok s gl = some (a, b, c, n)) (v : UInt8) (hv : b.toList = [v]) (h7 : classN (v.toNat : Int) = 7) (hlo : v.toNat < 128) (h40 : v ≠ 40) (h46 : v ≠ 46) :
    a = 1 ∨ a = 2 ∨ a = 3 ∨ a = 6 := by
  have hr := first_rune s hz
  have n40 : (v.toNat : Int) ≠ 40 := fun e => h40 (UInt8.toNat_inj.1 (by show _ = 40; omega))
  have hcl : bt s 0 = (v.toNat : Int) → ((Lib.decodeGo s).1 : Int) = (v.toNat : Int) := by
    intro e
    rcases hr with e2 | ⟨e1, e2⟩
    · rw [e2, e]
    · omega
  unfold token_Cut.tok at h
  split at h
  · exact .inl (own_first hz h v hv).1
  · split at h
    · rename_i c2
      obtain ⟨-, q⟩ := own_first hz h v hv
      rw [hcl q, h7] at c2
      exact absurd c2 (by decide)
    · split at h
      · have := num_tx h
        rw [this, ByteArray.toList_eq] at hv
        simp at hv
      · split at h
        · split at h
          · rename_i c46
            have hb := h
            unfold token_Cut.ownT at hb
            split at hb
            · cases hb
            · simp only [Option.some.injEq, Prod.mk.injEq] at hb
              obtain ⟨-, h2, -, -⟩ := hb
              rw [h2, hv] at c46
              exact absurd (List.cons.inj c46.1).1 h46
          · exact .inr (.inr (.inl (own_first hz h v hv).1))
        · split at h
          · split at h
            · exact .inl (own_first hz h v hv).1
            · exact .inr (.inr (.inr (own_first hz h v hv).1))
          · split at h
            · split at h
              · rename_i c40
                obtain ⟨-, q⟩ := own_first hz h v hv
                exact absurd ((hcl q).symm.trans c40.1) n40
              · exact .inr (.inr (.inr (own_first hz h v hv).1))
            · split at h
              · split at h
                · split at h
                  · simp only [Option.some.injEq, Prod.mk.injEq] at h
                    exact .inr (.inl h.1.symm)
                  · cases h
                · cases h
              · cases h
theorem glues_tok {s : ByteArray} (hz : s.size ≠ 0) {gl : Bool} {a : Int} {b : ByteArray} {c : Int} {n : Nat} (h : token_Cut.tok s gl = some (a, b, c, n)) (p : Int) : spinneyref05_glues.f a b c p = some (token_Cut.glue a b) := by
  unfold spinneyref05_glues.f token_Cut.glue
  have k93 := tok_shut hz h 93
  have k125 := tok_shut hz h 125
  have e93 : b.toList = ([93] : List UInt8) → a = 1 ∨ a = 2 ∨ a = 3 ∨ a = 6 := fun e => k93 e (by decide) (by decide) (by decide) (by decide)
  have e125 : b.toList = ([125] : List UInt8) → a = 1 ∨ a = 2 ∨ a = 3 ∨ a = 6 := fun e => k125 e (by decide) (by decide) (by decide) (by decide)
  by_cases a1 : a = 1
  · rw [if_pos a1, a1]; rfl
  by_cases a2 : a = 2
  · rw [if_neg a1, if_pos a2, a2]; rfl
  by_cases a3 : a = 3
  · rw [if_neg a1, if_neg a2, if_pos a3, a3]; rfl
  have b1 : (a == 1) = false := by simpa using a1
  have b2 : (a == 2) = false := by simpa using a2
  have b3 : (a == 3) = false := by simpa using a3
  rw [if_neg a1, if_neg a2, if_neg a3, b1, b2, b3]
  by_cases a6 : a = 6
  · rw [if_pos a6]
    by_cases c93 : b.toList = ([93] : List UInt8)
    · rw [if_pos c93, c93]; rfl
    · have n93 : (b.toList == ([93] : List UInt8)) = false := by simpa using c93
      rw [if_neg c93, n93]; rfl
  · have n93 : (b.toList == ([93] : List UInt8)) = false := by simpa using fun e => by have := e93 e; omega
    have n125 : (b.toList == ([125] : List UInt8)) = false := by simpa using fun e => by have := e125 e; omega
    rw [if_neg a6, n93, n125]; rfl
/-- whether a bracket right behind the tokens so far is a TOpen -/
def Glued (l : List S30) (gl : Bool) : Prop := (l = [] ∧ gl = false) ∨ ∃ l' t, l = l' ++ [t] ∧ spinneyref05_glues.f t.f0 t.f1 t.f2 t.f3 = some gl
theorem cut_loop (src : ByteArray) (hs : src.size ≤ 4096) : ∀ (n P : Nat) (l : List S30) (gl : Bool) (K : Nat), P ≤ src.size → src.size - P < n → l.length ≤ P → Glued l gl → 120000 + (src.size - P) ≤ K →
    spinneyref05_Cut.l0 K src l P = some (token_Cut.cutF n (sfx src P) P gl l)
  | 0, P, l, gl, K, h, hn, hl, hg, hK => absurd hn (by omega)
  | n + 1, P, l, gl, K, h, hn, hl, hg, hK => by
    obtain ⟨k, rfl⟩ : ∃ k, K = k + 1 := ⟨K - 1, by omega⟩
    obtain ⟨Q, ok, e, q1, q2, hq⟩ := skip_bl src (by omega) (sfx src P).size P gl k h (by rw [sfx_size]; omega) (by omega)
    have hskip : spinneyref05_skip.f k src P = some ((Q : Int), ok) := hq
    have hlen : l.length < 3518437208883 := by omega
    rw [spinneyref05_Cut.l0, hskip, token_Cut.cutF, e]
    simp only [Option.bind_some]
    cases ok with
    | false => rfl
    | true =>
      have tt : (true = true) := rfl
      rw [if_pos tt]
      dsimp only
      by_cases hend : Q = src.size
      · have g1 : ((Q : Int) ≥ (src.size : Int)) := by omega
        have g2 : (sfx src Q).size = 0 := by rw [sfx_size]; omega
        rw [if_pos g1, if_pos hlen, if_pos g2, hend]
      · have g1 : ¬ ((Q : Int) ≥ (src.size : Int)) := by omega
        have g2 : ¬ (sfx src Q).size = 0 := by rw [sfx_size]; omega
        rw [if_neg g1, if_neg g2]
        have cont : ∀ gl2 : Bool, ((spinneyref05_token.f k src Q gl2).bind fun bt => (if bt.2.2.2.2.2 = true then (if l.length < 3518437208883 then (spinneyref05_Cut.l0 k src (l ++ [(⟨bt.1, bt.2.1, bt.2.2.1, bt.2.2.2.1⟩ : S30)]) bt.2.2.2.2.1) else (none)) else (some (([] : List (S30)), (Q : Int), 50)))) =
            some (match token_Cut.tok (sfx src Q) gl2 with
              | none => ([], (Q : Int), 50)
              | some (kd, tx, N, m) => token_Cut.cutF n ((sfx src Q).extract m (sfx src Q).size) ((Q : Int) + m) (token_Cut.glue kd tx) (l ++ [(⟨kd, tx, N, (Q : Int)⟩ : S30)])) := by
          intro gl2
          have hr := token_rel src (by omega) Q (by omega) gl2 k (by omega)
          cases ht : token_Cut.tok (sfx src Q) gl2 with
          | none =>
            rw [ht] at hr
            obtain ⟨q, e1, e2⟩ := rel_no hr
            have nt : ¬ (false = true) := by decide
            rw [e1]
            simp only [Option.bind_some]
            rw [e2, if_neg nt]
          | some r =>
            obtain ⟨kd, tx, N, m⟩ := r
            rw [ht] at hr
            have e1 := rel_get hr
            have hm := token_Cut.tok_pos g2 ht
            have hle := (tok_le g2 ht).1
            rw [sfx_size] at hle
            rw [e1]
            simp only [Option.bind_some]
            rw [if_pos trivial, if_pos hlen, sfx_sfx, show (Q : Int) + (m : Int) = ((Q + m : Nat) : Int) by omega]
            exact cut_loop src hs n (Q + m) _ _ k (by omega) (by omega) (by rw [List.length_append]; simp only [List.length_cons, List.length_nil]; omega) (.inr ⟨l, _, rfl, glues_tok g2 ht (Q : Int)⟩) (by omega)
        by_cases hQP : Q = P
        · have g3 : ((Q : Int) = (P : Int)) := by omega
          rw [if_pos g3, if_pos hQP]
          rcases hg with ⟨rfl, rfl⟩ | ⟨l', t, rfl, hgl⟩
          · have g4 : ¬ ((([] : List S30).length : Int) > 0) := by simp
            rw [if_neg g4]
            exact cont false
          · have hll : (l' ++ [t]).length = l'.length + 1 := by simp
            have g4 : (((l' ++ [t]).length : Int) > 0) := by omega
            have hw : wrap64 (((l' ++ [t]).length : Int) - 1) = (l'.length : Int) := by rw [hll]; unfold wrap64; omega
            have g5 : (0 : Int) ≤ (l'.length : Int) := by omega
            have g6 : (l'.length : Int) < ((l' ++ [t]).length : Int) := by omega
            have hrd : rd_T30 (l' ++ [t]) (l'.length : Int) = t := by
              unfold rd_T30
              simp
            rw [if_pos g4, hw, if_pos g5, if_pos g6, hrd, hgl]
            simp only [Option.bind_some]
            exact cont gl
        · have g3 : ¬ ((Q : Int) = (P : Int)) := by omega
          rw [if_neg g3, if_neg hQP]
          exact cont false
theorem same_self (l : List S30) (hl : l.length ≤ 100000) : ∀ (d j K : Nat), j + d = l.length → d < K → spinneyref05_Same.l0 K l l (l.length : Int) (j : Int) = some true
  | 0, j, K, h, hK => by
    obtain ⟨k, rfl⟩ : ∃ k, K = k + 1 := ⟨K - 1, by omega⟩
    have g : ¬ ((j : Int) < (l.length : Int)) := by omega
    rw [spinneyref05_Same.l0, if_neg g]
  | d + 1, j, K, h, hK => by
    obtain ⟨k, rfl⟩ : ∃ k, K = k + 1 := ⟨K - 1, by omega⟩
    have g : ((j : Int) < (l.length : Int)) := by omega
    have g0 : (0 : Int) ≤ (j : Int) := by omega
    have hw : wrap64 ((j : Int) + 1) = ((j + 1 : Nat) : Int) := wr1 j 1 (by omega)
    have ih := same_self l hl d (j + 1) k (by omega) (by omega)
    rw [spinneyref05_Same.l0, if_pos g, if_pos g0, if_pos g, if_pos g, hw, ih]
    simp
theorem cutF_len : ∀ (n : Nat) (s : ByteArray) (p : Int) (gl : Bool) (l : List S30), s.size < n → (token_Cut.cutF n s p gl l).1.length ≤ l.length + n
  | 0, s, p, gl, l, h => absurd h (by omega)
  | n + 1, s, p, gl, l, h => by
    rw [token_Cut.cutF]
    split
    · simp
    · rename_i s2 p2 gl2 hbl
      split
      · simp
      · rename_i hz
        split
        · simp
        · rename_i kd tx N m ht
          have hm := token_Cut.tok_pos hz ht
          have hle := (tok_le hz ht).1
          have hs2 := token_Cut.bl_le s.size s p gl
          rw [hbl] at hs2
          dsimp only at hs2
          have := cutF_len n (s2.extract m s2.size) (p2 + m) (token_Cut.glue kd tx) (l ++ [(⟨kd, tx, N, p2⟩ : S30)]) (by rw [ByteArray.size_extract]; omega)
          rw [List.length_append] at this
          simp only [List.length_cons, List.length_nil] at this
          omega

end Go.Proofs.YtjichkjnodabiaaDoor.Pure
set_option linter.unusedVariables false
set_option linter.unusedSimpArgs false
namespace Go.Proofs.YtjichkjnodabiaaDoor.Pure
open Go Go.Own Go.RowKit Go.Proofs.YtjichkjnodabiaaDoor.P Go.Proofs.YtjichkjnodabiaaDoorW.PrintWords Go.Proofs.YtjichkjnodabiaaDoorW.PrintLast

theorem TokenCuts : spinneylaw05_TokenCuts.Pure := by
  intro src _
  have tt : (true = true) := rfl
  by_cases hz : 4096 < src.size
  · refine ⟨5, ?_⟩
    have g : ((src.size : Int) > 4096) := by omega
    unfold spinneylaw05_TokenCuts.f spinneyref05_Cut.f token_Cut.f
    rw [live05, if_pos hz, if_pos g]
    rfl
  obtain ⟨K, hK⟩ : ∃ K : Nat, K = 130000 := ⟨_, rfl⟩
  refine ⟨K, ?_⟩
  have g : ¬ ((src.size : Int) > 4096) := by omega
  have hc := cut_loop src (by omega) (src.size + 1) 0 [] false K (by omega) (by omega) (by simp) (.inl ⟨rfl, rfl⟩) (by omega)
  rw [sfx_zero] at hc
  have hlen := cutF_len (src.size + 1) src 0 false [] (by omega)
  have e0 : ((0 : Nat) : Int) = 0 := rfl
  rw [e0] at hc
  unfold spinneylaw05_TokenCuts.f spinneyref05_Cut.f token_Cut.f
  rw [live05, if_neg hz, if_neg g, hc]
  generalize token_Cut.cutF (src.size + 1) src 0 false [] = r at hlen
  obtain ⟨l, p, e⟩ := r
  dsimp only at hlen
  simp only [Option.bind_some, List.length_nil] at hlen ⊢
  have hs : spinneyref05_Same.f K l l = some true := by
    have h := same_self l (by omega) l.length 0 K (by omega) (by omega)
    rw [e0] at h
    unfold spinneyref05_Same.f
    rw [if_pos rfl, h]
  rw [if_pos trivial, hs]
  simp

end Go.Proofs.YtjichkjnodabiaaDoor.Pure
