/- Any number's text, and any text as a number, are those of the reference. No condition. -/
import Derived.Test.YtjlfclhlfgjgcaaPx1
import Derived.Test.YtjlfclhlfgjgcaaPx2
import Derived.Test.YtjlfclhlfgjgcaaPx3
import Derived.Test.YtjlfclhlfgjgcaaPx4
import Derived.Test.YtjlfclhlfgjgcaaPx5
import Derived.Test.YtjlfclhlfgjgcaaPureNum
import Derived.Test.YtjlfclhlfgjgcaaPureNumSigns
import Derived.Test.YtjlfclhlfgjgcaaPureNumAdds
set_option linter.unusedVariables false
set_option linter.unusedSimpArgs false
namespace Go.Proofs.Ytjlfclhlfgjgcaa.Pure
open Go Go.Own Go.RowKit Go.Proofs.Ytjlfclhlfgjgcaa.P Go.Proofs.YtjlfclhlfgjgcaaW.PrintWords Go.Proofs.YtjlfclhlfgjgcaaW.PrintLast

theorem wrap_step {i : Int} {n : Nat} (h0 : 0 ≤ i) (h : i < (n : Int)) (hn : n ≤ 140737488351232) : wrap64 (i + 1) = i + 1 := by
  unfold wrap64
  omega
/-- the reference's digits, of a number that is not above 0 -/
theorem digs_size (m : Nat) (h : m ≤ 9223372036854775808) : (digs m).length ≤ 19 := digs_len 18 m (by omega)
theorem refdigits (n : Nat) : ∀ (m : Nat), m < 10 ^ (n + 1) → m ≤ 9223372036854775808 → ∀ k, n < k → spinneyref01_digits.f k (-(m : Int)) = some ⟨(digs m).toArray⟩ := by
  induction n with
  | zero =>
    intro m hm h63 k hk
    obtain ⟨k, rfl⟩ : ∃ j, k = j + 1 := ⟨k - 1, by omega⟩
    have h10 : m < 10 := by simpa using hm
    have e : (-(m : Int)).tmod 10 = -(m : Int) := by rw [Int.neg_tmod]; congr 1; exact Int.tmod_eq_of_lt (by omega) (by omega)
    simp only [spinneyref01_digits.f, e, Option.bind_some]
    rw [if_pos (by omega), digs, if_pos h10]
    have e2 : wrap64 (48 - -(m : Int)) = 48 + m := by unfold wrap64; omega
    have h256 : ((48 : Int) + (m : Int)) % 256 = ((48 + m : Nat) : Int) := by omega
    rw [e2, h256]
    simp only [strOfNums, List.map_cons, List.map_nil, Int.toNat_natCast]
  | succ n ih =>
    intro m hm h63 k hk
    obtain ⟨k, rfl⟩ : ∃ j, k = j + 1 := ⟨k - 1, by omega⟩
    have e : (-(m : Int)).tmod 10 = -((m % 10 : Nat) : Int) := by
      rw [Int.neg_tmod]; congr 1
    have e2 : wrap64 (48 - -((m % 10 : Nat) : Int)) = 48 + (m % 10 : Nat) := by unfold wrap64; omega
    simp only [spinneyref01_digits.f, e, e2, Option.bind_some]
    have es : strOfNums [(48 + ((m % 10 : Nat) : Int)) % 256] = ⟨[UInt8.ofNat (48 + m % 10)].toArray⟩ := by
      have h256 : ((48 : Int) + ((m % 10 : Nat) : Int)) % 256 = ((48 + m % 10 : Nat) : Int) := by omega
      rw [h256]
      simp only [strOfNums, List.map_cons, List.map_nil, Int.toNat_natCast]
    rw [es]
    by_cases h10 : m < 10
    · rw [if_pos (by omega), digs, if_pos h10]
      have : m % 10 = m := by omega
      rw [this]
    · rw [if_neg (by omega)]
      have e3 : wrap64 ((-(m : Int)).tdiv 10) = -((m / 10 : Nat) : Int) := by
        rw [Int.neg_tdiv, Int.tdiv_eq_ediv_of_nonneg (by omega)]
        unfold wrap64; omega
      rw [e3, ih (m / 10) (by rw [Nat.pow_succ] at hm; omega) (by omega) k (by omega)]
      simp only [Option.bind_some]
      have hl := digs_size (m / 10) (by omega)
      rw [if_pos (by simp [ByteArray.size]; omega)]
      rw [digs.eq_def m, if_neg h10]
      congr 1
theorem reftext {a : Int} (ha : In64 a) (k : Nat) : spinneyref01_Text.f (k + 19) a = some ⟨(textB a).toArray⟩ := by
  unfold spinneyref01_Text.f textB
  unfold In64 at ha
  by_cases h : a < 0
  · rw [if_pos h, if_pos h]
    have e : a = -((a.natAbs : Nat) : Int) := by omega
    have := refdigits 18 a.natAbs (by omega) (by omega) (k + 19) (by omega)
    rw [← e] at this
    rw [this]
    simp only [Option.bind_some]
    have hl := digs_size a.natAbs (by omega)
    rw [if_pos (by simp [ByteArray.size]; omega)]
    congr 1
  · rw [if_neg h, if_neg h]
    have e : wrap64 (-a) = -((a.natAbs : Nat) : Int) := by unfold wrap64; omega
    rw [e, refdigits 18 a.natAbs (by omega) (by omega) (k + 19) (by omega)]
    rfl

/-- the number that digits tell, behind another one -/
def val (l : List UInt8) (n : Nat) : Nat := l.foldl (fun n c => 10 * n + (c.toNat - 48)) n
def digits (l : List UInt8) : Bool := l.all fun c => decide (48 ≤ c.toNat) && decide (c.toNat ≤ 57)
theorem val_ge (l : List UInt8) : ∀ n, n ≤ val l n := by
  induction l with
  | nil => intro n; exact Nat.le_refl _
  | cons c l ih => intro n; have := ih (10 * n + (c.toNat - 48)); unfold val at *; simp only [List.foldl_cons]; omega
theorem scan_far (l : List UInt8) : ∀ n, digits l = true → ∃ m, scan l n true = some (m, true) := by
  induction l with
  | nil => intro n _; exact ⟨n, rfl⟩
  | cons c l ih =>
    intro n h
    simp only [digits, List.all_cons, Bool.and_eq_true, decide_eq_true_eq] at h
    unfold scan
    rw [if_neg (by omega), if_neg (by omega)]
    exact ih _ h.2
theorem scan_no (l : List UInt8) : ∀ n far, digits l = false → scan l n far = none := by
  induction l with
  | nil => intro n far h; simp [digits] at h
  | cons c l ih =>
    intro n far h
    unfold scan
    split
    · rfl
    · split
      · rfl
      · apply ih
        simp only [digits, List.all_cons] at h ⊢
        have e : (decide (48 ≤ c.toNat) && decide (c.toNat ≤ 57)) = true := by simp; omega
        rw [e] at h
        simpa using h
theorem scan_val (l : List UInt8) : ∀ n : Nat, n ≤ 9223372036854775808 → digits l = true →
    (val l n ≤ 9223372036854775808 → scan l n false = some (((val l n : Nat) : Int), false)) ∧ (9223372036854775808 < val l n → ∃ m, scan l n false = some (m, true)) := by
  induction l with
  | nil => intro n hn _; exact ⟨fun _ => rfl, fun h => by unfold val at h; simp at h; omega⟩
  | cons c l ih =>
    intro n hn h
    simp only [digits, List.all_cons, Bool.and_eq_true, decide_eq_true_eq] at h
    have hv : val (c :: l) n = val l (10 * n + (c.toNat - 48)) := rfl
    have hc : ((c.toNat : Int) - 48) = ((c.toNat - 48 : Nat) : Int) := by omega
    have hscan : scan (c :: l) n false = scan l ((10 * (n : Int) + ((c.toNat : Int) - 48)) % 18446744073709551616) (false || decide ((n : Int) > (9223372036854775808 - ((c.toNat : Int) - 48)) / 10)) := by
      rw [scan, if_neg (by omega), if_neg (by omega)]
    rw [hv, hscan]
    by_cases hf : 10 * n + (c.toNat - 48) ≤ 9223372036854775808
    · have e1 : (10 * (n : Int) + ((c.toNat : Int) - 48)) % 18446744073709551616 = ((10 * n + (c.toNat - 48) : Nat) : Int) := by omega
      have e2 : (false || decide ((n : Int) > (9223372036854775808 - ((c.toNat : Int) - 48)) / 10)) = false := by simp; omega
      rw [e1, e2]
      exact ih _ hf h.2
    · have e2 : (false || decide ((n : Int) > (9223372036854775808 - ((c.toNat : Int) - 48)) / 10)) = true := by simp; omega
      rw [e2]
      have := val_ge l (10 * n + (c.toNat - 48))
      exact ⟨fun h => by omega, fun _ => scan_far l _ h.2⟩

theorem bt_drop (s : ByteArray) (i : Nat) (h : i < s.size) : bt s (i : Int) = (s[i].toNat : Int) := by
  unfold bt
  simp [h]
/-- the reference's first loop: are all bytes digits -/
theorem ref_l0 (x0 x4 : ByteArray) (hs : x4.size ≤ 140737488351232) (d : Nat) : ∀ (k i : Nat), x4.size - i = d → d < k → i ≤ x4.size →
    spinneyref01_Read.l0 k x0 x4 i = if digits (x4.data.toList.drop i) = true then spinneyref01_Read.l1 (k - d - 1) x0 x4 0 0 else some (0, 20) := by
  induction d with
  | zero =>
    intro k i hd hk hi
    obtain ⟨k, rfl⟩ : ∃ j, k = j + 1 := ⟨k - 1, by omega⟩
    have : i = x4.size := by omega
    subst this
    simp only [spinneyref01_Read.l0]
    rw [if_neg (by omega)]
    have e : List.drop x4.size x4.data.toList = [] := List.drop_eq_nil_of_le (by rw [← size_len]; exact Nat.le_refl _)
    rw [e]
    simp [digits]
  | succ d ih =>
    intro k i hd hk hi
    obtain ⟨k, rfl⟩ : ∃ j, k = j + 1 := ⟨k - 1, by omega⟩
    have hlt : i < x4.size := by omega
    simp only [spinneyref01_Read.l0]
    rw [if_pos (by omega), if_pos (by omega), bt_drop x4 i hlt, scan_drop x4 i hlt]
    have hdg : digits (x4[i] :: List.drop (i + 1) x4.data.toList) = ((decide (48 ≤ x4[i].toNat) && decide (x4[i].toNat ≤ 57)) && digits (List.drop (i + 1) x4.data.toList)) := rfl
    rw [hdg]
    by_cases h1 : (x4[i].toNat : Int) < 48
    · rw [if_pos h1, if_neg]
      simp; omega
    · rw [if_neg h1]
      by_cases h2 : (x4[i].toNat : Int) > 57
      · rw [if_pos h2, if_neg]
        simp; omega
      · rw [if_neg h2]
        have e : wrap64 ((i : Int) + 1) = ((i + 1 : Nat) : Int) := by unfold wrap64; omega
        rw [e, ih k (i + 1) (by omega) (by omega) (by omega)]
        have e2 : (decide (48 ≤ x4[i].toNat) && decide (x4[i].toNat ≤ 57)) = true := by simp; omega
        rw [e2, Bool.true_and]
        have e3 : k + 1 - (d + 1) - 1 = k - d - 1 := by omega
        rw [e3]
theorem ref_l1 (x0 x4 : ByteArray) (hs : x4.size ≤ 140737488351232) (d : Nat) : ∀ (k i n : Nat), x4.size - i = d → d + 2 < k → i ≤ x4.size → n ≤ 9223372036854775808 → digits (x4.data.toList.drop i) = true →
    spinneyref01_Read.l1 k x0 x4 (-(n : Int)) i = if val (x4.data.toList.drop i) n ≤ 9223372036854775808 then (if x4.size < x0.size then some (-((val (x4.data.toList.drop i) n : Nat) : Int), 0) else some (fit (val (x4.data.toList.drop i) n : Nat))) else some (0, 10) := by
  induction d with
  | zero =>
    intro k i n hd hk hi hn _
    obtain ⟨k, rfl⟩ : ∃ j, k = j + 1 := ⟨k - 1, by omega⟩
    have : i = x4.size := by omega
    subst this
    simp only [spinneyref01_Read.l1]
    rw [if_neg (by omega)]
    have e : List.drop x4.size x4.data.toList = [] := List.drop_eq_nil_of_le (by rw [← size_len]; exact Nat.le_refl _)
    rw [e]
    have ev : val [] n = n := rfl
    rw [ev, if_pos hn]
    by_cases h : x4.size < x0.size
    · rw [if_pos (by omega), if_pos h]
    · rw [if_neg (by omega), if_neg h, refneg_fit (by unfold In64; omega), Int.neg_neg]
      rfl
  | succ d ih =>
    intro k i n hd hk hi hn hdg
    obtain ⟨k, rfl⟩ : ∃ j, k = j + 1 := ⟨k - 1, by omega⟩
    have hlt : i < x4.size := by omega
    have e : wrap64 ((i : Int) + 1) = ((i + 1 : Nat) : Int) := by unfold wrap64; omega
    have q1 : x4.size - (i + 1) = d := by omega
    have q2 : d + 2 < k := by omega
    have q3 : i + 1 ≤ x4.size := by omega
    have hmul : spinneyref01_Mul.f k (-(n : Int)) 10 = some (fit (-(n : Int) * 10)) := by
      have := refmul_fit (a := -(n : Int)) (b := 10) (by unfold In64; omega) (by unfold In64; omega) (k - 2)
      have hk2 : k - 2 + 2 = k := by omega
      rwa [hk2] at this
    rw [scan_drop x4 i hlt] at hdg ⊢
    have hdg2 : (decide (48 ≤ x4[i].toNat) && decide (x4[i].toNat ≤ 57)) = true ∧ digits (List.drop (i + 1) x4.data.toList) = true := by
      simpa only [digits, List.all_cons, Bool.and_eq_true] using hdg
    have hc : 48 ≤ x4[i].toNat ∧ x4[i].toNat ≤ 57 := by simpa using hdg2.1
    have hv : val (x4[i] :: List.drop (i + 1) x4.data.toList) n = val (List.drop (i + 1) x4.data.toList) (10 * n + (x4[i].toNat - 48)) := rfl
    have hge := val_ge (List.drop (i + 1) x4.data.toList) (10 * n + (x4[i].toNat - 48))
    rw [hv]
    simp only [spinneyref01_Read.l1]
    rw [if_pos (by omega), hmul]
    simp only [Option.bind_some]
    have e0 : -(n : Int) * 10 = -((10 * n : Nat) : Int) := by omega
    rw [e0]
    by_cases h10 : 10 * n ≤ 9223372036854775808
    · rw [fit_in (by unfold In64; omega)]
      simp only [if_true]
      rw [if_pos (by omega), bt_drop x4 i hlt]
      have e1 : ((x4[i].toNat : Int) - 48) % 256 = ((x4[i].toNat - 48 : Nat) : Int) := by omega
      rw [e1, refsub_fit (by unfold In64; omega) (by unfold In64; omega)]
      simp only [Option.bind_some]
      have e2 : -((10 * n : Nat) : Int) - ((x4[i].toNat - 48 : Nat) : Int) = -((10 * n + (x4[i].toNat - 48) : Nat) : Int) := by omega
      rw [e2]
      generalize 10 * n + (x4[i].toNat - 48) = m at hge ⊢
      by_cases hf : m ≤ 9223372036854775808
      · have hin : In64 (-(m : Int)) := by unfold In64; omega
        rw [fit_in hin]
        simp only [if_true]
        rw [e]
        exact ih k (i + 1) m q1 q2 q3 hf hdg2.2
      · have hne : ¬ ((10 : Int) = 0) := by decide
        have hno : ¬ In64 (-(m : Int)) := by unfold In64; omega
        have hbig : ¬ val (List.drop (i + 1) x4.data.toList) m ≤ 9223372036854775808 := by omega
        rw [fit_out hno]
        simp only [hne, if_false]
        rw [if_neg hbig]
    · have hne : ¬ ((10 : Int) = 0) := by decide
      have hno : ¬ In64 (-((10 * n : Nat) : Int)) := by unfold In64; omega
      have hbig : ¬ val (List.drop (i + 1) x4.data.toList) (10 * n + (x4[i].toNat - 48)) ≤ 9223372036854775808 := by omega
      rw [fit_out hno]
      simp only [hne, if_false]
      rw [if_neg hbig]

def readT (short : Bool) (l : List UInt8) : Int × Int :=
  if l = [] then (0, 20) else match scan l 0 false with
  | none => (0, 20)
  | some (n, far) => if short = true then (if far = true then (0, 10) else (wrap64 (-(wrap64 n)), 0)) else (if (far || decide (n > 9223372036854775807)) = true then (0, 10) else (wrap64 n, 0))
theorem refread (s : ByteArray) (hs : s.size ≤ 140737488351232) (k : Nat) : spinneyref01_Read.f (k + 2 * s.size + 10) s = some (readL s.data.toList) := by
  have tail : ∀ (t : ByteArray), t.size ≤ s.size → spinneyref01_Read.j1 (k + 2 * s.size + 9) s t = some (readT (decide (t.size < s.size)) t.data.toList) := by
    intro t ht
    have he : k + 2 * s.size + 9 = (k + 2 * s.size + 8) + 1 := by omega
    rw [he]
    simp only [spinneyref01_Read.j1]
    rw [ByteArray.toList_eq]
    by_cases h0 : t.data.toList = []
    · rw [if_pos h0, readT, if_pos h0]
    · rw [if_neg h0, readT, if_neg h0]
      have := ref_l0 s t (by omega) t.size (k + 2 * s.size + 8) 0 (by omega) (by omega) (by omega)
      simp only [Int.ofNat_zero, List.drop_zero] at this
      rw [this]
      by_cases hd : digits t.data.toList = true
      · rw [if_pos hd]
        have h1 := ref_l1 s t (by omega) t.size (k + 2 * s.size + 8 - t.size - 1) 0 0 (by omega) (by omega) (by omega) (by omega) (by simpa using hd)
        have hz2 : ∀ j, spinneyref01_Read.l1 j s t 0 0 = spinneyref01_Read.l1 j s t (-((0 : Nat) : Int)) ((0 : Nat) : Int) := fun _ => rfl
        rw [hz2, h1]
        simp only [List.drop_zero]
        obtain ⟨h2, h3⟩ := scan_val t.data.toList 0 (by omega) hd
        have hz3 : scan t.data.toList 0 false = scan t.data.toList ((0 : Nat) : Int) false := rfl
        rw [hz3]
        by_cases hv : val t.data.toList 0 ≤ 9223372036854775808
        · rw [if_pos hv, h2 hv]
          simp only [Bool.false_or]
          by_cases hlt : t.size < s.size
          · rw [if_pos hlt, if_pos (by simpa using hlt), if_neg (by simp)]
            congr 2
            unfold wrap64; omega
          · rw [if_neg hlt, if_neg (by simpa using hlt)]
            by_cases hm : val t.data.toList 0 ≤ 9223372036854775807
            · rw [fit_in (by unfold In64; omega), if_neg (by simp; omega), wrap64_id (by unfold In64; omega)]
            · rw [fit_out (by unfold In64; omega), if_pos (by simp; omega)]
        · rw [if_neg hv]
          obtain ⟨m, hm⟩ := h3 (by omega)
          rw [hm]
          simp
      · rw [if_neg hd, scan_no _ _ _ (by simpa using hd)]
  unfold spinneyref01_Read.f
  by_cases h0 : 0 < s.size
  · rw [if_pos (by omega), if_pos (by omega)]
    have hb : bt s 0 = (s[0].toNat : Int) := bt_drop s 0 h0
    have hk : k + 2 * s.size + 10 = (k + 2 * s.size + 9) + 1 := by omega
    rw [hk]
    simp only [spinneyref01_Read.j0]
    have hdc := data_cons s h0
    by_cases h45 : s[0] = 45
    · have : (bt s 0 == 45) = true := by rw [hb, h45]; rfl
      rw [this, if_pos rfl, if_pos (by omega), tail _ (by simp)]
      have hsz : (s.extract 1 s.size).size < s.size := by simp; omega
      congr 1
      unfold readL readT
      rw [hdc, h45]
      simp only [List.head?_cons, if_true, List.drop_succ_cons, List.drop_zero, decide_eq_true hsz]
      rfl
    · have : (bt s 0 == 45) = false := by
        rw [hb]
        simp
        intro h
        exact h45 (UInt8.toNat_inj.mp (by simpa using (by omega : s[0].toNat = 45)))
      rw [this, if_neg (by simp), tail s (Nat.le_refl _)]
      congr 1
      have hne : s.data.toList ≠ [] := by rw [hdc]; simp
      have hh : ¬ (s.data.toList.head? = some 45) := by rw [hdc]; simpa using h45
      unfold readL readT
      rw [if_neg hh, if_neg hne, if_neg hne]
      simp
      rfl
  · rw [if_neg (by omega)]
    have hk : k + 2 * s.size + 10 = (k + 2 * s.size + 9) + 1 := by omega
    rw [hk]
    simp only [spinneyref01_Read.j0]
    rw [if_neg (by simp), tail s (Nat.le_refl _)]
    have hn : s.data.toList = [] := List.eq_nil_of_length_eq_zero (by rw [← size_len]; omega)
    rw [hn]
    rfl

theorem NumTexts : spinneylaw01_NumTexts.Pure := by
  intro a s ha hs
  replace ha := in64_of_wf ha
  refine ⟨2 * s.size + 19 + 10, ?_⟩
  unfold spinneylaw01_NumTexts.f
  have hr := refread s hs 19
  have ht := reftext ha (2 * s.size + 10)
  have e1 : 2 * s.size + 19 + 10 = 19 + 2 * s.size + 10 := by omega
  have e2 : 2 * s.size + 10 + 19 = 19 + 2 * s.size + 10 := by omega
  rw [e2] at ht
  rw [e1, hr, ht]
  have h1 : num_Read.f s = some (readL s.data.toList) := by unfold num_Read.f; rw [if_pos hs]
  have h2 : num_Text.f a = some ⟨(textB a).toArray⟩ := by unfold num_Text.f; unfold In64 at ha; rw [if_pos ha]
  rw [h1, h2, live]
  simp only [Option.bind_some, if_true, same_true]

end Go.Proofs.Ytjlfclhlfgjgcaa.Pure
