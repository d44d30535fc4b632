-- PRINTED by a program of this session over the kit's print.py.
import Derived.Test.YtkniiinpkchjoaaDoorPx0
namespace Go.Proofs.YtkniiinpkchjoaaDoor.P
open Go.Own Go.RowKit Go.Proofs.YtkniiinpkchjoaaDoorW.PrintWords Go.Proofs.YtkniiinpkchjoaaDoorW.PrintLast Go.Proofs.YtkniiinpkchjoaaDoorW.PrintMore
attribute [local go_sem] max2_int min2_int max_two min_two max_three min_three max_four min_four   -- for this text's walks alone
set_option linter.unusedVariables false
set_option linter.unusedSimpArgs false

/-! ### char_code: function 40 (given) -/
/-- a digit's number at base 16 -/
def hexV (c : UInt8) : Option Nat := if 48 ≤ c.toNat ∧ c.toNat ≤ 57 then some (c.toNat - 48) else if 97 ≤ c.toNat ∧ c.toNat ≤ 102 then some (c.toNat - 87) else if 65 ≤ c.toNat ∧ c.toNat ≤ 70 then some (c.toNat - 55) else none
theorem hexV_lt {c : UInt8} {d : Nat} (h : hexV c = some d) : d < 16 := by
  unfold hexV at h
  split at h
  · injection h; omega
  · split at h
    · injection h; omega
    · split at h
      · injection h; omega
      · cases h
def hexGo (n : Nat) : List UInt8 → Option Nat
  | [] => some n
  | c :: l => match hexV c with
    | some d => hexGo (16 * n + d) l
    | none => none
def strconv_ParseUint.rv (o : Option Nat) : Value := match o with
  | some n => .tuple #[.int .u64 n, .nilIface]
  | none => .tuple #[.int .u64 0, .iface 80 (.int .i64 2)]
theorem strconv_ParseUint.bytes (s : ByteArray) (w : World) : ∃ cap W1, (convert 9 34 (.string s)).run Tryd.prog w = .ok (.slice (some ⟨w.heap.size, 0, none⟩) s.size cap) W1 ∧ Below w.heap.size w W1 ∧ ∀ k (h : k < s.size), W1.cell? ⟨w.heap.size, k, none⟩ = some (.int .u8 (s[k].toNat : Nat)) := by
  have h := run_bytes_of_string (P := Tryd.prog) w 9 34 5 s (by kernel_rfl) (by kernel_rfl) (by kernel_rfl)
  refine ⟨_, _, h, ((Below.refl _ w).drew).alloc (Nat.le_refl _) _, fun k hk => ?_⟩
  have h2 := bytesRow_at s (grownCap w s.size 0 5) k hk
  rw [show w.heap.size = w.drew.heap.size from rfl, World.cell?_alloc_mark]
  exact h2
/-- a byte, lower -/
theorem strconv_ParseUint.lower (c : Int) (w : World) : Calls Tryd.prog 63 #[.int .u8 c] w fun e w' => e = .returned (.int .u8 (Go.bits .or .u8 c 32)) ∧ w' = w := by
  go_enter Tryd.func63, Tryd.ntmps63
  go_wp2
  go_ret
  exact ⟨rfl, rfl⟩
theorem strconv_ParseUint.low1 : ∀ n : Fin 256, 0 ≤ Go.bits .or .u8 (n.val : Int) 32 ∧ Go.bits .or .u8 (n.val : Int) 32 ≤ 255 ∧ ((48 ≤ n.val ∧ n.val ≤ 57 ∧ hexV (UInt8.ofNat n.val) = some (n.val - 48)) ∨ (¬ (48 ≤ n.val ∧ n.val ≤ 57)) ∧ ((n.val ≠ 95 ∧ 97 ≤ Go.bits .or .u8 (n.val : Int) 32 ∧ Go.bits .or .u8 (n.val : Int) 32 ≤ 102 ∧ hexV (UInt8.ofNat n.val) = some (Go.bits .or .u8 (n.val : Int) 32 - 87).toNat) ∨
    (n.val ≠ 95 ∧ 103 ≤ Go.bits .or .u8 (n.val : Int) 32 ∧ Go.bits .or .u8 (n.val : Int) 32 ≤ 122 ∧ hexV (UInt8.ofNat n.val) = none) ∨ (n.val ≠ 95 ∧ Go.bits .or .u8 (n.val : Int) 32 < 97 ∧ hexV (UInt8.ofNat n.val) = none) ∨ (122 < Go.bits .or .u8 (n.val : Int) 32 ∧ hexV (UInt8.ofNat n.val) = none))) := by decide +kernel
theorem strconv_ParseUint.low (c : UInt8) : ∃ L : Int, Go.bits .or .u8 (c.toNat : Nat) 32 = L ∧ 0 ≤ L ∧ L ≤ 255 ∧ ((48 ≤ c.toNat ∧ c.toNat ≤ 57 ∧ hexV c = some (c.toNat - 48)) ∨ (¬ (48 ≤ c.toNat ∧ c.toNat ≤ 57)) ∧ ((c.toNat ≠ 95 ∧ 97 ≤ L ∧ L ≤ 102 ∧ hexV c = some (L - 87).toNat) ∨ (c.toNat ≠ 95 ∧ 103 ≤ L ∧ L ≤ 122 ∧ hexV c = none) ∨ (c.toNat ≠ 95 ∧ L < 97 ∧ hexV c = none) ∨ (122 < L ∧ hexV c = none))) := by
  have h := strconv_ParseUint.low1 ⟨c.toNat, UInt8.toNat_lt c⟩
  have e : UInt8.ofNat c.toNat = c := by simp
  dsimp only at h
  rw [e] at h
  exact ⟨_, rfl, h⟩
theorem strconv_ParseUint.wr (a : Int) : IntKind.u64.wrap a = a % 18446744073709551616 := by first | rfl | (simp [IntKind.wrap]; done)
theorem strconv_ParseUint.lt16 {n k d : Nat} (h : n < 16 ^ k) (hd : d < 16) : 16 * n + d < 16 ^ (k + 1) := by
  rw [Nat.pow_succ]; omega
set_option maxRecDepth 100000 in
set_option maxHeartbeats 2000000 in
theorem strconv_ParseUint.inner (s : ByteArray) (h1 : 1 ≤ s.size) (h6 : s.size ≤ 6) (w : World) : Calls Tryd.prog 58 #[.string s, .int .i64 16, .int .i64 32] w fun e w' => e = .returned (strconv_ParseUint.rv (hexGo 0 s.data.toList)) ∧ Below w.heap.size w w' := by
  obtain ⟨cap, W1, hk, hb, hc⟩ := strconv_ParseUint.bytes s w
  have HB := Aside0.mk hb
  have HC := Aside0.mk hc
  clear hb hc
  have he : s.toList.isEmpty = false := by
    cases h : s.toList with
    | nil =>
      exfalso
      have : s.data.toList = [] := (ByteArray.toList_eq s).symm.trans h
      have h2 : s.data.toList.length = 0 := by rw [this]; rfl
      have := size_len s
      omega
    | cons _ _ => rfl
  have he2 : (s.toList == ([] : List UInt8)) = false := by
    cases h : s.toList with
    | nil => rw [h] at he; cases he
    | cons _ _ => rfl
  go_enter Tryd.func58, Tryd.ntmps58
  go_wp2
  generalize hZ : (1152921504606846976 : Int) = Z
  generalize hM : (4294967295 : Int) = M
  have hZM := Aside0.mk (show 16777216 ≤ Z ∧ 16777216 ≤ M by omega)
  clear hZ hM
  go_loop [12, 13, 101] (fun uv nv iv => ∃ k n : Nat, iv = .int .i64 k ∧ nv = .int .u64 n ∧ uv = .bool false ∧ Aside0 (k ≤ s.size ∧ n < 16 ^ k ∧ hexGo n (s.data.toList.drop k) = hexGo 0 s.data.toList)) (fun _ _ iv => s.size - (intOf iv).toNat)
  case atStart => exact ⟨0, 0, rfl, rfl, rfl, ⟨by omega, by simp, rfl⟩⟩
  case round =>
    obtain ⟨k, n, rfl, rfl, rfl, HA⟩ := hrel
    clear hk he he2
    obtain ⟨hks, hn, hg⟩ := HA.out
    clear HA
    by_cases hlt : k < s.size
    · have hn5 : (n : Int) < 1048576 := by
        have : 16 ^ k ≤ 16 ^ 5 := Nat.pow_le_pow_right (by omega) (by omega)
        omega
      have HN := Aside0.mk hn
      have hcut : decide (Z ≤ (n : Int)) = false := decide_eq_false (by have := hZM.out; omega)
      have e1 : IntKind.u64.wrap ((n : Int) * 16) = (n : Int) * 16 := by rw [strconv_ParseUint.wr]; omega
      have HN5 := Aside0.mk hn5
      clear hn hn5
      have hck := HC.out k hlt
      have hdr : s.data.toList.drop k = s[k] :: s.data.toList.drop (k + 1) := scan_drop s k hlt
      rw [hdr] at hg
      clear hdr
      generalize s[k] = c at hck hg
      have hg2 : (match hexV c with | some d => hexGo (16 * n + d) (s.data.toList.drop (k + 1)) | none => none) = hexGo 0 s.data.toList := hg
      clear hg
      obtain ⟨L, hL, l0, l1, hl⟩ := strconv_ParseUint.low c
      obtain ⟨x, hx⟩ : ∃ x : Int, (c.toNat : Int) = x := ⟨_, rfl⟩
      rw [hx] at hck hL
      rcases hl with ⟨a1, a2, hv⟩ | ⟨a1, ⟨a5, a2, a3, hv⟩ | ⟨a5, a2, a3, hv⟩ | ⟨a5, a2, hv⟩ | ⟨a2, hv⟩⟩
      · rw [hv] at hg2
        have HG := Aside0.mk hg2
        have y1 : 48 ≤ x := by omega
        have y2 : x ≤ 57 := by omega
        have y5 : (x == 95) = false := by simp; omega
        have y3 : c.toNat - 48 = (x - 48).toNat := by omega
        rw [y3] at HG
        have e2 : IntKind.u64.wrap ((n : Int) * 16 + (x - 48)) = (n : Int) * 16 + (x - 48) := by have := HN5.out; rw [strconv_ParseUint.wr]; omega
        have f1 : decide ((n : Int) * 16 + (x - 48) < (n : Int) * 16) = false := decide_eq_false (by omega)
        have f2 : decide (M < (n : Int) * 16 + (x - 48)) = false := decide_eq_false (by have := HN5.out; have := hZM.out; omega)
        clear hg2 hv a1 a2 hx hL y3
        go_wp2
        go_round
        case rel => exact ⟨k + 1, 16 * n + (x - 48).toNat, by go_num, by congr 1; omega, rfl, ⟨by omega, strconv_ParseUint.lt16 HN.out (by omega), HG.out⟩⟩
        case measure => simp [intOf]; omega
      · rw [hv] at hg2
        have HG := Aside0.mk hg2
        have y5 : (x == 95) = false := by simp; omega
        have y6 : 48 ≤ x → ¬ x ≤ 57 := by omega
        have e2 : IntKind.u64.wrap ((n : Int) * 16 + (L - 97 + 10)) = (n : Int) * 16 + (L - 97 + 10) := by have := HN5.out; rw [strconv_ParseUint.wr]; omega
        have f1 : decide ((n : Int) * 16 + (L - 97 + 10) < (n : Int) * 16) = false := decide_eq_false (by omega)
        have f2 : decide (M < (n : Int) * 16 + (L - 97 + 10)) = false := decide_eq_false (by have := HN5.out; have := hZM.out; omega)
        clear hg2 hv a1 a5 hx
        by_cases y1 : 48 ≤ x
        · have y2 : 57 < x := by have := y6 y1; omega
          clear y6
          go_wp2_with (go_at_call 63; refine (strconv_ParseUint.lower _ _).mono ?_; rintro e w5 ⟨rfl, rfl⟩)
          go_round
          case rel => exact ⟨k + 1, 16 * n + (L - 87).toNat, by go_num, by congr 1; omega, rfl, ⟨by omega, strconv_ParseUint.lt16 HN.out (by omega), HG.out⟩⟩
          case measure => simp [intOf]; omega
        · have y2 : x < 48 := by omega
          clear y6 y1
          go_wp2_with (go_at_call 63; refine (strconv_ParseUint.lower _ _).mono ?_; rintro e w5 ⟨rfl, rfl⟩)
          go_round
          case rel => exact ⟨k + 1, 16 * n + (L - 87).toNat, by go_num, by congr 1; omega, rfl, ⟨by omega, strconv_ParseUint.lt16 HN.out (by omega), HG.out⟩⟩
          case measure => simp [intOf]; omega
      · rw [hv] at hg2
        have HG := Aside0.mk hg2
        have y5 : (x == 95) = false := by simp; omega
        have y6 : 48 ≤ x → ¬ x ≤ 57 := by omega
        clear hg2 hv a1 a5 hx
        by_cases y1 : 48 ≤ x
        · have y2 : 57 < x := by have := y6 y1; omega
          clear y6
          go_wp2_with (go_at_call 63; refine (strconv_ParseUint.lower _ _).mono ?_; rintro e w5 ⟨rfl, rfl⟩)
          go_ret2
          exact ⟨by rw [← HG.out]; rfl, HB.out⟩
        · have y2 : x < 48 := by omega
          clear y6 y1
          go_wp2_with (go_at_call 63; refine (strconv_ParseUint.lower _ _).mono ?_; rintro e w5 ⟨rfl, rfl⟩)
          go_ret2
          exact ⟨by rw [← HG.out]; rfl, HB.out⟩
      · rw [hv] at hg2
        have HG := Aside0.mk hg2
        have y5 : (x == 95) = false := by simp; omega
        have y6 : 48 ≤ x → ¬ x ≤ 57 := by omega
        clear hg2 hv a1 a5 hx
        by_cases y1 : 48 ≤ x
        · have y2 : 57 < x := by have := y6 y1; omega
          clear y6
          go_wp2_with (go_at_call 63; refine (strconv_ParseUint.lower _ _).mono ?_; rintro e w5 ⟨rfl, rfl⟩)
          go_ret2
          exact ⟨by rw [← HG.out]; rfl, HB.out⟩
        · have y2 : x < 48 := by omega
          clear y6 y1
          go_wp2_with (go_at_call 63; refine (strconv_ParseUint.lower _ _).mono ?_; rintro e w5 ⟨rfl, rfl⟩)
          go_ret2
          exact ⟨by rw [← HG.out]; rfl, HB.out⟩
      · rw [hv] at hg2
        have HG := Aside0.mk hg2
        have y6 : 48 ≤ x → ¬ x ≤ 57 := by omega
        clear hg2 hv a1 hx
        by_cases y7 : x = 95
        · have y5 : (x == 95) = true := by simp [y7]
          have y1 : 48 ≤ x := by omega
          have y2 : 57 < x := by omega
          clear y6 y7
          go_wp2_with (go_at_call 63; refine (strconv_ParseUint.lower _ _).mono ?_; rintro e w5 ⟨rfl, rfl⟩)
          go_ret2
          exact ⟨by rw [← HG.out]; rfl, HB.out⟩
        have y5 : (x == 95) = false := by simp [y7]
        by_cases y1 : 48 ≤ x
        · have y2 : 57 < x := by have := y6 y1; omega
          clear y6 y7
          go_wp2_with (go_at_call 63; refine (strconv_ParseUint.lower _ _).mono ?_; rintro e w5 ⟨rfl, rfl⟩)
          go_ret2
          exact ⟨by rw [← HG.out]; rfl, HB.out⟩
        · have y2 : x < 48 := by omega
          clear y6 y1 y7
          go_wp2_with (go_at_call 63; refine (strconv_ParseUint.lower _ _).mono ?_; rintro e w5 ⟨rfl, rfl⟩)
          go_ret2
          exact ⟨by rw [← HG.out]; rfl, HB.out⟩
    · obtain rfl : k = s.size := by omega
      have hdr : s.data.toList.drop s.size = [] := List.drop_eq_nil_of_le (by rw [size_len s]; exact Nat.le_refl _)
      rw [hdr] at hg
      have HG := Aside0.mk hg
      clear hg hdr
      go_wp2
      go_ret2
      exact ⟨by rw [← HG.out]; rfl, HB.out⟩
set_option maxRecDepth 100000 in
theorem strconv_ParseUint.ok (s : ByteArray) (h1 : 1 ≤ s.size) (h6 : s.size ≤ 6) (n : Nat) (hn : hexGo 0 s.data.toList = some n) (w : World) : Calls Tryd.prog 50 #[.string s, .int .i64 16, .int .i64 32] w fun e w' => e = .returned (.tuple #[.int .u64 n, .nilIface]) ∧ Below w.heap.size w w' := by
  have hi := strconv_ParseUint.inner s h1 h6 w
  rw [hn] at hi
  go_enter Tryd.func50, Tryd.ntmps50
  go_wp2_with (go_at_call 58; refine hi.mono ?_; rintro e w2 ⟨rfl, hb⟩; unfold strconv_ParseUint.rv; have HB := Aside0.mk hb; clear hb hi)
  go_ret2
  exact ⟨rfl, HB.out⟩
set_option maxRecDepth 100000 in
theorem strconv_ParseUint.bad (s : ByteArray) (h1 : 1 ≤ s.size) (h6 : s.size ≤ 6) (hn : hexGo 0 s.data.toList = none) (w : World) (hT : Tabs w) : Calls Tryd.prog 50 #[.string s, .int .i64 16, .int .i64 32] w fun e w' => ∃ N, e = .returned (.tuple #[.int .u64 0, .iface 82 (.pointer (some ⟨N, 0, none⟩))]) ∧ Below w.heap.size w w' := by
  have hi := strconv_ParseUint.inner s h1 h6 w
  rw [hn] at hi
  have HT := Aside0.mk hT
  clear hT
  go_enter Tryd.func50, Tryd.ntmps50
  go_wp2_with (first
    | (go_at_call 58; refine hi.mono ?_; rintro e w2 ⟨rfl, hb⟩; unfold strconv_ParseUint.rv; have HB := Aside0.mk hb; clear hb hi; have HT2 := Aside0.mk (HT.out.below HB.out).2.2)
    | (go_at_call 59; obtain ⟨t0, a0, hv⟩ := HT2.out; refine (Tryd.strconv_toError_syntax _ _ _ _ _ _ (by omega) hv (.inr ⟨_, _, rfl⟩)).mono ?_; rintro e w3 ⟨N, rfl, -, -, hb3⟩; have HB3 := Aside0.mk hb3; clear hb3 hv))
  go_ret2
  exact ⟨_, rfl, HB.out.trans (HB3.out.mono HB.out.size)⟩
def char_code.val (s : ByteArray) : Int × Int :=
  if Lib.indexByte s.data.toList 92 < 1 then (0, 0) else if 6 < Lib.indexByte s.data.toList 92 then (0, 0)
  else match hexGo 0 (s.data.toList.take (Lib.indexByte s.data.toList 92).toNat) with
    | none => (0, 0)
    | some v => if Lib.validRune v = true then ((v : Int), Lib.indexByte s.data.toList 92 + 1) else (0, 0)
def char_code.f (a0 : ByteArray) : Option (Int × Int) := if a0.size ≤ 9223372036854775807 then some (char_code.val a0) else none
theorem hexGo_lt : ∀ (l : List UInt8) (n v : Nat), hexGo n l = some v → v < (n + 1) * 16 ^ l.length
  | [], n, v, h => by
    injection h with h
    subst h
    simp
  | c :: l, n, v, h => by
    unfold hexGo at h
    cases hc : hexV c with
    | none => rw [hc] at h; cases h
    | some d =>
      rw [hc] at h
      have h1 := hexGo_lt l _ v h
      have h2 := hexV_lt hc
      have h3 : (16 * n + d + 1) * 16 ^ l.length ≤ (16 * (n + 1)) * 16 ^ l.length := Nat.mul_le_mul_right _ (by omega)
      rw [List.length_cons, Nat.pow_succ]
      have h4 : (n + 1) * (16 ^ l.length * 16) = (16 * (n + 1)) * 16 ^ l.length := by
        rw [Nat.mul_comm (16 ^ l.length) 16, ← Nat.mul_assoc, Nat.mul_comm (n + 1) 16]
      omega
theorem char_code.plus {l : List UInt8} {v : Nat} (hl : l ≠ []) (h : hexGo 0 l = some v) : (l.head hl).toNat ≠ 43 := by
  cases l with
  | nil => exact absurd rfl hl
  | cons c l =>
    intro e
    have e : c.toNat = 43 := e
    have hc : hexV c = none := by unfold hexV; rw [e]; rfl
    unfold hexGo at h
    rw [hc] at h
    cases h
theorem char_code.ix (l : List UInt8) : Lib.indexByte l 92 ≤ l.length := by
  induction l with
  | nil => decide
  | cons c l ih =>
    unfold Lib.indexByte
    split
    · simp; omega
    · split
      · simp; omega
      · simp; omega
set_option maxRecDepth 100000 in
set_option maxHeartbeats 1000000 in
theorem char_code.walk (s : ByteArray) (hs : s.size ≤ 9223372036854775807) (w : World) (hT : Tabs w) : Calls Tryd.prog 40 #[.string s] w fun e w' => e = .returned (.tuple #[.int .i32 (char_code.val s).1, .int .i64 (char_code.val s).2]) ∧ Below w.heap.size w w' := by
  have HT := Aside0.mk hT
  clear hT
  have hix := fun w => Tryd.strings_IndexByte s 92 w
  have hle := char_code.ix s.data.toList
  unfold char_code.val
  rw [show ((92 : Int).toNat.toUInt8) = (92 : UInt8) from rfl] at hix
  generalize hn : Lib.indexByte s.data.toList 92 = n at hix hle ⊢
  have HIX := Aside0.mk hix
  clear hix
  rw [← size_len s] at hle
  by_cases h1 : n < 1
  · rw [if_pos h1]
    clear hn hle
    go_enter Tryd.func40, Tryd.ntmps40
    go_wp2_with (go_at_call 49; (with_reducible refine (HIX.out _).mono ?_); rintro e w2 ⟨rfl, rfl⟩)
    go_ret2
    exact ⟨rfl, Below.refl _ _⟩
  rw [if_neg h1]
  by_cases h6 : 6 < n
  · rw [if_pos h6]
    clear hn hle
    go_enter Tryd.func40, Tryd.ntmps40
    go_wp2_with (go_at_call 49; (with_reducible refine (HIX.out _).mono ?_); rintro e w2 ⟨rfl, rfl⟩)
    go_ret2
    exact ⟨rfl, Below.refl _ _⟩
  rw [if_neg h6]
  obtain ⟨m, rfl⟩ : ∃ m : Nat, n = m := ⟨n.toNat, by omega⟩
  rw [Int.toNat_natCast]
  have hsz : (s.extract 0 m).size = m := by rw [ByteArray.size_extract]; omega
  have hl : (s.extract 0 m).data.toList = s.data.toList.take m := by simp [ByteArray.data_extract]
  cases hv : hexGo 0 (s.data.toList.take m) with
  | none =>
    have hp := strconv_ParseUint.bad (s.extract 0 m) (by omega) (by omega) (by rw [hl]; exact hv) 
    have HP := Aside0.mk hp
    clear hp hv hn hsz hl
    go_enter Tryd.func40, Tryd.ntmps40
    go_wp2_with (first
      | (go_at_call 49; (with_reducible refine (HIX.out _).mono ?_); rintro e w2 ⟨rfl, rfl⟩)
      | (go_at_call 50; refine (HP.out _ HT.out).mono ?_; rintro e w3 ⟨N, rfl, hb⟩; have HB := Aside0.mk hb; clear hb))
    go_ret2
    exact ⟨rfl, HB.out⟩
  | some v =>
    have hp := strconv_ParseUint.ok (s.extract 0 m) (by omega) (by omega) v (by rw [hl]; exact hv)
    have HP := Aside0.mk hp
    have hvl : v < 16777216 := by
      have := hexGo_lt _ _ _ hv
      have h2 : (s.data.toList.take m).length = m := by rw [List.length_take, ← size_len]; omega
      rw [h2] at this
      have h3 : 16 ^ m ≤ 16 ^ 6 := Nat.pow_le_pow_right (by omega) (by omega)
      omega
    have h0 : 0 < s.size := by omega
    have hpl : ((s[0]'h0).toNat : Int) ≠ 43 := by
      have hne : s.data.toList.take m ≠ [] := by
        intro h
        have h2 : (s.data.toList.take m).length = m := by rw [List.length_take, ← size_len]; omega
        rw [h] at h2
        simp at h2
        omega
      have := char_code.plus hne hv
      have e : (s.data.toList.take m).head hne = s[0]'h0 := by
        rw [List.head_take, ← List.getElem_zero_eq_head]
        rfl
      rw [e] at this
      omega
    have hpb : (((s[0]'h0).toNat : Int) == 43) = false := by simpa using hpl
    have hw : wrap32 (v : Int) = v := by unfold wrap32; omega
    clear hp hv hn hsz hl hvl hpl
    dsimp only
    cases hr : Lib.validRune (v : Int) with
    | true =>
      rw [if_pos rfl]
      have HR := Aside0.mk (fun w : World => hr ▸ Tryd.utf8_ValidRune (v : Int) w)
      clear hr
      go_enter Tryd.func40, Tryd.ntmps40
      go_wp2_with (first
        | (go_at_call 49; (with_reducible refine (HIX.out _).mono ?_); rintro e w2 ⟨rfl, rfl⟩)
        | (go_at_call 50; refine (HP.out _).mono ?_; rintro e w3 ⟨rfl, hb⟩; have HB := Aside0.mk hb; clear hb)
        | (go_at_call 51; refine (HR.out _).mono ?_; rintro e w4 ⟨rfl, rfl⟩))
      go_ret2
      exact ⟨(congrArg (fun z : Int => Ending.returned (.tuple #[.int .i32 z, .int .i64 ((m : Int) + 1)])) hw : _), HB.out⟩
    | false =>
      rw [if_neg (by simp)]
      have HR := Aside0.mk (fun w : World => hr ▸ Tryd.utf8_ValidRune (v : Int) w)
      clear hr
      go_enter Tryd.func40, Tryd.ntmps40
      go_wp2_with (first
        | (go_at_call 49; (with_reducible refine (HIX.out _).mono ?_); rintro e w2 ⟨rfl, rfl⟩)
        | (go_at_call 50; refine (HP.out _).mono ?_; rintro e w3 ⟨rfl, hb⟩; have HB := Aside0.mk hb; clear hb)
        | (go_at_call 51; refine (HR.out _).mono ?_; rintro e w4 ⟨rfl, rfl⟩))
      go_ret2
      exact ⟨rfl, HB.out⟩
theorem char_code.calls (a0 : ByteArray) (r1 r2 : Int) (w : World) (h : char_code.f a0 = some (r1, r2)) (hT : Tabs w) :
    Calls Tryd.prog 40 #[.string a0] w fun e w' => e = .returned (.tuple #[.int .i32 r1, .int .i64 r2]) ∧ Below w.heap.size w w' := by
  unfold char_code.f at h
  split at h
  case isTrue hs =>
    injection h with h
    have := char_code.walk a0 hs w hT
    rw [h] at this
    exact this
  case isFalse => exact absurd h (by simp)

end Go.Proofs.YtkniiinpkchjoaaDoor.P
