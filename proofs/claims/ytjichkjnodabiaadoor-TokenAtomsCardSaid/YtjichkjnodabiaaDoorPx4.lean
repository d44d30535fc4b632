-- PRINTED by a program of this session over the kit's print.py.
import Derived.Test.YtjichkjnodabiaaDoorPx0
import Derived.Test.YtjichkjnodabiaaDoorPx3
namespace Go.Proofs.YtjichkjnodabiaaDoor.P
open Go.Own Go.RowKit Go.Proofs.YtjichkjnodabiaaDoorW.PrintWords Go.Proofs.YtjichkjnodabiaaDoorW.PrintLast Go.Proofs.YtjichkjnodabiaaDoorW.PrintMore
attribute [local go_sem] max2_int min2_int max_two min_two max_three min_three max_four min_four   -- for this text's walks alone
set_option linter.unusedVariables false
set_option linter.unusedSimpArgs false

/-! ### char_code: function 63 (given) -/
/-- a digit's number at base 16 -/
def hexV (c : UInt8) : Option Nat := if 48 ≤ c.toNat ∧ c.toNat ≤ 57 then some (c.toNat - 48) else if 97 ≤ c.toNat ∧ c.toNat ≤ 102 then some (c.toNat - 87) else if 65 ≤ c.toNat ∧ c.toNat ≤ 70 then some (c.toNat - 55) else none
theorem hexV_lt {c : UInt8} {d : Nat} (h : hexV c = some d) : d < 16 := by
  unfold hexV at h
  split at h
  · injection h; omega
  · split at h
    · injection h; omega
    · split at h
      · injection h; omega
      · cases h
def hexGo (n : Nat) : List UInt8 → Option Nat
  | [] => some n
  | c :: l => match hexV c with
    | some d => hexGo (16 * n + d) l
    | none => none
def strconv_ParseUint.rv (o : Option Nat) : Value := match o with
  | some n => .tuple #[.int .u64 n, .nilIface]
  | none => .tuple #[.int .u64 0, .iface 100 (.int .i64 2)]
theorem strconv_ParseUint.bytes (s : ByteArray) (w : World) : ∃ cap W1, (convert 9 73 (.string s)).run Tryd.prog w = .ok (.slice (some ⟨w.heap.size, 0, none⟩) s.size cap) W1 ∧ Below w.heap.size w W1 ∧ ∀ k (h : k < s.size), W1.cell? ⟨w.heap.size, k, none⟩ = some (.int .u8 (s[k].toNat : Nat)) := by
  have h := run_bytes_of_string (P := Tryd.prog) w 9 73 5 s (by kernel_rfl) (by kernel_rfl) (by kernel_rfl)
  refine ⟨_, _, h, ((Below.refl _ w).drew).alloc (Nat.le_refl _) _, fun k hk => ?_⟩
  have h2 := bytesRow_at s (grownCap w s.size 0 5) k hk
  rw [show w.heap.size = w.drew.heap.size from rfl, World.cell?_alloc_mark]
  exact h2
/-- a byte, lower -/
theorem strconv_ParseUint.lower (c : Int) (w : World) : Calls Tryd.prog 77 #[.int .u8 c] w fun e w' => e = .returned (.int .u8 (Go.bits .or .u8 c 32)) ∧ w' = w := by
  go_enter Tryd.func77, Tryd.ntmps77
  go_wp2
  go_ret
  exact ⟨rfl, rfl⟩
theorem strconv_ParseUint.low1 : ∀ n : Fin 256, 0 ≤ Go.bits .or .u8 (n.val : Int) 32 ∧ Go.bits .or .u8 (n.val : Int) 32 ≤ 255 ∧ ((48 ≤ n.val ∧ n.val ≤ 57 ∧ hexV (UInt8.ofNat n.val) = some (n.val - 48)) ∨ (¬ (48 ≤ n.val ∧ n.val ≤ 57)) ∧ ((n.val ≠ 95 ∧ 97 ≤ Go.bits .or .u8 (n.val : Int) 32 ∧ Go.bits .or .u8 (n.val : Int) 32 ≤ 102 ∧ hexV (UInt8.ofNat n.val) = some (Go.bits .or .u8 (n.val : Int) 32 - 87).toNat) ∨
    (n.val ≠ 95 ∧ 103 ≤ Go.bits .or .u8 (n.val : Int) 32 ∧ Go.bits .or .u8 (n.val : Int) 32 ≤ 122 ∧ hexV (UInt8.ofNat n.val) = none) ∨ (n.val ≠ 95 ∧ Go.bits .or .u8 (n.val : Int) 32 < 97 ∧ hexV (UInt8.ofNat n.val) = none) ∨ (122 < Go.bits .or .u8 (n.val : Int) 32 ∧ hexV (UInt8.ofNat n.val) = none))) := by decide +kernel
theorem strconv_ParseUint.low (c : UInt8) : ∃ L : Int, Go.bits .or .u8 (c.toNat : Nat) 32 = L ∧ 0 ≤ L ∧ L ≤ 255 ∧ ((48 ≤ c.toNat ∧ c.toNat ≤ 57 ∧ hexV c = some (c.toNat - 48)) ∨ (¬ (48 ≤ c.toNat ∧ c.toNat ≤ 57)) ∧ ((c.toNat ≠ 95 ∧ 97 ≤ L ∧ L ≤ 102 ∧ hexV c = some (L - 87).toNat) ∨ (c.toNat ≠ 95 ∧ 103 ≤ L ∧ L ≤ 122 ∧ hexV c = none) ∨ (c.toNat ≠ 95 ∧ L < 97 ∧ hexV c = none) ∨ (122 < L ∧ hexV c = none))) := by
  have h := strconv_ParseUint.low1 ⟨c.toNat, UInt8.toNat_lt c⟩
  have e : UInt8.ofNat c.toNat = c := by simp
  dsimp only at h
  rw [e] at h
  exact ⟨_, rfl, h⟩
theorem strconv_ParseUint.wr (a : Int) : IntKind.u64.wrap a = a % 18446744073709551616 := by first | rfl | (simp [IntKind.wrap]; done)
theorem strconv_ParseUint.lt16 {n k d : Nat} (h : n < 16 ^ k) (hd : d < 16) : 16 * n + d < 16 ^ (k + 1) := by
  rw [Nat.pow_succ]; omega
set_option maxRecDepth 100000 in
set_option maxHeartbeats 2000000 in
theorem strconv_ParseUint.inner (s : ByteArray) (h1 : 1 ≤ s.size) (h6 : s.size ≤ 6) (w : World) : Calls Tryd.prog 75 #[.string s, .int .i64 16, .int .i64 32] w fun e w' => e = .returned (strconv_ParseUint.rv (hexGo 0 s.data.toList)) ∧ Below w.heap.size w w' := by
  obtain ⟨cap, W1, hk, hb, hc⟩ := strconv_ParseUint.bytes s w
  have HB := Aside0.mk hb
  have HC := Aside0.mk hc
  clear hb hc
  have he : s.toList.isEmpty = false := by
    cases h : s.toList with
    | nil =>
      exfalso
      have : s.data.toList = [] := (ByteArray.toList_eq s).symm.trans h
      have h2 : s.data.toList.length = 0 := by rw [this]; rfl
      have := size_len s
      omega
    | cons _ _ => rfl
  have he2 : (s.toList == ([] : List UInt8)) = false := by
    cases h : s.toList with
    | nil => rw [h] at he; cases he
    | cons _ _ => rfl
  go_enter Tryd.func75, Tryd.ntmps75
  go_wp2
  generalize hZ : (1152921504606846976 : Int) = Z
  generalize hM : (4294967295 : Int) = M
  have hZM := Aside0.mk (show 16777216 ≤ Z ∧ 16777216 ≤ M by omega)
  clear hZ hM
  go_loop [12, 13, 101] (fun uv nv iv => ∃ k n : Nat, iv = .int .i64 k ∧ nv = .int .u64 n ∧ uv = .bool false ∧ Aside0 (k ≤ s.size ∧ n < 16 ^ k ∧ hexGo n (s.data.toList.drop k) = hexGo 0 s.data.toList)) (fun _ _ iv => s.size - (intOf iv).toNat)
  case atStart => exact ⟨0, 0, rfl, rfl, rfl, ⟨by omega, by simp, rfl⟩⟩
  case round =>
    obtain ⟨k, n, rfl, rfl, rfl, HA⟩ := hrel
    clear hk he he2
    obtain ⟨hks, hn, hg⟩ := HA.out
    clear HA
    by_cases hlt : k < s.size
    · have hn5 : (n : Int) < 1048576 := by
        have : 16 ^ k ≤ 16 ^ 5 := Nat.pow_le_pow_right (by omega) (by omega)
        omega
      have HN := Aside0.mk hn
      have hcut : decide (Z ≤ (n : Int)) = false := decide_eq_false (by have := hZM.out; omega)
      have e1 : IntKind.u64.wrap ((n : Int) * 16) = (n : Int) * 16 := by rw [strconv_ParseUint.wr]; omega
      have HN5 := Aside0.mk hn5
      clear hn hn5
      have hck := HC.out k hlt
      have hdr : s.data.toList.drop k = s[k] :: s.data.toList.drop (k + 1) := scan_drop s k hlt
      rw [hdr] at hg
      clear hdr
      generalize s[k] = c at hck hg
      have hg2 : (match hexV c with | some d => hexGo (16 * n + d) (s.data.toList.drop (k + 1)) | none => none) = hexGo 0 s.data.toList := hg
      clear hg
      obtain ⟨L, hL, l0, l1, hl⟩ := strconv_ParseUint.low c
      obtain ⟨x, hx⟩ : ∃ x : Int, (c.toNat : Int) = x := ⟨_, rfl⟩
      rw [hx] at hck hL
      rcases hl with ⟨a1, a2, hv⟩ | ⟨a1, ⟨a5, a2, a3, hv⟩ | ⟨a5, a2, a3, hv⟩ | ⟨a5, a2, hv⟩ | ⟨a2, hv⟩⟩
      · rw [hv] at hg2
        have HG := Aside0.mk hg2
        have y1 : 48 ≤ x := by omega
        have y2 : x ≤ 57 := by omega
        have y5 : (x == 95) = false := by simp; omega
        have y3 : c.toNat - 48 = (x - 48).toNat := by omega
        rw [y3] at HG
        have e2 : IntKind.u64.wrap ((n : Int) * 16 + (x - 48)) = (n : Int) * 16 + (x - 48) := by have := HN5.out; rw [strconv_ParseUint.wr]; omega
        have f1 : decide ((n : Int) * 16 + (x - 48) < (n : Int) * 16) = false := decide_eq_false (by omega)
        have f2 : decide (M < (n : Int) * 16 + (x - 48)) = false := decide_eq_false (by have := HN5.out; have := hZM.out; omega)
        clear hg2 hv a1 a2 hx hL y3
        go_wp2
        go_round
        case rel => exact ⟨k + 1, 16 * n + (x - 48).toNat, by go_num, by congr 1; omega, rfl, ⟨by omega, strconv_ParseUint.lt16 HN.out (by omega), HG.out⟩⟩
        case measure => simp [intOf]; omega
      · rw [hv] at hg2
        have HG := Aside0.mk hg2
        have y5 : (x == 95) = false := by simp; omega
        have y6 : 48 ≤ x → ¬ x ≤ 57 := by omega
        have e2 : IntKind.u64.wrap ((n : Int) * 16 + (L - 97 + 10)) = (n : Int) * 16 + (L - 97 + 10) := by have := HN5.out; rw [strconv_ParseUint.wr]; omega
        have f1 : decide ((n : Int) * 16 + (L - 97 + 10) < (n : Int) * 16) = false := decide_eq_false (by omega)
        have f2 : decide (M < (n : Int) * 16 + (L - 97 + 10)) = false := decide_eq_false (by have := HN5.out; have := hZM.out; omega)
        clear hg2 hv a1 a5 hx
        by_cases y1 : 48 ≤ x
        · have y2 : 57 < x := by have := y6 y1; omega
          clear y6
          go_wp2_with (go_at_call 77; refine (strconv_ParseUint.lower _ _).mono ?_; rintro e w5 ⟨rfl, rfl⟩)
          go_round
          case rel => exact ⟨k + 1, 16 * n + (L - 87).toNat, by go_num, by congr 1; omega, rfl, ⟨by omega, strconv_ParseUint.lt16 HN.out (by omega), HG.out⟩⟩
          case measure => simp [intOf]; omega
        · have y2 : x < 48 := by omega
          clear y6 y1
          go_wp2_with (go_at_call 77; refine (strconv_ParseUint.lower _ _).mono ?_; rintro e w5 ⟨rfl, rfl⟩)
          go_round
          case rel => exact ⟨k + 1, 16 * n + (L - 87).toNat, by go_num, by congr 1; omega, rfl, ⟨by omega, strconv_ParseUint.lt16 HN.out (by omega), HG.out⟩⟩
          case measure => simp [intOf]; omega
      · rw [hv] at hg2
        have HG := Aside0.mk hg2
        have y5 : (x == 95) = false := by simp; omega
        have y6 : 48 ≤ x → ¬ x ≤ 57 := by omega
        clear hg2 hv a1 a5 hx
        by_cases y1 : 48 ≤ x
        · have y2 : 57 < x := by have := y6 y1; omega
          clear y6
          go_wp2_with (go_at_call 77; refine (strconv_ParseUint.lower _ _).mono ?_; rintro e w5 ⟨rfl, rfl⟩)
          go_ret2
          exact ⟨by rw [← HG.out]; rfl, HB.out⟩
        · have y2 : x < 48 := by omega
          clear y6 y1
          go_wp2_with (go_at_call 77; refine (strconv_ParseUint.lower _ _).mono ?_; rintro e w5 ⟨rfl, rfl⟩)
          go_ret2
          exact ⟨by rw [← HG.out]; rfl, HB.out⟩
      · rw [hv] at hg2
        have HG := Aside0.mk hg2
        have y5 : (x == 95) = false := by simp; omega
        have y6 : 48 ≤ x → ¬ x ≤ 57 := by omega
        clear hg2 hv a1 a5 hx
        by_cases y1 : 48 ≤ x
        · have y2 : 57 < x := by have := y6 y1; omega
          clear y6
          go_wp2_with (go_at_call 77; refine (strconv_ParseUint.lower _ _).mono ?_; rintro e w5 ⟨rfl, rfl⟩)
          go_ret2
          exact ⟨by rw [← HG.out]; rfl, HB.out⟩
        · have y2 : x < 48 := by omega
          clear y6 y1
          go_wp2_with (go_at_call 77; refine (strconv_ParseUint.lower _ _).mono ?_; rintro e w5 ⟨rfl, rfl⟩)
          go_ret2
          exact ⟨by rw [← HG.out]; rfl, HB.out⟩
      · rw [hv] at hg2
        have HG := Aside0.mk hg2
        have y6 : 48 ≤ x → ¬ x ≤ 57 := by omega
        clear hg2 hv a1 hx
        by_cases y7 : x = 95
        · have y5 : (x == 95) = true := by simp [y7]
          have y1 : 48 ≤ x := by omega
          have y2 : 57 < x := by omega
          clear y6 y7
          go_wp2_with (go_at_call 77; refine (strconv_ParseUint.lower _ _).mono ?_; rintro e w5 ⟨rfl, rfl⟩)
          go_ret2
          exact ⟨by rw [← HG.out]; rfl, HB.out⟩
        have y5 : (x == 95) = false := by simp [y7]
        by_cases y1 : 48 ≤ x
        · have y2 : 57 < x := by have := y6 y1; omega
          clear y6 y7
          go_wp2_with (go_at_call 77; refine (strconv_ParseUint.lower _ _).mono ?_; rintro e w5 ⟨rfl, rfl⟩)
          go_ret2
          exact ⟨by rw [← HG.out]; rfl, HB.out⟩
        · have y2 : x < 48 := by omega
          clear y6 y1 y7
          go_wp2_with (go_at_call 77; refine (strconv_ParseUint.lower _ _).mono ?_; rintro e w5 ⟨rfl, rfl⟩)
          go_ret2
          exact ⟨by rw [← HG.out]; rfl, HB.out⟩
    · obtain rfl : k = s.size := by omega
      have hdr : s.data.toList.drop s.size = [] := List.drop_eq_nil_of_le (by rw [size_len s]; exact Nat.le_refl _)
      rw [hdr] at hg
      have HG := Aside0.mk hg
      clear hg hdr
      go_wp2
      go_ret2
      exact ⟨by rw [← HG.out]; rfl, HB.out⟩
set_option maxRecDepth 100000 in
theorem strconv_ParseUint.ok (s : ByteArray) (h1 : 1 ≤ s.size) (h6 : s.size ≤ 6) (n : Nat) (hn : hexGo 0 s.data.toList = some n) (w : World) : Calls Tryd.prog 71 #[.string s, .int .i64 16, .int .i64 32] w fun e w' => e = .returned (.tuple #[.int .u64 n, .nilIface]) ∧ Below w.heap.size w w' := by
  have hi := strconv_ParseUint.inner s h1 h6 w
  rw [hn] at hi
  go_enter Tryd.func71, Tryd.ntmps71
  go_wp2_with (go_at_call 75; refine hi.mono ?_; rintro e w2 ⟨rfl, hb⟩; unfold strconv_ParseUint.rv; have HB := Aside0.mk hb; clear hb hi)
  go_ret2
  exact ⟨rfl, HB.out⟩
set_option maxRecDepth 100000 in
theorem strconv_ParseUint.bad (s : ByteArray) (h1 : 1 ≤ s.size) (h6 : s.size ≤ 6) (hn : hexGo 0 s.data.toList = none) (w : World) (hT : Tabs w) : Calls Tryd.prog 71 #[.string s, .int .i64 16, .int .i64 32] w fun e w' => ∃ N, e = .returned (.tuple #[.int .u64 0, .iface 102 (.pointer (some ⟨N, 0, none⟩))]) ∧ Below w.heap.size w w' := by
  have hi := strconv_ParseUint.inner s h1 h6 w
  rw [hn] at hi
  have HT := Aside0.mk hT
  clear hT
  go_enter Tryd.func71, Tryd.ntmps71
  go_wp2_with (first
    | (go_at_call 75; refine hi.mono ?_; rintro e w2 ⟨rfl, hb⟩; unfold strconv_ParseUint.rv; have HB := Aside0.mk hb; clear hb hi; have HT2 := Aside0.mk (HT.out.below HB.out).2.2.1)
    | (go_at_call 76; obtain ⟨t0, a0, hv⟩ := HT2.out; refine (Tryd.strconv_toError_syntax _ _ _ _ _ _ (by omega) hv (.inr ⟨_, _, rfl⟩)).mono ?_; rintro e w3 ⟨N, rfl, -, -, hb3⟩; have HB3 := Aside0.mk hb3; clear hb3 hv))
  go_ret2
  exact ⟨_, rfl, HB.out.trans (HB3.out.mono HB.out.size)⟩
def char_code.val (s : ByteArray) : Int × Int :=
  if Lib.indexByte s.data.toList 92 < 1 then (0, 0) else if 6 < Lib.indexByte s.data.toList 92 then (0, 0)
  else match hexGo 0 (s.data.toList.take (Lib.indexByte s.data.toList 92).toNat) with
    | none => (0, 0)
    | some v => if Lib.validRune v = true then ((v : Int), Lib.indexByte s.data.toList 92 + 1) else (0, 0)
def char_code.f (a0 : ByteArray) : Option (Int × Int) := if a0.size ≤ 9223372036854775807 then some (char_code.val a0) else none
theorem hexGo_lt : ∀ (l : List UInt8) (n v : Nat), hexGo n l = some v → v < (n + 1) * 16 ^ l.length
  | [], n, v, h => by
    injection h with h
    subst h
    simp
  | c :: l, n, v, h => by
    unfold hexGo at h
    cases hc : hexV c with
    | none => rw [hc] at h; cases h
    | some d =>
      rw [hc] at h
      have h1 := hexGo_lt l _ v h
      have h2 := hexV_lt hc
      have h3 : (16 * n + d + 1) * 16 ^ l.length ≤ (16 * (n + 1)) * 16 ^ l.length := Nat.mul_le_mul_right _ (by omega)
      rw [List.length_cons, Nat.pow_succ]
      have h4 : (n + 1) * (16 ^ l.length * 16) = (16 * (n + 1)) * 16 ^ l.length := by
        rw [Nat.mul_comm (16 ^ l.length) 16, ← Nat.mul_assoc, Nat.mul_comm (n + 1) 16]
      omega
theorem char_code.plus {l : List UInt8} {v : Nat} (hl : l ≠ []) (h : hexGo 0 l = some v) : (l.head hl).toNat ≠ 43 := by
  cases l with
  | nil => exact absurd rfl hl
  | cons c l =>
    intro e
    have e : c.toNat = 43 := e
    have hc : hexV c = none := by unfold hexV; rw [e]; rfl
    unfold hexGo at h
    rw [hc] at h
    cases h
theorem char_code.ix (l : List UInt8) : Lib.indexByte l 92 ≤ l.length := by
  induction l with
  | nil => decide
  | cons c l ih =>
    unfold Lib.indexByte
    split
    · simp; omega
    · split
      · simp; omega
      · simp; omega
set_option maxRecDepth 100000 in
set_option maxHeartbeats 1000000 in
theorem char_code.walk (s : ByteArray) (hs : s.size ≤ 9223372036854775807) (w : World) (hT : Tabs w) : Calls Tryd.prog 63 #[.string s] w fun e w' => e = .returned (.tuple #[.int .i32 (char_code.val s).1, .int .i64 (char_code.val s).2]) ∧ Below w.heap.size w w' := by
  have HT := Aside0.mk hT
  clear hT
  have hix := fun w => Tryd.strings_IndexByte s 92 w
  have hle := char_code.ix s.data.toList
  unfold char_code.val
  rw [show ((92 : Int).toNat.toUInt8) = (92 : UInt8) from rfl] at hix
  generalize hn : Lib.indexByte s.data.toList 92 = n at hix hle ⊢
  have HIX := Aside0.mk hix
  clear hix
  rw [← size_len s] at hle
  by_cases h1 : n < 1
  · rw [if_pos h1]
    clear hn hle
    go_enter Tryd.func63, Tryd.ntmps63
    go_wp2_with (go_at_call 25; (with_reducible refine (HIX.out _).mono ?_); rintro e w2 ⟨rfl, rfl⟩)
    go_ret2
    exact ⟨rfl, Below.refl _ _⟩
  rw [if_neg h1]
  by_cases h6 : 6 < n
  · rw [if_pos h6]
    clear hn hle
    go_enter Tryd.func63, Tryd.ntmps63
    go_wp2_with (go_at_call 25; (with_reducible refine (HIX.out _).mono ?_); rintro e w2 ⟨rfl, rfl⟩)
    go_ret2
    exact ⟨rfl, Below.refl _ _⟩
  rw [if_neg h6]
  obtain ⟨m, rfl⟩ : ∃ m : Nat, n = m := ⟨n.toNat, by omega⟩
  rw [Int.toNat_natCast]
  have hsz : (s.extract 0 m).size = m := by rw [ByteArray.size_extract]; omega
  have hl : (s.extract 0 m).data.toList = s.data.toList.take m := by simp [ByteArray.data_extract]
  cases hv : hexGo 0 (s.data.toList.take m) with
  | none =>
    have hp := strconv_ParseUint.bad (s.extract 0 m) (by omega) (by omega) (by rw [hl]; exact hv) 
    have HP := Aside0.mk hp
    clear hp hv hn hsz hl
    go_enter Tryd.func63, Tryd.ntmps63
    go_wp2_with (first
      | (go_at_call 25; (with_reducible refine (HIX.out _).mono ?_); rintro e w2 ⟨rfl, rfl⟩)
      | (go_at_call 71; refine (HP.out _ HT.out).mono ?_; rintro e w3 ⟨N, rfl, hb⟩; have HB := Aside0.mk hb; clear hb))
    go_ret2
    exact ⟨rfl, HB.out⟩
  | some v =>
    have hp := strconv_ParseUint.ok (s.extract 0 m) (by omega) (by omega) v (by rw [hl]; exact hv)
    have HP := Aside0.mk hp
    have hvl : v < 16777216 := by
      have := hexGo_lt _ _ _ hv
      have h2 : (s.data.toList.take m).length = m := by rw [List.length_take, ← size_len]; omega
      rw [h2] at this
      have h3 : 16 ^ m ≤ 16 ^ 6 := Nat.pow_le_pow_right (by omega) (by omega)
      omega
    have h0 : 0 < s.size := by omega
    have hpl : ((s[0]'h0).toNat : Int) ≠ 43 := by
      have hne : s.data.toList.take m ≠ [] := by
        intro h
        have h2 : (s.data.toList.take m).length = m := by rw [List.length_take, ← size_len]; omega
        rw [h] at h2
        simp at h2
        omega
      have := char_code.plus hne hv
      have e : (s.data.toList.take m).head hne = s[0]'h0 := by
        rw [List.head_take, ← List.getElem_zero_eq_head]
        rfl
      rw [e] at this
      omega
    have hpb : (((s[0]'h0).toNat : Int) == 43) = false := by simpa using hpl
    have hw : wrap32 (v : Int) = v := by unfold wrap32; omega
    clear hp hv hn hsz hl hvl hpl
    dsimp only
    cases hr : Lib.validRune (v : Int) with
    | true =>
      rw [if_pos rfl]
      have HR := Aside0.mk (fun w : World => hr ▸ Tryd.utf8_ValidRune (v : Int) w)
      clear hr
      go_enter Tryd.func63, Tryd.ntmps63
      go_wp2_with (first
        | (go_at_call 25; (with_reducible refine (HIX.out _).mono ?_); rintro e w2 ⟨rfl, rfl⟩)
        | (go_at_call 71; refine (HP.out _).mono ?_; rintro e w3 ⟨rfl, hb⟩; have HB := Aside0.mk hb; clear hb)
        | (go_at_call 72; refine (HR.out _).mono ?_; rintro e w4 ⟨rfl, rfl⟩))
      go_ret2
      exact ⟨(congrArg (fun z : Int => Ending.returned (.tuple #[.int .i32 z, .int .i64 ((m : Int) + 1)])) hw : _), HB.out⟩
    | false =>
      rw [if_neg (by simp)]
      have HR := Aside0.mk (fun w : World => hr ▸ Tryd.utf8_ValidRune (v : Int) w)
      clear hr
      go_enter Tryd.func63, Tryd.ntmps63
      go_wp2_with (first
        | (go_at_call 25; (with_reducible refine (HIX.out _).mono ?_); rintro e w2 ⟨rfl, rfl⟩)
        | (go_at_call 71; refine (HP.out _).mono ?_; rintro e w3 ⟨rfl, hb⟩; have HB := Aside0.mk hb; clear hb)
        | (go_at_call 72; refine (HR.out _).mono ?_; rintro e w4 ⟨rfl, rfl⟩))
      go_ret2
      exact ⟨rfl, HB.out⟩
theorem char_code.calls (a0 : ByteArray) (r1 r2 : Int) (w : World) (h : char_code.f a0 = some (r1, r2)) (hT : Tabs w) :
    Calls Tryd.prog 63 #[.string a0] w fun e w' => e = .returned (.tuple #[.int .i32 r1, .int .i64 r2]) ∧ Below w.heap.size w w' := by
  unfold char_code.f at h
  split at h
  case isTrue hs =>
    injection h with h
    have := char_code.walk a0 hs w hT
    rw [h] at this
    exact this
  case isFalse => exact absurd h (by simp)

/-! ### char_escape: function 52 -/
def char_escape.j0 : Nat → ByteArray → Int → Int → Bool → Option (Int × Int)
  | 0, _, _, _, _ => none
  | k + 1, x0, x4, x11, x12 => if x12 = true then (some (wrap32 (x4), 1)) else (if x11 = 110 then (some (10, 1)) else (if x11 = 116 then (some (9, 1)) else (if x11 = 120 then (if 1 ≤ (x0.size : Int) then ((char_code.f (x0.extract 1 x0.size)).bind fun bt114 => (if bt114.2 > 0 then (some (bt114.1, wrap64 (bt114.2 + 1))) else (some (0, 0)))) else (none)) else (some (0, 0)))))
def char_escape.f (k : Nat) (a0 : ByteArray) : Option (Int × Int) := if a0.toList = ([] : List UInt8) then (some (0, 0)) else (if 0 < (a0.size : Int) then (if (bt a0 0) = 92 then (char_escape.j0 k a0 (bt a0 0) (bt a0 0) ((bt a0 0) == 92)) else (char_escape.j0 k a0 (bt a0 0) (bt a0 0) ((bt a0 0) == 39))) else (none))
theorem char_escape.mono_l : ∀ k, (∀ y0 y1 y2 y3, LeO (char_escape.j0 k y0 y1 y2 y3) (char_escape.j0 (k + 1) y0 y1 y2 y3))
  | 0 => fun _ _ _ _ r h => by simp [char_escape.j0] at h
  | k + 1 => by
    have ih0 := char_escape.mono_l k
    · intro y0 y1 y2 y3
      unfold char_escape.j0
      repeat' first
      | (with_reducible exact ih0 _ _ _ _)
      | (with_reducible exact LeO.refl _)
      | (with_reducible exact LeO.none _)
      | (with_reducible refine LeO.ite ?_ ?_)
      | (with_reducible refine LeO.bind ?_ (fun _ => ?_))
      | exact ih0 _ _ _ _
      | exact LeO.none _
      | refine LeO.ite ?_ ?_
      | refine LeO.bind ?_ (fun _ => ?_)
theorem char_escape.mono : ∀ a0 k, LeO (char_escape.f k a0) (char_escape.f (k + 1) a0) := by
  intro a0 k
  have ih0 := char_escape.mono_l k
  unfold char_escape.f
  repeat' first
      | (with_reducible exact ih0 _ _ _ _)
      | (with_reducible exact LeO.refl _)
      | (with_reducible exact LeO.none _)
      | (with_reducible refine LeO.ite ?_ ?_)
      | (with_reducible refine LeO.bind ?_ (fun _ => ?_))
      | exact ih0 _ _ _ _
      | exact LeO.none _
      | refine LeO.ite ?_ ?_
      | refine LeO.bind ?_ (fun _ => ?_)
set_option maxHeartbeats 8000000 in
set_option maxRecDepth 100000 in
theorem char_escape.calls (k : Nat) (a0 : ByteArray) (r1 : Int) (r2 : Int) (w : World) (h : char_escape.f k a0 = some (r1, r2)) (hT : Tabs w) :
    Calls Tryd.prog 52 #[.string a0] w fun e w' => e = .returned (.tuple #[.int .i32 r1, .int .i64 r2]) ∧ Below w.heap.size w w' := by
  have HT := Aside0.mk hT
  clear hT
  have HB := Aside0.mk (Below.refl w.heap.size w)
  have H : (if a0.toList = ([] : List UInt8) then (some (0, 0)) else (if 0 < (a0.size : Int) then (if (bt a0 0) = 92 then (char_escape.j0 k a0 (bt a0 0) (bt a0 0) ((bt a0 0) == 92)) else (char_escape.j0 k a0 (bt a0 0) (bt a0 0) ((bt a0 0) == 39))) else (none))) = some (r1, r2) := h
  clear h
  by_cases c2 : a0.toList = ([] : List UInt8)
  · rw [if_pos c2] at H
    have c2b0 : (a0.toList == ([] : List UInt8)) = true := beq_iff_eq.mpr c2
    have c2b1 : (a0.toList != ([] : List UInt8)) = false := bne_eq_false_iff_eq.mpr c2
    clear c2
    simp only [Option.some.injEq, Prod.mk.injEq] at H
    obtain ⟨rfl, rfl⟩ := H
    go_enter Tryd.func52, Tryd.ntmps52
    go_wp2
    go_ret2
    exact ⟨by first | rfl | (simp [errW_none, errW_some] <;> rfl) | (simp [*, errW_none, errW_some] <;> rfl), by repeat (first | (with_reducible first | exact HB.out | apply below_alloc | apply pw_below_drewN | apply below_drew1) | exact HB.out)⟩
  · rw [if_neg c2] at H
    have c2b0 : (a0.toList == ([] : List UInt8)) = false := beq_eq_false_iff_ne.mpr c2
    have c2b1 : (a0.toList != ([] : List UInt8)) = true := bne_iff_ne.mpr c2
    by_cases c3 : 0 < (a0.size : Int)
    · rw [if_pos c3] at H
      have c3b0 : decide (0 < (a0.size : Int)) = true := decide_eq_true c3
      have c3b1 : decide (0 < a0.size) = true := decide_eq_true (by omega)
      clear c3
      have HC5 := Aside0.mk H
      clear H
      have p4 : 0 ≤ (0 : Int) := (by omega)
      have q4 : 0 < a0.size := (by have : (0 : Int) < (a0.size : Int) := of_decide_eq_true (by first | (with_reducible assumption) | assumption); omega)
      have hx4 : ∀ h : 0 < a0.size, ((a0[0]'h).toNat : Int) = bt a0 0 := bt_at a0 0
      clear p4
      have qi4 : (0 < (a0.size : Int)) = True := eq_true (of_decide_eq_true (by first | (with_reducible assumption) | assumption))
      replace q4 := eq_true q4
      go_enter Tryd.func52, Tryd.ntmps52
      go_upto_if 12 with (fail)
      go_cut [12] (fun v12 wc => ∃ (kq : Nat) (x12_4 : Bool), v12 = .bool x12_4 ∧ Aside0 (char_escape.j0 kq a0 (bt a0 0) (bt a0 0) x12_4 = some (r1, r2)) ∧ Aside0 (kq ≤ k) ∧ Aside0 (Below w.heap.size w wc))
      case first =>
        have H := HC5.out
        clear HC5
        by_cases c6 : (bt a0 0) = 92
        · rw [if_pos c6] at H
          have c6b0 : ((bt a0 0) == 92) = true := beq_iff_eq.mpr c6
          have c6b1 : ((bt a0 0) != 92) = false := bne_eq_false_iff_eq.mpr c6
          clear c6
          (first | rw [c6b0] | (simp only [i64_w, i32_w]; rw [c6b0]) | skip)
          have H' := Aside0.mk H
          clear H
          go_wp2
          go_meet
          case rel => exact ⟨_, (((bt a0 0) == 92)), (by first | rfl | (simp; done) | (simp [*]; done)), H', ⟨by first | omega | exact Nat.le_refl _⟩, ⟨by repeat (first | (with_reducible first | exact HB.out | apply below_alloc | apply pw_below_drewN | apply below_drew1) | exact HB.out)⟩⟩
        · rw [if_neg c6] at H
          have c6b0 : ((bt a0 0) == 92) = false := beq_eq_false_iff_ne.mpr c6
          have c6b1 : ((bt a0 0) != 92) = true := bne_iff_ne.mpr c6
          (first | rw [c6b0] | (simp only [i64_w, i32_w]; rw [c6b0]) | skip)
          have H' := Aside0.mk H
          clear H
          go_wp2
          go_meet
          case rel => exact ⟨_, (((bt a0 0) == 39)), (by first | rfl | (simp; done) | (simp [*]; done)), H', ⟨by first | omega | exact Nat.le_refl _⟩, ⟨by repeat (first | (with_reducible first | exact HB.out | apply below_alloc | apply pw_below_drewN | apply below_drew1) | exact HB.out)⟩⟩
      case rest =>
        clear HC5
        try clear c2
        try clear c2b0
        try clear c2b1
        try clear p2
        try clear c3
        try clear c3b0
        try clear c3b1
        try clear p4
        try clear q4
        try clear hx4
        try clear qi4
        try clear c5
        try clear c6
        try clear c6b0
        try clear c6b1
        try clear p4
        try clear q4
        obtain ⟨kq, x12_4, rfl, HA, HJ4, HB⟩ := hcut
        cases kq with
        | zero => exact absurd HA.out (by simp [char_escape.j0])
        | succ kj4 =>
          have H := HA.out
          clear HA
          simp only [char_escape.j0] at H
          by_cases c7 : x12_4 = true
          · subst c7
            have H1 : (some (wrap32 ((bt a0 0)), 1)) = some (r1, r2) := by rw [if_pos rfl] at H; exact H
            clear H
            have H := H1
            clear H1
            simp only [Option.some.injEq, Prod.mk.injEq] at H
            obtain ⟨rfl, rfl⟩ := H
            go_wp2
            go_ret2
            exact ⟨by first | rfl | (simp [errW_none, errW_some] <;> rfl) | (simp [*, errW_none, errW_some] <;> rfl), by repeat (first | (with_reducible first | exact HB.out | apply below_alloc | apply pw_below_drewN | apply below_drew1) | exact HB.out)⟩
          · replace c7 := Bool.eq_false_iff.mpr c7
            subst c7
            have H1 : (if (bt a0 0) = 110 then (some (10, 1)) else (if (bt a0 0) = 116 then (some (9, 1)) else (if (bt a0 0) = 120 then (if 1 ≤ (a0.size : Int) then ((char_code.f (a0.extract 1 a0.size)).bind fun bt114 => (if bt114.2 > 0 then (some (bt114.1, wrap64 (bt114.2 + 1))) else (some (0, 0)))) else (none)) else (some (0, 0))))) = some (r1, r2) := by rw [if_neg (show ¬ (false = true) by decide)] at H; exact H
            clear H
            have H := H1
            clear H1
            by_cases c8 : (bt a0 0) = 110
            · rw [if_pos c8] at H
              have c8b0 : ((bt a0 0) == 110) = true := beq_iff_eq.mpr c8
              have c8b1 : ((bt a0 0) != 110) = false := bne_eq_false_iff_eq.mpr c8
              clear c8
              simp only [Option.some.injEq, Prod.mk.injEq] at H
              obtain ⟨rfl, rfl⟩ := H
              go_wp2
              go_ret2
              exact ⟨by first | rfl | (simp [errW_none, errW_some] <;> rfl) | (simp [*, errW_none, errW_some] <;> rfl), by repeat (first | (with_reducible first | exact HB.out | apply below_alloc | apply pw_below_drewN | apply below_drew1) | exact HB.out)⟩
            · rw [if_neg c8] at H
              have c8b0 : ((bt a0 0) == 110) = false := beq_eq_false_iff_ne.mpr c8
              have c8b1 : ((bt a0 0) != 110) = true := bne_iff_ne.mpr c8
              by_cases c9 : (bt a0 0) = 116
              · rw [if_pos c9] at H
                have c9b0 : ((bt a0 0) == 116) = true := beq_iff_eq.mpr c9
                have c9b1 : ((bt a0 0) != 116) = false := bne_eq_false_iff_eq.mpr c9
                clear c9
                simp only [Option.some.injEq, Prod.mk.injEq] at H
                obtain ⟨rfl, rfl⟩ := H
                go_wp2
                go_ret2
                exact ⟨by first | rfl | (simp [errW_none, errW_some] <;> rfl) | (simp [*, errW_none, errW_some] <;> rfl), by repeat (first | (with_reducible first | exact HB.out | apply below_alloc | apply pw_below_drewN | apply below_drew1) | exact HB.out)⟩
              · rw [if_neg c9] at H
                have c9b0 : ((bt a0 0) == 116) = false := beq_eq_false_iff_ne.mpr c9
                have c9b1 : ((bt a0 0) != 116) = true := bne_iff_ne.mpr c9
                by_cases c10 : (bt a0 0) = 120
                · rw [if_pos c10] at H
                  have c10b0 : ((bt a0 0) == 120) = true := beq_iff_eq.mpr c10
                  have c10b1 : ((bt a0 0) != 120) = false := bne_eq_false_iff_eq.mpr c10
                  clear c10
                  by_cases c11 : 1 ≤ (a0.size : Int)
                  · rw [if_pos c11] at H
                    have c11b0 := eq_true c11
                    have c11b1 : decide (1 ≤ (a0.size : Int)) = true := decide_eq_true c11
                    clear c11
                    replace H := Option.bind_eq_some_iff.mp H
                    obtain ⟨⟨t114, t115⟩, A120, H⟩ := H
                    replace H : (if t115 > 0 then (some (t114, wrap64 (t115 + 1))) else (some (0, 0))) = some (r1, r2) := H
                    have A12 := Aside0.mk A120
                    clear A120
                    by_cases c13 : t115 > 0
                    · rw [if_pos c13] at H
                      have c13b0 : decide (0 < t115) = true := decide_eq_true c13
                      clear c13
                      simp only [Option.some.injEq, Prod.mk.injEq] at H
                      obtain ⟨rfl, rfl⟩ := H
                      go_wp2_with (first | ((with_reducible refine gate_callee (f := 63) rfl ?_); refine goesL_ (some 26) rfl rfl Tryd.func63 (by kernel_rfl) rfl #[.string (a0.extract 1 a0.size)] rfl (by (try simp only [List.map_toArray, List.map_cons, List.map_nil]); first | done | rfl | (simp only [List.length_drop, List.length_take]; rfl)) ?_; (with_reducible refine (char_code.calls (a0.extract 1 a0.size) t114 t115 _ A12.out (HT.out.below (by first | exact Below.refl _ _ | (repeat (first | (with_reducible first | exact HB.out | apply below_alloc | apply pw_below_drewN | apply below_drew1) | exact HB.out))))).mono ?_); rintro e w14 ⟨rfl, hb⟩; refine ⟨_, rfl, ?_⟩; have n0_ := Aside0.mk (below_step (by repeat (first | (with_reducible first | exact HB.out | apply below_alloc | apply pw_below_drewN | apply below_drew1) | exact HB.out)) hb); clear HB; have HB := n0_; clear n0_; (try clear hb); (try clear hb2); (try clear hk); (try clear hi)))
                      go_ret2
                      exact ⟨by first | rfl | (simp [errW_none, errW_some] <;> rfl) | (simp [*, errW_none, errW_some] <;> rfl), by repeat (first | (with_reducible first | exact HB.out | apply below_alloc | apply pw_below_drewN | apply below_drew1) | exact HB.out)⟩
                    · rw [if_neg c13] at H
                      have c13b0 : decide (0 < t115) = false := decide_eq_false c13
                      clear c13
                      simp only [Option.some.injEq, Prod.mk.injEq] at H
                      obtain ⟨rfl, rfl⟩ := H
                      go_wp2_with (first | ((with_reducible refine gate_callee (f := 63) rfl ?_); refine goesL_ (some 26) rfl rfl Tryd.func63 (by kernel_rfl) rfl #[.string (a0.extract 1 a0.size)] rfl (by (try simp only [List.map_toArray, List.map_cons, List.map_nil]); first | done | rfl | (simp only [List.length_drop, List.length_take]; rfl)) ?_; (with_reducible refine (char_code.calls (a0.extract 1 a0.size) t114 t115 _ A12.out (HT.out.below (by first | exact Below.refl _ _ | (repeat (first | (with_reducible first | exact HB.out | apply below_alloc | apply pw_below_drewN | apply below_drew1) | exact HB.out))))).mono ?_); rintro e w15 ⟨rfl, hb⟩; refine ⟨_, rfl, ?_⟩; have n0_ := Aside0.mk (below_step (by repeat (first | (with_reducible first | exact HB.out | apply below_alloc | apply pw_below_drewN | apply below_drew1) | exact HB.out)) hb); clear HB; have HB := n0_; clear n0_; (try clear hb); (try clear hb2); (try clear hk); (try clear hi)))
                      go_ret2
                      exact ⟨by first | rfl | (simp [errW_none, errW_some] <;> rfl) | (simp [*, errW_none, errW_some] <;> rfl), by repeat (first | (with_reducible first | exact HB.out | apply below_alloc | apply pw_below_drewN | apply below_drew1) | exact HB.out)⟩
                  · rw [if_neg c11] at H
                    exact absurd H (by simp)
                · rw [if_neg c10] at H
                  have c10b0 : ((bt a0 0) == 120) = false := beq_eq_false_iff_ne.mpr c10
                  have c10b1 : ((bt a0 0) != 120) = true := bne_iff_ne.mpr c10
                  simp only [Option.some.injEq, Prod.mk.injEq] at H
                  obtain ⟨rfl, rfl⟩ := H
                  go_wp2
                  go_ret2
                  exact ⟨by first | rfl | (simp [errW_none, errW_some] <;> rfl) | (simp [*, errW_none, errW_some] <;> rfl), by repeat (first | (with_reducible first | exact HB.out | apply below_alloc | apply pw_below_drewN | apply below_drew1) | exact HB.out)⟩
    · rw [if_neg c3] at H
      exact absurd H (by simp)

-- NOT PRINTED: function 73 (abi_NoEscape)

-- NOT PRINTED: function 64 (strings_Builder_copyCheck)

-- NOT PRINTED: function 74 (utf8_appendRuneNonASCII)

-- NOT PRINTED: function 65 (utf8_AppendRune)

-- NOT PRINTED: function 53 (strings_Builder_WriteRune)

/-! ### char_Read: function 36 (given) -/
-- char_code.calls char_Bare.calls char_Write.calls
theorem bsz (l : List UInt8) : (⟨l.toArray⟩ : ByteArray).size = l.length := by show l.toArray.size = _; simp
theorem encode_len4 (c : Int) : (Lib.encodeRune c).length ≤ 4 := by
  have := Lib.encodeRuneZ_length c
  unfold Lib.encodeRune
  rw [List.length_map]
  omega
theorem pre_some (a b : ByteArray) : ∃ r, strings_HasPrefix.f a b = some r := by
  unfold strings_HasPrefix.f stringslite_HasPrefix.f
  by_cases h : (a.size : Int) ≥ (b.size : Int)
  · rw [if_pos h, if_pos (by omega), if_pos (by omega)]; exact ⟨_, rfl⟩
  · rw [if_neg h]; exact ⟨_, rfl⟩
def preB (a b : ByteArray) : Bool := (strings_HasPrefix.f a b).getD false
theorem preB_eq (a b : ByteArray) : strings_HasPrefix.f a b = some (preB a b) := by
  obtain ⟨r, h⟩ := pre_some a b
  unfold preB
  rw [h]; rfl
/-- what stands behind a \\ -/
def escN (s : ByteArray) : Int × Int := (char_escape.f 2 s).getD (0, 0)
theorem code_range {s : ByteArray} {r n : Int} (h : char_code.f s = some (r, n)) : 0 ≤ r ∧ r ≤ 1114111 ∧ 0 ≤ n ∧ n ≤ 7 := by
  unfold char_code.f at h
  split at h
  case isFalse => cases h
  case isTrue hs =>
  injection h with h
  unfold char_code.val at h
  split at h
  · cases h; omega
  · split at h
    · cases h; omega
    · split at h
      · cases h; omega
      · rename_i v _
        split at h
        · rename_i hv
          cases h
          unfold Lib.validRune at hv
          have := of_decide_eq_true hv
          omega
        · cases h; omega
theorem code_total {s : ByteArray} (h : s.size ≤ 9223372036854775807) : ∃ r n, char_code.f s = some (r, n) := by
  unfold char_code.f
  rw [if_pos h]
  exact ⟨_, _, rfl⟩
theorem esc_some (s : ByteArray) (hs : s.size ≤ 9223372036854775807) : char_escape.f 2 s = some (escN s) ∧ 0 ≤ (escN s).1 ∧ (escN s).1 ≤ 1114111 ∧ 0 ≤ (escN s).2 ∧ (escN s).2 ≤ 8 := by
  have key : ∃ r n, char_escape.f 2 s = some (r, n) ∧ 0 ≤ r ∧ r ≤ 1114111 ∧ 0 ≤ n ∧ n ≤ 8 := by
    have hj : ∀ (t : ByteArray) (c : Int) (b : Bool), t.size ≤ 9223372036854775807 → 1 ≤ (t.size : Int) → 0 ≤ c → c ≤ 255 → ∃ r n, char_escape.j0 2 t c c b = some (r, n) ∧ 0 ≤ r ∧ r ≤ 1114111 ∧ 0 ≤ n ∧ n ≤ 8 := by
      intro t c b ht ht1 h0 h1
      have hc := code_total (s := t.extract 1 t.size) (by rw [ByteArray.size_extract]; omega)
      obtain ⟨r, n, hc⟩ := hc
      have hr := code_range hc
      unfold char_escape.j0
      simp only [hc, Option.bind_some, if_pos ht1]
      repeat' split
      all_goals first
        | exact ⟨_, _, rfl, by unfold wrap32; omega, by unfold wrap32; omega, by omega, by omega⟩
        | exact ⟨_, _, rfl, by omega, by omega, by unfold wrap64; omega, by unfold wrap64; omega⟩
        | exact ⟨_, _, rfl, by decide, by decide, by decide, by decide⟩
    unfold char_escape.f
    have hb := bt_range s 0
    by_cases he : s.toList = ([] : List UInt8)
    · rw [if_pos he]; exact ⟨_, _, rfl, by omega, by omega, by omega, by omega⟩
    · rw [if_neg he]
      have h0 : 0 < (s.size : Int) := by
        rcases Nat.eq_zero_or_pos s.size with h0 | h0
        · exfalso
          apply he
          have := isEmpty_size s
          rw [decide_eq_true h0] at this
          exact List.isEmpty_iff.1 this
        · omega
      rw [if_pos h0]
      split
      · exact hj _ _ _ hs (by omega) hb.1 hb.2
      · exact hj _ _ _ hs (by omega) hb.1 hb.2
  obtain ⟨r, n, h, hr⟩ := key
  unfold escN
  rw [h]
  exact ⟨rfl, hr⟩
@[reducible] def fffd : ByteArray := ⟨#[239, 191, 189]⟩
def char_Read.go (s : ByteArray) : Int → List UInt8 → List (Nat × Nat) → List UInt8 × Int × Int
  | _, _, [] => ([], 0, 20)
  | skip, acc, x :: l =>
    if skip > x.1 then char_Read.go s skip acc l
    else if (x.2 : Int) = 39 then (if preB (s.extract (x.1 + 1) s.size) (⟨#[39]⟩ : ByteArray) = true then char_Read.go s (x.1 + 2) (acc ++ Lib.encodeRune x.2) l else (acc, x.1 + 1, 0))
    else if (x.2 : Int) = 92 then (if (escN (s.extract (x.1 + 1) s.size)).2 = 0 then ([], 0, 20) else char_Read.go s (x.1 + 1 + (escN (s.extract (x.1 + 1) s.size)).2) (acc ++ Lib.encodeRune (escN (s.extract (x.1 + 1) s.size)).1) l)
    else if (x.2 : Int) < 32 then ([], 0, 20)
    else if (x.2 : Int) = 65533 then (if preB (s.extract x.1 s.size) fffd = true then char_Read.go s skip (acc ++ Lib.encodeRune x.2) l else ([], 0, 20))
    else char_Read.go s skip (acc ++ Lib.encodeRune x.2) l
def char_Read.val (a0 : ByteArray) : List UInt8 × Int × Int := if a0.toList = ([] : List UInt8) then ([], 0, 20) else if bt a0 0 = 39 then char_Read.go a0 1 [] (runesOf a0) else ([], 0, 20)
def char_Read.f (a0 : ByteArray) : Option (ByteArray × Int × Int) := if a0.size ≤ 35184372088832 then some (⟨(char_Read.val a0).1.toArray⟩, (char_Read.val a0).2.1, (char_Read.val a0).2.2) else none
theorem char_Read.empty (s : ByteArray) (w : World) (h : s.toList = ([] : List UInt8)) : Calls Tryd.prog 36 #[.string s] w fun e w' => e = .returned (.tuple #[.string ⟨(([] : List UInt8)).toArray⟩, .int .i64 0, .int .i64 20]) ∧ Below w.heap.size w w' := by
  have d5 : (s.toList == ([] : List UInt8)) = true := beq_iff_eq.mpr h
  have d5b : s.toList.isEmpty = true := by rw [h]; rfl
  clear h
  go_enter Tryd.func36, Tryd.ntmps36
  go_wp2
  go_ret3
  exact ⟨rfl, (Below.refl _ _).alloc (Nat.le_refl _) _⟩
theorem char_Read.noquote (s : ByteArray) (w : World) (h : s.toList ≠ ([] : List UInt8)) (h0 : 0 < s.size) (hq : ((s[0]'h0).toNat : Int) ≠ 39) : Calls Tryd.prog 36 #[.string s] w fun e w' => e = .returned (.tuple #[.string ⟨(([] : List UInt8)).toArray⟩, .int .i64 0, .int .i64 20]) ∧ Below w.heap.size w w' := by
  have d5 : (s.toList == ([] : List UInt8)) = false := beq_eq_false_iff_ne.mpr h
  have d5b : s.toList.isEmpty = false := toList_ne s h0
  have d6 : (((s[0]'h0).toNat : Int) != 39) = true := by simpa using hq
  clear h hq
  go_enter Tryd.func36, Tryd.ntmps36
  go_wp2
  go_ret3
  exact ⟨rfl, (Below.refl _ _).alloc (Nat.le_refl _) _⟩
set_option maxRecDepth 100000 in
set_option maxHeartbeats 4000000 in
theorem char_Read.walk (s : ByteArray) (w : World) (hT : Tabs w) (hs : s.size ≤ 35184372088832) (h : s.toList ≠ ([] : List UInt8)) (h0 : 0 < s.size) (hq : ((s[0]'h0).toNat : Int) = 39) :
    Calls Tryd.prog 36 #[.string s] w fun e w' => e = .returned (.tuple #[.string ⟨(char_Read.go s 1 [] (runesOf s)).1.toArray⟩, .int .i64 (char_Read.go s 1 [] (runesOf s)).2.1, .int .i64 (char_Read.go s 1 [] (runesOf s)).2.2]) ∧ Below w.heap.size w w' := by
  have d5 : (s.toList == ([] : List UInt8)) = false := beq_eq_false_iff_ne.mpr h
  have d5b : s.toList.isEmpty = false := toList_ne s h0
  have d6 : (((s[0]'h0).toNat : Int) != 39) = false := by simpa using hq
  have HS := Aside0.mk hs
  have HT := Aside0.mk hT
  clear h hq hs hT
  have HK := Aside0.mk (show BIt w.heap.size w.heap.size (w.heap.size + 1) s 0 [] w ((w.alloc (.cells #[.pointer none, .slice none 0 0] 75)).iter s 0) from
    ⟨Lib.IsBuilderF.alloc (Lib.IsBuilderF.of (Lib.fresh_isBuilder 75 5 w)) _, by have := World.iter_heap (w.alloc (.cells #[.pointer none, .slice none 0 0] 75)) s 0; simpa using this, ((Below.refl _ w).alloc (Nat.le_refl _) _).alloc (by simp) _, by omega, by omega⟩)
  obtain ⟨R, hR⟩ : ∃ R, char_Read.go s 1 [] (runesOf s) = R := ⟨_, rfl⟩
  rw [hR]
  have HR := Aside0.mk hR
  clear hR
  go_enter Tryd.func36, Tryd.ntmps36
  go_wp2
  go_loopw [6] (fun sv wr => ∃ (pos fuel : Nat) (skip : Int) (acc : List UInt8), sv = .int .i64 skip ∧ Aside0 (BIt w.heap.size w.heap.size (w.heap.size + 1) s pos acc w wr ∧ s.size ≤ pos + fuel ∧ char_Read.go s skip acc (runesAt s fuel pos) = R ∧ acc.length ≤ 4 * pos ∧ pos ≤ s.size)) (fun _ wr => s.size - wr.iterPos (w.heap.size + 1))
  case atStart => exact ⟨0, s.size, 1, [], rfl, ⟨HK.out, by omega, HR.out, by simp, by omega⟩⟩
  case round =>
    obtain ⟨pos, fuel, skip, acc, rfl, HA⟩ := hrel
    clear HK d5 d5b
    have HI0 := Aside0.mk HA.out.1
    have hsm := HS.out
    by_cases hp : pos < s.size
    · have hnx : ∀ ty, (Instr.next (.pointer (some ⟨w.heap.size + 1, 0, none⟩)) true ty).run Tryd.prog wr = _ := fun ty => Lib.run_next_any_at wr (w.heap.size + 1) s pos ty HI0.out.iter hp
      obtain ⟨f', -, hf', hst⟩ := runesAt_step hp HA.out.2.1
      have hg := HA.out.2.2.1
      rw [hst] at hg
      clear hst
      have hwd := Lib.decode_width_pos s pos hp
      have hdl := decode_end s pos hp
      have hc31 := decode_le s pos
      generalize (Utf8.decode s pos).1 = c at hg hnx hc31
      generalize (Utf8.decode s pos).2 = n at hg hnx hf' hwd hdl
      unfold char_Read.go at hg
      dsimp only at hg
      have HF := Aside0.mk hf'
      have HC31 := Aside0.mk hc31
      have HW := Aside0.mk (And.intro hwd hp)
      have HL := Aside0.mk (show acc.length + 4 ≤ 140737488355328 by have := HA.out.2.2.2; omega)
      have HL2 := Aside0.mk (show acc.length + 4 ≤ 4 * (pos + n) ∧ (Lib.encodeRune (c : Int)).length ≤ 4 by have := HA.out.2.2.2.1; have := encode_len4 (c : Int); omega)
      have HD := Aside0.mk hdl
      have HN := Aside0.mk (HI0.out.next (pos + n))
      have hp63 : (pos : Int) < 35184372088832 := by omega
      have HP63 := Aside0.mk hp63
      have hsl : pos + 1 ≤ s.size := by omega
      clear HA hf' hwd hdl hc31 hsm hp63
      have hwp1 : wrap64 ((pos : Int) + 1) = (pos : Int) + 1 := by have := HP63.out; unfold wrap64; omega
      have hwp2 : wrap64 ((pos : Int) + 2) = (pos : Int) + 2 := by have := HP63.out; unfold wrap64; omega
      by_cases ck : skip > (pos : Int)
      · rw [if_pos ck] at hg
        have HG := Aside0.mk hg
        have x0 : decide ((pos : Int) < skip) = true := decide_eq_true ck
        clear hg ck
        go_wp2
        go_roundw
        case rel => exact ⟨pos + n, f', _, _, rfl, ⟨HN.out, HF.out, HG.out, by have := HL2.out; (try simp only [List.length_append]); omega, HD.out⟩⟩
        case measure => simp only [World.iterPos, HN.out.iter, HI0.out.iter]; have := HW.out; omega
      rw [if_neg ck] at hg
      have x0 : decide ((pos : Int) < skip) = false := decide_eq_false ck
      clear ck
      by_cases c1 : (c : Int) = 39
      · rw [if_pos c1] at hg
        have x1 : ((c : Int) == 39) = true := by simp [c1]
        clear c1
        have hpe := preB_eq (s.extract (pos + 1) s.size) (⟨#[39]⟩ : ByteArray)
        cases hpb : preB (s.extract (pos + 1) s.size) (⟨#[39]⟩ : ByteArray) with
        | true =>
          rw [hpb] at hg hpe
          rw [if_pos rfl] at hg
          have HG := Aside0.mk hg
          have HPE := Aside0.mk hpe
          clear hg hpe hpb
          go_wp2_with (first | (go_at_call 26; (with_reducible refine (strings_HasPrefix.calls _ _ _ _ HPE.out).mono ?_); rintro e WHI2 ⟨rfl, hd⟩; have HI2 := Aside0.mk (HN.out.below hd.below); clear hd) | (go_at_call 53; (with_reducible refine (Tryd.Builder_WriteRune_k w.heap.size w.heap.size _ _ (by have := HC31.out; omega) (by have := HC31.out; omega) _ HI2.out.bld (by rw [Lib.byteCells_length]; have := HL.out; omega) HI2.out.hB).mono ?_); rintro e WHI3 ⟨rfl, h1, b1, k1⟩; have HI3 := Aside0.mk (HI2.out.wrote (Lib.encodeRune (c : Int)) (by rw [Lib.byteCells_encodeRune]; exact h1) b1 k1); clear h1 b1 k1))
          go_roundw
          case rel => exact ⟨pos + n, f', _, _, rfl, ⟨HI3.out, HF.out, HG.out, by have := HL2.out; (try simp only [List.length_append]); omega, HD.out⟩⟩
          case measure => simp only [World.iterPos, HI3.out.iter, HI0.out.iter]; have := HW.out; omega
        | false =>
          rw [hpb] at hg hpe
          rw [if_neg (by simp)] at hg
          have HG := Aside0.mk hg
          have HPE := Aside0.mk hpe
          clear hg hpe hpb
          go_wp2_with (first | (go_at_call 26; (with_reducible refine (strings_HasPrefix.calls _ _ _ _ HPE.out).mono ?_); rintro e WHI2 ⟨rfl, hd⟩; have HI2 := Aside0.mk (HN.out.below hd.below); clear hd) | (go_at_call 51; (with_reducible refine (Tryd.Builder_String_any_k w.heap.size w.heap.size _ _ HI2.out.bld HI2.out.hB).mono ?_); rintro e W9 ⟨rfl, h1, b1, k1⟩; have HB9 := Aside0.mk (HI2.out.low.trans b1); clear h1 b1 k1))
          go_ret3
          exact ⟨by rw [← HG.out]; show Ending.returned (.tuple #[_, .int .i64 (wrap64 ((pos : Int) + 1)), _]) = _; rw [hwp1]; rfl, HB9.out⟩
      rw [if_neg c1] at hg
      have x1 : ((c : Int) == 39) = false := by simpa using c1
      clear c1
      by_cases c2 : (c : Int) = 92
      · rw [if_pos c2] at hg
        have x2 : ((c : Int) == 92) = true := by simp [c2]
        clear c2
        obtain ⟨hes, hr0, hr1, hn0, hn1⟩ := esc_some (s.extract (pos + 1) s.size) (by rw [ByteArray.size_extract]; have := HS.out; omega)
        generalize escN (s.extract (pos + 1) s.size) = er at hg hes hr0 hr1 hn0 hn1
        obtain ⟨r, m⟩ := er
        dsimp only at hg hr0 hr1 hn0 hn1
        have HE := Aside0.mk hes
        clear hes
        by_cases hm : m = 0
        · rw [if_pos hm] at hg
          have HG := Aside0.mk hg
          have x3 : (m == 0) = true := by simp [hm]
          clear hg hm hr0 hr1 hn0 hn1
          go_wp2_with (go_at_call 52; (with_reducible refine (char_escape.calls 2 _ _ _ _ HE.out (HT.out.below HN.out.low)).mono ?_); rintro e WHI2 ⟨rfl, hb⟩; have HI2 := Aside0.mk (HN.out.below hb); clear hb)
          go_ret3
          exact ⟨by rw [← HG.out]; rfl, HI2.out.low⟩
        · rw [if_neg hm] at hg
          have HG := Aside0.mk hg
          have x3 : (m == 0) = false := by simpa using hm
          have HRR := Aside0.mk (And.intro hr0 hr1)
          have hwp3 : wrap64 ((pos : Int) + 1 + m) = (pos : Int) + 1 + m := by have := HP63.out; unfold wrap64; omega
          have HLR := Aside0.mk (encode_len4 r)
          clear hg hm hr0 hr1 hn0 hn1
          go_wp2_with (first | (go_at_call 52; (with_reducible refine (char_escape.calls 2 _ _ _ _ HE.out (HT.out.below HN.out.low)).mono ?_); rintro e WHI2 ⟨rfl, hb⟩; have HI2 := Aside0.mk (HN.out.below hb); clear hb) | (go_at_call 53; (with_reducible refine (Tryd.Builder_WriteRune_k w.heap.size w.heap.size _ _ (by have := HRR.out; omega) (by have := HRR.out; omega) _ HI2.out.bld (by rw [Lib.byteCells_length]; have := HL.out; omega) HI2.out.hB).mono ?_); rintro e WHI3 ⟨rfl, h1, b1, k1⟩; have HI3 := Aside0.mk (HI2.out.wrote (Lib.encodeRune r) (by rw [Lib.byteCells_encodeRune]; exact h1) b1 k1); clear h1 b1 k1))
          go_roundw
          case rel => exact ⟨pos + n, f', _, _, rfl, ⟨HI3.out, HF.out, HG.out, by have := HL2.out; have := HLR.out; (try simp only [List.length_append]); omega, HD.out⟩⟩
          case measure => simp only [World.iterPos, HI3.out.iter, HI0.out.iter]; have := HW.out; omega
      rw [if_neg c2] at hg
      have x2 : ((c : Int) == 92) = false := by simpa using c2
      clear c2
      by_cases c3 : (c : Int) < 32
      · rw [if_pos c3] at hg
        have HG := Aside0.mk hg
        have x3 : decide ((c : Int) < 32) = true := decide_eq_true c3
        clear hg c3
        go_wp2
        go_ret3
        exact ⟨by rw [← HG.out]; rfl, HN.out.low⟩
      rw [if_neg c3] at hg
      have x3 : decide ((c : Int) < 32) = false := decide_eq_false c3
      clear c3
      by_cases c4 : (c : Int) = 65533
      · rw [if_pos c4] at hg
        have x4 : ((c : Int) == 65533) = true := by simp [c4]
        clear c4
        have hpe := preB_eq (s.extract pos s.size) fffd
        cases hpb : preB (s.extract pos s.size) fffd with
        | true =>
          rw [hpb] at hg hpe
          rw [if_pos rfl] at hg
          have HG := Aside0.mk hg
          have HPE := Aside0.mk hpe
          clear hg hpe hpb
          go_wp2_with (first | (go_at_call 26; (with_reducible refine (strings_HasPrefix.calls _ _ _ _ HPE.out).mono ?_); rintro e WHI2 ⟨rfl, hd⟩; have HI2 := Aside0.mk (HN.out.below hd.below); clear hd) | (go_at_call 53; (with_reducible refine (Tryd.Builder_WriteRune_k w.heap.size w.heap.size _ _ (by have := HC31.out; omega) (by have := HC31.out; omega) _ HI2.out.bld (by rw [Lib.byteCells_length]; have := HL.out; omega) HI2.out.hB).mono ?_); rintro e WHI3 ⟨rfl, h1, b1, k1⟩; have HI3 := Aside0.mk (HI2.out.wrote (Lib.encodeRune (c : Int)) (by rw [Lib.byteCells_encodeRune]; exact h1) b1 k1); clear h1 b1 k1))
          go_roundw
          case rel => exact ⟨pos + n, f', _, _, rfl, ⟨HI3.out, HF.out, HG.out, by have := HL2.out; (try simp only [List.length_append]); omega, HD.out⟩⟩
          case measure => simp only [World.iterPos, HI3.out.iter, HI0.out.iter]; have := HW.out; omega
        | false =>
          rw [hpb] at hg hpe
          rw [if_neg (by simp)] at hg
          have HG := Aside0.mk hg
          have HPE := Aside0.mk hpe
          clear hg hpe hpb
          go_wp2_with (go_at_call 26; (with_reducible refine (strings_HasPrefix.calls _ _ _ _ HPE.out).mono ?_); rintro e WHI2 ⟨rfl, hd⟩; have HI2 := Aside0.mk (HN.out.below hd.below); clear hd)
          go_ret3
          exact ⟨by rw [← HG.out]; rfl, HI2.out.low⟩
      rw [if_neg c4] at hg
      have HG := Aside0.mk hg
      have x4 : ((c : Int) == 65533) = false := by simpa using c4
      clear hg c4
      go_wp2_with (go_at_call 53; (with_reducible refine (Tryd.Builder_WriteRune_k w.heap.size w.heap.size _ _ (by have := HC31.out; omega) (by have := HC31.out; omega) _ HN.out.bld (by rw [Lib.byteCells_length]; have := HL.out; omega) HN.out.hB).mono ?_); rintro e WHI2 ⟨rfl, h1, b1, k1⟩; have HI2 := Aside0.mk (HN.out.wrote (Lib.encodeRune (c : Int)) (by rw [Lib.byteCells_encodeRune]; exact h1) b1 k1); clear h1 b1 k1)
      go_roundw
      case rel => exact ⟨pos + n, f', _, _, rfl, ⟨HI2.out, HF.out, HG.out, by have := HL2.out; (try simp only [List.length_append]); omega, HD.out⟩⟩
      case measure => simp only [World.iterPos, HI2.out.iter, HI0.out.iter]; have := HW.out; omega
    · have hnx : ∀ ty, (Instr.next (.pointer (some ⟨w.heap.size + 1, 0, none⟩)) true ty).run Tryd.prog wr = _ := fun ty => Lib.run_next_end_at wr (w.heap.size + 1) s pos ty HI0.out.iter hp
      have hg := HA.out.2.2.1
      rw [runesAt_end hp] at hg
      have HG := Aside0.mk hg
      clear hg HA hsm
      go_wp2
      go_ret3
      exact ⟨by rw [← HG.out]; rfl, HI0.out.low⟩
theorem char_Read.calls (a0 : ByteArray) (r1 : ByteArray) (r2 r3 : Int) (w : World) (h : char_Read.f a0 = some (r1, r2, r3)) (hT : Tabs w) :
    Calls Tryd.prog 36 #[.string a0] w fun e w' => e = .returned (.tuple #[.string r1, .int .i64 r2, .int .i64 r3]) ∧ Below w.heap.size w w' := by
  unfold char_Read.f at h
  split at h
  case isFalse => exact absurd h (by simp)
  case isTrue hs =>
  simp only [Option.some.injEq, Prod.mk.injEq] at h
  obtain ⟨rfl, rfl, rfl⟩ := h
  unfold char_Read.val
  by_cases he : a0.toList = ([] : List UInt8)
  · rw [if_pos he]; exact char_Read.empty a0 w he
  · rw [if_neg he]
    have h0 : 0 < a0.size := by
      rcases Nat.eq_zero_or_pos a0.size with h0 | h0
      · exfalso
        apply he
        have := isEmpty_size a0
        rw [decide_eq_true h0] at this
        exact List.isEmpty_iff.1 this
      · exact h0
    have hb : bt a0 0 = ((a0[0]'h0).toNat : Int) := (bt_at a0 0 h0).symm
    by_cases hq : bt a0 0 = 39
    · rw [if_pos hq]; exact char_Read.walk a0 w hT hs he h0 (hb ▸ hq)
    · rw [if_neg hq]; exact char_Read.noquote a0 w he h0 (hb ▸ hq)

-- NOT PRINTED: function 16 (token_cutter_next)

end Go.Proofs.YtjichkjnodabiaaDoor.P
