-- PRINTED by a program of this session over the kit's print.py.
import Derived.Test.YtkniiinpkchjoaaDoorPx0
namespace Go.Proofs.YtkniiinpkchjoaaDoor.P
open Go.Own Go.RowKit Go.Proofs.YtkniiinpkchjoaaDoorW.PrintWords Go.Proofs.YtkniiinpkchjoaaDoorW.PrintLast Go.Proofs.YtkniiinpkchjoaaDoorW.PrintMore
attribute [local go_sem] max2_int min2_int max_two min_two max_three min_three max_four min_four   -- for this text's walks alone
set_option linter.unusedVariables false
set_option linter.unusedSimpArgs false

/-! ### utf8_ValidRune: function 51 -/
def utf8_ValidRune.j0 : Nat → Int → Bool → Option (Bool)
  | 0, _, _ => none
  | k + 1, x0, x3 => if x3 = true then (some true) else (if 57343 < x0 then (if x0 ≤ 1114111 then (some true) else (some false)) else (some false))
def utf8_ValidRune.f (k : Nat) (a0 : Int) : Option (Bool) := if 0 ≤ a0 then (utf8_ValidRune.j0 k a0 (decide (a0 < 55296))) else (utf8_ValidRune.j0 k a0 false)
theorem utf8_ValidRune.mono_l : ∀ k, (∀ y0 y1, LeO (utf8_ValidRune.j0 k y0 y1) (utf8_ValidRune.j0 (k + 1) y0 y1))
  | 0 => fun _ _ r h => by simp [utf8_ValidRune.j0] at h
  | k + 1 => by
    have ih0 := utf8_ValidRune.mono_l k
    · intro y0 y1
      unfold utf8_ValidRune.j0
      repeat' first
      | (with_reducible exact ih0 _ _)
      | (with_reducible exact LeO.refl _)
      | (with_reducible exact LeO.none _)
      | (with_reducible refine LeO.ite ?_ ?_)
      | (with_reducible refine LeO.bind ?_ (fun _ => ?_))
      | exact ih0 _ _
      | exact LeO.none _
      | refine LeO.ite ?_ ?_
      | refine LeO.bind ?_ (fun _ => ?_)
theorem utf8_ValidRune.mono : ∀ a0 k, LeO (utf8_ValidRune.f k a0) (utf8_ValidRune.f (k + 1) a0) := by
  intro a0 k
  have ih0 := utf8_ValidRune.mono_l k
  unfold utf8_ValidRune.f
  repeat' first
      | (with_reducible exact ih0 _ _)
      | (with_reducible exact LeO.refl _)
      | (with_reducible exact LeO.none _)
      | (with_reducible refine LeO.ite ?_ ?_)
      | (with_reducible refine LeO.bind ?_ (fun _ => ?_))
      | exact ih0 _ _
      | exact LeO.none _
      | refine LeO.ite ?_ ?_
      | refine LeO.bind ?_ (fun _ => ?_)
set_option maxHeartbeats 8000000 in
set_option maxRecDepth 100000 in
theorem utf8_ValidRune.calls (k : Nat) (a0 : Int) (r : Bool) (w : World) (h : utf8_ValidRune.f k a0 = some r) :
    Calls Tryd.prog 51 #[.int .i32 a0] w fun e w' => e = .returned (.bool r) ∧ Drawn0 w w' := by
  have H : (if 0 ≤ a0 then (utf8_ValidRune.j0 k a0 (decide (a0 < 55296))) else (utf8_ValidRune.j0 k a0 false)) = some r := h
  clear h
  have HC2 := Aside0.mk H
  clear H
  go_enter Tryd.func51, Tryd.ntmps51
  go_upto_region 1 with (fail)
  go_cut [3] (fun v3 wc => ∃ (kq : Nat) (x3_1 : Bool), v3 = .bool x3_1 ∧ Aside0 (utf8_ValidRune.j0 kq a0 x3_1 = some r) ∧ Aside0 (kq ≤ k) ∧ Drawn0 w wc)
  case first =>
    have H := HC2.out
    clear HC2
    by_cases c3 : 0 ≤ a0
    · rw [if_pos c3] at H
      have c3b0 : decide (0 ≤ a0) = true := decide_eq_true c3
      clear c3
      (first | rw [c3b0] | (simp only [i64_w, i32_w]; rw [c3b0]) | skip)
      have H' := Aside0.mk H
      clear H
      go_wp2
      go_meet
      case rel => exact ⟨_, (decide (a0 < 55296)), (by first | rfl | (simp; done) | (simp [*]; done)), H', ⟨by first | omega | exact Nat.le_refl _⟩, by repeat (first | exact Drawn0.refl _ | apply Drawn0.step)⟩
    · rw [if_neg c3] at H
      have c3b0 : decide (0 ≤ a0) = false := decide_eq_false c3
      clear c3
      (first | rw [c3b0] | (simp only [i64_w, i32_w]; rw [c3b0]) | skip)
      have H' := Aside0.mk H
      clear H
      go_wp2
      go_meet
      case rel => exact ⟨_, (false), (by first | rfl | (simp; done) | (simp [*]; done)), H', ⟨by first | omega | exact Nat.le_refl _⟩, by repeat (first | exact Drawn0.refl _ | apply Drawn0.step)⟩
  case rest =>
    clear HC2
    try clear p2
    try clear c3
    try clear c3b0
    obtain ⟨kq, x3_1, rfl, HA, HJ1, ⟨mc1, rfl⟩⟩ := hcut
    cases kq with
    | zero => exact absurd HA.out (by simp [utf8_ValidRune.j0])
    | succ kj1 =>
      have H := HA.out
      clear HA
      simp only [utf8_ValidRune.j0] at H
      by_cases c4 : x3_1 = true
      · subst c4
        have H1 : (some true) = some r := by rw [if_pos rfl] at H; exact H
        clear H
        have H := H1
        clear H1
        obtain rfl := Option.some.inj H
        go_wp2
        go_ret
        exact ⟨by first | rfl | (simp; done) | (simp [*]; done), by repeat (first | exact Drawn0.refl _ | apply Drawn0.step)⟩
      · replace c4 := Bool.eq_false_iff.mpr c4
        subst c4
        have H1 : (if 57343 < a0 then (if a0 ≤ 1114111 then (some true) else (some false)) else (some false)) = some r := by rw [if_neg (show ¬ (false = true) by decide)] at H; exact H
        clear H
        have H := H1
        clear H1
        by_cases c5 : 57343 < a0
        · rw [if_pos c5] at H
          have c5b0 : decide (57343 < a0) = true := decide_eq_true c5
          clear c5
          by_cases c6 : a0 ≤ 1114111
          · rw [if_pos c6] at H
            have c6b0 : decide (a0 ≤ 1114111) = true := decide_eq_true c6
            clear c6
            obtain rfl := Option.some.inj H
            go_wp2
            go_ret
            exact ⟨by first | rfl | (simp; done) | (simp [*]; done), by repeat (first | exact Drawn0.refl _ | apply Drawn0.step)⟩
          · rw [if_neg c6] at H
            have c6b0 : decide (a0 ≤ 1114111) = false := decide_eq_false c6
            clear c6
            obtain rfl := Option.some.inj H
            go_wp2
            go_ret
            exact ⟨by first | rfl | (simp; done) | (simp [*]; done), by repeat (first | exact Drawn0.refl _ | apply Drawn0.step)⟩
        · rw [if_neg c5] at H
          have c5b0 : decide (57343 < a0) = false := decide_eq_false c5
          clear c5
          obtain rfl := Option.some.inj H
          go_wp2
          go_ret
          exact ⟨by first | rfl | (simp; done) | (simp [*]; done), by repeat (first | exact Drawn0.refl _ | apply Drawn0.step)⟩

/-! ### char_code: function 40 (given) -/
/-- a digit's number at base 16 -/
def hexV (c : UInt8) : Option Nat := if 48 ≤ c.toNat ∧ c.toNat ≤ 57 then some (c.toNat - 48) else if 97 ≤ c.toNat ∧ c.toNat ≤ 102 then some (c.toNat - 87) else if 65 ≤ c.toNat ∧ c.toNat ≤ 70 then some (c.toNat - 55) else none
theorem hexV_lt {c : UInt8} {d : Nat} (h : hexV c = some d) : d < 16 := by
  unfold hexV at h
  split at h
  · injection h; omega
  · split at h
    · injection h; omega
    · split at h
      · injection h; omega
      · cases h
def hexGo (n : Nat) : List UInt8 → Option Nat
  | [] => some n
  | c :: l => match hexV c with
    | some d => hexGo (16 * n + d) l
    | none => none
def strconv_ParseUint.rv (o : Option Nat) : Value := match o with
  | some n => .tuple #[.int .u64 n, .nilIface]
  | none => .tuple #[.int .u64 0, .iface 80 (.int .i64 2)]
theorem strconv_ParseUint.bytes (s : ByteArray) (w : World) : ∃ cap W1, (convert 9 34 (.string s)).run Tryd.prog w = .ok (.slice (some ⟨w.heap.size, 0, none⟩) s.size cap) W1 ∧ Below w.heap.size w W1 ∧ ∀ k (h : k < s.size), W1.cell? ⟨w.heap.size, k, none⟩ = some (.int .u8 (s[k].toNat : Nat)) := by
  have h := run_bytes_of_string (P := Tryd.prog) w 9 34 5 s (by kernel_rfl) (by kernel_rfl) (by kernel_rfl)
  refine ⟨_, _, h, ((Below.refl _ w).drew).alloc (Nat.le_refl _) _, fun k hk => ?_⟩
  have h2 := bytesRow_at s (grownCap w s.size 0 5) k hk
  rw [show w.heap.size = w.drew.heap.size from rfl, World.cell?_alloc_mark]
  exact h2
/-- a byte, lower -/
theorem strconv_ParseUint.lower (c : Int) (w : World) : Calls Tryd.prog 63 #[.int .u8 c] w fun e w' => e = .returned (.int .u8 (Go.bits .or .u8 c 32)) ∧ w' = w := by
  go_enter Tryd.func63, Tryd.ntmps63
  go_wp2
  go_ret
  exact ⟨rfl, rfl⟩
theorem strconv_ParseUint.low1 : ∀ n : Fin 256, 0 ≤ Go.bits .or .u8 (n.val : Int) 32 ∧ Go.bits .or .u8 (n.val : Int) 32 ≤ 255 ∧ ((48 ≤ n.val ∧ n.val ≤ 57 ∧ hexV (UInt8.ofNat n.val) = some (n.val - 48)) ∨ (¬ (48 ≤ n.val ∧ n.val ≤ 57)) ∧ ((n.val ≠ 95 ∧ 97 ≤ Go.bits .or .u8 (n.val : Int) 32 ∧ Go.bits .or .u8 (n.val : Int) 32 ≤ 102 ∧ hexV (UInt8.ofNat n.val) = some (Go.bits .or .u8 (n.val : Int) 32 - 87).toNat) ∨
    (n.val ≠ 95 ∧ 103 ≤ Go.bits .or .u8 (n.val : Int) 32 ∧ Go.bits .or .u8 (n.val : Int) 32 ≤ 122 ∧ hexV (UInt8.ofNat n.val) = none) ∨ (n.val ≠ 95 ∧ Go.bits .or .u8 (n.val : Int) 32 < 97 ∧ hexV (UInt8.ofNat n.val) = none) ∨ (122 < Go.bits .or .u8 (n.val : Int) 32 ∧ hexV (UInt8.ofNat n.val) = none))) := by decide +kernel
theorem strconv_ParseUint.low (c : UInt8) : ∃ L : Int, Go.bits .or .u8 (c.toNat : Nat) 32 = L ∧ 0 ≤ L ∧ L ≤ 255 ∧ ((48 ≤ c.toNat ∧ c.toNat ≤ 57 ∧ hexV c = some (c.toNat - 48)) ∨ (¬ (48 ≤ c.toNat ∧ c.toNat ≤ 57)) ∧ ((c.toNat ≠ 95 ∧ 97 ≤ L ∧ L ≤ 102 ∧ hexV c = some (L - 87).toNat) ∨ (c.toNat ≠ 95 ∧ 103 ≤ L ∧ L ≤ 122 ∧ hexV c = none) ∨ (c.toNat ≠ 95 ∧ L < 97 ∧ hexV c = none) ∨ (122 < L ∧ hexV c = none))) := by
  have h := strconv_ParseUint.low1 ⟨c.toNat, UInt8.toNat_lt c⟩
  have e : UInt8.ofNat c.toNat = c := by simp
  dsimp only at h
  rw [e] at h
  exact ⟨_, rfl, h⟩
theorem strconv_ParseUint.wr (a : Int) : IntKind.u64.wrap a = a % 18446744073709551616 := by first | rfl | (simp [IntKind.wrap]; done)
theorem strconv_ParseUint.lt16 {n k d : Nat} (h : n < 16 ^ k) (hd : d < 16) : 16 * n + d < 16 ^ (k + 1) := by
  rw [Nat.pow_succ]; omega
set_option maxRecDepth 100000 in
set_option maxHeartbeats 2000000 in
theorem strconv_ParseUint.inner (s : ByteArray) (h1 : 1 ≤ s.size) (h6 : s.size ≤ 6) (w : World) : Calls Tryd.prog 58 #[.string s, .int .i64 16, .int .i64 32] w fun e w' => e = .returned (strconv_ParseUint.rv (hexGo 0 s.data.toList)) ∧ Below w.heap.size w w' := by
  obtain ⟨cap, W1, hk, hb, hc⟩ := strconv_ParseUint.bytes s w
  have HB := Aside0.mk hb
  have HC := Aside0.mk hc
  clear hb hc
  have he : s.toList.isEmpty = false := by
    cases h : s.toList with
    | nil =>
      exfalso
      have : s.data.toList = [] := (ByteArray.toList_eq s).symm.trans h
      have h2 : s.data.toList.length = 0 := by rw [this]; rfl
      have := size_len s
      omega
    | cons _ _ => rfl
  have he2 : (s.toList == ([] : List UInt8)) = false := by
    cases h : s.toList with
    | nil => rw [h] at he; cases he
    | cons _ _ => rfl
  go_enter Tryd.func58, Tryd.ntmps58
  go_wp2
  generalize hZ : (1152921504606846976 : Int) = Z
  generalize hM : (4294967295 : Int) = M
  have hZM := Aside0.mk (show 16777216 ≤ Z ∧ 16777216 ≤ M by omega)
  clear hZ hM
  go_loop [12, 13, 101] (fun uv nv iv => ∃ k n : Nat, iv = .int .i64 k ∧ nv = .int .u64 n ∧ uv = .bool false ∧ Aside0 (k ≤ s.size ∧ n < 16 ^ k ∧ hexGo n (s.data.toList.drop k) = hexGo 0 s.data.toList)) (fun _ _ iv => s.size - (intOf iv).toNat)
  case atStart => exact ⟨0, 0, rfl, rfl, rfl, ⟨by omega, by simp, rfl⟩⟩
  case round =>
    obtain ⟨k, n, rfl, rfl, rfl, HA⟩ := hrel
    clear hk he he2
    obtain ⟨hks, hn, hg⟩ := HA.out
    clear HA
    by_cases hlt : k < s.size
    · have hn5 : (n : Int) < 1048576 := by
        have : 16 ^ k ≤ 16 ^ 5 := Nat.pow_le_pow_right (by omega) (by omega)
        omega
      have HN := Aside0.mk hn
      have hcut : decide (Z ≤ (n : Int)) = false := decide_eq_false (by have := hZM.out; omega)
      have e1 : IntKind.u64.wrap ((n : Int) * 16) = (n : Int) * 16 := by rw [strconv_ParseUint.wr]; omega
      have HN5 := Aside0.mk hn5
      clear hn hn5
      have hck := HC.out k hlt
      have hdr : s.data.toList.drop k = s[k] :: s.data.toList.drop (k + 1) := scan_drop s k hlt
      rw [hdr] at hg
      clear hdr
      generalize s[k] = c at hck hg
      have hg2 : (match hexV c with | some d => hexGo (16 * n + d) (s.data.toList.drop (k + 1)) | none => none) = hexGo 0 s.data.toList := hg
      clear hg
      obtain ⟨L, hL, l0, l1, hl⟩ := strconv_ParseUint.low c
      obtain ⟨x, hx⟩ : ∃ x : Int, (c.toNat : Int) = x := ⟨_, rfl⟩
      rw [hx] at hck hL
      rcases hl with ⟨a1, a2, hv⟩ | ⟨a1, ⟨a5, a2, a3, hv⟩ | ⟨a5, a2, a3, hv⟩ | ⟨a5, a2, hv⟩ | ⟨a2, hv⟩⟩
      · rw [hv] at hg2
        have HG := Aside0.mk hg2
        have y1 : 48 ≤ x := by omega
        have y2 : x ≤ 57 := by omega
        have y5 : (x == 95) = false := by simp; omega
        have y3 : c.toNat - 48 = (x - 48).toNat := by omega
        rw [y3] at HG
        have e2 : IntKind.u64.wrap ((n : Int) * 16 + (x - 48)) = (n : Int) * 16 + (x - 48) := by have := HN5.out; rw [strconv_ParseUint.wr]; omega
        have f1 : decide ((n : Int) * 16 + (x - 48) < (n : Int) * 16) = false := decide_eq_false (by omega)
        have f2 : decide (M < (n : Int) * 16 + (x - 48)) = false := decide_eq_false (by have := HN5.out; have := hZM.out; omega)
        clear hg2 hv a1 a2 hx hL y3
        go_wp2
        go_round
        case rel => exact ⟨k + 1, 16 * n + (x - 48).toNat, by go_num, by congr 1; omega, rfl, ⟨by omega, strconv_ParseUint.lt16 HN.out (by omega), HG.out⟩⟩
        case measure => simp [intOf]; omega
      · rw [hv] at hg2
        have HG := Aside0.mk hg2
        have y5 : (x == 95) = false := by simp; omega
        have y6 : 48 ≤ x → ¬ x ≤ 57 := by omega
        have e2 : IntKind.u64.wrap ((n : Int) * 16 + (L - 97 + 10)) = (n : Int) * 16 + (L - 97 + 10) := by have := HN5.out; rw [strconv_ParseUint.wr]; omega
        have f1 : decide ((n : Int) * 16 + (L - 97 + 10) < (n : Int) * 16) = false := decide_eq_false (by omega)
        have f2 : decide (M < (n : Int) * 16 + (L - 97 + 10)) = false := decide_eq_false (by have := HN5.out; have := hZM.out; omega)
        clear hg2 hv a1 a5 hx
        by_cases y1 : 48 ≤ x
        · have y2 : 57 < x := by have := y6 y1; omega
          clear y6
          go_wp2_with (go_at_call 63; refine (strconv_ParseUint.lower _ _).mono ?_; rintro e w5 ⟨rfl, rfl⟩)
          go_round
          case rel => exact ⟨k + 1, 16 * n + (L - 87).toNat, by go_num, by congr 1; omega, rfl, ⟨by omega, strconv_ParseUint.lt16 HN.out (by omega), HG.out⟩⟩
          case measure => simp [intOf]; omega
        · have y2 : x < 48 := by omega
          clear y6 y1
          go_wp2_with (go_at_call 63; refine (strconv_ParseUint.lower _ _).mono ?_; rintro e w5 ⟨rfl, rfl⟩)
          go_round
          case rel => exact ⟨k + 1, 16 * n + (L - 87).toNat, by go_num, by congr 1; omega, rfl, ⟨by omega, strconv_ParseUint.lt16 HN.out (by omega), HG.out⟩⟩
          case measure => simp [intOf]; omega
      · rw [hv] at hg2
        have HG := Aside0.mk hg2
        have y5 : (x == 95) = false := by simp; omega
        have y6 : 48 ≤ x → ¬ x ≤ 57 := by omega
        clear hg2 hv a1 a5 hx
        by_cases y1 : 48 ≤ x
        · have y2 : 57 < x := by have := y6 y1; omega
          clear y6
          go_wp2_with (go_at_call 63; refine (strconv_ParseUint.lower _ _).mono ?_; rintro e w5 ⟨rfl, rfl⟩)
          go_ret2
          exact ⟨by rw [← HG.out]; rfl, HB.out⟩
        · have y2 : x < 48 := by omega
          clear y6 y1
          go_wp2_with (go_at_call 63; refine (strconv_ParseUint.lower _ _).mono ?_; rintro e w5 ⟨rfl, rfl⟩)
          go_ret2
          exact ⟨by rw [← HG.out]; rfl, HB.out⟩
      · rw [hv] at hg2
        have HG := Aside0.mk hg2
        have y5 : (x == 95) = false := by simp; omega
        have y6 : 48 ≤ x → ¬ x ≤ 57 := by omega
        clear hg2 hv a1 a5 hx
        by_cases y1 : 48 ≤ x
        · have y2 : 57 < x := by have := y6 y1; omega
          clear y6
          go_wp2_with (go_at_call 63; refine (strconv_ParseUint.lower _ _).mono ?_; rintro e w5 ⟨rfl, rfl⟩)
          go_ret2
          exact ⟨by rw [← HG.out]; rfl, HB.out⟩
        · have y2 : x < 48 := by omega
          clear y6 y1
          go_wp2_with (go_at_call 63; refine (strconv_ParseUint.lower _ _).mono ?_; rintro e w5 ⟨rfl, rfl⟩)
          go_ret2
          exact ⟨by rw [← HG.out]; rfl, HB.out⟩
      · rw [hv] at hg2
        have HG := Aside0.mk hg2
        have y6 : 48 ≤ x → ¬ x ≤ 57 := by omega
        clear hg2 hv a1 hx
        by_cases y7 : x = 95
        · have y5 : (x == 95) = true := by simp [y7]
          have y1 : 48 ≤ x := by omega
          have y2 : 57 < x := by omega
          clear y6 y7
          go_wp2_with (go_at_call 63; refine (strconv_ParseUint.lower _ _).mono ?_; rintro e w5 ⟨rfl, rfl⟩)
          go_ret2
          exact ⟨by rw [← HG.out]; rfl, HB.out⟩
        have y5 : (x == 95) = false := by simp [y7]
        by_cases y1 : 48 ≤ x
        · have y2 : 57 < x := by have := y6 y1; omega
          clear y6 y7
          go_wp2_with (go_at_call 63; refine (strconv_ParseUint.lower _ _).mono ?_; rintro e w5 ⟨rfl, rfl⟩)
          go_ret2
          exact ⟨by rw [← HG.out]; rfl, HB.out⟩
        · have y2 : x < 48 := by omega
          clear y6 y1 y7
          go_wp2_with (go_at_call 63; refine (strconv_ParseUint.lower _ _).mono ?_; rintro e w5 ⟨rfl, rfl⟩)
          go_ret2
          exact ⟨by rw [← HG.out]; rfl, HB.out⟩
    · obtain rfl : k = s.size := by omega
      have hdr : s.data.toList.drop s.size = [] := List.drop_eq_nil_of_le (by rw [size_len s]; exact Nat.le_refl _)
      rw [hdr] at hg
      have HG := Aside0.mk hg
      clear hg hdr
      go_wp2
      go_ret2
      exact ⟨by rw [← HG.out]; rfl, HB.out⟩
set_option maxRecDepth 100000 in
theorem strconv_ParseUint.ok (s : ByteArray) (h1 : 1 ≤ s.size) (h6 : s.size ≤ 6) (n : Nat) (hn : hexGo 0 s.data.toList = some n) (w : World) : Calls Tryd.prog 50 #[.string s, .int .i64 16, .int .i64 32] w fun e w' => e = .returned (.tuple #[.int .u64 n, .nilIface]) ∧ Below w.heap.size w w' := by
  have hi := strconv_ParseUint.inner s h1 h6 w
  rw [hn] at hi
  go_enter Tryd.func50, Tryd.ntmps50
  go_wp2_with (go_at_call 58; refine hi.mono ?_; rintro e w2 ⟨rfl, hb⟩; unfold strconv_ParseUint.rv; have HB := Aside0.mk hb; clear hb hi)
  go_ret2
  exact ⟨rfl, HB.out⟩
set_option maxRecDepth 100000 in
theorem strconv_ParseUint.bad (s : ByteArray) (h1 : 1 ≤ s.size) (h6 : s.size ≤ 6) (hn : hexGo 0 s.data.toList = none) (w : World) (hT : Tabs w) : Calls Tryd.prog 50 #[.string s, .int .i64 16, .int .i64 32] w fun e w' => ∃ N, e = .returned (.tuple #[.int .u64 0, .iface 82 (.pointer (some ⟨N, 0, none⟩))]) ∧ Below w.heap.size w w' := by
  have hi := strconv_ParseUint.inner s h1 h6 w
  rw [hn] at hi
  have HT := Aside0.mk hT
  clear hT
  go_enter Tryd.func50, Tryd.ntmps50
  go_wp2_with (first
    | (go_at_call 58; refine hi.mono ?_; rintro e w2 ⟨rfl, hb⟩; unfold strconv_ParseUint.rv; have HB := Aside0.mk hb; clear hb hi; have HT2 := Aside0.mk (HT.out.below HB.out).2.2)
    | (go_at_call 59; obtain ⟨t0, a0, hv⟩ := HT2.out; refine (Tryd.strconv_toError_syntax _ _ _ _ _ _ (by omega) hv (.inr ⟨_, _, rfl⟩)).mono ?_; rintro e w3 ⟨N, rfl, -, -, hb3⟩; have HB3 := Aside0.mk hb3; clear hb3 hv))
  go_ret2
  exact ⟨_, rfl, HB.out.trans (HB3.out.mono HB.out.size)⟩
def char_code.val (s : ByteArray) : Int × Int :=
  if Lib.indexByte s.data.toList 92 < 1 then (0, 0) else if 6 < Lib.indexByte s.data.toList 92 then (0, 0)
  else match hexGo 0 (s.data.toList.take (Lib.indexByte s.data.toList 92).toNat) with
    | none => (0, 0)
    | some v => if Lib.validRune v = true then ((v : Int), Lib.indexByte s.data.toList 92 + 1) else (0, 0)
def char_code.f (a0 : ByteArray) : Option (Int × Int) := if a0.size ≤ 9223372036854775807 then some (char_code.val a0) else none
theorem hexGo_lt : ∀ (l : List UInt8) (n v : Nat), hexGo n l = some v → v < (n + 1) * 16 ^ l.length
  | [], n, v, h => by
    injection h with h
    subst h
    simp
  | c :: l, n, v, h => by
    unfold hexGo at h
    cases hc : hexV c with
    | none => rw [hc] at h; cases h
    | some d =>
      rw [hc] at h
      have h1 := hexGo_lt l _ v h
      have h2 := hexV_lt hc
      have h3 : (16 * n + d + 1) * 16 ^ l.length ≤ (16 * (n + 1)) * 16 ^ l.length := Nat.mul_le_mul_right _ (by omega)
      rw [List.length_cons, Nat.pow_succ]
      have h4 : (n + 1) * (16 ^ l.length * 16) = (16 * (n + 1)) * 16 ^ l.length := by
        rw [Nat.mul_comm (16 ^ l.length) 16, ← Nat.mul_assoc, Nat.mul_comm (n + 1) 16]
      omega
theorem char_code.plus {l : List UInt8} {v : Nat} (hl : l ≠ []) (h : hexGo 0 l = some v) : (l.head hl).toNat ≠ 43 := by
  cases l with
  | nil => exact absurd rfl hl
  | cons c l =>
    intro e
    have e : c.toNat = 43 := e
    have hc : hexV c = none := by unfold hexV; rw [e]; rfl
    unfold hexGo at h
    rw [hc] at h
    cases h
theorem char_code.ix (l : List UInt8) : Lib.indexByte l 92 ≤ l.length := by
  induction l with
  | nil => decide
  | cons c l ih =>
    unfold Lib.indexByte
    split
    · simp; omega
    · split
      · simp; omega
      · simp; omega
set_option maxRecDepth 100000 in
set_option maxHeartbeats 1000000 in
theorem char_code.walk (s : ByteArray) (hs : s.size ≤ 9223372036854775807) (w : World) (hT : Tabs w) : Calls Tryd.prog 40 #[.string s] w fun e w' => e = .returned (.tuple #[.int .i32 (char_code.val s).1, .int .i64 (char_code.val s).2]) ∧ Below w.heap.size w w' := by
  have HT := Aside0.mk hT
  clear hT
  have hix := fun w => Tryd.strings_IndexByte s 92 w
  have hle := char_code.ix s.data.toList
  unfold char_code.val
  rw [show ((92 : Int).toNat.toUInt8) = (92 : UInt8) from rfl] at hix
  generalize hn : Lib.indexByte s.data.toList 92 = n at hix hle ⊢
  have HIX := Aside0.mk hix
  clear hix
  rw [← size_len s] at hle
  by_cases h1 : n < 1
  · rw [if_pos h1]
    clear hn hle
    go_enter Tryd.func40, Tryd.ntmps40
    go_wp2_with (go_at_call 49; (with_reducible refine (HIX.out _).mono ?_); rintro e w2 ⟨rfl, rfl⟩)
    go_ret2
    exact ⟨rfl, Below.refl _ _⟩
  rw [if_neg h1]
  by_cases h6 : 6 < n
  · rw [if_pos h6]
    clear hn hle
    go_enter Tryd.func40, Tryd.ntmps40
    go_wp2_with (go_at_call 49; (with_reducible refine (HIX.out _).mono ?_); rintro e w2 ⟨rfl, rfl⟩)
    go_ret2
    exact ⟨rfl, Below.refl _ _⟩
  rw [if_neg h6]
  obtain ⟨m, rfl⟩ : ∃ m : Nat, n = m := ⟨n.toNat, by omega⟩
  rw [Int.toNat_natCast]
  have hsz : (s.extract 0 m).size = m := by rw [ByteArray.size_extract]; omega
  have hl : (s.extract 0 m).data.toList = s.data.toList.take m := by simp [ByteArray.data_extract]
  cases hv : hexGo 0 (s.data.toList.take m) with
  | none =>
    have hp := strconv_ParseUint.bad (s.extract 0 m) (by omega) (by omega) (by rw [hl]; exact hv) 
    have HP := Aside0.mk hp
    clear hp hv hn hsz hl
    go_enter Tryd.func40, Tryd.ntmps40
    go_wp2_with (first
      | (go_at_call 49; (with_reducible refine (HIX.out _).mono ?_); rintro e w2 ⟨rfl, rfl⟩)
      | (go_at_call 50; refine (HP.out _ HT.out).mono ?_; rintro e w3 ⟨N, rfl, hb⟩; have HB := Aside0.mk hb; clear hb))
    go_ret2
    exact ⟨rfl, HB.out⟩
  | some v =>
    have hp := strconv_ParseUint.ok (s.extract 0 m) (by omega) (by omega) v (by rw [hl]; exact hv)
    have HP := Aside0.mk hp
    have hvl : v < 16777216 := by
      have := hexGo_lt _ _ _ hv
      have h2 : (s.data.toList.take m).length = m := by rw [List.length_take, ← size_len]; omega
      rw [h2] at this
      have h3 : 16 ^ m ≤ 16 ^ 6 := Nat.pow_le_pow_right (by omega) (by omega)
      omega
    have h0 : 0 < s.size := by omega
    have hpl : ((s[0]'h0).toNat : Int) ≠ 43 := by
      have hne : s.data.toList.take m ≠ [] := by
        intro h
        have h2 : (s.data.toList.take m).length = m := by rw [List.length_take, ← size_len]; omega
        rw [h] at h2
        simp at h2
        omega
      have := char_code.plus hne hv
      have e : (s.data.toList.take m).head hne = s[0]'h0 := by
        rw [List.head_take, ← List.getElem_zero_eq_head]
        rfl
      rw [e] at this
      omega
    have hpb : (((s[0]'h0).toNat : Int) == 43) = false := by simpa using hpl
    have hw : wrap32 (v : Int) = v := by unfold wrap32; omega
    clear hp hv hn hsz hl hvl hpl
    dsimp only
    cases hr : Lib.validRune (v : Int) with
    | true =>
      rw [if_pos rfl]
      have HR := Aside0.mk (fun w : World => hr ▸ Tryd.utf8_ValidRune (v : Int) w)
      clear hr
      go_enter Tryd.func40, Tryd.ntmps40
      go_wp2_with (first
        | (go_at_call 49; (with_reducible refine (HIX.out _).mono ?_); rintro e w2 ⟨rfl, rfl⟩)
        | (go_at_call 50; refine (HP.out _).mono ?_; rintro e w3 ⟨rfl, hb⟩; have HB := Aside0.mk hb; clear hb)
        | (go_at_call 51; refine (HR.out _).mono ?_; rintro e w4 ⟨rfl, rfl⟩))
      go_ret2
      exact ⟨(congrArg (fun z : Int => Ending.returned (.tuple #[.int .i32 z, .int .i64 ((m : Int) + 1)])) hw : _), HB.out⟩
    | false =>
      rw [if_neg (by simp)]
      have HR := Aside0.mk (fun w : World => hr ▸ Tryd.utf8_ValidRune (v : Int) w)
      clear hr
      go_enter Tryd.func40, Tryd.ntmps40
      go_wp2_with (first
        | (go_at_call 49; (with_reducible refine (HIX.out _).mono ?_); rintro e w2 ⟨rfl, rfl⟩)
        | (go_at_call 50; refine (HP.out _).mono ?_; rintro e w3 ⟨rfl, hb⟩; have HB := Aside0.mk hb; clear hb)
        | (go_at_call 51; refine (HR.out _).mono ?_; rintro e w4 ⟨rfl, rfl⟩))
      go_ret2
      exact ⟨rfl, HB.out⟩
theorem char_code.calls (a0 : ByteArray) (r1 r2 : Int) (w : World) (h : char_code.f a0 = some (r1, r2)) (hT : Tabs w) :
    Calls Tryd.prog 40 #[.string a0] w fun e w' => e = .returned (.tuple #[.int .i32 r1, .int .i64 r2]) ∧ Below w.heap.size w w' := by
  unfold char_code.f at h
  split at h
  case isTrue hs =>
    injection h with h
    have := char_code.walk a0 hs w hT
    rw [h] at this
    exact this
  case isFalse => exact absurd h (by simp)

/-! ### char_escape: function 30 -/
def char_escape.j0 : Nat → ByteArray → Int → Int → Bool → Option (Int × Int)
  | 0, _, _, _, _ => none
  | k + 1, x0, x4, x11, x12 => if x12 = true then (some (wrap32 (x4), 1)) else (if x11 = 110 then (some (10, 1)) else (if x11 = 116 then (some (9, 1)) else (if x11 = 120 then (if 1 ≤ (x0.size : Int) then ((char_code.f (x0.extract 1 x0.size)).bind fun bt107 => (if bt107.2 > 0 then (some (bt107.1, wrap64 (bt107.2 + 1))) else (some (0, 0)))) else (none)) else (some (0, 0)))))
def char_escape.f (k : Nat) (a0 : ByteArray) : Option (Int × Int) := if a0.toList = ([] : List UInt8) then (some (0, 0)) else (if 0 < (a0.size : Int) then (if (bt a0 0) = 92 then (char_escape.j0 k a0 (bt a0 0) (bt a0 0) ((bt a0 0) == 92)) else (char_escape.j0 k a0 (bt a0 0) (bt a0 0) ((bt a0 0) == 39))) else (none))
theorem char_escape.mono_l : ∀ k, (∀ y0 y1 y2 y3, LeO (char_escape.j0 k y0 y1 y2 y3) (char_escape.j0 (k + 1) y0 y1 y2 y3))
  | 0 => fun _ _ _ _ r h => by simp [char_escape.j0] at h
  | k + 1 => by
    have ih0 := char_escape.mono_l k
    · intro y0 y1 y2 y3
      unfold char_escape.j0
      repeat' first
      | (with_reducible exact ih0 _ _ _ _)
      | (with_reducible exact LeO.refl _)
      | (with_reducible exact LeO.none _)
      | (with_reducible refine LeO.ite ?_ ?_)
      | (with_reducible refine LeO.bind ?_ (fun _ => ?_))
      | exact ih0 _ _ _ _
      | exact LeO.none _
      | refine LeO.ite ?_ ?_
      | refine LeO.bind ?_ (fun _ => ?_)
theorem char_escape.mono : ∀ a0 k, LeO (char_escape.f k a0) (char_escape.f (k + 1) a0) := by
  intro a0 k
  have ih0 := char_escape.mono_l k
  unfold char_escape.f
  repeat' first
      | (with_reducible exact ih0 _ _ _ _)
      | (with_reducible exact LeO.refl _)
      | (with_reducible exact LeO.none _)
      | (with_reducible refine LeO.ite ?_ ?_)
      | (with_reducible refine LeO.bind ?_ (fun _ => ?_))
      | exact ih0 _ _ _ _
      | exact LeO.none _
      | refine LeO.ite ?_ ?_
      | refine LeO.bind ?_ (fun _ => ?_)
set_option maxHeartbeats 8000000 in
set_option maxRecDepth 100000 in
theorem char_escape.calls (k : Nat) (a0 : ByteArray) (r1 : Int) (r2 : Int) (w : World) (h : char_escape.f k a0 = some (r1, r2)) (hT : Tabs w) :
    Calls Tryd.prog 30 #[.string a0] w fun e w' => e = .returned (.tuple #[.int .i32 r1, .int .i64 r2]) ∧ Below w.heap.size w w' := by
  have HT := Aside0.mk hT
  clear hT
  have HB := Aside0.mk (Below.refl w.heap.size w)
  have H : (if a0.toList = ([] : List UInt8) then (some (0, 0)) else (if 0 < (a0.size : Int) then (if (bt a0 0) = 92 then (char_escape.j0 k a0 (bt a0 0) (bt a0 0) ((bt a0 0) == 92)) else (char_escape.j0 k a0 (bt a0 0) (bt a0 0) ((bt a0 0) == 39))) else (none))) = some (r1, r2) := h
  clear h
  by_cases c2 : a0.toList = ([] : List UInt8)
  · rw [if_pos c2] at H
    have c2b0 : (a0.toList == ([] : List UInt8)) = true := beq_iff_eq.mpr c2
    have c2b1 : (a0.toList != ([] : List UInt8)) = false := bne_eq_false_iff_eq.mpr c2
    clear c2
    simp only [Option.some.injEq, Prod.mk.injEq] at H
    obtain ⟨rfl, rfl⟩ := H
    go_enter Tryd.func30, Tryd.ntmps30
    go_wp2
    go_ret2
    exact ⟨by first | rfl | (simp [errW_none, errW_some] <;> rfl) | (simp [*, errW_none, errW_some] <;> rfl), by repeat (first | (with_reducible first | exact HB.out | apply below_alloc | apply pw_below_drewN | apply below_drew1) | exact HB.out)⟩
  · rw [if_neg c2] at H
    have c2b0 : (a0.toList == ([] : List UInt8)) = false := beq_eq_false_iff_ne.mpr c2
    have c2b1 : (a0.toList != ([] : List UInt8)) = true := bne_iff_ne.mpr c2
    by_cases c3 : 0 < (a0.size : Int)
    · rw [if_pos c3] at H
      have c3b0 : decide (0 < (a0.size : Int)) = true := decide_eq_true c3
      have c3b1 : decide (0 < a0.size) = true := decide_eq_true (by omega)
      clear c3
      have HC5 := Aside0.mk H
      clear H
      have p4 : 0 ≤ (0 : Int) := (by omega)
      have q4 : 0 < a0.size := (by have : (0 : Int) < (a0.size : Int) := of_decide_eq_true (by first | (with_reducible assumption) | assumption); omega)
      have hx4 : ∀ h : 0 < a0.size, ((a0[0]'h).toNat : Int) = bt a0 0 := bt_at a0 0
      clear p4
      have qi4 : (0 < (a0.size : Int)) = True := eq_true (of_decide_eq_true (by first | (with_reducible assumption) | assumption))
      replace q4 := eq_true q4
      go_enter Tryd.func30, Tryd.ntmps30
      go_upto_if 12 with (fail)
      go_cut [12] (fun v12 wc => ∃ (kq : Nat) (x12_4 : Bool), v12 = .bool x12_4 ∧ Aside0 (char_escape.j0 kq a0 (bt a0 0) (bt a0 0) x12_4 = some (r1, r2)) ∧ Aside0 (kq ≤ k) ∧ Aside0 (Below w.heap.size w wc))
      case first =>
        have H := HC5.out
        clear HC5
        by_cases c6 : (bt a0 0) = 92
        · rw [if_pos c6] at H
          have c6b0 : ((bt a0 0) == 92) = true := beq_iff_eq.mpr c6
          have c6b1 : ((bt a0 0) != 92) = false := bne_eq_false_iff_eq.mpr c6
          clear c6
          (first | rw [c6b0] | (simp only [i64_w, i32_w]; rw [c6b0]) | skip)
          have H' := Aside0.mk H
          clear H
          go_wp2
          go_meet
          case rel => exact ⟨_, (((bt a0 0) == 92)), (by first | rfl | (simp; done) | (simp [*]; done)), H', ⟨by first | omega | exact Nat.le_refl _⟩, ⟨by repeat (first | (with_reducible first | exact HB.out | apply below_alloc | apply pw_below_drewN | apply below_drew1) | exact HB.out)⟩⟩
        · rw [if_neg c6] at H
          have c6b0 : ((bt a0 0) == 92) = false := beq_eq_false_iff_ne.mpr c6
          have c6b1 : ((bt a0 0) != 92) = true := bne_iff_ne.mpr c6
          (first | rw [c6b0] | (simp only [i64_w, i32_w]; rw [c6b0]) | skip)
          have H' := Aside0.mk H
          clear H
          go_wp2
          go_meet
          case rel => exact ⟨_, (((bt a0 0) == 39)), (by first | rfl | (simp; done) | (simp [*]; done)), H', ⟨by first | omega | exact Nat.le_refl _⟩, ⟨by repeat (first | (with_reducible first | exact HB.out | apply below_alloc | apply pw_below_drewN | apply below_drew1) | exact HB.out)⟩⟩
      case rest =>
        clear HC5
        try clear c2
        try clear c2b0
        try clear c2b1
        try clear p2
        try clear c3
        try clear c3b0
        try clear c3b1
        try clear p4
        try clear q4
        try clear hx4
        try clear qi4
        try clear c6
        try clear c6b0
        try clear c6b1
        try clear p4
        try clear q4
        obtain ⟨kq, x12_4, rfl, HA, HJ4, HB⟩ := hcut
        cases kq with
        | zero => exact absurd HA.out (by simp [char_escape.j0])
        | succ kj4 =>
          have H := HA.out
          clear HA
          simp only [char_escape.j0] at H
          by_cases c7 : x12_4 = true
          · subst c7
            have H1 : (some (wrap32 ((bt a0 0)), 1)) = some (r1, r2) := by rw [if_pos rfl] at H; exact H
            clear H
            have H := H1
            clear H1
            simp only [Option.some.injEq, Prod.mk.injEq] at H
            obtain ⟨rfl, rfl⟩ := H
            go_wp2
            go_ret2
            exact ⟨by first | rfl | (simp [errW_none, errW_some] <;> rfl) | (simp [*, errW_none, errW_some] <;> rfl), by repeat (first | (with_reducible first | exact HB.out | apply below_alloc | apply pw_below_drewN | apply below_drew1) | exact HB.out)⟩
          · replace c7 := Bool.eq_false_iff.mpr c7
            subst c7
            have H1 : (if (bt a0 0) = 110 then (some (10, 1)) else (if (bt a0 0) = 116 then (some (9, 1)) else (if (bt a0 0) = 120 then (if 1 ≤ (a0.size : Int) then ((char_code.f (a0.extract 1 a0.size)).bind fun bt107 => (if bt107.2 > 0 then (some (bt107.1, wrap64 (bt107.2 + 1))) else (some (0, 0)))) else (none)) else (some (0, 0))))) = some (r1, r2) := by rw [if_neg (show ¬ (false = true) by decide)] at H; exact H
            clear H
            have H := H1
            clear H1
            by_cases c8 : (bt a0 0) = 110
            · rw [if_pos c8] at H
              have c8b0 : ((bt a0 0) == 110) = true := beq_iff_eq.mpr c8
              have c8b1 : ((bt a0 0) != 110) = false := bne_eq_false_iff_eq.mpr c8
              clear c8
              simp only [Option.some.injEq, Prod.mk.injEq] at H
              obtain ⟨rfl, rfl⟩ := H
              go_wp2
              go_ret2
              exact ⟨by first | rfl | (simp [errW_none, errW_some] <;> rfl) | (simp [*, errW_none, errW_some] <;> rfl), by repeat (first | (with_reducible first | exact HB.out | apply below_alloc | apply pw_below_drewN | apply below_drew1) | exact HB.out)⟩
            · rw [if_neg c8] at H
              have c8b0 : ((bt a0 0) == 110) = false := beq_eq_false_iff_ne.mpr c8
              have c8b1 : ((bt a0 0) != 110) = true := bne_iff_ne.mpr c8
              by_cases c9 : (bt a0 0) = 116
              · rw [if_pos c9] at H
                have c9b0 : ((bt a0 0) == 116) = true := beq_iff_eq.mpr c9
                have c9b1 : ((bt a0 0) != 116) = false := bne_eq_false_iff_eq.mpr c9
                clear c9
                simp only [Option.some.injEq, Prod.mk.injEq] at H
                obtain ⟨rfl, rfl⟩ := H
                go_wp2
                go_ret2
                exact ⟨by first | rfl | (simp [errW_none, errW_some] <;> rfl) | (simp [*, errW_none, errW_some] <;> rfl), by repeat (first | (with_reducible first | exact HB.out | apply below_alloc | apply pw_below_drewN | apply below_drew1) | exact HB.out)⟩
              · rw [if_neg c9] at H
                have c9b0 : ((bt a0 0) == 116) = false := beq_eq_false_iff_ne.mpr c9
                have c9b1 : ((bt a0 0) != 116) = true := bne_iff_ne.mpr c9
                by_cases c10 : (bt a0 0) = 120
                · rw [if_pos c10] at H
                  have c10b0 : ((bt a0 0) == 120) = true := beq_iff_eq.mpr c10
                  have c10b1 : ((bt a0 0) != 120) = false := bne_eq_false_iff_eq.mpr c10
                  clear c10
                  by_cases c11 : 1 ≤ (a0.size : Int)
                  · rw [if_pos c11] at H
                    have c11b0 := eq_true c11
                    have c11b1 : decide (1 ≤ (a0.size : Int)) = true := decide_eq_true c11
                    clear c11
                    replace H := Option.bind_eq_some_iff.mp H
                    obtain ⟨⟨t107, t108⟩, A120, H⟩ := H
                    replace H : (if t108 > 0 then (some (t107, wrap64 (t108 + 1))) else (some (0, 0))) = some (r1, r2) := H
                    have A12 := Aside0.mk A120
                    clear A120
                    by_cases c13 : t108 > 0
                    · rw [if_pos c13] at H
                      have c13b0 : decide (0 < t108) = true := decide_eq_true c13
                      clear c13
                      simp only [Option.some.injEq, Prod.mk.injEq] at H
                      obtain ⟨rfl, rfl⟩ := H
                      go_wp2_with (first | ((with_reducible refine gate_callee (f := 40) rfl ?_); refine goesL_ (some 26) rfl rfl Tryd.func40 (by kernel_rfl) rfl #[.string (a0.extract 1 a0.size)] rfl (by (try simp only [List.map_toArray, List.map_cons, List.map_nil]); first | done | rfl | (simp only [List.length_drop, List.length_take]; rfl)) ?_; (with_reducible refine (char_code.calls (a0.extract 1 a0.size) t107 t108 _ A12.out (HT.out.below (by first | exact Below.refl _ _ | (repeat (first | (with_reducible first | exact HB.out | apply below_alloc | apply pw_below_drewN | apply below_drew1) | exact HB.out))))).mono ?_); rintro e w14 ⟨rfl, hb⟩; refine ⟨_, rfl, ?_⟩; have n0_ := Aside0.mk (below_step (by repeat (first | (with_reducible first | exact HB.out | apply below_alloc | apply pw_below_drewN | apply below_drew1) | exact HB.out)) hb); clear HB; have HB := n0_; clear n0_; (try clear hb); (try clear hb2); (try clear hk); (try clear hi)))
                      go_ret2
                      exact ⟨by first | rfl | (simp [errW_none, errW_some] <;> rfl) | (simp [*, errW_none, errW_some] <;> rfl), by repeat (first | (with_reducible first | exact HB.out | apply below_alloc | apply pw_below_drewN | apply below_drew1) | exact HB.out)⟩
                    · rw [if_neg c13] at H
                      have c13b0 : decide (0 < t108) = false := decide_eq_false c13
                      clear c13
                      simp only [Option.some.injEq, Prod.mk.injEq] at H
                      obtain ⟨rfl, rfl⟩ := H
                      go_wp2_with (first | ((with_reducible refine gate_callee (f := 40) rfl ?_); refine goesL_ (some 26) rfl rfl Tryd.func40 (by kernel_rfl) rfl #[.string (a0.extract 1 a0.size)] rfl (by (try simp only [List.map_toArray, List.map_cons, List.map_nil]); first | done | rfl | (simp only [List.length_drop, List.length_take]; rfl)) ?_; (with_reducible refine (char_code.calls (a0.extract 1 a0.size) t107 t108 _ A12.out (HT.out.below (by first | exact Below.refl _ _ | (repeat (first | (with_reducible first | exact HB.out | apply below_alloc | apply pw_below_drewN | apply below_drew1) | exact HB.out))))).mono ?_); rintro e w15 ⟨rfl, hb⟩; refine ⟨_, rfl, ?_⟩; have n0_ := Aside0.mk (below_step (by repeat (first | (with_reducible first | exact HB.out | apply below_alloc | apply pw_below_drewN | apply below_drew1) | exact HB.out)) hb); clear HB; have HB := n0_; clear n0_; (try clear hb); (try clear hb2); (try clear hk); (try clear hi)))
                      go_ret2
                      exact ⟨by first | rfl | (simp [errW_none, errW_some] <;> rfl) | (simp [*, errW_none, errW_some] <;> rfl), by repeat (first | (with_reducible first | exact HB.out | apply below_alloc | apply pw_below_drewN | apply below_drew1) | exact HB.out)⟩
                  · rw [if_neg c11] at H
                    exact absurd H (by simp)
                · rw [if_neg c10] at H
                  have c10b0 : ((bt a0 0) == 120) = false := beq_eq_false_iff_ne.mpr c10
                  have c10b1 : ((bt a0 0) != 120) = true := bne_iff_ne.mpr c10
                  simp only [Option.some.injEq, Prod.mk.injEq] at H
                  obtain ⟨rfl, rfl⟩ := H
                  go_wp2
                  go_ret2
                  exact ⟨by first | rfl | (simp [errW_none, errW_some] <;> rfl) | (simp [*, errW_none, errW_some] <;> rfl), by repeat (first | (with_reducible first | exact HB.out | apply below_alloc | apply pw_below_drewN | apply below_drew1) | exact HB.out)⟩
    · rw [if_neg c3] at H
      exact absurd H (by simp)

end Go.Proofs.YtkniiinpkchjoaaDoor.P
