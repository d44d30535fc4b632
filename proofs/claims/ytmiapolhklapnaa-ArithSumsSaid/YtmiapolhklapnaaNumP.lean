/- Plain words: 64-bit arithmetic with overflow. -- ONLYIF spinney/num.Add -/
import Derived.Laws.BitsAllLaws
import Derived.Lib.Mul64
import Derived.OpenShut
set_option linter.unusedVariables false
set_option linter.unusedSimpArgs false
namespace Go.Own
open Go Go.RowKit

def In64 (n : Int) : Prop := -9223372036854775808 ≤ n ∧ n ≤ 9223372036854775807
theorem in64_of_wf {n : Int} (h : (Lit.int .i64 n).wf = true) : In64 n := bounds_i64 h
instance (n : Int) : Decidable (In64 n) := by unfold In64; infer_instance
/-- a result within 64 bits, or the error -/
def fit (n : Int) : Int × Int := if In64 n then (n, 0) else (0, 10)
theorem fit_in {n : Int} (h : In64 n) : fit n = (n, 0) := if_pos h
theorem fit_out {n : Int} (h : ¬ In64 n) : fit n = (0, 10) := if_neg h
theorem wrap64_id {n : Int} (h : In64 n) : wrap64 n = n := by
  unfold In64 at h
  unfold wrap64
  omega
theorem wrap64_in (n : Int) : In64 (wrap64 n) := by
  unfold In64 wrap64
  omega

theorem i64_toInt (x : BitVec 64) : IntKind.i64.wrap (x.toNat : Int) = x.toInt := by
  rw [IntKind.wrap_i64, BitVec.toInt_eq_toNat_cond]
  have := x.isLt
  split <;> omega
theorem bits_xor64 (a b : Int) : bits .xor .i64 a b = (BitVec.ofInt 64 a ^^^ BitVec.ofInt 64 b).toInt := i64_toInt _
theorem bits_and64 (a b : Int) : bits .and .i64 a b = (BitVec.ofInt 64 a &&& BitVec.ofInt 64 b).toInt := i64_toInt _
theorem toInt_neg (x : BitVec 64) : x.toInt < 0 ↔ x.msb = true := by
  rw [BitVec.msb_eq_toInt]
  simp
theorem msb_ofInt {a : Int} (h : In64 a) : (BitVec.ofInt 64 a).msb = decide (a < 0) := by
  rw [BitVec.msb_eq_toInt, BitVec.toInt_ofInt]
  unfold In64 at h
  have : a.bmod (2 ^ 64) = a := by
    rw [Int.bmod_def]
    omega
  rw [this]
theorem ofInt_toInt64 (x : BitVec 64) : BitVec.ofInt 64 x.toInt = x := BitVec.ofInt_toInt
theorem xor_neg {a b : Int} (ha : In64 a) (hb : In64 b) : bits .xor .i64 a b < 0 ↔ (decide (a < 0) ≠ decide (b < 0)) := by
  rw [bits_xor64, toInt_neg, BitVec.msb_xor, msb_ofInt ha, msb_ofInt hb]
  cases decide (a < 0) <;> cases decide (b < 0) <;> simp
theorem and_xor_neg {a b c d : Int} (ha : In64 a) (hb : In64 b) (hc : In64 c) (hd : In64 d) :
    bits .and .i64 (bits .xor .i64 a b) (bits .xor .i64 c d) < 0 ↔ (decide (a < 0) ≠ decide (b < 0)) ∧ (decide (c < 0) ≠ decide (d < 0)) := by
  rw [bits_xor64, bits_xor64, bits_and64, ofInt_toInt64, ofInt_toInt64, toInt_neg, BitVec.msb_and, BitVec.msb_xor, BitVec.msb_xor, msb_ofInt ha, msb_ofInt hb, msb_ofInt hc, msb_ofInt hd]
  cases decide (a < 0) <;> cases decide (b < 0) <;> cases decide (c < 0) <;> cases decide (d < 0) <;> simp

theorem add_flag {a b : Int} (ha : In64 a) (hb : In64 b) :
    decide (bits .and .i64 (bits .xor .i64 a (wrap64 (a + b))) (bits .xor .i64 b (wrap64 (a + b))) < 0) = decide (¬ In64 (a + b)) := by
  rw [decide_eq_decide, and_xor_neg ha (wrap64_in _) hb (wrap64_in _)]
  unfold In64 at *
  unfold wrap64
  simp
  omega
theorem sub_flag {a b : Int} (ha : In64 a) (hb : In64 b) :
    decide (bits .and .i64 (bits .xor .i64 a b) (bits .xor .i64 a (wrap64 (a - b))) < 0) = decide (¬ In64 (a - b)) := by
  rw [decide_eq_decide, and_xor_neg ha hb ha (wrap64_in _)]
  unfold In64 at *
  unfold wrap64
  simp
  omega

theorem and_low32 {a : Int} (h0 : 0 ≤ a) (h1 : a < 18446744073709551616) : bits .and .u64 a 4294967295 = a % 4294967296 := by
  have := u64_and a 4294967295 h0 h1 (by omega) (by omega)
  rw [this]
  have h := Nat.and_two_pow_sub_one_eq_mod a.toNat 32
  have e : (4294967295 : Int).toNat = 2 ^ 32 - 1 := by decide
  rw [e, h]
  omega

/-- the halves' products, by 32 bits -/
theorem mul64_parts {a b : Int} (ha : 0 ≤ a) (ha1 : a < 18446744073709551616) (hb : 0 ≤ b) (hb1 : b < 18446744073709551616) :
    IntKind.u64.wrap ((IntKind.u64.wrap ((IntKind.u64.wrap ((a / 4294967296) * (b / 4294967296))) + ((IntKind.u64.wrap ((IntKind.u64.wrap ((a / 4294967296) * (bits .and .u64 b 4294967295))) + ((IntKind.u64.wrap ((bits .and .u64 a 4294967295) * (bits .and .u64 b 4294967295))) / 4294967296))) / 4294967296))) + ((IntKind.u64.wrap ((bits .and .u64 (IntKind.u64.wrap ((IntKind.u64.wrap ((a / 4294967296) * (bits .and .u64 b 4294967295))) + ((IntKind.u64.wrap ((bits .and .u64 a 4294967295) * (bits .and .u64 b 4294967295))) / 4294967296))) 4294967295) + (IntKind.u64.wrap ((bits .and .u64 a 4294967295) * (b / 4294967296))))) / 4294967296)) = a * b / 18446744073709551616 := by
  obtain ⟨x, rfl⟩ := Int.eq_ofNat_of_zero_le ha
  obtain ⟨y, rfl⟩ := Int.eq_ofNat_of_zero_le hb
  have hx : x < 18446744073709551616 := by omega
  have hy : y < 18446744073709551616 := by omega
  obtain ⟨h1, h2, h3, h4⟩ := Lib.mul64_hi x y hx hy
  have hA := Lib.half_mul_le (a := x / 4294967296) (b := y / 4294967296) (by omega) (by omega)
  have hB := Lib.half_mul_le (a := x / 4294967296) (b := y % 4294967296) (by omega) (by omega)
  have hC := Lib.half_mul_le (a := x % 4294967296) (b := y / 4294967296) (by omega) (by omega)
  have hD := Lib.half_mul_le (a := x % 4294967296) (b := y % 4294967296) (by omega) (by omega)
  have w : ∀ n : Nat, n < 18446744073709551616 → IntKind.u64.wrap (n : Int) = (n : Int) := fun n hn => by rw [IntKind.wrap_u64]; omega
  have m : ∀ n : Nat, n < 18446744073709551616 → bits .and .u64 (n : Int) 4294967295 = ((n % 4294967296 : Nat) : Int) := fun n hn => by rw [and_low32 (by omega) (by omega)]; simp
  rw [m x hx, m y hy]
  have c1 : (x : Int) / 4294967296 = ((x / 4294967296 : Nat) : Int) := by simp
  have c2 : (y : Int) / 4294967296 = ((y / 4294967296 : Nat) : Int) := by simp
  rw [c1, c2, ← Int.natCast_mul, ← Int.natCast_mul, ← Int.natCast_mul, ← Int.natCast_mul, ← Int.natCast_mul]
  rw [w _ (by omega), w _ (by omega), w _ (by omega), w _ (by omega)]
  have c3 : (((x % 4294967296) * (y % 4294967296) : Nat) : Int) / 4294967296 = (((x % 4294967296) * (y % 4294967296) / 4294967296 : Nat) : Int) := by simp
  rw [c3, ← Int.natCast_add, w _ h2, m _ h2]
  have c4 : (((x / 4294967296) * (y % 4294967296) + (x % 4294967296) * (y % 4294967296) / 4294967296 : Nat) : Int) / 4294967296 = (((x / 4294967296) * (y % 4294967296) + (x % 4294967296) * (y % 4294967296) / 4294967296) / 4294967296 : Nat) := by simp
  rw [c4, ← Int.natCast_add, ← Int.natCast_add, w _ h3, w _ (by omega)]
  have c5 : ((((x / 4294967296) * (y % 4294967296) + (x % 4294967296) * (y % 4294967296) / 4294967296) % 4294967296 + (x % 4294967296) * (y / 4294967296) : Nat) : Int) / 4294967296 = ((((x / 4294967296) * (y % 4294967296) + (x % 4294967296) * (y % 4294967296) / 4294967296) % 4294967296 + (x % 4294967296) * (y / 4294967296)) / 4294967296 : Nat) := by simp
  rw [c5, ← Int.natCast_add]
  have hxy : x * y / 18446744073709551616 < 18446744073709551616 := by
    apply Nat.div_lt_of_lt_mul
    exact Nat.mul_lt_mul'' hx hy
  rw [h4, w _ hxy]
  simp
end Go.Own
