/- Bits of numbers of 64 and 8 bits, said of natural numbers. No condition. -/
import Derived.Test.YtcjddlcinaedaaaDoorOps
namespace Go.Sx
open Go

theorem toNat_ofInt64 (a : Int) : (BitVec.ofInt 64 a).toNat = (a % 18446744073709551616).toNat := by
  rw [BitVec.toNat_ofInt]; rfl
theorem wrap64_cong (x : Int) : IntKind.i64.wrap x % 18446744073709551616 = x % 18446744073709551616 := by
  simp only [IntKind.wrap, IntKind.signed, IntKind.bits]
  simp
  split <;> omega
theorem wrap64_pos {x : Nat} (h : x < 2 ^ 63) : IntKind.i64.wrap (x : Int) = x := w64 (by omega)

theorem emod_pow_emod {a : Int} {m n : Nat} (h : m ≤ n) : (a % ((2 ^ n : Nat) : Int)) % ((2 ^ m : Nat) : Int) = a % ((2 ^ m : Nat) : Int) := by
  obtain ⟨k, rfl⟩ := Nat.exists_eq_add_of_le h
  rw [Nat.pow_add]
  exact Int.emod_emod_of_dvd a ⟨((2 ^ k : Nat) : Int), by push_cast; rfl⟩
theorem toNat_emod_pow {a : Int} {m : Nat} (h : m ≤ 64) : (a % 18446744073709551616).toNat % 2 ^ m = (a % ((2 ^ m : Nat) : Int)).toNat := by
  have h1 := emod_pow_emod (a := a) h
  have h0 : 0 ≤ a % ((2 ^ 64 : Nat) : Int) := Int.emod_nonneg _ (by decide)
  have e : ((2 ^ 64 : Nat) : Int) = 18446744073709551616 := by decide
  rw [e] at h1 h0
  rw [← h1]
  obtain ⟨n, hn⟩ := Int.eq_ofNat_of_zero_le h0
  rw [hn, Int.toNat_natCast, ← Int.natCast_emod, Int.toNat_natCast]

theorem ibit_and64 (a b : Int) : ibit .and .i64 a b = IntKind.i64.wrap ((BitVec.ofInt 64 a &&& BitVec.ofInt 64 b).toNat : Nat) := rfl
theorem ibit_xor64 (a b : Int) : ibit .xor .i64 a b = IntKind.i64.wrap ((BitVec.ofInt 64 a ^^^ BitVec.ofInt 64 b).toNat : Nat) := rfl
theorem ibit_or64 (a b : Int) : ibit .or .i64 a b = IntKind.i64.wrap ((BitVec.ofInt 64 a ||| BitVec.ofInt 64 b).toNat : Nat) := rfl

theorem ibit_and_mask (a : Int) {m : Nat} (h : m ≤ 62) {s : Int} (hs : s = ((2 ^ m : Nat) : Int) - 1) : ibit .and .i64 a s = a % ((2 ^ m : Nat) : Int) := by
  have hp := Nat.two_pow_pos m
  have hle := Nat.pow_le_pow_right (n := 2) (by omega) h
  have hs' : s = ((2 ^ m - 1 : Nat) : Int) := by rw [hs]; omega
  have e1 : (s % 18446744073709551616).toNat = 2 ^ m - 1 := by rw [hs', Int.emod_eq_of_lt (by omega) (by omega)]; omega
  have h2 := Int.emod_nonneg a (b := ((2 ^ m : Nat) : Int)) (by omega)
  have h3 := Int.emod_lt_of_pos a (b := ((2 ^ m : Nat) : Int)) (by omega)
  rw [ibit_and64, BitVec.toNat_and, toNat_ofInt64, toNat_ofInt64, e1, Nat.and_two_pow_sub_one_eq_mod, toNat_emod_pow (by omega : m ≤ 64), w64 (by omega)]
  omega

theorem wrap_low {x m : Nat} (h : m ≤ 64) : (IntKind.i64.wrap (x : Int) % ((2 ^ m : Nat) : Int)).toNat = x % 2 ^ m := by
  rw [← toNat_emod_pow h, wrap64_cong, toNat_emod_pow h, ← Int.natCast_emod, Int.toNat_natCast]
theorem ibit_xor_low (a b : Int) {m : Nat} (h : m ≤ 64) : (ibit .xor .i64 a b % ((2 ^ m : Nat) : Int)).toNat = (a % ((2 ^ m : Nat) : Int)).toNat ^^^ (b % ((2 ^ m : Nat) : Int)).toNat := by
  rw [ibit_xor64, BitVec.toNat_xor, toNat_ofInt64, toNat_ofInt64, wrap_low h, Nat.xor_mod_two_pow, toNat_emod_pow h, toNat_emod_pow h]

theorem small64 {x : Nat} (h : x < 2 ^ 63) : ((x : Int) % 18446744073709551616).toNat = x := by omega
theorem ibit_and_nat {x y : Nat} (hx : x < 2 ^ 63) (hy : y < 2 ^ 63) : ibit .and .i64 x y = ((x &&& y : Nat) : Int) := by
  rw [ibit_and64, BitVec.toNat_and, toNat_ofInt64, toNat_ofInt64, small64 hx, small64 hy]
  exact wrap64_pos (Nat.lt_of_le_of_lt Nat.and_le_left hx)
theorem ibit_xor_nat {x y : Nat} (hx : x < 2 ^ 63) (hy : y < 2 ^ 63) : ibit .xor .i64 x y = ((x ^^^ y : Nat) : Int) := by
  rw [ibit_xor64, BitVec.toNat_xor, toNat_ofInt64, toNat_ofInt64, small64 hx, small64 hy]
  exact wrap64_pos (Nat.xor_lt_two_pow hx hy)
theorem ibit_or_nat {x y : Nat} (hx : x < 2 ^ 63) (hy : y < 2 ^ 63) : ibit .or .i64 x y = ((x ||| y : Nat) : Int) := by
  rw [ibit_or64, BitVec.toNat_or, toNat_ofInt64, toNat_ofInt64, small64 hx, small64 hy]
  exact wrap64_pos (Nat.or_lt_two_pow hx hy)

/-- Shifts. -/
theorem shl_nat {x k : Nat} (hk : k ≤ 62) (h : x * 2 ^ k < 2 ^ 63) : IntKind.i64.wrap ((x : Int) * 2 ^ (min (k : Int).toNat IntKind.i64.bits)) = ((x * 2 ^ k : Nat) : Int) := by
  have : min (k : Int).toNat IntKind.i64.bits = k := by simp [IntKind.bits]; omega
  rw [this]
  have e : (x : Int) * 2 ^ k = ((x * 2 ^ k : Nat) : Int) := by push_cast; rfl
  rw [e]
  exact wrap64_pos h
theorem shr_nat {x k : Nat} (hk : k ≤ 64) : ((x : Int)).fdiv (2 ^ (min (k : Int).toNat IntKind.i64.bits)) = ((x >>> k : Nat) : Int) := by
  have : min (k : Int).toNat IntKind.i64.bits = k := by simp [IntKind.bits]; omega
  rw [this, Nat.shiftRight_eq_div_pow, Int.fdiv_eq_ediv_of_nonneg _ (by exact Int.le_of_lt (Int.pow_pos (by decide)))]
  push_cast
  rfl
theorem shl1 {x : Nat} (h : 2 * x < 2 ^ 63) : IntKind.i64.wrap ((x : Int) * 2 ^ (min (1 : Int).toNat IntKind.i64.bits)) = ((2 * x : Nat) : Int) := by
  have := shl_nat (x := x) (k := 1) (by omega) (by omega)
  rw [show x * 2 ^ 1 = 2 * x by omega] at this
  exact this
theorem shr1 (x : Nat) : ((x : Int)).fdiv (2 ^ (min (1 : Int).toNat IntKind.i64.bits)) = ((x >>> 1 : Nat) : Int) := shr_nat (k := 1) (by omega)
theorem shr1_lt {x : Nat} (h : 0 < x) : x >>> 1 < x := by rw [Nat.shiftRight_eq_div_pow]; omega
end Go.Sx
