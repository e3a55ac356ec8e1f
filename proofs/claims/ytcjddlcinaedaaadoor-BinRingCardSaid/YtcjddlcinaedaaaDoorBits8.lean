/- Bits of bytes and of numbers of 64 bits without a sign, said of natural numbers. No condition. -/
import Derived.Test.YtcjddlcinaedaaaDoorBits
namespace Go.Sx
open Go

theorem w8 {x : Nat} (h : x < 256) : IntKind.u8.wrap (x : Int) = x := by
  simp only [IntKind.wrap, IntKind.signed, IntKind.bits]
  simp
  omega
theorem w8_mod (x : Nat) : IntKind.u8.wrap (x : Int) = ((x % 256 : Nat) : Int) := by
  simp only [IntKind.wrap, IntKind.signed, IntKind.bits]
  simp
theorem wu64' {x : Nat} (h : x < 2 ^ 64) : IntKind.u64.wrap (x : Int) = x := by
  simp only [IntKind.wrap, IntKind.signed, IntKind.bits]
  simp
  omega
theorem toNat_ofInt8 {x : Nat} (h : x < 256) : (BitVec.ofInt 8 (x : Int)).toNat = x := by
  rw [BitVec.toNat_ofInt]
  show ((x : Int) % 256).toNat = x
  omega
theorem toNat_ofIntU {x : Nat} (h : x < 2 ^ 64) : (BitVec.ofInt 64 (x : Int)).toNat = x := by
  rw [toNat_ofInt64]
  omega
theorem ibit_xor_u8 {x y : Nat} (hx : x < 256) (hy : y < 256) : ibit .xor .u8 x y = ((x ^^^ y : Nat) : Int) := by
  show IntKind.u8.wrap ((BitVec.ofInt 8 (x : Int) ^^^ BitVec.ofInt 8 (y : Int)).toNat : Nat) = _
  rw [BitVec.toNat_xor, toNat_ofInt8 hx, toNat_ofInt8 hy]
  exact w8 (Nat.xor_lt_two_pow (n := 8) hx hy)
theorem ibit_or_u8 {x y : Nat} (hx : x < 256) (hy : y < 256) : ibit .or .u8 x y = ((x ||| y : Nat) : Int) := by
  show IntKind.u8.wrap ((BitVec.ofInt 8 (x : Int) ||| BitVec.ofInt 8 (y : Int)).toNat : Nat) = _
  rw [BitVec.toNat_or, toNat_ofInt8 hx, toNat_ofInt8 hy]
  exact w8 (Nat.or_lt_two_pow (n := 8) hx hy)
theorem ibit_and_u8 {x y : Nat} (hx : x < 256) (hy : y < 256) : ibit .and .u8 x y = ((x &&& y : Nat) : Int) := by
  show IntKind.u8.wrap ((BitVec.ofInt 8 (x : Int) &&& BitVec.ofInt 8 (y : Int)).toNat : Nat) = _
  rw [BitVec.toNat_and, toNat_ofInt8 hx, toNat_ofInt8 hy]
  exact w8 (Nat.lt_of_le_of_lt Nat.and_le_left hx)
theorem ibit_and1_u8 {x : Nat} (hx : x < 256) : ibit .and .u8 x 1 = ((x % 2 : Nat) : Int) := by
  have := ibit_and_u8 hx (show 1 < 256 by omega)
  rw [Nat.and_one_is_mod] at this
  exact this
theorem ibit_xor_u64 {x y : Nat} (hx : x < 2 ^ 64) (hy : y < 2 ^ 64) : ibit .xor .u64 x y = ((x ^^^ y : Nat) : Int) := by
  show IntKind.u64.wrap ((BitVec.ofInt 64 (x : Int) ^^^ BitVec.ofInt 64 (y : Int)).toNat : Nat) = _
  rw [BitVec.toNat_xor, toNat_ofIntU hx, toNat_ofIntU hy]
  exact wu64' (Nat.xor_lt_two_pow hx hy)
theorem ibit_or_u64 {x y : Nat} (hx : x < 2 ^ 64) (hy : y < 2 ^ 64) : ibit .or .u64 x y = ((x ||| y : Nat) : Int) := by
  show IntKind.u64.wrap ((BitVec.ofInt 64 (x : Int) ||| BitVec.ofInt 64 (y : Int)).toNat : Nat) = _
  rw [BitVec.toNat_or, toNat_ofIntU hx, toNat_ofIntU hy]
  exact wu64' (Nat.or_lt_two_pow hx hy)
/-- Shifts of bytes. -/
theorem shl_u8 {x k : Nat} (hk : k ≤ 8) : IntKind.u8.wrap ((x : Int) * 2 ^ (min (k : Int).toNat IntKind.u8.bits)) = ((x * 2 ^ k % 256 : Nat) : Int) := by
  have : min (k : Int).toNat IntKind.u8.bits = k := by simp [IntKind.bits]; omega
  rw [this]
  have e : (x : Int) * 2 ^ k = ((x * 2 ^ k : Nat) : Int) := by push_cast; rfl
  rw [e]
  exact w8_mod _
theorem shr_u8 {x k : Nat} (hk : k ≤ 8) : ((x : Int)).fdiv (2 ^ (min (k : Int).toNat IntKind.u8.bits)) = ((x >>> k : Nat) : Int) := by
  have : min (k : Int).toNat IntKind.u8.bits = k := by simp [IntKind.bits]; omega
  rw [this, Nat.shiftRight_eq_div_pow, Int.fdiv_eq_ediv_of_nonneg _ (by exact Int.le_of_lt (Int.pow_pos (by decide)))]
  push_cast
  rfl
theorem shl_u64 {x k : Nat} (hk : k ≤ 63) (h : x * 2 ^ k < 2 ^ 64) : IntKind.u64.wrap ((x : Int) * 2 ^ (min (k : Int).toNat IntKind.u64.bits)) = ((x * 2 ^ k : Nat) : Int) := by
  have : min (k : Int).toNat IntKind.u64.bits = k := by simp [IntKind.bits]; omega
  rw [this]
  have e : (x : Int) * 2 ^ k = ((x * 2 ^ k : Nat) : Int) := by push_cast; rfl
  rw [e]
  exact wu64' h
theorem shr_u64 {x k : Nat} (hk : k ≤ 64) : ((x : Int)).fdiv (2 ^ (min (k : Int).toNat IntKind.u64.bits)) = ((x >>> k : Nat) : Int) := by
  have : min (k : Int).toNat IntKind.u64.bits = k := by simp [IntKind.bits]; omega
  rw [this, Nat.shiftRight_eq_div_pow, Int.fdiv_eq_ediv_of_nonneg _ (by exact Int.le_of_lt (Int.pow_pos (by decide)))]
  push_cast
  rfl
end Go.Sx
