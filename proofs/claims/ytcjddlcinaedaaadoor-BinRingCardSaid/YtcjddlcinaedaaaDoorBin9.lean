/- The statements BinOf and BinCounts, walked. No condition but the errors' variables. -/
import Derived.Test.YtcjddlcinaedaaaDoorBin8
namespace Go.Proofs.YtcjddlcinaedaaaDoor
open Go Go.Lib Go.Sx Go.Fm
set_option maxRecDepth 100000
theorem sumY_tr (l : List Int) (i : Nat) : Tr 8 (sumY (eX l) i) := by rw [sumY_eq]; exact bys_tr (sumF_b1 (eX_b1 l) i).le
theorem xP_le {k : Nat} (h : k ≤ 2048) : (xP k).length ≤ 2049 := by
  unfold xP upP pl
  rw [trim_length]
  have := tl_le ((List.range (k + [1].length)).map fun j => if k ≤ j then cf [1] (j - k) else 0)
  simp at this
  simp
  omega

theorem tmod_lt8 (m : Int) : -8 < m.tmod 8 ∧ m.tmod 8 < 8 := by
  have h1 := Int.emod_nonneg m (b := 8) (by omega)
  have h2 := Int.emod_lt_of_pos m (b := 8) (by omega)
  rw [Int.tmod_eq_emod]
  split <;> omega
theorem dB_val (m : Int) : (m.tmod 8 + 8).tmod 8 = (((m % 8).toNat : Nat) : Int) := by
  have h1 := Int.emod_nonneg m (b := 8) (by omega)
  have h2 := tmod_lt8 m
  rw [Int.tmod_eq_emod_of_nonneg (by omega)]
  have h3 : (m.tmod 8 + 8) % 8 = m % 8 := by
    rw [Int.tmod_eq_emod]
    split <;> omega
  rw [h3]
  omega
/-- Which degree a number makes. -/
def dB (m : Int) : Nat := (m % 8).toNat + 1
theorem dB_bd (m : Int) : 1 ≤ dB m ∧ dB m ≤ 8 := by unfold dB; omega
def by2 (x : Nat) : List Nat := [x % 256, (x >>> 8) % 256]
def irrX (x : Nat) : Bool := irrP (bl (by2 x))
theorem by2_lt (x : Nat) : ∀ y ∈ by2 x, y < 256 := fun y hy => by
  simp [by2] at hy
  omega
theorem deg_all : (List.range 9).all (fun D => (List.range (2 ^ D)).all (fun k => (bl (by2 (2 ^ D + k))).length == D + 1)) = true := by decide +kernel
theorem deg_by2 {D k : Nat} (hD : D ≤ 8) (hk : k < 2 ^ D) : (bl (by2 (2 ^ D + k))).length = D + 1 := by
  have := List.all_eq_true.1 deg_all D (List.mem_range.2 (by omega))
  have := List.all_eq_true.1 this k (List.mem_range.2 hk)
  simpa using this
def cntR (a : Nat) : Nat → Nat
  | 0 => 0
  | k + 1 => if irrX (a + k) then cntR a k + 1 else cntR a k
theorem cntR_le (a : Nat) : ∀ k, cntR a k ≤ k
  | 0 => Nat.le_refl _
  | k + 1 => by
    have := cntR_le a k
    unfold cntR
    split <;> omega
theorem cnt_all : (List.range 8).all (fun i => cntR (2 ^ (i + 1)) (2 ^ (i + 1)) == [2, 1, 2, 3, 6, 9, 18, 30].getD i 0) = true := by decide +kernel
theorem cnt_tab {D : Nat} (h1 : 1 ≤ D) (h2 : D ≤ 8) : (#[Value.int .i64 0, .int .i64 2, .int .i64 1, .int .i64 2, .int .i64 3, .int .i64 6, .int .i64 9, .int .i64 18, .int .i64 30] : Array Value)[D]? = some (.int .i64 (cntR (2 ^ D) (2 ^ D) : Nat)) := by
  have h := List.all_eq_true.1 cnt_all (D - 1) (List.mem_range.2 (by omega))
  rw [show D - 1 + 1 = D by omega, beq_iff_eq] at h
  rw [h]
  have : D = 1 ∨ D = 2 ∨ D = 3 ∨ D = 4 ∨ D = 5 ∨ D = 6 ∨ D = 7 ∨ D = 8 := by omega
  rcases this with rfl | rfl | rfl | rfl | rfl | rfl | rfl | rfl <;> rfl
theorem shlD {D : Nat} (h : D ≤ 62) : IntKind.i64.wrap ((1 : Int) * 2 ^ (min (D : Int).toNat IntKind.i64.bits)) = ((2 ^ D : Nat) : Int) := by
  have := shl_nat (x := 1) h (by rw [Nat.one_mul]; exact Nat.pow_lt_pow_right (by omega) (by omega))
  rw [Nat.one_mul] at this
  exact this
