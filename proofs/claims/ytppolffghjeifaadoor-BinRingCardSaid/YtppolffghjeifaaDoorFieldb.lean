/- The contracts of the making of a field, and of the document's own field. Conditions: an m that may be, where a field's m is asked for. -/
import Derived.Test.YtppolffghjeifaaDoorField
namespace Go.Proofs.YtppolffghjeifaaDoor
open Go.Sx Go.Fm
set_option maxRecDepth 100000

def polyI (m : Int) : Nat := if m < 3 ∨ 14 < m then 0 else polyOf m.toNat
def polyC : Array Value := #[.int .i64 11, .int .i64 19, .int .i64 37, .int .i64 67, .int .i64 137, .int .i64 285, .int .i64 529, .int .i64 1033, .int .i64 2053, .int .i64 4179, .int .i64 8219, .int .i64 17475]
theorem polyC_at {m : Int} (h1 : ¬ m < 3) (h2 : ¬ 14 < m) : polyC[(m - 3).toNat]? = some (.int .i64 (polyI m : Nat)) := by
  have : m = 3 ∨ m = 4 ∨ m = 5 ∨ m = 6 ∨ m = 7 ∨ m = 8 ∨ m = 9 ∨ m = 10 ∨ m = 11 ∨ m = 12 ∨ m = 13 ∨ m = 14 := by omega
  rcases this with rfl | rfl | rfl | rfl | rfl | rfl | rfl | rfl | rfl | rfl | rfl | rfl <;> rfl
theorem polyI_ok {m : Nat} (h : Ok m) : polyI (m : Nat) = polyOf m := by
  have h1 := h.lo
  have h2 := h.hi
  unfold polyI
  rw [if_neg (by omega)]
  rfl
theorem polyI_zero (m : Int) : ((polyI m : Nat) : Int) = 0 ↔ (m < 3 ∨ 14 < m) := by
  unfold polyI
  by_cases h : m < 3 ∨ 14 < m
  · simp [h]
  · rw [if_neg h]
    have hm : Ok m.toNat := ⟨by omega, by omega⟩
    have := (poly_spec hm).1
    have := Nat.two_pow_pos m.toNat
    constructor
    · intro h3; omega
    · intro h3; exact absurd h3 h
theorem polyI_bad {m : Int} (h : m < 3 ∨ 14 < m) : ((0 : Nat) : Int) = (polyI m : Nat) := ((polyI_zero m).2 h).symm
theorem poly_lt (m : Int) : polyI m < 2 ^ 63 := by
  unfold polyI
  split
  · exact Nat.two_pow_pos 63
  · have hm : Ok m.toNat := ⟨by omega, by omega⟩
    exact Nat.lt_of_lt_of_le (poly_spec hm).2 (Nat.pow_le_pow_right (by omega) (by have := hm.hi; omega))

/-- The logarithms that the first i powers lay. -/
def lgs (m : Nat) : Nat → Nat → Nat
  | 0, _ => 0
  | i + 1, x => if x = ex m i then i else lgs m i x
def newExp (m i : Nat) : Array Value := ((List.range (N m)).map (fun j => .int .i64 ((if j < i then ex m j else 0 : Nat)))).toArray
def newLog (m i : Nat) : Array Value := ((List.range (N m + 1)).map (fun x => .int .i64 (lgs m i x : Nat))).toArray
def newCells (m ge gl : Nat) : Array Value := #[.int .i64 (m : Nat), .int .i64 ((N m + 1 : Nat) : Int), .slice (some ⟨ge, 0, none⟩) (N m) (N m), .slice (some ⟨gl, 0, none⟩) (N m + 1) (N m + 1)]
theorem newExp_zero (m : Nat) : (List.replicate (N m) (.int .i64 0)).toArray = newExp m 0 := by
  rw [rep_range]; unfold newExp; simp
theorem newLog_zero (m : Nat) : (List.replicate (N m + 1) (.int .i64 0)).toArray = newLog m 0 := by
  rw [rep_range]; unfold newLog; simp [lgs]
theorem newExp_set {m i : Nat} (_hi : i < N m) : (newExp m i).setIfInBounds i (.int .i64 (ex m i : Nat)) = newExp m (i + 1) := by
  unfold newExp
  rw [set_range]
  congr 1
  apply List.map_congr_left
  intro j _
  by_cases h : j = i
  · subst h; simp
  · rw [if_neg h]
    by_cases h2 : j < i
    · rw [if_pos h2, if_pos (by omega)]
    · rw [if_neg h2, if_neg (by omega)]
theorem newLog_set (m i : Nat) : (newLog m i).setIfInBounds (ex m i) (.int .i64 (i : Nat)) = newLog m (i + 1) := by
  unfold newLog
  rw [set_range]
  congr 1
  apply List.map_congr_left
  intro j _
  by_cases h : j = ex m i
  · rw [if_pos h]; simp [lgs, h]
  · rw [if_neg h]; simp [lgs, h]
theorem size_newExp (m i : Nat) : (newExp m i).size = N m := by simp [newExp]
theorem size_newLog (m i : Nat) : (newLog m i).size = N m + 1 := by simp [newLog]
theorem newExp_all (m : Nat) : newExp m (N m) = (expCells m).toArray := by
  unfold newExp expCells
  congr 1
  apply List.map_congr_left
  intro j hj
  rw [if_pos (by simpa using hj)]
theorem lgs_zero {m : Nat} (h : Ok m) (i : Nat) : lgs m i 0 = 0 := by
  induction i with
  | zero => rfl
  | succ i ih => have := (ex_lt h i).1; unfold lgs; rw [if_neg (by omega), ih]
theorem lgs_ex {m : Nat} (h : Ok m) : ∀ i, i ≤ N m → ∀ j, j < i → lgs m i (ex m j) = j
  | 0, _, j, hj => by omega
  | i + 1, hi, j, hj => by
    unfold lgs
    by_cases hji : j = i
    · subst hji; simp
    · rw [if_neg (fun he => hji (ex_inj h (by omega) (by omega) he))]
      exact lgs_ex h i (by omega) j (by omega)
theorem newLog_all {m : Nat} (h : Ok m) : newLog m (N m) = (logCells m).toArray := by
  unfold newLog logCells
  congr 1
  apply List.map_congr_left
  intro x hx
  by_cases h0 : x = 0
  · subst h0; rw [lgs_zero h]; simp
  · rw [if_neg h0]
    have hx2 : x < 2 ^ m := by rw [← N_succ]; simpa using hx
    obtain ⟨i, hi, rfl⟩ := ex_onto h (by omega) hx2
    rw [lgs_ex h _ (Nat.le_refl _) i hi, lg_ex h hi]
theorem shl_one {m : Nat} (h : Ok m) : IntKind.i64.wrap (1 * 2 ^ (min ((m : Nat) : Int).toNat IntKind.i64.bits)) = ((N m + 1 : Nat) : Int) := by
  have hp := N_pos h
  have h2 := h.hi
  have e : ((1 : Nat) : Int) * 2 ^ (min ((m : Nat) : Int).toNat IntKind.i64.bits) = 1 * 2 ^ (min ((m : Nat) : Int).toNat IntKind.i64.bits) := rfl
  have hs := N_succ m
  rw [← e, shl_nat (by omega) (by omega)]
  omega
theorem xt_val {m i : Nat} (h : Ok m) (hc : ((N m + 1 : Nat) : Int) ≤ ((2 * ex m i : Nat) : Int)) : ibit .xor .i64 ((2 * ex m i : Nat) : Int) (polyI (m : Nat) : Nat) = (ex m (i + 1) : Nat) := by
  have h1 := (ex_lt h i).2
  have hp := N_pos h
  have hs := N_succ m
  rw [ibit_xor_nat (by omega) (poly_lt _), polyI_ok h, ex_succ, xt_eq, if_pos (by omega)]
theorem xt_val2 {m i : Nat} (hc : ¬ ((N m + 1 : Nat) : Int) ≤ ((2 * ex m i : Nat) : Int)) : ((2 * ex m i : Nat) : Int) = (ex m (i + 1) : Nat) := by
  have hs := N_succ m
  rw [ex_succ, xt_eq, if_neg (by omega)]
