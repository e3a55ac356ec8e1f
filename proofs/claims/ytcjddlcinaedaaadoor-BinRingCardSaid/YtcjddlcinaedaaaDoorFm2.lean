/- Powers, inverses, orders and traces in the fields of 2^m elements, as plain numbers: no program. No condition. -/
import Derived.Test.YtcjddlcinaedaaaDoorField
namespace Go.Proofs.YtcjddlcinaedaaaDoor
open Go.Sx Go.Fm

section
variable {m : Nat}

theorem gmk_stop {a b : Nat} : ∀ {k : Nat}, b >>> k = 0 → ∀ j, gmk m a b (k + j) = gmk m a b k := by
  intro k hk j
  induction j with
  | zero => rfl
  | succ j ih =>
    have h1 : b.testBit (k + j) = false := by
      rw [← Nat.testBit_shiftRight, hk]; simp
    rw [← Nat.add_assoc]
    simp [gmk, h1, ih]
theorem gm_stop {a b k : Nat} (h : b >>> k = 0) (hk : k ≤ m) : gmk m a b k = gm m a b := by
  obtain ⟨j, rfl⟩ := Nat.exists_eq_add_of_le hk
  exact (gmk_stop h j).symm
theorem shr_lt {b k : Nat} (hb : b < 2 ^ m) (h : 0 < b >>> k) : k < m := by
  rcases Nat.lt_or_ge k m with h1 | h1
  · exact h1
  · rw [Nat.shiftRight_eq_div_pow, Nat.div_eq_of_lt (Nat.lt_of_lt_of_le hb (Nat.pow_le_pow_right (by omega) h1))] at h
    omega

/-- A power. -/
def fpw (m a : Nat) : Nat → Nat
  | 0 => 1
  | n + 1 => gm m (fpw m a n) a
theorem one_lt (h : Ok m) : 1 < 2 ^ m := Nat.one_lt_two_pow (by have := h.lo; omega)
theorem fpw_lt (h : Ok m) (a n : Nat) : fpw m a n < 2 ^ m := by
  induction n with
  | zero => exact one_lt h
  | succ n ih => exact gm_lt h ih _
theorem fpw_add (h : Ok m) {a : Nat} (ha : a < 2 ^ m) (i j : Nat) : fpw m a (i + j) = gm m (fpw m a i) (fpw m a j) := by
  induction j with
  | zero => rw [Nat.add_zero]; exact (gm_one_right h (fpw_lt h a i)).symm
  | succ j ih => rw [← Nat.add_assoc]; show gm m (fpw m a (i + j)) a = _; rw [ih, gm_assoc h (fpw_lt h a i) (fpw_lt h a j) ha]; rfl
theorem fpw_sq (h : Ok m) {a : Nat} (ha : a < 2 ^ m) (n : Nat) : fpw m (gm m a a) n = fpw m a (2 * n) := by
  induction n with
  | zero => rfl
  | succ n ih =>
    have e : 2 * (n + 1) = 2 * n + 1 + 1 := by omega
    rw [e]
    show gm m (fpw m (gm m a a) n) (gm m a a) = gm m (gm m (fpw m a (2 * n)) a) a
    rw [ih, gm_assoc h (fpw_lt h a _) ha ha]
theorem fpw_ex (h : Ok m) (i n : Nat) : fpw m (ex m i) n = ex m (i * n) := by
  induction n with
  | zero => rfl
  | succ n ih => show gm m (fpw m (ex m i) n) (ex m i) = _; rw [ih, gm_ex h, Nat.mul_succ]
theorem fpw_zero (n : Nat) : fpw m 0 (n + 1) = 0 := gm_zero_right m _
theorem fpw_el (h : Ok m) {a : Nat} (ha : a < 2 ^ m) (h0 : a ≠ 0) (n : Nat) : fpw m a n = ex m (lg m a * n) := by
  have h2 := (lg_spec h (by omega : 1 ≤ a) ha).2
  have := fpw_ex h (lg m a) n
  rw [h2] at this
  exact this
theorem em_mul_em (l : Nat) (n : Int) (h : Ok m) : em m ((l : Nat) * n) = (l * em m n) % N m := by
  have hp := N_pos h
  have h1 := Int.emod_nonneg n (b := ((N m : Nat) : Int)) (by omega)
  rw [← em_nat (m := m)]
  apply em_congr
  unfold em
  rw [Int.natCast_mul, Int.toNat_of_nonneg h1, Int.mul_emod, Int.mul_emod ((l : Nat) : Int) (n % _), Int.emod_emod]
theorem pw_fpw (h : Ok m) {a : Nat} (ha : a < 2 ^ m) (h0 : a ≠ 0) (n : Int) : pw m a n = fpw m a (em m n) := by
  unfold pw
  rw [if_neg h0, fpw_el h ha h0, em_mul_em _ _ h, ex_mod h]
theorem inv_fpw (h : Ok m) {a : Nat} (ha : a < 2 ^ m) (h0 : a ≠ 0) : inv m a = fpw m a (N m - 1) := by
  have hp := N_pos h
  rw [fpw_el h ha h0]
  unfold inv
  rw [ex_eq_iff h]
  have e : em m (-(lg m a : Nat)) = em m ((lg m a * (N m - 1) : Nat)) := by
    apply em_congr
    rw [Int.natCast_mul, Int.natCast_sub (by omega)]
    have : -((lg m a : Nat) : Int) = (lg m a : Nat) * ((N m : Nat) - 1) - (lg m a : Nat) * (N m : Nat) := by rw [Int.mul_sub, Int.mul_one]; omega
    rw [this, Int.sub_emod, Int.mul_emod_left]
    simp
  rw [e, em_nat, Nat.mod_mod]
theorem two_lt (h : Ok m) : 2 < 2 ^ m := by
  have := Nat.pow_le_pow_right (n := 2) (by omega) h.lo
  omega
theorem ex_one (h : Ok m) : ex m 1 = 2 := by
  have h1 := xtk_one h (k := 1) (by have := h.lo; omega)
  exact h1
theorem lg_two (h : Ok m) : lg m 2 = 1 := by
  have hp := N_pos h
  have := lg_ex h (i := 1) (by omega)
  rw [ex_one h] at this
  exact this
theorem pw_two (h : Ok m) (n : Int) : pw m 2 n = ex m (em m n) := by
  unfold pw
  rw [if_neg (by omega), lg_two h]
  simp

theorem ord_pos (h : Ok m) (a : Nat) : 0 < ord m a := by
  have hp := N_pos h
  exact Nat.div_pos (Nat.le_of_dvd (by omega) (Nat.gcd_dvd_left _ _)) (Nat.gcd_pos_of_pos_left _ (by omega))
theorem fpw_one_iff (h : Ok m) {a : Nat} (ha : a < 2 ^ m) (h0 : a ≠ 0) (n : Nat) : fpw m a n = 1 ↔ ord m a ∣ n := by
  have hp := N_pos h
  have hg : 0 < Nat.gcd (N m) (lg m a) := Nat.gcd_pos_of_pos_left _ (by omega)
  rw [fpw_el h ha h0, ← ex_zero m, ex_eq_iff h, Nat.zero_mod]
  obtain ⟨x, hx⟩ := Nat.gcd_dvd_left (N m) (lg m a)
  obtain ⟨y, hy⟩ := Nat.gcd_dvd_right (N m) (lg m a)
  have ex' : ord m a = x := by unfold ord; rw [Nat.div_eq_of_eq_mul_right hg hx]
  have hc : Nat.Coprime x y := by
    have := Nat.coprime_div_gcd_div_gcd hg
    rwa [Nat.div_eq_of_eq_mul_right hg hx, Nat.div_eq_of_eq_mul_right hg hy] at this
  rw [ex', ← Nat.dvd_iff_mod_eq_zero]
  constructor
  · rintro ⟨c, hc'⟩
    have h1 : y * n = x * c := by
      have h2 : Nat.gcd (N m) (lg m a) * (y * n) = Nat.gcd (N m) (lg m a) * (x * c) := by
        rw [← Nat.mul_assoc, ← Nat.mul_assoc, ← hy, ← hx]; exact hc'
      exact Nat.eq_of_mul_eq_mul_left hg h2
    exact hc.dvd_of_dvd_mul_left ⟨c, h1⟩
  · rintro ⟨c, rfl⟩
    refine ⟨y * c, ?_⟩
    generalize Nat.gcd (N m) (lg m a) = d at hx hy
    rw [hx, hy]
    ac_rfl
theorem order_run (h : Ok m) {a : Nat} (ha : a < 2 ^ m) (h0 : a ≠ 0) {n : Nat} (hn : 0 < n) (hle : n ≤ ord m a) (h1 : fpw m a n = 1) : n = ord m a := by
  have := Nat.le_of_dvd hn ((fpw_one_iff h ha h0 n).1 h1)
  omega
theorem order_go (h : Ok m) {a : Nat} (ha : a < 2 ^ m) (h0 : a ≠ 0) {n : Nat} (_hn : 0 < n) (hle : n ≤ ord m a) (h1 : fpw m a n ≠ 1) : n < ord m a := by
  rcases Nat.lt_or_ge n (ord m a) with h2 | h2
  · exact h2
  · have e : n = ord m a := by omega
    exact absurd ((fpw_one_iff h ha h0 n).2 (e ▸ Nat.dvd_refl _)) h1
theorem log_run (h : Ok m) {a : Nat} (ha : a < 2 ^ m) (h0 : a ≠ 0) {n : Nat} (hle : n ≤ lg m a) (h1 : ex m n = a) : n = lg m a := by
  have h2 := lg_spec h (by omega : 1 ≤ a) ha
  exact ex_inj h (by omega) h2.1 (h1.trans h2.2.symm)
theorem log_go (h : Ok m) {a : Nat} (ha : a < 2 ^ m) (h0 : a ≠ 0) {n : Nat} (hle : n ≤ lg m a) (h1 : ex m n ≠ a) : n < lg m a := by
  have h2 := lg_spec h (by omega : 1 ≤ a) ha
  rcases Nat.lt_or_ge n (lg m a) with h3 | h3
  · exact h3
  · have e : n = lg m a := by omega
    exact absurd (e ▸ h2.2) h1
theorem ex_two (h : Ok m) (n : Nat) : gm m (ex m n) 2 = ex m (n + 1) := by
  rw [← ex_one h, gm_ex h]
end

/-! ### What the document's product does, bit by bit -/
section
variable {m : Nat}
theorem ibit_and_one {x : Nat} (hx : x < 2 ^ 63) : ibit .and .i64 (x : Nat) 1 = ((x % 2 : Nat) : Int) := by
  have := ibit_and_nat (x := x) (y := 1) hx (by decide)
  rw [Nat.and_one_is_mod] at this
  exact this
theorem odd_bit (b k : Nat) : (b >>> k) % 2 = 1 ↔ b.testBit k = true := by
  rw [Nat.testBit_eq_decide_div_mod_eq, Nat.shiftRight_eq_div_pow]
  simp
theorem top_and (_h : Ok m) {x : Nat} (hx : x < 2 ^ m) : ((2 * x) >>> m) % 2 = 1 ↔ 2 ^ m ≤ 2 * x := by
  rw [odd_bit, top_bit (by rw [Nat.pow_succ]; omega)]
  simp
theorem gmk_odd {a b k : Nat} (hc : (((b >>> k) % 2 : Nat) : Int) = 1) : gmk m a b (k + 1) = gmk m a b k ^^^ xtk m k a := by
  have := (odd_bit b k).1 (by omega)
  simp [gmk, this]
theorem gmk_even {a b k : Nat} (hc : ¬ (((b >>> k) % 2 : Nat) : Int) = 1) : gmk m a b (k + 1) = gmk m a b k := by
  have : b.testBit k = false := by
    cases hb : b.testBit k with
    | false => rfl
    | true => exact absurd (by have := (odd_bit b k).2 hb; omega) hc
  simp [gmk, this]
theorem xtk_hi (h : Ok m) {a k : Nat} (ha : a < 2 ^ m) (hc : ((((2 * xtk m k a) >>> m) % 2 : Nat) : Int) = 1) : xtk m (k + 1) a = (2 * xtk m k a) ^^^ polyOf m := by
  have h1 := (top_and h (xtk_lt h k ha)).1 (by omega)
  show xt m (xtk m k a) = _
  rw [xt_eq, if_pos h1]
theorem xtk_lo (h : Ok m) {a k : Nat} (ha : a < 2 ^ m) (hc : ¬ ((((2 * xtk m k a) >>> m) % 2 : Nat) : Int) = 1) : xtk m (k + 1) a = 2 * xtk m k a := by
  have h1 : ¬ 2 ^ m ≤ 2 * xtk m k a := fun h2 => hc (by have := (top_and h (xtk_lt h k ha)).2 h2; omega)
  show xt m (xtk m k a) = _
  rw [xt_eq, if_neg h1]
theorem shr_succ (b k : Nat) : (b >>> k) >>> 1 = b >>> (k + 1) := (Nat.shiftRight_add b k 1).symm
theorem pow_le14 (h : Ok m) : 2 ^ m ≤ 16384 := Nat.pow_le_pow_right (n := 2) (by omega) h.hi
end
end Go.Proofs.YtcjddlcinaedaaaDoor
