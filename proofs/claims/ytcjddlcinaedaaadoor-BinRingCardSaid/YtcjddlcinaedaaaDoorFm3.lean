/- The laws of the fields of 2^m elements, as the statements of chapter 2 ask them: plain numbers, no program. No condition. -/
import Derived.Test.YtcjddlcinaedaaaDoorFm2
namespace Go.Proofs.YtcjddlcinaedaaaDoor
open Go.Sx Go.Fm

section
variable {m : Nat}
theorem gm_xor_r (m a b c : Nat) : gm m a (b ^^^ c) = gm m a b ^^^ gm m a c := gm_xor_right m a b c
theorem sq_xor (h : Ok m) {a b : Nat} (ha : a < 2 ^ m) (hb : b < 2 ^ m) : gm m (a ^^^ b) (a ^^^ b) = gm m a a ^^^ gm m b b := by
  rw [gm_xor_left h ha hb, gm_xor_right, gm_xor_right, gm_comm h hb ha]
  rw [Nat.xor_assoc, ← Nat.xor_assoc (gm m a b), Nat.xor_self, Nat.zero_xor]
theorem sqk_xor (h : Ok m) (k : Nat) {a b : Nat} (ha : a < 2 ^ m) (hb : b < 2 ^ m) : sqk m k (a ^^^ b) = sqk m k a ^^^ sqk m k b := by
  induction k with
  | zero => rfl
  | succ k ih => show gm m (sqk m k (a ^^^ b)) (sqk m k (a ^^^ b)) = _; rw [ih, sq_xor h (sqk_lt h k ha) (sqk_lt h k hb)]; rfl
theorem trk_xor (h : Ok m) (k : Nat) {a b : Nat} (ha : a < 2 ^ m) (hb : b < 2 ^ m) : trk m k (a ^^^ b) = trk m k a ^^^ trk m k b := by
  induction k with
  | zero => simp [trk]
  | succ k ih => simp only [trk, ih, sqk_xor h k ha hb, Nat.xor_assoc, xlc]
theorem tr_xor (h : Ok m) {a b : Nat} (ha : a < 2 ^ m) (hb : b < 2 ^ m) : tr m (a ^^^ b) = tr m a ^^^ tr m b := trk_xor h m ha hb
theorem sqk_fpw (h : Ok m) (k : Nat) {a : Nat} (ha : a < 2 ^ m) : sqk m k a = fpw m a (2 ^ k) := by
  induction k with
  | zero => exact (gm_one_left h ha).symm
  | succ k ih => show gm m (sqk m k a) (sqk m k a) = _; rw [ih, ← fpw_add h ha, Nat.pow_succ]; congr 1; omega
theorem fpw_N (h : Ok m) {a : Nat} (ha : a < 2 ^ m) (h0 : a ≠ 0) : fpw m a (N m) = 1 := by
  rw [fpw_el h ha h0, ← ex_zero m, ex_eq_iff h, Nat.mul_mod_left, Nat.zero_mod]
theorem fpw_N1 (h : Ok m) {a : Nat} (ha : a < 2 ^ m) : fpw m a (N m + 1) = a := by
  by_cases h0 : a = 0
  · subst h0; exact fpw_zero _
  · show gm m (fpw m a (N m)) a = a
    rw [fpw_N h ha h0, gm_one_left h ha]
theorem sqk_m (h : Ok m) {a : Nat} (ha : a < 2 ^ m) : sqk m m a = a := by
  rw [sqk_fpw h m ha, ← N_succ, fpw_N1 h ha]
theorem sqk_sq (_h : Ok m) (k a : Nat) : sqk m k (gm m a a) = sqk m (k + 1) a := by
  induction k with
  | zero => rfl
  | succ k ih => show gm m (sqk m k (gm m a a)) (sqk m k (gm m a a)) = _; rw [ih]; rfl
theorem trk_sq (h : Ok m) (k a : Nat) : trk m k (gm m a a) ^^^ a = trk m k a ^^^ sqk m k a := by
  induction k with
  | zero => simp [trk, sqk]
  | succ k ih =>
    simp only [trk, sqk_sq h]
    rw [Nat.xor_assoc, Nat.xor_comm (sqk m (k + 1) a), ← Nat.xor_assoc, ih]
theorem tr_sq (h : Ok m) {a : Nat} (ha : a < 2 ^ m) : tr m (gm m a a) = tr m a := by
  have := trk_sq h m a
  rw [sqk_m h ha] at this
  have e : ∀ x, (x ^^^ a) ^^^ a = x := fun x => by rw [Nat.xor_assoc, Nat.xor_self, Nat.xor_zero]
  have := congrArg (· ^^^ a) this
  simp only [e] at this
  exact this
theorem pw_nat (h : Ok m) {a : Nat} (ha : a < 2 ^ m) (n : Nat) : pw m a (n : Nat) = fpw m a n := by
  by_cases h0 : a = 0
  · subst h0
    unfold pw
    rw [if_pos rfl]
    cases n with
    | zero => rfl
    | succ n => rw [if_neg (by omega), fpw_zero]
  · unfold pw
    rw [if_neg h0, fpw_el h ha h0, ← Int.natCast_mul, em_nat, ex_mod h]
theorem pw_N1 (h : Ok m) {a : Nat} (ha : a < 2 ^ m) : pw m a ((N m : Nat) + 1) = a := by
  have := pw_nat h ha (N m + 1)
  rw [fpw_N1 h ha] at this
  exact this
theorem ex_em_nat (h : Ok m) (n : Nat) : ex m (em m (n : Nat)) = ex m n := by rw [em_nat, ex_mod h]
theorem ex_em_add (h : Ok m) (n o : Nat) : ex m (em m ((n : Nat) + (o : Nat))) = gm m (ex m (em m (n : Nat))) (ex m (em m (o : Nat))) := by
  rw [← Int.natCast_add, ex_em_nat h, ex_em_nat h, ex_em_nat h, gm_ex h]
theorem ex_em_N (h : Ok m) : ex m (em m (N m : Nat)) = 1 := by rw [ex_em_nat h, ex_N h]
theorem pw_ex (h : Ok m) (n o : Nat) : pw m (ex m (em m (n : Nat))) (o : Nat) = ex m (em m ((n : Nat) * (o : Nat))) := by
  rw [ex_em_nat h, pw_nat h (ex_lt h n).2, fpw_ex h, ← Int.natCast_mul, ex_em_nat h]
theorem ex_em_lg (h : Ok m) {a : Nat} (ha : a < 2 ^ m) (h0 : a ≠ 0) : ex m (em m (lg m a : Nat)) = a := by
  rw [ex_em_nat h]
  exact (lg_spec h (by omega) ha).2
theorem pw_ord (h : Ok m) {a : Nat} (ha : a < 2 ^ m) (h0 : a ≠ 0) : pw m a (ord m a : Nat) = 1 := by
  rw [pw_nat h ha]
  exact (fpw_one_iff h ha h0 _).2 (Nat.dvd_refl _)
theorem ord_dvd (m a : Nat) : N m % ord m a = 0 := by
  obtain ⟨x, hx⟩ := Nat.gcd_dvd_left (N m) (lg m a)
  unfold ord
  by_cases hg : Nat.gcd (N m) (lg m a) = 0
  · rw [hg] at hx
    simp at hx
    simp [hx]
  · rw [Nat.div_eq_of_eq_mul_right (by omega) hx]
    conv => lhs; lhs; rw [hx]
    exact Nat.mul_mod_left _ _
theorem div_back (h : Ok m) {a b : Nat} (ha : a < 2 ^ m) (hb : b < 2 ^ m) (h0 : a ≠ 0) : gm m (gm m a b) (inv m a) = b := by
  rw [gm_comm h ha hb, gm_assoc h hb ha (inv_lt h a), gm_inv h ha h0, gm_one_right h hb]
theorem pw_neg (_h : Ok m) {a : Nat} (h0 : a ≠ 0) : pw m a (-1) = inv m a := by
  unfold pw inv
  rw [if_neg h0]
  congr 2
  omega
theorem xor_one_ne (x : Nat) : x ^^^ 1 ≠ x := fun he => by
  have := congrArg (· ^^^ x) he
  simp only [Nat.xor_self] at this
  rw [Nat.xor_comm x 1, Nat.xor_assoc, Nat.xor_self, Nat.xor_zero] at this
  omega
theorem root_sq (h : Ok m) {a : Nat} (ha : a < 2 ^ m) : gm m (pw m a ((2 ^ (m - 1) : Nat))) (pw m a ((2 ^ (m - 1) : Nat))) = a := by
  have hlo := h.lo
  rw [pw_nat h ha, ← fpw_add h ha]
  have e : 2 ^ (m - 1) + 2 ^ (m - 1) = N m + 1 := by
    have h2 : 2 ^ m = 2 ^ (m - 1) * 2 := by
      have := Nat.pow_succ (n := 2) (m := m - 1)
      rw [show (m - 1).succ = m by omega] at this
      exact this
    have := N_succ m
    omega
  rw [e, fpw_N1 h ha]
theorem root_other (h : Ok m) {r a : Nat} (hr : r < 2 ^ m) (hrr : gm m r r = a) : gm m (r ^^^ 1) (r ^^^ 1) ≠ a := by
  rw [sq_xor h hr (one_lt h), hrr, gm_one_left h (one_lt h)]
  exact xor_one_ne a
theorem pw_lt (h : Ok m) (a : Nat) (n : Int) : pw m a n < 2 ^ m := by
  unfold pw
  split
  · split
    · exact one_lt h
    · exact Nat.two_pow_pos m
  · exact (ex_lt h _).2
theorem ord_ex (h : Ok m) {j : Nat} (hj : j < N m) : ord m (ex m j) = N m / Nat.gcd j (N m) := by
  unfold ord
  rw [lg_ex h hj, Nat.gcd_comm]
end
end Go.Proofs.YtcjddlcinaedaaaDoor
