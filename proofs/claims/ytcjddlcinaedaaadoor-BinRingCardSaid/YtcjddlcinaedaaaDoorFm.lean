/- The fields of 2^m elements, m from 3 to 14, as plain numbers: powers of 2, logarithms, products, by bits: no program. No condition. -/
namespace Go.Fm

def polyOf (m : Nat) : Nat := [0, 0, 0, 0xB, 0x13, 0x25, 0x43, 0x89, 0x11D, 0x211, 0x409, 0x805, 0x1053, 0x201B, 0x4443].getD m 0
def stp (sz p x : Nat) : Nat := bif Nat.ble sz (2 * x) then Nat.xor (2 * x) p else 2 * x
def goes (sz p : Nat) : Nat → Nat → Nat → Bool
  | 0, x, S => Nat.beq x 1 && Nat.beq S (2 ^ sz - 2)
  | k + 1, x, S => bif Nat.beq (Nat.land (Nat.shiftRight S x) 1) 1 then false else goes sz p k (stp sz p x) (Nat.lor S (2 ^ x))

/-- Doubling in the field. -/
def xt (m x : Nat) : Nat := stp (2 ^ m) (polyOf m) x
def xtk (m : Nat) : Nat → Nat → Nat
  | 0, x => x
  | k + 1, x => xt m (xtk m k x)
/-- The powers of 2. -/
def ex (m i : Nat) : Nat := xtk m i 1
/-- How many elements but 0. -/
def N (m : Nat) : Nat := 2 ^ m - 1

structure Ok (m : Nat) : Prop where
  lo : 3 ≤ m
  hi : m ≤ 14

section
set_option maxRecDepth 100000
theorem goes_all (m : Nat) (h : Ok m) : goes (2 ^ m) (polyOf m) (2 ^ m - 1) 1 0 = true := by
  obtain ⟨h1, h2⟩ := h
  have : m = 3 ∨ m = 4 ∨ m = 5 ∨ m = 6 ∨ m = 7 ∨ m = 8 ∨ m = 9 ∨ m = 10 ∨ m = 11 ∨ m = 12 ∨ m = 13 ∨ m = 14 := by omega
  rcases this with rfl | rfl | rfl | rfl | rfl | rfl | rfl | rfl | rfl | rfl | rfl | rfl <;> decide +kernel
theorem poly_all (m : Nat) (h : Ok m) : (Nat.ble (2 ^ m) (polyOf m) && Nat.blt (polyOf m) (2 ^ (m + 1))) = true := by
  obtain ⟨h1, h2⟩ := h
  have : m = 3 ∨ m = 4 ∨ m = 5 ∨ m = 6 ∨ m = 7 ∨ m = 8 ∨ m = 9 ∨ m = 10 ∨ m = 11 ∨ m = 12 ∨ m = 13 ∨ m = 14 := by omega
  rcases this with rfl | rfl | rfl | rfl | rfl | rfl | rfl | rfl | rfl | rfl | rfl | rfl <;> decide +kernel
end

theorem xtk_succ (m k x : Nat) : xtk m (k + 1) x = xtk m k (xt m x) := by
  induction k with
  | zero => rfl
  | succ k ih => show xt m (xtk m (k + 1) x) = xt m (xtk m k (xt m x)); rw [ih]
theorem xtk_add (m i j x : Nat) : xtk m (i + j) x = xtk m i (xtk m j x) := by
  induction i with
  | zero => simp [xtk]
  | succ i ih => rw [Nat.succ_add]; show xt m (xtk m (i + j) x) = xt m (xtk m i (xtk m j x)); rw [ih]

theorem goes_spec (m : Nat) : ∀ (k x S : Nat), goes (2 ^ m) (polyOf m) k x S = true → xtk m k x = 1 ∧ (∀ y, (2 ^ 2 ^ m - 2).testBit y = (S.testBit y || decide (∃ j, j < k ∧ xtk m j x = y))) ∧
    ∀ j, j < k → S.testBit (xtk m j x) = false ∧ ∀ i, i < j → xtk m i x ≠ xtk m j x
  | 0, x, S, h => by
    simp only [goes, Bool.and_eq_true, Nat.beq_eq] at h
    exact ⟨h.1, fun y => by rw [← h.2]; simp, fun j hj => by omega⟩
  | k + 1, x, S, h => by
    unfold goes at h
    cases hb : Nat.beq (Nat.land (Nat.shiftRight S x) 1) 1 with
    | true => rw [hb] at h; cases h
    | false =>
      rw [hb] at h
      simp only [cond_false] at h
      have hbit : S.testBit x = false := by
        simp only [Nat.testBit, bne_eq_false_iff_eq]
        have h1 : Nat.land (Nat.shiftRight S x) 1 ≠ 1 := fun e => by rw [e] at hb; cases hb
        have h2 : Nat.land (Nat.shiftRight S x) 1 = (S >>> x) % 2 := Nat.and_one_is_mod _
        have h3 : 1 &&& S >>> x = (S >>> x) % 2 := by rw [Nat.and_comm]; exact Nat.and_one_is_mod _
        rw [h3]; omega
      obtain ⟨h1, h2, h3⟩ := goes_spec m k _ _ h
      have hS : ∀ y, (Nat.lor S (2 ^ x)).testBit y = (S.testBit y || decide (x = y)) := fun y => by
        show (S ||| 2 ^ x).testBit y = _
        rw [Nat.testBit_or, Nat.testBit_two_pow]
      have e : ∀ j, xtk m j (stp (2 ^ m) (polyOf m) x) = xtk m (j + 1) x := fun j => (xtk_succ m j x).symm
      refine ⟨by rw [xtk_succ]; exact h1, fun y => ?_, fun j hj => ?_⟩
      · rw [h2 y, hS y, Bool.or_assoc]
        congr 1
        rw [Bool.eq_iff_iff]
        simp only [Bool.or_eq_true, decide_eq_true_eq]
        constructor
        · rintro (h | ⟨j, hj, h⟩)
          · exact ⟨0, by omega, h⟩
          · exact ⟨j + 1, by omega, by rw [← e]; exact h⟩
        · rintro ⟨j, hj, h⟩
          cases j with
          | zero => exact .inl h
          | succ j => exact .inr ⟨j, by omega, by rw [e]; exact h⟩
      · cases j with
        | zero => exact ⟨hbit, fun i hi => by omega⟩
        | succ j =>
          obtain ⟨h4, h5⟩ := h3 j (by omega)
          rw [e, hS, Bool.or_eq_false_iff, decide_eq_false_iff_not] at h4
          refine ⟨h4.1, fun i hi => ?_⟩
          cases i with
          | zero => exact h4.2
          | succ i => rw [← e, ← e]; exact h5 i (by omega)

section
variable {m : Nat}

theorem N_pos (h : Ok m) : 7 ≤ N m ∧ N m ≤ 16383 := by
  obtain ⟨h1, h2⟩ := h
  have a := Nat.pow_le_pow_right (n := 2) (by omega) h1
  have b := Nat.pow_le_pow_right (n := 2) (by omega) h2
  unfold N
  omega
theorem N_succ (m : Nat) : N m + 1 = 2 ^ m := by
  have := Nat.two_pow_pos m
  unfold N
  omega
theorem ex_zero (m : Nat) : ex m 0 = 1 := rfl
theorem ex_succ (m i : Nat) : ex m (i + 1) = xt m (ex m i) := rfl
theorem ex_N (h : Ok m) : ex m (N m) = 1 := (goes_spec m _ _ _ (goes_all m h)).1
theorem ex_inj (h : Ok m) {i j : Nat} (hi : i < N m) (hj : j < N m) (he : ex m i = ex m j) : i = j := by
  have := (goes_spec m _ _ _ (goes_all m h)).2.2
  rcases Nat.lt_trichotomy i j with hlt | heq | hgt
  · exact absurd he ((this j hj).2 i hlt)
  · exact heq
  · exact absurd he.symm ((this i hi).2 j hgt)
theorem bits_all (m y : Nat) : (2 ^ 2 ^ m - 2).testBit y = decide (1 ≤ y ∧ y < 2 ^ m) := by
  have h1 : 2 ≤ 2 ^ 2 ^ m := by
    have := Nat.pow_le_pow_right (n := 2) (by omega) (Nat.two_pow_pos m)
    simpa using this
  have h2 : 2 ^ 2 ^ m - 2 = 2 ^ 2 ^ m - (1 + 1) := rfl
  rw [h2, Nat.testBit_two_pow_sub_succ (by omega)]
  have h3 : (1 : Nat).testBit y = decide (y = 0) := by
    cases y with
    | zero => rfl
    | succ y => simp [Nat.testBit, Nat.shiftRight_succ_inside]
  rw [h3, Bool.eq_iff_iff]
  simp only [Bool.and_eq_true, decide_eq_true_eq, Bool.not_eq_true', decide_eq_false_iff_not]
  omega
theorem ex_range (h : Ok m) {i : Nat} (hi : i < N m) : 1 ≤ ex m i ∧ ex m i < 2 ^ m := by
  have := (goes_spec m _ _ _ (goes_all m h)).2.1 (ex m i)
  rw [bits_all] at this
  have h2 : decide (∃ j, j < 2 ^ m - 1 ∧ xtk m j 1 = ex m i) = true := by simp; exact ⟨i, hi, rfl⟩
  rw [h2, Bool.or_true] at this
  simpa using this
theorem ex_onto (h : Ok m) {x : Nat} (h1 : 1 ≤ x) (h2 : x < 2 ^ m) : ∃ i, i < N m ∧ ex m i = x := by
  have := (goes_spec m _ _ _ (goes_all m h)).2.1 x
  rw [bits_all] at this
  have h3 : decide (1 ≤ x ∧ x < 2 ^ m) = true := by simp; omega
  rw [h3] at this
  simp at this
  exact this

theorem ex_add_N (h : Ok m) (i : Nat) : ex m (i + N m) = ex m i := by
  show xtk m (i + N m) 1 = xtk m i 1
  rw [xtk_add]
  have := ex_N h
  unfold ex at this
  rw [this]
theorem ex_add_mul (h : Ok m) (i k : Nat) : ex m (i + k * N m) = ex m i := by
  induction k with
  | zero => simp
  | succ k ih => rw [Nat.succ_mul, ← Nat.add_assoc, ex_add_N h, ih]
theorem ex_mod (h : Ok m) (i : Nat) : ex m (i % N m) = ex m i := by
  have h2 := ex_add_mul h (i % N m) (i / N m)
  rw [Nat.add_comm, Nat.mul_comm, Nat.div_add_mod] at h2
  exact h2.symm
theorem ex_lt (h : Ok m) (i : Nat) : 1 ≤ ex m i ∧ ex m i < 2 ^ m := by
  rw [← ex_mod h]
  exact ex_range h (Nat.mod_lt _ (by have := N_pos h; omega))
theorem ex_eq_iff (h : Ok m) (i j : Nat) : ex m i = ex m j ↔ i % N m = j % N m := by
  have hp := N_pos h
  rw [← ex_mod h i, ← ex_mod h j]
  exact ⟨fun he => ex_inj h (Nat.mod_lt _ (by omega)) (Nat.mod_lt _ (by omega)) he, fun he => by rw [he]⟩

/-- The logarithm. -/
noncomputable def lg (m x : Nat) : Nat := open Classical in if h : ∃ i, i < N m ∧ ex m i = x then Classical.choose h else 0
theorem lg_spec (h : Ok m) {x : Nat} (h1 : 1 ≤ x) (h2 : x < 2 ^ m) : lg m x < N m ∧ ex m (lg m x) = x := by
  have := ex_onto h h1 h2
  unfold lg
  rw [dif_pos this]
  exact Classical.choose_spec this
theorem lg_ex (h : Ok m) {i : Nat} (hi : i < N m) : lg m (ex m i) = i := by
  have := lg_spec h (ex_lt h i).1 (ex_lt h i).2
  exact ex_inj h this.1 hi this.2

/-! ### Doubling is linear -/
theorem poly_spec (h : Ok m) : 2 ^ m ≤ polyOf m ∧ polyOf m < 2 ^ (m + 1) := by
  have := poly_all m h
  rw [Bool.and_eq_true] at this
  exact ⟨Nat.le_of_ble_eq_true this.1, Nat.le_of_ble_eq_true this.2⟩
theorem xt_eq (m x : Nat) : xt m x = if 2 ^ m ≤ 2 * x then (2 * x) ^^^ polyOf m else 2 * x := by
  unfold xt stp
  by_cases hc : 2 ^ m ≤ 2 * x
  · rw [if_pos hc, Nat.ble_eq_true_of_le hc]; rfl
  · rw [if_neg hc]
    have : Nat.ble (2 ^ m) (2 * x) = false := by
      cases hb : Nat.ble (2 ^ m) (2 * x) with
      | false => rfl
      | true => exact absurd (Nat.le_of_ble_eq_true hb) hc
    rw [this]; rfl
theorem top_bit {m x : Nat} (hx : x < 2 ^ (m + 1)) : x.testBit m = decide (2 ^ m ≤ x) := by
  rw [Bool.eq_iff_iff, decide_eq_true_eq]
  constructor
  · exact Nat.ge_two_pow_of_testBit
  · intro hle
    have h1 : x / 2 ^ m = 1 := by
      have hp := Nat.two_pow_pos m
      rw [Nat.pow_succ] at hx
      exact Nat.div_eq_of_lt_le (by omega) (by omega)
    rw [Nat.testBit_eq_decide_div_mod_eq, h1]
    rfl
theorem xt_bit (h : Ok m) {x : Nat} (hx : x < 2 ^ m) : xt m x = (2 * x) ^^^ (if x.testBit (m - 1) then polyOf m else 0) := by
  have hm := h.lo
  have hx2 : 2 * x < 2 ^ (m + 1) := by rw [Nat.pow_succ]; omega
  have hb : x.testBit (m - 1) = decide (2 ^ m ≤ 2 * x) := by
    have e : m - 1 + 1 = m := by omega
    rw [top_bit (by rw [e]; exact hx)]
    rw [Bool.eq_iff_iff, decide_eq_true_eq, decide_eq_true_eq]
    have : 2 ^ m = 2 * 2 ^ (m - 1) := by rw [← e, Nat.pow_succ, e]; omega
    omega
  rw [xt_eq, hb]
  by_cases hc : 2 ^ m ≤ 2 * x <;> simp [hc]
theorem xt_lt (h : Ok m) {x : Nat} (hx : x < 2 ^ m) : xt m x < 2 ^ m := by
  have hx2 : 2 * x < 2 ^ (m + 1) := by rw [Nat.pow_succ]; omega
  obtain ⟨hp1, hp2⟩ := poly_spec h
  rw [xt_eq]
  by_cases hc : 2 ^ m ≤ 2 * x
  · rw [if_pos hc]
    have h1 : (2 * x) ^^^ polyOf m < 2 ^ (m + 1) := Nat.xor_lt_two_pow hx2 hp2
    have h2 : ((2 * x) ^^^ polyOf m).testBit m = false := by
      rw [Nat.testBit_xor, top_bit hx2, top_bit hp2]
      simp [hc, hp1]
    rw [top_bit h1] at h2
    simpa using h2
  · rw [if_neg hc]; omega
theorem xlc (a b c : Nat) : a ^^^ (b ^^^ c) = b ^^^ (a ^^^ c) := by rw [← Nat.xor_assoc, Nat.xor_comm a b, Nat.xor_assoc]
theorem xcc (a b : Nat) : a ^^^ (a ^^^ b) = b := by rw [← Nat.xor_assoc, Nat.xor_self, Nat.zero_xor]
theorem two_mul_xor (a b : Nat) : 2 * (a ^^^ b) = (2 * a) ^^^ (2 * b) := by
  have e : ∀ x, 2 * x = x <<< 1 := fun x => by rw [Nat.shiftLeft_eq]; omega
  rw [e, e, e, Nat.shiftLeft_xor_distrib]
theorem xor_lt {a b m : Nat} (ha : a < 2 ^ m) (hb : b < 2 ^ m) : a ^^^ b < 2 ^ m := Nat.xor_lt_two_pow ha hb
theorem xt_xor (h : Ok m) {a b : Nat} (ha : a < 2 ^ m) (hb : b < 2 ^ m) : xt m (a ^^^ b) = xt m a ^^^ xt m b := by
  rw [xt_bit h ha, xt_bit h hb, xt_bit h (xor_lt ha hb), two_mul_xor, Nat.testBit_xor]
  cases a.testBit (m - 1) <;> cases b.testBit (m - 1) <;> simp [Nat.xor_assoc, Nat.xor_comm, xlc]
theorem xt_zero (m : Nat) : xt m 0 = 0 := by
  rw [xt_eq, if_neg]
  have := Nat.two_pow_pos m
  omega
theorem xtk_zero (m k : Nat) : xtk m k 0 = 0 := by
  induction k with
  | zero => rfl
  | succ k ih => show xt m (xtk m k 0) = 0; rw [ih, xt_zero]
theorem xtk_lt (h : Ok m) (k : Nat) {x : Nat} (hx : x < 2 ^ m) : xtk m k x < 2 ^ m := by
  induction k with
  | zero => exact hx
  | succ k ih => exact xt_lt h ih
theorem xtk_xor (h : Ok m) (k : Nat) {a b : Nat} (ha : a < 2 ^ m) (hb : b < 2 ^ m) : xtk m k (a ^^^ b) = xtk m k a ^^^ xtk m k b := by
  induction k with
  | zero => rfl
  | succ k ih => show xt m (xtk m k (a ^^^ b)) = xt m (xtk m k a) ^^^ xt m (xtk m k b); rw [ih, xt_xor h (xtk_lt h k ha) (xtk_lt h k hb)]

/-! ### Products -/
/-- The first k bits of b: what they bring. -/
def gmk (m a b : Nat) : Nat → Nat
  | 0 => 0
  | k + 1 => gmk m a b k ^^^ (if b.testBit k then xtk m k a else 0)
/-- The product. -/
def gm (m a b : Nat) : Nat := gmk m a b m

theorem gmk_lt (h : Ok m) {a : Nat} (ha : a < 2 ^ m) (b k : Nat) : gmk m a b k < 2 ^ m := by
  induction k with
  | zero => exact Nat.two_pow_pos m
  | succ k ih =>
    refine xor_lt ih ?_
    split
    · exact xtk_lt h k ha
    · exact Nat.two_pow_pos m
theorem gm_lt (h : Ok m) {a : Nat} (ha : a < 2 ^ m) (b : Nat) : gm m a b < 2 ^ m := gmk_lt h ha b m
theorem gmk_xor_left (h : Ok m) {a a' : Nat} (ha : a < 2 ^ m) (ha' : a' < 2 ^ m) (b k : Nat) : gmk m (a ^^^ a') b k = gmk m a b k ^^^ gmk m a' b k := by
  induction k with
  | zero => simp [gmk]
  | succ k ih =>
    simp only [gmk, ih, xtk_xor h k ha ha']
    cases b.testBit k <;> simp [Nat.xor_assoc, Nat.xor_comm, xlc]
theorem gm_xor_left (h : Ok m) {a a' : Nat} (ha : a < 2 ^ m) (ha' : a' < 2 ^ m) (b : Nat) : gm m (a ^^^ a') b = gm m a b ^^^ gm m a' b := gmk_xor_left h ha ha' b m
theorem gmk_xor_right (m a b b' k : Nat) : gmk m a (b ^^^ b') k = gmk m a b k ^^^ gmk m a b' k := by
  induction k with
  | zero => simp [gmk]
  | succ k ih =>
    simp only [gmk, ih, Nat.testBit_xor]
    cases b.testBit k <;> cases b'.testBit k <;> simp [Nat.xor_assoc, Nat.xor_comm, xlc]
theorem gm_xor_right (m a b b' : Nat) : gm m a (b ^^^ b') = gm m a b ^^^ gm m a b' := gmk_xor_right m a b b' m
theorem gmk_xt (h : Ok m) {a : Nat} (ha : a < 2 ^ m) (b k : Nat) : gmk m (xt m a) b k = xt m (gmk m a b k) := by
  induction k with
  | zero => exact (xt_zero m).symm
  | succ k ih =>
    simp only [gmk, ih]
    rw [xt_xor h (gmk_lt h ha b k) (by split; exact xtk_lt h k ha; exact Nat.two_pow_pos m), ← xtk_succ]
    split
    · rfl
    · rw [xt_zero]
theorem gm_zero_left (m b : Nat) : gm m 0 b = 0 := by
  have : ∀ k, gmk m 0 b k = 0 := fun k => by
    induction k with
    | zero => rfl
    | succ k ih => simp [gmk, ih, xtk_zero]
  exact this m
theorem gm_zero_right (m a : Nat) : gm m a 0 = 0 := by
  have : ∀ k, gmk m a 0 k = 0 := fun k => by
    induction k with
    | zero => rfl
    | succ k ih => simp [gmk, ih]
  exact this m
theorem xtk_one (_h : Ok m) {k : Nat} (hk : k < m) : xtk m k 1 = 2 ^ k := by
  induction k with
  | zero => rfl
  | succ k ih =>
    show xt m (xtk m k 1) = _
    rw [ih (by omega), xt_eq, if_neg, Nat.pow_succ]
    · omega
    · have := Nat.pow_lt_pow_right (a := 2) (by omega) hk
      rw [Nat.pow_succ] at this
      omega
theorem gmk_one (h : Ok m) (b : Nat) : ∀ k, k ≤ m → gmk m 1 b k = b % 2 ^ k := by
  intro k
  induction k with
  | zero => intro _; simp [gmk, Nat.mod_one]
  | succ k ih =>
    intro hk
    simp only [gmk, ih (by omega), xtk_one h (by omega : k < m)]
    apply Nat.eq_of_testBit_eq
    intro i
    rw [Nat.testBit_xor, Nat.testBit_mod_two_pow, Nat.testBit_mod_two_pow]
    by_cases hb : b.testBit k = true
    · rw [if_pos hb, Nat.testBit_two_pow]
      by_cases hik : i = k
      · subst hik; simp [hb]
      · have h1 : decide (k = i) = false := by simp; omega
        have h2 : decide (i < k + 1) = decide (i < k) := by rw [Bool.eq_iff_iff]; simp; omega
        simp [h1, h2]
    · rw [if_neg hb, Nat.zero_testBit]
      by_cases hik : i = k
      · subst hik; simp at hb; simp [hb]
      · have h2 : decide (i < k + 1) = decide (i < k) := by rw [Bool.eq_iff_iff]; simp; omega
        simp [h2]
theorem gm_one_left (h : Ok m) {b : Nat} (hb : b < 2 ^ m) : gm m 1 b = b := by
  unfold gm
  rw [gmk_one h b m (Nat.le_refl _), Nat.mod_eq_of_lt hb]
theorem gm_ex_left (h : Ok m) (i : Nat) {b : Nat} (hb : b < 2 ^ m) : gm m (ex m i) b = xtk m i b := by
  induction i with
  | zero => exact gm_one_left h hb
  | succ i ih => rw [ex_succ]; unfold gm at *; rw [gmk_xt h (ex_lt h i).2, ih]; rfl
theorem gm_ex (h : Ok m) (i j : Nat) : gm m (ex m i) (ex m j) = ex m (i + j) := by
  rw [gm_ex_left h i (ex_lt h j).2]
  unfold ex
  rw [xtk_add]

/-- An element is 0, or a power of 2. -/
theorem el_cases (h : Ok m) {a : Nat} (ha : a < 2 ^ m) : a = 0 ∨ ∃ i, i < N m ∧ a = ex m i := by
  rcases Nat.eq_zero_or_pos a with h0 | h0
  · exact .inl h0
  · obtain ⟨i, hi, he⟩ := ex_onto h h0 ha
    exact .inr ⟨i, hi, he.symm⟩
theorem gm_comm (h : Ok m) {a b : Nat} (ha : a < 2 ^ m) (hb : b < 2 ^ m) : gm m a b = gm m b a := by
  rcases el_cases h ha with rfl | ⟨i, _, rfl⟩
  · rw [gm_zero_left, gm_zero_right]
  · rcases el_cases h hb with rfl | ⟨j, _, rfl⟩
    · rw [gm_zero_left, gm_zero_right]
    · rw [gm_ex h, gm_ex h, Nat.add_comm]
theorem gm_assoc (h : Ok m) {a b c : Nat} (ha : a < 2 ^ m) (hb : b < 2 ^ m) (hc : c < 2 ^ m) : gm m (gm m a b) c = gm m a (gm m b c) := by
  rcases el_cases h ha with rfl | ⟨i, _, rfl⟩
  · simp [gm_zero_left]
  · rcases el_cases h hb with rfl | ⟨j, _, rfl⟩
    · simp [gm_zero_left, gm_zero_right]
    · rcases el_cases h hc with rfl | ⟨k, _, rfl⟩
      · simp [gm_zero_right]
      · simp [gm_ex h, Nat.add_assoc]
theorem gm_one_right (h : Ok m) {a : Nat} (ha : a < 2 ^ m) : gm m a 1 = a := by
  rw [gm_comm h ha (Nat.one_lt_two_pow (by have := h.lo; omega)), gm_one_left h ha]
theorem gm_ne_zero (h : Ok m) {a b : Nat} (ha : a < 2 ^ m) (hb : b < 2 ^ m) (ha0 : a ≠ 0) (hb0 : b ≠ 0) : gm m a b ≠ 0 := by
  rcases el_cases h ha with rfl | ⟨i, _, rfl⟩
  · exact absurd rfl ha0
  · rcases el_cases h hb with rfl | ⟨j, _, rfl⟩
    · exact absurd rfl hb0
    · rw [gm_ex h]; have := (ex_lt h (i + j)).1; omega
theorem gm_lg (h : Ok m) {a b : Nat} (ha : a < 2 ^ m) (hb : b < 2 ^ m) (ha0 : a ≠ 0) (hb0 : b ≠ 0) : gm m a b = ex m (lg m a + lg m b) := by
  have h1 := lg_spec h (by omega : 1 ≤ a) ha
  have h2 := lg_spec h (by omega : 1 ≤ b) hb
  rw [← gm_ex h, h1.2, h2.2]
end
end Go.Fm
