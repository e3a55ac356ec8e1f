/- Polynomials as lists of numbers, without noughts at the end: plain mathematics, no program. No condition. -/
import Derived.Test.YtcjddlcinaedaaaDoorFm3
namespace Go.Proofs.YtcjddlcinaedaaaDoor
open Go.Sx Go.Fm

/-- Behind which place all entries are 0. -/
def tl : List Nat → Nat
  | [] => 0
  | x :: r => if tl r = 0 then (if x = 0 then 0 else 1) else tl r + 1
def trim (l : List Nat) : List Nat := l.take (tl l)
/-- A coefficient. -/
def cf (l : List Nat) (j : Nat) : Nat := l.getD j 0

theorem tl_le : ∀ l : List Nat, tl l ≤ l.length
  | [] => Nat.le_refl _
  | x :: r => by
    have := tl_le r
    unfold tl
    simp only [List.length_cons]
    split
    · split <;> omega
    · omega
theorem trim_length (l : List Nat) : (trim l).length = tl l := by
  unfold trim
  rw [List.length_take]
  exact Nat.min_eq_left (tl_le l)
theorem cf_nil (j : Nat) : cf [] j = 0 := by simp [cf]
theorem cf_cons_zero (x : Nat) (r : List Nat) : cf (x :: r) 0 = x := by simp [cf]
theorem cf_cons_succ (x : Nat) (r : List Nat) (j : Nat) : cf (x :: r) (j + 1) = cf r j := by simp [cf]
theorem cf_out {l : List Nat} {j : Nat} (h : l.length ≤ j) : cf l j = 0 := by simp [cf, List.getElem?_eq_none h]
theorem cf_in {l : List Nat} {j : Nat} (h : j < l.length) : l[j]? = some (cf l j) := by simp [cf, h]
theorem cf_hi : ∀ (l : List Nat) (j : Nat), tl l ≤ j → cf l j = 0
  | [], j, _ => cf_nil j
  | x :: r, 0, h => by
    rw [cf_cons_zero]
    unfold tl at h
    split at h
    · split at h
      · assumption
      · omega
    · omega
  | x :: r, j + 1, h => by
    rw [cf_cons_succ]
    refine cf_hi r j ?_
    unfold tl at h
    split at h
    · omega
    · omega
theorem cf_top : ∀ l : List Nat, tl l ≠ 0 → cf l (tl l - 1) ≠ 0
  | [], h => absurd rfl h
  | x :: r, h => by
    by_cases hr : tl r = 0
    · by_cases hx : x = 0
      · exact absurd (by simp [tl, hr, hx]) h
      · have : tl (x :: r) = 1 := by simp [tl, hr, hx]
        rw [this]
        exact hx
    · have : tl (x :: r) = tl r + 1 := by simp [tl, hr]
      rw [this]
      have h2 := cf_top r hr
      rw [show tl r + 1 - 1 = (tl r - 1) + 1 by omega, cf_cons_succ]
      exact h2
theorem tl_le_of {a b : List Nat} (h : ∀ j, cf a j = cf b j) : tl a ≤ tl b := by
  by_cases h0 : tl a = 0
  · omega
  · have h1 := cf_top a h0
    rw [h] at h1
    exact Nat.le_of_not_lt (fun hlt => h1 (cf_hi b _ (by omega)))
theorem tl_eq {a b : List Nat} (h : ∀ j, cf a j = cf b j) : tl a = tl b := Nat.le_antisymm (tl_le_of h) (tl_le_of (fun j => (h j).symm))
theorem cf_trim (l : List Nat) (j : Nat) : cf (trim l) j = cf l j := by
  by_cases h : j < tl l
  · unfold cf trim
    simp only [List.getD_eq_getElem?_getD]
    rw [List.getElem?_take, if_pos h]
  · rw [cf_hi l j (by omega), cf_out (by rw [trim_length]; omega)]
theorem ext_cf {a b : List Nat} (hl : a.length = b.length) (h : ∀ j, cf a j = cf b j) : a = b := by
  apply List.ext_getElem?
  intro j
  by_cases hj : j < a.length
  · rw [cf_in hj, cf_in (by omega), h]
  · rw [List.getElem?_eq_none (by omega), List.getElem?_eq_none (by omega)]
theorem trim_eq {a b : List Nat} (h : ∀ j, cf a j = cf b j) : trim a = trim b := by
  refine ext_cf ?_ (fun j => by rw [cf_trim, cf_trim, h])
  rw [trim_length, trim_length, tl_eq h]
theorem tl_trim (l : List Nat) : tl (trim l) = tl l := tl_eq (cf_trim l)
theorem trim_trim (l : List Nat) : trim (trim l) = trim l := trim_eq (cf_trim l)
theorem trim_of {l : List Nat} (h : tl l = l.length) : trim l = l := by unfold trim; rw [h, List.take_length]
theorem tl_snoc : ∀ (l : List Nat) (x : Nat), tl (l ++ [x]) = if x = 0 then tl l else l.length + 1
  | [], x => by simp [tl]
  | y :: l, x => by
    have ih := tl_snoc l x
    show tl (y :: (l ++ [x])) = _
    unfold tl
    rw [ih]
    by_cases hx : x = 0
    · simp [hx]
    · simp [hx]
theorem trim_lt {l : List Nat} {b : Nat} (h : ∀ x ∈ l, x < b) : ∀ x ∈ trim l, x < b := fun x hx => h x (List.mem_of_mem_take hx)

/-! ### By coefficients -/
/-- The polynomial of these coefficients, n of them at most. -/
def pl (n : Nat) (f : Nat → Nat) : List Nat := trim ((List.range n).map f)
theorem cf_range (n : Nat) (f : Nat → Nat) (j : Nat) : cf ((List.range n).map f) j = if j < n then f j else 0 := by
  unfold cf
  by_cases h : j < n
  · simp [h]
  · simp [h]
theorem cf_pl (n : Nat) (f : Nat → Nat) (j : Nat) : cf (pl n f) j = if j < n then f j else 0 := by
  unfold pl
  rw [cf_trim, cf_range]
theorem pl_eq {n k : Nat} {f g : Nat → Nat} (h : ∀ j, (if j < n then f j else 0) = if j < k then g j else 0) : pl n f = pl k g := by
  unfold pl
  exact trim_eq (fun j => by rw [cf_range, cf_range, h])
theorem pl_trim {n : Nat} {f : Nat → Nat} {l : List Nat} (h : ∀ j, (if j < n then f j else 0) = cf l j) : pl n f = trim l := by
  unfold pl
  exact trim_eq (fun j => by rw [cf_range, h])
theorem trim_pl (n : Nat) (f : Nat → Nat) : trim (pl n f) = pl n f := trim_trim _

/-! ### Sums of so many -/
def xs (f : Nat → Nat) : Nat → Nat
  | 0 => 0
  | n + 1 => xs f n ^^^ f n
theorem xs_congr {f g : Nat → Nat} : ∀ {n : Nat}, (∀ i, i < n → f i = g i) → xs f n = xs g n
  | 0, _ => rfl
  | n + 1, h => by
    unfold xs
    rw [xs_congr (fun i hi => h i (by omega)), h n (by omega)]
theorem xs_zero {f : Nat → Nat} : ∀ {n : Nat}, (∀ i, i < n → f i = 0) → xs f n = 0
  | 0, _ => rfl
  | n + 1, h => by
    unfold xs
    rw [xs_zero (fun i hi => h i (by omega)), h n (by omega), Nat.xor_zero]
theorem xs_more {f : Nat → Nat} {n : Nat} : ∀ {k : Nat}, (∀ i, n ≤ i → f i = 0) → xs f (n + k) = xs f n
  | 0, _ => rfl
  | k + 1, h => by
    show xs f (n + k) ^^^ f (n + k) = _
    rw [xs_more h, h _ (by omega), Nat.xor_zero]
theorem xs_any {f : Nat → Nat} {n k : Nat} (h1 : ∀ i, n ≤ i → f i = 0) (h2 : ∀ i, k ≤ i → f i = 0) : xs f n = xs f k := by
  rcases Nat.le_total n k with h | h
  · rw [show k = n + (k - n) by omega, xs_more h1]
  · rw [show n = k + (n - k) by omega, xs_more h2]
theorem xs_xor (f g : Nat → Nat) : ∀ n, xs (fun i => f i ^^^ g i) n = xs f n ^^^ xs g n
  | 0 => by simp [xs]
  | n + 1 => by
    unfold xs
    rw [xs_xor f g n, Nat.xor_assoc, Nat.xor_assoc, xlc (xs g n)]
theorem xs_lt {f : Nat → Nat} {m : Nat} : ∀ {n : Nat}, (∀ i, i < n → f i < 2 ^ m) → xs f n < 2 ^ m
  | 0, _ => Nat.two_pow_pos m
  | n + 1, h => xor_lt (xs_lt (fun i hi => h i (by omega))) (h n (by omega))
theorem xs_swap (f : Nat → Nat → Nat) (n : Nat) : ∀ k, xs (fun i => xs (fun j => f i j) k) n = xs (fun j => xs (fun i => f i j) n) k
  | 0 => xs_zero (fun _ _ => rfl)
  | k + 1 => by
    show xs (fun i => xs (fun j => f i j) k ^^^ f i k) n = xs (fun j => xs (fun i => f i j) n) k ^^^ xs (fun i => f i k) n
    rw [xs_xor, xs_swap f n k]
theorem xs_first (f : Nat → Nat) : ∀ n, xs f (n + 1) = f 0 ^^^ xs (fun i => f (i + 1)) n
  | 0 => by simp [xs]
  | n + 1 => by
    show xs f (n + 1) ^^^ f (n + 1) = _
    rw [xs_first f n, Nat.xor_assoc]
    rfl
theorem xs_back (f : Nat → Nat) : ∀ n, xs f n = xs (fun i => f (n - 1 - i)) n
  | 0 => rfl
  | n + 1 => by
    rw [xs_first (fun i => f (n + 1 - 1 - i)) n]
    show xs f n ^^^ f n = f (n + 1 - 1 - 0) ^^^ _
    rw [Nat.xor_comm, xs_back f n]
    congr 1
    apply xs_congr
    intro i _
    congr 1
    omega
section
variable {m : Nat}
theorem gm_xs_right (m a : Nat) (f : Nat → Nat) : ∀ n, gm m a (xs f n) = xs (fun i => gm m a (f i)) n
  | 0 => gm_zero_right m a
  | n + 1 => by
    unfold xs
    rw [gm_xor_right, gm_xs_right m a f n]
theorem gm_xs_left (h : Ok m) {f : Nat → Nat} (b : Nat) : ∀ n, (∀ i, i < n → f i < 2 ^ m) → gm m (xs f n) b = xs (fun i => gm m (f i) b) n
  | 0, _ => gm_zero_left m b
  | n + 1, hf => by
    unfold xs
    rw [gm_xor_left h (xs_lt (fun i hi => hf i (by omega))) (hf n (by omega)), gm_xs_left h b n (fun i hi => hf i (by omega))]
end
end Go.Proofs.YtcjddlcinaedaaaDoor
