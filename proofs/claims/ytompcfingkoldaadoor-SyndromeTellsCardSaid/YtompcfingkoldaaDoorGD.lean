/- Texts that all walks share, as one. Conditions: each theorem tells its own. -/
import Derived.Test.YtompcfingkoldaaDoorGC
import Derived.Test.YtompcfingkoldaaDoorGA
import Derived.OrdersIn
import Derived.RangeFuncLeaves
import Derived.RangeFuncRecord
import Derived.Test.YtompcfingkoldaaDoorGB
import Derived.Sort.Grow
import Derived.Shelf.Sort.Plain
import Derived.Test.YtompcfingkoldaaDoorProg
section
/- Cosets of a field's exponents, and the polynomials whose roots they are: plain mathematics. Condition: Ok m. -/
namespace Go.Fm
open Go Go.Proofs.YtompcfingkoldaaDoor
/-- i times 2^j. -/
def cst (m i j : Nat) : Nat := (i * 2 ^ j) % N m
def cosP (m i : Nat) : List Nat := (List.range (N m)).filter (fun k => decide (∃ j, j < m ∧ cst m i j = k))
variable {m : Nat} (hm : Ok m)
theorem cst_succ (m i j : Nat) : cst m i (j + 1) = (2 * cst m i j) % N m := by
  unfold cst
  rw [Nat.mul_mod 2, Nat.mod_mod, ← Nat.mul_mod, Nat.pow_succ]
  congr 1
  rw [← Nat.mul_assoc, Nat.mul_comm 2]
theorem cst_add (m i j k : Nat) : cst m i (j + k) = cst m (cst m i j) k := by
  unfold cst
  rw [Nat.pow_add, ← Nat.mul_assoc]
  conv => rhs; rw [Nat.mul_mod, Nat.mod_mod, ← Nat.mul_mod]
include hm
theorem cst_lt (i j : Nat) : cst m i j < N m := Nat.mod_lt _ (by have := (N_pos hm).1; omega)
theorem pow_m : 2 ^ m % N m = 1 := by
  have h := N_succ m
  have hp := (N_pos hm).1
  rw [← h, Nat.add_mod_left, Nat.mod_eq_of_lt (by omega)]
theorem cst_m (i j : Nat) : cst m i (j + m) = cst m i j := by
  unfold cst
  rw [Nat.pow_add, ← Nat.mul_assoc, Nat.mul_mod, pow_m hm, Nat.mul_one, Nat.mod_mod]
theorem cst_mul (i j q : Nat) : cst m i (j + q * m) = cst m i j := by
  induction q with
  | zero => simp
  | succ q ih => rw [Nat.succ_mul, ← Nat.add_assoc, cst_m hm, ih]
/-- Doubling takes unlike ones to unlike ones. -/
theorem cst_inj {a b : Nat} (ha : a < N m) (hb : b < N m) {k : Nat} (h : cst m a k = cst m b k) : a = b := by
  have h0 : ∀ x, x < N m → cst m (cst m x k) (k * m - k) = x := fun x hx => by
    rw [← cst_add, show k + (k * m - k) = 0 + k * m by have : k * 1 ≤ k * m := Nat.mul_le_mul_left k (by have := hm.lo; omega); omega, cst_mul hm]
    unfold cst
    rw [Nat.pow_zero, Nat.mul_one, Nat.mod_eq_of_lt hx]
  rw [← h0 a ha, ← h0 b hb, h]
theorem cst_cancel (i a b k : Nat) (h : cst m i (a + k) = cst m i (b + k)) : cst m i a = cst m i b := by
  rw [cst_add, cst_add] at h
  exact cst_inj hm (cst_lt hm _ _) (cst_lt hm _ _) h
theorem cos_mem {i x : Nat} : x ∈ cosP m i ↔ ∃ j, cst m i j = x := by
  have hlo := hm.lo
  unfold cosP
  rw [List.mem_filter, List.mem_range, decide_eq_true_eq]
  constructor
  · rintro ⟨_, j, _, e⟩; exact ⟨j, e⟩
  · rintro ⟨j, e⟩
    refine ⟨by rw [← e]; exact cst_lt hm i j, j % m, Nat.mod_lt _ (by omega), ?_⟩
    rw [← e]
    have := cst_mul hm i (j % m) (j / m)
    rw [Nat.mul_comm, Nat.mod_add_div] at this
    exact this.symm
omit hm in
theorem cos_up (m i : Nat) : (cosP m i).Pairwise (· < ·) := List.Pairwise.filter _ List.pairwise_lt_range
omit hm in
/-- The first k of the orbit. -/
def orb (m i k : Nat) : List Nat := (List.range k).map (cst m i)
omit hm in
theorem orb_succ (m i k : Nat) : orb m i (k + 1) = orb m i k ++ [cst m i k] := by unfold orb; rw [List.range_succ, List.map_append]; rfl
omit hm in
theorem orb_mem {i k x : Nat} : x ∈ orb m i k ↔ ∃ j, j < k ∧ cst m i j = x := by
  unfold orb
  rw [List.mem_map]
  exact ⟨fun ⟨j, hj, e⟩ => ⟨j, List.mem_range.1 hj, e⟩, fun ⟨j, hj, e⟩ => ⟨j, List.mem_range.2 hj, e⟩⟩
omit hm in
theorem orb_nodup {i k : Nat} (h : (orb m i k).Nodup) (h2 : cst m i k ∉ orb m i k) : (orb m i (k + 1)).Nodup := by
  rw [orb_succ]
  exact List.nodup_append.2 ⟨h, List.pairwise_singleton _ _, fun x hx y hy e => by rw [List.mem_singleton.1 hy] at e; exact h2 (e ▸ hx)⟩
/-- It comes to its end within m steps. -/
theorem orb_end (i : Nat) : cst m i m ∈ orb m i m := by
  refine orb_mem.2 ⟨0, by have := hm.lo; omega, ?_⟩
  have := cst_m hm i 0
  rw [Nat.zero_add] at this
  exact this.symm
omit hm in
theorem orb_closed {i k : Nat} (h : cst m i k ∈ orb m i k) : ∀ j, cst m i j ∈ orb m i k
  | 0 => by
    obtain ⟨j0, hj0, _⟩ := orb_mem.1 h
    exact orb_mem.2 ⟨0, by omega, rfl⟩
  | j + 1 => by
    obtain ⟨t, ht, e⟩ := orb_mem.1 (orb_closed h j)
    have e2 : cst m i (j + 1) = cst m i (t + 1) := by rw [cst_succ, cst_succ, e]
    rw [e2]
    by_cases h1 : t + 1 < k
    · exact orb_mem.2 ⟨t + 1, h1, rfl⟩
    · rw [show t + 1 = k by omega]; exact h
theorem orb_all {i k : Nat} (h : cst m i k ∈ orb m i k) (x : Nat) : x ∈ orb m i k ↔ x ∈ cosP m i := by
  rw [cos_mem hm]
  refine ⟨fun hx => let ⟨j, _, e⟩ := orb_mem.1 hx; ⟨j, e⟩, fun ⟨j, e⟩ => ?_⟩
  rw [← e]
  exact orb_closed h j
omit hm in
/-- Two rising lists with the same members are one. -/
theorem up_ext : ∀ {a b : List Nat}, a.Pairwise (· < ·) → b.Pairwise (· < ·) → (∀ x, x ∈ a ↔ x ∈ b) → a = b
  | [], [], _, _, _ => rfl
  | [], y :: b, _, _, h => absurd ((h y).2 (List.mem_cons_self ..)) (List.not_mem_nil)
  | x :: a, [], _, _, h => absurd ((h x).1 (List.mem_cons_self ..)) (List.not_mem_nil)
  | x :: a, y :: b, ha, hb, h => by
    rw [List.pairwise_cons] at ha hb
    have hxy : x = y := by
      rcases List.mem_cons.1 ((h x).1 (List.mem_cons_self ..)) with e | hx
      · exact e
      · rcases List.mem_cons.1 ((h y).2 (List.mem_cons_self ..)) with e | hy
        · exact e.symm
        · have h1 := ha.1 y hy
          have h2 := hb.1 x hx
          omega
    subst hxy
    rw [up_ext ha.2 hb.2 (fun z => by
      constructor
      · intro hz
        have h1 := ha.1 z hz
        rcases List.mem_cons.1 ((h z).1 (List.mem_cons_of_mem _ hz)) with e | h2
        · omega
        · exact h2
      · intro hz
        have h1 := hb.1 z hz
        rcases List.mem_cons.1 ((h z).2 (List.mem_cons_of_mem _ hz)) with e | h2
        · omega
        · exact h2)]
/-- What is sorted of the orbit is the coset. -/
theorem cos_sorted {i k : Nat} (h : cst m i k ∈ orb m i k) (hn : (orb m i k).Nodup) {l : List Nat} (hp : l.Perm (orb m i k)) (hl : l.Pairwise (· ≤ ·)) : l = cosP m i := by
  have hnl : l.Nodup := (List.Perm.nodup_iff hp).2 hn
  refine up_ext ?_ (cos_up m i) (fun x => by rw [hp.mem_iff, orb_all hm h])
  exact List.Pairwise.imp₂ (fun x y h1 h2 => by omega) hl hnl
theorem orb_first {i k : Nat} (h : cst m i k ∈ orb m i k) (hn : (orb m i k).Nodup) : cst m i k = cst m i 0 := by
  obtain ⟨j, hj, e⟩ := orb_mem.1 h
  by_cases h0 : j = 0
  · subst h0; exact e.symm
  · have e2 := cst_cancel hm i 0 (k - j) j (by rw [Nat.zero_add, Nat.sub_add_cancel (by omega), e])
    exfalso
    unfold orb at hn
    have := List.pairwise_iff_getElem.1 hn 0 (k - j) (by simp; omega) (by simp; omega) (by omega)
    simp at this
    exact this e2
theorem orb_dvd {i k : Nat} (h : cst m i k ∈ orb m i k) (hn : (orb m i k).Nodup) : m % k = 0 := by
  have h1 := orb_first hm h hn
  have hk : 0 < k := by obtain ⟨j, hj, _⟩ := orb_mem.1 h; omega
  have hmul : ∀ q, cst m i (q * k) = cst m i 0 := fun q => by
    induction q with
    | zero => simp
    | succ q ih => rw [Nat.succ_mul, cst_add, ih, ← cst_add, Nat.zero_add, h1]
  have hr := Nat.mod_lt m hk
  have e : cst m i (m % k) = cst m i 0 := by
    have e1 : cst m i (m / k * k + m % k) = cst m i m := by rw [Nat.mul_comm, Nat.div_add_mod]
    rw [cst_add, hmul, ← cst_add, Nat.zero_add] at e1
    have e2 := cst_m hm i 0
    rw [Nat.zero_add] at e2
    rw [e1, e2]
  refine Classical.byContradiction fun h0 => ?_
  unfold orb at hn
  have := List.pairwise_iff_getElem.1 hn 0 (m % k) (by simp; omega) (by simp; omega) (by omega)
  simp at this
  exact this e.symm
omit hm in
theorem orb_len (m i k : Nat) : (orb m i k).length = k := by simp [orb]
theorem cos_len {i k : Nat} (h : cst m i k ∈ orb m i k) (hn : (orb m i k).Nodup) : (cosP m i).length = k := by
  have hp : (cosP m i).Perm (orb m i k) := (List.perm_ext_iff_of_nodup ((cos_up m i).imp (fun h => by omega)) hn).2 (fun x => (orb_all hm h x).symm)
  rw [hp.length_eq, orb_len]
/-- There is an end. -/
theorem orb_ex (i : Nat) : ∃ k, 0 < k ∧ k ≤ m ∧ cst m i k ∈ orb m i k ∧ (orb m i k).Nodup := by
  have key : ∀ d k, k + d = m → (orb m i k).Nodup → ∃ k, k ≤ m ∧ cst m i k ∈ orb m i k ∧ (orb m i k).Nodup := by
    intro d
    induction d with
    | zero => intro k hk hn; obtain rfl : k = m := by omega
              exact ⟨k, Nat.le_refl _, orb_end hm i, hn⟩
    | succ d ih =>
      intro k hk hn
      by_cases h : cst m i k ∈ orb m i k
      · exact ⟨k, by omega, h, hn⟩
      · exact ih (k + 1) (by omega) (orb_nodup hn h)
  obtain ⟨k, h1, h2, h3⟩ := key m 0 (by omega) (by simp [orb])
  refine ⟨k, ?_, h1, h2, h3⟩
  obtain ⟨j, hj, _⟩ := orb_mem.1 h2
  omega
theorem cos_dvd (i : Nat) : m % (cosP m i).length = 0 := by
  obtain ⟨k, _, _, h2, h3⟩ := orb_ex hm i
  rw [cos_len hm h2 h3]
  exact orb_dvd hm h2 h3
theorem cos_len_pos (i : Nat) : 0 < (cosP m i).length ∧ (cosP m i).length ≤ m := by
  obtain ⟨k, h0, h1, h2, h3⟩ := orb_ex hm i
  rw [cos_len hm h2 h3]
  exact ⟨h0, h1⟩
theorem cos_same {i j : Nat} (h : j ∈ cosP m i) : cosP m j = cosP m i := by
  obtain ⟨t, e⟩ := (cos_mem hm).1 h
  refine up_ext (cos_up m j) (cos_up m i) (fun x => ?_)
  rw [cos_mem hm, cos_mem hm]
  constructor
  · rintro ⟨s, e2⟩; exact ⟨t + s, by rw [cst_add, e, e2]⟩
  · rintro ⟨s, e2⟩
    refine ⟨t * m - t + s, ?_⟩
    rw [← e, ← cst_add, show t + (t * m - t + s) = s + t * m by have : t * 1 ≤ t * m := Nat.mul_le_mul_left t (by have := hm.lo; omega); omega, cst_mul hm, e2]
end Go.Fm
end
section
/- Values of polynomials as sums; the powers of 2 with whole numbers. Plain mathematics. Condition: Ok m. -/
namespace Go.Fm
open Go Go.Proofs.YtompcfingkoldaaDoor
variable {m : Nat} (hm : Ok m)
include hm
/-! ### Values as sums -/
theorem evL_xs {x : Nat} (hx : x < 2 ^ m) : ∀ {a : List Nat} (_ : ∀ y ∈ a, y < 2 ^ m), evL m a x = xs (fun k => gm m (cf a k) (fpw m x k)) a.length
  | [], _ => rfl
  | a0 :: r, h => by
    have hr : ∀ y ∈ r, y < 2 ^ m := fun y hy => h y (List.mem_cons_of_mem _ hy)
    have h0 : a0 < 2 ^ m := h a0 (List.mem_cons_self ..)
    show gm m (evL m r x) x ^^^ a0 = xs _ (r.length + 1)
    rw [evL_xs hx hr, gm_xs_left hm x _ (fun i _ => gm_lt hm (cf_lt hr (Nat.two_pow_pos m) i) _), xs_first, Nat.xor_comm]
    congr 1
    · show a0 = gm m (cf (a0 :: r) 0) 1
      rw [cf_cons_zero, gm_one_right hm h0]
    · refine xs_congr (fun i _ => ?_)
      show gm m (gm m (cf r i) (fpw m x i)) x = gm m (cf (a0 :: r) (i + 1)) (gm m (fpw m x i) x)
      rw [cf_cons_succ, gm_assoc hm (cf_lt hr (Nat.two_pow_pos m) i) (fpw_lt hm _ _) hx]
/-- The power of 2 with a whole number. -/
def exz (m : Nat) (n : Int) : Nat := ex m (em m n)
theorem exz_lt (n : Int) : exz m n < 2 ^ m := (ex_lt hm _).2
theorem exz_ne (n : Int) : exz m n ≠ 0 := by have := (ex_lt hm (em m n)).1; unfold exz; omega
omit hm in
theorem em_cast (n : Int) (h : 0 < N m) : ((em m n : Nat) : Int) = n % ((N m : Nat) : Int) := by
  have := Int.emod_nonneg n (b := ((N m : Nat) : Int)) (by omega)
  unfold em; omega
theorem exz_of {n : Int} {k : Nat} (h : n % ((N m : Nat) : Int) = ((k : Nat) : Int) % ((N m : Nat) : Int)) : exz m n = ex m k := by
  unfold exz
  rw [em_congr h, em_nat, ex_mod hm]
theorem exz_add (a b : Int) : gm m (exz m a) (exz m b) = exz m (a + b) := by
  have hp := (N_pos hm).1
  unfold exz
  rw [gm_ex hm]
  refine (exz_of hm (k := em m a + em m b) ?_).symm
  rw [Int.natCast_add, em_cast a (by omega), em_cast b (by omega)]
  exact Int.add_emod _ _ _
theorem exz_zero : exz m 0 = 1 := exz_of hm (k := 0) rfl
omit hm in
theorem exz_congr {a b : Int} (h : a % ((N m : Nat) : Int) = b % ((N m : Nat) : Int)) : exz m a = exz m b := by unfold exz; rw [em_congr h]
theorem exz_mulN (a : Int) (k : Nat) : ex m (em m a * k) = exz m (a * (k : Nat)) := by
  have hp := (N_pos hm).1
  refine (exz_of hm ?_).symm
  rw [Int.natCast_mul, em_cast a (by omega)]
  rw [Int.mul_emod a (k : Int), Int.mul_emod (a % ((N m : Nat) : Int)) (k : Int), Int.emod_emod_of_dvd a (Int.dvd_refl _)]
theorem exz_fpw (a : Int) (k : Nat) : fpw m (exz m a) k = exz m (a * (k : Nat)) := by unfold exz; rw [fpw_ex hm]; exact exz_mulN hm a k
theorem exz_inj {a b : Int} (h : exz m a = exz m b) : a % ((N m : Nat) : Int) = b % ((N m : Nat) : Int) := by
  have hp := (N_pos hm).1
  have := ex_inj hm (em_lt hm a) (em_lt hm b) h
  rw [← em_cast a (by omega), ← em_cast b (by omega), this]
end Go.Fm
end
section
/- The polynomials whose roots are a coset's powers: their coefficients are 0 and 1. Plain mathematics. Condition: Ok m. -/
namespace Go.Fm
open Go Go.Proofs.YtompcfingkoldaaDoor
/-- The product of x + r. -/
def prodL (m : Nat) : List Nat → List Nat
  | [] => [1]
  | r :: t => mulP m (prodL m t) [r, 1]
def sqP (m : Nat) (a : List Nat) : List Nat := a.map (fun x => gm m x x)
def minP (m i : Nat) : List Nat := prodL m ((cosP m i).map (fun k : Nat => exz m (k : Int)))
variable {m : Nat} (hm : Ok m)
include hm
theorem prodL_tr : ∀ {L : List Nat}, (∀ r ∈ L, r < 2 ^ m) → Tr m (prodL m L)
  | [], _ => ⟨fun x hx => by rw [List.mem_singleton.1 hx]; exact one_lt hm, rfl⟩
  | r :: t, h => mulP_tr hm (prodL_tr (fun x hx => h x (List.mem_cons_of_mem _ hx))) (lin_tr hm (h r (List.mem_cons_self ..)))
theorem prodL_perm {L L' : List Nat} (hp : L.Perm L') (h : ∀ r ∈ L, r < 2 ^ m) : prodL m L = prodL m L' := by
  induction hp with
  | nil => rfl
  | cons x _ ih => show mulP m _ _ = mulP m _ _; rw [ih (fun r hr => h r (List.mem_cons_of_mem _ hr))]
  | swap x y l =>
    have hx := lin_tr hm (h x (by simp))
    have hy := lin_tr hm (h y (by simp))
    have hl := prodL_tr hm (L := l) (fun r hr => h r (by simp [hr]))
    show mulP m (mulP m (prodL m l) [x, 1]) [y, 1] = mulP m (mulP m (prodL m l) [y, 1]) [x, 1]
    rw [mulP_assoc hm hl hx hy, mulP_comm hm hx hy, ← mulP_assoc hm hl hy hx]
  | trans h1 _ ih1 ih2 => rw [ih1 h, ih2 (fun r hr => h r (h1.mem_iff.2 hr))]
omit hm in
theorem lin_cf (r i : Nat) : cf [r, 1] i = (if i = 0 then r else 0) ^^^ (if i = 1 then 1 else 0) := by
  match i with
  | 0 => simp [cf]
  | 1 => simp [cf]
  | i + 2 => simp [cf]
theorem frS_mul {p : List Nat} (hp : Tr m p) {a : Nat} (ha : a < 2 ^ m) (j : Nat) : cf (mulP m p [a, 1]) j = cf (frS m p a) j := by
  rw [cf_frS, cf_mulP, cv_comm hm hp.c (lin_tr hm ha).c, show cf [a, 1] = (fun i => (if i = 0 then a else 0) ^^^ (if i = 1 then 1 else 0)) from funext (lin_cf a)]
  rw [cv_add_left hm (fun i => by split; exact ha; exact Nat.two_pow_pos m) (fun i => by split; exact one_lt hm; exact Nat.two_pow_pos m), cv_one, cv_one, if_pos (Nat.zero_le _), Nat.sub_zero, gm_comm hm ha (hp.c j), Nat.xor_comm]
  congr 1
  match j with
  | 0 => rw [if_neg (by omega), cf_cons_zero]
  | j + 1 => rw [if_pos (by omega), cf_cons_succ, Nat.add_sub_cancel, gm_one_left hm (hp.c j)]
theorem frP_next (l : List Int) (i : Nat) : mulP m (frP m l i) [lo m (l.getD i 0), 1] = frP m l (i + 1) :=
  (mulP_tr hm (frP_tr hm l i) (lin_tr hm (lo_lt m _))).ext (frP_tr hm l (i + 1)) (fun j => frS_mul hm (frP_tr hm l i) (lo_lt m _) j)
theorem frP_prod (l : List Int) : ∀ i, i ≤ l.length → frP m l i = prodL m (lowL m (l.take i)).reverse
  | 0, _ => rfl
  | i + 1, h => by
    rw [← frP_next hm, frP_prod l i (by omega), lowL_take m l (by omega), List.reverse_append]
    rfl
theorem frP_all (l : List Int) : frP m l l.length = prodL m (lowL m l) := by
  rw [frP_prod hm l _ (Nat.le_refl _), List.take_length]
  exact prodL_perm hm (List.reverse_perm _) (fun r hr => lowL_lt m l r (List.mem_reverse.1 hr))
theorem prodL_len : ∀ {L : List Nat}, (∀ r ∈ L, r < 2 ^ m) → (prodL m L).length = L.length + 1
  | [], _ => rfl
  | r :: t, h => by
    have ht : ∀ x ∈ t, x < 2 ^ m := fun x hx => h x (List.mem_cons_of_mem _ hx)
    have := prodL_len ht
    show (mulP m (prodL m t) [r, 1]).length = _
    rw [mulP_len hm (prodL_tr hm ht) (lin_tr hm (h r (List.mem_cons_self ..))) (by omega) (by simp), this]
    simp
theorem prodL_root {x : Nat} (hx : x < 2 ^ m) : ∀ {L : List Nat}, (∀ r ∈ L, r < 2 ^ m) → (evL m (prodL m L) x = 0 ↔ x ∈ L)
  | [], _ => by
    have : evL m [1] x = 1 := by unfold evL evL; rw [gm_zero_left, Nat.zero_xor]
    show evL m [1] x = 0 ↔ _
    rw [this]
    simp
  | r :: t, h => by
    have hr := h r (List.mem_cons_self ..)
    have ht : ∀ x ∈ t, x < 2 ^ m := fun x hx => h x (List.mem_cons_of_mem _ hx)
    have hp := prodL_tr hm ht
    have ih := prodL_root hx ht
    show evL m (mulP m (prodL m t) [r, 1]) x = 0 ↔ _
    rw [evL_mul hm hp.lt (lin_tr hm hr).lt x hx, evL_lin hm hr hx, List.mem_cons]
    constructor
    · intro h0
      by_cases h1 : evL m (prodL m t) x = 0
      · exact .inr (ih.1 h1)
      · by_cases h2 : x ^^^ r = 0
        · exact .inl (xor_eq_zero' hm h2)
        · exact absurd h0 (gm_ne_zero hm (evL_lt hm x hp.lt) (xor_lt hx hr) h1 h2)
    · rintro (rfl | h1)
      · rw [Nat.xor_self, gm_zero_right]
      · rw [ih.2 h1, gm_zero_left]
/-! ### Squares of coefficients -/
omit hm in
theorem cf_sqP (a : List Nat) (j : Nat) : cf (sqP m a) j = gm m (cf a j) (cf a j) := by
  unfold sqP
  by_cases h : j < a.length
  · simp [cf, h]
  · rw [cf_out (by rw [List.length_map]; omega), cf_out (l := a) (by omega), gm_zero_left]
theorem sq_ne {x : Nat} (hx : x < 2 ^ m) (h0 : x ≠ 0) : gm m x x ≠ 0 := gm_ne_zero hm hx hx h0 h0
theorem sqP_tr {a : List Nat} (h : Tr m a) : Tr m (sqP m a) := by
  refine ⟨fun x hx => ?_, ?_⟩
  · obtain ⟨y, hy, rfl⟩ := List.mem_map.1 hx
    exact gm_lt hm (h.lt y hy) _
  · have hl : (sqP m a).length = a.length := List.length_map _
    refine trim_of ?_
    refine Nat.le_antisymm (tl_le _) (Nat.le_of_not_lt fun hlt => ?_)
    have h1 := cf_hi (sqP m a) (a.length - 1) (by omega)
    rw [cf_sqP] at h1
    exact sq_ne hm (h.c _) (h.top (by omega)) h1
theorem sq_xs {f : Nat → Nat} (hf : ∀ i, f i < 2 ^ m) : ∀ n, gm m (xs f n) (xs f n) = xs (fun i => gm m (f i) (f i)) n
  | 0 => gm_zero_left m 0
  | n + 1 => by
    show gm m (xs f n ^^^ f n) (xs f n ^^^ f n) = _ ^^^ _
    rw [sq_xor hm (xs_lt (fun i _ => hf i)) (hf n), sq_xs hf n]
theorem sq_gm {a b : Nat} (ha : a < 2 ^ m) (hb : b < 2 ^ m) : gm m (gm m a b) (gm m a b) = gm m (gm m a a) (gm m b b) := by
  rw [gm_assoc hm ha hb (gm_lt hm ha b), gm_assoc hm ha ha (gm_lt hm hb b)]
  congr 1
  rw [← gm_assoc hm hb ha hb, gm_comm hm hb ha, gm_assoc hm ha hb hb]
theorem sqP_mul {a b : List Nat} (ha : Tr m a) (hb : Tr m b) : sqP m (mulP m a b) = mulP m (sqP m a) (sqP m b) := by
  refine (sqP_tr hm (mulP_tr hm ha hb)).ext (mulP_tr hm (sqP_tr hm ha) (sqP_tr hm hb)) (fun j => ?_)
  rw [cf_sqP, cf_mulP, cf_mulP]
  unfold cv
  rw [sq_xs hm (fun i => gm_lt hm (ha.c i) _)]
  exact xs_congr (fun i _ => by rw [sq_gm hm (ha.c i) (hb.c _), cf_sqP, cf_sqP])
theorem sqP_prod : ∀ {L : List Nat}, (∀ r ∈ L, r < 2 ^ m) → sqP m (prodL m L) = prodL m (L.map (fun r => gm m r r))
  | [], _ => by show [gm m 1 1] = [1]; rw [gm_one_left hm (one_lt hm)]
  | r :: t, h => by
    have hr := h r (List.mem_cons_self ..)
    have ht : ∀ x ∈ t, x < 2 ^ m := fun x hx => h x (List.mem_cons_of_mem _ hx)
    show sqP m (mulP m (prodL m t) [r, 1]) = mulP m (prodL m (t.map _)) [gm m r r, 1]
    rw [sqP_mul hm (prodL_tr hm ht) (lin_tr hm hr), sqP_prod ht]
    congr 1
    show [gm m r r, gm m 1 1] = _
    rw [gm_one_left hm (one_lt hm)]
theorem two_of_sq {c : Nat} (hc : c < 2 ^ m) (h : gm m c c = c) : c < 2 := by
  by_cases h0 : c = 0
  · omega
  · have := gm_cancel' hm hc (one_lt hm) hc h0 (by rw [h, gm_one_left hm hc])
    omega
where
  gm_cancel' {m : Nat} (hm : Ok m) {a b c : Nat} (ha : a < 2 ^ m) (hb : b < 2 ^ m) (hc : c < 2 ^ m) (h0 : c ≠ 0) (h : gm m a c = gm m b c) : a = b := by
    refine xor_eq_zero' hm ?_
    by_cases hx : a ^^^ b = 0
    · exact hx
    · exact absurd (by rw [gm_xor_left hm ha hb, h, Nat.xor_self]) (gm_ne_zero hm (xor_lt ha hb) hc hx h0)
/-! ### A coset's -/
theorem cos_twice (i : Nat) : ((cosP m i).map (fun k => (2 * k) % N m)).Perm (cosP m i) := by
  have hnd : (cosP m i).Nodup := (cos_up m i).imp (fun h => by omega)
  have hlt : ∀ k ∈ cosP m i, k < N m := fun k hk => by obtain ⟨j, e⟩ := (cos_mem hm).1 hk; rw [← e]; exact cst_lt hm i j
  have hc1 : ∀ k, (2 * k) % N m = cst m k 1 := fun k => by unfold cst; rw [Nat.pow_one, Nat.mul_comm]
  refine (List.perm_ext_iff_of_nodup ?_ hnd).2 (fun x => ?_)
  · refine List.Pairwise.map _ (R := fun a b => a < N m ∧ b < N m ∧ a ≠ b) (fun a b ⟨h1, h2, h3⟩ he => h3 (cst_inj hm h1 h2 (k := 1) (by rw [← hc1, ← hc1]; exact he))) ?_
    exact List.Pairwise.imp_of_mem (fun {a b} h1 h2 h3 => ⟨hlt a h1, hlt b h2, h3⟩) hnd
  · rw [List.mem_map, cos_mem hm]
    constructor
    · rintro ⟨k, hk, rfl⟩
      obtain ⟨j, e⟩ := (cos_mem hm).1 hk
      exact ⟨j + 1, by rw [cst_succ, e]⟩
    · rintro ⟨j, e⟩
      refine ⟨cst m i (j + m - 1), (cos_mem hm).2 ⟨_, rfl⟩, ?_⟩
      have hlo := hm.lo
      rw [← cst_succ, show j + m - 1 + 1 = j + m by omega, cst_m hm, e]
omit hm in
theorem exz_nat (k : Nat) : exz m (k : Int) = ex m (k % N m) := by unfold exz; rw [em_nat]
theorem cosR_lt (i : Nat) : ∀ r ∈ (cosP m i).map (fun k : Nat => exz m (k : Int)), r < 2 ^ m := fun r hr => by
  obtain ⟨k, _, rfl⟩ := List.mem_map.1 hr
  exact exz_lt hm _
theorem minP_tr (i : Nat) : Tr m (minP m i) := prodL_tr hm (cosR_lt hm i)
theorem minP_len (i : Nat) : (minP m i).length = (cosP m i).length + 1 := by unfold minP; rw [prodL_len hm (cosR_lt hm i), List.length_map]
theorem minP_sq (i : Nat) : sqP m (minP m i) = minP m i := by
  unfold minP
  rw [sqP_prod hm (cosR_lt hm i), List.map_map]
  have e : (cosP m i).map ((fun r => gm m r r) ∘ fun k : Nat => exz m (k : Int)) = ((cosP m i).map (fun k => (2 * k) % N m)).map (fun k : Nat => exz m (k : Int)) := by
    rw [List.map_map]
    refine List.map_congr_left (fun k _ => ?_)
    show gm m (exz m k) (exz m k) = exz m (((2 * k) % N m : Nat) : Int)
    rw [exz_add hm, exz_nat, Nat.mod_mod, show ((k : Int) + (k : Int)) = ((2 * k : Nat) : Int) by omega, exz_nat]
  rw [e]
  refine prodL_perm hm ((cos_twice hm i).map _) (fun r hr => ?_)
  obtain ⟨k, _, rfl⟩ := List.mem_map.1 hr
  exact exz_lt hm _
theorem minP_b1 (i : Nat) : B1 (minP m i) := by
  have h := minP_tr hm i
  have hle : ∀ j, cf (minP m i) j < 2 := fun j => two_of_sq hm (h.c j) (by rw [← cf_sqP, minP_sq hm])
  refine ⟨⟨fun x hx => ?_, h.eq⟩, hle⟩
  obtain ⟨j, hj, e⟩ := List.getElem_of_mem hx
  have := hle j
  rw [show cf (minP m i) j = x by rw [← e]; simp [cf, hj]] at this
  omega
theorem minP_root (i x : Nat) (hx : x < N m) : evL m (minP m i) (exz m x) = 0 ↔ x ∈ cosP m i := by
  unfold minP
  rw [prodL_root hm (exz_lt hm _) (cosR_lt hm i), List.mem_map]
  constructor
  · rintro ⟨k, hk, e⟩
    have hkl : k < N m := by obtain ⟨j, e2⟩ := (cos_mem hm).1 hk; rw [← e2]; exact cst_lt hm i j
    have := exz_inj hm e
    rw [Int.emod_eq_of_lt (by omega) (by omega), Int.emod_eq_of_lt (by omega) (by omega)] at this
    rw [show x = k by omega]; exact hk
  · intro h; exact ⟨x, h, rfl⟩
theorem minP_top (i : Nat) : cf (minP m i) (cosP m i).length = 1 := by
  have h := (minP_b1 hm i).top (by rw [minP_len hm]; omega)
  rwa [minP_len hm, Nat.add_sub_cancel] at h
theorem minP_same {i j : Nat} (h : j ∈ cosP m i) : minP m j = minP m i := by unfold minP; rw [cos_same hm h]
end Go.Fm
end
section
/- Polynomials over two elements, seen over a field: values, divisors, generators. Plain mathematics. Condition: Ok m. -/
namespace Go.Fm
open Go Go.Proofs.YtompcfingkoldaaDoor
variable {m : Nat} (hm : Ok m)
include hm
omit hm in
theorem two_pow (h : Ok m) : 2 ≤ 2 ^ m := by have := one_lt h; omega
theorem b1_tr {a : List Nat} (h : B1 a) : Tr m a := ⟨fun x hx => by
  obtain ⟨j, hj, e⟩ := List.getElem_of_mem hx
  have := h.le j
  have h2 := two_pow hm
  rw [show cf a j = x by rw [← e]; simp [cf, hj]] at this
  omega, h.tr.eq⟩
theorem gm_bit {a b : Nat} (ha : a < 2) (hb : b < 2) : gm m a b = gm 3 a b := by
  have h1 := one_lt hm
  rcases (show a = 0 ∨ a = 1 by omega) with rfl | rfl
  · rw [gm_zero_left, gm_zero_left]
  · rw [gm_one_left hm (by omega), gm_one_left ok3 (by omega)]
theorem mulP_lift {a b : List Nat} (ha : B1 a) (hb : B1 b) : mulP 3 a b = mulP m a b :=
  (b1_tr hm (mulP_b1 ha hb)).ext (mulP_tr hm (b1_tr hm ha) (b1_tr hm hb)) (fun j => by
    rw [cf_mulP, cf_mulP]
    exact xs_congr (fun i _ => (gm_bit hm (ha.le i) (hb.le _)).symm))
/-- A polynomial over two elements has the square where it has the value. -/
theorem b1_frob {q : List Nat} (h : B1 q) {x : Nat} (hx : x < 2 ^ m) : evL m q (gm m x x) = gm m (evL m q x) (evL m q x) := by
  have ht := b1_tr hm h
  rw [evL_xs hm (gm_lt hm hx x) ht.lt, evL_xs hm hx ht.lt, sq_xs hm (fun i => gm_lt hm (ht.c i) _)]
  refine xs_congr (fun k _ => ?_)
  rw [sq_gm hm (ht.c k) (fpw_lt hm _ _), gm_bit hm (h.le k) (h.le k), gm_two (h.le k) (h.le k), fpw_sq hm hx, show 2 * k = k + k by omega, fpw_add hm hx]
  congr 1
  rcases (show cf q k = 0 ∨ cf q k = 1 by have := h.le k; omega) with h0 | h0 <;> rw [h0]
theorem b1_root {q : List Nat} (h : B1 q) {k : Nat} (hz : evL m q (exz m (k : Nat)) = 0) (j : Nat) : evL m q (exz m (cst m k j : Nat)) = 0 := by
  induction j with
  | zero =>
    rw [exz_nat, show cst m k 0 % N m = k % N m by unfold cst; simp, ← exz_nat]; exact hz
  | succ j ih =>
    have e : exz m (cst m k (j + 1) : Nat) = gm m (exz m (cst m k j : Nat)) (exz m (cst m k j : Nat)) := by
      rw [exz_add hm, cst_succ, exz_nat, Nat.mod_mod, show ((cst m k j : Nat) : Int) + ((cst m k j : Nat) : Int) = ((2 * cst m k j : Nat) : Int) by omega, exz_nat]
    rw [e, b1_frob hm h (exz_lt hm _), ih, gm_zero_left]
/-- So many unlike places are roots. -/
theorem b1_many {q : List Nat} (ht : Tr m q) (h0 : q.length ≠ 0) {L : List Nat} (hL : L.Nodup) (hN : ∀ k ∈ L, k < N m) (hz : ∀ k ∈ L, evL m q (exz m (k : Nat)) = 0) : L.length ≤ q.length - 1 := by
  have h := roots_le hm (L.map (fun k : Nat => exz m (k : Nat))) ht h0 ?_ ?_
  · rwa [List.length_map] at h
  · refine List.Pairwise.map _ (R := fun i j => i < N m ∧ j < N m ∧ i ≠ j) (fun i j ⟨h1, h2, h3⟩ he => ?_) (List.Pairwise.imp_of_mem (fun {i j} h1 h2 h3 => ⟨hN i h1, hN j h2, h3⟩) hL)
    have := exz_inj hm he
    rw [Int.emod_eq_of_lt (by omega) (by omega), Int.emod_eq_of_lt (by omega) (by omega)] at this
    omega
  · intro x hx
    obtain ⟨k, hk, rfl⟩ := List.mem_map.1 hx
    exact ⟨exz_lt hm _, hz k hk⟩
theorem cos_nodup (i : Nat) : (cosP m i).Nodup := by have := hm; exact (cos_up m i).imp (fun h => by omega)
theorem cos_lt {i k : Nat} (hk : k ∈ cosP m i) : k < N m := by obtain ⟨j, e⟩ := (cos_mem hm).1 hk; rw [← e]; exact cst_lt hm i j
theorem cos_self (i : Nat) (hi : i < N m) : i ∈ cosP m i := (cos_mem hm).2 ⟨0, by unfold cst; rw [Nat.pow_zero, Nat.mul_one, Nat.mod_eq_of_lt hi]⟩
/-- One root of a polynomial over two elements: the whole coset are its roots. -/
theorem b1_coset {q : List Nat} (h : B1 q) {i k : Nat} (hk : k ∈ cosP m i) (hz : evL m q (exz m (k : Nat)) = 0) : ∀ x ∈ cosP m i, evL m q (exz m (x : Nat)) = 0 := fun x hx => by
  rw [← cos_same hm hk] at hx
  obtain ⟨j, e⟩ := (cos_mem hm).1 hx
  rw [← e]
  exact b1_root hm h hz j
/-- A divisor of a coset's polynomial is the whole, or has no degree. -/
theorem min_irr {i : Nat} {q h : List Nat} (hq : B1 q) (hh : B1 h) (he : mulP 3 q h = minP m i) : q.length = 1 ∨ q.length = (minP m i).length := by
  have hP := minP_len hm i
  have hpos := cos_len_pos hm i
  have hq0 : q.length ≠ 0 := fun h0 => by
    rw [List.eq_nil_of_length_eq_zero h0, mulP_nil_l] at he
    rw [← he] at hP; simp at hP
  have hh0 : h.length ≠ 0 := fun h0 => by
    rw [List.eq_nil_of_length_eq_zero h0, mulP_nil_r] at he
    rw [← he] at hP; simp at hP
  have hlen := mulP_len ok3 hq.tr hh.tr hq0 hh0
  rw [he, hP] at hlen
  have htq := b1_tr hm hq
  have hth := b1_tr hm hh
  by_cases hr : ∃ k ∈ cosP m i, evL m q (exz m (k : Nat)) = 0
  · obtain ⟨k, hk, hz⟩ := hr
    have := b1_many hm htq hq0 (cos_nodup hm i) (fun k hk => cos_lt hm hk) (b1_coset hm hq hk hz)
    right; omega
  · have hall : ∀ k ∈ cosP m i, evL m h (exz m (k : Nat)) = 0 := fun k hk => by
      have h1 := (minP_root hm i k (cos_lt hm hk)).2 hk
      rw [← he, mulP_lift hm hq hh, evL_mul hm htq.lt hth.lt _ (exz_lt hm _)] at h1
      refine Classical.byContradiction fun h2 => ?_
      exact gm_ne_zero hm (evL_lt hm _ htq.lt) (evL_lt hm _ hth.lt) (fun h3 => hr ⟨k, hk, h3⟩) h2 h1
    have := b1_many hm hth hh0 (cos_nodup hm i) (fun k hk => cos_lt hm hk) hall
    left; omega
/-- What is 0 at a coset's powers is divided by its polynomial. -/
theorem min_dvd {i : Nat} {a : List Nat} (ha : B1 a) (hz : ∀ k ∈ cosP m i, evL m a (exz m (k : Nat)) = 0) : restP 3 a (minP m i) = [] := by
  have hb := minP_b1 hm i
  have hP := minP_len hm i
  have hb0 : (minP m i).length ≠ 0 := by omega
  have hr := restP_b1 ha hb hb0
  have hq := quotP_b1 ha hb hb0
  have hlen := restP_len ok3 (a := a) (b := minP m i) ha.tr.lt hb.tr.lt hb0 (hb.tr.top hb0)
  have hd := div_eq ok3 ha.tr hb.tr hb0
  have hrz : ∀ k ∈ cosP m i, evL m (restP 3 a (minP m i)) (exz m (k : Nat)) = 0 := fun k hk => by
    have h1 := hz k hk
    rw [← hd, evL_add hm (b1_tr hm (mulP_b1 hq hb)).lt (b1_tr hm hr).lt, mulP_lift hm hq hb, evL_mul hm (b1_tr hm hq).lt (b1_tr hm hb).lt _ (exz_lt hm _), (minP_root hm i k (cos_lt hm hk)).2 hk, gm_zero_right, Nat.zero_xor] at h1
    exact h1
  by_cases h0 : (restP 3 a (minP m i)).length = 0
  · exact List.eq_nil_of_length_eq_zero h0
  · have := b1_many hm (b1_tr hm hr) h0 (cos_nodup hm i) (fun k hk => cos_lt hm hk) hrz
    omega
end Go.Fm
end
section
/- Leaders of cosets, and generators. Plain mathematics. Condition: Ok m. -/
namespace Go.Fm
open Go Go.Proofs.YtompcfingkoldaaDoor
/-- The least of a coset. -/
def hdP (m i : Nat) : Nat := (cosP m i).headD 0
/-- The least of the unlike cosets of the first k odd numbers, and how many numbers they have. -/
def ldr (m : Nat) : Nat → List Nat × Nat
  | 0 => ([], 0)
  | k + 1 => if hdP m (2 * k + 1) ∈ (ldr m k).1 then ldr m k else ((ldr m k).1 ++ [hdP m (2 * k + 1)], (ldr m k).2 + (cosP m (2 * k + 1)).length)
def genL (m : Nat) (L : List Nat) : List Nat := L.foldl (fun p k => mulP 3 p (minP m k)) [1]
variable {m : Nat} (hm : Ok m)
theorem cst_mod (m i j : Nat) : cst m (i % N m) j = cst m i j := by unfold cst; rw [Nat.mul_mod, Nat.mod_mod, ← Nat.mul_mod]
theorem cos_mod (m i : Nat) : cosP m (i % N m) = cosP m i := by unfold cosP; simp only [cst_mod]
include hm
theorem hd_mem (i : Nat) : hdP m i ∈ cosP m i := by
  have := (cos_len_pos hm i).1
  unfold hdP
  match h : cosP m i with
  | [] => rw [h] at this; simp at this
  | a :: t => exact List.mem_cons_self ..
theorem hd_same {i j : Nat} (h : j ∈ cosP m i) : hdP m j = hdP m i := by unfold hdP; rw [cos_same hm h]
theorem ldr_mem {k x : Nat} (hx : x ∈ (ldr m k).1) : ∃ j, j < k ∧ x = hdP m (2 * j + 1) := by
  have := hm
  induction k with
  | zero => cases hx
  | succ k ih =>
    unfold ldr at hx
    split at hx
    · obtain ⟨j, hj, e⟩ := ih hx; exact ⟨j, by omega, e⟩
    · rcases List.mem_append.1 hx with h | h
      · obtain ⟨j, hj, e⟩ := ih h; exact ⟨j, by omega, e⟩
      · exact ⟨k, by omega, List.mem_singleton.1 h⟩
omit hm in
theorem ldr_has {k j : Nat} (h : j < k) : hdP m (2 * j + 1) ∈ (ldr m k).1 := by
  induction k with
  | zero => omega
  | succ k ih =>
    unfold ldr
    by_cases hjk : j = k
    · subst hjk
      split
      · rename_i h2; exact h2
      · exact List.mem_append.2 (.inr (List.mem_singleton.2 rfl))
    · split
      · exact ih (by omega)
      · exact List.mem_append.2 (.inl (ih (by omega)))
omit hm in
theorem ldr_nodup (k : Nat) : (ldr m k).1.Nodup := by
  induction k with
  | zero => exact List.nodup_nil
  | succ k ih =>
    unfold ldr
    split
    · exact ih
    · rename_i h
      exact List.nodup_append.2 ⟨ih, List.pairwise_singleton _ _, fun x hx y hy e => by rw [List.mem_singleton.1 hy] at e; exact h (e ▸ hx)⟩
omit hm in
theorem ldr_len (k : Nat) : (ldr m k).1.length ≤ k := by
  induction k with
  | zero => exact Nat.le_refl _
  | succ k ih =>
    unfold ldr
    split
    · omega
    · rw [List.length_append, List.length_singleton]; omega
theorem hd_cos (i : Nat) : cosP m (hdP m i) = cosP m i := cos_same hm (hd_mem hm i)
theorem ldr_deg (k : Nat) : (ldr m k).2 = ((ldr m k).1.map (fun x => (cosP m x).length)).sum := by
  induction k with
  | zero => rfl
  | succ k ih =>
    unfold ldr
    split
    · exact ih
    · show _ + _ = _
      rw [List.map_append, List.sum_append, ih]
      simp [hd_cos hm]
theorem ldr_le (k : Nat) : (ldr m k).2 ≤ m * k := by
  induction k with
  | zero => exact Nat.zero_le _
  | succ k ih =>
    unfold ldr
    split
    · rw [Nat.mul_succ]; omega
    · have := (cos_len_pos hm (2 * k + 1)).2
      show _ + _ ≤ _
      rw [Nat.mul_succ]; omega
theorem gen_snoc (L : List Nat) (k : Nat) : genL m (L ++ [k]) = mulP 3 (genL m L) (minP m k) := by have := hm; unfold genL; rw [List.foldl_append]; rfl
omit hm in
theorem snoc_ind {P : List Nat → Prop} (h0 : P []) (h1 : ∀ L k, P L → P (L ++ [k])) (L : List Nat) : P L := by
  have : ∀ n (L : List Nat), L.length = n → P L := by
    intro n
    induction n with
    | zero => intro L hL; rw [List.eq_nil_of_length_eq_zero hL]; exact h0
    | succ n ih =>
      intro L hL
      have hne : L ≠ [] := fun h => by rw [h] at hL; simp at hL
      rw [← List.dropLast_concat_getLast hne]
      exact h1 _ _ (ih _ (by simp; omega))
  exact this _ L rfl
theorem gen_b1 (L : List Nat) : B1 (genL m L) := snoc_ind (P := fun L => B1 (genL m L)) one_b1 (fun L k ih => by rw [gen_snoc hm]; exact mulP_b1 ih (minP_b1 hm k)) L
theorem gen_len (L : List Nat) : (genL m L).length = (L.map (fun x => (cosP m x).length)).sum + 1 := by
  refine snoc_ind (P := fun L => (genL m L).length = (L.map (fun x => (cosP m x).length)).sum + 1) rfl (fun L k ih => ?_) L
  have hk := minP_len hm k
  rw [gen_snoc hm, mulP_len ok3 (gen_b1 hm L).tr (minP_b1 hm k).tr (by omega) (by omega), ih, hk, List.map_append, List.sum_append]
  simp
  omega
theorem gen_deg (L : List Nat) : (L.map (fun x => (cosP m x).length)).sum ≤ m * L.length := by
  induction L with
  | nil => exact Nat.zero_le _
  | cons k L ih =>
    have := (cos_len_pos hm k).2
    rw [List.map_cons, List.sum_cons, List.length_cons, Nat.mul_succ]
    omega
theorem gen_root (L : List Nat) {x : Nat} (hx : x < N m) : evL m (genL m L) (exz m (x : Nat)) = 0 ↔ ∃ k ∈ L, x ∈ cosP m k := by
  refine snoc_ind (P := fun L => evL m (genL m L) (exz m (x : Nat)) = 0 ↔ ∃ k ∈ L, x ∈ cosP m k) ?_ (fun L k ih => ?_) L
  · have : evL m [1] (exz m (x : Nat)) = 1 := by unfold evL evL; rw [gm_zero_left, Nat.zero_xor]
    show evL m [1] _ = 0 ↔ _
    rw [this]
    simp
  · have hL := b1_tr hm (gen_b1 hm L)
    have hk := b1_tr hm (minP_b1 hm k)
    have he := exz_lt hm (m := m) (x : Nat)
    rw [gen_snoc hm, mulP_lift hm (gen_b1 hm L) (minP_b1 hm k), evL_mul hm hL.lt hk.lt _ he]
    have hr := minP_root hm k x hx
    constructor
    · intro h
      by_cases h1 : evL m (genL m L) (exz m (x : Nat)) = 0
      · obtain ⟨j, hj, e⟩ := ih.1 h1; exact ⟨j, List.mem_append.2 (.inl hj), e⟩
      · by_cases h2 : evL m (minP m k) (exz m (x : Nat)) = 0
        · exact ⟨k, List.mem_append.2 (.inr (List.mem_singleton.2 rfl)), hr.1 h2⟩
        · exact absurd h (gm_ne_zero hm (evL_lt hm _ hL.lt) (evL_lt hm _ hk.lt) h1 h2)
    · rintro ⟨j, hj, e⟩
      rcases List.mem_append.1 hj with h | h
      · rw [ih.2 ⟨j, h, e⟩, gm_zero_left]
      · rw [List.mem_singleton.1 h] at e; rw [hr.2 e, gm_zero_right]
/-- A generator is 0 at the first powers. -/
theorem gen_zero {t x : Nat} (h1 : 1 ≤ x) (h2 : x ≤ 2 * t) (hx : x < N m) : evL m (genL m (ldr m t).1) (exz m (x : Nat)) = 0 := by
  rw [gen_root hm _ hx]
  have hodd : ∀ n, 1 ≤ n → ∃ a o, n = 2 ^ a * (2 * o + 1) := by
    intro n
    induction n using Nat.strongRecOn with
    | _ n ih =>
      intro hn
      rcases Nat.mod_two_eq_zero_or_one n with h | h
      · obtain ⟨a, o, e⟩ := ih (n / 2) (by omega) (by omega)
        exact ⟨a + 1, o, by rw [Nat.pow_succ, Nat.mul_comm (2 ^ a), Nat.mul_assoc, ← e]; omega⟩
      · exact ⟨0, n / 2, by rw [Nat.pow_zero]; omega⟩
  obtain ⟨a, o, e⟩ := hodd x h1
  have hp : 1 ≤ 2 ^ a := Nat.one_le_two_pow
  have ho : 2 * o + 1 ≤ x := by rw [e]; exact Nat.le_mul_of_pos_left _ hp
  refine ⟨hdP m (2 * o + 1), ldr_has (by omega), ?_⟩
  rw [hd_cos hm, cos_mem hm]
  refine ⟨a, ?_⟩
  unfold cst
  rw [Nat.mul_comm, ← e, Nat.mod_eq_of_lt hx]
/-- What is in a list of leaders divides. -/
theorem gen_dvd {L : List Nat} {k : Nat} (hk : k ∈ L) : restP 3 (genL m L) (minP m k) = [] :=
  min_dvd hm (gen_b1 hm L) (fun _ hx => (gen_root hm L (cos_lt hm hx)).2 ⟨k, hk, hx⟩)
end Go.Fm
end
section
/- Irreducible polynomials over 0/1, as they are tried; a polynomial's zeros among the powers; the generator's. No program beyond the tried form's names. -/
namespace Go.Proofs.YtompcfingkoldaaDoor
open Go Go.Sx Go.Fm
set_option maxRecDepth 100000
namespace Nb
/-- 1 of what is in the list. -/
def mm (l : List Nat) (x : Nat) : Nat := if x ∈ l then 1 else 0
theorem mem_exU {a : List Nat} {x : Nat} : ∀ {d : Nat}, d ≤ a.length → (x ∈ exU a a.length d ↔ a.length ≤ x + d ∧ x < a.length ∧ cf a x ≠ 0)
  | 0, _ => by
    unfold exU
    simp
    omega
  | d + 1, hd => by
    have ih := mem_exU (a := a) (x := x) (d := d) (by omega)
    unfold exU
    split
    · rename_i h0
      rw [ih]
      constructor
      · rintro ⟨h1, h2, h3⟩; exact ⟨by omega, h2, h3⟩
      · rintro ⟨h1, h2, h3⟩
        refine ⟨?_, h2, h3⟩
        by_cases he : x = a.length - 1 - d
        · subst he; exact absurd h0 h3
        · omega
    · rename_i h0
      rw [List.mem_append, ih, List.mem_singleton]
      constructor
      · rintro (⟨h1, h2, h3⟩ | rfl)
        · exact ⟨by omega, h2, h3⟩
        · exact ⟨by omega, by omega, h0⟩
      · rintro ⟨h1, h2, h3⟩
        by_cases he : x = a.length - 1 - d
        · exact .inr he
        · exact .inl ⟨by omega, h2, h3⟩
theorem mm_exL {a : List Nat} (ha : B1 a) (x : Nat) : mm (exL a) x = cf a x := by
  unfold mm exL
  have h := mem_exU (a := a) (x := x) (Nat.le_refl _)
  have h2 := ha.le x
  by_cases hx : x < a.length
  · by_cases h0 : cf a x = 0
    · rw [if_neg (fun hm => (h.1 hm).2.2 h0), h0]
    · rw [if_pos (h.2 ⟨by omega, hx, h0⟩)]; omega
  · rw [if_neg (fun hm => hx (h.1 hm).2.1), cf_out (by omega)]
theorem pl_le (n : Nat) (f : Nat → Nat) : (pl n f).length ≤ n := by
  unfold pl
  rw [trim_length]
  simpa using tl_le ((List.range n).map f)
/-- The polynomial of a number. -/
def nb (x : Nat) : List Nat := pl (blen x) (fun j => (x >>> j) % 2)
theorem cf_nb (x j : Nat) : cf (nb x) j = (x >>> j) % 2 := by
  unfold nb
  rw [cf_pl]
  split
  · rfl
  · rw [Nat.shiftRight_eq_div_pow, Nat.div_eq_of_lt (Nat.lt_of_lt_of_le (blen_lt x) (Nat.pow_le_pow_right (by omega) (by omega)))]
theorem nb_b1 (x : Nat) : B1 (nb x) := ⟨pl_tr (fun j => Nat.lt_trans (Nat.mod_lt _ (by omega)) (show 2 < 2 ^ 3 by decide)), fun j => by rw [cf_nb]; exact Nat.mod_lt _ (by omega)⟩
theorem nb_len (x : Nat) : (nb x).length = blen x := by
  have h1 : (nb x).length ≤ blen x := pl_le _ _
  refine Nat.le_antisymm h1 (Nat.le_of_not_lt fun hlt => ?_)
  have h0 : x ≠ 0 := fun h => by subst h; exact absurd hlt (by show ¬ _ < 0; omega)
  have h2 := cf_nb x (blen x - 1)
  rw [cf_out (by omega), shr_two, blen_top h0] at h2
  cases h2
theorem nb_xor (x y : Nat) : nb (x ^^^ y) = addP (nb x) (nb y) := (nb_b1 _).tr.ext (addP_b1 (nb_b1 x) (nb_b1 y)).tr (fun j => by rw [cf_nb, cf_addP, cf_nb, cf_nb]; exact shr_xor _ _ _)
theorem nb_shl (x k : Nat) : nb (x * 2 ^ k) = upP k (nb x) := (nb_b1 _).tr.ext (upP_b1 (nb_b1 x) k).tr (fun j => by
  rw [cf_nb, cf_upP, shr_two, Nat.mul_comm, Nat.testBit_two_pow_mul]
  split
  · rename_i h
    rw [cf_nb, shr_two, decide_eq_true h, Bool.true_and]
  · rename_i h
    rw [decide_eq_false h]
    rfl)
theorem fold_test (l : List Nat) (j : Nat) : ∀ z : Nat, (l.foldl (fun z e => z ||| 2 ^ e) z).testBit j = (z.testBit j || decide (j ∈ l)) := by
  induction l with
  | nil => intro z; simp
  | cons e l ih =>
    intro z
    rw [List.foldl_cons, ih, Nat.testBit_or, Nat.testBit_two_pow, Bool.or_assoc]
    congr 1
    by_cases h1 : e = j
    · subst h1; simp
    · by_cases h2 : j ∈ l
      · simp [h2]
      · simp [h2, h1, Ne.symm h1]
theorem nb_vP {a : List Nat} (ha : B1 a) : nb (vP (exL a)) = a := (nb_b1 _).tr.ext ha.tr (fun j => by
  rw [cf_nb, shr_two]
  unfold vP
  rw [fold_test, ← mm_exL ha]
  unfold mm
  by_cases h : j ∈ exL a
  · simp [h]
  · simp [h])
theorem dvd_rmF {q : Nat} (hq : q ≠ 0) : ∀ {k r : Nat}, blen r < k → rmF q k r = 0 → Dvd 3 (nb q) (nb r)
  | 0, _, h, _ => by omega
  | k + 1, r, h, hz => by
    unfold rmF at hz
    split at hz
    · rename_i hle
      have h1 := dvd_rmF hq (by have := step_blen hq hle; omega) hz
      rw [nb_xor, nb_shl] at h1
      have h2 : Dvd 3 (nb q) (upP (blen r - blen q) (nb q)) := by
        rw [← mul_xP (nb_b1 q), mulP_comm ok3 (nb_b1 q).tr (xP_b1 _).tr]
        exact ⟨_, (xP_b1 _).tr, rfl⟩
      have h3 := dvd_add ok3 (nb_b1 q).tr h1 h2
      have e : addP (addP (nb r) (upP (blen r - blen q) (nb q))) (upP (blen r - blen q) (nb q)) = nb r :=
        (addP_b1 (addP_b1 (nb_b1 r) (upP_b1 (nb_b1 q) _)) (upP_b1 (nb_b1 q) _)).tr.ext (nb_b1 r).tr (fun j => by
          rw [cf_addP, cf_addP, Nat.xor_assoc, Nat.xor_self, Nat.xor_zero])
      rw [e] at h3
      exact h3
    · rw [hz]
      have e : nb 0 = [] := rfl
      rw [e]
      exact dvd_nil ok3
/-- What has no divisor but itself and what has no degree is irreducible. -/
theorem irr_of {p : List Nat} (hp : B1 p) (h2 : 2 ≤ p.length) (h33 : p.length ≤ 33) (hd : ∀ f c : List Nat, B1 f → B1 c → mulP 3 f c = p → f.length = 1 ∨ f.length = p.length) : irrP p = true := by
  refine irrP_true ⟨h2, h33⟩ (fun q hq => ?_)
  by_cases hq2 : q < 2
  · exact .inl hq2
  · refine .inr fun hz => ?_
    have hd1 := dvd_rmF (by omega) (Nat.lt_succ_self _) hz
    rw [nb_vP hp] at hd1
    have hqb := nb_b1 q
    have hql := nb_len q
    have hb2 : 2 ≤ blen q := Nat.le_of_not_lt fun h => by
      have h3 := blen_lt q
      have := Nat.pow_le_pow_right (n := 2) (by omega) (show blen q ≤ 1 by omega)
      omega
    have hbu : blen q ≤ (p.length - 1) / 2 + 1 := blen_le hq
    have hn0 : (nb q).length ≠ 0 := by omega
    have hr := rest_of_dvd ok3 hp.tr hqb.tr hn0 hd1
    have he := div_eq ok3 hp.tr hqb.tr hn0
    have hQ := quotP_b1 hp hqb hn0
    rw [hr] at he
    have e0 : addP (mulP 3 (quotP 3 p (nb q)) (nb q)) [] = mulP 3 (nb q) (quotP 3 p (nb q)) := by
      rw [mulP_comm ok3 hQ.tr hqb.tr]
      exact (addP_b1 (mulP_b1 hqb hQ) ⟨nil_tr 3, fun j => by simp [cf]⟩).tr.ext (mulP_b1 hqb hQ).tr (fun j => by rw [cf_addP]; simp [cf])
    rw [e0] at he
    rcases hd _ _ hqb hQ he with h | h <;> omega
theorem min_irrP {m : Nat} (hm : Ok m) (i : Nat) : irrP (minP m i) = true := by
  have h1 := minP_len hm i
  have h2 := cos_len_pos hm i
  have h3 := hm.hi
  exact irr_of (minP_b1 hm i) (by omega) (by omega) (fun f c hf hc he => min_irr hm hf hc he)
/-! ### Zeros -/
theorem xs_exU {m : Nat} (hm : Ok m) {a : List Nat} (ha : B1 a) (i : Nat) : ∀ {d : Nat}, d ≤ a.length → (exU a a.length d).foldl (fun s n => s ^^^ exz m ((n * i : Nat) : Int)) 0 = xs (fun k => if a.length ≤ k + d then gm m (cf a k) (fpw m (exz m (i : Nat)) k) else 0) a.length
  | 0, _ => by
    show 0 = _
    rw [xs_zero (fun k hk => if_neg (by omega))]
  | d + 1, hd => by
    have ih := xs_exU hm ha i (d := d) (by omega)
    have hfl : ∀ k, fpw m (exz m (i : Nat)) k = exz m ((k * i : Nat) : Int) := fun k => by
      rw [exz_fpw hm]; congr 1; push_cast; rw [Int.mul_comm]
    have hsplit : xs (fun k => if a.length ≤ k + (d + 1) then gm m (cf a k) (fpw m (exz m (i : Nat)) k) else 0) a.length = xs (fun k => if a.length ≤ k + d then gm m (cf a k) (fpw m (exz m (i : Nat)) k) else 0) a.length ^^^ gm m (cf a (a.length - 1 - d)) (fpw m (exz m (i : Nat)) (a.length - 1 - d)) := by
      have e1 : gm m (cf a (a.length - 1 - d)) (fpw m (exz m (i : Nat)) (a.length - 1 - d)) = xs (fun k => if k = a.length - 1 - d then gm m (cf a k) (fpw m (exz m (i : Nat)) k) else 0) a.length := by
        rw [xs_one (k := a.length - 1 - d) (by omega) (fun k _ hk => if_neg hk), if_pos rfl]
      rw [e1, ← xs_xor]
      refine xs_congr (fun k hk => ?_)
      by_cases h1 : k = a.length - 1 - d
      · subst h1
        rw [if_pos (by omega), if_neg (by omega), if_pos rfl, Nat.zero_xor]
      · rw [if_neg h1, Nat.xor_zero]
        by_cases h2 : a.length ≤ k + d
        · rw [if_pos h2, if_pos (by omega)]
        · rw [if_neg h2, if_neg (by omega)]
    unfold exU
    split
    · rename_i h0
      rw [ih, hsplit, h0, gm_zero_left, Nat.xor_zero]
    · rename_i h0
      have h1 : cf a (a.length - 1 - d) = 1 := by have := ha.le (a.length - 1 - d); omega
      rw [List.foldl_append, List.foldl_cons, List.foldl_nil, ih, hsplit, h1, hfl, gm_one_left hm (exz_lt hm _)]
/-- What is added up over a polynomial's exponents is its value. -/
theorem xs_exL {m : Nat} (hm : Ok m) {a : List Nat} (ha : B1 a) (i : Nat) : (exL a).foldl (fun s n => s ^^^ exz m ((n * i : Nat) : Int)) 0 = evL m a (exz m (i : Nat)) := by
  have h := xs_exU hm ha i (Nat.le_refl a.length)
  unfold exL
  rw [h, evL_xs hm (exz_lt hm _) (b1_tr hm ha).lt]
  exact xs_congr (fun k _ => if_pos (by omega))
def xorE (m i : Nat) (l : List Nat) : Nat := l.foldl (fun s n => s ^^^ exz m ((n * i : Nat) : Int)) 0
theorem xorE_next {m i j : Nat} {l : List Nat} (h : j < l.length) : xorE m i (l.take (j + 1)) = xorE m i (l.take j) ^^^ exz m ((cf l j * i : Nat) : Int) := by
  unfold xorE
  rw [take_cf h, List.foldl_append]
  rfl
theorem xorE_lt {m : Nat} (hm : Ok m) (i : Nat) (l : List Nat) : xorE m i l < 2 ^ m := by
  unfold xorE
  refine snoc_ind (P := fun l => l.foldl (fun s n => s ^^^ exz m ((n * i : Nat) : Int)) 0 < 2 ^ m) (Nat.two_pow_pos m) (fun L k ih => ?_) l
  rw [List.foldl_append]
  exact Nat.xor_lt_two_pow ih (exz_lt hm _)
/-- The zeros among the first K powers. -/
def zrs (m : Nat) (a : List Nat) : Nat → List Nat
  | 0 => []
  | K + 1 => if evL m a (exz m ((K + 1 : Nat) : Int)) = 0 then zrs m a K ++ [K + 1] else zrs m a K
theorem zrs_len (m : Nat) (a : List Nat) : ∀ K, (zrs m a K).length ≤ K
  | 0 => Nat.le_refl _
  | K + 1 => by
    have := zrs_len m a K
    unfold zrs
    split
    · simp; omega
    · omega
theorem zrs_lt (m : Nat) (a : List Nat) : ∀ K, ∀ x ∈ zrs m a K, x ≤ K
  | 0 => fun _ h => by cases h
  | K + 1 => fun x h => by
    unfold zrs at h
    split at h
    · rcases List.mem_append.1 h with h | h
      · have := zrs_lt m a K x h; omega
      · rw [List.mem_singleton.1 h]; exact Nat.le_refl _
    · have := zrs_lt m a K x h; omega
theorem zrs_all {m : Nat} {a : List Nat} {T : Nat} : ∀ {K : Nat}, (∀ x, 1 ≤ x → x ≤ T → evL m a (exz m (x : Nat)) = 0) → T ≤ K → T ≤ (zrs m a K).length ∧ ∀ i, i < T → (zrs m a K)[i]? = some (i + 1)
  | 0, _, hT => by
    obtain rfl : T = 0 := by omega
    exact ⟨Nat.zero_le _, fun i hi => by omega⟩
  | K + 1, h, hT => by
    by_cases hTK : T ≤ K
    · have ih := zrs_all (K := K) h hTK
      unfold zrs
      split
      · exact ⟨by simp; omega, fun i hi => by rw [List.getElem?_append_left (by omega)]; exact ih.2 i hi⟩
      · exact ih
    · obtain rfl : T = K + 1 := by omega
      have ih := zrs_all (K := K) (T := K) (fun x h1 h2 => h x h1 (by omega)) (Nat.le_refl _)
      have hl := zrs_len m a K
      unfold zrs
      rw [if_pos (h (K + 1) (by omega) (Nat.le_refl _))]
      refine ⟨by simp; omega, fun i hi => ?_⟩
      by_cases hi2 : i < K
      · rw [List.getElem?_append_left (by omega)]; exact ih.2 i hi2
      · obtain rfl : i = K := by omega
        rw [List.getElem?_append_right (by omega), show i - (zrs m a i).length = 0 by omega]
        rfl
/-! ### The generator -/
theorem gen_lenL {m : Nat} (hm : Ok m) (t : Nat) : (genL m (ldr m t).1).length = (ldr m t).2 + 1 := by rw [gen_len hm, ldr_deg hm]
theorem ldr_small {m : Nat} (hm : Ok m) {t : Nat} (h : (ldr m t).2 < N m) : 2 * t < N m := by
  refine Nat.lt_of_not_le fun hge => ?_
  have hN := N_succ m
  have hNp := N_pos hm
  obtain ⟨k, hk⟩ : ∃ k, 2 ^ m = 2 * k := ⟨2 ^ (m - 1), by
    have e : m = m - 1 + 1 := by have := hm.lo; omega
    calc 2 ^ m = 2 ^ (m - 1 + 1) := by rw [← e]
      _ = 2 * 2 ^ (m - 1) := by rw [Nat.pow_succ, Nat.mul_comm]⟩
  have hroot : ∀ x ∈ List.range (N m), evL m (genL m (ldr m t).1) (exz m (x : Nat)) = 0 := fun x hx => by
    have hx := List.mem_range.1 hx
    by_cases h0 : x = 0
    · subst h0
      have h1 := ldr_has (m := m) (k := t) (j := k - 1) (by omega)
      rw [show 2 * (k - 1) + 1 = N m by omega] at h1
      refine (gen_root hm _ hx).2 ⟨_, h1, ?_⟩
      rw [hd_cos hm, ← cos_mod m (N m), Nat.mod_self]
      exact cos_self hm 0 (by omega)
    · exact gen_zero hm (by omega) (by omega) hx
  have hg := gen_b1 hm (ldr m t).1
  have hl := gen_lenL hm t
  have := b1_many hm (b1_tr hm hg) (by omega) List.nodup_range (fun x hx => List.mem_range.1 hx) hroot
  rw [List.length_range] at this
  omega
theorem ev_zero {m : Nat} (hm : Ok m) {a : List Nat} (h : ∀ y ∈ a, y < 2 ^ m) : evL m a 0 = cf a 0 := by
  rw [evL_xs hm (Nat.two_pow_pos m) h]
  cases a with
  | nil => rfl
  | cons y a =>
    rw [xs_one (k := 0) (by simp) (fun k _ hk => ?_)]
    · show gm m y 1 = y
      exact gm_one_right hm (h y (by simp))
    · obtain ⟨j, rfl⟩ : ∃ j, k = j + 1 := ⟨k - 1, by omega⟩
      show gm m _ (gm m _ 0) = 0
      rw [gm_zero_right, gm_zero_right]
theorem min_low {m : Nat} (hm : Ok m) (i : Nat) : evL m (minP m i) 0 ≠ 0 := fun h => by
  have h1 := (prodL_root hm (Nat.two_pow_pos m) (cosR_lt hm i)).1 h
  obtain ⟨k, _, e⟩ := List.mem_map.1 h1
  exact exz_ne hm _ e
theorem gen_low {m : Nat} (hm : Ok m) (L : List Nat) : cf (genL m L) 0 = 1 := by
  have h : evL m (genL m L) 0 ≠ 0 := snoc_ind (P := fun L => evL m (genL m L) 0 ≠ 0) (by show evL m [1] 0 ≠ 0; rw [ev_zero hm (b1_tr hm one_b1).lt]; decide) (fun L k ih => by
    rw [gen_snoc hm, mulP_lift hm (gen_b1 hm L) (minP_b1 hm k), evL_mul hm (b1_tr hm (gen_b1 hm L)).lt (minP_tr hm k).lt _ (Nat.two_pow_pos m)]
    exact gm_ne_zero hm (evL_lt hm _ (b1_tr hm (gen_b1 hm L)).lt) (evL_lt hm _ (minP_tr hm k).lt) ih (min_low hm k)) L
  rw [ev_zero hm (b1_tr hm (gen_b1 hm L)).lt] at h
  have := (gen_b1 hm L).le 0
  omega
theorem gen_odd {m : Nat} (hm : Ok m) {t k : Nat} (h : k < t) : restP 3 (genL m (ldr m t).1) (minP m (2 * k + 1)) = [] := by
  have h1 := gen_dvd hm (ldr_has (m := m) h)
  rw [minP_same hm (hd_mem hm _)] at h1
  exact h1
end Nb
end Go.Proofs.YtompcfingkoldaaDoor
end
section
/- Range over a function, part 1: the symbolic walk with calls of yield, in a round's frame and out of it: operations and regions. No condition. -/
namespace Go.Sx
open Go

/-- The wide fence, with what makes the frame. -/
abbrev fw (ro : Option Nat) : Fence := { Fence.wide with round := ro }

/-- What an operation's outcome asks, yield's rounds among them. -/
def upI (P : Program) (o : Oper) (a : Act) (K : Act → World → Prop) : Result Next → Prop
  | .ok (.value v) w' => K (a.put o.dst v) w'
  | .ok .skip w' => K (a.put o.dst undef) w'
  | .ok (.enter f args) w' => Calls P f args w' fun e w'' => ∃ v, e = .returned v ∧ K (a.put o.dst v) w''
  | .ok (.row row args) w' => Rows P row args w' fun v w'' => K (a.put o.dst v) w''
  | .ok (.round l f tmps assign body) w' => RoundIn Fence.wide 0 P l f tmps assign body w' fun e w'' => ∃ v, e = .returned v ∧ K (a.put o.dst v) w''
  | _ => False
def OpI (P : Program) (o : Oper) (a : Act) (w : World) (K : Act → World → Prop) : Prop := upI P o a K ((execOp a.eval o).run P w)

theorem upI_mono {P : Program} {o : Oper} {a : Act} {K K' : Act → World → Prop} (hK : ∀ a w, K a w → K' a w) {r : Result Next} (h : upI P o a K r) : upI P o a K' r := by
  cases r with
  | ok x w' =>
    cases x <;> simp only [upI] at h ⊢
    case value => exact hK _ _ h
    case skip => exact hK _ _ h
    case enter => exact Calls.mono h (fun e w ⟨v, he, hk⟩ => ⟨v, he, hK _ _ hk⟩)
    case row => exact Rows.mono h (fun v w hk => hK _ _ hk)
    case round => exact RoundIn.mono h (fun e w ⟨v, he, hk⟩ => ⟨v, he, hK _ _ hk⟩)
  | halt x w' => simp only [upI] at h

/-- In whatever frame: an operation that is no defer statement. -/
theorem OpI.wpIn {P : Program} {ro : Option Nat} {o : Oper} {a : Act} {w : World} {K : Act → World → Prop} {Q : Exit → Act → World → Prop} (hnd : ∀ c, o.op ≠ .defer c) (h : OpI P o a w K) : o.wpIn (fw ro) 0 P a w K Q := by
  refine ⟨fun _ _ => trivial, ?_⟩
  show o.uponIn (fw ro) 0 P a K Q ((o.semAt ro a.eval).run P w)
  rw [Oper.semAt_eq ro _ _ hnd]
  unfold OpI at h
  generalize (execOp a.eval o).run P w = r at *
  have hd : ∀ {p : Prop}, ((fw ro).depth.isSome = true → p) := fun h => by simp [Fence.wide] at h
  cases r with
  | ok x w' =>
    cases x <;> simp only [upI] at h
    case value => exact h
    case skip => exact h
    case enter f args =>
      refine ⟨hd, ?_⟩
      have h2 : CallsIn Fence.wide 0 P f args w' _ := callsIn_wide.2 h
      exact CallsIn.mono (F := fw ro) h2 (fun e w ⟨v, he, hk⟩ => by subst he; exact hk)
    case row row args =>
      refine ⟨hd, fun c cs _ => ?_⟩
      obtain ⟨v, w'', hk, hs⟩ := h c cs
      exact ⟨v, w'', hk, stepsIn_wide.2 hs⟩
    case round l f tmps assign body =>
      refine ⟨hd, ?_⟩
      exact RoundIn.mono (F := fw ro) h (fun e w ⟨v, he, hk⟩ => by subst he; exact hk)
  | halt x w' => simp only [upI] at h

/-- Of an operation of the plain walk. -/
theorem OpI.of_wp {P : Program} {o : Oper} {a : Act} {w : World} {K K' : Act → World → Prop} (ds : List Deferred) (h : o.wp P { a with defers := [] } w K' NoExit)
    (hK : ∀ a' w', K' a' w' → a'.defers = [] ∧ K { a' with defers := ds } w') (hds : a.defers = ds) : OpI P o a w K := by
  have hp : ∀ v : Value, { ({ a with defers := [] } : Act).put o.dst v with defers := ds } = a.put o.dst v := fun v => by
    subst hds; cases o.dst <;> rfl
  unfold Oper.wp at h
  unfold OpI
  have he : ({ a with defers := [] } : Act).eval = a.eval := by funext x; cases x <;> rfl
  rw [he] at h
  generalize (execOp a.eval o).run P w = r at *
  cases r with
  | ok x w' =>
    cases x <;> simp only [Oper.upon] at h <;> simp only [upI]
    case value v => have := (hK _ _ h).2; rwa [hp] at this
    case skip => have := (hK _ _ h).2; rwa [hp] at this
    case defer d => have := (hK _ _ h).1; cases hd : o.dst <;> simp [Act.put, hd] at this
    case enter f args =>
      refine Calls.mono h (fun e w'' he => ?_)
      cases e with
      | returned v => have := (hK _ _ he).2; rw [hp] at this; exact ⟨v, rfl, this⟩
      | panicked c => exact he.elim
      | outgrown => obtain ⟨_, _, hf⟩ := he; exact hf.elim
    case row row args => exact Rows.mono h (fun v w'' he => by have := (hK _ _ he).2; rwa [hp] at this)
  | halt x w' => cases x <;> simp only [Oper.upon, NoExit] at h

section
variable (P : Program) (ops : Array Oper) (S : World → Prop) (K : Act → World → Prop)
/-- Number i is carried out, or passed over. -/
def opI (i : Nat) (K : Act → World → Prop) (a : Act) (w : World) : Prop := match ops[i]? with
  | none => False
  | some o => if Region.wanted o (yielded ops a.tmps) = true then OpI P o a w K else K (a.put o.dst undef) w
def PWI : Plan → Act → World → Prop
  | .done, a, w => K a w
  | .st true i p, a, w => match ops[i]? with
    | none => False
    | some o => if Region.wanted o (yielded ops a.tmps) = true then ∃ v, (∀ w', S w' → (execOp a.eval o).run P w' = .ok (.value v) w') ∧ PWI p (a.put o.dst v) w
      else PWI p (a.put o.dst undef) w
  | .st false i p, a, w => opI P ops i (fun a' w' => S w' ∧ PWI p a' w') a w
  | .alt i p q, a, w => opI P ops i (fun a' w' => S w' ∧ PWI p a' w') a w ∧ PWI q a w
/-- In whatever order. -/
def AnyI : Nat → Array Bool → Act → World → Prop
  | 0, listed, a, w => Region.ready .any ops listed = [] ∧ K a w
  | f + 1, listed, a, w => (Region.ready .any ops listed = [] → K a w) ∧ ∀ i ∈ Region.ready .any ops listed, opI P ops i (fun a' w' => S w' ∧ AnyI f (listed.setIfInBounds i true) a' w') a w
end

section
variable {P : Program} {ops : Array Oper} {S : World → Prop} {K K' : Act → World → Prop}
theorem opI_mono {i : Nat} (hK : ∀ a w, K a w → K' a w) {a : Act} {w : World} (h : opI P ops i K a w) : opI P ops i K' a w := by
  unfold opI at *
  cases ho : ops[i]? with
  | none => rw [ho] at h; exact h
  | some o =>
    rw [ho] at h
    dsimp only at h ⊢
    by_cases hw : Region.wanted o (yielded ops a.tmps) = true
    · rw [if_pos hw] at h ⊢; exact upI_mono hK h
    · rw [if_neg hw] at h ⊢; exact hK _ _ h

def noDefer (ops : Array Oper) : Bool := ops.all fun o => match o.op with | .defer _ => false | _ => true
theorem noDefer_at {i : Nat} {o : Oper} (h : noDefer ops = true) (ho : ops[i]? = some o) : ∀ c, o.op ≠ .defer c := by
  intro c hc
  have := Array.all_eq_true_iff_forall_mem.1 h o (Array.mem_of_getElem? ho)
  rw [hc] at this
  exact absurd this (by simp)

theorem opI_in {ro : Option Nat} (hnd : noDefer ops = true) {i : Nat} {a : Act} {w : World} {Q : Exit → Act → World → Prop} (h : opI P ops i K a w) : wpOpIn (fw ro) 0 P ops Q i K a w := by
  unfold opI at h
  unfold wpOpIn
  split at h
  · exact h.elim
  · rename_i o ho
    rw [ho]
    dsimp only
    split at h
    · rename_i hw; rw [if_pos hw]; exact OpI.wpIn (noDefer_at hnd ho) h
    · rename_i hw; rw [if_neg hw]; exact ⟨fun _ _ => trivial, h⟩

theorem AnyI.in_ {ro : Option Nat} (hnd : noDefer ops = true) : ∀ (f : Nat) (listed : Array Bool) (a : Act) (w : World), AnyI P ops S K f listed a w → wpAnyIn (fw ro) 0 P .any ops (NoExitN K) f listed a w
  | 0, _, _, _, h => h
  | f + 1, _, _, _, h => ⟨h.1, fun i hi => opI_in hnd (opI_mono (fun _ _ h' => AnyI.in_ hnd f _ _ _ h'.2) (h.2 i hi))⟩

/-- What one operation does, another's value put in or not, if they are apart. -/
theorem opI_put {j : Nat} {oi oj : Oper} {v : Value} (hj : ops[j]? = some oj) (hap : oi.apart ops oj = true) (hsj : ∀ cs b, oj.op ≠ .select cs b) {a : Act} {w : World}
    (h : opI P ops j K (a.put oi.dst v) w) : opI P ops j (fun a' w' => (∃ u, a' = a.put oj.dst u) ∧ K (a'.put oi.dst v) w') a w := by
  obtain ⟨h1, h2, _⟩ := Oper.apart_spec hap
  unfold opI at *
  rw [hj] at *
  dsimp only at *
  rw [wanted_put oj a oi.dst v h1] at h
  split at h
  · rename_i hw
    rw [if_pos hw]
    unfold OpI at *
    rw [execOp_put oj hsj a oi.dst v h1] at h
    generalize (execOp a.eval oj).run P w = r at *
    have hc : ∀ u, (a.put oi.dst v).put oj.dst u = (a.put oj.dst u).put oi.dst v := fun u => Act.put_comm a v u h2
    cases r with
    | ok x w' =>
      cases x <;> simp only [upI] at h ⊢
      case value u => exact ⟨⟨u, rfl⟩, by rw [← hc]; exact h⟩
      case skip => exact ⟨⟨_, rfl⟩, by rw [← hc]; exact h⟩
      case enter => exact Calls.mono h (fun e w ⟨u, he, hk⟩ => ⟨u, he, ⟨u, rfl⟩, by rw [← hc]; exact hk⟩)
      case row => exact Rows.mono h (fun u w hk => ⟨⟨u, rfl⟩, by rw [← hc]; exact hk⟩)
      case round => exact RoundIn.mono h (fun e w ⟨u, he, hk⟩ => ⟨u, he, ⟨u, rfl⟩, by rw [← hc]; exact hk⟩)
    | halt x w' => simp only [upI] at h
  · rename_i hw
    rw [if_neg hw]
    exact ⟨⟨_, rfl⟩, by rw [← Act.put_comm a v undef h2]; exact h⟩

theorem AnyI.take {i : Nat} {oi : Oper} {v : Value} (hi : ops[i]? = some oi) (hs : Region.noSelect ops = true) : ∀ (f : Nat) (listed : Array Bool) (a : Act) (w : World),
    (∀ j oj, ops[j]? = some oj → j ≠ i → listed.getD j true = false → (∀ e ∈ oj.after, Region.binds .any e = true → e.on ≠ i) → oi.apart ops oj = true) →
    i ∈ Region.ready .any ops listed →
    ((Region.wanted oi (yielded ops a.tmps) = true ∧ ∀ w', S w' → (execOp a.eval oi).run P w' = .ok (.value v) w') ∨ (Region.wanted oi (yielded ops a.tmps) = false ∧ v = undef)) → S w →
    AnyI P ops S K f (listed.setIfInBounds i true) (a.put oi.dst v) w → AnyI P ops S K (f + 1) listed a w := by
  have own : ∀ {K : Act → World → Prop} {a : Act} {w : World},
      ((Region.wanted oi (yielded ops a.tmps) = true ∧ ∀ w', S w' → (execOp a.eval oi).run P w' = .ok (.value v) w') ∨ (Region.wanted oi (yielded ops a.tmps) = false ∧ v = undef)) → S w → K (a.put oi.dst v) w → opI P ops i K a w := by
    intro K a w hy hS hk
    unfold opI
    rw [hi]
    dsimp only
    rcases hy with ⟨hw, hv⟩ | ⟨hw, rfl⟩
    · rw [if_pos hw]; unfold OpI; rw [hv w hS]; exact hk
    · rw [if_neg (by simp [hw])]; exact hk
  intro f
  induction f with
  | zero =>
    intro listed a w _ hr hy hS H
    refine ⟨fun h0 => absurd (h0 ▸ hr) (by simp), fun j hj => ?_⟩
    by_cases e : j = i
    · subst e; exact own hy hS ⟨hS, H⟩
    · exact absurd (H.1 ▸ ready_mono (i := i) hj e) (by simp)
  | succ f ih =>
    intro listed a w hfree hr hy hS H
    refine ⟨fun h0 => absurd (h0 ▸ hr) (by simp), fun j hj => ?_⟩
    by_cases e : j = i
    · subst e; exact own hy hS ⟨hS, H⟩
    · obtain ⟨hu, oj, hoj, hall⟩ := mem_ready.1 hj
      have hno : ∀ e ∈ oj.after, Region.binds .any e = true → e.on ≠ i := fun e he hb heq => by
        have k1 := hall e he hb
        have k0 := (mem_ready.1 hr).1
        rw [heq] at k1
        by_cases hlt : i < listed.size
        · simp [hlt] at k0 k1; simp [k0] at k1
        · simp [Array.getElem?_eq_none (Nat.le_of_not_lt hlt)] at k1
      have hap := hfree j oj hoj e hu hno
      obtain ⟨_, _, h3⟩ := Oper.apart_spec hap
      refine opI_mono (fun a' w' hk => ?_) (opI_put hoj hap (fun cs b => Region.noSelect_spec hs j oj cs b hoj) (H.2 j (ready_mono hj e)))
      obtain ⟨⟨u, rfl⟩, hS', hk⟩ := hk
      refine ⟨hS', ih _ _ w' (fun k ok hk' hki hun hno' => hfree k ok hk' hki ?_ hno') (ready_mono hr (Ne.symm e)) ?_ hS' (by rw [Array.setIfInBounds_comm _ _ e]; exact hk)⟩
      · by_cases hjk : j = k
        · subst hjk; exact hu
        · rwa [getD_set_ne true hjk] at hun
      · rw [wanted_put oi a oj.dst u h3, execOp_put oi (fun cs b => Region.noSelect_spec hs i oi cs b hi) a oj.dst u h3]
        exact hy

theorem planI_sound (hs : Region.noSelect ops = true) : ∀ (p : Plan) (f : Nat) (listed : Array Bool) (rs : Option (List Nat)) (a : Act) (w : World), planOk ops p f listed rs = true → S w → PWI P ops S K p a w →
      (rs = none → AnyI P ops S K f listed a w) ∧
      (∀ l, rs = some l → ∃ g, f = g + 1 ∧ ∀ i ∈ l, opI P ops i (fun a' w' => S w' ∧ AnyI P ops S K g (listed.setIfInBounds i true) a' w') a w) := by
  intro p
  induction p with
  | done =>
    intro f listed rs a w hok hS h
    simp only [planOk, Bool.and_eq_true, List.isEmpty_iff, Option.isNone_iff_eq_none] at hok
    obtain ⟨h1, h2⟩ := hok
    subst h1
    refine ⟨fun _ => ?_, fun l hl => by cases hl⟩
    cases f with
    | zero => exact ⟨h2, h⟩
    | succ f => exact ⟨fun _ => h, by rw [h2]; simp⟩
  | st fl i p ih =>
    intro f listed rs a w hok hS h
    cases f with
    | zero => cases fl <;> simp [planOk] at hok
    | succ f =>
      cases fl with
      | true =>
        simp only [planOk, Bool.and_eq_true, Option.isNone_iff_eq_none] at hok
        obtain ⟨⟨⟨h1, h2⟩, h3⟩, h4⟩ := hok
        subst h1
        refine ⟨fun _ => ?_, fun l hl => by cases hl⟩
        unfold PWI at h
        split at h
        · exact h.elim
        · rename_i o ho
          split at h
          · rename_i hw
            obtain ⟨v, hv, hn⟩ := h
            exact AnyI.take ho hs f listed a w (Region.free_spec ho h3) (by simpa using h2) (.inl ⟨hw, hv⟩) hS ((ih f _ none _ w h4 hS hn).1 rfl)
          · rename_i hw
            exact AnyI.take ho hs f listed a w (Region.free_spec ho h3) (by simpa using h2) (.inr ⟨by simpa using hw, rfl⟩) hS ((ih f _ none _ w h4 hS h).1 rfl)
      | false =>
        simp only [planOk, Bool.and_eq_true, beq_iff_eq] at hok
        obtain ⟨h1, h2⟩ := hok
        have hk : opI P ops i (fun a' w' => S w' ∧ AnyI P ops S K f (listed.setIfInBounds i true) a' w') a w :=
          opI_mono (K := fun a' w' => S w' ∧ PWI P ops S K p a' w') (fun a' w' ⟨hS', h'⟩ => ⟨hS', (ih f _ none a' w' h2 hS' h').1 rfl⟩) (by unfold PWI at h; exact h)
        constructor
        · rintro rfl
          simp only [Option.getD_none] at h1
          exact ⟨fun h0 => absurd (h0.symm.trans h1) (by simp), fun j hj => by rw [h1] at hj; simp at hj; subst hj; exact hk⟩
        · rintro l rfl
          simp only [Option.getD_some] at h1
          subst h1
          exact ⟨f, rfl, fun j hj => by simp at hj; subst hj; exact hk⟩
  | alt i p q ihp ihq =>
    intro f listed rs a w hok hS h
    cases f with
    | zero => simp [planOk] at hok
    | succ f =>
      simp only [planOk, Bool.and_eq_true] at hok
      obtain ⟨h1, h2⟩ := hok
      unfold PWI at h
      obtain ⟨ha, hb⟩ := h
      have hk : opI P ops i (fun a' w' => S w' ∧ AnyI P ops S K f (listed.setIfInBounds i true) a' w') a w :=
        opI_mono (fun a' w' ⟨hS', h'⟩ => ⟨hS', (ihp f _ none a' w' h1 hS' h').1 rfl⟩) ha
      obtain ⟨f', ef, hq⟩ := (ihq (f + 1) listed _ a w h2 hS hb).2 _ rfl
      obtain rfl : f = f' := by omega
      have hall : ∀ j ∈ rs.getD (Region.ready .any ops listed), opI P ops j (fun a' w' => S w' ∧ AnyI P ops S K f (listed.setIfInBounds j true) a' w') a w := by
        intro j hj
        by_cases e : j = i
        · subst e; exact hk
        · exact hq j (by simp [hj, e])
      constructor
      · rintro rfl
        refine ⟨fun h0 => ?_, hall⟩
        exfalso
        simp only [Option.getD_none] at hq h2
        rw [h0] at h2
        have : ∀ (q : Plan) , planOk ops q (f + 1) listed (some []) = false := by
          intro q
          induction q with
          | done => simp [planOk]
          | st fl i p _ => cases fl <;> simp [planOk]
          | alt i p q _ ih => simp only [planOk, Option.getD_some, List.filter_nil, ih, Bool.and_false]
        simp [this] at h2
      · rintro l rfl
        exact ⟨f, rfl, hall⟩

theorem wpI_planned {ro : Option Nat} {id : Nat} {a : Act} {w : World} (p : Plan) (hm : P.follows .mixedOrders = true)
    (hok : (noDefer ops && (Region.noSelect ops && planOk ops p ops.size (Array.replicate ops.size false) none)) = true) (hS : S w.drew) (h : PWI P ops S K p a w.drew) : (Code.region id ops true).wpIn (fw ro) 0 P (NoExitN K) a w := by
  rw [Bool.and_eq_true, Bool.and_eq_true] at hok
  exact wpIn_region_any hm (AnyI.in_ hok.1 _ _ _ _ ((planI_sound hok.2.1 p _ _ none a w.drew hok.2.2 hS h).1 rfl))

theorem wpI_straight {ro : Option Nat} {id : Nat} {a : Act} {w : World} (hnd : noDefer ops = true) (h : PWI P ops S K (seqPlan 0 ops.size) a w) : (Code.region id ops false).wpIn (fw ro) 0 P (NoExitN K) a w := by
  have key : ∀ (k i : Nat) (a : Act) (w : World), PWI P ops S K (seqPlan i k) a w → wpOpsIn (fw ro) 0 P ops (NoExitN K) (List.range' i k) a w := by
    intro k
    induction k with
    | zero => intro i a w h; simpa [seqPlan, PWI, wpOpsIn, NoExitN] using h
    | succ k ih =>
      intro i a w h
      simp only [seqPlan, PWI] at h
      simp only [List.range'_succ]
      rw [wpOpsIn_cons]
      exact opI_in hnd (opI_mono (fun a' w' h' => ih _ a' w' h'.2) h)
  refine wpIn_region ?_
  rw [List.range_eq_range']
  exact key ops.size 0 a w h
end
end Go.Sx
end
section
/- Range over a function, part 2: code in whatever frame; marks among the deferred calls. No condition. -/
namespace Go.Sx
open Go

/-- The slots, and what is deferred. -/
structure EnvD (n : Nat) (ds : List Deferred) (l : List (Nat × Value)) (a : Act) : Prop where
  env : Env n l { a with defers := [] }
  defers : a.defers = ds

theorem EnvD.of {n : Nat} {ds : List Deferred} {l : List (Nat × Value)} {a : Act} (h : Env n l a) : EnvD n ds l { a with defers := ds } := ⟨⟨h.size, rfl, h.at_⟩, rfl⟩
theorem EnvD.sub {n : Nat} {ds : List Deferred} {l l' : List (Nat × Value)} {a : Act} (h : EnvD n ds l a) (hs : Sub l' l) : EnvD n ds l' a := ⟨h.env.sub hs, h.defers⟩
theorem eval_dropD (a : Act) : ({ a with defers := [] } : Act).eval = a.eval := by funext x; cases x <;> rfl
theorem EnvD.ev {n : Nat} {ds : List Deferred} {l : List (Nat × Value)} {a : Act} (h : EnvD n ds l a) {x : Operand} {v : Value} (hx : ev l x = some v) : a.eval x = v := by
  rw [← eval_dropD]; exact h.env.ev hx

structure SXI (P : Program) (ops : Array Oper) (S : World → Prop) (K : Act → World → Prop) (p : Plan) (n : Nat) (ds : List Deferred) (l : List (Nat × Value)) (C : World → Prop) : Prop where
  run : ∀ a w, EnvD n ds l a → C w → S w → PWI P ops S K p a w

section
variable {P : Program} {ops : Array Oper} {S : World → Prop} {K : Act → World → Prop} {p q : Plan} {n : Nat} {ds : List Deferred} {l : List (Nat × Value)} {C C' : World → Prop}

theorem SXI.done (h : ∀ a w, EnvD n ds l a → C w → K a w) : SXI P ops S K .done n ds l C := ⟨fun a w he hc _ => h a w he hc⟩

/-- A step of the plain walk. -/
theorem SXI.of1 {fl : Bool} {i : Nat} {X : Type} {l2 : X → List (Nat × Value)} {C2 : X → World → Prop} {pf : X → Prop}
    (h : ∀ K' : Act → World → Prop, (∀ x, pf x → ∀ a w, Env n (l2 x) a → C2 x w → K' a w) → SX P ops S K' (.st fl i .done) n l C)
    (hn : ∀ x, pf x → SXI P ops S K p n ds (l2 x) (C2 x)) : SXI P ops S K (.st fl i p) n ds l C := by
  refine ⟨fun a w he hc hs => ?_⟩
  have h1 := (h (fun a w => ∃ x, pf x ∧ Env n (l2 x) a ∧ C2 x w) (fun x hp a w h1 h2 => ⟨x, hp, h1, h2⟩)).run _ w he.env hc hs
  have key : ∀ a' w', S w' → (∃ x, pf x ∧ Env n (l2 x) a' ∧ C2 x w') → PWI P ops S K p { a' with defers := ds } w' := fun a' w' hS ⟨x, hp, h1, h2⟩ => (hn x hp).run _ w' (EnvD.of h1) h2 hS
  have hput : ∀ (o : Oper) v, { ({ a with defers := [] } : Act).put o.dst v with defers := ds } = a.put o.dst v := fun o v => by
    have := he.defers; subst this; cases o.dst <;> rfl
  cases fl with
  | true =>
    simp only [PW] at h1
    simp only [PWI]
    cases ho : ops[i]? with
    | none => rw [ho] at h1; exact h1.elim
    | some o =>
      rw [ho] at h1
      dsimp only at h1 ⊢
      by_cases hw : Region.wanted o (yielded ops a.tmps) = true
      · rw [if_pos hw] at h1 ⊢
        obtain ⟨v, hv, hk⟩ := h1
        rw [eval_dropD] at hv
        exact ⟨v, hv, by rw [← hput]; exact key _ _ hs hk⟩
      · rw [if_neg hw] at h1 ⊢
        rw [← hput]; exact key _ _ hs h1
  | false =>
    simp only [PW] at h1
    simp only [PWI, opI]
    cases ho : ops[i]? with
    | none => rw [ho] at h1; exact h1.elim
    | some o =>
      rw [ho] at h1
      dsimp only at h1 ⊢
      by_cases hw : Region.wanted o (yielded ops a.tmps) = true
      · rw [if_pos hw] at h1 ⊢
        exact OpI.of_wp ds h1 (fun a' w' ⟨hS, hk⟩ => ⟨by obtain ⟨x, _, h2, _⟩ := hk; exact h2.defers, hS, key _ _ hS hk⟩) he.defers
      · rw [if_neg hw] at h1 ⊢
        rw [← hput]; exact ⟨hs, key _ _ hs h1⟩
theorem SXI.of {fl : Bool} {i : Nat} {l2 : List (Nat × Value)} {C2 : World → Prop} (h : ∀ K' : Act → World → Prop, (∀ a w, Env n l2 a → C2 w → K' a w) → SX P ops S K' (.st fl i .done) n l C)
    (hn : SXI P ops S K p n ds l2 C2) : SXI P ops S K (.st fl i p) n ds l C :=
  SXI.of1 (X := Unit) (l2 := fun _ => l2) (C2 := fun _ => C2) (pf := fun _ => True) (fun K' hK => h K' (hK () trivial)) (fun _ _ => hn)

theorem SXI.of2 {fl : Bool} {i : Nat} {X Y : Type} {l2 : X → Y → List (Nat × Value)} {C2 : X → Y → World → Prop} {pf : X → Y → Prop}
    (h : ∀ K' : Act → World → Prop, (∀ x y, pf x y → ∀ a w, Env n (l2 x y) a → C2 x y w → K' a w) → SX P ops S K' (.st fl i .done) n l C)
    (hn : ∀ x y, pf x y → SXI P ops S K p n ds (l2 x y) (C2 x y)) : SXI P ops S K (.st fl i p) n ds l C :=
  SXI.of1 (X := X × Y) (l2 := fun x => l2 x.1 x.2) (C2 := fun x => C2 x.1 x.2) (pf := fun x => pf x.1 x.2) (fun K' hK => h K' (fun x y => hK (x, y))) (fun x => hn x.1 x.2)

theorem SXI.alt {i : Nat} (h1 : SXI P ops S K (.st false i p) n ds l C) (h2 : SXI P ops S K q n ds l C) : SXI P ops S K (.alt i p q) n ds l C :=
  ⟨fun a w he hc hs => ⟨by have := h1.run a w he hc hs; unfold PWI at this; exact this, h2.run a w he hc hs⟩⟩
theorem SXI.weaken {l' : List (Nat × Value)} (hl : SubL l' l) (hC : ∀ w, C w → C' w) (h : SXI P ops S K p n ds l' C') : SXI P ops S K p n ds l C :=
  ⟨fun a w he hc hs => h.run a w (he.sub hl.sub) (hC w hc) hs⟩
theorem SXI.inC (h : ∀ w, C w → SXI P ops S K p n ds l C) : SXI P ops S K p n ds l C := ⟨fun a w he hc hs => (h w hc).run a w he hc hs⟩
theorem SXI.fact {F : Prop} (hF : ∀ w, C w → F) (h : F → SXI P ops S K p n ds l C) : SXI P ops S K p n ds l C := ⟨fun a w he hc hs => (h (hF w hc)).run a w he hc hs⟩
theorem SXI.bool (t : Nat) {b : Bool} (ht : lk t l = some (.bool b)) (h1 : b = true → SXI P ops S K p n ds (ins t (.bool true) l) C) (h2 : b = false → SXI P ops S K p n ds (ins t (.bool false) l) C) : SXI P ops S K p n ds l C := by
  refine ⟨fun a w he hc hs => ?_⟩
  have key : ∀ u, lk t l = some u → EnvD n ds (ins t u l) a := fun u hu => ⟨⟨he.env.size, rfl, fun s v hv => by
    rw [lk_ins] at hv
    by_cases e : s = t
    · subst e; simp at hv; subst hv; exact he.env.at_ _ _ hu
    · rw [if_neg e] at hv; exact he.env.at_ _ _ hv⟩, he.defers⟩
  cases b with
  | true => exact (h1 rfl).run a w (key _ ht) hc hs
  | false => exact (h2 rfl).run a w (key _ ht) hc hs

/-- An operation that calls yield. -/
theorem SXI.yield {i : Nat} {d : Option Nat} {op : Op} {ty : TypeId} {X : Type} {v : X → Value} {pf : X → Prop} {C' : X → World → Prop} (ho : opAt ops n l i = some (d, op, ty))
    (hrun : ∀ a w (o : Oper), Env n l a → C w → o.op = op → o.type = ty → ∃ lr fn tmps assign body w', (execOp a.eval o).run P w = .ok (.round lr fn tmps assign body) w' ∧
      RoundIn Fence.wide 0 P lr fn tmps assign body w' (fun e w'' => ∃ x, e = .returned (v x) ∧ pf x ∧ C' x w''))
    (hS : ∀ x w, C' x w → S w)
    (h : ∀ x, pf x → SXI P ops S K p n ds (insO d (v x) l) (C' x)) : SXI P ops S K (.st false i p) n ds l C := by
  refine ⟨fun a w he hc _ => ?_⟩
  unfold opAt at ho
  split at ho
  · rename_i o hoi
    by_cases hb : (wantB ops l o.guard && okD n o.dst) = true
    · rw [hb] at ho
      simp only [cond_true, Option.some.injEq, Prod.mk.injEq] at ho
      obtain ⟨rfl, rfl, rfl⟩ := ho
      rw [Bool.and_eq_true] at hb
      obtain ⟨lr, fn, tmps, assign, body, w', hr, hR⟩ := hrun _ w o he.env hc rfl rfl
      rw [eval_dropD] at hr
      have hw : Region.wanted o (yielded ops a.tmps) = true := wanted_of he.env hb.1
      simp only [PWI, opI, hoi, hw, if_true, OpI, hr, upI]
      refine RoundIn.mono hR ?_
      rintro e w'' ⟨x, rfl, hp, hC⟩
      refine ⟨_, rfl, hS x w'' hC, (h x hp).run _ w'' ?_ hC (hS x w'' hC)⟩
      have h2 := he.env.putO hb.2 (v x)
      have h3 : a.put o.dst (v x) = { ({ a with defers := [] } : Act).put o.dst (v x) with defers := ds } := by have := he.defers; subst this; cases o.dst <;> rfl
      rw [h3]; exact EnvD.of h2
    · have : (wantB ops l o.guard && okD n o.dst) = false := by simpa using hb
      rw [this] at ho
      cases ho
  · cases ho
end

/-! ### Code -/
def KtI (P : Program) (ro : Option Nat) (Rx : Exit → Act → World → Prop) : List KI → Exit → Act → World → Prop
  | [] => Rx
  | .code y :: k => fun e a w => match e with
    | .normal => y.wpIn (fw ro) 0 P (KtI P ro Rx k) a w
    | e => KtI P ro Rx k e a w
  | .blk id :: k => fun e a w => match e with
    | .exit id' => if id' = id then KtI P ro Rx k .normal a w else KtI P ro Rx k (.exit id') a w
    | e => KtI P ro Rx k e a w
  | .lp I :: k => fun e a w => match e with
    | .normal => I a w
    | e => KtI P ro Rx k e a w

section
variable {P : Program} {ro : Option Nat} {Rx : Exit → Act → World → Prop}
theorem KtI_ret : ∀ (k : List KI) {a : Act} {w : World}, Rx .ret a w → KtI P ro Rx k .ret a w
  | [], _, _, h => h
  | .code _ :: k, _, _, h => KtI_ret k h
  | .blk _ :: k, _, _, h => KtI_ret k h
  | .lp _ :: k, _, _, h => KtI_ret k h
theorem KtI_exit {id : Nat} : ∀ {k k' : List KI} {a : Act} {w : World}, popTo id k = some k' → KtI P ro Rx k' .normal a w → KtI P ro Rx k (.exit id) a w
  | [], _, _, _, h, _ => by simp [popTo] at h
  | .blk i :: k, k', a, w, h, hk => by
    unfold popTo at h
    simp only [KtI]
    by_cases e : i = id
    · subst e
      simp at h
      subst h
      simpa using hk
    · have h1 : Nat.beq i id = false := beq_ne e
      rw [h1] at h
      rw [if_neg (Ne.symm e)]
      exact KtI_exit (k := k) h hk
  | .code _ :: k, _, _, _, h, hk => KtI_exit (k := k) h hk
  | .lp _ :: k, _, _, _, h, hk => KtI_exit (k := k) h hk
/-- An exit that nothing in the frame catches. -/
theorem KtI_out {id : Nat} : ∀ {k : List KI} {a : Act} {w : World}, popTo id k = none → Rx (.exit id) a w → KtI P ro Rx k (.exit id) a w
  | [], _, _, _, h => h
  | .blk i :: k, a, w, h, hk => by
    unfold popTo at h
    simp only [KtI]
    by_cases e : i = id
    · subst e; simp at h
    · have h1 : Nat.beq i id = false := beq_ne e
      rw [h1] at h
      rw [if_neg (Ne.symm e)]
      exact KtI_out (k := k) h hk
  | .code _ :: k, _, _, h, hk => KtI_out (k := k) h hk
  | .lp _ :: k, _, _, h, hk => KtI_out (k := k) h hk
end

structure CWI (P : Program) (ro : Option Nat) (Rx : Exit → Act → World → Prop) (k : List KI) (c : Code) (n : Nat) (ds : List Deferred) (l : List (Nat × Value)) (C : World → Prop) : Prop where
  run : ∀ a w, EnvD n ds l a → C w → c.wpIn (fw ro) 0 P (KtI P ro Rx k) a w
structure KNI (P : Program) (ro : Option Nat) (Rx : Exit → Act → World → Prop) (k : List KI) (n : Nat) (ds : List Deferred) (l : List (Nat × Value)) (C : World → Prop) : Prop where
  run : ∀ a w, EnvD n ds l a → C w → KtI P ro Rx k .normal a w

section
variable {P : Program} {ro : Option Nat} {Rx : Exit → Act → World → Prop} {k : List KI} {n : Nat} {ds : List Deferred} {l l' : List (Nat × Value)} {C C' : World → Prop} {c x y : Code}

theorem CWI.seq (h : CWI P ro Rx (.code y :: k) x n ds l C) : CWI P ro Rx k (.seq x y) n ds l C :=
  ⟨fun a w he hc => wpIn_seq (wpIn_mono (h.run a w he hc) (fun e a w hk => by cases e <;> exact hk))⟩
theorem CWI.block {id : Nat} (h : CWI P ro Rx (.blk id :: k) c n ds l C) : CWI P ro Rx k (.block id c) n ds l C :=
  ⟨fun a w he hc => wpIn_block (wpIn_mono (h.run a w he hc) (fun e a w hk => by cases e <;> exact hk))⟩
theorem CWI.skip (h : KNI P ro Rx k n ds l C) : CWI P ro Rx k .skip n ds l C := ⟨fun a w he hc => wpIn_skip (h.run a w he hc)⟩
theorem CWI.label {i : Nat} (h : KNI P ro Rx k n ds l C) : CWI P ro Rx k (.label i) n ds l C := ⟨fun a w he hc => wpIn_label (h.run a w he hc)⟩
theorem CWI.ret (h : ∀ a w, EnvD n ds l a → C w → Rx .ret a w) : CWI P ro Rx k .ret n ds l C := ⟨fun a w he hc => wpIn_ret (KtI_ret k (h a w he hc))⟩
theorem CWI.exit {id : Nat} {k' : List KI} (hp : popTo id k = some k') (h : KNI P ro Rx k' n ds l C) : CWI P ro Rx k (.exit id) n ds l C :=
  ⟨fun a w he hc => wpIn_exit (KtI_exit hp (h.run a w he hc))⟩
theorem CWI.out {id : Nat} (hp : popTo id k = none) (h : ∀ a w, EnvD n ds l a → C w → Rx (.exit id) a w) : CWI P ro Rx k (.exit id) n ds l C :=
  ⟨fun a w he hc => wpIn_exit (KtI_out hp (h a w he hc))⟩
theorem CWI.cond {o : Operand} {b : Bool} (ho : ev l o = some (.bool b)) (h1 : b = true → CWI P ro Rx k x n ds l C) (h2 : b = false → CWI P ro Rx k y n ds l C) : CWI P ro Rx k (.cond o x y) n ds l C :=
  ⟨fun a w he hc => wpIn_cond_split (he.ev ho) (fun e => (h1 e).run a w he hc) (fun e => (h2 e).run a w he hc)⟩
theorem CWI.condT {o : Operand} (ho : ev l o = some (.bool true)) (h1 : CWI P ro Rx k x n ds l C) : CWI P ro Rx k (.cond o x y) n ds l C :=
  CWI.cond ho (fun _ => h1) (fun e => by cases e)
theorem CWI.condF {o : Operand} (ho : ev l o = some (.bool false)) (h1 : CWI P ro Rx k y n ds l C) : CWI P ro Rx k (.cond o x y) n ds l C :=
  CWI.cond ho (fun e => by cases e) (fun _ => h1)
theorem CWI.test {o : Operand} {p : Prop} [Decidable p] (ho : ev l o = some (.bool (decide p))) (h1 : p → CWI P ro Rx k x n ds l C) (h2 : ¬ p → CWI P ro Rx k y n ds l C) : CWI P ro Rx k (.cond o x y) n ds l C :=
  CWI.cond ho (fun e => h1 (of_decide_eq_true e)) (fun e => h2 (of_decide_eq_false e))
theorem CWI.weaken (l' : List (Nat × Value)) (C' : World → Prop) (hl : SubL l' l) (hC : ∀ w, C w → C' w) (h : CWI P ro Rx k c n ds l' C') : CWI P ro Rx k c n ds l C :=
  ⟨fun a w he hc => h.run a w (he.sub hl.sub) (hC w hc)⟩
theorem CWI.fact {F : Prop} (hF : ∀ w, C w → F) (h : F → CWI P ro Rx k c n ds l C) : CWI P ro Rx k c n ds l C := ⟨fun a w he hc => (h (hF w hc)).run a w he hc⟩
theorem CWI.pre (hC : ∀ w, C w → C' w) (h : CWI P ro Rx k c n ds l C') : CWI P ro Rx k c n ds l C := ⟨fun a w he hc => h.run a w he (hC w hc)⟩
theorem CWI.ex {X : Type} {C' : X → World → Prop} (hC : ∀ w, C w → ∃ x, C' x w) (h : ∀ x, CWI P ro Rx k c n ds l (C' x)) : CWI P ro Rx k c n ds l C :=
  ⟨fun _ w he hc => let ⟨x, hx⟩ := hC w hc; (h x).run _ w he hx⟩

theorem KNI.code (h : CWI P ro Rx k y n ds l C) : KNI P ro Rx (.code y :: k) n ds l C := ⟨fun a w he hc => h.run a w he hc⟩
theorem KNI.blk {id : Nat} (h : KNI P ro Rx k n ds l C) : KNI P ro Rx (.blk id :: k) n ds l C := ⟨fun a w he hc => h.run a w he hc⟩
theorem KNI.weaken (l' : List (Nat × Value)) (C' : World → Prop) (hl : SubL l' l) (hC : ∀ w, C w → C' w) (h : KNI P ro Rx k n ds l' C') : KNI P ro Rx k n ds l C :=
  ⟨fun a w he hc => h.run a w (he.sub hl.sub) (hC w hc)⟩
theorem KNI.fact {F : Prop} (hF : ∀ w, C w → F) (h : F → KNI P ro Rx k n ds l C) : KNI P ro Rx k n ds l C := ⟨fun a w he hc => (h (hF w hc)).run a w he hc⟩

/-- A loop: 'G': the states of the rounds. -/
theorem wpI_loop_ghost {G : Type} {Q : Exit → Act → World → Prop} (I : G → Act → World → Prop) (μ : G → Nat)
    (round : ∀ g a w, I g a w → c.wpIn (fw ro) 0 P (Exit.then (fun a' w' => ∃ g', I g' a' w' ∧ μ g' < μ g) Q) a w) (g₀ : G) {a : Act} {w : World} (h₀ : I g₀ a w) : (Code.loop c).wpIn (fw ro) 0 P Q a w := by
  classical
  have ex : ∀ a w, (∃ g, I g a w) → ∃ m, (∃ g, I g a w ∧ μ g = m) ∧ ∀ g, I g a w → m ≤ μ g := by
    intro a w ⟨g, hg⟩
    have key : ∀ (m : Nat) (g : G), μ g = m → I g a w → ∃ m, (∃ g, I g a w ∧ μ g = m) ∧ ∀ g, I g a w → m ≤ μ g := by
      intro m
      induction m using Nat.strongRecOn with
      | _ m ih =>
        intro g hm hI
        by_cases h : ∃ g', I g' a w ∧ μ g' < m
        · obtain ⟨g', h1, h2⟩ := h
          exact ih _ h2 g' rfl h1
        · exact ⟨m, ⟨g, hI, hm⟩, fun g' hg' => Nat.le_of_not_lt (fun hlt => h ⟨g', hg', hlt⟩)⟩
    exact key _ g rfl hg
  let ν : Act → World → Nat := fun a w => if h : ∃ g, I g a w then Classical.choose (ex a w h) else 0
  have hν : ∀ a w (h : ∃ g, I g a w), (∃ g, I g a w ∧ μ g = ν a w) ∧ ∀ g, I g a w → ν a w ≤ μ g := fun a w h => by
    simp only [ν, dif_pos h]; exact Classical.choose_spec (ex a w h)
  refine wpIn_loop (fun a w => ∃ g, I g a w) ν ⟨g₀, h₀⟩ (fun a w hI => ?_)
  obtain ⟨⟨g, hg, hm⟩, _⟩ := hν a w hI
  refine wpIn_mono (round g a w hg) (fun e a' w' hq => ?_)
  cases e <;> first | exact hq | (obtain ⟨g', h1, h2⟩ := hq; exact ⟨⟨g', h1⟩, Nat.lt_of_le_of_lt ((hν a' w' ⟨g', h1⟩).2 g' h1) (hm ▸ h2)⟩)

structure BackI {G : Type} (n : Nat) (df : G → List Deferred) (lf : G → List (Nat × Value)) (Cf : G → World → Prop) (pf : G → Prop) (μ : G → Nat) (m : Nat) (a : Act) (w : World) : Prop where
  back : ∃ g', (EnvD n (df g') (lf g') a ∧ Cf g' w ∧ pf g') ∧ μ g' < m

theorem CWI.loop {G : Type} (df : G → List Deferred) (lf : G → List (Nat × Value)) (Cf : G → World → Prop) (pf : G → Prop) (μ : G → Nat) (g₀ : G) (hd : df g₀ = ds) (hl : SubL (lf g₀) l) (hC : ∀ w, C w → Cf g₀ w) (hp : pf g₀)
    (hr : ∀ g, pf g → CWI P ro Rx (.lp (BackI n df lf Cf pf μ (μ g)) :: k) c n (df g) (lf g) (Cf g)) : CWI P ro Rx k (.loop c) n ds l C := by
  refine ⟨fun a w he hc => ?_⟩
  refine wpI_loop_ghost (fun g a w => EnvD n (df g) (lf g) a ∧ Cf g w ∧ pf g) μ (fun g a w hg => ?_) g₀ ⟨hd ▸ he.sub hl.sub, hC w hc, hp⟩
  exact wpIn_mono ((hr g hg.2.2).run a w hg.1 hg.2.1) (fun e a' w' hk => by cases e <;> first | exact hk | exact hk.back)
theorem KNI.back {G : Type} {df : G → List Deferred} {lf : G → List (Nat × Value)} {Cf : G → World → Prop} {pf : G → Prop} {μ : G → Nat} {m : Nat} (g' : G) (hd : df g' = ds) (hl : SubL (lf g') l) (hC : ∀ w, C w → Cf g' w) (hp : pf g') (hm : μ g' < m) :
    KNI P ro Rx (.lp (BackI n df lf Cf pf μ m) :: k) n ds l C := ⟨fun _ w he hc => ⟨g', ⟨hd ▸ he.sub hl.sub, hC w hc, hp⟩, hm⟩⟩

structure JoinI {G : Type} (n : Nat) (ds : List Deferred) (lf : G → List (Nat × Value)) (Cf : G → World → Prop) (pf : G → Prop) (a : Act) (w : World) : Prop where
  join : ∃ g, EnvD n ds (lf g) a ∧ Cf g w ∧ pf g
theorem CWI.cut {G : Type} (lf : G → List (Nat × Value)) (Cf : G → World → Prop) (pf : G → Prop) (hx : CWI P ro Rx (.lp (JoinI n ds lf Cf pf) :: k) x n ds l C) (hy : ∀ g, pf g → CWI P ro Rx k y n ds (lf g) (Cf g)) : CWI P ro Rx k (.seq x y) n ds l C :=
  ⟨fun a w he hc => wpIn_seq (wpIn_mono (hx.run a w he hc) (fun e a w hk => by
    cases e <;> first | exact hk | (obtain ⟨g, h1, h2, h3⟩ := hk.join; exact (hy g h3).run a w h1 h2)))⟩
theorem KNI.join {G : Type} {lf : G → List (Nat × Value)} {Cf : G → World → Prop} {pf : G → Prop} (g : G) (hl : SubL (lf g) l) (hC : ∀ w, C w → Cf g w) (hp : pf g) : KNI P ro Rx (.lp (JoinI n ds lf Cf pf) :: k) n ds l C :=
  ⟨fun _ w he hc => ⟨g, he.sub hl.sub, hC w hc, hp⟩⟩

theorem CWI.reg {id : Nat} {ops : Array Oper} (is : List Nat) (hi : sp is = seqPlan 0 ops.size) (hnd : noDefer ops = true) (h : SXI P ops (fun _ => True) (KtI P ro Rx k .normal) (sp is) n ds l C) : CWI P ro Rx k (.region id ops false) n ds l C :=
  ⟨fun a w he hc => wpIn_mono (wpI_straight hnd (by rw [← hi]; exact h.run a w he hc trivial)) (fun e a w hk => by cases e <;> first | exact hk | exact hk.elim)⟩
theorem CWI.regD {id : Nat} {ops : Array Oper} (p : Plan) (S : World → Prop) (hm : P.follows .mixedOrders = true) (hok : (noDefer ops && (Region.noSelect ops && planOk ops p ops.size (Array.replicate ops.size false) none)) = true)
    (hd : ∀ w, C w → C w.drew) (hS : ∀ w, C w → S w) (h : SXI P ops S (KtI P ro Rx k .normal) p n ds l C) : CWI P ro Rx k (.region id ops true) n ds l C :=
  ⟨fun a w he hc => wpIn_mono (wpI_planned p hm hok (hS _ (hd w hc)) (h.run a w.drew he (hd w hc) (hS _ (hd w hc)))) (fun e a w hk => by cases e <;> first | exact hk | exact hk.elim)⟩
theorem SXI.end_ {ops : Array Oper} {S : World → Prop} (h : KNI P ro Rx k n ds l C) : SXI P ops S (KtI P ro Rx k .normal) .done n ds l C := SXI.done h.run
theorem SXI.next {ops : Array Oper} {S : World → Prop} (h : CWI P ro Rx k y n ds l C) : SXI P ops S (KtI P ro Rx (.code y :: k) .normal) .done n ds l C := SXI.done h.run

/-- A function that holds such loops. -/
theorem calls_ofI {f : FuncId} {fn : Func} {args : List Value} {w : World} {R : Ending → World → Prop} (hf : P.funcs[f]? = some fn) (hb : fn.body = some c) (hn : fn.ntmps = n) (hlen : Nat.ble args.length n = true) (hw : C w)
    (h : CWI P none (bodyPostM Fence.wide 0 P fn R) [] c n [] (argEnv 0 args) C) : Calls P f args.toArray w R := by
  replace hlen : args.length ≤ n := Nat.le_of_ble_eq_true hlen
  refine (callsIn_wide (n := 0)).1 (callsIn_of_wp_marks hf hb trivial ?_)
  refine wpIn_mono (h.run _ w ⟨⟨by simp [hn]; omega, rfl, fun t v ht => ?_⟩, rfl⟩ hw) (fun e a w hk => hk)
  obtain ⟨_, h2⟩ := lk_argEnv args 0 t v ht
  simp only [Nat.sub_zero] at h2
  have hlt : t < args.length := by
    rcases Nat.lt_or_ge t args.length with h | h
    · exact h
    · rw [List.getElem?_eq_none h] at h2; cases h2
  rw [List.getElem?_eq_getElem hlt, Option.some.injEq] at h2
  simp [Array.getElem?_append, hlt, h2]
end
end Go.Sx
end
section
/- Range over a function, part 3: the statement, yield, the return; memory in parts. No condition. -/
namespace Go.Sx
open Go

/-! ### Parts -/
def objB (g : Nat) (o : Obj) : Atom where
  ok w D := (∀ k, D k ↔ k = g) ∧ w.heap[g]? = some o
  loc := fun ⟨h1, h2⟩ hb => ⟨h1, (hb _ ((h1 _).2 rfl)).trans h2⟩
def exA {G : Type} (f : G → Atom) : Atom where
  ok w D := ∃ g, (f g).ok w D
  loc := fun ⟨g, h⟩ hb => ⟨g, (f g).loc h hb⟩
def starOk : List Atom → World → (Nat → Prop) → Prop
  | [], _, D => ∀ k, ¬ D k
  | A :: L, w, D => ∃ D1 D2 : Nat → Prop, A.ok w D1 ∧ starOk L w D2 ∧ (∀ k, D k ↔ D1 k ∨ D2 k) ∧ ∀ k, D1 k → ¬ D2 k
theorem starOk_loc : ∀ (L : List Atom) {w w' : World} {D : Nat → Prop}, starOk L w D → (∀ k, D k → w'.heap[k]? = w.heap[k]?) → starOk L w' D
  | [], _, _, _, h, _ => h
  | A :: L, _, _, _, ⟨D1, D2, h1, h2, h3, h4⟩, hb => ⟨D1, D2, A.loc h1 (fun k hk => hb k ((h3 k).2 (.inl hk))), starOk_loc L h2 (fun k hk => hb k ((h3 k).2 (.inr hk))), h3, h4⟩
def starA (L : List Atom) : Atom where
  ok w D := starOk L w D
  loc := fun h hb => starOk_loc L h hb

section
variable {F : Nat → Prop} {w₀ w : World} {L L' X Y Z : List Atom}
theorem Sep.star : ∀ (X : List Atom) {F : Nat → Prop}, Sep F (X ++ L) w ↔ Sep F (starA X :: L) w
  | [], F => ⟨fun h => ⟨fun _ => False, fun _ => id, fun _ hk => hk.elim, h.weak (fun k hk => hk.resolve_right id)⟩, fun ⟨D, h1, _, h3⟩ => Sep.weak h3 (fun _ => .inl)⟩
  | A :: X, F => by
    constructor
    · rintro ⟨D1, h1, h2, h3⟩
      obtain ⟨D2, k1, k2, k3⟩ := (Sep.star X).1 h3
      refine ⟨fun k => D1 k ∨ D2 k, ⟨D1, D2, h1, k1, fun _ => Iff.rfl, fun k hk hk' => (k2 k hk').1 (.inr hk)⟩, ?_, k3.weak ?_⟩
      · rintro k (hk | hk)
        · exact h2 k hk
        · exact ⟨fun hf => (k2 k hk).1 (.inl hf), (k2 k hk).2⟩
      · rintro k (hk | hk | hk)
        · exact .inl (.inl hk)
        · exact .inl (.inr hk)
        · exact .inr hk
    · rintro ⟨D, ⟨D1, D2, h1, h2, h3, h4⟩, k2, k3⟩
      refine ⟨D1, h1, fun k hk => k2 k ((h3 k).2 (.inl hk)), (Sep.star X).2 ⟨D2, h2, fun k hk => ⟨?_, (k2 k ((h3 k).2 (.inr hk))).2⟩, k3.weak ?_⟩⟩
      · rintro (hf | hf)
        · exact (k2 k ((h3 k).2 (.inr hk))).1 hf
        · exact h4 k hf hk
      · rintro k ((hk | hk) | hk)
        · exact .inl hk
        · exact .inr ((h3 k).2 (.inl hk))
        · exact .inr ((h3 k).2 (.inr hk))
theorem Sep.congr {A : Atom} (h : ∀ F : Nat → Prop, Sep F L w ↔ Sep F L' w) : Sep F (A :: L) w ↔ Sep F (A :: L') w :=
  ⟨fun ⟨D, h1, h2, h3⟩ => ⟨D, h1, h2, (h _).1 h3⟩, fun ⟨D, h1, h2, h3⟩ => ⟨D, h1, h2, (h _).2 h3⟩⟩
theorem Sep.star3 : Sep F (X ++ (Y ++ Z)) w ↔ Sep F [starA X, starA Y, starA Z] w :=
  (Sep.star X).trans (Sep.congr fun _ => (Sep.star Y).trans (Sep.congr fun _ => by have := Sep.star (L := []) (w := w) Z (F := ‹_›); rwa [List.append_nil] at this))
theorem Sep.perm (h : L.Perm L') : ∀ {F : Nat → Prop}, Sep F L w → Sep F L' w := by
  induction h with
  | nil => exact id
  | cons A _ ih => exact fun ⟨D, h1, h2, h3⟩ => ⟨D, h1, h2, ih h3⟩
  | swap A B _ => exact fun h => h.swap
  | trans _ _ ih1 ih2 => exact fun h => ih2 (ih1 h)
theorem St.sep' (h : St F w₀ L w) (h2 : Sep F L w → Sep F L' w) : St F w₀ L' w := ⟨h.fr, h.lt, h2 h.sep⟩
theorem St.perm (hp : L.Perm L') (h : St F w₀ L w) : St F w₀ L' w := h.sep' (Sep.perm hp)
theorem St.star (X : List Atom) : St F w₀ (X ++ L) w ↔ St F w₀ (starA X :: L) w := ⟨fun h => h.sep' (Sep.star X).1, fun h => h.sep' (Sep.star X).2⟩
theorem St.star3 : St F w₀ (X ++ (Y ++ Z)) w ↔ St F w₀ [starA X, starA Y, starA Z] w := ⟨fun h => h.sep' Sep.star3.1, fun h => h.sep' Sep.star3.2⟩
theorem St.starLast : St F w₀ (X ++ Y) w ↔ St F w₀ (X ++ [starA Y]) w := by
  have key : ∀ (X : List Atom) (F : Nat → Prop), Sep F (X ++ Y) w ↔ Sep F (X ++ [starA Y]) w := by
    intro X
    induction X with
    | nil => intro F; have := Sep.star (L := []) (w := w) Y (F := F); rwa [List.append_nil] at this
    | cons A X ih => intro F; exact Sep.congr ih
  exact ⟨fun h => h.sep' (key X F).1, fun h => h.sep' (key X F).2⟩
theorem St.exA {G : Type} {f : G → Atom} : St F w₀ (exA f :: L) w ↔ ∃ g, St F w₀ (f g :: L) w :=
  ⟨fun h => let ⟨D, ⟨g, h1⟩, h2, h3⟩ := h.sep; ⟨g, h.fr, h.lt, D, h1, h2, h3⟩, fun ⟨g, h⟩ => let ⟨D, h1, h2, h3⟩ := h.sep; ⟨h.fr, h.lt, D, ⟨g, h1⟩, h2, h3⟩⟩
theorem St.allocO (o : Obj) (h : St F w₀ L w) : St F w₀ (objB w.heap.size o :: L) (w.alloc o) :=
  h.join (L' := [objB w.heap.size o]) ⟨⟨rfl, rfl, rfl, by simp, fun k hk => Go.RowKit.Below.heap_alloc w _ k hk⟩, fun _ hk => hk,
    ⟨fun k => k = w.heap.size, ⟨fun k => Iff.rfl, World.alloc_heap_new w o⟩, fun k hk => ⟨by simp [Old]; omega, by simp; omega⟩, trivial⟩⟩
theorem St.objAt {g : Nat} {o : Obj} (h : St F w₀ (objB g o :: L) w) : w.heap[g]? = some o := let ⟨_, ⟨_, h2⟩, _⟩ := h.sep; h2
theorem St.putO {g : Nat} {o : Obj} (o' : Obj) (h : St F w₀ (objB g o :: L) w) : St F w₀ (objB g o' :: L) (w.putObj g o') := by
  obtain ⟨D, ⟨h1, h2⟩, h3, h4⟩ := h.work (i := 0) rfl
  have hlt := (Array.getElem?_eq_some_iff.1 h2).1
  have := h4 (w.putObj g o') (objB g o') D ⟨rfl, rfl, rfl, by simp, fun k hk => World.putObj_heap_other (fun e => hk.2 ((h1 k).2 e))⟩ ⟨h1, World.putObj_heap_same hlt⟩ (fun k hk => ⟨.inl hk, by simp; exact h3 k hk⟩)
  exact this
end

/-! ### Contracts -/
/-- What a call of yield does, of round i: the consumer's part turns from J i to J (i + 1), and it says true; or to Jx (i + 1), and it says false. -/
def YieldOK (P : Program) (w₀ : World) (lr : Nat) (vals : Nat → List Value) (N : Nat) (J Jx : Nat → Atom) : Prop :=
  ∀ i, i < N → ∀ A w, Sto w₀ (J i :: A) w → ∃ fn tmps assign body, (Instr.yield lr (vals i).toArray).run P w = .ok (.round lr fn tmps assign body) w ∧
    RoundIn Fence.wide 0 P lr fn tmps assign body w (fun e w' => ∃ b : Bool, e = .returned (.bool b) ∧ Sto w₀ ((if b then J (i + 1) else Jx (i + 1)) :: A) w')
/-- An iterator that tells 'vals', N of them, and keeps its part. -/
def IterC (P : Program) (w₀ : World) (gf : FuncId) (lb : List Value) (B : List Atom) (vals : Nat → List Value) (N : Nat) : Prop :=
  ∀ (lr : Nat) (J Jx : Nat → Atom) (R : Atom) (w : World), YieldOK P w₀ lr vals N J Jx → Sto w₀ (J 0 :: (B ++ [R])) w →
    Calls P gf (.func (.yield lr) #[] #[] :: lb).toArray w (fun e w' => ∃ v, e = .returned v ∧ (Sto w₀ (J N :: (B ++ [R])) w' ∨ ∃ i, i < N ∧ Sto w₀ (Jx (i + 1) :: (B ++ [R])) w'))

section
variable {P : Program} {ops : Array Oper} {S : World → Prop} {K : Act → World → Prop} {p : Plan} {n : Nat} {ds : List Deferred} {l : List (Nat × Value)} {i : Nat} {ty : TypeId} {x : Operand} {w₀ : World} {A : List Atom}
theorem s_yield (d q : Nat) {as1 : Array Operand} {ts : Array TypeId} {lr : Nat} {vals : Nat → List Value} {N i₀ : Nat} {J Jx : Nat → Atom} (hY : YieldOK P w₀ lr vals N J Jx) (hi : i₀ < N) (hJ : A[q]? = some (J i₀))
    (ho : opAt ops n l i = some (some d, .call ⟨.value x, as1, ts⟩, ty)) (hx : ev l x = some (.func (.yield lr) #[] #[])) (has : evs l as1.toList = some (vals i₀)) (hS : ∀ B w, Sto w₀ (B :: A.eraseIdx q) w → S w)
    (h1 : SXI P ops S K p n ds ((d, .bool true) :: l) (Sto w₀ (J (i₀ + 1) :: A.eraseIdx q))) (h2 : SXI P ops S K p n ds ((d, .bool false) :: l) (Sto w₀ (Jx (i₀ + 1) :: A.eraseIdx q))) :
    SXI P ops S K (.st false i p) n ds l (Sto w₀ A) := by
  refine SXI.yield (v := fun b : Bool => .bool b) (pf := fun _ => True) (C' := fun b => Sto w₀ ((if b then J (i₀ + 1) else Jx (i₀ + 1)) :: A.eraseIdx q)) ho (fun a w o he hc h3 _ => ?_) (fun b w hw => hS _ w hw) (fun b _ => ?_)
  · have hc' : Sto w₀ (J i₀ :: A.eraseIdx q) w := ⟨hc.fr, hc.lt, hc.sep.front hJ⟩
    obtain ⟨fn, tmps, assign, body, hr, hR⟩ := hY i₀ hi _ w hc'
    refine ⟨lr, fn, tmps, assign, body, w, ?_, RoundIn.mono hR (fun e w' ⟨b, he, hs⟩ => ⟨b, he, trivial, hs⟩)⟩
    have e1 : as1.map a.eval = (vals i₀).toArray := by apply Array.ext'; rw [Array.toList_map]; exact he.evs has
    simp only [execOp, h3, resolve, e1, he.ev hx, Deferred.ofValue, Sem.run_bind, Sem.run_pure, Result.andThen_ok, invoke, Array.empty_append]
    exact hr
  · cases b with
    | true => exact h1
    | false => exact h2
end

def insAll (l : List (Nat × Value)) (ps : List (Nat × Value)) : List (Nat × Value) := ps.foldl (fun l pv => ins pv.1 pv.2 l) l
theorem Env.insAll {n : Nat} : ∀ (ps : List (Nat × Value)) {l : List (Nat × Value)} {a : Act}, Env n l a → (∀ pv ∈ ps, pv.1 < n) → Env n (insAll l ps) { a with tmps := ps.foldl (fun t (pv : Nat × Value) => t.setIfInBounds pv.1 pv.2) a.tmps }
  | [], _, _, h, _ => h
  | pv :: ps, l, a, h, hp => by
    have := Env.insAll ps (h.put (hp pv (by simp)) pv.2) (fun q hq => hp q (by simp [hq]))
    exact this

abbrev mark (D : Nat) : Deferred := { target := .collected D, args := #[] }
abbrev defB (D : Nat) : Atom := objB D (.deferred (some []))

/-- How a round's body may be left. -/
def RPost {G GX : Type} (w₀ : World) (T : Atom) (LJ : Nat → G → List Atom) (pJ : Nat → G → Prop) (LX : Nat → GX → List Atom) (pX : Nat → GX → Prop) (jx : GX → Code) (i : Nat) : Exit → Act → World → Prop
  | .normal, _, w => ∃ g, pJ i g ∧ Sto w₀ (LJ i g ++ [T]) w
  | .ret, _, w => ∃ g, pX i g ∧ jx g = .ret ∧ Sto w₀ (LX i g ++ [T]) w
  | .exit id, _, w => ∃ g, pX i g ∧ jx g = .exit id ∧ Sto w₀ (LX i g ++ [T]) w
  | _, _, _ => False

section
variable {P : Program} {Rx : Exit → Act → World → Prop} {k : List KI} {n : Nat} {ds : List Deferred} {l : List (Nat × Value)} {w₀ : World} {A : List Atom}

theorem CWI.rangeFunc {G GX : Type} (LJ : Nat → G → List Atom) (pJ : Nat → G → Prop) (LX : Nat → GX → List Atom) (pX : Nat → GX → Prop) (jx : GX → Code) (g₀ : G) (LB LR : List Atom) (lbod : Nat → List (Nat × Value))
    {g : Operand} {ps : Array Tmp} {assign body : Code} {gf : FuncId} {lb : List Value} {vals : Nat → List Value} {N : Nat}
    (hg : ev l g = some (.func (.func gf) #[] lb.toArray)) [hgf : Enters P gf] (hit : IterC P w₀ gf lb LB vals N)
    (is : List Nat) (hpick : picks A is = some (LJ 0 g₀ ++ (LB ++ LR))) (hp0 : pJ 0 g₀) (hps : ∀ i, (vals i).length = ps.size) (hpn : ∀ q ∈ ps.toList, q < n)
    (hassign : ∀ (lr i : Nat) (C : World → Prop), i < N → CWI P (some lr) (fun _ _ _ => False) [.lp (fun a w => EnvD n [] (lbod i) a ∧ C w)] assign n [] (insAll l (ps.toList.zip (vals i))) C)
    (hbody : ∀ (lr : Nat) (T : Atom) (i : Nat) (g : G), i < N → pJ i g → CWI P (some lr) (RPost w₀ T LJ pJ LX pX jx (i + 1)) [] body n [] (lbod i) (Sto w₀ (LJ i g ++ [T])))
    (hdone : ∀ (D : Nat) (g : G), pJ N g → KNI P none Rx k n (mark D :: ds) l (Sto w₀ (defB D :: (LJ N g ++ (LB ++ LR)))))
    (hstop : ∀ (D i : Nat) (g : GX), i < N → pX (i + 1) g → CWI P none Rx k (jx g) n (mark D :: ds) l (Sto w₀ (defB D :: (LX (i + 1) g ++ (LB ++ LR))))) :
    CWI P none Rx k (.rangeFunc g ps assign body) n ds l (Sto w₀ A) := by
  refine ⟨fun a w he hc => wpIn_rangeFunc (F := fw none) (fun fn _ => ?_)⟩
  obtain ⟨rec, hrec⟩ : ∃ rec : LoopState → Option Code → Loop, rec = fun st pe => { state := st, pending := pe, fn, tmps := a.tmps, params := ps, assign, body, defers := w.heap.size } := ⟨_, rfl⟩
  obtain ⟨w1, hw1⟩ : ∃ w1, (w.alloc (.deferred (some []))).alloc (.loop (rec .ready none)) = w1 := ⟨_, rfl⟩
  have hst : Sto w₀ (objB (w.heap.size + 1) (.loop (rec .ready none)) :: defB w.heap.size :: (LJ 0 g₀ ++ (LB ++ LR))) w1 := by
    have h2 := ((hc.pick is hpick).allocO (.deferred (some []))).allocO (.loop (rec .ready none))
    rw [hw1, World.size_alloc] at h2
    exact h2
  let J : Nat → Atom := fun i => exA (fun g : { g : G // pJ i g } => starA (objB (w.heap.size + 1) (.loop (rec .ready none)) :: defB w.heap.size :: LJ i g.1))
  let Jx : Nat → Atom := fun i => exA (fun g : { g : GX // pX i g } => starA (objB (w.heap.size + 1) (.loop (rec .done (some (jx g.1)))) :: defB w.heap.size :: LX i g.1))
  have hY : YieldOK P w₀ (w.heap.size + 1) vals N J Jx := by
    intro i hi A' w' hJ
    obtain ⟨⟨g, hgp⟩, hJ⟩ := St.exA.1 hJ
    have hJ := (St.star _).2 hJ
    have hl := St.objAt hJ
    have hy := run_yield (P := P) (args := (vals i).toArray) hl (by rw [hrec]; simpa using hps i)
    rw [hrec] at hy
    refine ⟨fn, _, assign, body, hy, roundIn_of_wpIn (F := Fence.wide) trivial ?_⟩
    have hz : (ps.zip (vals i).toArray).foldl (fun tmps (x : Tmp × Value) => tmps.setIfInBounds x.1 x.2) a.tmps = (ps.toList.zip (vals i)).foldl (fun t (pv : Nat × Value) => t.setIfInBounds pv.1 pv.2) a.tmps := by
      rw [← Array.foldl_toList, Array.toList_zip]
    have hen : EnvD n [] (insAll l (ps.toList.zip (vals i))) { tmps := (ps.zip (vals i).toArray).foldl (fun tmps (x : Tmp × Value) => tmps.setIfInBounds x.1 x.2) a.tmps, defers := [] } := by
      refine ⟨?_, rfl⟩
      have := Env.insAll (ps.toList.zip (vals i)) he.env (fun pv hpv => hpn _ (List.of_mem_zip hpv).1)
      rw [hz]; exact this
    refine wpIn_mono ((hassign (w.heap.size + 1) i _ hi).run _ w' hen hJ) ?_
    intro e a1 w2 hk
    cases e with
    | normal =>
      obtain ⟨hea, hc2⟩ := hk
      have hl2 := St.objAt hc2
      refine ⟨_, run_beginRound hl2 (by rw [hrec]), ?_⟩
      have hc3 := St.putO (.loop { rec .ready none with state := .busy }) hc2
      let T : Atom := starA (objB (w.heap.size + 1) (.loop { rec .ready none with state := .busy }) :: defB w.heap.size :: A')
      have hT : ∀ (X : List Atom) (v : World), Sto w₀ (X ++ [T]) v ↔ Sto w₀ (objB (w.heap.size + 1) (.loop { rec .ready none with state := .busy }) :: (defB w.heap.size :: X ++ A')) v := by
        intro X v
        refine ⟨fun h => St.perm ?_ (St.starLast.2 h), fun h => St.starLast.1 (St.perm ?_ h)⟩
        · refine List.perm_middle.trans (List.Perm.cons _ ?_)
          exact List.perm_middle
        · refine (List.Perm.trans (List.Perm.cons _ ?_) List.perm_middle.symm)
          exact List.perm_middle.symm
      have hb := (hbody (w.heap.size + 1) T i g hi hgp).run a1 _ hea ((hT _ _).2 hc3)
      refine wpIn_mono hb (fun e a3 w3 hk => ?_)
      have fin : ∀ (jump : Option Code) (X : List Atom), Sto w₀ (X ++ [T]) w3 → ∃ v w', (Instr.endRound (w.heap.size + 1) jump).run P w3 = .ok v w' ∧ v = .bool jump.isNone ∧
          Sto w₀ (starA (objB (w.heap.size + 1) (.loop (rec (if jump.isNone then .ready else .done) jump)) :: defB w.heap.size :: X) :: A') w' := by
        intro jump X h3
        have h4 := (hT _ _).1 h3
        have h5 := run_endRound (P := P) jump (St.objAt h4)
        refine ⟨_, _, h5, rfl, (St.star _).1 ?_⟩
        have h6 := St.putO (.loop { rec .ready none with state := if jump.isNone then .ready else .done, pending := jump }) h4
        rw [hrec] at h6 ⊢
        exact h6
      cases e with
      | normal =>
        obtain ⟨g', hp', hs'⟩ := hk
        obtain ⟨v, w', h5, rfl, h6⟩ := fin none _ hs'
        exact ⟨_, w', h5, true, rfl, St.exA.2 ⟨⟨g', hp'⟩, h6⟩⟩
      | ret =>
        obtain ⟨g', hp', hj, hs'⟩ := hk
        obtain ⟨v, w', h5, rfl, h6⟩ := fin (some .ret) _ hs'
        exact ⟨_, w', h5, false, rfl, St.exA.2 ⟨⟨g', hp'⟩, by rw [hj]; exact h6⟩⟩
      | exit id =>
        obtain ⟨g', hp', hj, hs'⟩ := hk
        obtain ⟨v, w', h5, rfl, h6⟩ := fin (some (.exit id)) _ hs'
        exact ⟨_, w', h5, false, rfl, St.exA.2 ⟨⟨g', hp'⟩, by rw [hj]; exact h6⟩⟩
      | goto t => exact hk.elim
      | panic c => exact hk.elim
      | outgrown => exact hk.elim
    | exit id => exact hk.elim
    | goto t => exact hk.elim
    | ret => exact hk.elim
    | panic c => exact hk.elim
    | outgrown => exact hk.elim
  refine ⟨w.heap.size + 1, [mark w.heap.size], w1, { target := .fn (.func gf) lb.toArray, args := #[.func (.yield (w.heap.size + 1)) #[] #[]] }, w1, gf, (.func (.yield (w.heap.size + 1)) #[] #[] :: lb).toArray, w1, ?_, ?_, fun _ _ => trivial, ?_, fun h => by simp [Fence.wide] at h, ?_⟩
  · rw [← hw1, hrec]; exact run_enterLoop_outer _ _ _ _ _
  · simp only [resolve, he.ev hg]
    simp [Deferred.ofValue, go_sem]
  · simp only [invoke]
    have : #[Value.func (.yield (w.heap.size + 1)) #[] #[]] ++ lb.toArray = (.func (.yield (w.heap.size + 1)) #[] #[] :: lb).toArray := by simp
    rw [this]
    exact hgf.run _ _
  · refine CallsIn.mono (F := fw none) ((callsIn_wide (n := 0)).2 (hit (w.heap.size + 1) J Jx (starA LR) w1 hY ?_)) ?_
    · refine (St.exA (f := fun g : { g : G // pJ 0 g } => starA (objB (w.heap.size + 1) (.loop (rec .ready none)) :: defB w.heap.size :: LJ 0 g.1))).2 ⟨⟨g₀, hp0⟩, ?_⟩
      exact (St.starLast (X := starA (objB (w.heap.size + 1) (.loop (rec .ready none)) :: defB w.heap.size :: LJ 0 g₀) :: LB)).1 ((St.star (objB (w.heap.size + 1) (.loop (rec .ready none)) :: defB w.heap.size :: LJ 0 g₀)).1 hst)
    · have hea : EnvD n (mark w.heap.size :: ds) l { a with defers := [mark w.heap.size] ++ a.defers } := ⟨he.env, by rw [he.defers]; rfl⟩
      rintro e w' ⟨v, rfl, h | ⟨i, hi, h⟩⟩
      · obtain ⟨⟨g, hgp⟩, h⟩ := St.exA.1 h
        have h := (St.star _).2 ((St.starLast (X := starA _ :: LB)).2 h)
        have hl := St.objAt h
        refine ⟨_, _, run_endLoop hl (by rw [hrec]; simp), ?_⟩
        have h2 := (St.putO (.loop { rec .ready none with state := .exhausted }) h).tail
        rw [hrec] at h2 ⊢
        exact (hdone _ g hgp).run _ _ hea h2
      · obtain ⟨⟨g, hgp⟩, h⟩ := St.exA.1 h
        have h := (St.star _).2 ((St.starLast (X := starA _ :: LB)).2 h)
        have hl := St.objAt h
        refine ⟨_, _, run_endLoop hl (by rw [hrec]; simp), ?_⟩
        have h2 := (St.putO (.loop { rec .done (some (jx g)) with state := .exhausted }) h).tail
        rw [hrec] at h2 ⊢
        exact (hstop _ i g hi hgp).run _ _ hea h2

/-- The way out: the marks' blocks are shut. -/
theorem leaves_marks {fn : Func} {tmps : Array Value} {R : Ending → World → Prop} {L : List Atom} (hfin : ∀ w, Sto w₀ L w → ∃ v, (results fn tmps).run P w = .ok v w ∧ R (.returned v) w) :
    ∀ (Ds : List Nat) (w : World), Sto w₀ (Ds.map defB ++ L) w → LeavesInM Fence.wide 0 P fn tmps R (Ds.map mark) .returning w
  | [], w, h => hfin w h
  | D :: Ds, w, h => ⟨by simp, .inl ⟨D, _, rfl, run_takeDeferred (St.objAt h), leaves_marks hfin Ds _ (St.putO (.deferred none) h).tail⟩⟩

theorem retM {fn : Func} {R : Ending → World → Prop} {C : World → Prop} {rs : List ResultVar} {vs : List Value} {L : List Atom} (Ds : List Nat) (hds : ds = Ds.map mark) (hr : fn.results = rs.toArray) (hv : resOf l rs = some vs)
    (hC : ∀ w, C w → Sto w₀ (Ds.map defB ++ L) w) (h : ∀ w, Sto w₀ L w → R (.returned (oneOf vs)) w) : ∀ a w, EnvD n ds l a → C w → bodyPostM Fence.wide 0 P fn R .ret a w := by
  intro a w he hc
  show LeavesInM Fence.wide 0 P fn a.tmps R a.defers .returning w
  rw [he.defers, hds]
  refine leaves_marks (L := L) (fun w' hw' => ?_) Ds w (hC w hc)
  obtain ⟨_, v, h1, h2⟩ := (KN.ret (C := fun v => Sto w₀ L v) hr hv h : KN P (Rets fn R P) [] n l (fun v => Sto w₀ L v)).run _ w' he.env hw'
  exact ⟨v, h1, h2⟩
end
end Go.Sx
end
section
/- A list of our own that slices.Sort has sorted. No condition. -/
namespace Go.Sx
open Go Go.Sort
theorem Fr.grown {w : World} {g N : Nat} {f : Array Value → Array Value} {os : Array Obj} {D : Nat → Prop} (hg : D g) : Fr (fun k => k < w.heap.size ∧ ¬ D k) w (grow (mapBlock (Sort.ahead w N) g f) os) := by
  refine ⟨rfl, rfl, rfl, ?_, fun k hk => ?_⟩
  · show w.heap.size ≤ (w.heap.modify g (onCells f) ++ os).size
    simp
  · show (w.heap.modify g (onCells f) ++ os)[k]? = _
    have hne : g ≠ k := fun h => hk.2 (h ▸ hg)
    rw [Array.getElem?_append_left (by simpa using hk.1), Array.getElem?_modify, if_neg hne]
theorem St.sorted {F : Nat → Prop} {w₀ w : World} {L : List Atom} {E n c g N : Nat} {zs zs' : List Int} {os : Array Obj} (h : St F w₀ (own E 1 (some ⟨g, 0, none⟩) n c (ints .i64 zs) :: L) w) (hl : zs'.length = zs.length) :
    St F w₀ (own E 1 (some ⟨g, 0, none⟩) n c (ints .i64 zs') :: L) (grow (putRow (Value.int .i64) (Sort.ahead w N) g 0 zs'.toArray) os) := by
  obtain ⟨D, ⟨⟨h1, h2⟩, hD⟩, hlt, hmk⟩ := h.work (i := 0) rfl
  rcases h2 with ⟨h3, _⟩ | ⟨g', cap, cur, hv, hb, hh, hc, hm, hs, ht⟩
  · cases h3
  · injection hv with hA hn hcp
    injection hA with hA
    injection hA with hg
    subst hg
    subst hcp
    have hDg : D g := (hD g).2 ⟨by simp, rfl⟩
    have hgs := (Array.getElem?_eq_some_iff.1 hh).1
    have hzl : zs'.length = n := by simpa [ints, hl] using h1
    refine hmk _ (own E 1 (some ⟨g, 0, none⟩) n c (ints .i64 zs')) D (Fr.grown hDg) ⟨⟨by simpa [ints] using hzl, .inr ⟨g, c, putCells (Value.int .i64) 0 zs'.toArray cur, rfl, hb, ?_, hc, hm, by simpa [putCells] using hs, ?_⟩⟩, hD⟩ (fun k hk => ⟨.inl hk, ?_⟩)
    · show (w.heap.modify g (onCells _) ++ os)[g]? = _
      rw [Array.getElem?_append_left (by simpa using hgs), Array.getElem?_modify, if_pos rfl, hh]; rfl
    · rw [Nat.mul_one] at ht hs ⊢
      apply List.ext_getElem?
      intro j
      rw [List.getElem?_take]
      by_cases hj : j < n
      · rw [if_pos hj]
        have hjc : j < cur.size := by omega
        simp [putCells, ints, hjc, hzl, hj]
      · rw [if_neg hj, List.getElem?_eq_none (by simp [ints]; omega)]
    · have := hlt k hk
      show k < (w.heap.modify g (onCells _) ++ os).size
      simp; omega
end Go.Sx
end
section
/-
  DERIVED: THE SHELF's CONTRACTS AT THIS DUMP, IN PLAIN WORDS (tools/lay-plain.mjs out of 'YtompcfingkoldaaDoorSort.lean', which tools/lay-shelf.mjs wrote): THE SAME DECLARATIONS UNDER THE SAME NAMES: 'import', 'namespace', 'open', 'def', 'theorem' AND NOTHING ELSE: no command of the shelf's: FOR A HAND-IN. Each laying: the table of numbers ('.._ren') and one theorem, a field a fact of the dump's own or the kernel's comparison; each contract: ONE APPLICATION.
-/
namespace Go.Proofs
open Go.Shelf
def Tryd.lays189_ren : Go.Shelf.Ren := ⟨fun | 189 => 173 | 125 => 187 | 257 => 186 | 128 => 200 | 129 => 147 | 294 => 191 | 295 => 192 | 296 => 193 | 297 => 194 | 298 => 195 | 299 => 196 | 216 => 197 | 300 => 198 | 301 => 199 | 328 => 204 | 329 => 205 | 330 => 206 | 331 => 207 | 332 => 208 | 215 => 209 | 343 => 210 | n => n, fun | 28 => 23 | 3 => 3 | 46 => 32 | 0 => 0 | 51 => 249 | 53 => 188 | 4 => 4 | 183 => 242 | 182 => 241 | 131 => 145 | 5 => 5 | 9 => 9 | 218 => 253 | 222 => 257 | 228 => 259 | 229 => 260 | n => n, fun | n => n⟩
theorem Tryd.lays189 : Go.Proofs.Lays.n189 Tryd.prog Tryd.lays189_ren := {
  mixed := by kernel_rfl
  f125 := Tryd.func187.trans (congrArg some (by kernel_rfl))
  f128 := Tryd.func200.trans (congrArg some (by kernel_rfl))
  f129 := Tryd.func147.trans (congrArg some (by kernel_rfl))
  f189 := Tryd.func173.trans (congrArg some (by kernel_rfl))
  f215 := Tryd.func209.trans (congrArg some (by kernel_rfl))
  f216 := Tryd.func197.trans (congrArg some (by kernel_rfl))
  f257 := Tryd.func186.trans (congrArg some (by kernel_rfl))
  f294 := Tryd.func191.trans (congrArg some (by kernel_rfl))
  f295 := Tryd.func192.trans (congrArg some (by kernel_rfl))
  f296 := Tryd.func193.trans (congrArg some (by kernel_rfl))
  f297 := Tryd.func194.trans (congrArg some (by kernel_rfl))
  f298 := Tryd.func195.trans (congrArg some (by kernel_rfl))
  f299 := Tryd.func196.trans (congrArg some (by kernel_rfl))
  f300 := Tryd.func198.trans (congrArg some (by kernel_rfl))
  f301 := Tryd.func199.trans (congrArg some (by kernel_rfl))
  f328 := Tryd.func204.trans (congrArg some (by kernel_rfl))
  f329 := Tryd.func205.trans (congrArg some (by kernel_rfl))
  f330 := Tryd.func206.trans (congrArg some (by kernel_rfl))
  f331 := Tryd.func207.trans (congrArg some (by kernel_rfl))
  f332 := Tryd.func208.trans (congrArg some (by kernel_rfl))
  f343 := Tryd.func210.trans (congrArg some (by kernel_rfl))
  t0 := Tryd.underlying0
  a0 := Tryd.isAgg0
  z0 := Tryd.sizeOf0
  v0 := Tryd.zeroValue0
  t3 := Tryd.underlying3
  a3 := Tryd.isAgg3
  z3 := Tryd.sizeOf3
  v3 := Tryd.zeroValue3
  t4 := Tryd.underlying4
  a4 := Tryd.isAgg4
  z4 := Tryd.sizeOf4
  v4 := Tryd.zeroValue4
  t5 := Tryd.underlying5
  a5 := Tryd.isAgg5
  z5 := Tryd.sizeOf5
  v5 := Tryd.zeroValue5
  t9 := Tryd.underlying9
  a9 := Tryd.isAgg9
  z9 := Tryd.sizeOf9
  v9 := Tryd.zeroValue9
  t28 := Tryd.underlying23
  a28 := Tryd.isAgg23
  z28 := Tryd.sizeOf23
  v28 := Tryd.zeroValue23
  t46 := Tryd.underlying32
  a46 := Tryd.isAgg32
  z46 := Tryd.sizeOf32
  v46 := Tryd.zeroValue32
  t51 := Tryd.underlying249
  a51 := Tryd.isAgg249
  z51 := Tryd.sizeOf249
  v51 := Tryd.zeroValue249
  t53 := Tryd.underlying188
  a53 := Tryd.isAgg188
  z53 := Tryd.sizeOf188
  v53 := Tryd.zeroValue188
  t131 := Tryd.underlying145
  a131 := Tryd.isAgg145
  z131 := Tryd.sizeOf145
  v131 := Tryd.zeroValue145
  t182 := Tryd.underlying241
  a182 := Tryd.isAgg241
  z182 := Tryd.sizeOf241
  v182 := Tryd.zeroValue241
  t183 := Tryd.underlying242
  a183 := Tryd.isAgg242
  z183 := Tryd.sizeOf242
  v183 := Tryd.zeroValue242
  t218 := Tryd.underlying253
  a218 := Tryd.isAgg253
  z218 := Tryd.sizeOf253
  v218 := Tryd.zeroValue253
  t222 := Tryd.underlying257
  a222 := Tryd.isAgg257
  z222 := Tryd.sizeOf257
  v222 := Tryd.zeroValue257
  t228 := Tryd.underlying259
  a228 := Tryd.isAgg259
  z228 := Tryd.sizeOf259
  v228 := Tryd.zeroValue259
  t229 := Tryd.underlying260
  a229 := Tryd.isAgg260
  z229 := Tryd.sizeOf260
  v229 := Tryd.zeroValue260 }
open Go.Sort Go.RowKit in
theorem Tryd.slices_Sort_int (blk off cap : Nat) (zs : List Int) (w : World) (hH : Holds (Value.int .i64) w blk off zs.toArray) (hblk : blk < w.heap.size) (hsz : zs.length < 4611686018427387904) :
    Calls Tryd.prog 173 #[.slice (some ⟨blk, off, none⟩) zs.length cap] w fun e w' =>
      e = .returned (.tuple #[]) ∧ ∃ n os, w' = grow (putRow (Value.int .i64) (Sort.ahead w n) blk off (zs.mergeSort fun x y => decide (x ≤ y)).toArray) os := Any.slices_Sort_int Tryd.lays189 blk off cap zs w hH hblk hsz
end Go.Proofs
end
section
/- Tables of truth values. No condition. -/
namespace Go.Proofs.YtompcfingkoldaaDoor
open Go Go.Sx Go.Fm
def btab (n : Nat) (p : Nat → Bool) : Array Value := ((List.range n).map (fun k => .bool (p k))).toArray
theorem btab_size (n : Nat) (p : Nat → Bool) : (btab n p).size = n := by simp [btab]
theorem btab_at {n k : Nat} {p : Nat → Bool} (h : k < n) : (btab n p)[k]? = some (.bool (p k)) := by simp [btab, h]
theorem btab_cong {n : Nat} {p q : Nat → Bool} (h : ∀ k, k < n → p k = q k) : btab n p = btab n q := by
  unfold btab
  congr 1
  exact List.map_congr_left (fun k hk => by rw [h k (List.mem_range.1 hk)])
theorem btab_zero (n : Nat) : (List.replicate n (.bool false)).toArray = btab n (fun _ => false) := by
  unfold btab
  congr 1
  exact (List.map_const' ..).symm ▸ by simp
theorem btab_set {n i : Nat} {p : Nat → Bool} (b : Bool) : (btab n p).setIfInBounds i (.bool b) = btab n (fun k => if k = i then b else p k) := by
  unfold btab
  rw [List.setIfInBounds_toArray]
  congr 1
  apply List.ext_getElem
  · simp
  · intro j h1 h2
    rw [List.getElem_set]
    simp only [List.getElem_map, List.getElem_range]
    by_cases h : i = j
    · rw [if_pos h, if_pos h.symm]
    · rw [if_neg h, if_neg (fun e => h e.symm)]
def memF (Z : List Nat) (k : Nat) : Bool := decide (k ∈ Z)
theorem memF_next (Z : List Nat) (x : Nat) : (fun k => if k = x then true else memF Z k) = memF (Z ++ [x]) := by
  funext k
  unfold memF
  by_cases hk : k = x
  · rw [if_pos hk, hk]; simp
  · rw [if_neg hk]; simp [hk]
theorem memF_nil : memF [] = fun _ => false := by funext k; simp [memF]
end Go.Proofs.YtompcfingkoldaaDoor
end
section
/- Cosets, walked: the program's and the document's. Conditions: the field may be. -/
namespace Go.Proofs.YtompcfingkoldaaDoor
open Go Go.Sx Go.Fm
set_option maxRecDepth 100000
def leI (x y : Int) : Bool := decide (x ≤ y)
theorem sortI_spec {F : Nat → Prop} {w₀ w : World} {R : List Atom} {A : Option Addr} {n c : Nat} (zs : List Int) (hz : zs.length = n) (hn : n ≠ 0) (hsz : n ≤ 1000000) (h : St F w₀ (own 3 1 A n c (ints .i64 zs) :: R) w) :
    Calls Tryd.prog 173 #[.slice A n c] w (fun e w' => ∃ _x : Unit, e = .returned (.tuple #[]) ∧ True ∧ St F w₀ (own 3 1 A n c (ints .i64 (zs.mergeSort leI)) :: R) w') := by
  subst hz
  obtain ⟨D, ⟨⟨h1, h2⟩, hD⟩, hlt, _⟩ := h.work (i := 0) rfl
  rcases h2 with ⟨_, h3⟩ | ⟨g, cap, cur, hv, hb, hh, hc, hm, hs, ht⟩
  · exact absurd h3 hn
  · injection hv with hA _ hcp
    subst hA
    subst hcp
    refine Calls.mono (Tryd.slices_Sort_int g 0 c zs w (fun j hj => ⟨?_, ?_⟩) (hlt g ((hD g).2 ⟨by simp, rfl⟩)) (by omega)) ?_
    · have hj2 : j < zs.length := by simpa using hj
      have := h.ownCell (q := 0) (j := j) (v := .int .i64 (zs.getD j 0)) rfl (intsAt hj2)
      show w.cell? ⟨ob (some ⟨g, 0, none⟩), 0 + j, none⟩ = _
      rw [this, getElem!_pos _ j hj]
      simp [hj2]
    · exact h.ownFree (q := 0) (j := 0 + j) rfl hn
    · rintro e w' ⟨he, N, os, hw⟩
      subst hw
      exact ⟨(), he, trivial, St.sorted h (List.length_mergeSort ..)⟩
theorem sorted_of {l : List Nat} : ∃ s : List Nat, (l.map Int.ofNat).mergeSort leI = s.map Int.ofNat ∧ s.Perm l ∧ s.Pairwise (· ≤ ·) := by
  have hp := List.mergeSort_perm (l.map Int.ofNat) leI
  have hs := List.pairwise_mergeSort (le := leI) (fun a b c h1 h2 => decide_eq_true (Int.le_trans (of_decide_eq_true h1) (of_decide_eq_true h2))) (fun a b => by unfold leI; rcases Int.le_total a b with h | h <;> simp [h]) (l.map Int.ofNat)
  refine ⟨((l.map Int.ofNat).mergeSort leI).map Int.toNat, ?_, ?_, ?_⟩
  · rw [List.map_map]
    refine ((List.map_congr_left (fun x hx => ?_)).trans (List.map_id _)).symm
    obtain ⟨y, _, rfl⟩ := List.mem_map.1 (hp.mem_iff.1 hx)
    rfl
  · have := hp.map Int.toNat
    rwa [List.map_map, show (Int.toNat ∘ Int.ofNat) = id from rfl, List.map_id] at this
  · exact List.Pairwise.map _ (fun a b h => by have := of_decide_eq_true h; omega) hs
theorem cos_sort {m : Nat} (hm : Ok m) {i k : Nat} (h : cst m i k ∈ orb m i k) (hn : (orb m i k).Nodup) : ((orb m i k).map Int.ofNat).mergeSort leI = (cosP m i).map Int.ofNat := by
  obtain ⟨s, e, hp, hs⟩ := sorted_of (l := orb m i k)
  rw [e, cos_sorted hm h hn hp hs]
theorem tmod_lt2 {k : Int} (hk : 0 < k) (m : Int) : -k < m.tmod k ∧ m.tmod k < k := by
  have h1 := Int.emod_nonneg m (b := k) (by omega)
  have h2 := Int.emod_lt_of_pos m hk
  rw [Int.tmod_eq_emod]
  split <;> omega
theorem polyI_ne {m : Nat} (hm : Ok m) : ¬ ((polyI (m : Nat) : Nat) : Int) = 0 := fun h => by
  have := (polyI_zero _).1 h
  have h1 := hm.lo
  have h2 := hm.hi
  omega
theorem cos_filter {m : Nat} (hm : Ok m) {i k : Nat} (h : cst m i k ∈ orb m i k) : (List.range (N m)).filter (memF (orb m i k)) = cosP m i := by
  unfold cosP
  refine List.filter_congr (fun x _ => ?_)
  unfold memF
  rw [decide_eq_decide, orb_all hm h]
  unfold cosP
  rw [List.mem_filter, decide_eq_true_eq]
  refine ⟨fun hx => hx.2, fun hx => ⟨?_, hx⟩⟩
  obtain ⟨j, _, e⟩ := hx
  rw [← e]
  exact List.mem_range.2 (cst_lt hm i j)
theorem filt_yes {p : Nat → Bool} {k : Nat} (h : p k = true) : (List.range (k + 1)).filter p = (List.range k).filter p ++ [k] := by
  rw [List.range_succ, List.filter_append]; simp [h]
theorem filt_no {p : Nat → Bool} {k : Nat} (h : ¬ p k = true) : (List.range (k + 1)).filter p = (List.range k).filter p := by
  rw [List.range_succ, List.filter_append]; simp [h]
theorem filt_len (p : Nat → Bool) (k : Nat) : ((List.range k).filter p).length ≤ k := by
  have := List.length_filter_le p (List.range k); simpa using this
theorem mem_nat {l : List Nat} {x : Nat} : ((x : Nat) : Int) ∈ l.map Int.ofNat ↔ x ∈ l := by
  rw [List.mem_map]
  constructor
  · rintro ⟨y, hy, e⟩
    have : y = x := Int.ofNat.inj e
    rwa [← this]
  · intro h; exact ⟨x, h, rfl⟩
theorem getD_mem {l : List Int} {i : Nat} (h : i < l.length) : l.getD i 0 ∈ l := by
  rw [List.getD_eq_getElem?_getD, List.getElem?_eq_getElem h]; exact List.getElem_mem h

theorem polyM_any (m : Int) (w : World) : Spec1 Tryd.prog 137 [.int .i64 m] w (.int .i64 (polyI m : Nat)) := by
  refine spec_of Tryd.func137 rfl Tryd.ntmps137 rfl ?_
  refine CW.seq ?_
  refine CW.reg [0] rfl ?_   -- 0, field.go:13
  refine s_as 2 rfl rfl ?_
  refine SX.next ?_
  refine CW.seq ?_
  refine CW.reg [0, 1, 2] rfl ?_   -- 1, field.go:14
  refine s_buildA 4 rfl rfl (cells := polyC) rfl ?_
  refine s_alloc 3 rfl (fun _ _ => trivial) (fun ga => ?_)
  refine s_stAll 0 rfl rfl (by kernel_rfl) rfl rfl rfl (by decide) (fun _ _ => trivial) ?_
  refine SX.next ?_
  refine CW.seq ?_
  refine CW.seq ?_
  refine CW.reg [0, 1, 2, 3, 4, 5] rfl ?_   -- 2, field.go:15
  refine s_mv 5 rfl rfl ?_
  refine s_lt 6 rfl rfl rfl rfl ?_
  refine s_mv 7 rfl rfl ?_
  refine SX.bool 7 rfl (fun hb => ?_) (fun hb => ?_)
  · skip
    replace hb := of_decide_eq_true hb
    refine SX.skip rfl ?_
    refine SX.skip rfl ?_
    refine s_pickT 10 rfl rfl rfl ?_
    refine SX.next ?_
    refine CW.condT rfl ?_
    refine CW.seq ?_
    refine CW.reg [0] rfl ?_   -- 3, field.go:16
    refine s_as 2 rfl rfl ?_
    refine SX.next ?_
    refine CW.ret ?_
    exact KN.ret (rs := [.tmp 2]) Tryd.results137 rfl (fun w hw => ⟨by rw [oneOf, ← polyI_bad (.inl hb)]; rfl, hw.nothing⟩)
  · skip
    replace hb := of_decide_eq_false hb
    refine s_mv 8 rfl rfl ?_
    refine s_gt 9 rfl rfl rfl rfl ?_
    refine s_pickF 10 rfl rfl rfl ?_
    refine SX.next ?_
    refine CW.test rfl (fun hc => ?_) (fun hc => ?_)
    · skip
      refine CW.seq ?_
      refine CW.reg [0] rfl ?_   -- 3, field.go:16
      refine s_as 2 rfl rfl ?_
      refine SX.next ?_
      refine CW.ret ?_
      exact KN.ret (rs := [.tmp 2]) Tryd.results137 rfl (fun w hw => ⟨by rw [oneOf, ← polyI_bad (.inr hc)]; rfl, hw.nothing⟩)
    · skip
      refine CW.skip ?_
      refine KN.code ?_
      refine CW.seq ?_
      refine CW.reg [0, 1, 2, 3, 4] rfl ?_   -- 4, field.go:18
      refine s_mv 11 rfl rfl ?_
      refine s_sub 12 rfl rfl rfl (w64 (by omega)) ?_
      refine s_iaR 13 (m - 3).toNat rfl rfl rfl (by omega) (by omega) ?_
      refine s_ldB 14 0 rfl rfl rfl (by rw [Nat.zero_add, Nat.mul_one]; exact polyC_at hb hc) ?_
      refine s_as 2 rfl rfl ?_
      refine SX.next ?_
      refine CW.ret ?_
      exact KN.ret (rs := [.tmp 2]) Tryd.results137 rfl (fun w hw => ⟨rfl, hw.nothing⟩)

theorem idx_spec (A : Option Addr) (n c : Nat) (l : List Int) (v : Int) (w : World) (ha : Has (sl 1 A n (ints .i64 l)) w) (hn : n ≤ 4294967296) : SpecX Tryd.prog 185 [.slice A n c, .int .i64 v] w (X := Int) (fun r => .int .i64 r) (fun r => (0 ≤ r ↔ v ∈ l)) (fun _ => []) := by
  have hla := ints_len ha
  subst hla
  refine spec_of Tryd.func185 rfl Tryd.ntmps185 rfl ?_
  refine CW.seq ?_
  refine CW.reg [0] rfl ?_   -- 0, slices.go:96
  refine s_as 4 rfl rfl ?_
  refine SX.next ?_
  refine CW.seq ?_
  refine CW.seq ?_
  refine CW.reg [0, 1, 2] rfl ?_   -- 1, slices.go:97
  refine s_mv 6 rfl rfl ?_
  refine s_len 7 rfl rfl ?_
  refine s_mv 8 rfl rfl ?_
  refine SX.next ?_
  refine CW.block ?_
  refine CW.loop (G := Nat) (fun i => [(0, .slice A l.length c), (1, .int .i64 v), (7, .int .i64 (l.length : Nat)), (8, .int .i64 (i : Nat))]) (fun _ => Sto w []) (fun i => i ≤ l.length ∧ ∀ j, j < i → v ≠ l.getD j 0) (fun i => l.length - i) 0 ⟨rfl, rfl, rfl, rfl, trivial⟩ (fun _ h => h) ⟨Nat.zero_le _, fun j hj => absurd hj (Nat.not_lt_zero _)⟩ ?_
  rintro i ⟨hi, hno⟩
  refine CW.seq ?_
  refine CW.reg [0] rfl ?_   -- 2, slices.go:97
  refine s_lt 9 rfl rfl rfl rfl ?_
  refine SX.next ?_
  refine CW.seq ?_
  refine CW.test rfl (fun hc => ?_) (fun hc => ?_)
  · skip
    refine CW.skip ?_
    refine KN.code ?_
    refine CW.seq ?_
    refine CW.block ?_
    refine CW.seq ?_
    refine CW.reg [0, 1] rfl ?_   -- 3, slices.go:97
    refine s_mv 10 rfl rfl ?_
    refine s_as 5 rfl rfl ?_
    refine SX.next ?_
    refine CW.seq ?_
    refine CW.reg [0, 1, 2, 3, 4, 5] rfl ?_   -- 4, slices.go:98
    refine s_mv 11 rfl rfl ?_
    refine s_mv 12 rfl rfl ?_
    refine s_mv 13 rfl rfl ?_
    refine s_iaV 14 i (fun w hw => hw.old ha) rfl rfl rfl rfl (by omega) ?_
    refine s_ldV 15 (fun w hw => hw.old ha) rfl rfl (by rw [Nat.mul_one]; exact intsAt (by omega)) (by omega) ?_
    refine s_eq 16 rfl rfl rfl rfl ?_
    refine SX.next ?_
    refine CW.test rfl (fun hcv => ?_) (fun hcv => ?_)
    · skip
      have hmem : v ∈ l := by rw [hcv]; exact getD_mem (by omega)
      refine CW.seq ?_
      refine CW.reg [0, 1] rfl ?_   -- 5, slices.go:99
      refine s_mv 17 rfl rfl ?_
      refine s_as 4 rfl rfl ?_
      refine SX.next ?_
      refine CW.ret ?_
      exact KN.ret (rs := [.tmp 4]) Tryd.results185 rfl (fun w hw => ⟨(i : Nat), rfl, ⟨fun _ => hmem, fun _ => by omega⟩, hw⟩)
    · skip
      refine CW.skip ?_
      refine KN.blk ?_
      refine KN.code ?_
      refine CW.reg [0, 1] rfl ?_   -- 6, slices.go:97
      refine s_add 18 rfl rfl rfl (r := ((i + 1 : Nat) : Int)) (w64 (by omega)) ?_
      refine s_mv 8 rfl rfl ?_
      refine SX.end_ ?_
      exact KN.back (i + 1) ⟨rfl, rfl, rfl, rfl, trivial⟩ (fun _ h => h) ⟨by omega, fun j hj => by by_cases h : j = i; (subst h; exact hcv); exact hno j (by omega)⟩ (by omega)
  · skip
    have hnm : v ∉ l := fun h => by
      obtain ⟨j, hj, e⟩ := List.getElem_of_mem h
      exact hno j (by omega) (by rw [← e]; simp [hj])
    refine CW.exit rfl ?_
    refine KN.code ?_
    refine CW.seq ?_
    refine CW.reg [0] rfl ?_   -- 7, slices.go:102
    refine s_as 4 rfl rfl ?_
    refine SX.next ?_
    refine CW.ret ?_
    exact KN.ret (rs := [.tmp 4]) Tryd.results185 rfl (fun w hw => ⟨-1, rfl, ⟨fun h => by omega, fun h => absurd h hnm⟩, hw⟩)

theorem has_spec (A : Option Addr) (n c : Nat) (l : List Int) (v : Int) (w : World) (ha : Has (sl 1 A n (ints .i64 l)) w) (hn : n ≤ 4294967296) : Spec1 Tryd.prog 172 [.slice A n c, .int .i64 v] w (.bool (decide (v ∈ l))) := by
  refine spec_of Tryd.func172 rfl Tryd.ntmps172 rfl ?_
  refine CW.seq ?_
  refine CW.reg [0] rfl ?_   -- 0, slices.go:117
  refine s_as 4 rfl rfl ?_
  refine SX.next ?_
  refine CW.seq ?_
  refine CW.reg [0, 1, 2, 3, 4] rfl ?_   -- 1, slices.go:118
  refine s_mv 5 rfl rfl ?_
  refine s_mv 6 rfl rfl ?_
  refine s_call 7 rfl rfl rfl rfl (fun w hw => idx_spec A n c l v w (hw.old ha) hn) (fun _ _ => trivial) (fun r hr => ?_)
  refine s_ge 8 rfl rfl rfl (r := decide (v ∈ l)) (by rw [decide_eq_decide]; exact hr) ?_
  refine s_as 4 rfl rfl ?_
  refine SX.next ?_
  refine CW.ret ?_
  exact KN.ret (rs := [.tmp 4]) Tryd.results172 rfl (fun w hw => ⟨rfl, hw.nothing⟩)

theorem coset_spec (m : Nat) (i : Int) (w : World) (hm : Ok m) : SpecLE Tryd.prog 136 [.int .i64 (m : Nat), .int .i64 i] w (cosP m (em m i)) := by
  have hNs := N_succ m
  have hNp := N_pos hm
  have hmh := hm.hi
  have hpo := polyI_ne hm
  have htb := tmod_lt2 (k := ((N m) : Nat)) (by omega) i
  have hel := em_lt hm i
  refine spec_of Tryd.func136 rfl Tryd.ntmps136 rfl ?_
  refine CW.seq ?_
  refine CW.reg [0, 1] rfl ?_   -- 0, minimal.go:14
  refine s_as 4 rfl rfl ?_
  refine s_as 5 rfl rfl ?_
  refine SX.next ?_
  refine CW.seq ?_
  refine CW.seq ?_
  refine CW.reg [0, 1, 2] rfl ?_   -- 1, minimal.go:15
  refine s_mv 8 rfl rfl ?_
  refine s_call1 9 rfl rfl rfl rfl (fun w hw => polyM_any _ w) (fun _ _ => trivial) ?_
  refine s_eq 10 rfl rfl rfl (decide_eq_false hpo) ?_
  refine SX.next ?_
  refine CW.condF rfl ?_
  refine CW.skip ?_
  refine KN.code ?_
  refine CW.seq ?_
  refine CW.reg [0, 1, 2, 3] rfl ?_   -- 3, minimal.go:18
  refine s_mv 12 rfl rfl ?_
  refine s_shl 13 rfl rfl rfl (by omega) (shl_one hm) ?_
  refine s_sub 14 rfl rfl rfl (r := (((N m) : Nat) : Int)) (by rw [show (((N m) + 1 : Nat) : Int) - 1 = (((N m) : Nat) : Int) by omega]; exact w64 (by omega)) ?_
  refine s_as 6 rfl rfl ?_
  refine SX.next ?_
  refine CW.seq ?_
  refine CW.reg [0, 1, 2, 3, 4, 5, 6, 7] rfl ?_   -- 4, minimal.go:19
  refine s_mv 15 rfl rfl ?_
  refine s_mv 16 rfl rfl ?_
  refine s_rem 17 rfl rfl rfl (by omega) rfl ?_
  refine s_mv 18 rfl rfl ?_
  refine s_add 19 rfl rfl rfl (w64 (by omega)) ?_
  refine s_mv 20 rfl rfl ?_
  refine s_rem 21 rfl rfl rfl (by omega) (r := ((cst m (em m i) 0 : Nat) : Int)) (by rw [em_pos2 hm i]; unfold cst; rw [Nat.pow_zero, Nat.mul_one, Nat.mod_eq_of_lt hel]) ?_
  refine s_as 1 rfl rfl ?_
  refine SX.next ?_
  refine CW.seq ?_
  refine CW.reg [0] rfl ?_   -- 5, minimal.go:20
  refine s_as 7 rfl rfl ?_
  refine SX.next ?_
  refine CW.seq ?_
  refine CW.block ?_
  refine CW.loop (G := Nat × Option Addr × Nat) (fun q => [(1, .int .i64 (cst m (em m i) q.1 : Nat)), (6, .int .i64 ((N m) : Nat)), (7, .slice q.2.1 q.1 q.2.2)]) (fun q => Sto w [own 3 1 q.2.1 q.1 q.2.2 (ints .i64 ((orb m (em m i) q.1).map Int.ofNat))]) (fun q => q.1 ≤ m ∧ (orb m (em m i) q.1).Nodup ∧ q.1 ≤ q.2.2) (fun q => m - q.1) (0, none, 0) ⟨rfl, rfl, rfl, trivial⟩ (fun _ h => h.begin_ 3 1) ⟨Nat.zero_le _, by simp [orb], Nat.le_refl _⟩ ?_
  rintro q ⟨hq, hnd, hqc⟩
  have hcl := cst_lt hm (em m i) q.1
  refine CW.seq ?_
  refine CW.seq ?_
  refine CW.reg [0, 1, 2, 3] rfl ?_   -- 6, minimal.go:21
  refine s_mv 22 rfl rfl ?_
  refine s_mv 23 rfl rfl ?_
  refine s_call1 24 rfl rfl rfl rfl (v := .bool (decide (cst m (em m i) q.1 ∈ (orb m (em m i) q.1)))) (fun w hw => by have := has_spec q.2.1 q.1 q.2.2 ((orb m (em m i) q.1).map Int.ofNat) (cst m (em m i) q.1 : Nat) w ((hw.has (i := 0) rfl).of_own) (by omega); rw [decide_eq_decide.2 mem_nat] at this; exact this) (fun _ _ => trivial) ?_
  refine s_not 25 rfl rfl ?_
  refine SX.next ?_
  refine CW.cond rfl (fun hc => ?_) (fun hc => ?_)
  · skip
    have hno : cst m (em m i) q.1 ∉ (orb m (em m i) q.1) := by simpa using hc
    have hlt : q.1 < m := Nat.lt_of_le_of_ne hq (fun h => hno (by rw [h]; exact orb_end hm _))
    refine CW.skip ?_
    refine KN.code ?_
    refine CW.block ?_
    refine CW.seq ?_
    refine CW.reg [0, 1, 2, 3, 4] rfl ?_   -- 7, minimal.go:22
    refine s_mv 26 rfl rfl ?_
    refine s_mv 27 rfl rfl ?_
    refine s_bsl 28 rfl rfl (cells := #[.int .i64 (cst m (em m i) q.1 : Nat)]) (by kernel_rfl) rfl (fun _ _ => trivial) (fun gb => ?_)
    refine s_app 29 1 rfl rfl rfl rfl (ys := [.int .i64 (cst m (em m i) q.1 : Nat)]) (fun w hw => Has.cong ((hw.has (i := 0) rfl).blk_sl (m := 1) rfl) rfl) rfl rfl (by omega) (by unfold maxLen; omega) (by omega) (fun _ _ _ _ => trivial) (fun A2 c2 hc2 => ?_)
    refine s_as 7 rfl rfl ?_
    refine SX.next ?_
    refine CW.reg [0, 1, 2, 3, 4] rfl ?_   -- 8, minimal.go:23
    refine s_mv 30 rfl rfl ?_
    refine s_mul 31 rfl rfl rfl (r := ((2 * cst m (em m i) q.1 : Nat) : Int)) (by rw [show (2 : Int) * ((cst m (em m i) q.1 : Nat) : Int) = ((2 * cst m (em m i) q.1 : Nat) : Int) by omega]; exact w64 (by omega)) ?_
    refine s_mv 32 rfl rfl ?_
    refine s_rem 33 rfl rfl rfl (by omega) (r := ((cst m (em m i) (q.1 + 1) : Nat) : Int)) (by rw [cst_succ]; rfl) ?_
    refine s_as 1 rfl rfl ?_
    refine SX.end_ ?_
    refine KN.blk ?_
    exact KN.back (q.1 + 1, A2, c2) ⟨rfl, rfl, rfl, trivial⟩ (fun _ h => by
      have h2 := h.pick [1] rfl
      simp only [orb_succ, List.map_append, ints, List.map_cons, List.map_nil] at h2 ⊢
      exact h2) ⟨by simp only; omega, orb_nodup hnd hno, hc2⟩ (by simp only; omega)
  · skip
    have hyes : cst m (em m i) q.1 ∈ (orb m (em m i) q.1) := by simpa using hc
    have hq0 : q.1 ≠ 0 := fun h => by rw [h] at hyes; simp [orb] at hyes
    have hst := cos_sort hm hyes hnd
    have hcl2 := cos_len hm hyes hnd
    refine CW.exit rfl ?_
    refine KN.code ?_
    refine CW.seq ?_
    refine CW.reg [0, 1] rfl ?_   -- 9, minimal.go:25
    refine s_mv 34 rfl rfl ?_
    refine s_callM 35 rfl rfl rfl rfl (v := fun _ : Unit => .tuple #[]) (pf := fun _ => True) (L' := fun _ => [own 3 1 q.2.1 q.1 q.2.2 (ints .i64 (((orb m (em m i) q.1).map Int.ofNat).mergeSort leI))]) (fun w hw => sortI_spec _ (by rw [List.length_map, orb_len]) hq0 (by omega) hw) (fun _ _ _ => trivial) (fun _ _ => ?_)
    refine SX.next ?_
    refine CW.seq ?_
    refine CW.reg [0, 1, 2] rfl ?_   -- 10, minimal.go:26
    refine s_mv 36 rfl rfl ?_
    refine s_as 4 rfl rfl ?_
    refine s_as 5 rfl rfl ?_
    refine SX.next ?_
    refine CW.ret ?_
    exact KN.ret (rs := [.tmp 4, .tmp 5]) Tryd.results136 rfl (fun w hw => ⟨(q.2.1, q.2.2), by rw [hcl2]; rfl, by rw [hcl2]; exact hqc, by rw [hst] at hw; rw [hcl2, nats_ints]; exact hw⟩)

theorem rcoset_spec (m : Nat) (i : Int) (w : World) (hm : Ok m) : SpecL Tryd.prog 179 [.int .i64 (m : Nat), .int .i64 i] w (cosP m (em m i)) := by
  have hNs := N_succ m
  have hNp := N_pos hm
  have hmh := hm.hi
  have htb := tmod_lt2 (k := ((N m) : Nat)) (by omega) i
  have hel := em_lt hm i
  refine spec_of Tryd.func179 rfl Tryd.ntmps179 rfl ?_
  refine CW.seq ?_
  refine CW.reg [0] rfl ?_   -- 0, field.go:218
  refine s_as 4 rfl rfl ?_
  refine SX.next ?_
  refine CW.seq ?_
  refine CW.reg [0, 1, 2, 3, 4] rfl ?_   -- 1, field.go:219
  refine s_mv 10 rfl rfl ?_
  refine s_conv 11 rfl rfl (u64_nat hm) ?_
  refine s_shl 12 rfl rfl rfl (by omega) (shl_one hm) ?_
  refine s_sub 13 rfl rfl rfl (r := (((N m) : Nat) : Int)) (by rw [show (((N m) + 1 : Nat) : Int) - 1 = (((N m) : Nat) : Int) by omega]; exact w64 (by omega)) ?_
  refine s_as 5 rfl rfl ?_
  refine SX.next ?_
  refine CW.seq ?_
  refine CW.reg [0, 1, 2, 3, 4, 5, 6, 7] rfl ?_   -- 2, field.go:220
  refine s_mv 14 rfl rfl ?_
  refine s_mv 15 rfl rfl ?_
  refine s_rem 16 rfl rfl rfl (by omega) rfl ?_
  refine s_mv 17 rfl rfl ?_
  refine s_add 18 rfl rfl rfl (w64 (by omega)) ?_
  refine s_mv 19 rfl rfl ?_
  refine s_rem 20 rfl rfl rfl (by omega) (r := ((cst m (em m i) 0 : Nat) : Int)) (by rw [em_pos2 hm i]; unfold cst; rw [Nat.pow_zero, Nat.mul_one, Nat.mod_eq_of_lt hel]) ?_
  refine s_as 1 rfl rfl ?_
  refine SX.next ?_
  refine CW.seq ?_
  refine CW.reg [0, 1, 2] rfl ?_   -- 3, field.go:221
  refine s_mv 21 rfl rfl ?_
  refine s_make 22 (N m) rfl rfl rfl rfl rfl (by omega) (fun _ _ => trivial) (fun gh => ?_)
  refine s_as 6 rfl rfl ?_
  refine SX.next ?_
  refine CW.seq ?_
  refine CW.reg [0, 1] rfl ?_   -- 4, field.go:222
  refine s_mv 23 rfl rfl ?_
  refine s_as 7 rfl rfl ?_
  refine SX.next ?_
  refine CW.seq ?_
  refine CW.block ?_
  refine CW.loop (G := Nat) (fun k => [(5, .int .i64 ((N m) : Nat)), (6, .slice (some ⟨gh, 0, none⟩) (N m) (N m)), (7, .int .i64 (cst m (em m i) k : Nat))]) (fun k => Sto w [blk gh 4 (btab (N m) (memF (orb m (em m i) k)))]) (fun k => k ≤ m ∧ (orb m (em m i) k).Nodup) (fun k => m - k) 0 ⟨rfl, rfl, rfl, trivial⟩ (fun _ h => by rw [show orb m (em m i) 0 = [] from rfl, memF_nil, ← btab_zero]; exact h) ⟨Nat.zero_le _, by simp [orb]⟩ ?_
  rintro k ⟨hk, hnd⟩
  have hcl := cst_lt hm (em m i) k
  refine CW.seq ?_
  refine CW.seq ?_
  refine CW.reg [0, 1, 2, 3, 4] rfl ?_   -- 5, field.go:223
  refine s_mv 24 rfl rfl ?_
  refine s_mv 25 rfl rfl ?_
  refine s_ia0 26 (cst m (em m i) k) rfl rfl rfl rfl hcl ?_
  refine s_ldB 27 0 rfl rfl rfl (btab_at hcl) ?_
  refine s_not 28 rfl rfl ?_
  refine SX.next ?_
  refine CW.cond rfl (fun hc => ?_) (fun hc => ?_)
  · skip
    have hno : cst m (em m i) k ∉ (orb m (em m i) k) := by simpa [memF] using hc
    have hlt : k < m := Nat.lt_of_le_of_ne hk (fun h => hno (by rw [h]; exact orb_end hm _))
    refine CW.skip ?_
    refine KN.code ?_
    refine CW.block ?_
    refine CW.seq ?_
    refine CW.reg [0, 1, 2, 3] rfl ?_   -- 6, field.go:224
    refine s_mv 29 rfl rfl ?_
    refine s_mv 30 rfl rfl ?_
    refine s_ia0 31 (cst m (em m i) k) rfl rfl rfl rfl hcl ?_
    refine s_stB 0 rfl rfl rfl rfl rfl (by rw [btab_size]; exact hcl) (fun _ _ => trivial) ?_
    refine SX.next ?_
    refine CW.reg [0, 1, 2, 3, 4] rfl ?_   -- 7, field.go:225
    refine s_mv 32 rfl rfl ?_
    refine s_mul 33 rfl rfl rfl (r := ((2 * cst m (em m i) k : Nat) : Int)) (by rw [show (2 : Int) * ((cst m (em m i) k : Nat) : Int) = ((2 * cst m (em m i) k : Nat) : Int) by omega]; exact w64 (by omega)) ?_
    refine s_mv 34 rfl rfl ?_
    refine s_rem 35 rfl rfl rfl (by omega) (r := ((cst m (em m i) (k + 1) : Nat) : Int)) (by rw [cst_succ]; rfl) ?_
    refine s_as 7 rfl rfl ?_
    refine SX.end_ ?_
    refine KN.blk ?_
    exact KN.back (k + 1) ⟨rfl, rfl, rfl, trivial⟩ (fun _ h => by rw [orb_succ, ← memF_next, ← btab_set]; exact h) ⟨by omega, orb_nodup hnd hno⟩ (by omega)
  · skip
    have hyes : cst m (em m i) k ∈ (orb m (em m i) k) := by simpa [memF] using hc
    have hcf := cos_filter hm hyes
    obtain ⟨e, he⟩ : ∃ e, e = k := ⟨k, rfl⟩
    rw [← he] at hcf ⊢
    refine CW.exit rfl ?_
    refine KN.code ?_
    refine CW.seq ?_
    refine CW.reg [0] rfl ?_   -- 8, field.go:227
    refine s_as 8 rfl rfl ?_
    refine SX.next ?_
    refine CW.seq ?_
    refine CW.seq ?_
    refine CW.reg [0] rfl ?_   -- 9, field.go:228
    refine s_as 9 rfl rfl ?_
    refine SX.next ?_
    refine CW.block ?_
    refine CW.loop (G := Nat × Option Addr × Nat) (fun q => [(5, .int .i64 ((N m) : Nat)), (6, .slice (some ⟨gh, 0, none⟩) (N m) (N m)), (8, .slice q.2.1 ((List.range q.1).filter (memF (orb m (em m i) e))).length q.2.2), (9, .int .i64 (q.1 : Nat))]) (fun q => Sto w [own 3 1 q.2.1 ((List.range q.1).filter (memF (orb m (em m i) e))).length q.2.2 (nats .i64 ((List.range q.1).filter (memF (orb m (em m i) e)))), blk gh 4 (btab (N m) (memF (orb m (em m i) e)))]) (fun q => q.1 ≤ (N m) ∧ ((List.range q.1).filter (memF (orb m (em m i) e))).length ≤ q.2.2) (fun q => (N m) - q.1) (0, none, 0) ⟨rfl, rfl, rfl, rfl, trivial⟩ (fun _ h => h.begin_ 3 1) ⟨Nat.zero_le _, Nat.le_refl _⟩ ?_
    rintro q ⟨hq, hqc⟩
    have hfl := filt_len (memF (orb m (em m i) e)) q.1
    refine CW.seq ?_
    refine CW.seq ?_
    refine CW.reg [0, 1, 2] rfl ?_   -- 10, field.go:228
    refine s_mv 36 rfl rfl ?_
    refine s_mv 37 rfl rfl ?_
    refine s_lt 38 rfl rfl rfl rfl ?_
    refine SX.next ?_
    refine CW.test rfl (fun hc => ?_) (fun hc => ?_)
    · skip
      refine CW.skip ?_
      refine KN.code ?_
      refine CW.seq ?_
      refine CW.block ?_
      refine CW.seq ?_
      refine CW.reg [0, 1, 2, 3] rfl ?_   -- 12, field.go:229
      refine s_mv 41 rfl rfl ?_
      refine s_mv 42 rfl rfl ?_
      refine s_ia0 43 q.1 rfl rfl rfl rfl (by omega) ?_
      refine s_ldB 44 1 rfl rfl rfl (btab_at (by omega)) ?_
      refine SX.next ?_
      refine CW.cond rfl (fun hc2 => ?_) (fun hc2 => ?_)
      · skip
        have hnx := filt_yes hc2
        refine CW.reg [0, 1, 2, 3, 4] rfl ?_   -- 13, field.go:230
        refine s_mv 45 rfl rfl ?_
        refine s_mv 46 rfl rfl ?_
        refine s_bsl 47 rfl rfl (cells := #[.int .i64 (q.1 : Nat)]) (by kernel_rfl) rfl (fun _ _ => trivial) (fun gb => ?_)
        refine s_app 48 1 rfl rfl rfl rfl (ys := [.int .i64 (q.1 : Nat)]) (fun w hw => Has.cong ((hw.has (i := 0) rfl).blk_sl (m := 1) rfl) rfl) rfl rfl (by omega) (by unfold maxLen; omega) (by omega) (fun _ _ _ _ => trivial) (fun A2 c2 hc2 => ?_)
        refine s_as 8 rfl rfl ?_
        refine SX.end_ ?_
        refine KN.blk ?_
        refine KN.code ?_
        refine CW.reg [0, 1, 2] rfl ?_   -- 11, field.go:228
        refine s_mv 39 rfl rfl ?_
        refine s_add 40 rfl rfl rfl (r := ((q.1 + 1 : Nat) : Int)) (w64 (by omega)) ?_
        refine s_as 9 rfl rfl ?_
        refine SX.end_ ?_
        exact KN.back (q.1 + 1, A2, c2) ⟨rfl, rfl, by rw [hnx, List.length_append]; rfl, rfl, trivial⟩ (fun _ h => by
          simp only [hnx]
          rw [← nats_snoc, List.length_append]
          exact h.pick [1, 1] rfl) ⟨by simp only; omega, by simp only [hnx]; rw [List.length_append]; exact hc2⟩ (by simp only; omega)
      · skip
        have hnx := filt_no (p := memF (orb m (em m i) e)) (k := q.1) (by simp [hc2])
        refine CW.skip ?_
        refine KN.blk ?_
        refine KN.code ?_
        refine CW.reg [0, 1, 2] rfl ?_   -- 11, field.go:228
        refine s_mv 39 rfl rfl ?_
        refine s_add 40 rfl rfl rfl (r := ((q.1 + 1 : Nat) : Int)) (w64 (by omega)) ?_
        refine s_as 9 rfl rfl ?_
        refine SX.end_ ?_
        exact KN.back (q.1 + 1, q.2) ⟨rfl, rfl, by simp only [hnx]; rfl, rfl, trivial⟩ (fun _ h => by simp only [hnx]; exact h) ⟨by simp only; omega, by simp only [hnx]; exact hqc⟩ (by simp only; omega)
    · skip
      have hqe : q.1 = (N m) := by omega
      rw [hqe] at hqc
      rw [hcf] at hqc
      refine CW.exit rfl ?_
      refine KN.code ?_
      refine CW.seq ?_
      refine CW.reg [0, 1] rfl ?_   -- 14, field.go:233
      refine s_mv 49 rfl rfl ?_
      refine s_as 4 rfl rfl ?_
      refine SX.next ?_
      refine CW.ret ?_
      exact KN.ret (rs := [.tmp 4]) Tryd.results179 rfl (fun w hw => ⟨q.2, by rw [hqe, hcf]; rfl, hqc, by rw [hqe, hcf] at hw; exact hw.pick [0] rfl⟩)
end Go.Proofs.YtompcfingkoldaaDoor
end
section
/- Minimal polynomials, walked. Conditions: the field was made by New. -/
namespace Go.Proofs.YtompcfingkoldaaDoor
open Go Go.Sx Go.Fm
set_option maxRecDepth 100000
theorem _root_.Go.Sx.Has.star {X : List Atom} {A : Atom} {w : World} (h : Has (starA X) w) (hA : A ∈ X) : Has A w := by
  obtain ⟨D, h1, h2⟩ := h
  have key : ∀ (X : List Atom) (D : Nat → Prop), starOk X w D → (∀ k, D k → k < w.heap.size) → A ∈ X → Has A w := by
    intro X
    induction X with
    | nil => intro D _ _ hm; cases hm
    | cons B X ih =>
      rintro D ⟨D1, D2, k1, k2, k3, k4⟩ hlt hm
      rcases List.mem_cons.1 hm with rfl | hm
      · exact ⟨D1, k1, fun k hk => hlt k ((k3 k).2 (.inl hk))⟩
      · exact ih D2 k2 (fun k hk => hlt k ((k3 k).2 (.inr hk))) hm
  exact key X D h1 h2 hA
theorem _root_.Go.Sx.St.nilStar' {F : Nat → Prop} {w₀ w : World} {X : List Atom} (h : St F w₀ X w) : St F w₀ (X ++ [starA []]) w := St.starLast.1 (by rwa [List.append_nil])
theorem _root_.Go.Sx.St.moreStar {F : Nat → Prop} {w₀ w : World} {A : Atom} {X Y : List Atom} (h : St F w₀ (A :: starA X :: Y) w) : St F w₀ (starA (A :: X) :: Y) w := by
  have h1 : St F w₀ (starA X :: (A :: Y)) w := h.perm (List.Perm.swap ..)
  have h2 := (St.star X).2 h1
  exact (St.star (A :: X)).1 (h2.perm List.perm_middle)
def hd2 (b : Nat) : Value := .slice (some ⟨b, 0, none⟩) 2 2
def facI (m k : Nat) : List Int := [((exz m (k : Int) : Nat) : Int), 1]
def RL (m : Nat) (L : List Nat) : List Int := L.map (fun k : Nat => ((exz m (k : Int) : Nat) : Int))
theorem RL_at {m : Nat} {L : List Nat} {i k : Nat} (h : L[i]? = some k) : (RL m L).getD i 0 = ((exz m (k : Int) : Nat) : Int) := by
  unfold RL
  rw [List.getD_eq_getElem?_getD, List.getElem?_map, h]; rfl
theorem lo1 {m : Nat} (hm : Ok m) : lo m 1 = 1 := lo_nat (x := 1) (one_lt hm)
theorem fold_step {m : Nat} (hm : Ok m) {L : List Nat} {i k : Nat} (h : L[i]? = some k) : mulP m (trim (lowL m ((frP m (RL m L) i).map Int.ofNat))) (trim (lowL m (facI m k))) = frP m (RL m L) (i + 1) := by
  have hx := exz_lt hm (k : Int)
  have e : lowL m (facI m k) = [exz m (k : Int), 1] := by show [lo m _, lo m 1] = _; rw [lo_nat hx, lo1 hm]
  rw [(frP_tr hm _ i).low, e, (lin_tr hm hx).eq, ← frP_next hm, RL_at h, lo_nat hx]
theorem frP_min {m : Nat} (hm : Ok m) (i : Nat) : frP m (RL m (cosP m i)) (cosP m i).length = minP m i := by
  have h := frP_all hm (RL m (cosP m i))
  have hl : (RL m (cosP m i)).length = (cosP m i).length := List.length_map _
  rw [hl] at h
  rw [h]
  unfold minP
  congr 1
  unfold lowL RL
  rw [List.map_map]
  exact List.map_congr_left (fun k _ => lo_nat (exz_lt hm _))

theorem mfold_spec (r g m : Nat) (A : Option Addr) (n c : Nat) (bs L : List Nat) (w : World) (hm : Ok m) (hr : Has (ringA r g m) w) (ho : Has (sl 1 A n (bs.map hd2)) w) (hb : bs.length = n) (hL : L.length = n) (hn : n ≤ 100) (hin : ∀ (i b k : Nat), bs[i]? = some b → L[i]? = some k → Has (sl 1 (some ⟨b, 0, none⟩) 2 (ints .i64 (facI m k))) w) : SpecL Tryd.prog 141 [.slice A n c, .func (.func 143) #[.pointer (some ⟨r, 0, none⟩)] #[]] w (frP m (RL m L) n) := by
  refine spec_of Tryd.func141 rfl Tryd.ntmps141 rfl ?_
  refine CW.seq ?_
  refine CW.reg [0] rfl ?_   -- 0, minimal.go:53
  refine s_as 4 rfl rfl ?_
  refine SX.next ?_
  refine CW.seq ?_
  refine CW.reg [0, 1] rfl ?_   -- 1, minimal.go:54
  refine s_bsl 8 rfl rfl (cells := #[.int .i64 1]) (by kernel_rfl) rfl (fun _ _ => trivial) (fun gb => ?_)
  refine s_as 5 rfl rfl ?_
  refine SX.next ?_
  refine CW.seq ?_
  refine CW.seq ?_
  refine CW.reg [0, 1, 2] rfl ?_   -- 2, minimal.go:55
  refine s_mv 9 rfl rfl ?_
  refine s_len 10 rfl rfl ?_
  refine s_mv 11 rfl rfl ?_
  refine SX.next ?_
  refine CW.block ?_
  refine CW.loop (G := Nat × Option Addr × Nat) (fun q => [(1, .func (.func 143) #[.pointer (some ⟨r, 0, none⟩)] #[]), (5, .slice q.2.1 (frP m (RL m L) q.1).length q.2.2), (9, .slice A n c), (10, .int .i64 (n : Nat)), (11, .int .i64 (q.1 : Nat))]) (fun q => Sto w [own 3 1 q.2.1 (frP m (RL m L) q.1).length q.2.2 (nats .i64 (frP m (RL m L) q.1))]) (fun q => q.1 ≤ n ∧ (frP m (RL m L) q.1).length ≤ q.2.2) (fun q => n - q.1) (0, some ⟨gb, 0, none⟩, 1) ⟨rfl, rfl, rfl, rfl, rfl, trivial⟩ (fun _ h => h.blkOwn (q := 0) (c := 1) rfl rfl (by unfold maxLen; omega)) ⟨Nat.zero_le _, Nat.le_refl _⟩ ?_
  rintro q ⟨hq, hqc⟩
  have hfl := frP_len m (RL m L) q.1
  have hft := frP_tr hm (RL m L) q.1
  refine CW.seq ?_
  refine CW.reg [0] rfl ?_   -- 3, minimal.go:55
  refine s_lt 12 rfl rfl rfl rfl ?_
  refine SX.next ?_
  refine CW.seq ?_
  refine CW.test rfl (fun hc => ?_) (fun hc => ?_)
  · skip
    obtain ⟨b, hbi⟩ : ∃ b, bs[q.1]? = some b := ⟨_, List.getElem?_eq_getElem (by omega)⟩
    obtain ⟨k, hki⟩ : ∃ k, L[q.1]? = some k := ⟨_, List.getElem?_eq_getElem (by omega)⟩
    have hfs := fold_step hm hki
    have hhd : (bs.map hd2)[q.1 * 1]? = some (hd2 b) := by rw [Nat.mul_one, List.getElem?_map, hbi]; rfl
    have hxl := exz_lt hm (k : Int)
    have hfacl : (trim (lowL m (facI m k))).length ≤ 2 := by rw [trim_length]; exact Nat.le_trans (tl_le _) (by rw [lowL_len]; exact Nat.le_refl 2)
    have hfrl : (trim (lowL m ((frP m (RL m L) q.1).map Int.ofNat))).length ≤ 101 := by rw [hft.low]; omega
    refine CW.skip ?_
    refine KN.code ?_
    refine CW.seq ?_
    refine CW.block ?_
    refine CW.seq ?_
    refine CW.reg [0, 1, 2] rfl ?_   -- 4, minimal.go:55
    refine s_iaV 13 q.1 (fun w hw => hw.old ho) rfl rfl rfl rfl (by omega) ?_
    refine s_ldV 14 (fun w hw => hw.old ho) rfl rfl hhd (by omega) ?_
    refine s_as 7 rfl rfl ?_
    refine SX.next ?_
    refine CW.reg [0, 1, 2, 3, 4, 5, 6, 7] rfl ?_   -- 5, minimal.go:56
    refine s_mv 16 rfl rfl ?_
    refine s_mv 17 rfl rfl ?_
    refine s_mv 18 rfl rfl ?_
    refine s_call 19 rfl rfl rfl rfl (fun w hw => by have := pmul_spec r g m q.2.1 (frP m (RL m L) q.1).length q.2.2 ((frP m (RL m L) q.1).map Int.ofNat) (some ⟨b, 0, none⟩) 2 2 (facI m k) w hm (hw.old hr) (by rw [← nats_ints]; exact (hw.has (i := 0) rfl).of_own) (hw.old (hin _ _ _ hbi hki)) (by omega) (by omega) (by omega); rw [hfs] at this; exact this) (fun _ _ => trivial) (fun q19 hq19 => ?_)
    refine s_mv 15 rfl rfl ?_
    refine s_ext 20 rfl rfl rfl ?_
    refine s_ext 21 rfl rfl rfl ?_
    refine s_as 5 rfl rfl ?_
    refine SX.end_ ?_
    refine KN.blk ?_
    refine KN.code ?_
    refine CW.reg [0, 1] rfl ?_   -- 6, minimal.go:55
    refine s_add 22 rfl rfl rfl (r := ((q.1 + 1 : Nat) : Int)) (w64 (by omega)) ?_
    refine s_mv 11 rfl rfl ?_
    refine SX.end_ ?_
    exact KN.back (q.1 + 1, q19.1, q19.2) ⟨rfl, rfl, rfl, rfl, rfl, trivial⟩ (fun _ h => h.pick [0] rfl) ⟨by simp only; omega, hq19⟩ (by simp only; omega)
  · skip
    obtain ⟨i, qa, qc⟩ := q
    simp only at hq hqc hfl hft
    have hqe : i = n := by simp only at hc; omega
    subst hqe
    refine CW.exit rfl ?_
    refine KN.code ?_
    refine CW.seq ?_
    refine CW.reg [0, 1] rfl ?_   -- 7, minimal.go:58
    refine s_mv 23 rfl rfl ?_
    refine s_as 4 rfl rfl ?_
    refine SX.next ?_
    refine CW.ret ?_
    exact KN.ret (rs := [.tmp 4]) Tryd.results141 rfl (fun w hw => ⟨(qa, qc), rfl, hqc, hw.pick [0] rfl⟩)

theorem bit_step {F Q : List Nat} {n : Nat} (hF : ∀ j, cf F j < 2) (hn : n / 8 < Q.length) (h : ∀ j, bitN Q j = if j < n then cf F j else 0) (j : Nat) : bitN (Q.set (n / 8) (cf Q (n / 8) ||| cf F n * 2 ^ (n % 8))) j = if j < n + 1 then cf F j else 0 := by
  rcases (show cf F n = 0 ∨ cf F n = 1 by have := hF n; omega) with h0 | h1
  · rw [h0, Nat.zero_mul, Nat.or_zero]
    have e : Q.set (n / 8) (cf Q (n / 8)) = Q := by
      apply List.ext_getElem?
      intro t
      rw [List.getElem?_set]
      split
      · rename_i ht; subst ht; first | rw [if_pos hn, cf_in hn] | rw [cf_in hn]
      · rfl
    rw [e, h]
    by_cases hj : j = n
    · subst hj; rw [if_neg (by omega), if_pos (by omega), h0]
    · by_cases h2 : j < n
      · rw [if_pos h2, if_pos (by omega)]
      · rw [if_neg h2, if_neg (by omega)]
  · rw [h1, Nat.one_mul, bitN_or hn, h]
    by_cases hj : j = n
    · subst hj; rw [if_pos rfl, if_pos (by omega), h1]
    · rw [if_neg hj]
      by_cases h2 : j < n
      · rw [if_pos h2, if_pos (by omega)]
      · rw [if_neg h2, if_neg (by omega)]
theorem bys_done {F Q : List Nat} (hF : B1 F) (h0 : F.length ≠ 0) (hl : Q.length = (F.length - 1) / 8 + 1) (hq : ∀ x ∈ Q, x < 256) (h : ∀ j, bitN Q j = if j < F.length then cf F j else 0) : Q = bys F := by
  have e := bys_of hq hF (fun j => by
    rw [h]
    split
    · rfl
    · exact (cf_out (by omega)).symm)
  rw [← e]
  refine (trim_of ?_).symm
  refine Nat.le_antisymm (tl_le _) (Nat.le_of_not_lt fun hlt => ?_)
  have h1 := cf_hi Q (Q.length - 1) (by omega)
  have h2 := h (F.length - 1)
  rw [if_pos (by omega), hF.top h0] at h2
  unfold bitN at h2
  rw [show (F.length - 1) / 8 = Q.length - 1 by omega, h1] at h2
  simp at h2
theorem or_lt8b {a b n : Nat} (ha : a < 256) (hb : b < 2) (hn : n < 8) : a ||| b * 2 ^ n < 256 := by
  refine Nat.or_lt_two_pow (n := 8) ha ?_
  rcases (show b = 0 ∨ b = 1 by omega) with rfl | rfl
  · rw [Nat.zero_mul]; decide
  · rw [Nat.one_mul]; exact Nat.pow_lt_pow_right (by omega) hn
theorem bn_lt {b n : Nat} (hb : b < 2) (hn : n < 8) : b * 2 ^ n < 256 := by
  have := or_lt8b (a := 0) (by decide) hb hn
  rwa [Nat.zero_or] at this
theorem set_lt8b {Q : List Nat} {i x : Nat} (h : ∀ y ∈ Q, y < 256) (hx : x < 256) : ∀ y ∈ Q.set i x, y < 256 := fun y hy => by
  rcases List.mem_or_eq_of_mem_set hy with h1 | h1
  · exact h y h1
  · rw [h1]; exact hx
theorem rep8 (n : Nat) : List.replicate n (.int .u8 0) = nats .u8 (List.replicate n 0) := by simp [nats]

theorem mof_spec (g m : Nat) (i : Int) (w : World) (hm : Ok m) (hf : Has (fieldA g m) w) : SpecB Tryd.prog 69 [.pointer (some ⟨g, 0, none⟩), .int .i64 i] w (bys (minP m (em m i))) := by
  have hmh := hm.hi
  have hcp := cos_len_pos hm (em m i)
  have hml := minP_len hm (em m i)
  have hb1 := minP_b1 hm (em m i)
  have hfm := frP_min hm (em m i)
  refine spec_of Tryd.func69 rfl Tryd.ntmps69 rfl ?_
  refine CW.seq ?_
  refine CW.reg [0] rfl ?_   -- 0, minimal.go:62
  refine s_as 4 rfl rfl ?_
  refine SX.next ?_
  refine CW.seq ?_
  refine CW.reg [0, 1, 2, 3, 4, 5, 6, 7, 8] rfl ?_   -- 1, minimal.go:63
  refine s_mv 14 rfl rfl ?_
  refine s_call1 15 rfl rfl rfl rfl (fun w hw => m_spec g m w hm (hw.old hf)) (fun _ _ => trivial) ?_
  refine s_mv 16 rfl rfl ?_
  refine s_call 17 rfl rfl rfl rfl (fun w hw => coset_spec m i w hm) (fun _ _ => trivial) (fun q17 hq17 => ?_)
  refine s_mv 13 rfl rfl ?_
  refine s_ext 18 rfl rfl rfl ?_
  refine s_ext 19 rfl rfl rfl ?_
  refine s_as 5 rfl rfl ?_
  refine s_as 6 rfl rfl ?_
  refine SX.next ?_
  refine CW.seq ?_
  refine CW.reg [0] rfl ?_   -- 2, minimal.go:64
  refine s_as 7 rfl rfl ?_
  refine SX.next ?_
  refine CW.seq ?_
  refine CW.seq ?_
  refine CW.reg [0, 1, 2] rfl ?_   -- 3, minimal.go:65
  refine s_mv 20 rfl rfl ?_
  refine s_len 21 rfl rfl ?_
  refine s_mv 22 rfl rfl ?_
  refine SX.next ?_
  refine CW.block ?_
  refine CW.loop (G := Nat × List Nat × List Atom × Option Addr × Nat) (fun q => [(0, .pointer (some ⟨g, 0, none⟩)), (5, .slice q17.1 (cosP m (em m i)).length q17.2), (7, .slice q.2.2.2.1 q.1 q.2.2.2.2), (20, .slice q17.1 (cosP m (em m i)).length q17.2), (21, .int .i64 ((cosP m (em m i)).length : Nat)), (22, .int .i64 (q.1 : Nat))]) (fun q => Sto w [own 23 1 q.2.2.2.1 q.1 q.2.2.2.2 (q.2.1.map hd2), starA q.2.2.1, own 3 1 q17.1 (cosP m (em m i)).length q17.2 (nats .i64 (cosP m (em m i)))]) (fun q => q.1 ≤ (cosP m (em m i)).length ∧ q.2.1.length = q.1 ∧ ∀ (j b k : Nat), q.2.1[j]? = some b → (cosP m (em m i))[j]? = some k → blk b 3 #[.int .i64 (exz m (k : Int) : Nat), .int .i64 1] ∈ q.2.2.1) (fun q => (cosP m (em m i)).length - q.1) (0, [], [], none, 0) ⟨rfl, rfl, rfl, rfl, rfl, rfl, trivial⟩ (fun _ h => by
  have h1 := (h.begin_ 23 1).nilStar'
  exact h1.pick [0, 1, 0] rfl) ⟨Nat.zero_le _, rfl, fun j b k h => by simp at h⟩ ?_
  rintro ⟨j, bs, X, oa, oc⟩ ⟨hj, hbl, hin⟩
  simp only at hj hbl hin
  dsimp only
  refine CW.seq ?_
  refine CW.reg [0] rfl ?_   -- 4, minimal.go:65
  refine s_lt 23 rfl rfl rfl rfl ?_
  refine SX.next ?_
  refine CW.seq ?_
  refine CW.test rfl (fun hc => ?_) (fun hc => ?_)
  · skip
    have hki := cf_in (l := (cosP m (em m i))) (j := j) (by omega)
    refine CW.skip ?_
    refine KN.code ?_
    refine CW.seq ?_
    refine CW.block ?_
    refine CW.seq ?_
    refine CW.reg [0, 1, 2] rfl ?_   -- 5, minimal.go:65
    refine s_iaO 24 2 j rfl rfl rfl rfl rfl (by omega) ?_
    refine s_ldO 25 2 rfl rfl rfl (natsAtC (by omega)) ?_
    refine s_as 9 rfl rfl ?_
    refine SX.next ?_
    refine CW.reg [0, 1, 2, 3, 4, 5, 6, 7] rfl ?_   -- 6, minimal.go:66
    refine s_mv 26 rfl rfl ?_
    refine s_mv 27 rfl rfl ?_
    refine s_mv 28 rfl rfl ?_
    refine s_call1 29 rfl rfl rfl rfl (fun w hw => exp_spec g m _ w hm (hw.old hf)) (fun _ _ => trivial) ?_
    refine s_bsl 30 rfl rfl (cells := #[.int .i64 (ex m (em m (cf (cosP m (em m i)) j : Nat)) : Nat), .int .i64 1]) (by kernel_rfl) rfl (fun _ _ => trivial) (fun b30 => ?_)
    refine s_bsl 31 rfl rfl (cells := #[hd2 b30]) (by kernel_rfl) rfl (fun _ _ => trivial) (fun b31 => ?_)
    refine s_app 32 2 rfl rfl rfl rfl (ys := [hd2 b30]) (fun w hw => Has.cong ((hw.has (i := 0) rfl).blk_sl (m := 1) rfl) rfl) rfl rfl (by omega) (by unfold maxLen; omega) (by omega) (fun _ _ _ _ => trivial) (fun A2 c2 hc2 => ?_)
    refine s_as 7 rfl rfl ?_
    refine SX.end_ ?_
    refine KN.blk ?_
    refine KN.code ?_
    refine CW.reg [0, 1] rfl ?_   -- 7, minimal.go:65
    refine s_add 33 rfl rfl rfl (r := ((j + 1 : Nat) : Int)) (w64 (by omega)) ?_
    refine s_mv 22 rfl rfl ?_
    refine SX.end_ ?_
    exact KN.back (j + 1, bs ++ [b30], blk b30 3 #[.int .i64 (exz m (cf (cosP m (em m i)) j : Int) : Nat), .int .i64 1] :: X, A2, c2) ⟨rfl, rfl, rfl, rfl, rfl, rfl, trivial⟩ (fun _ h => by
      have h1 := h.pick [1, 2, 1, 1] rfl
      have h2 := h1.moreStar
      simp only [List.map_append, List.map_cons, List.map_nil]
      exact h2.pick [1, 0, 0] rfl) ⟨by simp only; omega, by simp only [List.length_append, List.length_singleton]; omega, fun t b k h1 h2 => by
      simp only at h1 ⊢
      by_cases ht : t < j
      · rw [List.getElem?_append_left (by omega)] at h1
        exact List.mem_cons_of_mem _ (hin t b k h1 h2)
      · have htl := (List.getElem?_eq_some_iff.1 h1).1
        rw [List.length_append, List.length_singleton] at htl
        obtain rfl : t = j := by omega
        rw [List.getElem?_append_right (by omega), hbl, Nat.sub_self] at h1
        rw [hki] at h2
        obtain rfl := Option.some.inj h1
        obtain rfl := Option.some.inj h2
        exact List.mem_cons_self ..⟩ (by simp only; omega)
  · skip
    have hje : j = (cosP m (em m i)).length := by omega
    subst hje
    refine CW.exit rfl ?_
    refine KN.code ?_
    refine CW.seq ?_
    refine CW.reg [0, 1, 2, 3, 4, 5] rfl ?_   -- 8, minimal.go:68
    refine s_mv 34 rfl rfl ?_
    refine s_len 35 rfl rfl ?_
    refine s_quo 36 rfl rfl rfl (by omega) (quo8 _ (by omega)) ?_
    refine s_add 37 rfl rfl rfl (r := ((((cosP m (em m i)).length / 8 + 1) : Nat) : Int)) (w64 (by omega)) ?_
    refine s_make 38 ((cosP m (em m i)).length / 8 + 1) rfl rfl rfl rfl rfl (by omega) (fun _ _ => trivial) (fun gp => ?_)
    refine SX.pre (fun _ h => h.blkOwn (q := 0) (c := ((cosP m (em m i)).length / 8 + 1)) (sz := 1) rfl (by simp) (by unfold maxLen; omega)) ?_
    refine s_as 10 rfl rfl ?_
    refine SX.next ?_
    refine CW.seq ?_
    refine CW.seq ?_
    refine CW.reg [0, 1, 2, 3, 4, 5, 6] rfl ?_   -- 9, minimal.go:69
    refine s_mv 39 rfl rfl ?_
    refine s_mv 40 rfl rfl ?_
    refine s_call 41 rfl rfl rfl rfl (fun w hw => ring_spec g w) (fun _ _ => trivial) (fun r _ => ?_)
    refine s_mkf 42 rfl rfl rfl ?_
    refine s_call 43 rfl rfl rfl rfl (fun w hw => by have := mfold_spec r g m oa (cosP m (em m i)).length oc bs (cosP m (em m i)) w hm (ring_of (hw.old hf) (hw.has (i := 0) rfl)) ((hw.has (i := 2) rfl).of_own) hbl rfl (by omega) (fun t b k h1 h2 => Has.cong (((Has.star (hw.has (i := 3) rfl) (hin t b k h1 h2))).blk_sl (m := 2) rfl) rfl); rw [hfm] at this; exact this) (fun _ _ => trivial) (fun q43 hq43 => ?_)
    refine s_len 44 rfl rfl ?_
    refine s_mv 45 rfl rfl ?_
    refine SX.next ?_
    refine CW.block ?_
    refine CW.loop (G := Nat × List Nat) (fun q => [(10, .slice (some ⟨gp, 0, none⟩) ((cosP m (em m i)).length / 8 + 1) ((cosP m (em m i)).length / 8 + 1)), (43, .slice q43.1 (minP m (em m i)).length q43.2), (44, .int .i64 ((minP m (em m i)).length : Nat)), (45, .int .i64 (q.1 : Nat))]) (fun q => Sto w [own 3 1 q43.1 (minP m (em m i)).length q43.2 (nats .i64 (minP m (em m i))), own 5 1 (some ⟨gp, 0, none⟩) ((cosP m (em m i)).length / 8 + 1) ((cosP m (em m i)).length / 8 + 1) (nats .u8 q.2)]) (fun q => q.1 ≤ (minP m (em m i)).length ∧ q.2.length = ((cosP m (em m i)).length / 8 + 1) ∧ (∀ x ∈ q.2, x < 256) ∧ ∀ j, bitN q.2 j = if j < q.1 then cf (minP m (em m i)) j else 0) (fun q => (minP m (em m i)).length - q.1) (0, List.replicate ((cosP m (em m i)).length / 8 + 1) 0) ⟨rfl, rfl, rfl, rfl, trivial⟩ (fun _ h => by
  have h1 := h.pick [0, 1] rfl
  simp only [rep8] at h1 ⊢
  exact h1) ⟨Nat.zero_le _, List.length_replicate, fun x hx => by rw [(List.mem_replicate.1 hx).2]; decide, fun j => by rw [zeros_bit, if_neg (Nat.not_lt_zero _)]⟩ ?_
    rintro ⟨n, Q⟩ ⟨hn, hQl, hQ, hQb⟩
    simp only at hn hQl hQ hQb
    dsimp only
    have hfn := hb1.le n
    have hn8 := Nat.mod_lt n (show 0 < 8 by omega)
    refine CW.seq ?_
    refine CW.reg [0] rfl ?_   -- 10, minimal.go:69
    refine s_lt 46 rfl rfl rfl rfl ?_
    refine SX.next ?_
    refine CW.seq ?_
    refine CW.test rfl (fun hc => ?_) (fun hc => ?_)
    · skip
      have hqc := cf_lt8 hQ (n / 8)
      have hnb := bn_lt hfn hn8
      have hor := or_lt8b hqc hfn hn8
      have hbs := bit_step (Q := Q) (n := n) hb1.le (by omega) hQb
      refine CW.skip ?_
      refine KN.code ?_
      refine CW.seq ?_
      refine CW.block ?_
      refine CW.seq ?_
      refine CW.reg [0, 1, 2, 3, 4] rfl ?_   -- 11, minimal.go:69
      refine s_mv 47 rfl rfl ?_
      refine s_iaO 48 0 n rfl rfl rfl rfl rfl (by omega) ?_
      refine s_ldO 49 0 rfl rfl rfl (natsAtC (by omega)) ?_
      refine s_as 11 rfl rfl ?_
      refine s_as 12 rfl rfl ?_
      refine SX.next ?_
      refine CW.regD (.st true 0 (.st true 1 (.st true 2 (.st true 3 (.st true 5 (.st true 6 (.st true 7 (.st true 8 (.st true 9 (.st false 4 (.st true 10 (.st true 11 (.st false 12 .done))))))))))))) (Sto w []) mixed (by kernel_rfl) (fun _ h => h.drew) (fun _ h => h.pick [] rfl) ?_
      refine s_mv 50 rfl rfl ?_
      refine s_mv 51 rfl rfl ?_
      refine s_quo 52 rfl rfl rfl (by omega) (quo8 n (by omega)) ?_
      refine s_iaO 53 1 (n / 8) rfl rfl rfl rfl rfl (by omega) ?_
      refine s_mv 55 rfl rfl ?_
      refine s_conv 56 rfl rfl (r := ((cf (minP m (em m i)) n : Nat) : Int)) (wu8 (by omega)) ?_
      refine s_mv 57 rfl rfl ?_
      refine s_rem 58 rfl rfl rfl (by omega) (tmod8 n) ?_
      refine s_shl 59 rfl rfl rfl (by omega) (r := ((cf (minP m (em m i)) n * 2 ^ (n % 8) : Nat) : Int)) (by rw [shl_u8 (by omega), Nat.mod_eq_of_lt hnb]) ?_
      refine s_ldO 54 1 rfl rfl rfl (natsAt8 (by omega)) ?_
      refine s_bit 60 rfl rfl rfl rfl (ibit_or_u8 hqc hnb) ?_
      refine s_iaO 61 1 (n / 8) rfl rfl rfl rfl rfl (by omega) ?_
      refine s_stO 1 rfl rfl rfl rfl rfl (by omega) (fun _ h => h.pick [] rfl) ?_
      refine SX.end_ ?_
      refine KN.blk ?_
      refine KN.code ?_
      refine CW.reg [0, 1] rfl ?_   -- 13, minimal.go:69
      refine s_add 62 rfl rfl rfl (r := ((n + 1 : Nat) : Int)) (w64 (by omega)) ?_
      refine s_mv 45 rfl rfl ?_
      refine SX.end_ ?_
      exact KN.back (n + 1, Q.set (n / 8) (cf Q (n / 8) ||| cf (minP m (em m i)) n * 2 ^ (n % 8))) ⟨rfl, rfl, rfl, rfl, trivial⟩ (fun _ h => by simp only; rw [← nats_set]; exact h) ⟨by simp only; omega, by simp only [List.length_set]; exact hQl, set_lt8b hQ hor, hbs⟩ (by simp only; omega)
    · skip
      have hne : n = (minP m (em m i)).length := by omega
      subst hne
      have hfin := bys_done hb1 (by omega) (by omega) hQ hQb
      refine CW.exit rfl ?_
      refine KN.code ?_
      refine CW.seq ?_
      refine CW.reg [0, 1] rfl ?_   -- 14, minimal.go:72
      refine s_mv 63 rfl rfl ?_
      refine s_as 4 rfl rfl ?_
      refine SX.next ?_
      refine CW.ret ?_
      exact KN.ret (rs := [.tmp 4]) Tryd.results69 rfl (fun w hw => ⟨(some ⟨gp, 0, none⟩, ((cosP m (em m i)).length / 8 + 1)), by rw [← hfin, hQl]; rfl, by rw [← hfin, hQl]; exact Nat.le_refl _, by rw [← hfin, hQl]; exact hw.pick [1] rfl⟩)
end Go.Proofs.YtompcfingkoldaaDoor
end
section
/- Leaders, the generator, its degree, walked. Conditions: the field was made by New; the errors' variables. -/
namespace Go.Proofs.YtompcfingkoldaaDoor
open Go Go.Sx Go.Fm
set_option maxRecDepth 100000
theorem cos_em {m : Nat} (n : Nat) : cosP m (em m (n : Int)) = cosP m n := by rw [em_nat, cos_mod]
theorem hd_cf (m i : Nat) : cf (cosP m i) 0 = hdP m i := by unfold hdP cf; cases cosP m i <;> rfl
theorem ldr_old {m k : Nat} (h : hdP m (2 * k + 1) ∈ (ldr m k).1) : ldr m (k + 1) = ldr m k := if_pos h
theorem ldr_new {m k : Nat} (h : hdP m (2 * k + 1) ∉ (ldr m k).1) : ldr m (k + 1) = ((ldr m k).1 ++ [hdP m (2 * k + 1)], (ldr m k).2 + (cosP m (2 * k + 1)).length) := if_neg h
theorem map_snoc (L : List Nat) (x : Nat) : ints .i64 (L.map Int.ofNat) ++ [.int .i64 (x : Nat)] = ints .i64 ((L ++ [x]).map Int.ofNat) := by simp [ints]
def tri (a b c : Value) : Value := .tuple #[a, b, c]

theorem lead_ok (m t : Nat) (_e : Nat → Addr) (w : World) (hm : Ok m) (h1 : 1 ≤ t) (h40 : t ≤ 40) (hd : (ldr m t).2 < N m) : SpecX Tryd.prog 165 [.int .i64 (m : Nat), .int .i64 (t : Nat)] w (X := Option Addr × Nat) (fun q => tri (.slice q.1 (ldr m t).1.length q.2) (.int .i64 ((ldr m t).2 : Nat)) .nilIface) (fun q => (ldr m t).1.length ≤ q.2) (fun q => [own 3 1 q.1 (ldr m t).1.length q.2 (ints .i64 ((ldr m t).1.map Int.ofNat))]) := by
  have hNs := N_succ m
  have hNp := N_pos hm
  have hmh := hm.hi
  have hpo := polyI_ne hm
  refine spec_of Tryd.func165 rfl Tryd.ntmps165 rfl ?_
  refine CW.seq ?_
  refine CW.reg [0, 1, 2] rfl ?_   -- 0, minimal.go:76
  refine s_as 4 rfl rfl ?_
  refine s_as 5 rfl rfl ?_
  refine s_as 6 rfl rfl ?_
  refine SX.next ?_
  refine CW.seq ?_
  refine CW.block ?_
  refine CW.seq ?_
  refine CW.reg [0, 1, 2, 3] rfl ?_   -- 1, minimal.go:78
  refine s_mv 13 rfl rfl ?_
  refine s_call1 14 rfl rfl rfl rfl (fun w hw => polyM_any _ w) (fun _ _ => trivial) ?_
  refine s_eq 15 rfl rfl rfl (decide_eq_false hpo) ?_
  refine s_as 12 rfl rfl ?_
  refine SX.next ?_
  refine CW.condF rfl ?_
  refine CW.seq ?_
  refine CW.reg [0, 1, 2, 3, 4, 5, 6] rfl ?_   -- 3, minimal.go:80
  refine s_mv 18 rfl rfl ?_
  refine s_lt 19 rfl rfl rfl (decide_eq_false (by omega)) ?_
  refine s_mv 20 rfl rfl ?_
  refine s_mv 21 rfl rfl ?_
  refine s_gt 22 rfl rfl rfl (decide_eq_false (by omega)) ?_
  refine s_pickF 23 rfl rfl rfl ?_
  refine s_as 17 rfl rfl ?_
  refine SX.next ?_
  refine CW.condF rfl ?_
  refine CW.skip ?_
  refine KN.blk ?_
  refine KN.code ?_
  refine CW.seq ?_
  refine CW.reg [0] rfl ?_   -- 5, minimal.go:83
  refine s_as 7 rfl rfl ?_
  refine SX.next ?_
  refine CW.seq ?_
  refine CW.reg [0] rfl ?_   -- 6, minimal.go:84
  refine s_as 8 rfl rfl ?_
  refine SX.next ?_
  refine CW.seq ?_
  refine CW.seq ?_
  refine CW.reg [0] rfl ?_   -- 7, minimal.go:85
  refine s_as 9 rfl rfl ?_
  refine SX.next ?_
  refine CW.block ?_
  refine CW.loop (G := Nat × Option Addr × Nat) (fun q => [(0, .int .i64 (m : Nat)), (1, .int .i64 (t : Nat)), (7, .slice q.2.1 (ldr m q.1).1.length q.2.2), (8, .int .i64 ((ldr m q.1).2 : Nat)), (9, .int .i64 ((2 * q.1 + 1 : Nat) : Int))]) (fun q => Sto w [own 3 1 q.2.1 (ldr m q.1).1.length q.2.2 (ints .i64 ((ldr m q.1).1.map Int.ofNat))]) (fun q => q.1 ≤ t ∧ (ldr m q.1).1.length ≤ q.2.2) (fun q => t - q.1) (0, none, 0) ⟨rfl, rfl, rfl, rfl, rfl, trivial⟩ (fun _ h => h.begin_ 3 1) ⟨Nat.zero_le _, Nat.le_refl _⟩ ?_
  rintro ⟨k, qa, qc⟩ ⟨hk, hqc⟩
  simp only at hk hqc
  dsimp only
  have hll := ldr_len (m := m) k
  have hld := ldr_le hm k
  have hmk := Nat.mul_le_mul hmh hk
  have hce := cos_em (m := m) (2 * k + 1)
  have hcp := cos_len_pos hm (2 * k + 1)
  have hh0 := hd_cf m (2 * k + 1)
  refine CW.seq ?_
  refine CW.seq ?_
  refine CW.reg [0, 1, 2, 3] rfl ?_   -- 8, minimal.go:85
  refine s_mv 25 rfl rfl ?_
  refine s_mv 26 rfl rfl ?_
  refine s_mul 27 rfl rfl rfl (r := ((2 * t : Nat) : Int)) (by rw [show (2 : Int) * ((t : Nat) : Int) = ((2 * t : Nat) : Int) by omega]; exact w64 (by omega)) ?_
  refine s_lt 28 rfl rfl rfl rfl ?_
  refine SX.next ?_
  refine CW.test rfl (fun hc => ?_) (fun hc => ?_)
  · skip
    refine CW.skip ?_
    refine KN.code ?_
    refine CW.seq ?_
    refine CW.block ?_
    refine CW.seq ?_
    refine CW.reg [0, 1, 2, 3, 4, 5, 6, 7] rfl ?_   -- 10, minimal.go:86
    refine s_mv 32 rfl rfl ?_
    refine s_mv 33 rfl rfl ?_
    refine s_call 34 rfl rfl rfl rfl (fun w hw => by have := coset_spec m ((2 * k + 1 : Nat) : Int) w hm; rw [hce] at this; exact this) (fun _ _ => trivial) (fun q34 hq34 => ?_)
    refine s_mv 31 rfl rfl ?_
    refine s_ext 35 rfl rfl rfl ?_
    refine s_ext 36 rfl rfl rfl ?_
    refine s_as 10 rfl rfl ?_
    refine s_as 11 rfl rfl ?_
    refine SX.next ?_
    refine CW.seq ?_
    refine CW.seq ?_
    refine CW.reg [0, 1] rfl ?_   -- 11, minimal.go:87
    refine s_mv 37 rfl rfl ?_
    refine s_neNN 38 rfl rfl ?_
    refine SX.next ?_
    refine CW.condF rfl ?_
    refine CW.skip ?_
    refine KN.code ?_
    refine CW.seq ?_
    refine CW.reg [0, 1, 2, 3, 4, 5] rfl ?_   -- 13, minimal.go:90
    refine s_mv 40 rfl rfl ?_
    refine s_mv 41 rfl rfl ?_
    refine s_iaO 42 0 0 rfl rfl rfl rfl rfl (by omega) ?_
    refine s_ldO 43 0 rfl rfl rfl (natsAtC (by omega)) ?_
    refine s_call1 44 rfl rfl rfl rfl (v := .bool (decide (cf (cosP m (2 * k + 1)) 0 ∈ (ldr m k).1))) (fun w hw => by have := has_spec qa (ldr m k).1.length qc ((ldr m k).1.map Int.ofNat) (cf (cosP m (2 * k + 1)) 0 : Nat) w ((hw.has (i := 1) rfl).of_own) (by omega); rw [decide_eq_decide.2 mem_nat] at this; exact this) (fun _ _ => trivial) ?_
    refine s_not 45 rfl rfl ?_
    refine SX.next ?_
    refine CW.cond rfl (fun hc => ?_) (fun hc => ?_)
    · skip
      have hno : hdP m (2 * k + 1) ∉ (ldr m k).1 := by rw [← hh0]; simpa using hc
      have hnx := ldr_new hno
      refine CW.seq ?_
      refine CW.reg [0, 1, 2, 3, 4, 5, 6] rfl ?_   -- 14, minimal.go:91
      refine s_mv 46 rfl rfl ?_
      refine s_mv 47 rfl rfl ?_
      refine s_iaO 48 0 0 rfl rfl rfl rfl rfl (by omega) ?_
      refine s_ldO 49 0 rfl rfl rfl (natsAtC (by omega)) ?_
      refine s_bsl 50 rfl rfl (cells := #[.int .i64 (cf (cosP m (2 * k + 1)) 0 : Nat)]) (by kernel_rfl) rfl (fun _ _ => trivial) (fun gb => ?_)
      refine s_app 51 2 rfl rfl rfl rfl (ys := [.int .i64 (cf (cosP m (2 * k + 1)) 0 : Nat)]) (fun w hw => Has.cong ((hw.has (i := 0) rfl).blk_sl (m := 1) rfl) rfl) rfl rfl (by omega) (by unfold maxLen; omega) (by omega) (fun _ _ _ _ => trivial) (fun A2 c2 hc2 => ?_)
      refine s_as 7 rfl rfl ?_
      refine SX.next ?_
      refine CW.reg [0, 1, 2, 3, 4] rfl ?_   -- 15, minimal.go:92
      refine s_mv 52 rfl rfl ?_
      refine s_mv 53 rfl rfl ?_
      refine s_len 54 rfl rfl ?_
      refine s_add 55 rfl rfl rfl (r := (((ldr m k).2 + (cosP m (2 * k + 1)).length : Nat) : Int)) (w64 (by omega)) ?_
      refine s_as 8 rfl rfl ?_
      refine SX.end_ ?_
      refine KN.blk ?_
      refine KN.code ?_
      refine CW.reg [0, 1, 2] rfl ?_   -- 9, minimal.go:85
      refine s_mv 29 rfl rfl ?_
      refine s_add 30 rfl rfl rfl (r := ((2 * (k + 1) + 1 : Nat) : Int)) (by rw [show ((2 * k + 1 : Nat) : Int) + 2 = ((2 * (k + 1) + 1 : Nat) : Int) by omega]; exact w64 (by omega)) ?_
      refine s_as 9 rfl rfl ?_
      refine SX.end_ ?_
      exact KN.back (k + 1, A2, c2) ⟨rfl, rfl, by simp only [hnx, List.length_append]; rfl, by simp only [hnx]; rfl, rfl, trivial⟩ (fun _ h => by
        have h1 := h.pick [2] rfl
        simp only [hnx, List.length_append, List.length_singleton]
        rw [map_snoc, hh0] at h1
        exact h1) ⟨by simp only; omega, by simp only [hnx, List.length_append, List.length_singleton]; exact hc2⟩ (by simp only; omega)
    · skip
      have hyes : hdP m (2 * k + 1) ∈ (ldr m k).1 := by rw [← hh0]; simpa using hc
      have hnx := ldr_old hyes
      refine CW.skip ?_
      refine KN.blk ?_
      refine KN.code ?_
      refine CW.reg [0, 1, 2] rfl ?_   -- 9, minimal.go:85
      refine s_mv 29 rfl rfl ?_
      refine s_add 30 rfl rfl rfl (r := ((2 * (k + 1) + 1 : Nat) : Int)) (by rw [show ((2 * k + 1 : Nat) : Int) + 2 = ((2 * (k + 1) + 1 : Nat) : Int) by omega]; exact w64 (by omega)) ?_
      refine s_as 9 rfl rfl ?_
      refine SX.end_ ?_
      exact KN.back (k + 1, qa, qc) ⟨rfl, rfl, by simp only [hnx]; rfl, by simp only [hnx]; rfl, rfl, trivial⟩ (fun _ h => by simp only [hnx]; exact h.pick [1] rfl) ⟨by simp only; omega, by simp only [hnx]; exact hqc⟩ (by simp only; omega)
  · skip
    have hke : k = t := by omega
    subst hke
    refine CW.exit rfl ?_
    refine KN.code ?_
    refine CW.seq ?_
    refine CW.seq ?_
    refine CW.reg [0, 1, 2, 3, 4] rfl ?_   -- 16, minimal.go:95
    refine s_mv 56 rfl rfl ?_
    refine s_mv 57 rfl rfl ?_
    refine s_shl 58 rfl rfl rfl (by omega) (shl_one hm) ?_
    refine s_sub 59 rfl rfl rfl (r := (((N m) : Nat) : Int)) (by rw [show (((N m) + 1 : Nat) : Int) - 1 = (((N m) : Nat) : Int) by omega]; exact w64 (by omega)) ?_
    refine s_ge 60 rfl rfl rfl (decide_eq_false (by omega)) ?_
    refine SX.next ?_
    refine CW.condF rfl ?_
    refine CW.skip ?_
    refine KN.code ?_
    refine CW.seq ?_
    refine CW.reg [0, 1, 2, 3, 4] rfl ?_   -- 18, minimal.go:98
    refine s_mv 62 rfl rfl ?_
    refine s_mv 63 rfl rfl ?_
    refine s_as 4 rfl rfl ?_
    refine s_as 5 rfl rfl ?_
    refine s_as 6 rfl rfl ?_
    refine SX.next ?_
    refine CW.ret ?_
    exact KN.ret (rs := [.tmp 4, .tmp 5, .tmp 6]) Tryd.results165 rfl (fun w hw => ⟨(qa, qc), rfl, hqc, hw⟩)

theorem lead_code (m t : Nat) (e : Nat → Addr) (w : World) (hm : Ok m) (h1 : 1 ≤ t) (h40 : t ≤ 40) (he : Er e w 2) (hd : ¬ (ldr m t).2 < N m) : Spec1 Tryd.prog 165 [.int .i64 (m : Nat), .int .i64 (t : Nat)] w (tri (.slice none 0 0) (.int .i64 0) (errV e 2)) := by
  have hNs := N_succ m
  have hNp := N_pos hm
  have hmh := hm.hi
  have hpo := polyI_ne hm
  refine spec_of Tryd.func165 rfl Tryd.ntmps165 rfl ?_
  refine CW.seq ?_
  refine CW.reg [0, 1, 2] rfl ?_   -- 0, minimal.go:76
  refine s_as 4 rfl rfl ?_
  refine s_as 5 rfl rfl ?_
  refine s_as 6 rfl rfl ?_
  refine SX.next ?_
  refine CW.seq ?_
  refine CW.block ?_
  refine CW.seq ?_
  refine CW.reg [0, 1, 2, 3] rfl ?_   -- 1, minimal.go:78
  refine s_mv 13 rfl rfl ?_
  refine s_call1 14 rfl rfl rfl rfl (fun w hw => polyM_any _ w) (fun _ _ => trivial) ?_
  refine s_eq 15 rfl rfl rfl (decide_eq_false hpo) ?_
  refine s_as 12 rfl rfl ?_
  refine SX.next ?_
  refine CW.condF rfl ?_
  refine CW.seq ?_
  refine CW.reg [0, 1, 2, 3, 4, 5, 6] rfl ?_   -- 3, minimal.go:80
  refine s_mv 18 rfl rfl ?_
  refine s_lt 19 rfl rfl rfl (decide_eq_false (by omega)) ?_
  refine s_mv 20 rfl rfl ?_
  refine s_mv 21 rfl rfl ?_
  refine s_gt 22 rfl rfl rfl (decide_eq_false (by omega)) ?_
  refine s_pickF 23 rfl rfl rfl ?_
  refine s_as 17 rfl rfl ?_
  refine SX.next ?_
  refine CW.condF rfl ?_
  refine CW.skip ?_
  refine KN.blk ?_
  refine KN.code ?_
  refine CW.seq ?_
  refine CW.reg [0] rfl ?_   -- 5, minimal.go:83
  refine s_as 7 rfl rfl ?_
  refine SX.next ?_
  refine CW.seq ?_
  refine CW.reg [0] rfl ?_   -- 6, minimal.go:84
  refine s_as 8 rfl rfl ?_
  refine SX.next ?_
  refine CW.seq ?_
  refine CW.seq ?_
  refine CW.reg [0] rfl ?_   -- 7, minimal.go:85
  refine s_as 9 rfl rfl ?_
  refine SX.next ?_
  refine CW.block ?_
  refine CW.loop (G := Nat × Option Addr × Nat) (fun q => [(0, .int .i64 (m : Nat)), (1, .int .i64 (t : Nat)), (7, .slice q.2.1 (ldr m q.1).1.length q.2.2), (8, .int .i64 ((ldr m q.1).2 : Nat)), (9, .int .i64 ((2 * q.1 + 1 : Nat) : Int))]) (fun q => Sto w [own 3 1 q.2.1 (ldr m q.1).1.length q.2.2 (ints .i64 ((ldr m q.1).1.map Int.ofNat))]) (fun q => q.1 ≤ t ∧ (ldr m q.1).1.length ≤ q.2.2) (fun q => t - q.1) (0, none, 0) ⟨rfl, rfl, rfl, rfl, rfl, trivial⟩ (fun _ h => h.begin_ 3 1) ⟨Nat.zero_le _, Nat.le_refl _⟩ ?_
  rintro ⟨k, qa, qc⟩ ⟨hk, hqc⟩
  simp only at hk hqc
  dsimp only
  have hll := ldr_len (m := m) k
  have hld := ldr_le hm k
  have hmk := Nat.mul_le_mul hmh hk
  have hce := cos_em (m := m) (2 * k + 1)
  have hcp := cos_len_pos hm (2 * k + 1)
  have hh0 := hd_cf m (2 * k + 1)
  refine CW.seq ?_
  refine CW.seq ?_
  refine CW.reg [0, 1, 2, 3] rfl ?_   -- 8, minimal.go:85
  refine s_mv 25 rfl rfl ?_
  refine s_mv 26 rfl rfl ?_
  refine s_mul 27 rfl rfl rfl (r := ((2 * t : Nat) : Int)) (by rw [show (2 : Int) * ((t : Nat) : Int) = ((2 * t : Nat) : Int) by omega]; exact w64 (by omega)) ?_
  refine s_lt 28 rfl rfl rfl rfl ?_
  refine SX.next ?_
  refine CW.test rfl (fun hc => ?_) (fun hc => ?_)
  · skip
    refine CW.skip ?_
    refine KN.code ?_
    refine CW.seq ?_
    refine CW.block ?_
    refine CW.seq ?_
    refine CW.reg [0, 1, 2, 3, 4, 5, 6, 7] rfl ?_   -- 10, minimal.go:86
    refine s_mv 32 rfl rfl ?_
    refine s_mv 33 rfl rfl ?_
    refine s_call 34 rfl rfl rfl rfl (fun w hw => by have := coset_spec m ((2 * k + 1 : Nat) : Int) w hm; rw [hce] at this; exact this) (fun _ _ => trivial) (fun q34 hq34 => ?_)
    refine s_mv 31 rfl rfl ?_
    refine s_ext 35 rfl rfl rfl ?_
    refine s_ext 36 rfl rfl rfl ?_
    refine s_as 10 rfl rfl ?_
    refine s_as 11 rfl rfl ?_
    refine SX.next ?_
    refine CW.seq ?_
    refine CW.seq ?_
    refine CW.reg [0, 1] rfl ?_   -- 11, minimal.go:87
    refine s_mv 37 rfl rfl ?_
    refine s_neNN 38 rfl rfl ?_
    refine SX.next ?_
    refine CW.condF rfl ?_
    refine CW.skip ?_
    refine KN.code ?_
    refine CW.seq ?_
    refine CW.reg [0, 1, 2, 3, 4, 5] rfl ?_   -- 13, minimal.go:90
    refine s_mv 40 rfl rfl ?_
    refine s_mv 41 rfl rfl ?_
    refine s_iaO 42 0 0 rfl rfl rfl rfl rfl (by omega) ?_
    refine s_ldO 43 0 rfl rfl rfl (natsAtC (by omega)) ?_
    refine s_call1 44 rfl rfl rfl rfl (v := .bool (decide (cf (cosP m (2 * k + 1)) 0 ∈ (ldr m k).1))) (fun w hw => by have := has_spec qa (ldr m k).1.length qc ((ldr m k).1.map Int.ofNat) (cf (cosP m (2 * k + 1)) 0 : Nat) w ((hw.has (i := 1) rfl).of_own) (by omega); rw [decide_eq_decide.2 mem_nat] at this; exact this) (fun _ _ => trivial) ?_
    refine s_not 45 rfl rfl ?_
    refine SX.next ?_
    refine CW.cond rfl (fun hc => ?_) (fun hc => ?_)
    · skip
      have hno : hdP m (2 * k + 1) ∉ (ldr m k).1 := by rw [← hh0]; simpa using hc
      have hnx := ldr_new hno
      refine CW.seq ?_
      refine CW.reg [0, 1, 2, 3, 4, 5, 6] rfl ?_   -- 14, minimal.go:91
      refine s_mv 46 rfl rfl ?_
      refine s_mv 47 rfl rfl ?_
      refine s_iaO 48 0 0 rfl rfl rfl rfl rfl (by omega) ?_
      refine s_ldO 49 0 rfl rfl rfl (natsAtC (by omega)) ?_
      refine s_bsl 50 rfl rfl (cells := #[.int .i64 (cf (cosP m (2 * k + 1)) 0 : Nat)]) (by kernel_rfl) rfl (fun _ _ => trivial) (fun gb => ?_)
      refine s_app 51 2 rfl rfl rfl rfl (ys := [.int .i64 (cf (cosP m (2 * k + 1)) 0 : Nat)]) (fun w hw => Has.cong ((hw.has (i := 0) rfl).blk_sl (m := 1) rfl) rfl) rfl rfl (by omega) (by unfold maxLen; omega) (by omega) (fun _ _ _ _ => trivial) (fun A2 c2 hc2 => ?_)
      refine s_as 7 rfl rfl ?_
      refine SX.next ?_
      refine CW.reg [0, 1, 2, 3, 4] rfl ?_   -- 15, minimal.go:92
      refine s_mv 52 rfl rfl ?_
      refine s_mv 53 rfl rfl ?_
      refine s_len 54 rfl rfl ?_
      refine s_add 55 rfl rfl rfl (r := (((ldr m k).2 + (cosP m (2 * k + 1)).length : Nat) : Int)) (w64 (by omega)) ?_
      refine s_as 8 rfl rfl ?_
      refine SX.end_ ?_
      refine KN.blk ?_
      refine KN.code ?_
      refine CW.reg [0, 1, 2] rfl ?_   -- 9, minimal.go:85
      refine s_mv 29 rfl rfl ?_
      refine s_add 30 rfl rfl rfl (r := ((2 * (k + 1) + 1 : Nat) : Int)) (by rw [show ((2 * k + 1 : Nat) : Int) + 2 = ((2 * (k + 1) + 1 : Nat) : Int) by omega]; exact w64 (by omega)) ?_
      refine s_as 9 rfl rfl ?_
      refine SX.end_ ?_
      exact KN.back (k + 1, A2, c2) ⟨rfl, rfl, by simp only [hnx, List.length_append]; rfl, by simp only [hnx]; rfl, rfl, trivial⟩ (fun _ h => by
        have h1 := h.pick [2] rfl
        simp only [hnx, List.length_append, List.length_singleton]
        rw [map_snoc, hh0] at h1
        exact h1) ⟨by simp only; omega, by simp only [hnx, List.length_append, List.length_singleton]; exact hc2⟩ (by simp only; omega)
    · skip
      have hyes : hdP m (2 * k + 1) ∈ (ldr m k).1 := by rw [← hh0]; simpa using hc
      have hnx := ldr_old hyes
      refine CW.skip ?_
      refine KN.blk ?_
      refine KN.code ?_
      refine CW.reg [0, 1, 2] rfl ?_   -- 9, minimal.go:85
      refine s_mv 29 rfl rfl ?_
      refine s_add 30 rfl rfl rfl (r := ((2 * (k + 1) + 1 : Nat) : Int)) (by rw [show ((2 * k + 1 : Nat) : Int) + 2 = ((2 * (k + 1) + 1 : Nat) : Int) by omega]; exact w64 (by omega)) ?_
      refine s_as 9 rfl rfl ?_
      refine SX.end_ ?_
      exact KN.back (k + 1, qa, qc) ⟨rfl, rfl, by simp only [hnx]; rfl, by simp only [hnx]; rfl, rfl, trivial⟩ (fun _ h => by simp only [hnx]; exact h.pick [1] rfl) ⟨by simp only; omega, by simp only [hnx]; exact hqc⟩ (by simp only; omega)
  · skip
    have hke : k = t := by omega
    subst hke
    refine CW.exit rfl ?_
    refine KN.code ?_
    refine CW.seq ?_
    refine CW.seq ?_
    refine CW.reg [0, 1, 2, 3, 4] rfl ?_   -- 16, minimal.go:95
    refine s_mv 56 rfl rfl ?_
    refine s_mv 57 rfl rfl ?_
    refine s_shl 58 rfl rfl rfl (by omega) (shl_one hm) ?_
    refine s_sub 59 rfl rfl rfl (r := (((N m) : Nat) : Int)) (by rw [show (((N m) + 1 : Nat) : Int) - 1 = (((N m) : Nat) : Int) by omega]; exact w64 (by omega)) ?_
    refine s_ge 60 rfl rfl rfl (decide_eq_true (by omega)) ?_
    refine SX.next ?_
    refine CW.condT rfl ?_
    refine CW.seq ?_
    refine CW.regD (.st true 0 (.st true 1 (.st true 2 (.st true 3 .done)))) (Sto w []) mixed (by kernel_rfl) (fun _ h => h.drew) (fun _ h => h.pick [] rfl) ?_
    refine s_ldS 61 rfl rfl (fun _ h => h.cell he) ?_
    refine s_as 4 rfl rfl ?_
    refine s_as 5 rfl rfl ?_
    refine s_as 6 rfl rfl ?_
    refine SX.next ?_
    refine CW.ret ?_
    exact KN.ret (rs := [.tmp 4, .tmp 5, .tmp 6]) Tryd.results165 rfl (fun w hw => ⟨rfl, hw.nothing⟩)

theorem lead_num (m : Nat) (t : Int) (e : Nat → Addr) (w : World) (hm : Ok m) (ht : t < 1 ∨ 40 < t) (he : Er e w 1) : Spec1 Tryd.prog 165 [.int .i64 (m : Nat), .int .i64 t] w (tri (.slice none 0 0) (.int .i64 0) (errV e 1)) := by
  have hpo := polyI_ne hm
  refine spec_of Tryd.func165 rfl Tryd.ntmps165 rfl ?_
  refine CW.seq ?_
  refine CW.reg [0, 1, 2] rfl ?_   -- 0, minimal.go:76
  refine s_as 4 rfl rfl ?_
  refine s_as 5 rfl rfl ?_
  refine s_as 6 rfl rfl ?_
  refine SX.next ?_
  refine CW.seq ?_
  refine CW.block ?_
  refine CW.seq ?_
  refine CW.reg [0, 1, 2, 3] rfl ?_   -- 1, minimal.go:78
  refine s_mv 13 rfl rfl ?_
  refine s_call1 14 rfl rfl rfl rfl (fun w hw => polyM_any _ w) (fun _ _ => trivial) ?_
  refine s_eq 15 rfl rfl rfl (decide_eq_false hpo) ?_
  refine s_as 12 rfl rfl ?_
  refine SX.next ?_
  refine CW.condF rfl ?_
  refine CW.seq ?_
  refine CW.reg [0, 1, 2, 3, 4, 5, 6] rfl ?_   -- 3, minimal.go:80
  refine s_mv 18 rfl rfl ?_
  refine s_lt 19 rfl rfl rfl rfl ?_
  refine s_mv 20 rfl rfl ?_
  refine SX.bool 20 rfl (fun hb => ?_) (fun hb => ?_)
  · skip
    skip
    refine SX.skip rfl ?_
    refine SX.skip rfl ?_
    refine s_pickT 23 rfl rfl rfl ?_
    refine s_as 17 rfl rfl ?_
    refine SX.next ?_
    refine CW.condT rfl ?_
    refine CW.seq ?_
    refine CW.regD (.st true 0 (.st true 1 (.st true 2 (.st true 3 .done)))) (Sto w []) mixed (by kernel_rfl) (fun _ h => h.drew) (fun _ h => h.pick [] rfl) ?_
    refine s_ldS 24 rfl rfl (fun _ h => h.cell he) ?_
    refine s_as 4 rfl rfl ?_
    refine s_as 5 rfl rfl ?_
    refine s_as 6 rfl rfl ?_
    refine SX.next ?_
    refine CW.ret ?_
    exact KN.ret (rs := [.tmp 4, .tmp 5, .tmp 6]) Tryd.results165 rfl (fun w hw => ⟨rfl, hw.nothing⟩)
  · skip
    have hp1 := of_decide_eq_false hb
    refine s_mv 21 rfl rfl ?_
    refine s_gt 22 rfl rfl rfl (decide_eq_true (by omega)) ?_
    refine s_pickF 23 rfl rfl rfl ?_
    refine s_as 17 rfl rfl ?_
    refine SX.next ?_
    refine CW.condT rfl ?_
    refine CW.seq ?_
    refine CW.regD (.st true 0 (.st true 1 (.st true 2 (.st true 3 .done)))) (Sto w []) mixed (by kernel_rfl) (fun _ h => h.drew) (fun _ h => h.pick [] rfl) ?_
    refine s_ldS 24 rfl rfl (fun _ h => h.cell he) ?_
    refine s_as 4 rfl rfl ?_
    refine s_as 5 rfl rfl ?_
    refine s_as 6 rfl rfl ?_
    refine SX.next ?_
    refine CW.ret ?_
    exact KN.ret (rs := [.tmp 4, .tmp 5, .tmp 6]) Tryd.results165 rfl (fun w hw => ⟨rfl, hw.nothing⟩)

theorem lead_field (m t : Int) (e : Nat → Addr) (w : World) (hm : m < 3 ∨ 14 < m) (he : Er e w 7) : Spec1 Tryd.prog 165 [.int .i64 m, .int .i64 t] w (tri (.slice none 0 0) (.int .i64 0) (errV e 7)) := by
  have hpo := (polyI_zero m).2 hm
  refine spec_of Tryd.func165 rfl Tryd.ntmps165 rfl ?_
  refine CW.seq ?_
  refine CW.reg [0, 1, 2] rfl ?_   -- 0, minimal.go:76
  refine s_as 4 rfl rfl ?_
  refine s_as 5 rfl rfl ?_
  refine s_as 6 rfl rfl ?_
  refine SX.next ?_
  refine CW.seq ?_
  refine CW.block ?_
  refine CW.seq ?_
  refine CW.reg [0, 1, 2, 3] rfl ?_   -- 1, minimal.go:78
  refine s_mv 13 rfl rfl ?_
  refine s_call1 14 rfl rfl rfl rfl (fun w hw => polyM_any _ w) (fun _ _ => trivial) ?_
  refine s_eq 15 rfl rfl rfl (decide_eq_true hpo) ?_
  refine s_as 12 rfl rfl ?_
  refine SX.next ?_
  refine CW.condT rfl ?_
  refine CW.seq ?_
  refine CW.regD (.st true 0 (.st true 1 (.st true 2 (.st true 3 .done)))) (Sto w []) mixed (by kernel_rfl) (fun _ h => h.drew) (fun _ h => h.pick [] rfl) ?_
  refine s_ldS 16 rfl rfl (fun _ h => h.cell he) ?_
  refine s_as 4 rfl rfl ?_
  refine s_as 5 rfl rfl ?_
  refine s_as 6 rfl rfl ?_
  refine SX.next ?_
  refine CW.ret ?_
  exact KN.ret (rs := [.tmp 4, .tmp 5, .tmp 6]) Tryd.results165 rfl (fun w hw => ⟨rfl, hw.nothing⟩)

theorem least_ok (m t : Nat) (e : Nat → Addr) (w : World) (hm : Ok m) (h1 : 1 ≤ t) (h40 : t ≤ 40) (hd : (ldr m t).2 < N m) : Spec1 Tryd.prog 118 [.int .i64 (m : Nat), .int .i64 (t : Nat)] w (two (.int .i64 ((ldr m t).2 : Nat)) .nilIface) := by
  refine spec_of Tryd.func118 rfl Tryd.ntmps118 rfl ?_
  refine CW.seq ?_
  refine CW.reg [0, 1] rfl ?_   -- 0, minimal.go:143
  refine s_as 4 rfl rfl ?_
  refine s_as 5 rfl rfl ?_
  refine SX.next ?_
  refine CW.seq ?_
  refine CW.reg [0, 1, 2, 3, 4, 5, 6, 7, 8, 9] rfl ?_   -- 1, minimal.go:144
  refine s_mv 10 rfl rfl ?_
  refine s_mv 11 rfl rfl ?_
  refine s_call 12 rfl rfl rfl rfl (fun w hw => lead_ok m t e w hm h1 h40 hd) (fun _ _ => trivial) (fun q hq => ?_)
  refine s_mv 9 rfl rfl ?_
  refine s_ext 13 rfl rfl rfl ?_
  refine s_ext 14 rfl rfl rfl ?_
  refine s_ext 15 rfl rfl rfl ?_
  refine s_as 6 rfl rfl ?_
  refine s_as 7 rfl rfl ?_
  refine s_as 8 rfl rfl ?_
  refine SX.next ?_
  refine CW.seq ?_
  refine CW.reg [0, 1, 2, 3] rfl ?_   -- 2, minimal.go:145
  refine s_mv 16 rfl rfl ?_
  refine s_mv 17 rfl rfl ?_
  refine s_as 4 rfl rfl ?_
  refine s_as 5 rfl rfl ?_
  refine SX.next ?_
  refine CW.ret ?_
  exact KN.ret (rs := [.tmp 4, .tmp 5]) Tryd.results118 rfl (fun w hw => ⟨rfl, hw.nothing⟩)

theorem least_code (m t : Nat) (e : Nat → Addr) (w : World) (hm : Ok m) (h1 : 1 ≤ t) (h40 : t ≤ 40) (he : Er e w 2) (hd : ¬ (ldr m t).2 < N m) : Spec1 Tryd.prog 118 [.int .i64 (m : Nat), .int .i64 (t : Nat)] w (two (.int .i64 0) (errV e 2)) := by
  refine spec_of Tryd.func118 rfl Tryd.ntmps118 rfl ?_
  refine CW.seq ?_
  refine CW.reg [0, 1] rfl ?_   -- 0, minimal.go:143
  refine s_as 4 rfl rfl ?_
  refine s_as 5 rfl rfl ?_
  refine SX.next ?_
  refine CW.seq ?_
  refine CW.reg [0, 1, 2, 3, 4, 5, 6, 7, 8, 9] rfl ?_   -- 1, minimal.go:144
  refine s_mv 10 rfl rfl ?_
  refine s_mv 11 rfl rfl ?_
  refine s_call1 12 rfl rfl rfl rfl (fun w hw => lead_code m t e w hm h1 h40 (hw.er he) hd) (fun _ _ => trivial) ?_
  refine s_mv 9 rfl rfl ?_
  refine s_ext 13 rfl rfl rfl ?_
  refine s_ext 14 rfl rfl rfl ?_
  refine s_ext 15 rfl rfl rfl ?_
  refine s_as 6 rfl rfl ?_
  refine s_as 7 rfl rfl ?_
  refine s_as 8 rfl rfl ?_
  refine SX.next ?_
  refine CW.seq ?_
  refine CW.reg [0, 1, 2, 3] rfl ?_   -- 2, minimal.go:145
  refine s_mv 16 rfl rfl ?_
  refine s_mv 17 rfl rfl ?_
  refine s_as 4 rfl rfl ?_
  refine s_as 5 rfl rfl ?_
  refine SX.next ?_
  refine CW.ret ?_
  exact KN.ret (rs := [.tmp 4, .tmp 5]) Tryd.results118 rfl (fun w hw => ⟨rfl, hw.nothing⟩)

theorem least_num (m : Nat) (t : Int) (e : Nat → Addr) (w : World) (hm : Ok m) (ht : t < 1 ∨ 40 < t) (he : Er e w 1) : Spec1 Tryd.prog 118 [.int .i64 (m : Nat), .int .i64 t] w (two (.int .i64 0) (errV e 1)) := by
  refine spec_of Tryd.func118 rfl Tryd.ntmps118 rfl ?_
  refine CW.seq ?_
  refine CW.reg [0, 1] rfl ?_   -- 0, minimal.go:143
  refine s_as 4 rfl rfl ?_
  refine s_as 5 rfl rfl ?_
  refine SX.next ?_
  refine CW.seq ?_
  refine CW.reg [0, 1, 2, 3, 4, 5, 6, 7, 8, 9] rfl ?_   -- 1, minimal.go:144
  refine s_mv 10 rfl rfl ?_
  refine s_mv 11 rfl rfl ?_
  refine s_call1 12 rfl rfl rfl rfl (fun w hw => lead_num m t e w hm ht (hw.er he)) (fun _ _ => trivial) ?_
  refine s_mv 9 rfl rfl ?_
  refine s_ext 13 rfl rfl rfl ?_
  refine s_ext 14 rfl rfl rfl ?_
  refine s_ext 15 rfl rfl rfl ?_
  refine s_as 6 rfl rfl ?_
  refine s_as 7 rfl rfl ?_
  refine s_as 8 rfl rfl ?_
  refine SX.next ?_
  refine CW.seq ?_
  refine CW.reg [0, 1, 2, 3] rfl ?_   -- 2, minimal.go:145
  refine s_mv 16 rfl rfl ?_
  refine s_mv 17 rfl rfl ?_
  refine s_as 4 rfl rfl ?_
  refine s_as 5 rfl rfl ?_
  refine SX.next ?_
  refine CW.ret ?_
  exact KN.ret (rs := [.tmp 4, .tmp 5]) Tryd.results118 rfl (fun w hw => ⟨rfl, hw.nothing⟩)

theorem least_field (m t : Int) (e : Nat → Addr) (w : World) (hm : m < 3 ∨ 14 < m) (he : Er e w 7) : Spec1 Tryd.prog 118 [.int .i64 m, .int .i64 t] w (two (.int .i64 0) (errV e 7)) := by
  refine spec_of Tryd.func118 rfl Tryd.ntmps118 rfl ?_
  refine CW.seq ?_
  refine CW.reg [0, 1] rfl ?_   -- 0, minimal.go:143
  refine s_as 4 rfl rfl ?_
  refine s_as 5 rfl rfl ?_
  refine SX.next ?_
  refine CW.seq ?_
  refine CW.reg [0, 1, 2, 3, 4, 5, 6, 7, 8, 9] rfl ?_   -- 1, minimal.go:144
  refine s_mv 10 rfl rfl ?_
  refine s_mv 11 rfl rfl ?_
  refine s_call1 12 rfl rfl rfl rfl (fun w hw => lead_field m t e w hm (hw.er he)) (fun _ _ => trivial) ?_
  refine s_mv 9 rfl rfl ?_
  refine s_ext 13 rfl rfl rfl ?_
  refine s_ext 14 rfl rfl rfl ?_
  refine s_ext 15 rfl rfl rfl ?_
  refine s_as 6 rfl rfl ?_
  refine s_as 7 rfl rfl ?_
  refine s_as 8 rfl rfl ?_
  refine SX.next ?_
  refine CW.seq ?_
  refine CW.reg [0, 1, 2, 3] rfl ?_   -- 2, minimal.go:145
  refine s_mv 16 rfl rfl ?_
  refine s_mv 17 rfl rfl ?_
  refine s_as 4 rfl rfl ?_
  refine s_as 5 rfl rfl ?_
  refine SX.next ?_
  refine CW.ret ?_
  exact KN.ret (rs := [.tmp 4, .tmp 5]) Tryd.results118 rfl (fun w hw => ⟨rfl, hw.nothing⟩)

/-! ### The product -/
def hdB (m : Nat) (q : (Option Addr × Nat) × Nat) : Value := .slice q.1.1 (bys (minP m q.2)).length q.1.2
theorem gen_take {m : Nat} (hm : Ok m) {L : List Nat} {i k : Nat} (h : L[i]? = some k) : genL m (L.take (i + 1)) = mulP 3 (genL m (L.take i)) (minP m k) := by
  rw [List.take_add_one, h]
  exact gen_snoc hm _ _
theorem bys_one : bys [1] = [1] := by decide +kernel

theorem mprod_spec (m : Nat) (A : Option Addr) (n c : Nat) (qs : List ((Option Addr × Nat) × Nat)) (w : World) (hm : Ok m) (ho : Has (sl 1 A n (qs.map (hdB m))) w) (hb : qs.length = n) (hn : n ≤ 40) (hcs : ∀ q ∈ qs, (bys (minP m q.2)).length ≤ q.1.2) (hin : ∀ q ∈ qs, Has (sl 1 q.1.1 (bys (minP m q.2)).length (nats .u8 (bys (minP m q.2)))) w) : SpecX Tryd.prog 166 [.slice A n c, .func (.func 68) #[] #[]] w (X := Option Addr × Nat) (fun q => two (.slice q.1 (bys (genL m ((qs.map (·.2)).take n))).length q.2) .nilIface) (fun q => (bys (genL m ((qs.map (·.2)).take n))).length ≤ q.2) (fun q => [own 5 1 q.1 (bys (genL m ((qs.map (·.2)).take n))).length q.2 (nats .u8 (bys (genL m ((qs.map (·.2)).take n))))]) := by
  have hmh := hm.hi
  refine spec_of Tryd.func166 rfl Tryd.ntmps166 rfl ?_
  refine CW.seq ?_
  refine CW.reg [0, 1] rfl ?_   -- 0, minimal.go:102
  refine s_as 4 rfl rfl ?_
  refine s_as 5 rfl rfl ?_
  refine SX.next ?_
  refine CW.seq ?_
  refine CW.reg [0, 1] rfl ?_   -- 1, minimal.go:103
  refine s_bsl 10 rfl rfl (cells := #[.int .u8 1]) (by kernel_rfl) rfl (fun _ _ => trivial) (fun gb => ?_)
  refine s_as 6 rfl rfl ?_
  refine SX.next ?_
  refine CW.seq ?_
  refine CW.reg [0] rfl ?_   -- 2, minimal.go:104
  refine s_as 7 rfl rfl ?_
  refine SX.next ?_
  refine CW.seq ?_
  refine CW.seq ?_
  refine CW.reg [0, 1, 2] rfl ?_   -- 3, minimal.go:105
  refine s_mv 11 rfl rfl ?_
  refine s_len 12 rfl rfl ?_
  refine s_mv 13 rfl rfl ?_
  refine SX.next ?_
  refine CW.block ?_
  refine CW.loop (G := Nat × Option Addr × Nat) (fun q => [(1, .func (.func 68) #[] #[]), (6, .slice q.2.1 (bys (genL m ((qs.map (·.2)).take q.1))).length q.2.2), (11, .slice A n c), (12, .int .i64 (n : Nat)), (13, .int .i64 (q.1 : Nat))]) (fun q => Sto w [own 5 1 q.2.1 (bys (genL m ((qs.map (·.2)).take q.1))).length q.2.2 (nats .u8 (bys (genL m ((qs.map (·.2)).take q.1))))]) (fun q => q.1 ≤ n ∧ (bys (genL m ((qs.map (·.2)).take q.1))).length ≤ q.2.2) (fun q => n - q.1) (0, some ⟨gb, 0, none⟩, 1) ⟨rfl, by rw [show bys (genL m ((qs.map (·.2)).take 0)) = [1] from bys_one]; rfl, rfl, rfl, rfl, trivial⟩ (fun _ h => by
  have h1 := h.blkOwn (q := 0) (c := 1) (sz := 1) rfl rfl (by unfold maxLen; omega)
  have e : bys (genL m ((qs.map (·.2)).take 0)) = [1] := bys_one
  simp only [e]
  exact h1) ⟨Nat.zero_le _, by rw [show bys (genL m ((qs.map (·.2)).take 0)) = [1] from bys_one]; exact Nat.le_refl _⟩ ?_
  rintro ⟨i, qa, qc⟩ ⟨hi, hqc⟩
  simp only at hi hqc
  dsimp only
  have hgb := gen_b1 hm ((qs.map (·.2)).take i)
  have hgl := gen_len hm ((qs.map (·.2)).take i)
  have hgs := gen_deg hm ((qs.map (·.2)).take i)
  have hgt : ((qs.map (·.2)).take i).length ≤ 40 := by rw [List.length_take, List.length_map]; omega
  have hmm := Nat.mul_le_mul hmh hgt
  have hbl := bys_len (genL m ((qs.map (·.2)).take i))
  refine CW.seq ?_
  refine CW.reg [0] rfl ?_   -- 4, minimal.go:105
  refine s_lt 14 rfl rfl rfl rfl ?_
  refine SX.next ?_
  refine CW.seq ?_
  refine CW.test rfl (fun hc => ?_) (fun hc => ?_)
  · skip
    obtain ⟨z, hzi⟩ : ∃ z, qs[i]? = some z := ⟨_, List.getElem?_eq_getElem (by omega)⟩
    have hzm := List.mem_of_getElem? hzi
    have hki : (qs.map (·.2))[i]? = some z.2 := by rw [List.getElem?_map, hzi]; rfl
    have hgt2 := gen_take hm hki
    have hhd : (qs.map (hdB m))[i * 1]? = some (hdB m z) := by rw [Nat.mul_one, List.getElem?_map, hzi]; rfl
    have hmb := minP_b1 hm z.2
    have hml := minP_len hm z.2
    have hcl := cos_len_pos hm z.2
    have hbm := bys_len (minP m z.2)
    generalize genL m ((qs.map (·.2)).take i) = G at hgb hgl hgs hbl hgt2 hqc ⊢
    generalize hQ : minP m z.2 = Q at hgt2 hmb hml hbm
    have hcz := hcs z hzm
    have hiz := hin z hzm
    have hhz : hdB m z = .slice z.1.1 (bys Q).length z.1.2 := by unfold hdB; rw [hQ]
    rw [hQ] at hcz hiz
    rw [hhz] at hhd
    refine CW.skip ?_
    refine KN.code ?_
    refine CW.seq ?_
    refine CW.block ?_
    refine CW.seq ?_
    refine CW.reg [0, 1, 2] rfl ?_   -- 5, minimal.go:105
    refine s_iaV 15 i (fun w hw => hw.old ho) rfl rfl rfl rfl (by omega) ?_
    refine s_ldV 16 (fun w hw => hw.old ho) rfl rfl hhd (by omega) ?_
    refine s_as 9 rfl rfl ?_
    refine SX.next ?_
    refine CW.seq ?_
    refine CW.reg [0, 1, 2, 3, 4, 5, 6, 7, 8] rfl ?_   -- 6, minimal.go:106
    refine s_mv 18 rfl rfl ?_
    refine s_mv 19 rfl rfl ?_
    refine s_mv 20 rfl rfl ?_
    refine s_call 21 rfl rfl rfl rfl (fun w hw => by have := bmul_spec qa (bys G).length qc (bys G) z.1.1 (bys Q).length z.1.2 (bys Q) w ((hw.has (i := 0) rfl).of_own) (bys_lt hgb) (by omega) hqc (hw.old hiz) (bys_lt hmb) (by omega) hcz (by rw [bl_bys hgb, bl_bys hmb]; omega); rw [bl_bys hgb, bl_bys hmb, ← hgt2] at this; exact this) (fun _ _ => trivial) (fun q21 hq21 => ?_)
    refine s_mv 17 rfl rfl ?_
    refine s_ext 22 rfl rfl rfl ?_
    refine s_ext 23 rfl rfl rfl ?_
    refine s_as 6 rfl rfl ?_
    refine s_as 7 rfl rfl ?_
    refine SX.next ?_
    refine CW.seq ?_
    refine CW.reg [0, 1] rfl ?_   -- 7, minimal.go:106
    refine s_mv 24 rfl rfl ?_
    refine s_neNN 25 rfl rfl ?_
    refine SX.next ?_
    refine CW.condF rfl ?_
    refine CW.skip ?_
    refine KN.blk ?_
    refine KN.code ?_
    refine CW.reg [0, 1] rfl ?_   -- 9, minimal.go:105
    refine s_add 27 rfl rfl rfl (r := ((i + 1 : Nat) : Int)) (w64 (by omega)) ?_
    refine s_mv 13 rfl rfl ?_
    refine SX.end_ ?_
    exact KN.back (i + 1, q21.1, q21.2) ⟨rfl, rfl, rfl, rfl, rfl, trivial⟩ (fun _ h => h.pick [0] rfl) ⟨by simp only; omega, hq21⟩ (by simp only; omega)
  · skip
    have hie : i = n := by omega
    subst hie
    refine CW.exit rfl ?_
    refine KN.code ?_
    refine CW.seq ?_
    refine CW.reg [0, 1, 2] rfl ?_   -- 10, minimal.go:110
    refine s_mv 28 rfl rfl ?_
    refine s_as 4 rfl rfl ?_
    refine s_as 5 rfl rfl ?_
    refine SX.next ?_
    refine CW.ret ?_
    exact KN.ret (rs := [.tmp 4, .tmp 5]) Tryd.results166 rfl (fun w hw => ⟨(qa, qc), rfl, hqc, hw.pick [0] rfl⟩)
end Go.Proofs.YtompcfingkoldaaDoor
end
section
/- The generator, all cosets, the chapter's examples, walked. Conditions: the field was made by New; the errors' variables. -/
namespace Go.Proofs.YtompcfingkoldaaDoor
open Go Go.Sx Go.Fm
set_option maxRecDepth 100000
theorem ldr_lt {m : Nat} (hm : Ok m) {t x : Nat} (hx : x ∈ (ldr m t).1) : x < N m := by
  obtain ⟨j, _, e⟩ := ldr_mem hm hx
  rw [e]
  exact cos_lt hm (hd_mem hm _)
theorem em_small {m : Nat} {k : Nat} (h : k < N m) : em m (k : Int) = k := by rw [em_nat, Nat.mod_eq_of_lt h]

theorem gen_ok (g m t : Nat) (e : Nat → Addr) (w : World) (hm : Ok m) (hf : Has (fieldA g m) w) (h1 : 1 ≤ t) (h40 : t ≤ 40) (hd : (ldr m t).2 < N m) : SpecX Tryd.prog 120 [.pointer (some ⟨g, 0, none⟩), .int .i64 (t : Nat)] w (X := Option Addr × Nat) (fun q => two (.slice q.1 (bys (genL m (ldr m t).1)).length q.2) .nilIface) (fun q => (bys (genL m (ldr m t).1)).length ≤ q.2) (fun q => [own 5 1 q.1 (bys (genL m (ldr m t).1)).length q.2 (nats .u8 (bys (genL m (ldr m t).1)))]) := by
  have hll := ldr_len (m := m) t
  have hmh := hm.hi
  refine spec_of Tryd.func120 rfl Tryd.ntmps120 rfl ?_
  refine CW.seq ?_
  refine CW.reg [0, 1] rfl ?_   -- 0, minimal.go:114
  refine s_as 4 rfl rfl ?_
  refine s_as 5 rfl rfl ?_
  refine SX.next ?_
  refine CW.seq ?_
  refine CW.reg [0, 1, 2, 3, 4, 5, 6, 7, 8, 9, 10] rfl ?_   -- 1, minimal.go:115
  refine s_mv 13 rfl rfl ?_
  refine s_call1 14 rfl rfl rfl rfl (fun w hw => m_spec g m w hm (hw.old hf)) (fun _ _ => trivial) ?_
  refine s_mv 15 rfl rfl ?_
  refine s_call 16 rfl rfl rfl rfl (fun w hw => lead_ok m t e w hm h1 h40 hd) (fun _ _ => trivial) (fun q16 hq16 => ?_)
  refine s_mv 12 rfl rfl ?_
  refine s_ext 17 rfl rfl rfl ?_
  refine s_ext 18 rfl rfl rfl ?_
  refine s_ext 19 rfl rfl rfl ?_
  refine s_as 6 rfl rfl ?_
  refine s_as 7 rfl rfl ?_
  refine s_as 8 rfl rfl ?_
  refine SX.next ?_
  refine CW.seq ?_
  refine CW.seq ?_
  refine CW.reg [0, 1] rfl ?_   -- 2, minimal.go:116
  refine s_mv 20 rfl rfl ?_
  refine s_neNN 21 rfl rfl ?_
  refine SX.next ?_
  refine CW.condF rfl ?_
  refine CW.skip ?_
  refine KN.code ?_
  refine CW.seq ?_
  refine CW.reg [0] rfl ?_   -- 4, minimal.go:119
  refine s_as 9 rfl rfl ?_
  refine SX.next ?_
  refine CW.seq ?_
  refine CW.seq ?_
  refine CW.reg [0, 1, 2] rfl ?_   -- 5, minimal.go:120
  refine s_mv 23 rfl rfl ?_
  refine s_len 24 rfl rfl ?_
  refine s_mv 25 rfl rfl ?_
  refine SX.next ?_
  refine CW.block ?_
  refine CW.loop (G := Nat × List ((Option Addr × Nat) × Nat) × List Atom × Option Addr × Nat) (fun q => [(0, .pointer (some ⟨g, 0, none⟩)), (9, .slice q.2.2.2.1 q.1 q.2.2.2.2), (23, .slice q16.1 (ldr m t).1.length q16.2), (24, .int .i64 ((ldr m t).1.length : Nat)), (25, .int .i64 (q.1 : Nat))]) (fun q => Sto w [own 46 1 q.2.2.2.1 q.1 q.2.2.2.2 (q.2.1.map (hdB m)), starA q.2.2.1, own 3 1 q16.1 (ldr m t).1.length q16.2 (ints .i64 ((ldr m t).1.map Int.ofNat))]) (fun q => q.1 ≤ (ldr m t).1.length ∧ q.2.1.length = q.1 ∧ q.2.1.map (·.2) = (ldr m t).1.take q.1 ∧ (∀ z ∈ q.2.1, (bys (minP m z.2)).length ≤ z.1.2) ∧ ∀ z ∈ q.2.1, own 5 1 z.1.1 (bys (minP m z.2)).length z.1.2 (nats .u8 (bys (minP m z.2))) ∈ q.2.2.1) (fun q => (ldr m t).1.length - q.1) (0, [], [], none, 0) ⟨rfl, rfl, rfl, rfl, rfl, trivial⟩ (fun _ h => by
  have h1 := (h.begin_ 46 1).nilStar'
  exact h1.pick [0, 1, 0] rfl) ⟨Nat.zero_le _, rfl, rfl, (fun z hz => by cases hz), (fun z hz => by cases hz)⟩ ?_
  rintro ⟨i, qs, X, oa, oc⟩ ⟨hi, hql, hqm, hqc, hqX⟩
  simp only at hi hql hqm hqc hqX
  dsimp only
  refine CW.seq ?_
  refine CW.reg [0] rfl ?_   -- 6, minimal.go:120
  refine s_lt 26 rfl rfl rfl rfl ?_
  refine SX.next ?_
  refine CW.seq ?_
  refine CW.test rfl (fun hc => ?_) (fun hc => ?_)
  · skip
    have hki := cf_in (l := (ldr m t).1) (j := i) (by omega)
    have hkl := ldr_lt hm (List.mem_of_getElem? hki)
    have hke := em_small hkl
    refine CW.skip ?_
    refine KN.code ?_
    refine CW.seq ?_
    refine CW.block ?_
    refine CW.seq ?_
    refine CW.reg [0, 1, 2] rfl ?_   -- 7, minimal.go:120
    refine s_iaO 27 2 i rfl rfl rfl rfl rfl (by omega) ?_
    refine s_ldO 28 2 rfl rfl rfl (v := .int .i64 (cf (ldr m t).1 i : Nat)) (by rw [← nats_ints]; exact natsAtC (by omega)) ?_
    refine s_as 11 rfl rfl ?_
    refine SX.next ?_
    refine CW.reg [0, 1, 2, 3, 4, 5, 6] rfl ?_   -- 8, minimal.go:121
    refine s_mv 29 rfl rfl ?_
    refine s_mv 30 rfl rfl ?_
    refine s_mv 31 rfl rfl ?_
    refine s_call 32 rfl rfl rfl rfl (fun w hw => by have := mof_spec g m (cf (ldr m t).1 i : Nat) w hm (hw.old hf); rw [hke] at this; exact this) (fun _ _ => trivial) (fun q32 hq32 => ?_)
    refine s_bsl 33 rfl rfl (cells := #[hdB m (q32, cf (ldr m t).1 i)]) (by kernel_rfl) rfl (fun _ _ => trivial) (fun b33 => ?_)
    refine s_app 34 2 rfl rfl rfl rfl (ys := [hdB m (q32, cf (ldr m t).1 i)]) (fun w hw => Has.cong ((hw.has (i := 0) rfl).blk_sl (m := 1) rfl) rfl) rfl rfl (by omega) (by unfold maxLen; omega) (by omega) (fun _ _ _ _ => trivial) (fun A2 c2 hc2 => ?_)
    refine s_as 9 rfl rfl ?_
    refine SX.end_ ?_
    refine KN.blk ?_
    refine KN.code ?_
    refine CW.reg [0, 1] rfl ?_   -- 9, minimal.go:120
    refine s_add 35 rfl rfl rfl (r := ((i + 1 : Nat) : Int)) (w64 (by omega)) ?_
    refine s_mv 25 rfl rfl ?_
    refine SX.end_ ?_
    exact KN.back (i + 1, qs ++ [(q32, cf (ldr m t).1 i)], own 5 1 q32.1 (bys (minP m (cf (ldr m t).1 i))).length q32.2 (nats .u8 (bys (minP m (cf (ldr m t).1 i)))) :: X, A2, c2) ⟨rfl, rfl, rfl, rfl, rfl, trivial⟩ (fun _ h => by
      have h1 := h.pick [1, 2, 1, 1] rfl
      have h2 := h1.moreStar
      simp only [List.map_append, List.map_cons, List.map_nil]
      exact h2.pick [1, 0, 0] rfl) ⟨by simp only; omega, by simp only [List.length_append, List.length_singleton]; omega, by
      simp only [List.map_append, List.map_cons, List.map_nil]
      rw [List.take_add_one, hki, hqm]; rfl, fun z hz => by
      rcases List.mem_append.1 hz with h | h
      · exact hqc z h
      · rw [List.mem_singleton.1 h]; exact hq32, fun z hz => by
      rcases List.mem_append.1 hz with h | h
      · exact List.mem_cons_of_mem _ (hqX z h)
      · rw [List.mem_singleton.1 h]; exact List.mem_cons_self ..⟩ (by simp only; omega)
  · skip
    have hie : i = (ldr m t).1.length := by omega
    have hfin : genL m ((qs.map (·.2)).take i) = genL m (ldr m t).1 := by rw [hqm, List.take_take, Nat.min_self, hie, List.take_length]
    refine CW.exit rfl ?_
    refine KN.code ?_
    refine CW.seq ?_
    refine CW.reg [0, 1, 2, 3, 4, 5] rfl ?_   -- 10, minimal.go:123
    refine s_mv 36 rfl rfl ?_
    refine s_call 37 rfl rfl rfl rfl (fun w hw => by have := mprod_spec m oa i oc qs w hm ((hw.has (i := 0) rfl).of_own) hql (by omega) hqc (fun z hz => (Has.star (hw.has (i := 1) rfl) (hqX z hz)).of_own); rw [hfin] at this; exact this) (fun _ _ => trivial) (fun q37 hq37 => ?_)
    refine s_ext 38 rfl rfl rfl ?_
    refine s_ext 39 rfl rfl rfl ?_
    refine s_as 4 rfl rfl ?_
    refine s_as 5 rfl rfl ?_
    refine SX.next ?_
    refine CW.ret ?_
    exact KN.ret (rs := [.tmp 4, .tmp 5]) Tryd.results120 rfl (fun w hw => ⟨q37, rfl, hq37, hw.pick [0] rfl⟩)

theorem gen_code (g m t : Nat) (e : Nat → Addr) (w : World) (hm : Ok m) (hf : Has (fieldA g m) w) (h1 : 1 ≤ t) (h40 : t ≤ 40) (he : Er e w 2) (hd : ¬ (ldr m t).2 < N m) : Spec1 Tryd.prog 120 [.pointer (some ⟨g, 0, none⟩), .int .i64 (t : Nat)] w (errRes e 2) := by
  refine spec_of Tryd.func120 rfl Tryd.ntmps120 rfl ?_
  refine CW.seq ?_
  refine CW.reg [0, 1] rfl ?_   -- 0, minimal.go:114
  refine s_as 4 rfl rfl ?_
  refine s_as 5 rfl rfl ?_
  refine SX.next ?_
  refine CW.seq ?_
  refine CW.reg [0, 1, 2, 3, 4, 5, 6, 7, 8, 9, 10] rfl ?_   -- 1, minimal.go:115
  refine s_mv 13 rfl rfl ?_
  refine s_call1 14 rfl rfl rfl rfl (fun w hw => m_spec g m w hm (hw.old hf)) (fun _ _ => trivial) ?_
  refine s_mv 15 rfl rfl ?_
  refine s_call1 16 rfl rfl rfl rfl (fun w hw => lead_code m t e w hm h1 h40 (hw.er he) hd) (fun _ _ => trivial) ?_
  refine s_mv 12 rfl rfl ?_
  refine s_ext 17 rfl rfl rfl ?_
  refine s_ext 18 rfl rfl rfl ?_
  refine s_ext 19 rfl rfl rfl ?_
  refine s_as 6 rfl rfl ?_
  refine s_as 7 rfl rfl ?_
  refine s_as 8 rfl rfl ?_
  refine SX.next ?_
  refine CW.seq ?_
  refine CW.seq ?_
  refine CW.reg [0, 1] rfl ?_   -- 2, minimal.go:116
  refine s_mv 20 rfl rfl ?_
  refine s_neHN 21 rfl rfl ?_
  refine SX.next ?_
  refine CW.condT rfl ?_
  refine CW.seq ?_
  refine CW.reg [0, 1, 2] rfl ?_   -- 3, minimal.go:117
  refine s_mv 22 rfl rfl ?_
  refine s_as 4 rfl rfl ?_
  refine s_as 5 rfl rfl ?_
  refine SX.next ?_
  refine CW.ret ?_
  exact KN.ret (rs := [.tmp 4, .tmp 5]) Tryd.results120 rfl (fun w hw => ⟨rfl, hw.nothing⟩)

theorem gen_num (g m : Nat) (t : Int) (e : Nat → Addr) (w : World) (hm : Ok m) (hf : Has (fieldA g m) w) (ht : t < 1 ∨ 40 < t) (he : Er e w 1) : Spec1 Tryd.prog 120 [.pointer (some ⟨g, 0, none⟩), .int .i64 t] w (errRes e 1) := by
  refine spec_of Tryd.func120 rfl Tryd.ntmps120 rfl ?_
  refine CW.seq ?_
  refine CW.reg [0, 1] rfl ?_   -- 0, minimal.go:114
  refine s_as 4 rfl rfl ?_
  refine s_as 5 rfl rfl ?_
  refine SX.next ?_
  refine CW.seq ?_
  refine CW.reg [0, 1, 2, 3, 4, 5, 6, 7, 8, 9, 10] rfl ?_   -- 1, minimal.go:115
  refine s_mv 13 rfl rfl ?_
  refine s_call1 14 rfl rfl rfl rfl (fun w hw => m_spec g m w hm (hw.old hf)) (fun _ _ => trivial) ?_
  refine s_mv 15 rfl rfl ?_
  refine s_call1 16 rfl rfl rfl rfl (fun w hw => lead_num m t e w hm ht (hw.er he)) (fun _ _ => trivial) ?_
  refine s_mv 12 rfl rfl ?_
  refine s_ext 17 rfl rfl rfl ?_
  refine s_ext 18 rfl rfl rfl ?_
  refine s_ext 19 rfl rfl rfl ?_
  refine s_as 6 rfl rfl ?_
  refine s_as 7 rfl rfl ?_
  refine s_as 8 rfl rfl ?_
  refine SX.next ?_
  refine CW.seq ?_
  refine CW.seq ?_
  refine CW.reg [0, 1] rfl ?_   -- 2, minimal.go:116
  refine s_mv 20 rfl rfl ?_
  refine s_neHN 21 rfl rfl ?_
  refine SX.next ?_
  refine CW.condT rfl ?_
  refine CW.seq ?_
  refine CW.reg [0, 1, 2] rfl ?_   -- 3, minimal.go:117
  refine s_mv 22 rfl rfl ?_
  refine s_as 4 rfl rfl ?_
  refine s_as 5 rfl rfl ?_
  refine SX.next ?_
  refine CW.ret ?_
  exact KN.ret (rs := [.tmp 4, .tmp 5]) Tryd.results120 rfl (fun w hw => ⟨rfl, hw.nothing⟩)

theorem ok4m : Ok 4 := ⟨by decide, by decide⟩
theorem ex_m1 : cosP 4 (em 4 5) = [5, 10] := by decide +kernel
theorem ex_m2 : bys (genL 4 (ldr 4 2).1) = [209, 1] := by decide +kernel
theorem ex_m3 : (ldr 4 2).2 < N 4 := by decide +kernel
theorem ex_m4 : ¬ (ldr 4 8).2 < N 4 := by decide +kernel
theorem ex_m5 : bys (minP 4 (em 4 3)) = [31] := by decide +kernel
def mkm (k : Int) (m : Int) : Nat := (m % k).toNat + 3
theorem mkm_val {k : Int} (hk : 0 < k) (m : Int) : (m.tmod k + k).tmod k = (((m % k).toNat : Nat) : Int) := by
  have h1 := Int.emod_nonneg m (b := k) (by omega)
  have hb := tmod_lt2 hk m
  rw [Int.tmod_eq_emod_of_nonneg (by omega), Int.add_emod_right, tmod_emod]
  omega
theorem mkm_bd {k : Int} (hk : 0 < k) (m : Int) : 3 ≤ mkm k m ∧ ((mkm k m : Nat) : Int) < k + 3 := by
  have h1 := Int.emod_nonneg m (b := k) (by omega)
  have h2 := Int.emod_lt_of_pos m hk
  unfold mkm
  omega
theorem mkm_ok {k : Int} (hk : 0 < k) (hk2 : k ≤ 12) (m : Int) : Ok (mkm k m) := by
  have := mkm_bd hk m
  exact ⟨this.1, by omega⟩

theorem made5_spec (m : Int) (w : World) : SpecX Tryd.prog 65 [.int .i64 m] w (X := Nat) (fun q => two (.pointer (some ⟨q, 0, none⟩)) (.int .i64 (mkm 7 m : Nat))) (fun _ => True) (fun q => [fieldA q (mkm 7 m)]) := by
  have hm := mkm_ok (k := 7) (by omega) (by omega) m
  have hb := tmod_lt2 (k := 7) (by omega) m
  have hv := mkm_val (k := 7) (by omega) m
  have hmb := mkm_bd (k := 7) (by omega) m
  refine spec_of Tryd.func65 rfl Tryd.ntmps65 rfl ?_
  refine CW.seq ?_
  refine CW.reg [0, 1] rfl ?_   -- 0, law.go:15
  refine s_as 2 rfl rfl ?_
  refine s_as 3 rfl rfl ?_
  refine SX.next ?_
  refine CW.seq ?_
  refine CW.reg [0, 1, 2, 3, 4, 5] rfl ?_   -- 1, law.go:16
  refine s_mv 6 rfl rfl ?_
  refine s_rem 7 rfl rfl rfl (by omega) rfl ?_
  refine s_add 8 rfl rfl rfl (w64 (by omega)) ?_
  refine s_rem 9 rfl rfl rfl (by omega) hv ?_
  refine s_add 10 rfl rfl rfl (r := (mkm 7 m : Nat)) (by rw [show (((m % 7).toNat : Nat) : Int) + 3 = (mkm 7 m : Nat) by unfold mkm; omega]; exact w64 (by omega)) ?_
  refine s_as 0 rfl rfl ?_
  refine SX.next ?_
  refine CW.seq ?_
  refine CW.reg [0, 1, 2, 3, 4, 5, 6] rfl ?_   -- 2, law.go:17
  refine s_mv 12 rfl rfl ?_
  refine s_call 13 rfl rfl rfl rfl (fun w hw => new_spec _ w hm) (fun _ _ => trivial) (fun g _ => ?_)
  refine s_mv 11 rfl rfl ?_
  refine s_ext 14 rfl rfl rfl ?_
  refine s_ext 15 rfl rfl rfl ?_
  refine s_as 4 rfl rfl ?_
  refine s_as 5 rfl rfl ?_
  refine SX.next ?_
  refine CW.seq ?_
  refine CW.seq ?_
  refine CW.reg [0, 1] rfl ?_   -- 3, law.go:18
  refine s_mv 16 rfl rfl ?_
  refine s_neNN 17 rfl rfl ?_
  refine SX.next ?_
  refine CW.condF rfl ?_
  refine CW.skip ?_
  refine KN.code ?_
  refine CW.seq ?_
  refine CW.reg [0, 1, 2, 3] rfl ?_   -- 5, law.go:21
  refine s_mv 19 rfl rfl ?_
  refine s_mv 20 rfl rfl ?_
  refine s_as 2 rfl rfl ?_
  refine s_as 3 rfl rfl ?_
  refine SX.next ?_
  refine CW.ret ?_
  exact KN.ret (rs := [.tmp 2, .tmp 3]) Tryd.results65 rfl (fun w hw => ⟨g, rfl, trivial, hw⟩)

theorem first5_spec (e : Nat → Addr) (w : World) (he : Er e w 2) : Spec1 Tryd.prog 64 [] w (.bool true) := by
  refine spec_of Tryd.func64 rfl Tryd.ntmps64 rfl ?_
  refine CW.seq ?_
  refine CW.reg [0] rfl ?_   -- 0, law.go:25
  refine s_as 0 rfl rfl ?_
  refine SX.next ?_
  refine CW.seq ?_
  refine CW.reg [0, 1, 2, 3, 4, 5] rfl ?_   -- 1, law.go:26
  refine s_call 10 rfl rfl rfl rfl (fun w hw => by have := coset_spec 4 5 w ok4m; rw [ex_m1] at this; exact this) (fun _ _ => trivial) (fun q10 hq10 => ?_)
  refine s_mv 9 rfl rfl ?_
  refine s_ext 11 rfl rfl rfl ?_
  refine s_ext 12 rfl rfl rfl ?_
  refine s_as 1 rfl rfl ?_
  refine s_as 2 rfl rfl ?_
  refine SX.next ?_
  refine CW.seq ?_
  refine CW.reg [0, 1, 2, 3, 4, 5] rfl ?_   -- 2, law.go:27
  refine s_call 14 rfl rfl rfl rfl (fun w hw => new_spec 4 w ok4m) (fun _ _ => trivial) (fun g _ => ?_)
  refine s_mv 13 rfl rfl ?_
  refine s_ext 15 rfl rfl rfl ?_
  refine s_ext 16 rfl rfl rfl ?_
  refine s_as 3 rfl rfl ?_
  refine s_as 4 rfl rfl ?_
  refine SX.next ?_
  refine CW.seq ?_
  refine CW.seq ?_
  refine CW.reg [0, 1, 2, 3, 4, 5, 6, 7, 8, 9, 10, 11, 12, 13, 14, 15] rfl ?_   -- 3, law.go:28
  refine s_mv 17 rfl rfl ?_
  refine s_eqPN 18 rfl rfl ?_
  refine s_mv 19 rfl rfl ?_
  refine s_mv 20 rfl rfl ?_
  refine s_neNN 21 rfl rfl ?_
  refine s_pickF 22 rfl rfl rfl ?_
  refine s_mv 23 rfl rfl ?_
  refine s_mv 24 rfl rfl ?_
  refine s_neNN 25 rfl rfl ?_
  refine s_pickF 26 rfl rfl rfl ?_
  refine s_mv 27 rfl rfl ?_
  refine s_mv 28 rfl rfl ?_
  refine s_bsl 29 rfl rfl (cells := #[.int .i64 5, .int .i64 10]) (by kernel_rfl) rfl (fun _ _ => trivial) (fun b29 => ?_)
  refine s_call1 30 rfl rfl rfl rfl (v := .bool true) (fun w hw => by have := sameInts_spec q10.1 (some ⟨b29, 0, none⟩) 2 q10.2 2 2 ([5, 10].map Int.ofNat) [5, 10] _ (by rw [← nats_ints]; exact (hw.has (i := 2) rfl).of_own) (Has.cong ((hw.has (i := 0) rfl).blk_sl (m := 2) rfl) rfl) (by decide); exact this) (fun _ _ => trivial) ?_
  refine s_not 31 rfl rfl ?_
  refine s_pickF 32 rfl rfl rfl ?_
  refine SX.next ?_
  refine CW.condF rfl ?_
  refine CW.skip ?_
  refine KN.code ?_
  refine CW.seq ?_
  refine CW.reg [0, 1, 2, 3, 4, 5, 6] rfl ?_   -- 5, law.go:31
  refine s_mv 34 rfl rfl ?_
  refine s_call 35 rfl rfl rfl rfl (fun w hw => by have := gen_ok g 4 2 e w ok4m (hw.has (i := 1) rfl) (by decide) (by decide) ex_m3; rw [ex_m2] at this; exact this) (fun _ _ => trivial) (fun q35 hq35 => ?_)
  refine s_mv 33 rfl rfl ?_
  refine s_ext 36 rfl rfl rfl ?_
  refine s_ext 37 rfl rfl rfl ?_
  refine s_as 5 rfl rfl ?_
  refine s_as 6 rfl rfl ?_
  refine SX.next ?_
  refine CW.seq ?_
  refine CW.reg [0, 1, 2, 3, 4, 5, 6] rfl ?_   -- 6, law.go:32
  refine s_mv 39 rfl rfl ?_
  refine s_call1 40 rfl rfl rfl rfl (fun w hw => gen_code g 4 8 e w ok4m (hw.has (i := 2) rfl) (by decide) (by decide) (hw.er he) ex_m4) (fun _ _ => trivial) ?_
  refine s_mv 38 rfl rfl ?_
  refine s_ext 41 rfl rfl rfl ?_
  refine s_ext 42 rfl rfl rfl ?_
  refine s_as 7 rfl rfl ?_
  refine s_as 8 rfl rfl ?_
  refine SX.next ?_
  refine CW.seq ?_
  refine CW.reg [0, 1, 2, 3, 4, 5, 6, 7, 8, 9, 10, 11, 12, 13, 14, 15, 16, 17, 18] rfl ?_   -- 7, law.go:33
  refine s_mv 43 rfl rfl ?_
  refine s_call 44 rfl rfl rfl rfl (fun w hw => by have := mof_spec g 4 3 w ok4m (hw.has (i := 2) rfl); rw [ex_m5] at this; exact this) (fun _ _ => trivial) (fun q44 hq44 => ?_)
  refine s_bsl 45 rfl rfl (cells := #[.int .u8 31]) (by kernel_rfl) rfl (fun _ _ => trivial) (fun b45 => ?_)
  refine s_call1 46 rfl rfl rfl rfl (v := .bool true) (fun w hw => by have := sameBytes_spec q44.1 1 q44.2 [31] (some ⟨b45, 0, none⟩) 1 1 [31] w ((hw.has (i := 1) rfl).of_own) (by decide) (Has.cong ((hw.has (i := 0) rfl).blk_sl (m := 1) rfl) rfl) (by decide); exact this) (fun _ _ => trivial) ?_
  refine s_mv 47 rfl rfl ?_
  refine s_mv 48 rfl rfl ?_
  refine s_eqNN 49 rfl rfl ?_
  refine s_pickT 50 rfl rfl rfl ?_
  refine s_mv 51 rfl rfl ?_
  refine s_mv 52 rfl rfl ?_
  refine s_bsl 53 rfl rfl (cells := #[.int .u8 209, .int .u8 1]) (by kernel_rfl) rfl (fun _ _ => trivial) (fun b53 => ?_)
  refine s_call1 54 rfl rfl rfl rfl (v := .bool true) (fun w hw => by have := sameBytes_spec q35.1 2 q35.2 [209, 1] (some ⟨b53, 0, none⟩) 2 2 [209, 1] w ((hw.has (i := 3) rfl).of_own) (by decide) (Has.cong ((hw.has (i := 0) rfl).blk_sl (m := 2) rfl) rfl) (by decide); exact this) (fun _ _ => trivial) ?_
  refine s_pickT 55 rfl rfl rfl ?_
  refine s_mv 56 rfl rfl ?_
  refine s_mv 57 rfl rfl ?_
  refine s_ld 58 rfl rfl (fun _ h => h.cell he) ?_
  refine s_eqE 59 rfl rfl rfl ?_
  refine s_pickT 60 rfl rfl rfl ?_
  refine s_as 0 rfl rfl ?_
  refine SX.next ?_
  refine CW.ret ?_
  exact KN.ret (rs := [.tmp 0]) Tryd.results64 rfl (fun w hw => ⟨rfl, hw.nothing⟩)
end Go.Proofs.YtompcfingkoldaaDoor
end
