/- The walk of the statement BinSays, text 3. Conditions: each theorem tells its own. -/
import Derived.Test.YtcdmmfpgeagimaaDoorWBinSaysB
import Derived.Laws.BytesArg
import Derived.Laws.Strings
import Derived.Sort.Grow
import Derived.Shelf.Sort.Plain
import Derived.Test.YtcdmmfpgeagimaaDoorProg
import Derived.Test.YtcdmmfpgeagimaaDoorWBinSaysA
section
/- The polynomials whose roots are a coset's powers: their coefficients are 0 and 1. Plain mathematics. Condition: Ok m. -/
namespace Go.Fm
open Go Go.Proofs.YtcdmmfpgeagimaaDoor
/-- The product of x + r. -/
def prodL (m : Nat) : List Nat → List Nat
  | [] => [1]
  | r :: t => mulP m (prodL m t) [r, 1]
def sqP (m : Nat) (a : List Nat) : List Nat := a.map (fun x => gm m x x)
def minP (m i : Nat) : List Nat := prodL m ((cosP m i).map (fun k : Nat => exz m (k : Int)))
variable {m : Nat} (hm : Ok m)
include hm
theorem prodL_tr : ∀ {L : List Nat}, (∀ r ∈ L, r < 2 ^ m) → Tr m (prodL m L)
  | [], _ => ⟨fun x hx => by rw [List.mem_singleton.1 hx]; exact one_lt hm, rfl⟩
  | r :: t, h => mulP_tr hm (prodL_tr (fun x hx => h x (List.mem_cons_of_mem _ hx))) (lin_tr hm (h r (List.mem_cons_self ..)))
theorem prodL_perm {L L' : List Nat} (hp : L.Perm L') (h : ∀ r ∈ L, r < 2 ^ m) : prodL m L = prodL m L' := by
  induction hp with
  | nil => rfl
  | cons x _ ih => show mulP m _ _ = mulP m _ _; rw [ih (fun r hr => h r (List.mem_cons_of_mem _ hr))]
  | swap x y l =>
    have hx := lin_tr hm (h x (by simp))
    have hy := lin_tr hm (h y (by simp))
    have hl := prodL_tr hm (L := l) (fun r hr => h r (by simp [hr]))
    show mulP m (mulP m (prodL m l) [x, 1]) [y, 1] = mulP m (mulP m (prodL m l) [y, 1]) [x, 1]
    rw [mulP_assoc hm hl hx hy, mulP_comm hm hx hy, ← mulP_assoc hm hl hy hx]
  | trans h1 _ ih1 ih2 => rw [ih1 h, ih2 (fun r hr => h r (h1.mem_iff.2 hr))]
omit hm in
theorem lin_cf (r i : Nat) : cf [r, 1] i = (if i = 0 then r else 0) ^^^ (if i = 1 then 1 else 0) := by
  match i with
  | 0 => simp [cf]
  | 1 => simp [cf]
  | i + 2 => simp [cf]
theorem frS_mul {p : List Nat} (hp : Tr m p) {a : Nat} (ha : a < 2 ^ m) (j : Nat) : cf (mulP m p [a, 1]) j = cf (frS m p a) j := by
  rw [cf_frS, cf_mulP, cv_comm hm hp.c (lin_tr hm ha).c, show cf [a, 1] = (fun i => (if i = 0 then a else 0) ^^^ (if i = 1 then 1 else 0)) from funext (lin_cf a)]
  rw [cv_add_left hm (fun i => by split; exact ha; exact Nat.two_pow_pos m) (fun i => by split; exact one_lt hm; exact Nat.two_pow_pos m), cv_one, cv_one, if_pos (Nat.zero_le _), Nat.sub_zero, gm_comm hm ha (hp.c j), Nat.xor_comm]
  congr 1
  match j with
  | 0 => rw [if_neg (by omega), cf_cons_zero]
  | j + 1 => rw [if_pos (by omega), cf_cons_succ, Nat.add_sub_cancel, gm_one_left hm (hp.c j)]
theorem frP_next (l : List Int) (i : Nat) : mulP m (frP m l i) [lo m (l.getD i 0), 1] = frP m l (i + 1) :=
  (mulP_tr hm (frP_tr hm l i) (lin_tr hm (lo_lt m _))).ext (frP_tr hm l (i + 1)) (fun j => frS_mul hm (frP_tr hm l i) (lo_lt m _) j)
theorem frP_prod (l : List Int) : ∀ i, i ≤ l.length → frP m l i = prodL m (lowL m (l.take i)).reverse
  | 0, _ => rfl
  | i + 1, h => by
    rw [← frP_next hm, frP_prod l i (by omega), lowL_take m l (by omega), List.reverse_append]
    rfl
theorem frP_all (l : List Int) : frP m l l.length = prodL m (lowL m l) := by
  rw [frP_prod hm l _ (Nat.le_refl _), List.take_length]
  exact prodL_perm hm (List.reverse_perm _) (fun r hr => lowL_lt m l r (List.mem_reverse.1 hr))
theorem prodL_len : ∀ {L : List Nat}, (∀ r ∈ L, r < 2 ^ m) → (prodL m L).length = L.length + 1
  | [], _ => rfl
  | r :: t, h => by
    have ht : ∀ x ∈ t, x < 2 ^ m := fun x hx => h x (List.mem_cons_of_mem _ hx)
    have := prodL_len ht
    show (mulP m (prodL m t) [r, 1]).length = _
    rw [mulP_len hm (prodL_tr hm ht) (lin_tr hm (h r (List.mem_cons_self ..))) (by omega) (by simp), this]
    simp
theorem prodL_root {x : Nat} (hx : x < 2 ^ m) : ∀ {L : List Nat}, (∀ r ∈ L, r < 2 ^ m) → (evL m (prodL m L) x = 0 ↔ x ∈ L)
  | [], _ => by
    have : evL m [1] x = 1 := by unfold evL evL; rw [gm_zero_left, Nat.zero_xor]
    show evL m [1] x = 0 ↔ _
    rw [this]
    simp
  | r :: t, h => by
    have hr := h r (List.mem_cons_self ..)
    have ht : ∀ x ∈ t, x < 2 ^ m := fun x hx => h x (List.mem_cons_of_mem _ hx)
    have hp := prodL_tr hm ht
    have ih := prodL_root hx ht
    show evL m (mulP m (prodL m t) [r, 1]) x = 0 ↔ _
    rw [evL_mul hm hp.lt (lin_tr hm hr).lt x hx, evL_lin hm hr hx, List.mem_cons]
    constructor
    · intro h0
      by_cases h1 : evL m (prodL m t) x = 0
      · exact .inr (ih.1 h1)
      · by_cases h2 : x ^^^ r = 0
        · exact .inl (xor_eq_zero' hm h2)
        · exact absurd h0 (gm_ne_zero hm (evL_lt hm x hp.lt) (xor_lt hx hr) h1 h2)
    · rintro (rfl | h1)
      · rw [Nat.xor_self, gm_zero_right]
      · rw [ih.2 h1, gm_zero_left]
/-! ### Squares of coefficients -/
omit hm in
theorem cf_sqP (a : List Nat) (j : Nat) : cf (sqP m a) j = gm m (cf a j) (cf a j) := by
  unfold sqP
  by_cases h : j < a.length
  · simp [cf, h]
  · rw [cf_out (by rw [List.length_map]; omega), cf_out (l := a) (by omega), gm_zero_left]
theorem sq_ne {x : Nat} (hx : x < 2 ^ m) (h0 : x ≠ 0) : gm m x x ≠ 0 := gm_ne_zero hm hx hx h0 h0
theorem sqP_tr {a : List Nat} (h : Tr m a) : Tr m (sqP m a) := by
  refine ⟨fun x hx => ?_, ?_⟩
  · obtain ⟨y, hy, rfl⟩ := List.mem_map.1 hx
    exact gm_lt hm (h.lt y hy) _
  · have hl : (sqP m a).length = a.length := List.length_map _
    refine trim_of ?_
    refine Nat.le_antisymm (tl_le _) (Nat.le_of_not_lt fun hlt => ?_)
    have h1 := cf_hi (sqP m a) (a.length - 1) (by omega)
    rw [cf_sqP] at h1
    exact sq_ne hm (h.c _) (h.top (by omega)) h1
theorem sq_xs {f : Nat → Nat} (hf : ∀ i, f i < 2 ^ m) : ∀ n, gm m (xs f n) (xs f n) = xs (fun i => gm m (f i) (f i)) n
  | 0 => gm_zero_left m 0
  | n + 1 => by
    show gm m (xs f n ^^^ f n) (xs f n ^^^ f n) = _ ^^^ _
    rw [sq_xor hm (xs_lt (fun i _ => hf i)) (hf n), sq_xs hf n]
theorem sq_gm {a b : Nat} (ha : a < 2 ^ m) (hb : b < 2 ^ m) : gm m (gm m a b) (gm m a b) = gm m (gm m a a) (gm m b b) := by
  rw [gm_assoc hm ha hb (gm_lt hm ha b), gm_assoc hm ha ha (gm_lt hm hb b)]
  congr 1
  rw [← gm_assoc hm hb ha hb, gm_comm hm hb ha, gm_assoc hm ha hb hb]
theorem sqP_mul {a b : List Nat} (ha : Tr m a) (hb : Tr m b) : sqP m (mulP m a b) = mulP m (sqP m a) (sqP m b) := by
  refine (sqP_tr hm (mulP_tr hm ha hb)).ext (mulP_tr hm (sqP_tr hm ha) (sqP_tr hm hb)) (fun j => ?_)
  rw [cf_sqP, cf_mulP, cf_mulP]
  unfold cv
  rw [sq_xs hm (fun i => gm_lt hm (ha.c i) _)]
  exact xs_congr (fun i _ => by rw [sq_gm hm (ha.c i) (hb.c _), cf_sqP, cf_sqP])
theorem sqP_prod : ∀ {L : List Nat}, (∀ r ∈ L, r < 2 ^ m) → sqP m (prodL m L) = prodL m (L.map (fun r => gm m r r))
  | [], _ => by show [gm m 1 1] = [1]; rw [gm_one_left hm (one_lt hm)]
  | r :: t, h => by
    have hr := h r (List.mem_cons_self ..)
    have ht : ∀ x ∈ t, x < 2 ^ m := fun x hx => h x (List.mem_cons_of_mem _ hx)
    show sqP m (mulP m (prodL m t) [r, 1]) = mulP m (prodL m (t.map _)) [gm m r r, 1]
    rw [sqP_mul hm (prodL_tr hm ht) (lin_tr hm hr), sqP_prod ht]
    congr 1
    show [gm m r r, gm m 1 1] = _
    rw [gm_one_left hm (one_lt hm)]
theorem two_of_sq {c : Nat} (hc : c < 2 ^ m) (h : gm m c c = c) : c < 2 := by
  by_cases h0 : c = 0
  · omega
  · have := gm_cancel' hm hc (one_lt hm) hc h0 (by rw [h, gm_one_left hm hc])
    omega
where
  gm_cancel' {m : Nat} (hm : Ok m) {a b c : Nat} (ha : a < 2 ^ m) (hb : b < 2 ^ m) (hc : c < 2 ^ m) (h0 : c ≠ 0) (h : gm m a c = gm m b c) : a = b := by
    refine xor_eq_zero' hm ?_
    by_cases hx : a ^^^ b = 0
    · exact hx
    · exact absurd (by rw [gm_xor_left hm ha hb, h, Nat.xor_self]) (gm_ne_zero hm (xor_lt ha hb) hc hx h0)
/-! ### A coset's -/
theorem cos_twice (i : Nat) : ((cosP m i).map (fun k => (2 * k) % N m)).Perm (cosP m i) := by
  have hnd : (cosP m i).Nodup := (cos_up m i).imp (fun h => by omega)
  have hlt : ∀ k ∈ cosP m i, k < N m := fun k hk => by obtain ⟨j, e⟩ := (cos_mem hm).1 hk; rw [← e]; exact cst_lt hm i j
  have hc1 : ∀ k, (2 * k) % N m = cst m k 1 := fun k => by unfold cst; rw [Nat.pow_one, Nat.mul_comm]
  refine (List.perm_ext_iff_of_nodup ?_ hnd).2 (fun x => ?_)
  · refine List.Pairwise.map _ (R := fun a b => a < N m ∧ b < N m ∧ a ≠ b) (fun a b ⟨h1, h2, h3⟩ he => h3 (cst_inj hm h1 h2 (k := 1) (by rw [← hc1, ← hc1]; exact he))) ?_
    exact List.Pairwise.imp_of_mem (fun {a b} h1 h2 h3 => ⟨hlt a h1, hlt b h2, h3⟩) hnd
  · rw [List.mem_map, cos_mem hm]
    constructor
    · rintro ⟨k, hk, rfl⟩
      obtain ⟨j, e⟩ := (cos_mem hm).1 hk
      exact ⟨j + 1, by rw [cst_succ, e]⟩
    · rintro ⟨j, e⟩
      refine ⟨cst m i (j + m - 1), (cos_mem hm).2 ⟨_, rfl⟩, ?_⟩
      have hlo := hm.lo
      rw [← cst_succ, show j + m - 1 + 1 = j + m by omega, cst_m hm, e]
omit hm in
theorem exz_nat (k : Nat) : exz m (k : Int) = ex m (k % N m) := by unfold exz; rw [em_nat]
theorem cosR_lt (i : Nat) : ∀ r ∈ (cosP m i).map (fun k : Nat => exz m (k : Int)), r < 2 ^ m := fun r hr => by
  obtain ⟨k, _, rfl⟩ := List.mem_map.1 hr
  exact exz_lt hm _
theorem minP_tr (i : Nat) : Tr m (minP m i) := prodL_tr hm (cosR_lt hm i)
theorem minP_len (i : Nat) : (minP m i).length = (cosP m i).length + 1 := by unfold minP; rw [prodL_len hm (cosR_lt hm i), List.length_map]
theorem minP_sq (i : Nat) : sqP m (minP m i) = minP m i := by
  unfold minP
  rw [sqP_prod hm (cosR_lt hm i), List.map_map]
  have e : (cosP m i).map ((fun r => gm m r r) ∘ fun k : Nat => exz m (k : Int)) = ((cosP m i).map (fun k => (2 * k) % N m)).map (fun k : Nat => exz m (k : Int)) := by
    rw [List.map_map]
    refine List.map_congr_left (fun k _ => ?_)
    show gm m (exz m k) (exz m k) = exz m (((2 * k) % N m : Nat) : Int)
    rw [exz_add hm, exz_nat, Nat.mod_mod, show ((k : Int) + (k : Int)) = ((2 * k : Nat) : Int) by omega, exz_nat]
  rw [e]
  refine prodL_perm hm ((cos_twice hm i).map _) (fun r hr => ?_)
  obtain ⟨k, _, rfl⟩ := List.mem_map.1 hr
  exact exz_lt hm _
theorem minP_b1 (i : Nat) : B1 (minP m i) := by
  have h := minP_tr hm i
  have hle : ∀ j, cf (minP m i) j < 2 := fun j => two_of_sq hm (h.c j) (by rw [← cf_sqP, minP_sq hm])
  refine ⟨⟨fun x hx => ?_, h.eq⟩, hle⟩
  obtain ⟨j, hj, e⟩ := List.getElem_of_mem hx
  have := hle j
  rw [show cf (minP m i) j = x by rw [← e]; simp [cf, hj]] at this
  omega
theorem minP_root (i x : Nat) (hx : x < N m) : evL m (minP m i) (exz m x) = 0 ↔ x ∈ cosP m i := by
  unfold minP
  rw [prodL_root hm (exz_lt hm _) (cosR_lt hm i), List.mem_map]
  constructor
  · rintro ⟨k, hk, e⟩
    have hkl : k < N m := by obtain ⟨j, e2⟩ := (cos_mem hm).1 hk; rw [← e2]; exact cst_lt hm i j
    have := exz_inj hm e
    rw [Int.emod_eq_of_lt (by omega) (by omega), Int.emod_eq_of_lt (by omega) (by omega)] at this
    rw [show x = k by omega]; exact hk
  · intro h; exact ⟨x, h, rfl⟩
theorem minP_top (i : Nat) : cf (minP m i) (cosP m i).length = 1 := by
  have h := (minP_b1 hm i).top (by rw [minP_len hm]; omega)
  rwa [minP_len hm, Nat.add_sub_cancel] at h
theorem minP_same {i j : Nat} (h : j ∈ cosP m i) : minP m j = minP m i := by unfold minP; rw [cos_same hm h]
end Go.Fm
end
section
/- Polynomials over two elements, seen over a field: values, divisors, generators. Plain mathematics. Condition: Ok m. -/
namespace Go.Fm
open Go Go.Proofs.YtcdmmfpgeagimaaDoor
variable {m : Nat} (hm : Ok m)
include hm
omit hm in
theorem two_pow (h : Ok m) : 2 ≤ 2 ^ m := by have := one_lt h; omega
theorem b1_tr {a : List Nat} (h : B1 a) : Tr m a := ⟨fun x hx => by
  obtain ⟨j, hj, e⟩ := List.getElem_of_mem hx
  have := h.le j
  have h2 := two_pow hm
  rw [show cf a j = x by rw [← e]; simp [cf, hj]] at this
  omega, h.tr.eq⟩
theorem gm_bit {a b : Nat} (ha : a < 2) (hb : b < 2) : gm m a b = gm 3 a b := by
  have h1 := one_lt hm
  rcases (show a = 0 ∨ a = 1 by omega) with rfl | rfl
  · rw [gm_zero_left, gm_zero_left]
  · rw [gm_one_left hm (by omega), gm_one_left ok3 (by omega)]
theorem mulP_lift {a b : List Nat} (ha : B1 a) (hb : B1 b) : mulP 3 a b = mulP m a b :=
  (b1_tr hm (mulP_b1 ha hb)).ext (mulP_tr hm (b1_tr hm ha) (b1_tr hm hb)) (fun j => by
    rw [cf_mulP, cf_mulP]
    exact xs_congr (fun i _ => (gm_bit hm (ha.le i) (hb.le _)).symm))
/-- A polynomial over two elements has the square where it has the value. -/
theorem b1_frob {q : List Nat} (h : B1 q) {x : Nat} (hx : x < 2 ^ m) : evL m q (gm m x x) = gm m (evL m q x) (evL m q x) := by
  have ht := b1_tr hm h
  rw [evL_xs hm (gm_lt hm hx x) ht.lt, evL_xs hm hx ht.lt, sq_xs hm (fun i => gm_lt hm (ht.c i) _)]
  refine xs_congr (fun k _ => ?_)
  rw [sq_gm hm (ht.c k) (fpw_lt hm _ _), gm_bit hm (h.le k) (h.le k), gm_two (h.le k) (h.le k), fpw_sq hm hx, show 2 * k = k + k by omega, fpw_add hm hx]
  congr 1
  rcases (show cf q k = 0 ∨ cf q k = 1 by have := h.le k; omega) with h0 | h0 <;> rw [h0]
theorem b1_root {q : List Nat} (h : B1 q) {k : Nat} (hz : evL m q (exz m (k : Nat)) = 0) (j : Nat) : evL m q (exz m (cst m k j : Nat)) = 0 := by
  induction j with
  | zero =>
    rw [exz_nat, show cst m k 0 % N m = k % N m by unfold cst; simp, ← exz_nat]; exact hz
  | succ j ih =>
    have e : exz m (cst m k (j + 1) : Nat) = gm m (exz m (cst m k j : Nat)) (exz m (cst m k j : Nat)) := by
      rw [exz_add hm, cst_succ, exz_nat, Nat.mod_mod, show ((cst m k j : Nat) : Int) + ((cst m k j : Nat) : Int) = ((2 * cst m k j : Nat) : Int) by omega, exz_nat]
    rw [e, b1_frob hm h (exz_lt hm _), ih, gm_zero_left]
/-- So many unlike places are roots. -/
theorem b1_many {q : List Nat} (ht : Tr m q) (h0 : q.length ≠ 0) {L : List Nat} (hL : L.Nodup) (hN : ∀ k ∈ L, k < N m) (hz : ∀ k ∈ L, evL m q (exz m (k : Nat)) = 0) : L.length ≤ q.length - 1 := by
  have h := roots_le hm (L.map (fun k : Nat => exz m (k : Nat))) ht h0 ?_ ?_
  · rwa [List.length_map] at h
  · refine List.Pairwise.map _ (R := fun i j => i < N m ∧ j < N m ∧ i ≠ j) (fun i j ⟨h1, h2, h3⟩ he => ?_) (List.Pairwise.imp_of_mem (fun {i j} h1 h2 h3 => ⟨hN i h1, hN j h2, h3⟩) hL)
    have := exz_inj hm he
    rw [Int.emod_eq_of_lt (by omega) (by omega), Int.emod_eq_of_lt (by omega) (by omega)] at this
    omega
  · intro x hx
    obtain ⟨k, hk, rfl⟩ := List.mem_map.1 hx
    exact ⟨exz_lt hm _, hz k hk⟩
theorem cos_nodup (i : Nat) : (cosP m i).Nodup := by have := hm; exact (cos_up m i).imp (fun h => by omega)
theorem cos_lt {i k : Nat} (hk : k ∈ cosP m i) : k < N m := by obtain ⟨j, e⟩ := (cos_mem hm).1 hk; rw [← e]; exact cst_lt hm i j
theorem cos_self (i : Nat) (hi : i < N m) : i ∈ cosP m i := (cos_mem hm).2 ⟨0, by unfold cst; rw [Nat.pow_zero, Nat.mul_one, Nat.mod_eq_of_lt hi]⟩
/-- One root of a polynomial over two elements: the whole coset are its roots. -/
theorem b1_coset {q : List Nat} (h : B1 q) {i k : Nat} (hk : k ∈ cosP m i) (hz : evL m q (exz m (k : Nat)) = 0) : ∀ x ∈ cosP m i, evL m q (exz m (x : Nat)) = 0 := fun x hx => by
  rw [← cos_same hm hk] at hx
  obtain ⟨j, e⟩ := (cos_mem hm).1 hx
  rw [← e]
  exact b1_root hm h hz j
/-- A divisor of a coset's polynomial is the whole, or has no degree. -/
theorem min_irr {i : Nat} {q h : List Nat} (hq : B1 q) (hh : B1 h) (he : mulP 3 q h = minP m i) : q.length = 1 ∨ q.length = (minP m i).length := by
  have hP := minP_len hm i
  have hpos := cos_len_pos hm i
  have hq0 : q.length ≠ 0 := fun h0 => by
    rw [List.eq_nil_of_length_eq_zero h0, mulP_nil_l] at he
    rw [← he] at hP; simp at hP
  have hh0 : h.length ≠ 0 := fun h0 => by
    rw [List.eq_nil_of_length_eq_zero h0, mulP_nil_r] at he
    rw [← he] at hP; simp at hP
  have hlen := mulP_len ok3 hq.tr hh.tr hq0 hh0
  rw [he, hP] at hlen
  have htq := b1_tr hm hq
  have hth := b1_tr hm hh
  by_cases hr : ∃ k ∈ cosP m i, evL m q (exz m (k : Nat)) = 0
  · obtain ⟨k, hk, hz⟩ := hr
    have := b1_many hm htq hq0 (cos_nodup hm i) (fun k hk => cos_lt hm hk) (b1_coset hm hq hk hz)
    right; omega
  · have hall : ∀ k ∈ cosP m i, evL m h (exz m (k : Nat)) = 0 := fun k hk => by
      have h1 := (minP_root hm i k (cos_lt hm hk)).2 hk
      rw [← he, mulP_lift hm hq hh, evL_mul hm htq.lt hth.lt _ (exz_lt hm _)] at h1
      refine Classical.byContradiction fun h2 => ?_
      exact gm_ne_zero hm (evL_lt hm _ htq.lt) (evL_lt hm _ hth.lt) (fun h3 => hr ⟨k, hk, h3⟩) h2 h1
    have := b1_many hm hth hh0 (cos_nodup hm i) (fun k hk => cos_lt hm hk) hall
    left; omega
/-- What is 0 at a coset's powers is divided by its polynomial. -/
theorem min_dvd {i : Nat} {a : List Nat} (ha : B1 a) (hz : ∀ k ∈ cosP m i, evL m a (exz m (k : Nat)) = 0) : restP 3 a (minP m i) = [] := by
  have hb := minP_b1 hm i
  have hP := minP_len hm i
  have hb0 : (minP m i).length ≠ 0 := by omega
  have hr := restP_b1 ha hb hb0
  have hq := quotP_b1 ha hb hb0
  have hlen := restP_len ok3 (a := a) (b := minP m i) ha.tr.lt hb.tr.lt hb0 (hb.tr.top hb0)
  have hd := div_eq ok3 ha.tr hb.tr hb0
  have hrz : ∀ k ∈ cosP m i, evL m (restP 3 a (minP m i)) (exz m (k : Nat)) = 0 := fun k hk => by
    have h1 := hz k hk
    rw [← hd, evL_add hm (b1_tr hm (mulP_b1 hq hb)).lt (b1_tr hm hr).lt, mulP_lift hm hq hb, evL_mul hm (b1_tr hm hq).lt (b1_tr hm hb).lt _ (exz_lt hm _), (minP_root hm i k (cos_lt hm hk)).2 hk, gm_zero_right, Nat.zero_xor] at h1
    exact h1
  by_cases h0 : (restP 3 a (minP m i)).length = 0
  · exact List.eq_nil_of_length_eq_zero h0
  · have := b1_many hm (b1_tr hm hr) h0 (cos_nodup hm i) (fun k hk => cos_lt hm hk) hrz
    omega
end Go.Fm
end
section
/- Leaders of cosets, and generators. Plain mathematics. Condition: Ok m. -/
namespace Go.Fm
open Go Go.Proofs.YtcdmmfpgeagimaaDoor
/-- The least of a coset. -/
def hdP (m i : Nat) : Nat := (cosP m i).headD 0
/-- The least of the unlike cosets of the first k odd numbers, and how many numbers they have. -/
def ldr (m : Nat) : Nat → List Nat × Nat
  | 0 => ([], 0)
  | k + 1 => if hdP m (2 * k + 1) ∈ (ldr m k).1 then ldr m k else ((ldr m k).1 ++ [hdP m (2 * k + 1)], (ldr m k).2 + (cosP m (2 * k + 1)).length)
def genL (m : Nat) (L : List Nat) : List Nat := L.foldl (fun p k => mulP 3 p (minP m k)) [1]
variable {m : Nat} (hm : Ok m)
theorem cst_mod (m i j : Nat) : cst m (i % N m) j = cst m i j := by unfold cst; rw [Nat.mul_mod, Nat.mod_mod, ← Nat.mul_mod]
theorem cos_mod (m i : Nat) : cosP m (i % N m) = cosP m i := by unfold cosP; simp only [cst_mod]
include hm
theorem hd_mem (i : Nat) : hdP m i ∈ cosP m i := by
  have := (cos_len_pos hm i).1
  unfold hdP
  match h : cosP m i with
  | [] => rw [h] at this; simp at this
  | a :: t => exact List.mem_cons_self ..
theorem hd_same {i j : Nat} (h : j ∈ cosP m i) : hdP m j = hdP m i := by unfold hdP; rw [cos_same hm h]
theorem ldr_mem {k x : Nat} (hx : x ∈ (ldr m k).1) : ∃ j, j < k ∧ x = hdP m (2 * j + 1) := by
  have := hm
  induction k with
  | zero => cases hx
  | succ k ih =>
    unfold ldr at hx
    split at hx
    · obtain ⟨j, hj, e⟩ := ih hx; exact ⟨j, by omega, e⟩
    · rcases List.mem_append.1 hx with h | h
      · obtain ⟨j, hj, e⟩ := ih h; exact ⟨j, by omega, e⟩
      · exact ⟨k, by omega, List.mem_singleton.1 h⟩
omit hm in
theorem ldr_has {k j : Nat} (h : j < k) : hdP m (2 * j + 1) ∈ (ldr m k).1 := by
  induction k with
  | zero => omega
  | succ k ih =>
    unfold ldr
    by_cases hjk : j = k
    · subst hjk
      split
      · rename_i h2; exact h2
      · exact List.mem_append.2 (.inr (List.mem_singleton.2 rfl))
    · split
      · exact ih (by omega)
      · exact List.mem_append.2 (.inl (ih (by omega)))
omit hm in
theorem ldr_nodup (k : Nat) : (ldr m k).1.Nodup := by
  induction k with
  | zero => exact List.nodup_nil
  | succ k ih =>
    unfold ldr
    split
    · exact ih
    · rename_i h
      exact List.nodup_append.2 ⟨ih, List.pairwise_singleton _ _, fun x hx y hy e => by rw [List.mem_singleton.1 hy] at e; exact h (e ▸ hx)⟩
omit hm in
theorem ldr_len (k : Nat) : (ldr m k).1.length ≤ k := by
  induction k with
  | zero => exact Nat.le_refl _
  | succ k ih =>
    unfold ldr
    split
    · omega
    · rw [List.length_append, List.length_singleton]; omega
theorem hd_cos (i : Nat) : cosP m (hdP m i) = cosP m i := cos_same hm (hd_mem hm i)
theorem ldr_deg (k : Nat) : (ldr m k).2 = ((ldr m k).1.map (fun x => (cosP m x).length)).sum := by
  induction k with
  | zero => rfl
  | succ k ih =>
    unfold ldr
    split
    · exact ih
    · show _ + _ = _
      rw [List.map_append, List.sum_append, ih]
      simp [hd_cos hm]
theorem ldr_le (k : Nat) : (ldr m k).2 ≤ m * k := by
  induction k with
  | zero => exact Nat.zero_le _
  | succ k ih =>
    unfold ldr
    split
    · rw [Nat.mul_succ]; omega
    · have := (cos_len_pos hm (2 * k + 1)).2
      show _ + _ ≤ _
      rw [Nat.mul_succ]; omega
theorem gen_snoc (L : List Nat) (k : Nat) : genL m (L ++ [k]) = mulP 3 (genL m L) (minP m k) := by have := hm; unfold genL; rw [List.foldl_append]; rfl
omit hm in
theorem snoc_ind {P : List Nat → Prop} (h0 : P []) (h1 : ∀ L k, P L → P (L ++ [k])) (L : List Nat) : P L := by
  have : ∀ n (L : List Nat), L.length = n → P L := by
    intro n
    induction n with
    | zero => intro L hL; rw [List.eq_nil_of_length_eq_zero hL]; exact h0
    | succ n ih =>
      intro L hL
      have hne : L ≠ [] := fun h => by rw [h] at hL; simp at hL
      rw [← List.dropLast_concat_getLast hne]
      exact h1 _ _ (ih _ (by simp; omega))
  exact this _ L rfl
theorem gen_b1 (L : List Nat) : B1 (genL m L) := snoc_ind (P := fun L => B1 (genL m L)) one_b1 (fun L k ih => by rw [gen_snoc hm]; exact mulP_b1 ih (minP_b1 hm k)) L
theorem gen_len (L : List Nat) : (genL m L).length = (L.map (fun x => (cosP m x).length)).sum + 1 := by
  refine snoc_ind (P := fun L => (genL m L).length = (L.map (fun x => (cosP m x).length)).sum + 1) rfl (fun L k ih => ?_) L
  have hk := minP_len hm k
  rw [gen_snoc hm, mulP_len ok3 (gen_b1 hm L).tr (minP_b1 hm k).tr (by omega) (by omega), ih, hk, List.map_append, List.sum_append]
  simp
  omega
theorem gen_deg (L : List Nat) : (L.map (fun x => (cosP m x).length)).sum ≤ m * L.length := by
  induction L with
  | nil => exact Nat.zero_le _
  | cons k L ih =>
    have := (cos_len_pos hm k).2
    rw [List.map_cons, List.sum_cons, List.length_cons, Nat.mul_succ]
    omega
theorem gen_root (L : List Nat) {x : Nat} (hx : x < N m) : evL m (genL m L) (exz m (x : Nat)) = 0 ↔ ∃ k ∈ L, x ∈ cosP m k := by
  refine snoc_ind (P := fun L => evL m (genL m L) (exz m (x : Nat)) = 0 ↔ ∃ k ∈ L, x ∈ cosP m k) ?_ (fun L k ih => ?_) L
  · have : evL m [1] (exz m (x : Nat)) = 1 := by unfold evL evL; rw [gm_zero_left, Nat.zero_xor]
    show evL m [1] _ = 0 ↔ _
    rw [this]
    simp
  · have hL := b1_tr hm (gen_b1 hm L)
    have hk := b1_tr hm (minP_b1 hm k)
    have he := exz_lt hm (m := m) (x : Nat)
    rw [gen_snoc hm, mulP_lift hm (gen_b1 hm L) (minP_b1 hm k), evL_mul hm hL.lt hk.lt _ he]
    have hr := minP_root hm k x hx
    constructor
    · intro h
      by_cases h1 : evL m (genL m L) (exz m (x : Nat)) = 0
      · obtain ⟨j, hj, e⟩ := ih.1 h1; exact ⟨j, List.mem_append.2 (.inl hj), e⟩
      · by_cases h2 : evL m (minP m k) (exz m (x : Nat)) = 0
        · exact ⟨k, List.mem_append.2 (.inr (List.mem_singleton.2 rfl)), hr.1 h2⟩
        · exact absurd h (gm_ne_zero hm (evL_lt hm _ hL.lt) (evL_lt hm _ hk.lt) h1 h2)
    · rintro ⟨j, hj, e⟩
      rcases List.mem_append.1 hj with h | h
      · rw [ih.2 ⟨j, h, e⟩, gm_zero_left]
      · rw [List.mem_singleton.1 h] at e; rw [hr.2 e, gm_zero_right]
/-- A generator is 0 at the first powers. -/
theorem gen_zero {t x : Nat} (h1 : 1 ≤ x) (h2 : x ≤ 2 * t) (hx : x < N m) : evL m (genL m (ldr m t).1) (exz m (x : Nat)) = 0 := by
  rw [gen_root hm _ hx]
  have hodd : ∀ n, 1 ≤ n → ∃ a o, n = 2 ^ a * (2 * o + 1) := by
    intro n
    induction n using Nat.strongRecOn with
    | _ n ih =>
      intro hn
      rcases Nat.mod_two_eq_zero_or_one n with h | h
      · obtain ⟨a, o, e⟩ := ih (n / 2) (by omega) (by omega)
        exact ⟨a + 1, o, by rw [Nat.pow_succ, Nat.mul_comm (2 ^ a), Nat.mul_assoc, ← e]; omega⟩
      · exact ⟨0, n / 2, by rw [Nat.pow_zero]; omega⟩
  obtain ⟨a, o, e⟩ := hodd x h1
  have hp : 1 ≤ 2 ^ a := Nat.one_le_two_pow
  have ho : 2 * o + 1 ≤ x := by rw [e]; exact Nat.le_mul_of_pos_left _ hp
  refine ⟨hdP m (2 * o + 1), ldr_has (by omega), ?_⟩
  rw [hd_cos hm, cos_mem hm]
  refine ⟨a, ?_⟩
  unfold cst
  rw [Nat.mul_comm, ← e, Nat.mod_eq_of_lt hx]
/-- What is in a list of leaders divides. -/
theorem gen_dvd {L : List Nat} {k : Nat} (hk : k ∈ L) : restP 3 (genL m L) (minP m k) = [] :=
  min_dvd hm (gen_b1 hm L) (fun _ hx => (gen_root hm L (cos_lt hm hx)).2 ⟨k, hk, hx⟩)
end Go.Fm
end
section
/- Irreducible polynomials over 0/1, as they are tried; a polynomial's zeros among the powers; the generator's. No program beyond the tried form's names. -/
namespace Go.Proofs.YtcdmmfpgeagimaaDoor
open Go Go.Sx Go.Fm
set_option maxRecDepth 100000
namespace Nb
/-- 1 of what is in the list. -/
def mm (l : List Nat) (x : Nat) : Nat := if x ∈ l then 1 else 0
theorem mem_exU {a : List Nat} {x : Nat} : ∀ {d : Nat}, d ≤ a.length → (x ∈ exU a a.length d ↔ a.length ≤ x + d ∧ x < a.length ∧ cf a x ≠ 0)
  | 0, _ => by
    unfold exU
    simp
    omega
  | d + 1, hd => by
    have ih := mem_exU (a := a) (x := x) (d := d) (by omega)
    unfold exU
    split
    · rename_i h0
      rw [ih]
      constructor
      · rintro ⟨h1, h2, h3⟩; exact ⟨by omega, h2, h3⟩
      · rintro ⟨h1, h2, h3⟩
        refine ⟨?_, h2, h3⟩
        by_cases he : x = a.length - 1 - d
        · subst he; exact absurd h0 h3
        · omega
    · rename_i h0
      rw [List.mem_append, ih, List.mem_singleton]
      constructor
      · rintro (⟨h1, h2, h3⟩ | rfl)
        · exact ⟨by omega, h2, h3⟩
        · exact ⟨by omega, by omega, h0⟩
      · rintro ⟨h1, h2, h3⟩
        by_cases he : x = a.length - 1 - d
        · exact .inr he
        · exact .inl ⟨by omega, h2, h3⟩
theorem mm_exL {a : List Nat} (ha : B1 a) (x : Nat) : mm (exL a) x = cf a x := by
  unfold mm exL
  have h := mem_exU (a := a) (x := x) (Nat.le_refl _)
  have h2 := ha.le x
  by_cases hx : x < a.length
  · by_cases h0 : cf a x = 0
    · rw [if_neg (fun hm => (h.1 hm).2.2 h0), h0]
    · rw [if_pos (h.2 ⟨by omega, hx, h0⟩)]; omega
  · rw [if_neg (fun hm => hx (h.1 hm).2.1), cf_out (by omega)]
theorem pl_le (n : Nat) (f : Nat → Nat) : (pl n f).length ≤ n := by
  unfold pl
  rw [trim_length]
  simpa using tl_le ((List.range n).map f)
/-- The polynomial of a number. -/
def nb (x : Nat) : List Nat := pl (blen x) (fun j => (x >>> j) % 2)
theorem cf_nb (x j : Nat) : cf (nb x) j = (x >>> j) % 2 := by
  unfold nb
  rw [cf_pl]
  split
  · rfl
  · rw [Nat.shiftRight_eq_div_pow, Nat.div_eq_of_lt (Nat.lt_of_lt_of_le (blen_lt x) (Nat.pow_le_pow_right (by omega) (by omega)))]
theorem nb_b1 (x : Nat) : B1 (nb x) := ⟨pl_tr (fun j => Nat.lt_trans (Nat.mod_lt _ (by omega)) (show 2 < 2 ^ 3 by decide)), fun j => by rw [cf_nb]; exact Nat.mod_lt _ (by omega)⟩
theorem nb_len (x : Nat) : (nb x).length = blen x := by
  have h1 : (nb x).length ≤ blen x := pl_le _ _
  refine Nat.le_antisymm h1 (Nat.le_of_not_lt fun hlt => ?_)
  have h0 : x ≠ 0 := fun h => by subst h; exact absurd hlt (by show ¬ _ < 0; omega)
  have h2 := cf_nb x (blen x - 1)
  rw [cf_out (by omega), shr_two, blen_top h0] at h2
  cases h2
theorem nb_xor (x y : Nat) : nb (x ^^^ y) = addP (nb x) (nb y) := (nb_b1 _).tr.ext (addP_b1 (nb_b1 x) (nb_b1 y)).tr (fun j => by rw [cf_nb, cf_addP, cf_nb, cf_nb]; exact shr_xor _ _ _)
theorem nb_shl (x k : Nat) : nb (x * 2 ^ k) = upP k (nb x) := (nb_b1 _).tr.ext (upP_b1 (nb_b1 x) k).tr (fun j => by
  rw [cf_nb, cf_upP, shr_two, Nat.mul_comm, Nat.testBit_two_pow_mul]
  split
  · rename_i h
    rw [cf_nb, shr_two, decide_eq_true h, Bool.true_and]
  · rename_i h
    rw [decide_eq_false h]
    rfl)
theorem fold_test (l : List Nat) (j : Nat) : ∀ z : Nat, (l.foldl (fun z e => z ||| 2 ^ e) z).testBit j = (z.testBit j || decide (j ∈ l)) := by
  induction l with
  | nil => intro z; simp
  | cons e l ih =>
    intro z
    rw [List.foldl_cons, ih, Nat.testBit_or, Nat.testBit_two_pow, Bool.or_assoc]
    congr 1
    by_cases h1 : e = j
    · subst h1; simp
    · by_cases h2 : j ∈ l
      · simp [h2]
      · simp [h2, h1, Ne.symm h1]
theorem nb_vP {a : List Nat} (ha : B1 a) : nb (vP (exL a)) = a := (nb_b1 _).tr.ext ha.tr (fun j => by
  rw [cf_nb, shr_two]
  unfold vP
  rw [fold_test, ← mm_exL ha]
  unfold mm
  by_cases h : j ∈ exL a
  · simp [h]
  · simp [h])
theorem dvd_rmF {q : Nat} (hq : q ≠ 0) : ∀ {k r : Nat}, blen r < k → rmF q k r = 0 → Dvd 3 (nb q) (nb r)
  | 0, _, h, _ => by omega
  | k + 1, r, h, hz => by
    unfold rmF at hz
    split at hz
    · rename_i hle
      have h1 := dvd_rmF hq (by have := step_blen hq hle; omega) hz
      rw [nb_xor, nb_shl] at h1
      have h2 : Dvd 3 (nb q) (upP (blen r - blen q) (nb q)) := by
        rw [← mul_xP (nb_b1 q), mulP_comm ok3 (nb_b1 q).tr (xP_b1 _).tr]
        exact ⟨_, (xP_b1 _).tr, rfl⟩
      have h3 := dvd_add ok3 (nb_b1 q).tr h1 h2
      have e : addP (addP (nb r) (upP (blen r - blen q) (nb q))) (upP (blen r - blen q) (nb q)) = nb r :=
        (addP_b1 (addP_b1 (nb_b1 r) (upP_b1 (nb_b1 q) _)) (upP_b1 (nb_b1 q) _)).tr.ext (nb_b1 r).tr (fun j => by
          rw [cf_addP, cf_addP, Nat.xor_assoc, Nat.xor_self, Nat.xor_zero])
      rw [e] at h3
      exact h3
    · rw [hz]
      have e : nb 0 = [] := rfl
      rw [e]
      exact dvd_nil ok3
/-- What has no divisor but itself and what has no degree is irreducible. -/
theorem irr_of {p : List Nat} (hp : B1 p) (h2 : 2 ≤ p.length) (h33 : p.length ≤ 33) (hd : ∀ f c : List Nat, B1 f → B1 c → mulP 3 f c = p → f.length = 1 ∨ f.length = p.length) : irrP p = true := by
  refine irrP_true ⟨h2, h33⟩ (fun q hq => ?_)
  by_cases hq2 : q < 2
  · exact .inl hq2
  · refine .inr fun hz => ?_
    have hd1 := dvd_rmF (by omega) (Nat.lt_succ_self _) hz
    rw [nb_vP hp] at hd1
    have hqb := nb_b1 q
    have hql := nb_len q
    have hb2 : 2 ≤ blen q := Nat.le_of_not_lt fun h => by
      have h3 := blen_lt q
      have := Nat.pow_le_pow_right (n := 2) (by omega) (show blen q ≤ 1 by omega)
      omega
    have hbu : blen q ≤ (p.length - 1) / 2 + 1 := blen_le hq
    have hn0 : (nb q).length ≠ 0 := by omega
    have hr := rest_of_dvd ok3 hp.tr hqb.tr hn0 hd1
    have he := div_eq ok3 hp.tr hqb.tr hn0
    have hQ := quotP_b1 hp hqb hn0
    rw [hr] at he
    have e0 : addP (mulP 3 (quotP 3 p (nb q)) (nb q)) [] = mulP 3 (nb q) (quotP 3 p (nb q)) := by
      rw [mulP_comm ok3 hQ.tr hqb.tr]
      exact (addP_b1 (mulP_b1 hqb hQ) ⟨nil_tr 3, fun j => by simp [cf]⟩).tr.ext (mulP_b1 hqb hQ).tr (fun j => by rw [cf_addP]; simp [cf])
    rw [e0] at he
    rcases hd _ _ hqb hQ he with h | h <;> omega
theorem min_irrP {m : Nat} (hm : Ok m) (i : Nat) : irrP (minP m i) = true := by
  have h1 := minP_len hm i
  have h2 := cos_len_pos hm i
  have h3 := hm.hi
  exact irr_of (minP_b1 hm i) (by omega) (by omega) (fun f c hf hc he => min_irr hm hf hc he)
/-! ### Zeros -/
theorem xs_exU {m : Nat} (hm : Ok m) {a : List Nat} (ha : B1 a) (i : Nat) : ∀ {d : Nat}, d ≤ a.length → (exU a a.length d).foldl (fun s n => s ^^^ exz m ((n * i : Nat) : Int)) 0 = xs (fun k => if a.length ≤ k + d then gm m (cf a k) (fpw m (exz m (i : Nat)) k) else 0) a.length
  | 0, _ => by
    show 0 = _
    rw [xs_zero (fun k hk => if_neg (by omega))]
  | d + 1, hd => by
    have ih := xs_exU hm ha i (d := d) (by omega)
    have hfl : ∀ k, fpw m (exz m (i : Nat)) k = exz m ((k * i : Nat) : Int) := fun k => by
      rw [exz_fpw hm]; congr 1; push_cast; rw [Int.mul_comm]
    have hsplit : xs (fun k => if a.length ≤ k + (d + 1) then gm m (cf a k) (fpw m (exz m (i : Nat)) k) else 0) a.length = xs (fun k => if a.length ≤ k + d then gm m (cf a k) (fpw m (exz m (i : Nat)) k) else 0) a.length ^^^ gm m (cf a (a.length - 1 - d)) (fpw m (exz m (i : Nat)) (a.length - 1 - d)) := by
      have e1 : gm m (cf a (a.length - 1 - d)) (fpw m (exz m (i : Nat)) (a.length - 1 - d)) = xs (fun k => if k = a.length - 1 - d then gm m (cf a k) (fpw m (exz m (i : Nat)) k) else 0) a.length := by
        rw [xs_one (k := a.length - 1 - d) (by omega) (fun k _ hk => if_neg hk), if_pos rfl]
      rw [e1, ← xs_xor]
      refine xs_congr (fun k hk => ?_)
      by_cases h1 : k = a.length - 1 - d
      · subst h1
        rw [if_pos (by omega), if_neg (by omega), if_pos rfl, Nat.zero_xor]
      · rw [if_neg h1, Nat.xor_zero]
        by_cases h2 : a.length ≤ k + d
        · rw [if_pos h2, if_pos (by omega)]
        · rw [if_neg h2, if_neg (by omega)]
    unfold exU
    split
    · rename_i h0
      rw [ih, hsplit, h0, gm_zero_left, Nat.xor_zero]
    · rename_i h0
      have h1 : cf a (a.length - 1 - d) = 1 := by have := ha.le (a.length - 1 - d); omega
      rw [List.foldl_append, List.foldl_cons, List.foldl_nil, ih, hsplit, h1, hfl, gm_one_left hm (exz_lt hm _)]
/-- What is added up over a polynomial's exponents is its value. -/
theorem xs_exL {m : Nat} (hm : Ok m) {a : List Nat} (ha : B1 a) (i : Nat) : (exL a).foldl (fun s n => s ^^^ exz m ((n * i : Nat) : Int)) 0 = evL m a (exz m (i : Nat)) := by
  have h := xs_exU hm ha i (Nat.le_refl a.length)
  unfold exL
  rw [h, evL_xs hm (exz_lt hm _) (b1_tr hm ha).lt]
  exact xs_congr (fun k _ => if_pos (by omega))
def xorE (m i : Nat) (l : List Nat) : Nat := l.foldl (fun s n => s ^^^ exz m ((n * i : Nat) : Int)) 0
theorem xorE_next {m i j : Nat} {l : List Nat} (h : j < l.length) : xorE m i (l.take (j + 1)) = xorE m i (l.take j) ^^^ exz m ((cf l j * i : Nat) : Int) := by
  unfold xorE
  rw [take_cf h, List.foldl_append]
  rfl
theorem xorE_lt {m : Nat} (hm : Ok m) (i : Nat) (l : List Nat) : xorE m i l < 2 ^ m := by
  unfold xorE
  refine snoc_ind (P := fun l => l.foldl (fun s n => s ^^^ exz m ((n * i : Nat) : Int)) 0 < 2 ^ m) (Nat.two_pow_pos m) (fun L k ih => ?_) l
  rw [List.foldl_append]
  exact Nat.xor_lt_two_pow ih (exz_lt hm _)
/-- The zeros among the first K powers. -/
def zrs (m : Nat) (a : List Nat) : Nat → List Nat
  | 0 => []
  | K + 1 => if evL m a (exz m ((K + 1 : Nat) : Int)) = 0 then zrs m a K ++ [K + 1] else zrs m a K
theorem zrs_len (m : Nat) (a : List Nat) : ∀ K, (zrs m a K).length ≤ K
  | 0 => Nat.le_refl _
  | K + 1 => by
    have := zrs_len m a K
    unfold zrs
    split
    · simp; omega
    · omega
theorem zrs_lt (m : Nat) (a : List Nat) : ∀ K, ∀ x ∈ zrs m a K, x ≤ K
  | 0 => fun _ h => by cases h
  | K + 1 => fun x h => by
    unfold zrs at h
    split at h
    · rcases List.mem_append.1 h with h | h
      · have := zrs_lt m a K x h; omega
      · rw [List.mem_singleton.1 h]; exact Nat.le_refl _
    · have := zrs_lt m a K x h; omega
theorem zrs_all {m : Nat} {a : List Nat} {T : Nat} : ∀ {K : Nat}, (∀ x, 1 ≤ x → x ≤ T → evL m a (exz m (x : Nat)) = 0) → T ≤ K → T ≤ (zrs m a K).length ∧ ∀ i, i < T → (zrs m a K)[i]? = some (i + 1)
  | 0, _, hT => by
    obtain rfl : T = 0 := by omega
    exact ⟨Nat.zero_le _, fun i hi => by omega⟩
  | K + 1, h, hT => by
    by_cases hTK : T ≤ K
    · have ih := zrs_all (K := K) h hTK
      unfold zrs
      split
      · exact ⟨by simp; omega, fun i hi => by rw [List.getElem?_append_left (by omega)]; exact ih.2 i hi⟩
      · exact ih
    · obtain rfl : T = K + 1 := by omega
      have ih := zrs_all (K := K) (T := K) (fun x h1 h2 => h x h1 (by omega)) (Nat.le_refl _)
      have hl := zrs_len m a K
      unfold zrs
      rw [if_pos (h (K + 1) (by omega) (Nat.le_refl _))]
      refine ⟨by simp; omega, fun i hi => ?_⟩
      by_cases hi2 : i < K
      · rw [List.getElem?_append_left (by omega)]; exact ih.2 i hi2
      · obtain rfl : i = K := by omega
        rw [List.getElem?_append_right (by omega), show i - (zrs m a i).length = 0 by omega]
        rfl
/-! ### The generator -/
theorem gen_lenL {m : Nat} (hm : Ok m) (t : Nat) : (genL m (ldr m t).1).length = (ldr m t).2 + 1 := by rw [gen_len hm, ldr_deg hm]
theorem ldr_small {m : Nat} (hm : Ok m) {t : Nat} (h : (ldr m t).2 < N m) : 2 * t < N m := by
  refine Nat.lt_of_not_le fun hge => ?_
  have hN := N_succ m
  have hNp := N_pos hm
  obtain ⟨k, hk⟩ : ∃ k, 2 ^ m = 2 * k := ⟨2 ^ (m - 1), by
    have e : m = m - 1 + 1 := by have := hm.lo; omega
    calc 2 ^ m = 2 ^ (m - 1 + 1) := by rw [← e]
      _ = 2 * 2 ^ (m - 1) := by rw [Nat.pow_succ, Nat.mul_comm]⟩
  have hroot : ∀ x ∈ List.range (N m), evL m (genL m (ldr m t).1) (exz m (x : Nat)) = 0 := fun x hx => by
    have hx := List.mem_range.1 hx
    by_cases h0 : x = 0
    · subst h0
      have h1 := ldr_has (m := m) (k := t) (j := k - 1) (by omega)
      rw [show 2 * (k - 1) + 1 = N m by omega] at h1
      refine (gen_root hm _ hx).2 ⟨_, h1, ?_⟩
      rw [hd_cos hm, ← cos_mod m (N m), Nat.mod_self]
      exact cos_self hm 0 (by omega)
    · exact gen_zero hm (by omega) (by omega) hx
  have hg := gen_b1 hm (ldr m t).1
  have hl := gen_lenL hm t
  have := b1_many hm (b1_tr hm hg) (by omega) List.nodup_range (fun x hx => List.mem_range.1 hx) hroot
  rw [List.length_range] at this
  omega
theorem ev_zero {m : Nat} (hm : Ok m) {a : List Nat} (h : ∀ y ∈ a, y < 2 ^ m) : evL m a 0 = cf a 0 := by
  rw [evL_xs hm (Nat.two_pow_pos m) h]
  cases a with
  | nil => rfl
  | cons y a =>
    rw [xs_one (k := 0) (by simp) (fun k _ hk => ?_)]
    · show gm m y 1 = y
      exact gm_one_right hm (h y (by simp))
    · obtain ⟨j, rfl⟩ : ∃ j, k = j + 1 := ⟨k - 1, by omega⟩
      show gm m _ (gm m _ 0) = 0
      rw [gm_zero_right, gm_zero_right]
theorem min_low {m : Nat} (hm : Ok m) (i : Nat) : evL m (minP m i) 0 ≠ 0 := fun h => by
  have h1 := (prodL_root hm (Nat.two_pow_pos m) (cosR_lt hm i)).1 h
  obtain ⟨k, _, e⟩ := List.mem_map.1 h1
  exact exz_ne hm _ e
theorem gen_low {m : Nat} (hm : Ok m) (L : List Nat) : cf (genL m L) 0 = 1 := by
  have h : evL m (genL m L) 0 ≠ 0 := snoc_ind (P := fun L => evL m (genL m L) 0 ≠ 0) (by show evL m [1] 0 ≠ 0; rw [ev_zero hm (b1_tr hm one_b1).lt]; decide) (fun L k ih => by
    rw [gen_snoc hm, mulP_lift hm (gen_b1 hm L) (minP_b1 hm k), evL_mul hm (b1_tr hm (gen_b1 hm L)).lt (minP_tr hm k).lt _ (Nat.two_pow_pos m)]
    exact gm_ne_zero hm (evL_lt hm _ (b1_tr hm (gen_b1 hm L)).lt) (evL_lt hm _ (minP_tr hm k).lt) ih (min_low hm k)) L
  rw [ev_zero hm (b1_tr hm (gen_b1 hm L)).lt] at h
  have := (gen_b1 hm L).le 0
  omega
theorem gen_odd {m : Nat} (hm : Ok m) {t k : Nat} (h : k < t) : restP 3 (genL m (ldr m t).1) (minP m (2 * k + 1)) = [] := by
  have h1 := gen_dvd hm (ldr_has (m := m) h)
  rw [minP_same hm (hd_mem hm _)] at h1
  exact h1
end Nb
end Go.Proofs.YtcdmmfpgeagimaaDoor
end
section
/- Fields of two's kind: roots are few, powers come back. No program. -/
namespace Go.Proofs.YtcdmmfpgeagimaaDoor
open Go Go.Sx Go.Fm Nb
structure Fd (K : Type) where
  add : K → K → K
  mul : K → K → K
  zero : K
  one : K
  add_comm : ∀ a b, add a b = add b a
  add_assoc : ∀ a b c, add (add a b) c = add a (add b c)
  add_self : ∀ a, add a a = zero
  add_zero : ∀ a, add a zero = a
  mul_comm : ∀ a b, mul a b = mul b a
  mul_assoc : ∀ a b c, mul (mul a b) c = mul a (mul b c)
  mul_add : ∀ a b c, mul a (add b c) = add (mul a b) (mul a c)
  mul_one : ∀ a, mul a one = a
  nz : ∀ a b, mul a b = zero → a = zero ∨ b = zero
  ne : one ≠ zero
namespace Fd
section
variable {K : Type} (F : Fd K)
theorem mul_zero (a : K) : F.mul a F.zero = F.zero := by
  have h := F.mul_add a F.zero F.zero
  rw [F.add_self, F.add_self] at h
  exact h
theorem zero_add (a : K) : F.add F.zero a = a := by rw [F.add_comm, F.add_zero]
theorem eq_of {a b : K} (h : F.add a b = F.zero) : a = b := by
  have h1 := F.add_assoc a b b
  rw [h, F.add_self, F.add_zero, F.zero_add] at h1
  exact h1.symm
theorem add4 (a b c d : K) : F.add (F.add a b) (F.add c d) = F.add (F.add a c) (F.add b d) := by
  rw [F.add_assoc, ← F.add_assoc b c d, F.add_comm b c, F.add_assoc c b d, ← F.add_assoc]
theorem add_mul (a b c : K) : F.mul (F.add a b) c = F.add (F.mul a c) (F.mul b c) := by rw [F.mul_comm, F.mul_add, F.mul_comm c a, F.mul_comm c b]
theorem mul_left (a b c : K) : F.mul a (F.mul b c) = F.mul b (F.mul a c) := by rw [← F.mul_assoc, F.mul_comm a b, F.mul_assoc]
/-- Polynomials of degree n whose highest coefficient is 1, as functions. -/
def Mo : Nat → (K → K) → Prop
  | 0, g => ∀ s, g s = F.one
  | n + 1, g => ∃ c h, Mo n h ∧ ∀ s, g s = F.add c (F.mul s (h s))
theorem mo_low (r : K) : ∀ {n : Nat} {h k : K → K}, F.Mo (n + 1) h → F.Mo n k → F.Mo (n + 1) (fun s => F.add (h s) (F.mul r (k s)))
  | 0, h, k, ⟨c, h', hh, e⟩, hk => ⟨F.add c r, h', hh, fun s => by
    show F.add (h s) (F.mul r (k s)) = _
    rw [e s, hk s, F.mul_one, F.add_assoc, F.add_comm (F.mul s (h' s)) r, ← F.add_assoc]⟩
  | n + 1, h, k, ⟨c, h', hh, e⟩, ⟨c', k', hk, e'⟩ => ⟨F.add c (F.mul r c'), fun s => F.add (h' s) (F.mul r (k' s)), mo_low r hh hk, fun s => by
    show F.add (h s) (F.mul r (k s)) = _
    rw [e s, e' s, F.mul_add r, F.mul_add s, F.add4, F.mul_left r s]⟩
theorem mo_div (r : K) : ∀ {n : Nat} {g : K → K}, F.Mo (n + 1) g → ∃ k, F.Mo n k ∧ ∀ s, F.add (g s) (g r) = F.mul (F.add s r) (k s)
  | 0, g, ⟨c, h, hh, e⟩ => ⟨fun _ => F.one, fun _ => rfl, fun s => by rw [e s, e r, hh s, hh r, F.mul_one, F.mul_one, F.mul_one, F.add4, F.add_self, F.zero_add]⟩
  | n + 1, g, ⟨c, h, hh, e⟩ => by
    obtain ⟨k, hk, ek⟩ := mo_div r hh
    refine ⟨fun s => F.add (h s) (F.mul r (k s)), F.mo_low r hh hk, fun s => ?_⟩
    show _ = F.mul (F.add s r) (F.add (h s) (F.mul r (k s)))
    rw [e s, e r, F.add4, F.add_self, F.zero_add, F.mul_add, F.mul_left (F.add s r) r (k s), ← ek s, F.mul_add, F.add_mul, F.add_assoc, ← F.add_assoc (F.mul r (h s)), F.add_self, F.zero_add]
theorem roots : ∀ {n : Nat} {g : K → K} (L : List K), F.Mo n g → L.Nodup → (∀ s ∈ L, g s = F.zero) → L.length ≤ n
  | _, _, [], _, _, _ => Nat.zero_le _
  | 0, g, r :: L, hg, _, hz => absurd ((hg r).symm.trans (hz r (List.mem_cons_self ..))) F.ne
  | n + 1, g, r :: L, hg, hn, hz => by
    obtain ⟨k, hk, ek⟩ := F.mo_div r hg
    have hn := List.nodup_cons.1 hn
    refine Nat.succ_le_succ (roots L hk hn.2 (fun s hs => ?_))
    have h1 := ek s
    rw [hz s (List.mem_cons_of_mem _ hs), hz r (List.mem_cons_self ..), F.add_self] at h1
    rcases F.nz _ _ h1.symm with h2 | h2
    · exact absurd (F.eq_of h2 ▸ hs) hn.1
    · exact h2
def pw (a : K) : Nat → K
  | 0 => F.one
  | n + 1 => F.mul a (pw a n)
theorem mo_pow : ∀ n, F.Mo n (fun s => F.pw s n)
  | 0 => fun _ => rfl
  | n + 1 => ⟨F.zero, fun s => F.pw s n, mo_pow n, fun s => by rw [F.zero_add]; rfl⟩
theorem mo_frob (n : Nat) : F.Mo (n + 2) (fun s => F.add (F.pw s (n + 2)) s) :=
  ⟨F.zero, fun s => F.add (F.pw s (n + 1)) F.one, ⟨F.one, fun s => F.pw s n, F.mo_pow n, fun s => by rw [F.add_comm F.one]; rfl⟩, fun s => by rw [F.zero_add, F.mul_add, F.mul_one]; rfl⟩
/-- Not more elements than n are their own n-th powers. -/
theorem few {n : Nat} (h2 : 2 ≤ n) {L : List K} (hL : L.Nodup) (h : ∀ s ∈ L, F.pw s n = s) : L.length ≤ n := by
  obtain ⟨k, rfl⟩ : ∃ k, n = k + 2 := ⟨n - 2, by omega⟩
  exact F.roots L (F.mo_frob k) hL (fun s hs => by
    show F.add (F.pw s (k + 2)) s = _
    rw [h s hs, F.add_self])
theorem cancel {a b p : K} (hp : p ≠ F.zero) (h : F.mul a p = F.mul b p) : a = b := by
  have h1 : F.mul (F.add a b) p = F.zero := by rw [F.add_mul, h, F.add_self]
  exact F.eq_of ((F.nz _ _ h1).resolve_right hp)
/-- A product of many. -/
def pr : List K → K
  | [] => F.one
  | x :: L => F.mul x (pr L)
theorem pr_perm {L L' : List K} (h : L.Perm L') : F.pr L = F.pr L' := by
  induction h with
  | nil => rfl
  | cons x _ ih => show F.mul x _ = F.mul x _; rw [ih]
  | swap x y l => exact F.mul_left _ _ _
  | trans _ _ ih1 ih2 => exact ih1.trans ih2
theorem pr_map (a : K) : ∀ L : List K, F.pr (L.map (F.mul a)) = F.mul (F.pw a L.length) (F.pr L)
  | [] => (F.mul_one _).symm
  | x :: L => by
    show F.mul (F.mul a x) (F.pr (L.map (F.mul a))) = F.mul (F.mul a (F.pw a L.length)) (F.mul x (F.pr L))
    rw [pr_map a L, F.mul_assoc, F.mul_assoc, F.mul_left x]
theorem pr_ne : ∀ {L : List K}, (∀ x ∈ L, x ≠ F.zero) → F.pr L ≠ F.zero
  | [], _ => F.ne
  | x :: L, h => fun e => by
    rcases F.nz _ _ e with h1 | h1
    · exact h x (List.mem_cons_self ..) h1
    · exact pr_ne (fun y hy => h y (List.mem_cons_of_mem _ hy)) h1
end
theorem nodup_le {α : Type} [DecidableEq α] : ∀ {L1 L2 : List α}, L1.Nodup → (∀ x ∈ L1, x ∈ L2) → L1.length ≤ L2.length
  | [], _, _, _ => Nat.zero_le _
  | x :: L1, L2, hn, hs => by
    have hn := List.nodup_cons.1 hn
    have hx := hs x (List.mem_cons_self ..)
    have h1 := nodup_le (L1 := L1) (L2 := L2.erase x) hn.2 (fun y hy => (List.mem_erase_of_ne (fun (e : y = x) => hn.1 (by rw [← e]; exact hy))).2 (hs y (List.mem_cons_of_mem _ hy)))
    rw [List.length_erase_of_mem hx] at h1
    have h2 := List.length_pos_of_mem hx
    simp only [List.length_cons]
    omega
theorem onto {α : Type} [DecidableEq α] {L1 L2 : List α} (hn : L1.Nodup) (hs : ∀ x ∈ L1, x ∈ L2) (hl : L2.length ≤ L1.length) : ∀ y ∈ L2, y ∈ L1 := fun y hy => Classical.byContradiction fun h => by
  have := nodup_le (L1 := y :: L1) (L2 := L2) (List.nodup_cons.2 ⟨h, hn⟩) (fun x hx => by
    rcases List.mem_cons.1 hx with rfl | hx
    · exact hy
    · exact hs x hx)
  simp only [List.length_cons] at this
  omega
variable {K : Type} [DecidableEq K] (F : Fd K)
/-- As many powers as there are elements but 0 come back. -/
theorem fermat {E : List K} (hn : E.Nodup) (hE : ∀ x, x ∈ E ↔ x ≠ F.zero) {a : K} (ha : a ≠ F.zero) : F.pw a E.length = F.one := by
  have hM : (E.map (F.mul a)).Nodup := List.pairwise_map.2 (hn.imp (fun h e => h (F.cancel ha (by rw [F.mul_comm, e, F.mul_comm]))))
  have hs : ∀ x ∈ E.map (F.mul a), x ∈ E := fun x hx => by
    obtain ⟨y, hy, rfl⟩ := List.mem_map.1 hx
    exact (hE _).2 (fun e => (F.nz _ _ e).elim ha ((hE y).1 hy))
  have ho := onto hM hs (by rw [List.length_map]; exact Nat.le_refl _)
  have hp := F.pr_perm ((List.perm_ext_iff_of_nodup hM hn).2 (fun x => ⟨hs x, ho x⟩))
  rw [F.pr_map] at hp
  refine F.cancel (p := F.pr E) (F.pr_ne (fun x hx => (hE x).1 hx)) ?_
  rw [hp, F.mul_comm, F.mul_one]
theorem fermat' {E : List K} (hn : E.Nodup) (hE : ∀ x, x ∈ E ↔ x ≠ F.zero) (a : K) : F.pw a (E.length + 1) = a := by
  show F.mul a (F.pw a E.length) = a
  by_cases ha : a = F.zero
  · rw [ha, F.mul_comm, F.mul_zero]
  · rw [F.fermat hn hE ha, F.mul_one]
end Fd
end Go.Proofs.YtcdmmfpgeagimaaDoor
end
section
/- The rest of a word behind a generator: bit by bit, byte by byte. No program. -/
namespace Go.Proofs.YtcdmmfpgeagimaaDoor
open Go Go.Sx Go.Fm
/-- The polynomial x times a, and b. -/
def consP (b : Nat) (a : List Nat) : List Nat := pl (a.length + 1) (fun j => if j = 0 then b else cf a (j - 1))
theorem cf_consP (b : Nat) (a : List Nat) (j : Nat) : cf (consP b a) j = if j = 0 then b else cf a (j - 1) := by
  unfold consP
  rw [cf_pl]
  split
  · rfl
  · rw [if_neg (by omega), cf_out (by omega)]
theorem consP_b1 {b : Nat} (hb : b < 2) {a : List Nat} (ha : B1 a) : B1 (consP b a) := by
  have h : ∀ j, cf (consP b a) j < 2 := fun j => by
    rw [cf_consP]
    split
    · exact hb
    · exact ha.le _
  exact ⟨pl_tr (fun j => by
    split
    · exact Nat.lt_trans hb (by decide)
    · exact ha.tr.c _), h⟩
theorem b1_ext {a b : List Nat} (ha : B1 a) (hb : B1 b) (h : ∀ j, cf a j = cf b j) : a = b := ha.tr.ext hb.tr h
theorem b1_len {a : List Nat} (h : B1 a) {n : Nat} (hz : ∀ j, n ≤ j → cf a j = 0) : a.length ≤ n := Nat.le_of_not_lt fun hl => h.tr.top (by omega) (hz _ (by omega))
theorem pl_b1 {n : Nat} {f : Nat → Nat} (hf : ∀ j, f j < 2) : B1 (pl n f) := ⟨pl_tr (fun j => Nat.lt_trans (hf j) (by decide)), fun j => by
  rw [cf_pl]
  split
  · exact hf j
  · omega⟩
theorem mul_oneL {a : List Nat} (ha : B1 a) : mulP 3 [1] a = a := by
  have e : xP 0 = [1] := by decide +kernel
  rw [← e, mulP_comm ok3 (xP_b1 0).tr ha.tr, mul_xP ha]
  exact b1_ext (upP_b1 ha 0) ha (fun j => by rw [cf_upP, if_pos (by omega), Nat.sub_zero])
section
variable {G : List Nat} (hG : B1 G) (h2 : 2 ≤ G.length)
/-- The rest of a word's upper part. -/
noncomputable def encE (G A : List Nat) : List Nat := restP 3 (upP (G.length - 1) A) G
include hG h2
theorem encE_b1 {A : List Nat} (hA : B1 A) : B1 (encE G A) := restP_b1 (upP_b1 hA _) hG (by omega)
theorem encE_len {A : List Nat} (hA : B1 A) : (encE G A).length ≤ G.length - 1 := by
  have := restP_len ok3 (upP_b1 hA (G.length - 1)).tr.lt hG.tr.lt (by omega) (hG.tr.top (by omega))
  unfold encE
  omega
theorem encE_div {A : List Nat} (hA : B1 A) : addP (mulP 3 (quotP 3 (upP (G.length - 1) A) G) G) (encE G A) = upP (G.length - 1) A := div_eq ok3 (upP_b1 hA _).tr hG.tr (by omega)
/-- What is left, when it is less than the generator, is the rest. -/
theorem encE_of {A q r : List Nat} (hA : B1 A) (hq : B1 q) (hr : B1 r) (hl : r.length < G.length) (h : addP (mulP 3 q G) r = upP (G.length - 1) A) : encE G A = r := (div_uniq ok3 (upP_b1 hA _).tr hG.tr (by omega) hq.tr hr.tr hl h).2.symm
theorem encE_add {A B : List Nat} (hA : B1 A) (hB : B1 B) : encE G (addP A B) = addP (encE G A) (encE G B) := by
  have eA := encE_div hG h2 hA
  have eB := encE_div hG h2 hB
  have lA := encE_len hG h2 hA
  have lB := encE_len hG h2 hB
  have bA := encE_b1 hG h2 hA
  have bB := encE_b1 hG h2 hB
  have qA := quotP_b1 (upP_b1 hA (G.length - 1)) hG (by omega)
  have qB := quotP_b1 (upP_b1 hB (G.length - 1)) hG (by omega)
  generalize quotP 3 (upP (G.length - 1) A) G = q1 at *
  generalize quotP 3 (upP (G.length - 1) B) G = q2 at *
  refine encE_of hG h2 (addP_b1 hA hB) (addP_b1 qA qB) (addP_b1 bA bB) (Nat.lt_of_le_of_lt (b1_len (n := G.length - 1) (addP_b1 bA bB) (fun j hj => by rw [cf_addP, cf_out (by omega), cf_out (by omega)]; rfl)) (by omega)) ?_
  refine b1_ext (addP_b1 (mulP_b1 (addP_b1 qA qB) hG) (addP_b1 bA bB)) (upP_b1 (addP_b1 hA hB) _) (fun j => ?_)
  have hAj : cf (mulP 3 q1 G) j ^^^ cf (encE G A) j = cf (upP (G.length - 1) A) j := by rw [← cf_addP, eA]
  have hBj : cf (mulP 3 q2 G) j ^^^ cf (encE G B) j = cf (upP (G.length - 1) B) j := by rw [← cf_addP, eB]
  have hu : cf (upP (G.length - 1) (addP A B)) j = cf (upP (G.length - 1) A) j ^^^ cf (upP (G.length - 1) B) j := by
    rw [cf_upP, cf_upP, cf_upP]
    split
    · exact cf_addP _ _ _
    · rfl
  rw [cf_addP, cf_addP, mulP_add_left ok3 qA.tr qB.tr hG.tr, cf_addP, hu, ← hAj, ← hBj, ← Nat.xor_assoc, ← Nat.xor_assoc, Nat.xor_assoc (cf (mulP 3 q1 G) j), Nat.xor_comm (cf (mulP 3 q2 G) j) (cf (encE G A) j), ← Nat.xor_assoc]
theorem encE_zero : encE G [] = [] := by
  refine encE_of hG h2 nil_b1 nil_b1 nil_b1 (by simp; omega) ?_
  rw [mulP_nil_l, addP_nil ok3 (nil_tr 3)]
  exact b1_ext nil_b1 (upP_b1 nil_b1 _) (fun j => by rw [cf_upP, cf_nil, cf_nil, ite_self])
/-- What a step of one bit gives. -/
theorem encE_step {A : List Nat} (hA : B1 A) {b : Nat} (hb : b < 2) (j : Nat) : cf (encE G (consP b A)) j = if j < G.length - 1 then (if j = 0 then 0 else cf (encE G A) (j - 1)) ^^^ (b ^^^ cf (encE G A) (G.length - 1 - 1)) * cf G j else 0 := by
  have eA := encE_div hG h2 hA
  have lA := encE_len hG h2 hA
  have bA := encE_b1 hG h2 hA
  have qA := quotP_b1 (upP_b1 hA (G.length - 1)) hG (by omega)
  generalize quotP 3 (upP (G.length - 1) A) G = q at *
  generalize hR : encE G A = R at *
  generalize hd : G.length - 1 = d at *
  have ho : b ^^^ cf R (d - 1) < 2 := xor_two hb (bA.le _)
  generalize hout : b ^^^ cf R (d - 1) = out at *
  have hmul : ∀ j, out * cf G j < 2 := fun j => by
    have := hG.le j
    rcases (show out = 0 ∨ out = 1 by omega) with h | h <;> rw [h] <;> omega
  have hcb : B1 (pl d (fun j => (if j = 0 then 0 else cf R (j - 1)) ^^^ out * cf G j)) := pl_b1 (fun j => xor_two (by split; omega; exact bA.le _) (hmul j))
  have hob : B1 (pl 1 (fun _ => out)) := pl_b1 (fun _ => ho)
  have key : encE G (consP b A) = pl d (fun j => (if j = 0 then 0 else cf R (j - 1)) ^^^ out * cf G j) := by
    refine encE_of hG h2 (consP_b1 hb hA) (addP_b1 (upP_b1 qA 1) hob) hcb (by
      have : (pl d (fun j => (if j = 0 then 0 else cf R (j - 1)) ^^^ out * cf G j)).length ≤ d := b1_len hcb (fun j hj => by rw [cf_pl, if_neg (by omega)])
      omega) ?_
    refine b1_ext (addP_b1 (mulP_b1 (addP_b1 (upP_b1 qA 1) hob) hG) hcb) (upP_b1 (consP_b1 hb hA) _) (fun j => ?_)
    have e1 : mulP 3 (upP 1 q) G = upP 1 (mulP 3 q G) := by
      rw [← mul_xP qA, ← mul_xP (mulP_b1 qA hG), mulP_assoc ok3 qA.tr (xP_b1 1).tr hG.tr, mulP_comm ok3 (xP_b1 1).tr hG.tr, ← mulP_assoc ok3 qA.tr hG.tr (xP_b1 1).tr]
    have e2 : cf (mulP 3 (pl 1 (fun _ => out)) G) j = out * cf G j := by
      rcases (show out = 0 ∨ out = 1 by omega) with h | h
      · have : pl 1 (fun _ => out) = [] := by rw [h]; rfl
        rw [this, mulP_nil_l, cf_nil, h, Nat.zero_mul]
      · have : pl 1 (fun _ => out) = [1] := by rw [h]; rfl
        rw [this, mul_oneL hG, h, Nat.one_mul]
    have e3 : ∀ i, cf (mulP 3 q G) i = cf (upP d A) i ^^^ cf R i := fun i => by
      rw [← eA, cf_addP, Nat.xor_assoc, Nat.xor_self, Nat.xor_zero]
    have gd : cf G d = 1 := by have := hG.top (by omega); rwa [hd] at this
    have go : d < j → cf G j = 0 := fun h => cf_out (by omega)
    rw [cf_addP, mulP_add_left ok3 (upP_b1 qA 1).tr hob.tr hG.tr, cf_addP, e1, e2, cf_upP 1, e3, hd, cf_upP d, cf_upP d, cf_consP, cf_pl]
    by_cases h0 : j = 0
    · subst h0
      rw [if_neg (by omega), if_pos (by omega), if_pos rfl, if_neg (by omega), Nat.zero_xor]
      exact Nat.xor_self _
    · rw [if_pos (by omega), if_neg h0]
      by_cases h1 : j < d
      · rw [if_neg (by omega), if_pos h1, if_neg (by omega), Nat.zero_xor]
        exact Nat.xor_self _
      · rw [if_neg h1, Nat.xor_zero, if_pos (show d ≤ j by omega)]
        by_cases h3 : j = d
        · subst h3
          rw [if_neg (show ¬ j ≤ j - 1 by omega), Nat.zero_xor, if_pos (show j - j = 0 by omega), gd, Nat.mul_one, ← hout, Nat.xor_comm b, ← Nat.xor_assoc, Nat.xor_self, Nat.zero_xor]
        · have r0 : cf R (j - 1) = 0 := cf_out (by omega)
          have g0 : cf G j = 0 := cf_out (by omega)
          rw [if_pos (show d ≤ j - 1 by omega), r0, g0, Nat.mul_zero, Nat.xor_zero, Nat.xor_zero, if_neg (show ¬ j - d = 0 by omega), show j - 1 - d = j - d - 1 by omega]
  rw [key, cf_pl]
end
end Go.Proofs.YtcdmmfpgeagimaaDoor
end
section
/- Bytes as text, and texts compared. No condition. -/
namespace Go.Sx
open Go

/-- The text of bytes. -/
def strB (l : List Nat) : ByteArray := strOfNums (l.map Int.ofNat)
theorem strB_list (l : List Nat) : (strB l).data.toList = l.map UInt8.ofNat := by
  unfold strB
  rw [strOfNums_data, List.map_map]
  rfl
theorem strB_inj {a b : List Nat} (ha : ∀ x ∈ a, x < 256) (hb : ∀ x ∈ b, x < 256) (h : strB a = strB b) : a = b := by
  have e : a.map UInt8.ofNat = b.map UInt8.ofNat := by rw [← strB_list, ← strB_list, h]
  have k : ∀ l : List Nat, (∀ x ∈ l, x < 256) → (l.map UInt8.ofNat).map UInt8.toNat = l := fun l hl => by
    rw [List.map_map]
    conv => rhs; rw [← List.map_id l]
    exact List.map_congr_left (fun x hx => by
      show (UInt8.ofNat x).toNat = x
      rw [UInt8.toNat_ofNat']
      exact Nat.mod_eq_of_lt (hl x hx))
  rw [← k a ha, ← k b hb, e]
theorem byteList_eq {x y : ByteArray} (h : x.toList = y.toList) : x = y := by
  rw [ByteArray.toList_eq, ByteArray.toList_eq] at h
  cases x; cases y
  simp only [ByteArray.mk.injEq]
  exact Array.toList_inj.1 h
theorem strB_beq {a b : List Nat} (ha : ∀ x ∈ a, x < 256) (hb : ∀ x ∈ b, x < 256) : ((strB a).toList == (strB b).toList) = decide (a = b) := by
  by_cases h : a = b
  · subst h; simp
  · rw [decide_eq_false h]
    rw [beq_eq_false_iff_ne]
    exact fun e => h (strB_inj ha hb (byteList_eq e))
theorem run_b2s {P : Program} {w : World} {T E D by_ : Nat} {zv : Value} [hT : SlT P T E 1 by_ zv] (he : P.underlying E = some (.int .u8)) (hd : P.underlying D = some .string) {A : Option Addr} {n c : Nat} {l : List Nat} (hv : Has (sl 1 A n (nats .u8 l)) w) :
    (convert T D (.slice A n c)).run P w = .ok (.string (strB l)) w := by
  have hln := nats_len hv
  by_cases h0 : n = 0
  · subst h0
    obtain rfl := List.eq_nil_of_length_eq_zero hln
    cases A with
    | none => exact run_convert_bytes_nil w T E hT.under he 0 c D hd
    | some a =>
      rw [run_convert_bytes_string w T D E _ 0 c hT.under he hd, run_bytesToString w a 0 c [] (by unfold loadCells loadCellsFrom; rfl)]
      rfl
  · have hA := hv.sl_some h0
    rw [hA]
    exact run_convert_bytes_arg w T E hT.under he _ _ n c (l.map Int.ofNat) (by simpa using hln) (fun i hi => by
      have := (hv.sl_cell h0 (j := i) (by rw [natsAt (by omega)])).2
      rw [this]
      simp [show i < l.length by omega]) D hd
section
variable {P : Program} {ops : Array Oper} {S : World → Prop} {K : Act → World → Prop} {p : Plan} {n : Nat} {l : List (Nat × Value)} {C : World → Prop} {fl : Bool} {i : Nat} {ty ty' ty2 : TypeId} {x y : Operand}
theorem s_b2s (d : Nat) {E by_ : Nat} {zv : Value} {A : Option Addr} {m c : Nat} {b : List Nat} (ho : opAt ops n l i = some (some d, .convert ty ty' x, ty2)) [SlT P ty E 1 by_ zv] (he : P.underlying E = some (.int .u8)) (hd : P.underlying ty' = some .string) (hx : ev l x = some (.slice A m c)) (hv : ∀ w, C w → Has (sl 1 A m (nats .u8 b)) w)
    (h : SX P ops S K p n ((d, .string (strB b)) :: l) C) : SX P ops S K (.st false i p) n l C :=
  SX.val ho (fun a w o hen _ hs h1 _ => by simp only [execOp, h1, hen.ev hx, Sem.run_bind, run_b2s (c := c) he hd (hv w (hs rfl)), Result.andThen_ok, Sem.run_pure]) h
theorem s_b2sS (d : Nat) {E by_ : Nat} {zv : Value} {A : Option Addr} {m c : Nat} {b : List Nat} (ho : opAt ops n l i = some (some d, .convert ty ty' x, ty2)) [SlT P ty E 1 by_ zv] (he : P.underlying E = some (.int .u8)) (hd : P.underlying ty' = some .string) (hx : ev l x = some (.slice A m c)) (hv : ∀ w, S w → Has (sl 1 A m (nats .u8 b)) w)
    (h : SX P ops S K p n ((d, .string (strB b)) :: l) C) : SX P ops S K (.st true i p) n l C :=
  SX.val ho (fun a w o hen hs _ h1 _ => by simp only [execOp, h1, hen.ev hx, Sem.run_bind, run_b2s (c := c) he hd (hv w (hs rfl)), Result.andThen_ok, Sem.run_pure]) h
theorem s_eqS (d : Nat) {a b : ByteArray} {r : Bool} (ho : opAt ops n l i = some (some d, .binOp .eql ty x y ty', ty2)) (hx : ev l x = some (.string a)) (hy : ev l y = some (.string b)) (hr : (a.toList == b.toList) = r)
    (h : SX P ops S K p n ((d, .bool r) :: l) C) : SX P ops S K (.st fl i p) n l C :=
  SX.pure ho (fun e w o he h1 _ => by
    subst hr
    have eg : ∀ (x y : Operand) (v : Value), (eqGuard .eql ty x y (.string a) v).run P w = .ok () w := fun x y v => by simp [eqGuard]
    simp only [execOp, h1, he.ev hx, he.ev hy, Sem.run_bind, eg, binOp_string_eql, Result.andThen_ok, Sem.run_pure]) h
end
end Go.Sx
end
section
/- The contracts of package binpoly: sums of powers; and of the document's comparisons of bytes. Conditions: the lists are bytes, read where they lie. -/
namespace Go.Proofs.YtcdmmfpgeagimaaDoor
open Go Go.Lib Go.Sx Go.Fm
set_option maxRecDepth 100000

theorem sameBytes_spec (A : Option Addr) (n c : Nat) (p : List Nat) (A2 : Option Addr) (n2 c2 : Nat) (p2 : List Nat) (w : World) (ha : Has (sl 1 A n (nats .u8 p)) w) (hp : ∀ x ∈ p, x < 256) (ha2 : Has (sl 1 A2 n2 (nats .u8 p2)) w) (hp2 : ∀ x ∈ p2, x < 256) : Spec1 Tryd.prog 49 [.slice A n c, .slice A2 n2 c2] w (.bool (decide (p = p2))) := by
  refine spec_of Tryd.func49 rfl Tryd.ntmps49 rfl ?_
  refine CW.seq ?_
  refine CW.reg [0] rfl ?_
  refine s_as 4 rfl rfl ?_
  refine SX.next ?_
  refine CW.seq ?_
  refine CW.reg [0, 1, 2, 3, 4, 5] rfl ?_
  refine s_mv 5 rfl rfl ?_
  refine s_b2s 6 (b := p) rfl (by kernel_rfl) (by kernel_rfl) rfl (fun w hw => hw.old ha) ?_
  refine s_mv 7 rfl rfl ?_
  refine s_b2s 8 (b := p2) rfl (by kernel_rfl) (by kernel_rfl) rfl (fun w hw => hw.old ha2) ?_
  refine s_eqS 9 rfl rfl rfl (strB_beq hp hp2) ?_
  refine s_as 4 rfl rfl ?_
  refine SX.next ?_
  refine CW.ret ?_
  exact KN.ret (rs := [.tmp 4]) Tryd.results49 rfl (fun w hw => ⟨rfl, hw.nothing⟩)

theorem bare_spec (A : Option Addr) (n c : Nat) (p : List Nat) (w : World) (ha : Has (sl 1 A n (nats .u8 p)) w) (_hp : ∀ x ∈ p, x < 256) (hn : n ≤ 1073741824) (hcp : n ≤ c) (ht : trim p = p) : Spec1 Tryd.prog 97 [.slice A n c] w (.bool true) := by
  have hla := nats_len ha
  subst hla
  have htt := trim_length p
  rw [ht] at htt
  refine spec_of Tryd.func97 rfl Tryd.ntmps97 rfl ?_
  refine CW.seq ?_
  refine CW.reg [0] rfl ?_
  refine s_as 2 rfl rfl ?_
  refine SX.next ?_
  refine CW.seq ?_
  refine CW.reg [0, 1, 2, 3, 4, 5, 6, 7, 8, 9, 10, 11, 12] rfl ?_
  refine s_mv 3 rfl rfl ?_
  refine s_len 4 rfl rfl ?_
  refine s_eq 5 rfl rfl rfl rfl ?_
  refine s_mv 6 rfl rfl ?_
  refine SX.bool 6 rfl (fun hb => ?_) (fun hb => ?_)
  · skip
    skip
    refine SX.skip rfl ?_
    refine SX.skip rfl ?_
    refine SX.skip rfl ?_
    refine SX.skip rfl ?_
    refine SX.skip rfl ?_
    refine SX.skip rfl ?_
    refine SX.skip rfl ?_
    refine s_pickT 14 rfl rfl rfl ?_
    refine s_as 2 rfl rfl ?_
    refine SX.next ?_
    refine CW.ret ?_
    exact KN.ret (rs := [.tmp 2]) Tryd.results97 rfl (fun w hw => ⟨rfl, hw.nothing⟩)
  · skip
    replace hb := of_decide_eq_false hb
    have htop := cf_top p (by omega)
    rw [← htt] at htop
    refine s_mv 7 rfl rfl ?_
    refine s_mv 8 rfl rfl ?_
    refine s_len 9 rfl rfl ?_
    refine s_sub 10 rfl rfl rfl (r := ((p.length - 1 : Nat) : Int)) (by rw [show ((p.length : Nat) : Int) - 1 = ((p.length - 1 : Nat) : Int) by omega]; exact w64 (by omega)) ?_
    refine s_iaV 11 (p.length - 1) (fun w hw => hw.old ha) rfl rfl rfl rfl (by omega) ?_
    refine s_ldV 12 (fun w hw => hw.old ha) rfl rfl (by rw [Nat.mul_one]; exact natsAt8 (by omega)) (by omega) ?_
    refine s_ne 13 rfl rfl rfl (decide_eq_true (by omega)) ?_
    refine s_pickF 14 rfl rfl rfl ?_
    refine s_as 2 rfl rfl ?_
    refine SX.next ?_
    refine CW.ret ?_
    exact KN.ret (rs := [.tmp 2]) Tryd.results97 rfl (fun w hw => ⟨rfl, hw.nothing⟩)

theorem bsame_spec (A : Option Addr) (n c : Nat) (p : List Nat) (A2 : Option Addr) (n2 c2 : Nat) (p2 : List Nat) (w : World) (ha : Has (sl 1 A n (nats .u8 p)) w) (hp : ∀ x ∈ p, x < 256) (hn : n ≤ 1073741824) (hcp : n ≤ c) (ht : trim p = p) (ha2 : Has (sl 1 A2 n2 (nats .u8 p2)) w) (hp2 : ∀ x ∈ p2, x < 256) : Spec1 Tryd.prog 36 [.slice A n c, .slice A2 n2 c2] w (.bool (decide (p = p2))) := by
  refine spec_of Tryd.func36 rfl Tryd.ntmps36 rfl ?_
  refine CW.seq ?_
  refine CW.reg [0] rfl ?_
  refine s_as 4 rfl rfl ?_
  refine SX.next ?_
  refine CW.seq ?_
  refine CW.reg [0, 1, 2, 3, 4, 5, 6, 7] rfl ?_
  refine s_mv 5 rfl rfl ?_
  refine s_call1 6 rfl rfl rfl rfl (fun w hw => bare_spec A n c p w (hw.old ha) hp hn hcp ht) (fun _ _ => trivial) ?_
  refine s_mv 7 rfl rfl ?_
  refine s_mv 8 rfl rfl ?_
  refine s_mv 9 rfl rfl ?_
  refine s_call1 10 rfl rfl rfl rfl (fun w hw => sameBytes_spec A n c p A2 n2 c2 p2 w (hw.old ha) hp (hw.old ha2) hp2) (fun _ _ => trivial) ?_
  refine s_pickT 11 rfl rfl rfl ?_
  refine s_as 4 rfl rfl ?_
  refine SX.next ?_
  refine CW.ret ?_
  exact KN.ret (rs := [.tmp 4]) Tryd.results36 rfl (fun w hw => ⟨rfl, hw.nothing⟩)

/-! ### Powers of x -/
theorem one_bys (n : Nat) : (List.replicate (n / 8 + 1) 0).set (n / 8) (2 ^ (n % 8)) = bys (xP n) := by
  have hv : 2 ^ (n % 8) < 256 := Nat.pow_lt_pow_right (n := 8) (by omega) (Nat.mod_lt _ (by omega))
  have hl : ∀ x ∈ (List.replicate (n / 8 + 1) 0).set (n / 8) (2 ^ (n % 8)), x < 256 := set_lt (zeros_lt _) hv
  have ht : trim ((List.replicate (n / 8 + 1) 0).set (n / 8) (2 ^ (n % 8))) = (List.replicate (n / 8 + 1) 0).set (n / 8) (2 ^ (n % 8)) := by
    refine trim_of ?_
    have h1 := tl_le ((List.replicate (n / 8 + 1) 0).set (n / 8) (2 ^ (n % 8)))
    have h2 : ((List.replicate (n / 8 + 1) 0).set (n / 8) (2 ^ (n % 8))).length = n / 8 + 1 := by simp
    refine Nat.le_antisymm h1 (Nat.le_of_not_lt fun hlt => ?_)
    have h3 := cf_hi _ (n / 8) (show tl ((List.replicate (n / 8 + 1) 0).set (n / 8) (2 ^ (n % 8))) ≤ n / 8 by omega)
    rw [cf_set (by simp), if_pos rfl] at h3
    have := Nat.two_pow_pos (n % 8)
    omega
  rw [← ht]
  refine bys_of hl (xP_b1 n) (fun j => ?_)
  rw [cf_xP]
  by_cases h : j / 8 = n / 8
  · unfold bitN
    rw [cf_set (by simp), if_pos h, shr_two, Nat.testBit_two_pow]
    by_cases h2 : j = n
    · subst h2; simp
    · rw [if_neg h2, decide_eq_false (by omega)]
      rfl
  · rw [if_neg (by omega)]
    refine bitN_zero ?_
    rw [cf_set (by simp), if_neg h]
    unfold cf
    simp only [List.getD_eq_getElem?_getD]
    rw [List.getElem?_replicate]
    split <;> rfl
theorem xP_len (n : Nat) : (bys (xP n)).length = n / 8 + 1 := by rw [← one_bys]; simp
theorem repl8 (N i v : Nat) : (List.replicate N (Value.int .u8 0)).toArray.setIfInBounds i (.int .u8 (v : Nat)) = (nats .u8 ((List.replicate N 0).set i v)).toArray := by
  rw [List.setIfInBounds_toArray, ← nats_set]
  simp [nats]

theorem one_spec (n : Nat) (w : World) (hn : n ≤ 1000000) : SpecB Tryd.prog 129 [.int .i64 (n : Nat)] w (bys (xP n)) := by
  have hob := one_bys n
  have hxl := xP_len n
  have hv : 2 ^ (n % 8) < 256 := Nat.pow_lt_pow_right (n := 8) (by omega) (Nat.mod_lt _ (by omega))
  refine spec_of Tryd.func129 rfl Tryd.ntmps129 rfl ?_
  refine CW.seq ?_
  refine CW.reg [0] rfl ?_
  refine s_as 2 rfl rfl ?_
  refine SX.next ?_
  refine CW.seq ?_
  refine CW.reg [0, 1, 2, 3, 4] rfl ?_
  refine s_mv 4 rfl rfl ?_
  refine s_quo 5 rfl rfl rfl (by omega) (quo8 n (by omega)) ?_
  refine s_add 6 rfl rfl rfl (r := (((n / 8 + 1) : Nat) : Int)) (w64 (by omega)) ?_
  refine s_make 7 (n / 8 + 1) rfl rfl rfl rfl rfl (by omega) (fun _ _ => trivial) (fun go => ?_)
  refine s_as 3 rfl rfl ?_
  refine SX.next ?_
  refine CW.seq ?_
  refine CW.reg [0, 1, 2, 3, 4, 5, 6, 7] rfl ?_
  refine s_mv 8 rfl rfl ?_
  refine s_mv 9 rfl rfl ?_
  refine s_quo 10 rfl rfl rfl (by omega) (quo8 n (by omega)) ?_
  refine s_mv 11 rfl rfl ?_
  refine s_rem 12 rfl rfl rfl (by omega) (tmod8 n) ?_
  refine s_shl 13 rfl rfl rfl (by omega) (r := ((2 ^ (n % 8) : Nat) : Int)) (by rw [show (1 : Int) = ((1 : Nat) : Int) from rfl, shl_u8 (by omega), Nat.one_mul, Nat.mod_eq_of_lt hv]) ?_
  refine s_ia0 14 (n / 8) rfl rfl rfl rfl (by omega) ?_
  refine s_stB 0 rfl rfl rfl rfl rfl (by simp) (fun _ _ => trivial) ?_
  refine SX.next ?_
  refine CW.seq ?_
  refine CW.reg [0, 1] rfl ?_
  refine s_mv 15 rfl rfl ?_
  refine s_as 2 rfl rfl ?_
  refine SX.next ?_
  refine CW.ret ?_
  exact KN.ret (rs := [.tmp 2]) Tryd.results129 rfl (fun w hw => ⟨(some ⟨go, 0, none⟩, (n / 8 + 1)), by rw [hxl]; rfl, by rw [hxl]; exact Nat.le_refl _, by
  rw [hxl]
  rw [repl8, hob] at hw
  exact hw.blkOwn (q := 0) (c := (n / 8 + 1)) rfl (by simp [hxl]) (by unfold maxLen; omega)⟩)

/-! ### Sums of many -/
theorem _root_.Go.Sx.St.swp {F : Nat → Prop} {w₀ w : World} {A B : Atom} {L : List Atom} (h : St F w₀ (A :: B :: L) w) : St F w₀ (B :: A :: L) w := ⟨h.fr, h.lt, h.sep.swap⟩
def BlG.hdr (b : BlG) : Value := .slice b.A b.l.length b.c
def ownB (b : BlG) : Atom := own 5 1 b.A b.l.length b.c (nats .u8 b.l)
structure BlG.Fine (b : BlG) (w : World) : Prop where
  has : Has (sl 1 b.A b.l.length (nats .u8 b.l)) w
  lt : ∀ x ∈ b.l, x < 256
  bd : b.l.length ≤ 1000000
  cap : b.l.length ≤ b.c
/-- The sum of the first i. -/
def sumF (f : Nat → List Nat) : Nat → List Nat
  | 0 => []
  | i + 1 => addP (sumF f i) (f i)
theorem sumF_b1 {f : Nat → List Nat} (hf : ∀ i, B1 (f i)) : ∀ i, B1 (sumF f i)
  | 0 => nil_b1
  | i + 1 => addP_b1 (sumF_b1 hf i) (hf i)
theorem addP_le8 (a b : List Nat) : (addP a b).length ≤ max a.length b.length := by
  unfold addP pl
  rw [trim_length]
  simpa using tl_le ((List.range (max a.length b.length)).map fun j => cf a j ^^^ cf b j)
theorem sumF_le {f : Nat → List Nat} {K : Nat} : ∀ {i : Nat}, (∀ j, j < i → (f j).length ≤ K) → (sumF f i).length ≤ K
  | 0, _ => Nat.zero_le _
  | i + 1, h => by
    have h1 := addP_le8 (sumF f i) (f i)
    have h2 := sumF_le (i := i) (fun j hj => h j (by omega))
    have h3 := h i (by omega)
    show (addP (sumF f i) (f i)).length ≤ K
    omega
theorem sumF_congr {f g : Nat → List Nat} : ∀ {i : Nat}, (∀ j, j < i → f j = g j) → sumF f i = sumF g i
  | 0, _ => rfl
  | i + 1, h => by
    show addP (sumF f i) (f i) = addP (sumF g i) (g i)
    rw [sumF_congr (i := i) (fun j hj => h j (by omega)), h i (by omega)]
/-- Its bytes. -/
def sumY (f : Nat → List Nat) : Nat → List Nat
  | 0 => []
  | i + 1 => bys (sumF f (i + 1))
theorem sumY_eq (f : Nat → List Nat) : ∀ i, sumY f i = bys (sumF f i)
  | 0 => bys_nil.symm
  | _ + 1 => rfl
def blAt (bs : List BlG) (i : Nat) : List Nat := bl (bs.getD i ⟨none, 0, []⟩).l
theorem blAt_some {bs : List BlG} {i : Nat} {b : BlG} (h : bs[i]? = some b) : blAt bs i = bl b.l := by
  unfold blAt
  rw [List.getD_eq_getElem?_getD, h]
  rfl

theorem fold_spec (A : Option Addr) (n c : Nat) (bs : List BlG) (w : World) (ha : Has (sl 1 A n (bs.map BlG.hdr)) w) (hb : ∀ b ∈ bs, b.Fine w) (hn : n ≤ 1000000) : SpecB Tryd.prog 130 [.slice A n c, .func (.func 29) #[] #[]] w (sumY (blAt bs) bs.length) := by
  have hla : bs.length = n := by have := ha.sl_len; simpa using this
  subst hla
  refine spec_of Tryd.func130 rfl Tryd.ntmps130 rfl ?_
  refine CW.seq ?_
  refine CW.reg [0] rfl ?_
  refine s_as 4 rfl rfl ?_
  refine SX.next ?_
  refine CW.seq ?_
  refine CW.reg [0] rfl ?_
  refine s_as 5 rfl rfl ?_
  refine SX.next ?_
  refine CW.seq ?_
  refine CW.seq ?_
  refine CW.reg [0, 1, 2] rfl ?_
  refine s_mv 8 rfl rfl ?_
  refine s_len 9 rfl rfl ?_
  refine s_mv 10 rfl rfl ?_
  refine SX.next ?_
  refine CW.block ?_
  refine CW.loop (G := Nat × Option Addr × Nat) (fun q => [(1, .func (.func 29) #[] #[]), (5, .slice q.2.1 (sumY (blAt bs) q.1).length q.2.2), (8, .slice A bs.length c), (9, .int .i64 (bs.length : Nat)), (10, .int .i64 (q.1 : Nat))]) (fun q => Sto w [own 5 1 q.2.1 (sumY (blAt bs) q.1).length q.2.2 (nats .u8 (sumY (blAt bs) q.1))]) (fun q => q.1 ≤ bs.length ∧ (sumY (blAt bs) q.1).length ≤ q.2.2) (fun q => bs.length - q.1) (0, none, 0) ⟨rfl, rfl, rfl, rfl, rfl, trivial⟩ (fun _ h => h.begin_ _ 1) ⟨Nat.zero_le _, Nat.le_refl 0⟩ ?_
  rintro ⟨i, q⟩ ⟨hi, hq⟩
  simp only at hi hq
  dsimp only
  refine CW.seq ?_
  refine CW.reg [0] rfl ?_
  refine s_lt 11 rfl rfl rfl rfl ?_
  refine SX.next ?_
  refine CW.seq ?_
  refine CW.test rfl (fun hc => ?_) (fun hc => ?_)
  · skip
    obtain ⟨b, hbi⟩ : ∃ b, bs[i]? = some b := ⟨_, List.getElem?_eq_getElem (by omega)⟩
    obtain ⟨hb1, hb2, hb3, hb4⟩ := hb b (List.mem_of_getElem? hbi)
    have hcell : (bs.map BlG.hdr)[i * 1]? = some (BlG.hdr b) := by rw [Nat.mul_one, List.getElem?_map, hbi]; rfl
    have hsb := sumF_b1 (f := blAt bs) (fun j => bl_b1 _) i
    have hbl : bl (sumY (blAt bs) i) = sumF (blAt bs) i := by rw [sumY_eq]; exact bl_bys hsb
    have hlt8 : ∀ x ∈ (sumY (blAt bs) i), x < 256 := by rw [sumY_eq]; exact (bys_tr hsb.le).lt
    have hsl := sumF_le (f := blAt bs) (K := 8000000) (i := i) (fun j hj => by
      obtain ⟨b2, hb2⟩ : ∃ b, bs[j]? = some b := ⟨_, List.getElem?_eq_getElem (by omega)⟩
      rw [blAt_some hb2]
      have h1 := bl_len b2.l
      have h2 := (hb b2 (List.mem_of_getElem? hb2)).bd
      omega)
    have hbyl := bys_len (sumF (blAt bs) i)
    rw [← sumY_eq] at hbyl
    have hnx : sumY (blAt bs) (i + 1) = bys (addP (sumF (blAt bs) i) (bl b.l)) := by rw [← blAt_some hbi]; rfl
    refine CW.skip ?_
    refine KN.code ?_
    refine CW.seq ?_
    refine CW.block ?_
    refine CW.seq ?_
    refine CW.reg [0, 1, 2] rfl ?_
    refine s_iaV 12 i (fun w hw => hw.old ha) rfl rfl rfl rfl (by omega) ?_
    refine s_ldV 13 (v := .slice b.A b.l.length b.c) (fun w hw => hw.old ha) rfl rfl hcell (by omega) ?_
    refine s_as 7 rfl rfl ?_
    refine SX.next ?_
    refine CW.reg [0, 1, 2, 3, 4] rfl ?_
    refine s_mv 14 rfl rfl ?_
    refine s_mv 15 rfl rfl ?_
    refine s_mv 16 rfl rfl ?_
    refine s_call 17 rfl rfl rfl rfl (fun w hw => by have := badd_spec q.1 (sumY (blAt bs) i).length q.2 (sumY (blAt bs) i) b.A b.l.length b.c b.l w ((hw.has (i := 0) rfl).of_own) hlt8 (by omega) hq (hw.old hb1) hb2 (by omega) hb4; rw [hbl, ← hnx] at this; exact this) (fun _ _ => trivial) (fun q2 hq2 => ?_)
    refine s_as 5 rfl rfl ?_
    refine SX.end_ ?_
    refine KN.blk ?_
    refine KN.code ?_
    refine CW.reg [0, 1] rfl ?_
    refine s_add 18 rfl rfl rfl (r := ((i + 1 : Nat) : Int)) (w64 (by omega)) ?_
    refine s_mv 10 rfl rfl ?_
    refine SX.end_ ?_
    exact KN.back (i + 1, q2) ⟨rfl, rfl, rfl, rfl, rfl, trivial⟩ (fun _ h => h.pick [0] rfl) ⟨by simp only; omega, hq2⟩ (by simp only; omega)
  · skip
    obtain rfl : i = bs.length := by omega
    refine CW.exit rfl ?_
    refine KN.code ?_
    refine CW.seq ?_
    refine CW.reg [0, 1] rfl ?_
    refine s_mv 19 rfl rfl ?_
    refine s_as 4 rfl rfl ?_
    refine SX.next ?_
    refine CW.ret ?_
    exact KN.ret (rs := [.tmp 4]) Tryd.results130 rfl (fun w hw => ⟨q, rfl, hq, hw⟩)
end Go.Proofs.YtcdmmfpgeagimaaDoor
end
section
/- The contracts of binpoly.Of. Conditions: the exponents are read where they lie. -/
namespace Go.Proofs.YtcdmmfpgeagimaaDoor
open Go Go.Lib Go.Sx Go.Fm
set_option maxRecDepth 100000
/-- x to the number at place j. -/
def eX (l : List Int) (j : Nat) : List Nat := xP (l.getD j 0).toNat
theorem eX_b1 (l : List Int) (j : Nat) : B1 (eX l j) := xP_b1 _
/-- What Of's loop keeps: the newest first. -/
structure OfG (l : List Int) (z : Nat × (Option Addr × Nat) × List BlG) : Prop where
  le : z.1 ≤ l.length
  rng : ∀ j, j < z.1 → 0 ≤ l.getD j 0 ∧ l.getD j 0 ≤ 2048
  len : z.2.2.length = z.1
  row : ∀ j, j < z.1 → (z.2.2.reverse.getD j ⟨none, 0, []⟩).l = bys (eX l j)
  cap : ∀ b ∈ z.2.2, b.l.length ≤ b.c
  byt : ∀ b ∈ z.2.2, ∃ k, k ≤ 2048 ∧ b.l = bys (xP k)
theorem OfG.start (l : List Int) : OfG l (0, (none, 0), []) := ⟨Nat.zero_le _, fun j h => by simp at h, rfl, fun j h => by simp at h, fun b h => by simp at h, fun b h => by simp at h⟩
theorem OfG.next {l : List Int} {i k : Nat} {A A2 : Option Addr × Nat} {rs : List BlG} {q : Option Addr × Nat} (h : OfG l (i, A, rs)) (hi : i < l.length) (hk : l.getD i 0 = (k : Nat)) (hk2 : k ≤ 2048) (hq : (bys (xP k)).length ≤ q.2) : OfG l (i + 1, A2, ⟨q.1, q.2, bys (xP k)⟩ :: rs) := by
  obtain ⟨h1, h2, h3, h4, h5, h6⟩ := h
  simp only at h1 h2 h3 h4 h5 h6
  refine ⟨hi, fun j hj => ?_, by simp only [List.length_cons]; omega, fun j hj => ?_, fun b hb => ?_, fun b hb => ?_⟩
  · simp only at hj
    by_cases h : j = i
    · subst h; rw [hk]; omega
    · exact h2 j (by omega)
  · simp only at hj ⊢
    rw [List.reverse_cons, List.getD_eq_getElem?_getD]
    by_cases h : j = i
    · subst h
      rw [List.getElem?_append_right (by simp; omega)]
      simp only [List.length_reverse, h3, Nat.sub_self, List.getElem?_cons_zero, Option.getD_some]
      unfold eX
      rw [hk]
      rfl
    · rw [List.getElem?_append_left (by simp; omega), ← List.getD_eq_getElem?_getD]
      exact h4 j (by omega)
  · rcases List.mem_cons.1 hb with rfl | hb
    · exact hq
    · exact h5 b hb
  · rcases List.mem_cons.1 hb with rfl | hb
    · exact ⟨k, hk2, rfl⟩
    · exact h6 b hb
theorem sumY_congr {f g : Nat → List Nat} {i : Nat} (h : ∀ j, j < i → f j = g j) : sumY f i = sumY g i := by rw [sumY_eq, sumY_eq, sumF_congr h]
theorem OfG.done {l : List Int} {A : Option Addr × Nat} {rs : List BlG} (h : OfG l (l.length, A, rs)) : sumY (blAt rs.reverse) l.length = sumY (eX l) l.length :=
  sumY_congr (fun j hj => by
    unfold blAt
    rw [h.row j hj, bl_bys (eX_b1 l j)])
theorem rev_has {rs : List BlG} {b : BlG} (h : b ∈ rs.reverse) : ∃ k : Nat, (rs.map ownB)[k]? = some (ownB b) := by
  obtain ⟨k, hk⟩ := List.getElem?_of_mem (List.mem_reverse.1 h)
  exact ⟨k, by rw [List.getElem?_map, hk]; rfl⟩

theorem of_spec (A : Option Addr) (n c : Nat) (l : List Int) (w : World) (ha : Has (sl 1 A n (ints .i64 l)) w) (hn : n ≤ 1000000) (hr : ∀ j, j < l.length → 0 ≤ l.getD j 0 ∧ l.getD j 0 ≤ 2048) : SpecBE Tryd.prog 92 [.slice A n c] w (sumY (eX l) l.length) := by
  have hla := ints_len ha
  subst hla
  refine spec_of Tryd.func92 rfl Tryd.ntmps92 rfl ?_
  refine CW.seq ?_
  refine CW.reg [0, 1] rfl ?_
  refine s_as 2 rfl rfl ?_
  refine s_as 3 rfl rfl ?_
  refine SX.next ?_
  refine CW.seq ?_
  refine CW.reg [0] rfl ?_
  refine s_as 4 rfl rfl ?_
  refine SX.next ?_
  refine CW.seq ?_
  refine CW.seq ?_
  refine CW.reg [0, 1, 2] rfl ?_
  refine s_mv 7 rfl rfl ?_
  refine s_len 8 rfl rfl ?_
  refine s_mv 9 rfl rfl ?_
  refine SX.next ?_
  refine CW.block ?_
  refine CW.loop (G := Nat × (Option Addr × Nat) × List BlG) (fun z => [(4, .slice z.2.1.1 z.1 z.2.1.2), (7, .slice A l.length c), (8, .int .i64 (l.length : Nat)), (9, .int .i64 (z.1 : Nat))]) (fun z => Sto w (own 47 1 z.2.1.1 z.1 z.2.1.2 (z.2.2.reverse.map BlG.hdr) :: z.2.2.map ownB)) (OfG l) (fun z => l.length - z.1) (0, (none, 0), []) ⟨rfl, rfl, rfl, rfl, trivial⟩ (fun _ h => h.begin_ _ 1) (OfG.start l) ?_
  rintro ⟨i, q, rs⟩ hz
  have hle := hz.le
  have hrl := hz.len
  simp only at hle hrl
  dsimp only
  refine CW.seq ?_
  refine CW.reg [0] rfl ?_
  refine s_lt 10 rfl rfl rfl rfl ?_
  refine SX.next ?_
  refine CW.seq ?_
  refine CW.test rfl (fun hc => ?_) (fun hc => ?_)
  · skip
    have hi : i < l.length := by omega
    obtain ⟨k, hk⟩ := Int.eq_ofNat_of_zero_le (hr i hi).1
    have hk2 : k ≤ 2048 := by have := (hr i hi).2; omega
    refine CW.skip ?_
    refine KN.code ?_
    refine CW.seq ?_
    refine CW.block ?_
    refine CW.seq ?_
    refine CW.reg [0, 1, 2] rfl ?_
    refine s_iaV 11 i (fun w hw => hw.old ha) rfl rfl rfl rfl (by omega) ?_
    refine s_ldV 12 (v := .int .i64 (k : Nat)) (fun w hw => hw.old ha) rfl rfl (by rw [Nat.mul_one, intsAt hi, hk]) (by omega) ?_
    refine s_as 6 rfl rfl ?_
    refine SX.next ?_
    refine CW.seq ?_
    refine CW.seq ?_
    refine CW.reg [0, 1, 2, 3, 4, 5] rfl ?_
    refine s_mv 13 rfl rfl ?_
    refine s_lt 14 rfl rfl rfl (decide_eq_false (by omega)) ?_
    refine s_mv 15 rfl rfl ?_
    refine s_mv 16 rfl rfl ?_
    refine s_gt 17 rfl rfl rfl (decide_eq_false (by omega)) ?_
    refine s_pickF 18 rfl rfl rfl ?_
    refine SX.next ?_
    refine CW.condF rfl ?_
    refine CW.skip ?_
    refine KN.code ?_
    refine CW.reg [0, 1, 2, 3, 4, 5] rfl ?_
    refine s_mv 20 rfl rfl ?_
    refine s_mv 21 rfl rfl ?_
    refine s_call 22 rfl rfl rfl rfl (fun w hw => one_spec k w (by omega)) (fun _ _ => trivial) (fun q22 hq22 => ?_)
    refine s_bsl 23 rfl rfl (cells := #[.slice q22.1 (bys (xP k)).length q22.2]) (by kernel_rfl) rfl (fun _ _ => trivial) (fun gb => ?_)
    refine s_app 24 2 rfl rfl rfl rfl (ys := [.slice q22.1 (bys (xP k)).length q22.2]) (fun w hw => Has.cong ((hw.has (i := 0) rfl).blk_sl (m := 1) rfl) rfl) rfl rfl (by omega) (by unfold maxLen; omega) (by omega) (fun _ _ _ _ => trivial) (fun A2 c2 hc2 => ?_)
    refine s_as 4 rfl rfl ?_
    refine SX.end_ ?_
    refine KN.blk ?_
    refine KN.code ?_
    refine CW.reg [0, 1] rfl ?_
    refine s_add 25 rfl rfl rfl (r := ((i + 1 : Nat) : Int)) (w64 (by omega)) ?_
    refine s_mv 9 rfl rfl ?_
    refine SX.end_ ?_
    exact KN.back (i + 1, (A2, c2), ⟨q22.1, q22.2, (bys (xP k))⟩ :: rs) ⟨rfl, rfl, rfl, rfl, trivial⟩ (fun _ h => by simp only [List.reverse_cons, List.map_append]; exact h.tail.swp) (hz.next hi hk hk2 hq22) (by simp only; omega)
  · skip
    obtain rfl : i = l.length := by omega
    refine CW.exit rfl ?_
    refine KN.code ?_
    refine CW.seq ?_
    refine CW.reg [0, 1, 2, 3] rfl ?_
    refine s_mv 26 rfl rfl ?_
    refine s_call 27 rfl rfl rfl rfl (fun w hw => by have := fold_spec q.1 l.length q.2 rs.reverse w ((hw.has (i := 0) rfl).of_own) (fun b hb => by
      obtain ⟨k, hk⟩ := rev_has hb
      obtain ⟨k2, hk2, hbl⟩ := hz.byt b (List.mem_reverse.1 hb)
      have hx := xP_len k2
      exact ⟨(hw.has (i := k + 1) (by rw [List.getElem?_cons_succ]; exact hk)).of_own, by rw [hbl]; exact (bys_tr (xP_b1 k2).le).lt, by rw [hbl]; omega, hz.cap b (List.mem_reverse.1 hb)⟩) hn; rw [List.length_reverse, hrl, hz.done] at this; exact this) (fun _ _ => trivial) (fun q3 hq3 => ?_)
    refine s_as 2 rfl rfl ?_
    refine s_as 3 rfl rfl ?_
    refine SX.next ?_
    refine CW.ret ?_
    exact KN.ret (rs := [.tmp 2, .tmp 3]) Tryd.results92 rfl (fun w hw => ⟨q3, rfl, hq3, hw.pick [0] rfl⟩)

theorem of_bad (A : Option Addr) (n c : Nat) (l : List Int) (e : Nat → Addr) (w : World) (ha : Has (sl 1 A n (ints .i64 l)) w) (hn : n ≤ 1000000) (he : Er e w 1) (jb : Nat) (hjb : jb < l.length) (hbad : ¬ (0 ≤ l.getD jb 0 ∧ l.getD jb 0 ≤ 2048)) : Spec1 Tryd.prog 92 [.slice A n c] w (errRes e 1) := by
  have hla := ints_len ha
  subst hla
  refine spec_of Tryd.func92 rfl Tryd.ntmps92 rfl ?_
  refine CW.seq ?_
  refine CW.reg [0, 1] rfl ?_
  refine s_as 2 rfl rfl ?_
  refine s_as 3 rfl rfl ?_
  refine SX.next ?_
  refine CW.seq ?_
  refine CW.reg [0] rfl ?_
  refine s_as 4 rfl rfl ?_
  refine SX.next ?_
  refine CW.seq ?_
  refine CW.seq ?_
  refine CW.reg [0, 1, 2] rfl ?_
  refine s_mv 7 rfl rfl ?_
  refine s_len 8 rfl rfl ?_
  refine s_mv 9 rfl rfl ?_
  refine SX.next ?_
  refine CW.block ?_
  refine CW.loop (G := Nat × (Option Addr × Nat) × List BlG) (fun z => [(4, .slice z.2.1.1 z.1 z.2.1.2), (7, .slice A l.length c), (8, .int .i64 (l.length : Nat)), (9, .int .i64 (z.1 : Nat))]) (fun z => Sto w (own 47 1 z.2.1.1 z.1 z.2.1.2 (z.2.2.reverse.map BlG.hdr) :: z.2.2.map ownB)) (OfG l) (fun z => l.length - z.1) (0, (none, 0), []) ⟨rfl, rfl, rfl, rfl, trivial⟩ (fun _ h => h.begin_ _ 1) (OfG.start l) ?_
  rintro ⟨i, q, rs⟩ hz
  have hle := hz.le
  have hrl := hz.len
  simp only at hle hrl
  dsimp only
  refine CW.seq ?_
  refine CW.reg [0] rfl ?_
  refine s_lt 10 rfl rfl rfl rfl ?_
  refine SX.next ?_
  refine CW.seq ?_
  refine CW.test rfl (fun hc => ?_) (fun hc => ?_)
  · skip
    have hi : i < l.length := by omega
    refine CW.skip ?_
    refine KN.code ?_
    refine CW.seq ?_
    refine CW.block ?_
    refine CW.seq ?_
    refine CW.reg [0, 1, 2] rfl ?_
    refine s_iaV 11 i (fun w hw => hw.old ha) rfl rfl rfl rfl (by omega) ?_
    refine s_ldV 12 (fun w hw => hw.old ha) rfl rfl (by rw [Nat.mul_one]; exact intsAt hi) (by omega) ?_
    refine s_as 6 rfl rfl ?_
    refine SX.next ?_
    refine CW.seq ?_
    refine CW.seq ?_
    refine CW.reg [0, 1, 2, 3, 4, 5] rfl ?_
    refine s_mv 13 rfl rfl ?_
    refine s_lt 14 rfl rfl rfl rfl ?_
    refine s_mv 15 rfl rfl ?_
    refine SX.bool 15 rfl (fun hb => ?_) (fun hb => ?_)
    · skip
      skip
      refine SX.skip rfl ?_
      refine SX.skip rfl ?_
      refine s_pickT 18 rfl rfl rfl ?_
      refine SX.next ?_
      refine CW.condT rfl ?_
      refine CW.seq ?_
      refine CW.regD (.st true 0 (.st true 1 (.st true 2 .done))) (Sto w []) mixed (by kernel_rfl) (fun _ h => h.drew) (fun _ h => h.dropR) ?_
      refine s_ldS 19 rfl rfl (fun _ h => h.cell he) ?_
      refine s_as 2 rfl rfl ?_
      refine s_as 3 rfl rfl ?_
      refine SX.next ?_
      refine CW.ret ?_
      exact KN.ret (rs := [.tmp 2, .tmp 3]) Tryd.results92 rfl (fun w hw => ⟨rfl, hw.dropR⟩)
    · skip
      replace hb := of_decide_eq_false hb
      refine s_mv 16 rfl rfl ?_
      refine s_gt 17 rfl rfl rfl rfl ?_
      refine s_pickF 18 rfl rfl rfl ?_
      refine SX.next ?_
      refine CW.test rfl (fun hc2 => ?_) (fun hc2 => ?_)
      · skip
        refine CW.seq ?_
        refine CW.regD (.st true 0 (.st true 1 (.st true 2 .done))) (Sto w []) mixed (by kernel_rfl) (fun _ h => h.drew) (fun _ h => h.dropR) ?_
        refine s_ldS 19 rfl rfl (fun _ h => h.cell he) ?_
        refine s_as 2 rfl rfl ?_
        refine s_as 3 rfl rfl ?_
        refine SX.next ?_
        refine CW.ret ?_
        exact KN.ret (rs := [.tmp 2, .tmp 3]) Tryd.results92 rfl (fun w hw => ⟨rfl, hw.dropR⟩)
      · skip
        obtain ⟨k, hk⟩ := Int.eq_ofNat_of_zero_le (show 0 ≤ l.getD i 0 by omega)
        have hk2 : k ≤ 2048 := by omega
        refine CW.skip ?_
        refine KN.code ?_
        refine CW.reg [0, 1, 2, 3, 4, 5] rfl ?_
        refine s_mv 20 rfl rfl ?_
        refine s_mv 21 (v := .int .i64 (k : Nat)) rfl (by rw [← hk]; rfl) ?_
        refine s_call 22 rfl rfl rfl rfl (fun w hw => one_spec k w (by omega)) (fun _ _ => trivial) (fun q22 hq22 => ?_)
        refine s_bsl 23 rfl rfl (cells := #[.slice q22.1 (bys (xP k)).length q22.2]) (by kernel_rfl) rfl (fun _ _ => trivial) (fun gb => ?_)
        refine s_app 24 2 rfl rfl rfl rfl (ys := [.slice q22.1 (bys (xP k)).length q22.2]) (fun w hw => Has.cong ((hw.has (i := 0) rfl).blk_sl (m := 1) rfl) rfl) rfl rfl (by omega) (by unfold maxLen; omega) (by omega) (fun _ _ _ _ => trivial) (fun A2 c2 hc2 => ?_)
        refine s_as 4 rfl rfl ?_
        refine SX.end_ ?_
        refine KN.blk ?_
        refine KN.code ?_
        refine CW.reg [0, 1] rfl ?_
        refine s_add 25 rfl rfl rfl (r := ((i + 1 : Nat) : Int)) (w64 (by omega)) ?_
        refine s_mv 9 rfl rfl ?_
        refine SX.end_ ?_
        exact KN.back (i + 1, (A2, c2), ⟨q22.1, q22.2, (bys (xP k))⟩ :: rs) ⟨rfl, rfl, rfl, rfl, trivial⟩ (fun _ h => by simp only [List.reverse_cons, List.map_append]; exact h.tail.swp) (hz.next hi hk hk2 hq22) (by simp only; omega)
  · skip
    exact absurd (hz.rng jb (by simp only; omega)) hbad
end Go.Proofs.YtcdmmfpgeagimaaDoor
end
section
/- The contracts of the document's bits and exponents, and of the chapter's examples. Conditions: the lists are read where they lie. -/
namespace Go.Proofs.YtcdmmfpgeagimaaDoor
open Go Go.Lib Go.Sx Go.Fm
set_option maxRecDepth 100000
/-- 1 where a number is not 0. -/
def nzF (l : List Int) (j : Nat) : Nat := if l.getD j 0 = 0 then 0 else 1
theorem nzF_two (l : List Int) (j : Nat) : nzF l j < 2 := by unfold nzF; split <;> omega
/-- The polynomial of the first i. -/
def nzP (l : List Int) (i : Nat) : List Nat := pl i (nzF l)
theorem cf_nzP (l : List Int) (i j : Nat) : cf (nzP l i) j = if j < i then nzF l j else 0 := cf_pl _ _ _
theorem nzP_b1 (l : List Int) (i : Nat) : B1 (nzP l i) := ⟨pl_tr (fun j => Nat.lt_trans (nzF_two l j) (by decide)), fun j => by rw [cf_nzP]; split; exact nzF_two l j; omega⟩
theorem nzP_len (l : List Int) (i : Nat) : (nzP l i).length ≤ i := by
  unfold nzP pl
  rw [trim_length]
  simpa using tl_le ((List.range i).map (nzF l))
theorem nzP_same {l : List Int} {i : Nat} (h : l.getD i 0 = 0) : nzP l (i + 1) = nzP l i := by
  refine pl_eq (fun j => ?_)
  by_cases hj : j = i
  · subst hj
    rw [if_pos (by omega), if_neg (by omega)]
    unfold nzF
    rw [if_pos h]
  · by_cases h2 : j < i
    · rw [if_pos (by omega), if_pos h2]
    · rw [if_neg (by omega), if_neg h2]
theorem or_two (x s t : Nat) : ((x ||| 2 ^ s) >>> t) % 2 = if t = s then 1 else (x >>> t) % 2 := by
  rw [shr_two, shr_two, Nat.testBit_or, Nat.testBit_two_pow]
  by_cases h : t = s
  · subst h; rw [if_pos rfl, decide_eq_true rfl, Bool.or_true]; rfl
  · rw [if_neg h, decide_eq_false (fun e => h e.symm), Bool.or_false]
theorem bitN_or {L : List Nat} {i : Nat} (hi : i / 8 < L.length) (j : Nat) : bitN (L.set (i / 8) (cf L (i / 8) ||| 2 ^ (i % 8))) j = if j = i then 1 else bitN L j := by
  unfold bitN
  rw [cf_set hi]
  by_cases h : j / 8 = i / 8
  · rw [if_pos h, or_two, ← h]
    by_cases h2 : j = i
    · subst h2; rw [if_pos rfl, if_pos rfl]
    · rw [if_neg (by omega), if_neg h2]
  · rw [if_neg h, if_neg (fun e => h (by rw [e]))]
theorem or8 {x s : Nat} (hx : x < 256) (hs : s < 8) : x ||| 2 ^ s < 256 := Nat.or_lt_two_pow (n := 8) hx (Nat.pow_lt_pow_right (by omega) hs)
/-- One more bit is laid. -/
theorem nzP_set {l : List Int} {i : Nat} {L : List Nat} (h0 : l.getD i 0 ≠ 0) (hl : ∀ x ∈ L, x < 256) (hlen : L.length = i / 8 + 1) (hb : ∀ j, bitN L j = bitN (bys (nzP l i)) j) : L.set (i / 8) (cf L (i / 8) ||| 2 ^ (i % 8)) = bys (nzP l (i + 1)) := by
  have hlt : ∀ x ∈ L.set (i / 8) (cf L (i / 8) ||| 2 ^ (i % 8)), x < 256 := set_lt hl (or8 (cf_lt8 hl _) (Nat.mod_lt _ (by omega)))
  have ht : trim (L.set (i / 8) (cf L (i / 8) ||| 2 ^ (i % 8))) = L.set (i / 8) (cf L (i / 8) ||| 2 ^ (i % 8)) := by
    refine trim_of ?_
    have h1 := tl_le (L.set (i / 8) (cf L (i / 8) ||| 2 ^ (i % 8)))
    have h2 : (L.set (i / 8) (cf L (i / 8) ||| 2 ^ (i % 8))).length = i / 8 + 1 := by rw [List.length_set, hlen]
    refine Nat.le_antisymm h1 (Nat.le_of_not_lt fun hlt => ?_)
    have h3 := cf_hi _ (i / 8) (show tl (L.set (i / 8) (cf L (i / 8) ||| 2 ^ (i % 8))) ≤ i / 8 by omega)
    have h4 := bitN_or (L := L) (i := i) (by omega) i
    rw [if_pos rfl, bitN_zero h3] at h4
    cases h4
  rw [← ht]
  refine bys_of hlt (nzP_b1 l (i + 1)) (fun j => ?_)
  rw [bitN_or (by omega), hb, bitN_bys (nzP_b1 l i).le, cf_nzP, cf_nzP]
  by_cases h : j = i
  · subst h
    rw [if_pos rfl, if_pos (by omega)]
    unfold nzF
    rw [if_neg h0]
  · rw [if_neg h]
    by_cases h2 : j < i
    · rw [if_pos h2, if_pos (by omega)]
    · rw [if_neg h2, if_neg (by omega)]
theorem bitN_app (L : List Nat) (j : Nat) : bitN (L ++ [0]) j = bitN L j := by
  have : cf (L ++ [0]) (j / 8) = cf L (j / 8) := by
    unfold cf
    simp only [List.getD_eq_getElem?_getD]
    by_cases h : j / 8 < L.length
    · rw [List.getElem?_append_left h]
    · rw [List.getElem?_append_right (by omega), List.getElem?_eq_none (show L.length ≤ j / 8 by omega)]
      by_cases h2 : j / 8 - L.length = 0
      · rw [h2]; rfl
      · rw [List.getElem?_eq_none (by simp; omega)]
  unfold bitN
  rw [this]
structure BitG (l : List Int) (i : Nat) (L : List Nat) : Prop where
  len : L.length ≤ i / 8 + 1
  lt : ∀ x ∈ L, x < 256
  bit : ∀ j, bitN L j = bitN (bys (nzP l i)) j
theorem BitG.start (l : List Int) (i : Nat) : BitG l i (bys (nzP l i)) := ⟨by have := bys_len (nzP l i); have := nzP_len l i; omega, (bys_tr (nzP_b1 l i).le).lt, fun _ => rfl⟩
theorem BitG.next {l : List Int} {i : Nat} {L : List Nat} (h : BitG l i L) (hl : L.length ≤ i / 8) : BitG l i (L ++ [0]) := ⟨by simp; omega, fun x hx => by
  rcases List.mem_append.1 hx with hx | hx
  · exact h.lt x hx
  · simp at hx; omega, fun j => by rw [bitN_app, h.bit]⟩
theorem nats8_snoc (a : List Nat) : nats .u8 a ++ [.int .u8 0] = nats .u8 (a ++ [0]) := by simp [nats]

theorem rbits_spec (A : Option Addr) (n c : Nat) (l : List Int) (w : World) (ha : Has (sl 1 A n (ints .i64 l)) w) (hn : n ≤ 1000000) : SpecB Tryd.prog 98 [.slice A n c] w (bys (nzP l l.length)) := by
  have hla := ints_len ha
  subst hla
  refine spec_of Tryd.func98 rfl Tryd.ntmps98 rfl ?_
  refine CW.seq ?_
  refine CW.reg [0] rfl ?_
  refine s_as 2 rfl rfl ?_
  refine SX.next ?_
  refine CW.seq ?_
  refine CW.reg [0] rfl ?_
  refine s_as 3 rfl rfl ?_
  refine SX.next ?_
  refine CW.seq ?_
  refine CW.seq ?_
  refine CW.reg [0] rfl ?_
  refine s_as 4 rfl rfl ?_
  refine SX.next ?_
  refine CW.block ?_
  refine CW.loop (G := Nat × List Nat × (Option Addr × Nat)) (fun z => [(0, .slice A l.length c), (3, .slice z.2.2.1 z.2.1.length z.2.2.2), (4, .int .i64 (z.1 : Nat))]) (fun z => Sto w [own 5 1 z.2.2.1 z.2.1.length z.2.2.2 (nats .u8 z.2.1)]) (fun z => (z.1 ≤ l.length ∧ z.2.1 = bys (nzP l z.1)) ∧ z.2.1.length ≤ z.2.2.2) (fun z => l.length - z.1) (0, [], (none, 0)) ⟨rfl, rfl, rfl, trivial⟩ (fun _ h => h.begin_ _ 1) ⟨⟨Nat.zero_le _, bys_nil.symm⟩, Nat.le_refl _⟩ ?_
  rintro ⟨i, L, q⟩ ⟨⟨hi, hL⟩, hq⟩
  simp only at hi hL hq
  dsimp only
  refine CW.seq ?_
  refine CW.seq ?_
  refine CW.reg [0, 1, 2, 3] rfl ?_
  refine s_mv 5 rfl rfl ?_
  refine s_mv 6 rfl rfl ?_
  refine s_len 7 rfl rfl ?_
  refine s_lt 8 rfl rfl rfl rfl ?_
  refine SX.next ?_
  refine CW.test rfl (fun hc => ?_) (fun hc => ?_)
  · skip
    refine CW.skip ?_
    refine KN.code ?_
    refine CW.seq ?_
    refine CW.block ?_
    refine CW.seq ?_
    refine CW.seq ?_
    refine CW.reg [0, 1, 2, 3, 4] rfl ?_
    refine s_mv 11 rfl rfl ?_
    refine s_mv 12 rfl rfl ?_
    refine s_iaV 13 i (fun w hw => hw.old ha) rfl rfl rfl rfl (by omega) ?_
    refine s_ldV 14 (fun w hw => hw.old ha) rfl rfl (by rw [Nat.mul_one]; exact intsAt (by omega)) (by omega) ?_
    refine s_eq 15 rfl rfl rfl rfl ?_
    refine SX.next ?_
    refine CW.test rfl (fun hc => ?_) (fun hc => ?_)
    · skip
      have hnx := nzP_same (l := l) (i := i) (by assumption)
      refine CW.exit rfl ?_
      refine KN.code ?_
      refine CW.reg [0, 1, 2] rfl ?_
      refine s_mv 9 rfl rfl ?_
      refine s_add 10 rfl rfl rfl (r := ((i + 1 : Nat) : Int)) (w64 (by omega)) ?_
      refine s_as 4 rfl rfl ?_
      refine SX.end_ ?_
      exact KN.back (i + 1, L, q) ⟨rfl, rfl, rfl, trivial⟩ (fun _ h => h) ⟨⟨by simp only; omega, by simp only; rw [hnx]; exact hL⟩, hq⟩ (by simp only; omega)
    · skip
      have h0 : l.getD i 0 ≠ 0 := by assumption
      have hst := BitG.start l i
      rw [← hL] at hst
      refine CW.skip ?_
      refine KN.code ?_
      refine CW.seq ?_
      refine CW.block ?_
      refine CW.loop (G := List Nat × (Option Addr × Nat)) (fun y => [(0, .slice A l.length c), (3, .slice y.2.1 y.1.length y.2.2), (4, .int .i64 (i : Nat))]) (fun y => Sto w [own 5 1 y.2.1 y.1.length y.2.2 (nats .u8 y.1)]) (fun y => BitG l i y.1 ∧ y.1.length ≤ y.2.2) (fun y => i / 8 + 1 - y.1.length) (L, q) ⟨rfl, rfl, rfl, trivial⟩ (fun _ h => h) ⟨hst, hq⟩ ?_
      rintro ⟨L2, q2⟩ ⟨hg, hq2⟩
      have hgl := hg.len
      simp only at hg hq2 hgl
      dsimp only
      refine CW.seq ?_
      refine CW.seq ?_
      refine CW.reg [0, 1, 2, 3, 4] rfl ?_
      refine s_mv 16 rfl rfl ?_
      refine s_len 17 rfl rfl ?_
      refine s_mv 18 rfl rfl ?_
      refine s_quo 19 rfl rfl rfl (by omega) (quo8 i (by omega)) ?_
      refine s_le 20 rfl rfl rfl rfl ?_
      refine SX.next ?_
      refine CW.test rfl (fun hc => ?_) (fun hc => ?_)
      · skip
        refine CW.skip ?_
        refine KN.code ?_
        refine CW.block ?_
        refine CW.reg [0, 1, 2, 3] rfl ?_
        refine s_mv 21 rfl rfl ?_
        refine s_bsl 22 rfl rfl (cells := #[.int .u8 0]) (by kernel_rfl) rfl (fun _ _ => trivial) (fun gb => ?_)
        refine s_app 23 1 rfl rfl rfl rfl (ys := [.int .u8 0]) (fun w hw => Has.cong ((hw.has (i := 0) rfl).blk_sl (m := 1) rfl) rfl) rfl rfl (by omega) (by unfold maxLen; omega) (by omega) (fun _ _ _ _ => trivial) (fun A2 c2 hc2 => ?_)
        refine s_as 3 rfl rfl ?_
        refine SX.end_ ?_
        refine KN.blk ?_
        exact KN.back (L2 ++ [0], (A2, c2)) ⟨rfl, by simp only [List.length_append, List.length_singleton]; rfl, rfl, trivial⟩ (fun _ h => by simp only [List.length_append, List.length_singleton]; rw [← nats8_snoc]; exact h.pick [1] rfl) ⟨hg.next (by omega), by simp only [List.length_append, List.length_singleton]; exact hc2⟩ (by simp only [List.length_append, List.length_singleton]; omega)
      · skip
        have hle : L2.length = i / 8 + 1 := by omega
        have hset := nzP_set h0 hg.lt hle hg.bit
        refine CW.exit rfl ?_
        refine KN.code ?_
        refine CW.reg [0, 1, 2, 3, 4, 5, 6, 7, 8, 9, 10, 11, 12, 13, 14] rfl ?_
        refine s_mv 24 rfl rfl ?_
        refine s_mv 25 rfl rfl ?_
        refine s_quo 26 rfl rfl rfl (by omega) (quo8 i (by omega)) ?_
        refine s_mv 27 rfl rfl ?_
        refine s_mv 28 rfl rfl ?_
        refine s_quo 29 rfl rfl rfl (by omega) (quo8 i (by omega)) ?_
        refine s_iaO 30 0 (i / 8) rfl rfl rfl rfl rfl (by omega) ?_
        refine s_ldO 31 0 rfl rfl rfl (natsAt8 (by omega)) ?_
        refine s_mv 32 rfl rfl ?_
        refine s_rem 33 rfl rfl rfl (by omega) (tmod8 i) ?_
        refine s_conv 34 rfl rfl (wu64 (by omega)) ?_
        refine s_shl 35 rfl rfl rfl (by omega) (r := ((2 ^ (i % 8) : Nat) : Int)) (by rw [show (1 : Int) = ((1 : Nat) : Int) from rfl, shl_u8 (by omega), Nat.one_mul, Nat.mod_eq_of_lt (Nat.pow_lt_pow_right (n := 8) (by omega) (Nat.mod_lt _ (by omega)))]) ?_
        refine s_bit 36 rfl rfl rfl rfl (ibit_or_u8 (cf_lt8 hg.lt _) (Nat.pow_lt_pow_right (n := 8) (by omega) (Nat.mod_lt _ (by omega)))) ?_
        refine s_iaO 37 0 (i / 8) rfl rfl rfl rfl rfl (by omega) ?_
        refine s_stO 0 rfl rfl rfl rfl rfl (by omega) (fun _ _ => trivial) ?_
        refine SX.end_ ?_
        refine KN.blk ?_
        refine KN.code ?_
        refine CW.reg [0, 1, 2] rfl ?_
        refine s_mv 9 rfl rfl ?_
        refine s_add 10 rfl rfl rfl (r := ((i + 1 : Nat) : Int)) (w64 (by omega)) ?_
        refine s_as 4 rfl rfl ?_
        refine SX.end_ ?_
        exact KN.back (i + 1, L2.set (i / 8) (cf L2 (i / 8) ||| 2 ^ (i % 8)), q2) ⟨rfl, by simp only [List.length_set]; rfl, rfl, trivial⟩ (fun _ h => by simp only [List.length_set]; rw [← nats_set]; exact h) ⟨⟨by simp only; omega, hset⟩, by simp only [List.length_set]; exact hq2⟩ (by simp only; omega)
  · skip
    obtain rfl : i = l.length := by omega
    subst hL
    refine CW.exit rfl ?_
    refine KN.code ?_
    refine CW.seq ?_
    refine CW.reg [0, 1] rfl ?_
    refine s_mv 38 rfl rfl ?_
    refine s_as 2 rfl rfl ?_
    refine SX.next ?_
    refine CW.ret ?_
    exact KN.ret (rs := [.tmp 2]) Tryd.results98 rfl (fun w hw => ⟨q, rfl, hq, hw⟩)
end Go.Proofs.YtcdmmfpgeagimaaDoor
end
section
/- The document's sums of powers, the chapter's examples, and the statements BinOf and BinCounts. No condition but the errors' variables. -/
namespace Go.Proofs.YtcdmmfpgeagimaaDoor
open Go Go.Lib Go.Sx Go.Fm
set_option maxRecDepth 100000
theorem eX_cf (l : List Int) (i j : Nat) : cf (sumF (eX l) (i + 1)) j = cf (sumF (eX l) i) j ^^^ (if j = (l.getD i 0).toNat then 1 else 0) := by
  show cf (addP (sumF (eX l) i) (eX l i)) j = _
  rw [cf_addP]
  unfold eX
  rw [cf_xP]
theorem toggle_next {l : List Int} {i k : Nat} (hk : l.getD i 0 = (k : Nat)) : (fun j => if j = k then cf (sumF (eX l) i) k ^^^ 1 else cf (sumF (eX l) i) j) = cf (sumF (eX l) (i + 1)) := by
  funext j
  rw [eX_cf, hk, Int.toNat_natCast]
  by_cases h : j = k
  · subst h; rw [if_pos rfl, if_pos rfl]
  · rw [if_neg h, if_neg h, Nat.xor_zero]
theorem sumF_hi {l : List Int} {M : Nat} : ∀ {i : Nat}, (∀ j, j < i → (l.getD j 0).toNat ≤ M) → ∀ j, M < j → cf (sumF (eX l) i) j = 0
  | 0, _, j, _ => cf_nil j
  | i + 1, h, j, hj => by
    rw [eX_cf, sumF_hi (i := i) (fun j hj => h j (by omega)) j hj, if_neg (by have := h i (by omega); omega)]
    rfl
theorem nzP_tab {l : List Int} {M i : Nat} (h : ∀ j, j < i → (l.getD j 0).toNat ≤ M) : nzP (tabN (M + 1) (cf (sumF (eX l) i))) (tabN (M + 1) (cf (sumF (eX l) i))).length = sumF (eX l) i := by
  have hb := sumF_b1 (eX_b1 l) i
  refine (nzP_b1 _ _).tr.ext hb.tr (fun j => ?_)
  rw [cf_nzP, tabN_len]
  split
  · rename_i hj
    have e : (tabN (M + 1) (cf (sumF (eX l) i))).getD j 0 = ((cf (sumF (eX l) i) j : Nat) : Int) := by
      unfold tabN
      rw [tab_getD, if_pos hj]
    unfold nzF
    rw [e]
    have := hb.le j
    split <;> omega
  · exact (sumF_hi h j (by omega)).symm

theorem rof_spec (A : Option Addr) (n c : Nat) (l : List Int) (w : World) (ha : Has (sl 1 A n (ints .i64 l)) w) (hn : n ≤ 1000000) (hr : ∀ j, j < l.length → 0 ≤ l.getD j 0 ∧ l.getD j 0 ≤ 2048) : SpecB Tryd.prog 153 [.slice A n c] w (bys (sumF (eX l) l.length)) := by
  have hla := ints_len ha
  subst hla
  refine spec_of Tryd.func153 rfl Tryd.ntmps153 rfl ?_
  refine CW.seq ?_
  refine CW.reg [0] rfl ?_
  refine s_as 2 rfl rfl ?_
  refine SX.next ?_
  refine CW.seq ?_
  refine CW.reg [0] rfl ?_
  refine s_as 3 rfl rfl ?_
  refine SX.next ?_
  refine CW.seq ?_
  refine CW.seq ?_
  refine CW.reg [0] rfl ?_
  refine s_as 4 rfl rfl ?_
  refine SX.next ?_
  refine CW.block ?_
  refine CW.loop (G := Nat × Nat) (fun q => [(0, .slice A l.length c), (3, .int .i64 (q.2 : Nat)), (4, .int .i64 (q.1 : Nat))]) (fun _ => Sto w []) (fun q => (q.1 ≤ l.length ∧ q.2 ≤ 2048) ∧ ∀ j, j < q.1 → (l.getD j 0).toNat ≤ q.2) (fun q => l.length - q.1) (0, 0) ⟨rfl, rfl, rfl, trivial⟩ (fun _ h => h) ⟨⟨Nat.zero_le _, Nat.zero_le _⟩, fun j hj => by simp at hj⟩ ?_
  rintro ⟨i, M⟩ ⟨⟨hi, hM⟩, hmx⟩
  simp only at hi hM hmx
  dsimp only
  refine CW.seq ?_
  refine CW.seq ?_
  refine CW.reg [0, 1, 2, 3] rfl ?_
  refine s_mv 7 rfl rfl ?_
  refine s_mv 8 rfl rfl ?_
  refine s_len 9 rfl rfl ?_
  refine s_lt 10 rfl rfl rfl rfl ?_
  refine SX.next ?_
  refine CW.test rfl (fun hc => ?_) (fun hc => ?_)
  · skip
    obtain ⟨k, hk⟩ := Int.eq_ofNat_of_zero_le (hr i (by omega)).1
    have hk2 : k ≤ 2048 := by have := (hr i (by omega)).2; omega
    refine CW.skip ?_
    refine KN.code ?_
    refine CW.seq ?_
    refine CW.block ?_
    refine CW.reg [0, 1, 2, 3, 4, 5, 6] rfl ?_
    refine s_mv 13 rfl rfl ?_
    refine s_mv 14 rfl rfl ?_
    refine s_mv 15 rfl rfl ?_
    refine s_iaV 16 i (fun w hw => hw.old ha) rfl rfl rfl rfl (by omega) ?_
    refine s_ldV 17 (v := .int .i64 (k : Nat)) (fun w hw => hw.old ha) rfl rfl (by rw [Nat.mul_one, intsAt (by omega), hk]) (by omega) ?_
    refine s_max 18 rfl rfl rfl (r := ((max M k : Nat) : Int)) (by split <;> omega) ?_
    refine s_as 3 rfl rfl ?_
    refine SX.end_ ?_
    refine KN.blk ?_
    refine KN.code ?_
    refine CW.reg [0, 1, 2] rfl ?_
    refine s_mv 11 rfl rfl ?_
    refine s_add 12 rfl rfl rfl (r := ((i + 1 : Nat) : Int)) (w64 (by omega)) ?_
    refine s_as 4 rfl rfl ?_
    refine SX.end_ ?_
    exact KN.back (i + 1, max M k) ⟨rfl, rfl, rfl, trivial⟩ (fun _ h => h) ⟨⟨by simp only; omega, by simp only; omega⟩, fun j hj => by
  simp only at hj ⊢
  by_cases h : j = i
  · subst h; rw [hk, Int.toNat_natCast]; omega
  · have := hmx j (by omega); omega⟩ (by simp only; omega)
  · skip
    obtain rfl : i = l.length := by omega
    refine CW.exit rfl ?_
    refine KN.code ?_
    refine CW.seq ?_
    refine CW.reg [0, 1, 2, 3] rfl ?_
    refine s_mv 19 rfl rfl ?_
    refine s_add 20 rfl rfl rfl (r := ((M + 1 : Nat) : Int)) (w64 (by omega)) ?_
    refine s_make 21 (M + 1) rfl rfl rfl rfl rfl (by omega) (fun _ _ => trivial) (fun go => ?_)
    refine s_as 5 rfl rfl ?_
    refine SX.next ?_
    refine CW.seq ?_
    refine CW.seq ?_
    refine CW.reg [0] rfl ?_
    refine s_as 6 rfl rfl ?_
    refine SX.next ?_
    refine CW.block ?_
    refine CW.loop (G := Nat) (fun i => [(0, .slice A l.length c), (5, .slice (some ⟨go, 0, none⟩) (M + 1) (M + 1)), (6, .int .i64 (i : Nat))]) (fun i => Sto w [blk go 3 (ints .i64 (tabN (M + 1) (cf (sumF (eX l) i)))).toArray]) (fun i => i ≤ l.length) (fun i => l.length - i) 0 ⟨rfl, rfl, rfl, trivial⟩ (fun _ h => by rw [show tabN (M + 1) (cf (sumF (eX l) 0)) = tab (M + 1) (fun _ => 0) from tab_cong (fun j _ => by rw [show sumF (eX l) 0 = [] from rfl, cf_nil]; rfl), ← tab_zero]; exact h) (Nat.zero_le _) ?_
    intro i hi
    refine CW.seq ?_
    refine CW.seq ?_
    refine CW.reg [0, 1, 2, 3] rfl ?_
    refine s_mv 22 rfl rfl ?_
    refine s_mv 23 rfl rfl ?_
    refine s_len 24 rfl rfl ?_
    refine s_lt 25 rfl rfl rfl rfl ?_
    refine SX.next ?_
    refine CW.test rfl (fun hc => ?_) (fun hc => ?_)
    · skip
      obtain ⟨k, hk⟩ := Int.eq_ofNat_of_zero_le (hr i (by omega)).1
      have hkM : k ≤ M := by have := hmx i (by omega); rw [hk, Int.toNat_natCast] at this; exact this
      have htw := (sumF_b1 (eX_b1 l) i).le k
      refine CW.skip ?_
      refine KN.code ?_
      refine CW.seq ?_
      refine CW.block ?_
      refine CW.regD (.st true 0 (.st true 1 (.st true 2 (.st true 3 (.st true 4 (.st true 5 (.st true 6 (.st true 7 (.st true 8 (.st true 9 (.st true 10 (.st false 11 (.st true 12 (.st true 13 (.st false 14 .done))))))))))))))) (Sto w []) mixed (by kernel_rfl) (fun _ h => h.drew) (fun _ h => h.pick [] rfl) ?_
      refine s_mv 28 rfl rfl ?_
      refine s_mv 29 rfl rfl ?_
      refine s_mv 30 rfl rfl ?_
      refine s_iaV 31 i (fun w hw => hw.old ha) rfl rfl rfl rfl (by omega) ?_
      refine s_ldVS 32 (v := .int .i64 (k : Nat)) (fun w hw => hw.old ha) rfl rfl (by rw [Nat.mul_one, intsAt (by omega), hk]) (by omega) ?_
      refine s_mv 33 rfl rfl ?_
      refine s_mv 34 rfl rfl ?_
      refine s_mv 35 rfl rfl ?_
      refine s_iaV 36 i (fun w hw => hw.old ha) rfl rfl rfl rfl (by omega) ?_
      refine s_ldVS 37 (v := .int .i64 (k : Nat)) (fun w hw => hw.old ha) rfl rfl (by rw [Nat.mul_one, intsAt (by omega), hk]) (by omega) ?_
      refine s_ia0 38 k rfl rfl rfl rfl (by omega) ?_
      refine s_ldB 39 0 rfl rfl rfl (v := .int .i64 (cf (sumF (eX l) i) k : Nat)) (by unfold tabN; exact tab_atA (by omega)) ?_
      refine s_bit 40 rfl rfl rfl rfl (ibit_xor_nat (y := 1) (by omega) (by omega)) ?_
      refine s_ia0 41 k rfl rfl rfl rfl (by omega) ?_
      refine s_stB 0 rfl rfl rfl rfl rfl (by rw [show (ints .i64 (tabN (M + 1) (cf (sumF (eX l) i)))).toArray.size = M + 1 from tab_size]; omega) (fun _ h => h.pick [] rfl) ?_
      refine SX.end_ ?_
      refine KN.blk ?_
      refine KN.code ?_
      refine CW.reg [0, 1, 2] rfl ?_
      refine s_mv 26 rfl rfl ?_
      refine s_add 27 rfl rfl rfl (r := ((i + 1 : Nat) : Int)) (w64 (by omega)) ?_
      refine s_as 6 rfl rfl ?_
      refine SX.end_ ?_
      exact KN.back (i + 1) ⟨rfl, rfl, rfl, trivial⟩ (fun _ h => by rw [← toggle_next hk, ← tabN_set]; exact h) (by omega) (by omega)
    · skip
      obtain rfl : i = l.length := by omega
      have hnt := nzP_tab hmx
      have htl := tabN_len (M + 1) (cf (sumF (eX l) l.length))
      refine CW.exit rfl ?_
      refine KN.code ?_
      refine CW.seq ?_
      refine CW.reg [0, 1, 2] rfl ?_
      refine s_mv 42 rfl rfl ?_
      refine s_call 43 rfl rfl rfl rfl (fun w hw => by have := rbits_spec (some ⟨go, 0, none⟩) (M + 1) (M + 1) (tabN (M + 1) (cf (sumF (eX l) l.length))) w (Has.cong ((hw.has (i := 0) rfl).blk_sl (m := M + 1) (by exact tab_size.trans (Nat.mul_one _).symm)) rfl) (by omega); rw [hnt] at this; exact this) (fun _ _ => trivial) (fun q hq => ?_)
      refine s_as 2 rfl rfl ?_
      refine SX.next ?_
      refine CW.ret ?_
      exact KN.ret (rs := [.tmp 2]) Tryd.results153 rfl (fun w hw => ⟨q, rfl, hq, hw.pick [0] rfl⟩)

/-! ### The chapter's examples -/
theorem ex_of1 : sumY (eX [4, 1, 0]) ([4, 1, 0] : List Int).length = [19] := by decide +kernel
theorem ex_of2 : sumY (eX [1, 0]) ([1, 0] : List Int).length = [3] := by decide +kernel
theorem ex_mulb : bys (mulP 3 (bl [3]) (bl [3])) = [5] := by decide +kernel
theorem ex_deg : (bl [19]).length = 5 := by decide +kernel
theorem ex_deg3 : (bl [3]).length = 2 := by decide +kernel
theorem ex_exp : exL (bl [19]) = [4, 1, 0] := by decide +kernel
theorem ex_irr : irrP (bl [19]) = true := by decide +kernel

theorem first3_spec (e : Nat → Addr) (w : World) (hnu : Er e w 1) : Spec1 Tryd.prog 26 [] w (.bool true) := by
  refine spec_of Tryd.func26 rfl Tryd.ntmps26 rfl ?_
  refine CW.seq ?_
  refine CW.reg [0] rfl ?_
  refine s_as 0 rfl rfl ?_
  refine SX.next ?_
  refine CW.seq ?_
  refine CW.reg [0, 1, 2, 3, 4, 5, 6] rfl ?_
  refine s_bsl 10 rfl rfl (cells := #[.int .i64 4, .int .i64 1, .int .i64 0]) (by kernel_rfl) rfl (fun _ _ => trivial) (fun b10 => ?_)
  refine s_call 11 rfl rfl rfl rfl (fun w hw => by have := of_spec (some ⟨b10, 0, none⟩) 3 3 [4, 1, 0] w (Has.cong ((hw.has (i := 0) rfl).blk_sl (m := 3) rfl) rfl) (by omega) (by decide); rw [ex_of1] at this; exact this) (fun _ _ => trivial) (fun q1 hq1 => ?_)
  refine s_mv 9 rfl rfl ?_
  refine s_ext 12 rfl rfl rfl ?_
  refine s_ext 13 rfl rfl rfl ?_
  refine s_as 1 rfl rfl ?_
  refine s_as 2 rfl rfl ?_
  refine SX.next ?_
  refine CW.seq ?_
  refine CW.reg [0, 1, 2, 3, 4, 5, 6] rfl ?_
  refine s_bsl 15 rfl rfl (cells := #[.int .i64 1, .int .i64 0]) (by kernel_rfl) rfl (fun _ _ => trivial) (fun b15 => ?_)
  refine s_call 16 rfl rfl rfl rfl (fun w hw => by have := of_spec (some ⟨b15, 0, none⟩) 2 2 [1, 0] w (Has.cong ((hw.has (i := 0) rfl).blk_sl (m := 2) rfl) rfl) (by omega) (by decide); rw [ex_of2] at this; exact this) (fun _ _ => trivial) (fun q2 hq2 => ?_)
  refine s_mv 14 rfl rfl ?_
  refine s_ext 17 rfl rfl rfl ?_
  refine s_ext 18 rfl rfl rfl ?_
  refine s_as 3 rfl rfl ?_
  refine s_as 4 rfl rfl ?_
  refine SX.next ?_
  refine CW.seq ?_
  refine CW.reg [0, 1, 2, 3, 4, 5, 6, 7] rfl ?_
  refine s_mv 20 rfl rfl ?_
  refine s_mv 21 rfl rfl ?_
  refine s_call 22 rfl rfl rfl rfl (fun w hw => by have := bmul_spec q2.1 1 q2.2 [3] q2.1 1 q2.2 [3] w ((hw.has (i := 0) rfl).of_own) (by decide) (by omega) hq2 ((hw.has (i := 0) rfl).of_own) (by decide) (by omega) hq2 (by rw [ex_deg3]; omega); rw [ex_mulb] at this; exact this) (fun _ _ => trivial) (fun q3 hq3 => ?_)
  refine s_mv 19 rfl rfl ?_
  refine s_ext 23 rfl rfl rfl ?_
  refine s_ext 24 rfl rfl rfl ?_
  refine s_as 5 rfl rfl ?_
  refine s_as 6 rfl rfl ?_
  refine SX.next ?_
  refine CW.seq ?_
  refine CW.reg [0, 1, 2, 3, 4, 5, 6] rfl ?_
  refine s_bsl 26 rfl rfl (cells := #[.int .i64 (-1)]) (by kernel_rfl) rfl (fun _ _ => trivial) (fun b26 => ?_)
  refine s_call1 27 rfl rfl rfl rfl (fun w hw => of_bad (some ⟨b26, 0, none⟩) 1 1 [-1] e w (Has.cong ((hw.has (i := 0) rfl).blk_sl (m := 1) rfl) rfl) (by omega) (hw.er hnu) 0 (by decide) (by decide)) (fun _ _ => trivial) ?_
  refine s_mv 25 rfl rfl ?_
  refine s_ext 28 rfl rfl rfl ?_
  refine s_ext 29 rfl rfl rfl ?_
  refine s_as 7 rfl rfl ?_
  refine s_as 8 rfl rfl ?_
  refine SX.next ?_
  refine CW.seq ?_
  refine CW.reg [0, 1, 2, 3, 4, 5, 6, 7, 8, 9, 10, 11, 12, 13, 14, 15, 16, 17, 18, 19, 20, 21, 22, 23, 24, 25, 26, 27, 28, 29, 30, 31] rfl ?_
  refine s_mv 30 rfl rfl ?_
  refine s_eqNN 31 rfl rfl ?_
  refine s_mv 32 rfl rfl ?_
  refine s_mv 33 rfl rfl ?_
  refine s_eqNN 34 rfl rfl ?_
  refine s_pickT 35 rfl rfl rfl ?_
  refine s_mv 36 rfl rfl ?_
  refine s_mv 37 rfl rfl ?_
  refine s_call1 38 rfl rfl rfl rfl (v := .int .i64 4) (fun w hw => by have := bdeg_spec q1.1 1 q1.2 [19] w ((hw.has (i := 4) rfl).of_own) (by decide) (by omega) hq1; rw [ex_deg] at this; exact this) (fun _ _ => trivial) ?_
  refine s_eq 39 rfl rfl rfl (decide_eq_true rfl) ?_
  refine s_pickT 40 rfl rfl rfl ?_
  refine s_mv 41 rfl rfl ?_
  refine s_mv 42 rfl rfl ?_
  refine s_call 43 rfl rfl rfl rfl (fun w hw => by have := bexp_spec q1.1 1 q1.2 [19] w ((hw.has (i := 4) rfl).of_own) (by decide) (by omega) hq1; rw [ex_exp] at this; exact this) (fun _ _ => trivial) (fun q4 hq4 => ?_)
  refine s_bsl 44 rfl rfl (cells := #[.int .i64 4, .int .i64 1, .int .i64 0]) (by kernel_rfl) rfl (fun _ _ => trivial) (fun b44 => ?_)
  refine s_call1 45 rfl rfl rfl rfl (v := .bool true) (fun w hw => by have := sameInts_spec q4.1 (some ⟨b44, 0, none⟩) [4, 1, 0].length q4.2 3 3 ([4, 1, 0].map Int.ofNat) [4, 1, 0] _ (by rw [← nats_ints]; exact ((hw.has (i := 1) rfl).of_own)) (Has.cong ((hw.has (i := 0) rfl).blk_sl (m := 3) rfl) rfl) (by decide); rw [decide_eq_true (by decide)] at this; exact this) (fun _ _ => trivial) ?_
  refine s_pickT 46 rfl rfl rfl ?_
  refine s_mv 47 rfl rfl ?_
  refine s_mv 48 rfl rfl ?_
  refine s_call1 49 rfl rfl rfl rfl (v := .bool true) (fun w hw => by have := birr_spec q1.1 1 q1.2 [19] w ((hw.has (i := 6) rfl).of_own) (by decide) (by omega) hq1; rw [ex_irr] at this; exact this) (fun _ _ => trivial) ?_
  refine s_pickT 50 rfl rfl rfl ?_
  refine s_mv 51 rfl rfl ?_
  refine s_mv 52 rfl rfl ?_
  refine s_bsl 53 rfl rfl (cells := #[.int .u8 5]) (by kernel_rfl) rfl (fun _ _ => trivial) (fun b53 => ?_)
  refine s_call1 54 rfl rfl rfl rfl (v := .bool true) (fun w hw => by have := sameBytes_spec q3.1 1 q3.2 [5] (some ⟨b53, 0, none⟩) 1 1 [5] w ((hw.has (i := 4) rfl).of_own) (by decide) (Has.cong ((hw.has (i := 0) rfl).blk_sl (m := 1) rfl) rfl) (by decide); rw [decide_eq_true rfl] at this; exact this) (fun _ _ => trivial) ?_
  refine s_pickT 55 rfl rfl rfl ?_
  refine s_mv 56 rfl rfl ?_
  refine s_mv 57 rfl rfl ?_
  refine s_ld 58 rfl rfl (fun _ h => h.cell hnu) ?_
  refine s_eqE 59 rfl rfl rfl ?_
  refine s_pickT 60 rfl rfl rfl ?_
  refine s_as 0 rfl rfl ?_
  refine SX.next ?_
  refine CW.ret ?_
  exact KN.ret (rs := [.tmp 0]) Tryd.results26 rfl (fun w hw => ⟨rfl, hw.nothing⟩)
end Go.Proofs.YtcdmmfpgeagimaaDoor
end
section
/- The statements BinOf and BinCounts, walked. No condition but the errors' variables. -/
namespace Go.Proofs.YtcdmmfpgeagimaaDoor
open Go Go.Lib Go.Sx Go.Fm
set_option maxRecDepth 100000
theorem sumY_tr (l : List Int) (i : Nat) : Tr 8 (sumY (eX l) i) := by rw [sumY_eq]; exact bys_tr (sumF_b1 (eX_b1 l) i).le
theorem xP_le {k : Nat} (h : k ≤ 2048) : (xP k).length ≤ 2049 := by
  unfold xP upP pl
  rw [trim_length]
  have := tl_le ((List.range (k + [1].length)).map fun j => if k ≤ j then cf [1] (j - k) else 0)
  simp at this
  simp
  omega

theorem tmod_lt8 (m : Int) : -8 < m.tmod 8 ∧ m.tmod 8 < 8 := by
  have h1 := Int.emod_nonneg m (b := 8) (by omega)
  have h2 := Int.emod_lt_of_pos m (b := 8) (by omega)
  rw [Int.tmod_eq_emod]
  split <;> omega
theorem dB_val (m : Int) : (m.tmod 8 + 8).tmod 8 = (((m % 8).toNat : Nat) : Int) := by
  have h1 := Int.emod_nonneg m (b := 8) (by omega)
  have h2 := tmod_lt8 m
  rw [Int.tmod_eq_emod_of_nonneg (by omega)]
  have h3 : (m.tmod 8 + 8) % 8 = m % 8 := by
    rw [Int.tmod_eq_emod]
    split <;> omega
  rw [h3]
  omega
/-- Which degree a number makes. -/
def dB (m : Int) : Nat := (m % 8).toNat + 1
theorem dB_bd (m : Int) : 1 ≤ dB m ∧ dB m ≤ 8 := by unfold dB; omega
def by2 (x : Nat) : List Nat := [x % 256, (x >>> 8) % 256]
def irrX (x : Nat) : Bool := irrP (bl (by2 x))
theorem by2_lt (x : Nat) : ∀ y ∈ by2 x, y < 256 := fun y hy => by
  simp [by2] at hy
  omega
theorem deg_all : (List.range 9).all (fun D => (List.range (2 ^ D)).all (fun k => (bl (by2 (2 ^ D + k))).length == D + 1)) = true := by decide +kernel
theorem deg_by2 {D k : Nat} (hD : D ≤ 8) (hk : k < 2 ^ D) : (bl (by2 (2 ^ D + k))).length = D + 1 := by
  have := List.all_eq_true.1 deg_all D (List.mem_range.2 (by omega))
  have := List.all_eq_true.1 this k (List.mem_range.2 hk)
  simpa using this
def cntR (a : Nat) : Nat → Nat
  | 0 => 0
  | k + 1 => if irrX (a + k) then cntR a k + 1 else cntR a k
theorem cntR_le (a : Nat) : ∀ k, cntR a k ≤ k
  | 0 => Nat.le_refl _
  | k + 1 => by
    have := cntR_le a k
    unfold cntR
    split <;> omega
theorem cnt_all : (List.range 8).all (fun i => cntR (2 ^ (i + 1)) (2 ^ (i + 1)) == [2, 1, 2, 3, 6, 9, 18, 30].getD i 0) = true := by decide +kernel
theorem cnt_tab {D : Nat} (h1 : 1 ≤ D) (h2 : D ≤ 8) : (#[Value.int .i64 0, .int .i64 2, .int .i64 1, .int .i64 2, .int .i64 3, .int .i64 6, .int .i64 9, .int .i64 18, .int .i64 30] : Array Value)[D]? = some (.int .i64 (cntR (2 ^ D) (2 ^ D) : Nat)) := by
  have h := List.all_eq_true.1 cnt_all (D - 1) (List.mem_range.2 (by omega))
  rw [show D - 1 + 1 = D by omega, beq_iff_eq] at h
  rw [h]
  have : D = 1 ∨ D = 2 ∨ D = 3 ∨ D = 4 ∨ D = 5 ∨ D = 6 ∨ D = 7 ∨ D = 8 := by omega
  rcases this with rfl | rfl | rfl | rfl | rfl | rfl | rfl | rfl <;> rfl
theorem shlD {D : Nat} (h : D ≤ 62) : IntKind.i64.wrap ((1 : Int) * 2 ^ (min (D : Int).toNat IntKind.i64.bits)) = ((2 ^ D : Nat) : Int) := by
  have := shl_nat (x := 1) h (by rw [Nat.one_mul]; exact Nat.pow_lt_pow_right (by omega) (by omega))
  rw [Nat.one_mul] at this
  exact this
end Go.Proofs.YtcdmmfpgeagimaaDoor
end
section
/- The contracts of package binpoly: quotients and common divisors. Conditions: the lists are bytes, read where they lie. -/
namespace Go.Proofs.YtcdmmfpgeagimaaDoor
open Go Go.Lib Go.Sx Go.Fm
set_option maxRecDepth 100000
/-- What the division's loop keeps. -/
structure BdG (p q : List Nat) (z : List Nat × List Nat) : Prop where
  l1 : z.1.length = p.length + 1
  b1 : ∀ x ∈ z.1, x < 256
  l2 : z.2.length = p.length + 1
  b2 : ∀ x ∈ z.2, x < 256
  le : (bl z.1).length ≤ (bl p).length
  lo : ∀ j, j + (bl q).length ≤ (bl z.1).length → cf (bl z.2) j = 0
  eq : addP (mulP 3 (bl z.2) (bl q)) (bl z.1) = bl p
theorem bl_app (p : List Nat) : bl (p ++ [0]) = bl p := (bl_b1 _).tr.ext (bl_b1 _).tr (fun j => by rw [cf_bl, cf_bl, bitN_app])
theorem bl_zeros (n : Nat) : bl (List.replicate n 0) = [] := (bl_b1 _).tr.nil_of (fun j => by rw [cf_bl, zeros_bit])
theorem app_lt {p : List Nat} (h : ∀ x ∈ p, x < 256) : ∀ x ∈ p ++ [0], x < 256 := fun x hx => by
  rcases List.mem_append.1 hx with hx | hx
  · exact h x hx
  · simp at hx; omega
theorem BdG.start {p : List Nat} (hp : ∀ x ∈ p, x < 256) (q : List Nat) : BdG p q (p ++ [0], List.replicate (p.length + 1) 0) := by
  refine ⟨by simp, app_lt hp, by simp, zeros_lt _, by simp only; rw [bl_app]; exact Nat.le_refl _, fun j _ => by simp only; rw [bl_zeros, cf_nil], ?_⟩
  simp only
  rw [bl_zeros, mulP_nil_l, nil_addP ok3 (bl_b1 _).tr, bl_app]
set_option maxHeartbeats 1600000 in
theorem BdG.next {p q L Q L2 : List Nat} {s : Nat} (h : BdG p q (L, Q)) (h0 : (bl q).length ≠ 0) (hs : s + (bl q).length = (bl L).length) (hs2 : s / 8 < Q.length)
    (h2 : L2.length = L.length ∧ (∀ x ∈ L2, x < 256) ∧ ∀ j, bitN L2 j = bitN L j ^^^ (if s ≤ j then bitN (trim q) (j - s) else 0)) :
    BdG p q (L2, Q.set (s / 8) (cf Q (s / 8) ||| 2 ^ (s % 8))) ∧ (bl L2).length < (bl L).length := by
  obtain ⟨k1, k2, k3, k4, k5, k6, k7⟩ := h
  simp only at k1 k2 k3 k4 k5 k6 k7
  have hq := bl_b1 q
  have hl := bl_b1 L
  have hQ := bl_b1 Q
  have eL : bl L2 = addP (bl L) (upP s (bl q)) := (bl_b1 _).tr.ext (addP_b1 hl (upP_b1 hq s)).tr (fun j => by
    rw [cf_bl, h2.2.2, cf_addP, cf_upP, cf_bl]
    congr 1
    split
    · rw [← cf_bl, bl_trim]
    · rfl)
  have eQ : bl (Q.set (s / 8) (cf Q (s / 8) ||| 2 ^ (s % 8))) = addP (bl Q) (xP s) := (bl_b1 _).tr.ext (addP_b1 hQ (xP_b1 s)).tr (fun j => by
    rw [cf_bl, bitN_or hs2, cf_addP, cf_xP]
    by_cases hj : j = s
    · subst hj
      rw [if_pos rfl, if_pos rfl, k6 j (by omega)]
      rfl
    · rw [if_neg hj, if_neg hj, Nat.xor_zero, cf_bl])
  have hlen : (bl L2).length ≤ (bl L).length - 1 := len_le_of (bl_b1 L2).tr (fun j hj => by
    rw [eL, cf_addP, cf_upP]
    by_cases he : j = (bl L).length - 1
    · subst he
      rw [hl.top (by omega), if_pos (by omega), show (bl L).length - 1 - s = (bl q).length - 1 by omega, hq.top h0]
      rfl
    · rw [cf_out (l := bl L) (by omega)]
      split
      · rw [cf_out (by omega)]; rfl
      · rfl)
  refine ⟨⟨by simp only; rw [h2.1, k1], h2.2.1, by simp only; rw [List.length_set, k3], set_lt k4 (or8 (cf_lt8 k4 _) (Nat.mod_lt _ (by omega))), by simp only; omega, fun j hj => ?_, ?_⟩, by omega⟩
  · simp only at hj ⊢
    rw [eQ, cf_addP, cf_xP, if_neg (by omega), k6 j (by omega)]
    rfl
  · simp only
    rw [eQ, eL, mulP_add_left ok3 hQ.tr (xP_b1 s).tr hq.tr, mulP_comm ok3 (xP_b1 s).tr hq.tr, mul_xP hq s, ← k7]
    refine (addP_tr ok3 (addP_tr ok3 (mulP_tr ok3 hQ.tr hq.tr) (upP_b1 hq s).tr) (addP_tr ok3 hl.tr (upP_b1 hq s).tr)).ext (addP_tr ok3 (mulP_tr ok3 hQ.tr hq.tr) hl.tr) (fun j => ?_)
    simp only [cf_addP]
    generalize cf (mulP 3 (bl Q) (bl q)) j = x
    generalize cf (upP s (bl q)) j = y
    generalize cf (bl L) j = z
    rw [Nat.xor_assoc, Nat.xor_comm z y, xcc]
theorem trim_bys {l : List Nat} (h : ∀ x ∈ l, x < 256) : trim l = bys (bl l) := bys_of h (bl_b1 l) (fun j => (cf_bl l j).symm)
theorem BdG.done {p q L Q : List Nat} (h : BdG p q (L, Q)) (h0 : (bl q).length ≠ 0) (hl : (bl L).length < (bl q).length) : trim Q = bys (quotP 3 (bl p) (bl q)) ∧ trim L = bys (restP 3 (bl p) (bl q)) := by
  obtain ⟨e1, e2⟩ := div_uniq ok3 (bl_b1 p).tr (bl_b1 q).tr h0 (bl_b1 Q).tr (bl_b1 L).tr hl h.eq
  exact ⟨by rw [← e1]; exact trim_bys h.b2, by rw [← e2]; exact trim_bys h.b1⟩
abbrev SpecBB (P : Program) (f : FuncId) (args : List Value) (w : World) (E G : List Nat) : Prop :=
  SpecX P f args w (X := (Option Addr × Nat) × (Option Addr × Nat)) (fun q => .tuple #[.slice q.1.1 E.length q.1.2, .slice q.2.1 G.length q.2.2, .nilIface]) (fun q => E.length ≤ q.1.2 ∧ G.length ≤ q.2.2)
    (fun q => [own 5 1 q.2.1 G.length q.2.2 (nats .u8 G), own 5 1 q.1.1 E.length q.1.2 (nats .u8 E)])
theorem nz_trim {q : List Nat} (hq : ∀ x ∈ q, x < 256) (h0 : (bl q).length ≠ 0) : (trim q).length ≠ 0 := fun h => h0 (by rw [bl_zero hq h]; rfl)

theorem bdiv_spec (A : Option Addr) (n c : Nat) (p : List Nat) (A2 : Option Addr) (n2 c2 : Nat) (p2 : List Nat) (w : World) (ha : Has (sl 1 A n (nats .u8 p)) w) (hp : ∀ x ∈ p, x < 256) (hn : n ≤ 1073741824) (hcp : n ≤ c) (ha2 : Has (sl 1 A2 n2 (nats .u8 p2)) w) (hp2 : ∀ x ∈ p2, x < 256) (hn2 : n2 ≤ 1073741824) (hcp2 : n2 ≤ c2) (h0 : (bl p2).length ≠ 0) (hsz : n ≤ 2000000) : SpecBB Tryd.prog 43 [.slice A n c, .slice A2 n2 c2] w (bys (quotP 3 (bl p) (bl p2))) (bys (restP 3 (bl p) (bl p2))) := by
  have hla := nats_len ha
  subst hla
  have hla2 := nats_len ha2
  subst hla2
  have hnz := nz_trim hp2 h0
  have h82 := trim_lt8 hp2
  have ht2 := tl_le p2
  have hl2 := trim_length p2
  have hge := bl_len_ge hp2 hnz
  have hbl1 := bl_len p
  have hbl2 := bl_len p2
  refine spec_of Tryd.func43 rfl Tryd.ntmps43 rfl ?_
  refine CW.seq ?_
  refine CW.reg [0, 1, 2] rfl ?_
  refine s_as 4 rfl rfl ?_
  refine s_as 5 rfl rfl ?_
  refine s_as 6 rfl rfl ?_
  refine SX.next ?_
  refine CW.seq ?_
  refine CW.reg [0, 1, 2] rfl ?_
  refine s_mv 11 rfl rfl ?_
  refine s_call 12 rfl rfl rfl rfl (fun w hw => trimmed_spec A2 p2.length c2 p2 w (hw.old ha2) hp2 hn2 hcp2) (fun _ _ => trivial) (fun q2 hq2 => ?_)
  refine s_as 1 rfl rfl ?_
  refine SX.next ?_
  refine CW.seq ?_
  refine CW.seq ?_
  refine CW.reg [0, 1, 2] rfl ?_
  refine s_mv 13 rfl rfl ?_
  refine s_len 14 rfl rfl ?_
  refine s_eq 15 rfl rfl rfl (decide_eq_false (by omega)) ?_
  refine SX.next ?_
  refine CW.condF rfl ?_
  refine CW.skip ?_
  refine KN.code ?_
  refine CW.seq ?_
  refine CW.reg [0, 1, 2, 3, 4] rfl ?_
  refine s_mv 17 rfl rfl ?_
  refine s_app0 18 (m2 := p.length) rfl rfl rfl (ys := nats .u8 p) (fun w hw => hw.old ha) (nats_one _ _) rfl (by omega) (by unfold maxLen; omega) (by omega) (fun _ _ _ _ => trivial) (fun A4 c4 hc4 => ?_)
  refine s_bsl 19 rfl rfl (cells := #[.int .u8 0]) (by kernel_rfl) rfl (fun _ _ => trivial) (fun gb => ?_)
  refine s_app 20 1 rfl rfl rfl rfl (ys := [.int .u8 0]) (fun w hw => Has.cong ((hw.has (i := 0) rfl).blk_sl (m := 1) rfl) rfl) rfl rfl (by omega) (by unfold maxLen; omega) (by omega) (fun _ _ _ _ => trivial) (fun A5 c5 hc5 => ?_)
  refine SX.pre (C' := Sto w [own 5 1 A5 (p.length + 1) c5 (nats .u8 (p ++ [0])), own 5 1 q2.1 (trim p2).length q2.2 (nats .u8 (trim p2))]) (fun _ h => by rw [nats8_snoc] at h; exact h.pick [1, 1] rfl) ?_
  refine s_as 7 rfl rfl ?_
  refine SX.next ?_
  refine CW.seq ?_
  refine CW.regD (.st true 0 (.st true 2 (.st true 3 (.st true 4 (.alt 1 (.st true 6 (.st false 5 (.st true 7 .done))) (.st false 5 (.st false 1 (.st true 6 (.st true 7 .done))))))))) (Sto w [own 5 1 A5 (p.length + 1) c5 (nats .u8 (p ++ [0])), own 5 1 q2.1 (trim p2).length q2.2 (nats .u8 (trim p2))]) mixed (by kernel_rfl) (fun _ h => h.drew) (fun _ h => h) ?_
  refine s_mv 21 rfl rfl ?_
  refine s_mv 23 rfl rfl ?_
  refine s_len 24 rfl rfl ?_
  refine s_add 25 rfl rfl rfl (r := (((p.length + 1) : Nat) : Int)) (w64 (by omega)) ?_
  refine SX.alt ?_ ?_
  · skip
    refine s_call1 22 rfl rfl rfl rfl (v := .int .i64 ((bl p2).length - 1 : Int)) (fun w hw => by have := bdeg_spec q2.1 (trim p2).length q2.2 (trim p2) w (by first | exact (hw.has (i := 1) rfl).of_own | exact (hw.has (i := 2) rfl).of_own) h82 (by omega) hq2; rw [bl_trim] at this; exact this) (fun _ h => by first | exact h | exact h.tail) ?_
    refine s_as 8 rfl rfl ?_
    refine s_make 26 (p.length + 1) rfl rfl rfl rfl rfl (by omega) (fun _ h => h) (fun go => ?_)
    refine s_as 9 rfl rfl ?_
    refine SX.next ?_
    refine CW.seq ?_
    refine CW.seq ?_
    refine CW.pre (C' := Sto w [own 5 1 A5 (p.length + 1) c5 (nats .u8 (p ++ [0])), own 5 1 q2.1 (trim p2).length q2.2 (nats .u8 (trim p2)), own 5 1 (some ⟨go, 0, none⟩) (p.length + 1) (p.length + 1) (nats .u8 (List.replicate (p.length + 1) 0))]) (fun _ h => by
      have := h.blkOwnM (q := 0) (m := (p.length + 1)) (c := (p.length + 1)) (sz := 1) rfl (by simp) (Nat.le_refl _) (by unfold maxLen; omega)
      rw [zeros8] at this
      exact this.pick [1, 1, 0] rfl) ?_
    have hst := BdG.start hp p2
    have hb0 := bl_app p
    refine CW.reg [0, 1, 2, 3, 4] rfl ?_
    refine s_mv 27 rfl rfl ?_
    refine s_call1 28 rfl rfl rfl rfl (fun w hw => bdeg_spec A5 (p.length + 1) c5 (p ++ [0]) w ((hw.has (i := 0) rfl).of_own) (app_lt hp) (by omega) (by omega)) (fun _ _ => trivial) ?_
    refine s_mv 29 rfl rfl ?_
    refine s_sub 30 rfl rfl rfl (r := ((bl (p ++ [0])).length : Nat) - ((bl p2).length : Nat)) (by rw [hb0, show (((bl p).length : Nat) : Int) - 1 - (((bl p2).length : Nat) - 1) = ((bl p).length : Nat) - ((bl p2).length : Nat) by omega]; exact w64 (by omega)) ?_
    refine s_as 10 rfl rfl ?_
    refine SX.next ?_
    refine CW.block ?_
    refine CW.loop (G := List Nat × List Nat) (fun z => [(1, .slice q2.1 (trim p2).length q2.2), (7, .slice A5 (p.length + 1) c5), (8, .int .i64 ((bl p2).length - 1 : Int)), (9, .slice (some ⟨go, 0, none⟩) (p.length + 1) (p.length + 1)), (10, .int .i64 (((bl z.1).length : Nat) - ((bl p2).length : Nat)))]) (fun z => Sto w [own 5 1 A5 (p.length + 1) c5 (nats .u8 z.1), own 5 1 q2.1 (trim p2).length q2.2 (nats .u8 (trim p2)), own 5 1 (some ⟨go, 0, none⟩) (p.length + 1) (p.length + 1) (nats .u8 z.2)]) (BdG p p2) (fun z => (bl z.1).length) (p ++ [0], List.replicate (p.length + 1) 0) ⟨rfl, rfl, rfl, rfl, rfl, trivial⟩ (fun _ h => h) hst ?_
    rintro ⟨L, Q⟩ hz
    have hz1 := hz.l1
    have hz2 := hz.l2
    have hz3 := hz.b1
    have hz4 := hz.b2
    have hz5 := hz.le
    simp only at hz1 hz2 hz3 hz4 hz5
    dsimp only
    refine CW.seq ?_
    refine CW.seq ?_
    refine CW.reg [0, 1] rfl ?_
    refine s_mv 31 rfl rfl ?_
    refine s_ge 32 rfl rfl rfl rfl ?_
    refine SX.next ?_
    refine CW.test rfl (fun hc => ?_) (fun hc => ?_)
    · skip
      have hs : ((bl L).length - (bl p2).length) + (bl p2).length = (bl L).length := by omega
      have hs8 : ((bl L).length - (bl p2).length) / 8 < Q.length := by omega
      refine CW.skip ?_
      refine KN.code ?_
      refine CW.seq ?_
      refine CW.block ?_
      refine CW.seq ?_
      refine CW.regD (.st true 0 (.st true 1 (.st true 2 (.st true 3 (.st true 5 (.st true 6 (.st true 7 (.st false 4 (.st true 8 (.st true 9 (.st false 10 .done))))))))))) (Sto w []) mixed (by kernel_rfl) (fun _ h => h.drew) (fun _ h => h.dropR) ?_
      refine s_mv 40 rfl rfl ?_
      refine s_mv 41 (v := .int .i64 (((bl L).length - (bl p2).length) : Nat)) rfl (by rw [show ((((bl L).length - (bl p2).length) : Nat) : Int) = ((bl L).length : Nat) - ((bl p2).length : Nat) by omega]; rfl) ?_
      refine s_quo 42 rfl rfl rfl (by omega) (quo8 ((bl L).length - (bl p2).length) (by omega)) ?_
      refine s_iaO 43 2 (((bl L).length - (bl p2).length) / 8) rfl rfl rfl rfl rfl (by omega) ?_
      refine s_mv 45 (v := .int .i64 (((bl L).length - (bl p2).length) : Nat)) rfl (by rw [show ((((bl L).length - (bl p2).length) : Nat) : Int) = ((bl L).length : Nat) - ((bl p2).length : Nat) by omega]; rfl) ?_
      refine s_rem 46 rfl rfl rfl (by omega) (tmod8 ((bl L).length - (bl p2).length)) ?_
      refine s_shl 47 rfl rfl rfl (by omega) (r := ((2 ^ (((bl L).length - (bl p2).length) % 8) : Nat) : Int)) (by rw [show (1 : Int) = ((1 : Nat) : Int) from rfl, shl_u8 (by omega), Nat.one_mul, Nat.mod_eq_of_lt (Nat.pow_lt_pow_right (n := 8) (by omega) (Nat.mod_lt _ (by omega)))]) ?_
      refine s_ldO 44 2 rfl rfl rfl (natsAt8 hs8) ?_
      refine s_bit 48 rfl rfl rfl rfl (ibit_or_u8 (cf_lt8 hz4 _) (Nat.pow_lt_pow_right (n := 8) (by omega) (Nat.mod_lt _ (by omega)))) ?_
      refine s_iaO 49 2 (((bl L).length - (bl p2).length) / 8) rfl rfl rfl rfl rfl (by omega) ?_
      refine s_stO 2 rfl rfl rfl rfl rfl (by omega) (fun _ h => h.dropR) ?_
      refine SX.next ?_
      refine CW.pre (C' := Sto w [own 5 1 A5 (p.length + 1) c5 (nats .u8 L), own 5 1 q2.1 (trim p2).length q2.2 (nats .u8 (trim p2)), own 5 1 (some ⟨go, 0, none⟩) (p.length + 1) (p.length + 1) (nats .u8 (Q.set (((bl L).length - (bl p2).length) / 8) (cf Q (((bl L).length - (bl p2).length) / 8) ||| 2 ^ (((bl L).length - (bl p2).length) % 8))))]) (fun _ h => by rw [← nats_set]; exact h) ?_
      refine CW.reg [0, 1, 2, 3] rfl ?_
      refine s_mv 50 rfl rfl ?_
      refine s_mv 51 rfl rfl ?_
      refine s_mv 52 (v := .int .i64 (((bl L).length - (bl p2).length) : Nat)) rfl (by rw [show ((((bl L).length - (bl p2).length) : Nat) : Int) = ((bl L).length : Nat) - ((bl p2).length : Nat) by omega]; rfl) ?_
      refine s_callM 53 (v := fun _ => oneOf []) (L' := fun o' => [own 5 1 A5 (p.length + 1) c5 (nats .u8 o'), own 5 1 q2.1 (trim p2).length q2.2 (nats .u8 (trim p2)), own 5 1 (some ⟨go, 0, none⟩) (p.length + 1) (p.length + 1) (nats .u8 (Q.set (((bl L).length - (bl p2).length) / 8) (cf Q (((bl L).length - (bl p2).length) / 8) ||| 2 ^ (((bl L).length - (bl p2).length) % 8))))]) rfl rfl rfl rfl (fun w hw => by have := into_spec _ _ w [own 5 1 (some ⟨go, 0, none⟩) (p.length + 1) (p.length + 1) (nats .u8 (Q.set (((bl L).length - (bl p2).length) / 8) (cf Q (((bl L).length - (bl p2).length) / 8) ||| 2 ^ (((bl L).length - (bl p2).length) % 8))))] A5 c5 L q2.1 q2.2 (trim p2) ((bl L).length - (bl p2).length) hz3 h82 (by omega) (by omega) (by rw [hz1]; exact hw); rw [hz1] at this; exact this) (fun _ _ _ => trivial) (fun L2 hL2 => ?_)
      obtain ⟨hnx, hlt2⟩ := hz.next h0 hs hs8 ⟨hL2.1.trans hz1.symm, hL2.2⟩
      refine SX.end_ ?_
      refine KN.blk ?_
      refine KN.code ?_
      refine CW.reg [0, 1, 2, 3, 4, 5, 6, 7] rfl ?_
      refine s_mv 33 rfl rfl ?_
      refine s_sub 34 rfl rfl rfl (r := ((bl L).length : Nat) - ((bl p2).length : Nat) - 1) (w64 (by omega)) ?_
      refine s_mv 35 rfl rfl ?_
      refine s_call1 36 rfl rfl rfl rfl (fun w hw => bdeg_spec A5 (p.length + 1) c5 L2 w ((hw.has (i := 0) rfl).of_own) hL2.2.1 (by omega) (by omega)) (fun _ _ => trivial) ?_
      refine s_mv 37 rfl rfl ?_
      refine s_sub 38 rfl rfl rfl (r := ((bl L2).length : Nat) - ((bl p2).length : Nat)) (by rw [show (((bl L2).length : Nat) : Int) - 1 - (((bl p2).length : Nat) - 1) = ((bl L2).length : Nat) - ((bl p2).length : Nat) by omega]; exact w64 (by omega)) ?_
      refine s_min 39 rfl rfl rfl (r := ((bl L2).length : Nat) - ((bl p2).length : Nat)) (by split <;> omega) ?_
      refine s_as 10 rfl rfl ?_
      refine SX.end_ ?_
      exact KN.back (L2, Q.set (((bl L).length - (bl p2).length) / 8) (cf Q (((bl L).length - (bl p2).length) / 8) ||| 2 ^ (((bl L).length - (bl p2).length) % 8))) ⟨rfl, rfl, rfl, rfl, rfl, trivial⟩ (fun _ h => h) hnx hlt2
    · skip
      obtain ⟨hdQ, hdR⟩ := hz.done h0 (by omega)
      refine CW.exit rfl ?_
      refine KN.code ?_
      refine CW.seq ?_
      refine CW.reg [0, 1, 2, 3, 4, 5, 6] rfl ?_
      refine s_mv 54 rfl rfl ?_
      refine s_call 55 rfl rfl rfl rfl (fun w hw => by have := trimmed_spec (some ⟨go, 0, none⟩) (p.length + 1) (p.length + 1) Q w ((hw.has (i := 2) rfl).of_own) hz4 (by omega) (Nat.le_refl _); rw [hdQ] at this; exact this) (fun _ _ => trivial) (fun q3 hq3 => ?_)
      refine s_mv 56 rfl rfl ?_
      refine s_call 57 rfl rfl rfl rfl (fun w hw => by have := trimmed_spec A5 (p.length + 1) c5 L w ((hw.has (i := 1) rfl).of_own) hz3 (by omega) (by omega); rw [hdR] at this; exact this) (fun _ _ => trivial) (fun q4 hq4 => ?_)
      refine s_as 4 rfl rfl ?_
      refine s_as 5 rfl rfl ?_
      refine s_as 6 rfl rfl ?_
      refine SX.next ?_
      refine CW.ret ?_
      exact KN.ret (rs := [.tmp 4, .tmp 5, .tmp 6]) Tryd.results43 rfl (fun w hw => ⟨(q3, q4), rfl, ⟨hq3, hq4⟩, hw.pick [0, 0] rfl⟩)
  · skip
    refine s_make 26 (p.length + 1) rfl rfl rfl rfl rfl (by omega) (fun _ h => h) (fun go => ?_)
    refine s_call1 22 rfl rfl rfl rfl (v := .int .i64 ((bl p2).length - 1 : Int)) (fun w hw => by have := bdeg_spec q2.1 (trim p2).length q2.2 (trim p2) w (by first | exact (hw.has (i := 1) rfl).of_own | exact (hw.has (i := 2) rfl).of_own) h82 (by omega) hq2; rw [bl_trim] at this; exact this) (fun _ h => by first | exact h | exact h.tail) ?_
    refine s_as 8 rfl rfl ?_
    refine s_as 9 rfl rfl ?_
    refine SX.next ?_
    refine CW.seq ?_
    refine CW.seq ?_
    refine CW.pre (C' := Sto w [own 5 1 A5 (p.length + 1) c5 (nats .u8 (p ++ [0])), own 5 1 q2.1 (trim p2).length q2.2 (nats .u8 (trim p2)), own 5 1 (some ⟨go, 0, none⟩) (p.length + 1) (p.length + 1) (nats .u8 (List.replicate (p.length + 1) 0))]) (fun _ h => by
      have := h.blkOwnM (q := 0) (m := (p.length + 1)) (c := (p.length + 1)) (sz := 1) rfl (by simp) (Nat.le_refl _) (by unfold maxLen; omega)
      rw [zeros8] at this
      exact this.pick [1, 1, 0] rfl) ?_
    have hst := BdG.start hp p2
    have hb0 := bl_app p
    refine CW.reg [0, 1, 2, 3, 4] rfl ?_
    refine s_mv 27 rfl rfl ?_
    refine s_call1 28 rfl rfl rfl rfl (fun w hw => bdeg_spec A5 (p.length + 1) c5 (p ++ [0]) w ((hw.has (i := 0) rfl).of_own) (app_lt hp) (by omega) (by omega)) (fun _ _ => trivial) ?_
    refine s_mv 29 rfl rfl ?_
    refine s_sub 30 rfl rfl rfl (r := ((bl (p ++ [0])).length : Nat) - ((bl p2).length : Nat)) (by rw [hb0, show (((bl p).length : Nat) : Int) - 1 - (((bl p2).length : Nat) - 1) = ((bl p).length : Nat) - ((bl p2).length : Nat) by omega]; exact w64 (by omega)) ?_
    refine s_as 10 rfl rfl ?_
    refine SX.next ?_
    refine CW.block ?_
    refine CW.loop (G := List Nat × List Nat) (fun z => [(1, .slice q2.1 (trim p2).length q2.2), (7, .slice A5 (p.length + 1) c5), (8, .int .i64 ((bl p2).length - 1 : Int)), (9, .slice (some ⟨go, 0, none⟩) (p.length + 1) (p.length + 1)), (10, .int .i64 (((bl z.1).length : Nat) - ((bl p2).length : Nat)))]) (fun z => Sto w [own 5 1 A5 (p.length + 1) c5 (nats .u8 z.1), own 5 1 q2.1 (trim p2).length q2.2 (nats .u8 (trim p2)), own 5 1 (some ⟨go, 0, none⟩) (p.length + 1) (p.length + 1) (nats .u8 z.2)]) (BdG p p2) (fun z => (bl z.1).length) (p ++ [0], List.replicate (p.length + 1) 0) ⟨rfl, rfl, rfl, rfl, rfl, trivial⟩ (fun _ h => h) hst ?_
    rintro ⟨L, Q⟩ hz
    have hz1 := hz.l1
    have hz2 := hz.l2
    have hz3 := hz.b1
    have hz4 := hz.b2
    have hz5 := hz.le
    simp only at hz1 hz2 hz3 hz4 hz5
    dsimp only
    refine CW.seq ?_
    refine CW.seq ?_
    refine CW.reg [0, 1] rfl ?_
    refine s_mv 31 rfl rfl ?_
    refine s_ge 32 rfl rfl rfl rfl ?_
    refine SX.next ?_
    refine CW.test rfl (fun hc => ?_) (fun hc => ?_)
    · skip
      have hs : ((bl L).length - (bl p2).length) + (bl p2).length = (bl L).length := by omega
      have hs8 : ((bl L).length - (bl p2).length) / 8 < Q.length := by omega
      refine CW.skip ?_
      refine KN.code ?_
      refine CW.seq ?_
      refine CW.block ?_
      refine CW.seq ?_
      refine CW.regD (.st true 0 (.st true 1 (.st true 2 (.st true 3 (.st true 5 (.st true 6 (.st true 7 (.st false 4 (.st true 8 (.st true 9 (.st false 10 .done))))))))))) (Sto w []) mixed (by kernel_rfl) (fun _ h => h.drew) (fun _ h => h.dropR) ?_
      refine s_mv 40 rfl rfl ?_
      refine s_mv 41 (v := .int .i64 (((bl L).length - (bl p2).length) : Nat)) rfl (by rw [show ((((bl L).length - (bl p2).length) : Nat) : Int) = ((bl L).length : Nat) - ((bl p2).length : Nat) by omega]; rfl) ?_
      refine s_quo 42 rfl rfl rfl (by omega) (quo8 ((bl L).length - (bl p2).length) (by omega)) ?_
      refine s_iaO 43 2 (((bl L).length - (bl p2).length) / 8) rfl rfl rfl rfl rfl (by omega) ?_
      refine s_mv 45 (v := .int .i64 (((bl L).length - (bl p2).length) : Nat)) rfl (by rw [show ((((bl L).length - (bl p2).length) : Nat) : Int) = ((bl L).length : Nat) - ((bl p2).length : Nat) by omega]; rfl) ?_
      refine s_rem 46 rfl rfl rfl (by omega) (tmod8 ((bl L).length - (bl p2).length)) ?_
      refine s_shl 47 rfl rfl rfl (by omega) (r := ((2 ^ (((bl L).length - (bl p2).length) % 8) : Nat) : Int)) (by rw [show (1 : Int) = ((1 : Nat) : Int) from rfl, shl_u8 (by omega), Nat.one_mul, Nat.mod_eq_of_lt (Nat.pow_lt_pow_right (n := 8) (by omega) (Nat.mod_lt _ (by omega)))]) ?_
      refine s_ldO 44 2 rfl rfl rfl (natsAt8 hs8) ?_
      refine s_bit 48 rfl rfl rfl rfl (ibit_or_u8 (cf_lt8 hz4 _) (Nat.pow_lt_pow_right (n := 8) (by omega) (Nat.mod_lt _ (by omega)))) ?_
      refine s_iaO 49 2 (((bl L).length - (bl p2).length) / 8) rfl rfl rfl rfl rfl (by omega) ?_
      refine s_stO 2 rfl rfl rfl rfl rfl (by omega) (fun _ h => h.dropR) ?_
      refine SX.next ?_
      refine CW.pre (C' := Sto w [own 5 1 A5 (p.length + 1) c5 (nats .u8 L), own 5 1 q2.1 (trim p2).length q2.2 (nats .u8 (trim p2)), own 5 1 (some ⟨go, 0, none⟩) (p.length + 1) (p.length + 1) (nats .u8 (Q.set (((bl L).length - (bl p2).length) / 8) (cf Q (((bl L).length - (bl p2).length) / 8) ||| 2 ^ (((bl L).length - (bl p2).length) % 8))))]) (fun _ h => by rw [← nats_set]; exact h) ?_
      refine CW.reg [0, 1, 2, 3] rfl ?_
      refine s_mv 50 rfl rfl ?_
      refine s_mv 51 rfl rfl ?_
      refine s_mv 52 (v := .int .i64 (((bl L).length - (bl p2).length) : Nat)) rfl (by rw [show ((((bl L).length - (bl p2).length) : Nat) : Int) = ((bl L).length : Nat) - ((bl p2).length : Nat) by omega]; rfl) ?_
      refine s_callM 53 (v := fun _ => oneOf []) (L' := fun o' => [own 5 1 A5 (p.length + 1) c5 (nats .u8 o'), own 5 1 q2.1 (trim p2).length q2.2 (nats .u8 (trim p2)), own 5 1 (some ⟨go, 0, none⟩) (p.length + 1) (p.length + 1) (nats .u8 (Q.set (((bl L).length - (bl p2).length) / 8) (cf Q (((bl L).length - (bl p2).length) / 8) ||| 2 ^ (((bl L).length - (bl p2).length) % 8))))]) rfl rfl rfl rfl (fun w hw => by have := into_spec _ _ w [own 5 1 (some ⟨go, 0, none⟩) (p.length + 1) (p.length + 1) (nats .u8 (Q.set (((bl L).length - (bl p2).length) / 8) (cf Q (((bl L).length - (bl p2).length) / 8) ||| 2 ^ (((bl L).length - (bl p2).length) % 8))))] A5 c5 L q2.1 q2.2 (trim p2) ((bl L).length - (bl p2).length) hz3 h82 (by omega) (by omega) (by rw [hz1]; exact hw); rw [hz1] at this; exact this) (fun _ _ _ => trivial) (fun L2 hL2 => ?_)
      obtain ⟨hnx, hlt2⟩ := hz.next h0 hs hs8 ⟨hL2.1.trans hz1.symm, hL2.2⟩
      refine SX.end_ ?_
      refine KN.blk ?_
      refine KN.code ?_
      refine CW.reg [0, 1, 2, 3, 4, 5, 6, 7] rfl ?_
      refine s_mv 33 rfl rfl ?_
      refine s_sub 34 rfl rfl rfl (r := ((bl L).length : Nat) - ((bl p2).length : Nat) - 1) (w64 (by omega)) ?_
      refine s_mv 35 rfl rfl ?_
      refine s_call1 36 rfl rfl rfl rfl (fun w hw => bdeg_spec A5 (p.length + 1) c5 L2 w ((hw.has (i := 0) rfl).of_own) hL2.2.1 (by omega) (by omega)) (fun _ _ => trivial) ?_
      refine s_mv 37 rfl rfl ?_
      refine s_sub 38 rfl rfl rfl (r := ((bl L2).length : Nat) - ((bl p2).length : Nat)) (by rw [show (((bl L2).length : Nat) : Int) - 1 - (((bl p2).length : Nat) - 1) = ((bl L2).length : Nat) - ((bl p2).length : Nat) by omega]; exact w64 (by omega)) ?_
      refine s_min 39 rfl rfl rfl (r := ((bl L2).length : Nat) - ((bl p2).length : Nat)) (by split <;> omega) ?_
      refine s_as 10 rfl rfl ?_
      refine SX.end_ ?_
      exact KN.back (L2, Q.set (((bl L).length - (bl p2).length) / 8) (cf Q (((bl L).length - (bl p2).length) / 8) ||| 2 ^ (((bl L).length - (bl p2).length) % 8))) ⟨rfl, rfl, rfl, rfl, rfl, trivial⟩ (fun _ h => h) hnx hlt2
    · skip
      obtain ⟨hdQ, hdR⟩ := hz.done h0 (by omega)
      refine CW.exit rfl ?_
      refine KN.code ?_
      refine CW.seq ?_
      refine CW.reg [0, 1, 2, 3, 4, 5, 6] rfl ?_
      refine s_mv 54 rfl rfl ?_
      refine s_call 55 rfl rfl rfl rfl (fun w hw => by have := trimmed_spec (some ⟨go, 0, none⟩) (p.length + 1) (p.length + 1) Q w ((hw.has (i := 2) rfl).of_own) hz4 (by omega) (Nat.le_refl _); rw [hdQ] at this; exact this) (fun _ _ => trivial) (fun q3 hq3 => ?_)
      refine s_mv 56 rfl rfl ?_
      refine s_call 57 rfl rfl rfl rfl (fun w hw => by have := trimmed_spec A5 (p.length + 1) c5 L w ((hw.has (i := 1) rfl).of_own) hz3 (by omega) (by omega); rw [hdR] at this; exact this) (fun _ _ => trivial) (fun q4 hq4 => ?_)
      refine s_as 4 rfl rfl ?_
      refine s_as 5 rfl rfl ?_
      refine s_as 6 rfl rfl ?_
      refine SX.next ?_
      refine CW.ret ?_
      exact KN.ret (rs := [.tmp 4, .tmp 5, .tmp 6]) Tryd.results43 rfl (fun w hw => ⟨(q3, q4), rfl, ⟨hq3, hq4⟩, hw.pick [0, 0] rfl⟩)
end Go.Proofs.YtcdmmfpgeagimaaDoor
end
section
/- The contracts of package binpoly: common divisors, sameness, values. Conditions: the lists are bytes, read where they lie. -/
namespace Go.Proofs.YtcdmmfpgeagimaaDoor
open Go Go.Lib Go.Sx Go.Fm
set_option maxRecDepth 100000
/-- What the common divisor's loop keeps. -/
structure BgG (a b : List Nat) (q : List Nat × List Nat × (Option Addr × Nat) × (Option Addr × Nat)) : Prop where
  h1 : B1 q.1
  h2 : B1 q.2.1
  l1 : q.1.length ≤ 8000000
  l2 : q.2.1.length ≤ 8000000
  c1 : (bys q.1).length ≤ q.2.2.1.2
  c2 : (bys q.2.1).length ≤ q.2.2.2.2
  eq : gcdE 3 q.1 q.2.1 = gcdE 3 a b
theorem bys_zero {b : List Nat} (hb : B1 b) : (bys b).length = 0 ↔ b.length = 0 := by
  constructor
  · intro h
    have := bl_bys hb
    rw [List.eq_nil_of_length_eq_zero h] at this
    rw [← this]
    rfl
  · intro h
    rw [List.eq_nil_of_length_eq_zero h]
    rfl
theorem bys_lt {b : List Nat} (hb : B1 b) : ∀ x ∈ bys b, x < 256 := (bys_tr hb.le).lt
theorem trim_bl {p : List Nat} (hp : ∀ x ∈ p, x < 256) : trim p = bys (bl p) := trim_bys hp

theorem bgcd_spec (A : Option Addr) (n c : Nat) (p : List Nat) (A2 : Option Addr) (n2 c2 : Nat) (p2 : List Nat) (w : World) (ha : Has (sl 1 A n (nats .u8 p)) w) (hp : ∀ x ∈ p, x < 256) (hn : n ≤ 1073741824) (hcp : n ≤ c) (ha2 : Has (sl 1 A2 n2 (nats .u8 p2)) w) (hp2 : ∀ x ∈ p2, x < 256) (hn2 : n2 ≤ 1073741824) (hcp2 : n2 ≤ c2) (hs1 : p.length ≤ 1000000) (hs2 : p2.length ≤ 1000000) : SpecB Tryd.prog 39 [.slice A n c, .slice A2 n2 c2] w (bys (gcdE 3 (bl p) (bl p2))) := by
  have hla := nats_len ha
  have hla2 := nats_len ha2
  subst hla
  subst hla2
  have hb1 := bl_len p
  have hb2 := bl_len p2
  refine spec_of Tryd.func39 rfl Tryd.ntmps39 rfl ?_
  refine CW.seq ?_
  refine CW.reg [0] rfl ?_
  refine s_as 4 rfl rfl ?_
  refine SX.next ?_
  refine CW.seq ?_
  refine CW.reg [0, 1, 2, 3, 4, 5] rfl ?_
  refine s_mv 8 rfl rfl ?_
  refine s_call 9 rfl rfl rfl rfl (fun w hw => by have := trimmed_spec A p.length c p w (hw.old ha) hp hn hcp; rw [trim_bl hp] at this; exact this) (fun _ _ => trivial) (fun q1 hq1 => ?_)
  refine s_mv 10 rfl rfl ?_
  refine s_call 11 rfl rfl rfl rfl (fun w hw => by have := trimmed_spec A2 p2.length c2 p2 w (hw.old ha2) hp2 hn2 hcp2; rw [trim_bl hp2] at this; exact this) (fun _ _ => trivial) (fun q2 hq2 => ?_)
  refine s_as 0 rfl rfl ?_
  refine s_as 1 rfl rfl ?_
  refine SX.next ?_
  refine CW.seq ?_
  refine CW.block ?_
  refine CW.loop (G := List Nat × List Nat × (Option Addr × Nat) × (Option Addr × Nat)) (fun q => [(0, .slice q.2.2.1.1 (bys q.1).length q.2.2.1.2), (1, .slice q.2.2.2.1 (bys q.2.1).length q.2.2.2.2)]) (fun q => Sto w [own 5 1 q.2.2.2.1 (bys q.2.1).length q.2.2.2.2 (nats .u8 (bys q.2.1)), own 5 1 q.2.2.1.1 (bys q.1).length q.2.2.1.2 (nats .u8 (bys q.1))]) (BgG (bl p) (bl p2)) (fun q => q.2.1.length) (bl p, bl p2, q1, q2) ⟨rfl, rfl, trivial⟩ (fun _ h => h) ⟨bl_b1 p, bl_b1 p2, by simp only; omega, by simp only; omega, hq1, hq2, rfl⟩ ?_
  rintro ⟨a1, b1, q3, q4⟩ hq
  obtain ⟨k1, k2, k3, k4, k5, k6, k7⟩ := hq
  simp only at k1 k2 k3 k4 k5 k6 k7
  dsimp only
  have hz := bys_zero k2
  have hy1 := bys_len a1
  have hy2 := bys_len b1
  refine CW.seq ?_
  refine CW.seq ?_
  refine CW.reg [0, 1, 2] rfl ?_
  refine s_mv 12 rfl rfl ?_
  refine s_len 13 rfl rfl ?_
  refine s_gt 14 rfl rfl rfl rfl ?_
  refine SX.next ?_
  refine CW.test rfl (fun hc => ?_) (fun hc => ?_)
  · skip
    have h0 : b1.length ≠ 0 := fun h => by have := hz.2 h; omega
    have hrl := restP_len ok3 k1.tr.lt k2.tr.lt h0 (k2.tr.top h0)
    refine CW.skip ?_
    refine KN.code ?_
    refine CW.block ?_
    refine CW.seq ?_
    refine CW.reg [0, 1, 2, 3, 4, 5, 6, 7, 8, 9] rfl ?_
    refine s_mv 16 rfl rfl ?_
    refine s_mv 17 rfl rfl ?_
    refine s_call 18 rfl rfl rfl rfl (fun w hw => by have := bdiv_spec q3.1 (bys a1).length q3.2 (bys a1) q4.1 (bys b1).length q4.2 (bys b1) w ((hw.has (i := 1) rfl).of_own) (bys_lt k1) (by omega) k5 ((hw.has (i := 0) rfl).of_own) (bys_lt k2) (by omega) k6 (by rw [bl_bys k2]; exact h0) (by omega); rw [bl_bys k1, bl_bys k2] at this; exact this) (fun _ _ => trivial) (fun q5 hq5 => ?_)
    refine s_mv 15 rfl rfl ?_
    refine s_ext 19 rfl rfl rfl ?_
    refine s_ext 20 rfl rfl rfl ?_
    refine s_ext 21 rfl rfl rfl ?_
    refine s_as 5 rfl rfl ?_
    refine s_as 6 rfl rfl ?_
    refine s_as 7 rfl rfl ?_
    refine SX.next ?_
    refine CW.reg [0, 1, 2, 3] rfl ?_
    refine s_mv 22 rfl rfl ?_
    refine s_mv 23 rfl rfl ?_
    refine s_as 0 rfl rfl ?_
    refine s_as 1 rfl rfl ?_
    refine SX.end_ ?_
    refine KN.blk ?_
    exact KN.back (b1, restP 3 a1 b1, q4, q5.2) ⟨rfl, rfl, trivial⟩ (fun _ h => h.pick [0, 1] rfl) ⟨k2, restP_b1 k1 k2 h0, k4, by simp only; omega, k6, hq5.2, (gcdE_step ok3 k1.tr k2.tr h0).trans k7⟩ (by simp only; omega)
  · skip
    have h0 : b1.length = 0 := hz.1 (by omega)
    have hg : gcdE 3 (bl p) (bl p2) = a1 := by rw [← k7]; exact gcdE_last h0
    refine CW.exit rfl ?_
    refine KN.code ?_
    refine CW.seq ?_
    refine CW.reg [0, 1] rfl ?_
    refine s_mv 24 rfl rfl ?_
    refine s_as 4 rfl rfl ?_
    refine SX.next ?_
    refine CW.ret ?_
    exact KN.ret (rs := [.tmp 4]) Tryd.results39 rfl (fun w hw => ⟨q3, by rw [hg]; rfl, by rw [hg]; exact k5, by rw [hg]; exact hw.pick [1] rfl⟩)

theorem bsm_spec (A : Option Addr) (n c : Nat) (p : List Nat) (A2 : Option Addr) (n2 c2 : Nat) (p2 : List Nat) (w : World) (ha : Has (sl 1 A n (nats .u8 p)) w) (hp : ∀ x ∈ p, x < 256) (hn : n ≤ 1073741824) (hcp : n ≤ c) (ha2 : Has (sl 1 A2 n2 (nats .u8 p2)) w) (hp2 : ∀ x ∈ p2, x < 256) (hn2 : n2 ≤ 1073741824) (hcp2 : n2 ≤ c2) : Spec1 Tryd.prog 48 [.slice A n c, .slice A2 n2 c2] w (.bool (decide (bl p = bl p2))) := by
  have hla := nats_len ha
  have hla2 := nats_len ha2
  subst hla
  subst hla2
  have hbb := strB_beq (bys_lt (bl_b1 p)) (bys_lt (bl_b1 p2))
  have hdd : decide (bys (bl p) = bys (bl p2)) = decide (bl p = bl p2) := decide_eq_decide.2 ⟨fun h => by rw [← bl_bys (bl_b1 p), h, bl_bys (bl_b1 p2)], fun h => by rw [h]⟩
  rw [hdd] at hbb
  refine spec_of Tryd.func48 rfl Tryd.ntmps48 rfl ?_
  refine CW.seq ?_
  refine CW.reg [0] rfl ?_
  refine s_as 4 rfl rfl ?_
  refine SX.next ?_
  refine CW.seq ?_
  refine CW.regD (.st true 0 (.st true 3 (.st false 1 (.alt 2 (.st false 4 (.st false 5 (.st true 6 (.st true 7 .done)))) (.st false 4 (.alt 2 (.st false 5 (.st true 6 (.st true 7 .done))) (.st false 5 (.st false 2 (.st true 6 (.st true 7 .done)))))))))) (Sto w []) mixed (by kernel_rfl) (fun _ h => h.drew) (fun _ h => h.dropR) ?_
  refine s_mv 5 rfl rfl ?_
  refine s_mv 8 rfl rfl ?_
  refine s_call 6 rfl rfl rfl rfl (fun w hw => by have := trimmed_spec A p.length c p w (hw.old ha) hp hn hcp; rw [trim_bl hp] at this; exact this) (fun _ h => h.dropR) (fun q1 hq1 => ?_)
  refine SX.alt ?_ ?_
  · skip
    refine s_b2s 7 (b := bys (bl p)) rfl (by kernel_rfl) (by kernel_rfl) rfl (fun w hw => by first | exact (hw.has (i := 0) rfl).of_own | exact (hw.has (i := 1) rfl).of_own) ?_
    refine s_call 9 rfl rfl rfl rfl (fun w hw => by have := trimmed_spec A2 p2.length c2 p2 w (hw.old ha2) hp2 hn2 hcp2; rw [trim_bl hp2] at this; exact this) (fun _ h => h.dropR) (fun q2 hq2 => ?_)
    refine s_b2s 10 (b := bys (bl p2)) rfl (by kernel_rfl) (by kernel_rfl) rfl (fun w hw => by first | exact (hw.has (i := 0) rfl).of_own | exact (hw.has (i := 1) rfl).of_own) ?_
    refine s_eqS 11 rfl rfl rfl hbb ?_
    refine s_as 4 rfl rfl ?_
    refine SX.next ?_
    refine CW.ret ?_
    exact KN.ret (rs := [.tmp 4]) Tryd.results48 rfl (fun w hw => ⟨rfl, hw.nothing⟩)
  · skip
    refine s_call 9 rfl rfl rfl rfl (fun w hw => by have := trimmed_spec A2 p2.length c2 p2 w (hw.old ha2) hp2 hn2 hcp2; rw [trim_bl hp2] at this; exact this) (fun _ h => h.dropR) (fun q2 hq2 => ?_)
    refine SX.alt ?_ ?_
    · skip
      refine s_b2s 7 (b := bys (bl p)) rfl (by kernel_rfl) (by kernel_rfl) rfl (fun w hw => by first | exact (hw.has (i := 0) rfl).of_own | exact (hw.has (i := 1) rfl).of_own) ?_
      refine s_b2s 10 (b := bys (bl p2)) rfl (by kernel_rfl) (by kernel_rfl) rfl (fun w hw => by first | exact (hw.has (i := 0) rfl).of_own | exact (hw.has (i := 1) rfl).of_own) ?_
      refine s_eqS 11 rfl rfl rfl hbb ?_
      refine s_as 4 rfl rfl ?_
      refine SX.next ?_
      refine CW.ret ?_
      exact KN.ret (rs := [.tmp 4]) Tryd.results48 rfl (fun w hw => ⟨rfl, hw.nothing⟩)
    · skip
      refine s_b2s 10 (b := bys (bl p2)) rfl (by kernel_rfl) (by kernel_rfl) rfl (fun w hw => by first | exact (hw.has (i := 0) rfl).of_own | exact (hw.has (i := 1) rfl).of_own) ?_
      refine s_b2s 7 (b := bys (bl p)) rfl (by kernel_rfl) (by kernel_rfl) rfl (fun w hw => by first | exact (hw.has (i := 0) rfl).of_own | exact (hw.has (i := 1) rfl).of_own) ?_
      refine s_eqS 11 rfl rfl rfl hbb ?_
      refine s_as 4 rfl rfl ?_
      refine SX.next ?_
      refine CW.ret ?_
      exact KN.ret (rs := [.tmp 4]) Tryd.results48 rfl (fun w hw => ⟨rfl, hw.nothing⟩)

/-! ### The value at 1 -/
theorem xs_add (f : Nat → Nat) (n : Nat) : ∀ k, xs f (n + k) = xs f n ^^^ xs (fun i => f (n + i)) k
  | 0 => by show xs f n = xs f n ^^^ 0; rw [Nat.xor_zero]
  | k + 1 => by
    show xs f (n + k) ^^^ f (n + k) = xs f n ^^^ (xs (fun i => f (n + i)) k ^^^ f (n + k))
    rw [xs_add f n k, Nat.xor_assoc]
theorem par_add {a b : Nat} : (a + b) % 2 = (a % 2) ^^^ (b % 2) := by
  rcases Nat.mod_two_eq_zero_or_one a with h1 | h1 <;> rcases Nat.mod_two_eq_zero_or_one b with h2 | h2 <;> rw [h1, h2, Nat.add_mod, h1, h2] <;> rfl
/-- How many bits stand, but for twos. -/
def parB (p : List Nat) (i : Nat) : Nat := xs (bitN p) (8 * i)
theorem parB_next {p : List Nat} {i n z : Nat} (h : n % 2 = parB p i) (hz : z % 2 = xs (fun s => (cf p i >>> s) % 2) 8) : (n + z) % 2 = parB p (i + 1) := by
  unfold parB at *
  rw [par_add, h, hz, show 8 * (i + 1) = 8 * i + 8 by omega, xs_add]
  congr 1
  refine xs_congr (fun s hs => ?_)
  unfold bitN
  rw [show (8 * i + s) / 8 = i by omega, show (8 * i + s) % 8 = s by omega]
/-- It is the value at 1. -/
theorem evL_one {m : Nat} (hm : Ok m) : ∀ {a : List Nat} (_ : ∀ x ∈ a, x < 2 ^ m), evL m a 1 = xs (cf a) a.length
  | [], _ => rfl
  | y :: r, h => by
    have hr : ∀ x ∈ r, x < 2 ^ m := fun x hx => h x (List.mem_cons_of_mem _ hx)
    show gm m (evL m r 1) 1 ^^^ y = _
    rw [gm_one_right hm (evL_lt hm 1 hr), evL_one hm hr, List.length_cons, xs_first, cf_cons_zero, Nat.xor_comm]
    congr 1
theorem parB_ev (p : List Nat) : parB p p.length = evL 3 (bl p) 1 := by
  rw [evL_one ok3 (bl_b1 p).tr.lt]
  unfold parB
  have := bl_len p
  rw [show 8 * p.length = (bl p).length + (8 * p.length - (bl p).length) by omega, xs_more (fun i hi => by rw [← cf_bl, cf_out hi])]
  exact xs_congr (fun i _ => (cf_bl p i).symm)

theorem ones8_spec (x z : Nat) (w : World) (hx : x < 256) (hz : pop8 (x : Int) = (z : Nat)) (hz8 : z ≤ 8) : Spec1 Tryd.prog 100 [.int .u8 (x : Nat)] w (.int .i64 (z : Nat)) := by
  refine spec_of Tryd.func100 rfl Tryd.ntmps100 rfl ?_
  refine CW.seq ?_
  refine CW.reg [0] rfl ?_
  refine s_as 2 rfl rfl ?_
  refine SX.next ?_
  refine CW.seq ?_
  refine CW.reg [0, 1, 2, 3] rfl ?_
  refine s_mv 3 rfl rfl ?_
  refine s_pop8 4 rfl (by kernel_rfl) (by kernel_rfl) rfl (by omega) (by omega) hz ?_
  refine s_conv 5 rfl rfl (w64 (by omega)) ?_
  refine s_as 2 rfl rfl ?_
  refine SX.next ?_
  refine CW.ret ?_
  exact KN.ret (rs := [.tmp 2]) Tryd.results100 rfl (fun w hw => ⟨rfl, hw.nothing⟩)

theorem beval_spec (A : Option Addr) (n c : Nat) (p : List Nat) (w : World) (ha : Has (sl 1 A n (nats .u8 p)) w) (hp : ∀ x ∈ p, x < 256) (hn : n ≤ 1073741824) (hcp : n ≤ c) : Spec1 Tryd.prog 47 [.slice A n c, .int .i64 1] w (.int .i64 (evL 3 (bl p) 1 : Nat)) := by
  have hla := nats_len ha
  subst hla
  refine spec_of Tryd.func47 rfl Tryd.ntmps47 rfl ?_
  refine CW.seq ?_
  refine CW.reg [0] rfl ?_
  refine s_as 4 rfl rfl ?_
  refine SX.next ?_
  refine CW.seq ?_
  refine CW.seq ?_
  refine CW.reg [0, 1, 2] rfl ?_
  refine s_mv 8 rfl rfl ?_
  refine s_rem 9 rfl rfl rfl (by omega) (r := 1) rfl ?_
  refine s_eq 10 rfl rfl rfl (decide_eq_false (by omega)) ?_
  refine SX.next ?_
  refine CW.condF rfl ?_
  refine CW.skip ?_
  refine KN.code ?_
  refine CW.seq ?_
  refine CW.reg [0] rfl ?_
  refine s_as 5 rfl rfl ?_
  refine SX.next ?_
  refine CW.seq ?_
  refine CW.seq ?_
  refine CW.reg [0, 1, 2] rfl ?_
  refine s_mv 13 rfl rfl ?_
  refine s_len 14 rfl rfl ?_
  refine s_mv 15 rfl rfl ?_
  refine SX.next ?_
  refine CW.block ?_
  refine CW.loop (G := Nat × Nat) (fun q => [(5, .int .i64 (q.2 : Nat)), (13, .slice A p.length c), (14, .int .i64 (p.length : Nat)), (15, .int .i64 (q.1 : Nat))]) (fun _ => Sto w []) (fun q => (q.1 ≤ p.length ∧ q.2 ≤ 8 * q.1) ∧ q.2 % 2 = parB p q.1) (fun q => p.length - q.1) (0, 0) ⟨rfl, rfl, rfl, rfl, trivial⟩ (fun _ h => h) ⟨⟨Nat.zero_le _, Nat.zero_le _⟩, rfl⟩ ?_
  rintro ⟨i, k⟩ ⟨⟨hi, hk⟩, hp2⟩
  simp only at hi hk hp2
  dsimp only
  refine CW.seq ?_
  refine CW.reg [0] rfl ?_
  refine s_lt 16 rfl rfl rfl rfl ?_
  refine SX.next ?_
  refine CW.seq ?_
  refine CW.test rfl (fun hc => ?_) (fun hc => ?_)
  · skip
    obtain ⟨z, hz1, hz2, hz3⟩ := pop_all (cf p i) (cf_lt8 hp i)
    refine CW.skip ?_
    refine KN.code ?_
    refine CW.seq ?_
    refine CW.block ?_
    refine CW.seq ?_
    refine CW.reg [0, 1, 2] rfl ?_
    refine s_iaV 17 i (fun w hw => hw.old ha) rfl rfl rfl rfl (by omega) ?_
    refine s_ldV 18 (fun w hw => hw.old ha) rfl rfl (by rw [Nat.mul_one]; exact natsAt8 (by omega)) (by omega) ?_
    refine s_as 7 rfl rfl ?_
    refine SX.next ?_
    refine CW.reg [0, 1, 2, 3, 4] rfl ?_
    refine s_mv 19 rfl rfl ?_
    refine s_mv 20 rfl rfl ?_
    refine s_call1 21 rfl rfl rfl rfl (fun w hw => ones8_spec _ z w (cf_lt8 hp i) hz1 hz2) (fun _ _ => trivial) ?_
    refine s_add 22 rfl rfl rfl (r := ((k + z : Nat) : Int)) (w64 (by omega)) ?_
    refine s_as 5 rfl rfl ?_
    refine SX.end_ ?_
    refine KN.blk ?_
    refine KN.code ?_
    refine CW.reg [0, 1] rfl ?_
    refine s_add 23 rfl rfl rfl (r := ((i + 1 : Nat) : Int)) (w64 (by omega)) ?_
    refine s_mv 15 rfl rfl ?_
    refine SX.end_ ?_
    exact KN.back (i + 1, k + z) ⟨rfl, rfl, rfl, rfl, trivial⟩ (fun _ h => h) ⟨⟨by simp only; omega, by simp only; omega⟩, parB_next hp2 hz3⟩ (by simp only; omega)
  · skip
    obtain rfl : i = p.length := by omega
    rw [parB_ev] at hp2
    refine CW.exit rfl ?_
    refine KN.code ?_
    refine CW.seq ?_
    refine CW.reg [0, 1, 2] rfl ?_
    refine s_mv 24 rfl rfl ?_
    refine s_rem 25 rfl rfl rfl (by omega) (r := ((evL 3 (bl p) 1 : Nat) : Int)) (by rw [← hp2]; rfl) ?_
    refine s_as 4 rfl rfl ?_
    refine SX.next ?_
    refine CW.ret ?_
    exact KN.ret (rs := [.tmp 4]) Tryd.results47 rfl (fun w hw => ⟨rfl, hw.nothing⟩)

theorem rbytes_spec (A : Option Addr) (n c : Nat) (p : List Nat) (w : World) (ha : Has (sl 1 A n (nats .u8 p)) w) (hn : n ≤ 1000000) : SpecB Tryd.prog 27 [.slice A n c] w p := by
  have hla := nats_len ha
  subst hla
  refine spec_of Tryd.func27 rfl Tryd.ntmps27 rfl ?_
  refine CW.seq ?_
  refine CW.reg [0] rfl ?_
  refine s_as 2 rfl rfl ?_
  refine SX.next ?_
  refine CW.seq ?_
  refine CW.reg [0, 1, 2, 3, 4, 5] rfl ?_
  refine s_mv 3 rfl rfl ?_
  refine s_len 4 rfl rfl ?_
  refine s_makeC 5 p.length rfl rfl rfl rfl rfl (by unfold maxLen; omega) (fun _ _ => trivial) (fun g0 => ?_)
  refine s_mv 6 rfl rfl ?_
  refine s_app 7 0 rfl rfl rfl rfl (ys := nats .u8 p) (fun w hw => hw.old ha) (nats_one _ _) rfl (by omega) (by unfold maxLen; omega) (by omega) (fun _ _ _ _ => trivial) (fun A2 c2 hc2 => ?_)
  refine s_as 2 rfl rfl ?_
  refine SX.next ?_
  refine CW.ret ?_
  exact KN.ret (rs := [.tmp 2]) Tryd.results27 rfl (fun w hw => ⟨(A2, c2), by rw [Nat.zero_add]; rfl, by omega, by rw [Nat.zero_add] at hw; exact hw⟩)
end Go.Proofs.YtcdmmfpgeagimaaDoor
end
section
/- The statement BinRing, walked. No condition but the errors' variables. -/
namespace Go.Proofs.YtcdmmfpgeagimaaDoor
open Go Go.Lib Go.Sx Go.Fm
set_option maxRecDepth 100000

theorem bdiv_zero (A : Option Addr) (n c : Nat) (p : List Nat) (A2 : Option Addr) (n2 c2 : Nat) (p2 : List Nat) (e : Nat → Addr) (w : World) (ha : Has (sl 1 A n (nats .u8 p)) w) (hp : ∀ x ∈ p, x < 256) (hn : n ≤ 1073741824) (hcp : n ≤ c) (ha2 : Has (sl 1 A2 n2 (nats .u8 p2)) w) (hp2 : ∀ x ∈ p2, x < 256) (hn2 : n2 ≤ 1073741824) (hcp2 : n2 ≤ c2) (hz : Er e w 2) (h0 : (bl p2).length = 0) : Spec1 Tryd.prog 43 [.slice A n c, .slice A2 n2 c2] w (.tuple #[.slice none 0 0, .slice none 0 0, errV e 2]) := by
  have hla := nats_len ha
  subst hla
  have hla2 := nats_len ha2
  subst hla2
  have hnz : (trim p2).length = 0 := by
    refine Classical.byContradiction fun h => ?_
    have := bl_len_ge hp2 h
    omega
  refine spec_of Tryd.func43 rfl Tryd.ntmps43 rfl ?_
  refine CW.seq ?_
  refine CW.reg [0, 1, 2] rfl ?_
  refine s_as 4 rfl rfl ?_
  refine s_as 5 rfl rfl ?_
  refine s_as 6 rfl rfl ?_
  refine SX.next ?_
  refine CW.seq ?_
  refine CW.reg [0, 1, 2] rfl ?_
  refine s_mv 11 rfl rfl ?_
  refine s_call 12 rfl rfl rfl rfl (fun w hw => trimmed_spec A2 p2.length c2 p2 w (hw.old ha2) hp2 hn2 hcp2) (fun _ _ => trivial) (fun q2 hq2 => ?_)
  refine s_as 1 rfl rfl ?_
  refine SX.next ?_
  refine CW.seq ?_
  refine CW.seq ?_
  refine CW.reg [0, 1, 2] rfl ?_
  refine s_mv 13 rfl rfl ?_
  refine s_len 14 rfl rfl ?_
  refine s_eq 15 rfl rfl rfl (decide_eq_true (by omega)) ?_
  refine SX.next ?_
  refine CW.condT rfl ?_
  refine CW.seq ?_
  refine CW.regD (.st true 0 (.st true 1 (.st true 2 (.st true 3 .done)))) (Sto w []) mixed (by kernel_rfl) (fun _ h => h.drew) (fun _ h => h.dropR) ?_
  refine s_ldS 16 rfl rfl (fun _ h => h.cell hz) ?_
  refine s_as 4 rfl rfl ?_
  refine s_as 5 rfl rfl ?_
  refine s_as 6 rfl rfl ?_
  refine SX.next ?_
  refine CW.ret ?_
  exact KN.ret (rs := [.tmp 4, .tmp 5, .tmp 6]) Tryd.results43 rfl (fun w hw => ⟨rfl, hw.dropR⟩)

theorem mulP_le3 (a b : List Nat) : (mulP 3 a b).length ≤ a.length + b.length := by
  unfold mulP pl
  rw [trim_length]
  have := tl_le ((List.range (a.length + b.length - 1)).map fun j => cv 3 (cf a) (cf b) j)
  simp at this
  omega
theorem pl_le (n : Nat) (f : Nat → Nat) : (pl n f).length ≤ n := by
  unfold pl
  rw [trim_length]
  simpa using tl_le ((List.range n).map f)
theorem gcdP_le3 : ∀ (k : Nat) (a b : List Nat), (gcdP 3 k a b).length ≤ max a.length b.length
  | 0, a, _ => Nat.le_max_left _ _
  | k + 1, a, b => by
    unfold gcdP
    split
    · exact Nat.le_max_left _ _
    · have h1 := gcdP_le3 k b (restP 3 a b)
      have h2 : (restP 3 a b).length ≤ a.length := pl_le _ _
      omega
theorem ev_two (p : List Nat) : evL 3 (bl p) 1 < 2 := by
  rw [← parB_ev]
  exact xs_two (fun i _ => bitN_lt p i)
theorem and_gm {x y : Nat} (hx : x < 2) (hy : y < 2) : x &&& y = gm 3 x y := by
  rcases (show x = 0 ∨ x = 1 by omega) with rfl | rfl <;> rcases (show y = 0 ∨ y = 1 by omega) with rfl | rfl <;> decide
theorem gcd_rest3 {a b : List Nat} (ha : B1 a) (hb : B1 b) (h0 : b.length ≠ 0) : (gcdE 3 a b).length ≠ 0 ∧ restP 3 a (gcdE 3 a b) = [] ∧ restP 3 b (gcdE 3 a b) = [] := by
  have hg := gcdE_tr ok3 ha.tr hb.tr
  have hd := gcdE_dvd ok3 ha.tr hb.tr
  have hg0 : (gcdE 3 a b).length ≠ 0 := fun h => by
    obtain ⟨q, _, h2⟩ := hd.2
    rw [List.eq_nil_of_length_eq_zero h, mulP_nil_r] at h2
    rw [← h2] at h0
    exact h0 rfl
  exact ⟨hg0, rest_of_dvd ok3 ha.tr hg hg0 hd.1, rest_of_dvd ok3 hb.tr hg hg0 hd.2⟩
end Go.Proofs.YtcdmmfpgeagimaaDoor
end
section
/- The contracts of binpoly.Shift. Conditions: the list is bytes, read where it lies. -/
namespace Go.Proofs.YtcdmmfpgeagimaaDoor
open Go Go.Lib Go.Sx Go.Fm
set_option maxRecDepth 100000
/-- 1 of what is in the list. -/
def mm (l : List Nat) (x : Nat) : Nat := if x ∈ l then 1 else 0
theorem mm_snoc (l : List Nat) (e x : Nat) : mm (l ++ [e]) x = if x = e then 1 else mm l x := by
  unfold mm
  by_cases h : x = e
  · subst h; simp
  · simp [h]
theorem mem_exU {a : List Nat} {x : Nat} : ∀ {d : Nat}, d ≤ a.length → (x ∈ exU a a.length d ↔ a.length ≤ x + d ∧ x < a.length ∧ cf a x ≠ 0)
  | 0, _ => by
    unfold exU
    simp
    omega
  | d + 1, hd => by
    have ih := mem_exU (a := a) (x := x) (d := d) (by omega)
    unfold exU
    split
    · rename_i h0
      rw [ih]
      constructor
      · rintro ⟨h1, h2, h3⟩; exact ⟨by omega, h2, h3⟩
      · rintro ⟨h1, h2, h3⟩
        refine ⟨?_, h2, h3⟩
        by_cases he : x = a.length - 1 - d
        · subst he; exact absurd h0 h3
        · omega
    · rename_i h0
      rw [List.mem_append, ih, List.mem_singleton]
      constructor
      · rintro (⟨h1, h2, h3⟩ | rfl)
        · exact ⟨by omega, h2, h3⟩
        · exact ⟨by omega, by omega, h0⟩
      · rintro ⟨h1, h2, h3⟩
        by_cases he : x = a.length - 1 - d
        · exact .inr he
        · exact .inl ⟨by omega, h2, h3⟩
theorem mm_exL {a : List Nat} (ha : B1 a) (x : Nat) : mm (exL a) x = cf a x := by
  unfold mm exL
  have h := mem_exU (a := a) (x := x) (Nat.le_refl _)
  have h2 := ha.le x
  by_cases hx : x < a.length
  · by_cases h0 : cf a x = 0
    · rw [if_neg (fun hm => (h.1 hm).2.2 h0), h0]
    · rw [if_pos (h.2 ⟨by omega, hx, h0⟩)]; omega
  · rw [if_neg (fun hm => hx (h.1 hm).2.1), cf_out (by omega)]
/-- The places, n up, or n down. -/
def shB : Bool → Nat → List Nat → Nat → Nat
  | true, n, l, j => if n ≤ j then mm l (j - n) else 0
  | false, n, l, j => mm l (j + n)
/-- What the shift's loop keeps: up, or down. -/
structure ShG (p : List Nat) (up : Bool) (n N : Nat) (z : Nat × List Nat) : Prop where
  le : z.1 ≤ (exL (bl p)).length
  len : z.2.length = N
  lt : ∀ x ∈ z.2, x < 256
  bit : ∀ j, bitN z.2 j = shB up n ((exL (bl p)).take z.1) j
theorem ShG.start (p : List Nat) (up : Bool) (n N : Nat) : ShG p up n N (0, List.replicate N 0) := ⟨Nat.zero_le _, by simp, zeros_lt N, fun j => by
  simp only [List.take_zero]
  rw [zeros_bit]
  cases up
  · exact (show mm [] (j + n) = 0 by simp [mm]).symm
  · exact (show (if n ≤ j then mm [] (j - n) else 0) = 0 by simp [mm]).symm⟩
theorem ShG.nextU {p L : List Nat} {n N i : Nat} (h : ShG p true n N (i, L)) (hi : i < (exL (bl p)).length) (hN : (cf (exL (bl p)) i + n) / 8 < N) : ShG p true n N (i + 1, L.set ((cf (exL (bl p)) i + n) / 8) (cf L ((cf (exL (bl p)) i + n) / 8) ||| 2 ^ ((cf (exL (bl p)) i + n) % 8))) := by
  obtain ⟨h1, h2, h3, h4⟩ := h
  simp only at h1 h2 h3 h4
  refine ⟨hi, by simp only; rw [List.length_set, h2], set_lt h3 (or8 (cf_lt8 h3 _) (Nat.mod_lt _ (by omega))), fun j => ?_⟩
  simp only
  rw [bitN_or (by omega), h4, take_cf hi]
  show (if j = cf (exL (bl p)) i + n then 1 else if n ≤ j then mm ((exL (bl p)).take i) (j - n) else 0) = if n ≤ j then mm ((exL (bl p)).take i ++ [cf (exL (bl p)) i]) (j - n) else 0
  rw [mm_snoc]
  by_cases hj : j = cf (exL (bl p)) i + n
  · rw [if_pos hj, if_pos (by omega), if_pos (by omega)]
  · rw [if_neg hj]
    by_cases hn : n ≤ j
    · rw [if_pos hn, if_pos hn, if_neg (by omega)]
    · rw [if_neg hn, if_neg hn]
theorem ShG.nextD {p L : List Nat} {n N i : Nat} (h : ShG p false n N (i, L)) (hi : i < (exL (bl p)).length) (hk : n ≤ cf (exL (bl p)) i) (hN : (cf (exL (bl p)) i - n) / 8 < N) : ShG p false n N (i + 1, L.set ((cf (exL (bl p)) i - n) / 8) (cf L ((cf (exL (bl p)) i - n) / 8) ||| 2 ^ ((cf (exL (bl p)) i - n) % 8))) := by
  obtain ⟨h1, h2, h3, h4⟩ := h
  simp only at h1 h2 h3 h4
  refine ⟨hi, by simp only; rw [List.length_set, h2], set_lt h3 (or8 (cf_lt8 h3 _) (Nat.mod_lt _ (by omega))), fun j => ?_⟩
  simp only
  rw [bitN_or (by omega), h4, take_cf hi]
  show (if j = cf (exL (bl p)) i - n then 1 else mm ((exL (bl p)).take i) (j + n)) = mm ((exL (bl p)).take i ++ [cf (exL (bl p)) i]) (j + n)
  rw [mm_snoc]
  by_cases hj : j = cf (exL (bl p)) i - n
  · rw [if_pos hj, if_pos (by omega)]
  · rw [if_neg hj, if_neg (by omega)]
theorem ShG.skipD {p L : List Nat} {n N i : Nat} (h : ShG p false n N (i, L)) (hi : i < (exL (bl p)).length) (hk : cf (exL (bl p)) i < n) : ShG p false n N (i + 1, L) := by
  obtain ⟨h1, h2, h3, h4⟩ := h
  simp only at h1 h2 h3 h4
  refine ⟨hi, h2, h3, fun j => ?_⟩
  simp only
  rw [h4, take_cf hi]
  show mm ((exL (bl p)).take i) (j + n) = mm ((exL (bl p)).take i ++ [cf (exL (bl p)) i]) (j + n)
  rw [mm_snoc, if_neg (by omega)]
theorem ShG.doneU {p L : List Nat} {n N : Nat} (h : ShG p true n N ((exL (bl p)).length, L)) : trim L = bys (upP n (bl p)) := bys_of h.lt (upP_b1 (bl_b1 p) n) (fun j => by
  rw [h.bit]
  simp only
  rw [List.take_length, cf_upP]
  show (if n ≤ j then mm (exL (bl p)) (j - n) else 0) = _
  split
  · exact mm_exL (bl_b1 p) _
  · rfl)
theorem ShG.doneD {p L : List Nat} {n N : Nat} (h : ShG p false n N ((exL (bl p)).length, L)) : trim L = bys (dnP n (bl p)) := bys_of h.lt (dnP_b1 (bl_b1 p) n) (fun j => by
  rw [h.bit]
  simp only
  rw [List.take_length, cf_dnP]
  exact mm_exL (bl_b1 p) _)
theorem upP_nil (n : Nat) : upP n [] = [] := (upP_b1 nil_b1 n).tr.nil_of (fun j => by rw [cf_upP, cf_nil]; split <;> rfl)
theorem dnP_outB {a : List Nat} (ha : B1 a) {n : Nat} (h : a.length ≤ n) : dnP n a = [] := (dnP_b1 ha n).tr.nil_of (fun j => by rw [cf_dnP]; exact cf_out (by omega))
theorem addn (a b : Nat) (h : a + b ≤ 9223372036854775807) : IntKind.i64.wrap (((a : Nat) : Int) + (b : Nat)) = ((a + b : Nat) : Int) := by
  rw [← Int.natCast_add]
  exact w64 (by omega)
theorem subn {a b : Nat} (h : b ≤ a) (h2 : a ≤ 9223372036854775807) : IntKind.i64.wrap (((a : Nat) : Int) + -((b : Nat) : Int)) = ((a - b : Nat) : Int) := by
  rw [show ((a : Nat) : Int) + -((b : Nat) : Int) = ((a - b : Nat) : Int) by omega]
  exact w64 (by omega)

theorem bshu_spec (A : Option Addr) (n c : Nat) (p : List Nat) (sh : Nat) (w : World) (ha : Has (sl 1 A n (nats .u8 p)) w) (hp : ∀ x ∈ p, x < 256) (hn : n ≤ 1073741824) (hcp : n ≤ c) (hnl : sh + (bl p).length ≤ 4097) : SpecBE Tryd.prog 45 [.slice A n c, .int .i64 (sh : Nat)] w (bys (upP sh (bl p))) := by
  have hla := nats_len ha
  subst hla
  have hbl := bl_len p
  refine spec_of Tryd.func45 rfl Tryd.ntmps45 rfl ?_
  refine CW.seq ?_
  refine CW.reg [0, 1] rfl ?_
  refine s_as 4 rfl rfl ?_
  refine s_as 5 rfl rfl ?_
  refine SX.next ?_
  refine CW.seq ?_
  refine CW.reg [0, 1, 2] rfl ?_
  refine s_mv 10 rfl rfl ?_
  refine s_call1 11 rfl rfl rfl rfl (fun w hw => bdeg_spec A p.length c p w (hw.old ha) hp hn hcp) (fun _ _ => trivial) ?_
  refine s_as 6 rfl rfl ?_
  refine SX.next ?_
  refine CW.seq ?_
  refine CW.block ?_
  refine CW.seq ?_
  refine CW.reg [0, 1, 2, 3, 4, 5, 6, 7, 8] rfl ?_
  refine s_mv 13 rfl rfl ?_
  refine s_lt 14 rfl rfl rfl rfl ?_
  refine s_mv 15 rfl rfl ?_
  refine SX.bool 15 rfl (fun hb => ?_) (fun hb => ?_)
  · skip
    replace hb := of_decide_eq_true hb
    have hz : (bys (upP sh (bl p))) = [] := by rw [List.eq_nil_of_length_eq_zero (show (bl p).length = 0 by omega)]; rw [upP_nil]; rfl
    refine SX.skip rfl ?_
    refine SX.skip rfl ?_
    refine SX.skip rfl ?_
    refine SX.skip rfl ?_
    refine s_pickT 20 rfl rfl rfl ?_
    refine s_as 12 rfl rfl ?_
    refine SX.next ?_
    refine CW.condT rfl ?_
    refine CW.seq ?_
    refine CW.reg [0, 1] rfl ?_
    refine s_as 4 rfl rfl ?_
    refine s_as 5 rfl rfl ?_
    refine SX.next ?_
    refine CW.ret ?_
    exact KN.ret (rs := [.tmp 4, .tmp 5]) Tryd.results45 rfl (fun w hw => ⟨(none, 0), by rw [hz]; rfl, by rw [hz]; exact Nat.le_refl _, by rw [hz]; exact hw.dropR.begin_ _ 1⟩)
  · skip
    replace hb := of_decide_eq_false hb
    refine s_mv 16 rfl rfl ?_
    refine s_mv 17 rfl rfl ?_
    refine s_neg 18 rfl rfl (r := 1 - ((bl p).length : Nat)) (by rw [show (0 : Int) - (((bl p).length : Nat) - 1) = 1 - ((bl p).length : Nat) by omega]; exact w64 (by omega)) ?_
    refine s_lt 19 rfl rfl rfl rfl ?_
    refine s_pickF 20 rfl rfl rfl ?_
    refine s_as 12 rfl rfl ?_
    refine SX.next ?_
    refine CW.test rfl (fun hc2 => ?_) (fun hc2 => ?_)
    · skip
      have hz : (bys (upP sh (bl p))) = [] := by omega
      refine CW.seq ?_
      refine CW.reg [0, 1] rfl ?_
      refine s_as 4 rfl rfl ?_
      refine s_as 5 rfl rfl ?_
      refine SX.next ?_
      refine CW.ret ?_
      exact KN.ret (rs := [.tmp 4, .tmp 5]) Tryd.results45 rfl (fun w hw => ⟨(none, 0), by rw [hz]; rfl, by rw [hz]; exact Nat.le_refl _, by rw [hz]; exact hw.dropR.begin_ _ 1⟩)
    · skip
      refine CW.seq ?_
      refine CW.reg [0, 1, 2, 3, 4] rfl ?_
      refine s_mv 22 rfl rfl ?_
      refine s_mv 23 rfl rfl ?_
      refine s_sub 24 rfl rfl rfl (r := 4097 - ((bl p).length : Nat)) (by rw [show (4096 : Int) - (((bl p).length : Nat) - 1) = 4097 - ((bl p).length : Nat) by omega]; exact w64 (by omega)) ?_
      refine s_gt 25 rfl rfl rfl (decide_eq_false (by omega)) ?_
      refine s_as 21 rfl rfl ?_
      refine SX.next ?_
      refine CW.condF rfl ?_
      refine CW.skip ?_
      refine KN.blk ?_
      refine KN.code ?_
      refine CW.seq ?_
      refine CW.reg [0, 1, 2, 3, 4, 5, 6] rfl ?_
      refine s_mv 27 rfl rfl ?_
      refine s_mv 28 rfl rfl ?_
      refine s_add 29 rfl rfl rfl (r := (((bl p).length - 1 + sh : Nat) : Int)) (by rw [show ((bl p).length : Int) - 1 + (sh : Nat) = (((bl p).length - 1 + sh : Nat) : Int) by omega]; exact w64 (by omega)) ?_
      refine s_quo 30 rfl rfl rfl (by omega) (quo8 _ (by omega)) ?_
      refine s_add 31 rfl rfl rfl (r := (((((bl p).length - 1 + sh) / 8 + 1) : Nat) : Int)) (w64 (by omega)) ?_
      refine s_make 32 (((bl p).length - 1 + sh) / 8 + 1) rfl rfl rfl rfl rfl (by omega) (fun _ _ => trivial) (fun go => ?_)
      refine s_as 7 rfl rfl ?_
      refine SX.next ?_
      refine CW.seq ?_
      refine CW.seq ?_
      refine CW.reg [0, 1, 2, 3] rfl ?_
      refine s_mv 33 rfl rfl ?_
      refine s_call 34 rfl rfl rfl rfl (fun w hw => bexp_spec A p.length c p w (hw.old ha) hp hn hcp) (fun _ _ => trivial) (fun q3 hq3 => ?_)
      refine SX.pre (C' := Sto w [own 5 1 (some ⟨go, 0, none⟩) (((bl p).length - 1 + sh) / 8 + 1) (((bl p).length - 1 + sh) / 8 + 1) (nats .u8 (List.replicate (((bl p).length - 1 + sh) / 8 + 1) 0)), own 3 1 q3.1 (exL (bl p)).length q3.2 (nats .i64 (exL (bl p)))]) (fun _ h => by
        have := h.blkOwnM (q := 1) (m := (((bl p).length - 1 + sh) / 8 + 1)) (c := (((bl p).length - 1 + sh) / 8 + 1)) (sz := 1) rfl (by simp) (Nat.le_refl _) (by unfold maxLen; omega)
        rw [zeros8] at this
        exact this.pick [1, 0] rfl) ?_
      refine s_len 35 rfl rfl ?_
      refine s_mv 36 rfl rfl ?_
      refine SX.next ?_
      refine CW.block ?_
      refine CW.loop (G := Nat × List Nat) (fun z => [(1, .int .i64 (sh : Nat)), (7, .slice (some ⟨go, 0, none⟩) (((bl p).length - 1 + sh) / 8 + 1) (((bl p).length - 1 + sh) / 8 + 1)), (34, .slice q3.1 (exL (bl p)).length q3.2), (35, .int .i64 ((exL (bl p)).length : Nat)), (36, .int .i64 (z.1 : Nat))]) (fun z => Sto w [own 5 1 (some ⟨go, 0, none⟩) (((bl p).length - 1 + sh) / 8 + 1) (((bl p).length - 1 + sh) / 8 + 1) (nats .u8 z.2), own 3 1 q3.1 (exL (bl p)).length q3.2 (nats .i64 (exL (bl p)))]) (ShG p true sh (((bl p).length - 1 + sh) / 8 + 1)) (fun z => (exL (bl p)).length - z.1) (0, List.replicate (((bl p).length - 1 + sh) / 8 + 1) 0) ⟨rfl, rfl, rfl, rfl, rfl, trivial⟩ (fun _ h => h) (ShG.start p true sh _) ?_
      rintro ⟨i, L⟩ hz2
      have hle := hz2.le
      have hlen := hz2.len
      have hlt := hz2.lt
      simp only at hle hlen hlt
      dsimp only
      have hexl : (exL (bl p)).length ≤ (bl p).length := exU_len (bl p) (bl p).length (bl p).length
      refine CW.seq ?_
      refine CW.reg [0] rfl ?_
      refine s_lt 37 rfl rfl rfl rfl ?_
      refine SX.next ?_
      refine CW.seq ?_
      refine CW.test rfl (fun hc => ?_) (fun hc => ?_)
      · skip
        have hi : i < (exL (bl p)).length := by omega
        have hcl : cf (exL (bl p)) i < (bl p).length := exU_lt (by omega) (cf_mem hi)
        refine CW.skip ?_
        refine KN.code ?_
        refine CW.seq ?_
        refine CW.block ?_
        refine CW.seq ?_
        refine CW.reg [0, 1, 2] rfl ?_
        refine s_iaO 38 1 i rfl rfl rfl rfl rfl (by omega) ?_
        refine s_ldO 39 1 rfl rfl rfl (natsAtC hi) ?_
        refine s_as 9 rfl rfl ?_
        refine SX.next ?_
        refine CW.seq ?_
        refine CW.reg [0, 1, 2, 3] rfl ?_
        refine s_mv 40 rfl rfl ?_
        refine s_mv 41 rfl rfl ?_
        refine s_add 42 rfl rfl rfl (r := (((cf (exL (bl p)) i + sh) : Nat) : Int)) (addn _ _ (by omega)) ?_
        refine s_ge 43 rfl rfl rfl (decide_eq_true (by omega)) ?_
        refine SX.next ?_
        refine CW.condT rfl ?_
        refine CW.regD (.st true 0 (.st true 1 (.st true 2 (.st true 3 (.st true 4 (.st true 5 (.st true 7 (.st true 8 (.st true 9 (.st true 10 (.st true 11 (.st false 6 (.st true 12 (.st true 13 (.st false 14 .done))))))))))))))) (Sto w []) mixed (by kernel_rfl) (fun _ h => h.drew) (fun _ h => h.dropR) ?_
        refine s_mv 44 rfl rfl ?_
        refine s_mv 45 rfl rfl ?_
        refine s_mv 46 rfl rfl ?_
        refine s_add 47 rfl rfl rfl (r := (((cf (exL (bl p)) i + sh) : Nat) : Int)) (addn _ _ (by omega)) ?_
        refine s_quo 48 rfl rfl rfl (by omega) (quo8 _ (by omega)) ?_
        refine s_iaO 49 0 ((cf (exL (bl p)) i + sh) / 8) rfl rfl rfl rfl rfl (by omega) ?_
        refine s_mv 51 rfl rfl ?_
        refine s_mv 52 rfl rfl ?_
        refine s_add 53 rfl rfl rfl (r := (((cf (exL (bl p)) i + sh) : Nat) : Int)) (addn _ _ (by omega)) ?_
        refine s_rem 54 rfl rfl rfl (by omega) (tmod8 _) ?_
        refine s_shl 55 rfl rfl rfl (by omega) (r := ((2 ^ ((cf (exL (bl p)) i + sh) % 8) : Nat) : Int)) (by rw [show (1 : Int) = ((1 : Nat) : Int) from rfl, shl_u8 (by omega), Nat.one_mul, Nat.mod_eq_of_lt (Nat.pow_lt_pow_right (n := 8) (by omega) (Nat.mod_lt _ (by omega)))]) ?_
        refine s_ldO 50 0 rfl rfl rfl (natsAt8 (by omega)) ?_
        refine s_bit 56 rfl rfl rfl rfl (ibit_or_u8 (cf_lt8 hlt _) (Nat.pow_lt_pow_right (n := 8) (by omega) (Nat.mod_lt _ (by omega)))) ?_
        refine s_iaO 57 0 ((cf (exL (bl p)) i + sh) / 8) rfl rfl rfl rfl rfl (by omega) ?_
        refine s_stO 0 rfl rfl rfl rfl rfl (by omega) (fun _ h => h.dropR) ?_
        refine SX.end_ ?_
        refine KN.blk ?_
        refine KN.code ?_
        refine CW.reg [0, 1] rfl ?_
        refine s_add 58 rfl rfl rfl (r := ((i + 1 : Nat) : Int)) (w64 (by omega)) ?_
        refine s_mv 36 rfl rfl ?_
        refine SX.end_ ?_
        exact KN.back (i + 1, (L.set ((cf (exL (bl p)) i + sh) / 8) (cf L ((cf (exL (bl p)) i + sh) / 8) ||| 2 ^ ((cf (exL (bl p)) i + sh) % 8)))) ⟨rfl, rfl, rfl, rfl, rfl, trivial⟩ (fun _ h => by simp only; rw [← nats_set]; exact h) (hz2.nextU hi (by omega)) (by simp only; omega)
      · skip
        obtain rfl : i = (exL (bl p)).length := by omega
        have hdn := hz2.doneU
        refine CW.exit rfl ?_
        refine KN.code ?_
        refine CW.seq ?_
        refine CW.reg [0, 1, 2, 3] rfl ?_
        refine s_mv 59 rfl rfl ?_
        refine s_call 60 rfl rfl rfl rfl (fun w hw => by have := trimmed_spec (some ⟨go, 0, none⟩) (((bl p).length - 1 + sh) / 8 + 1) (((bl p).length - 1 + sh) / 8 + 1) L w ((hw.has (i := 0) rfl).of_own) hlt (by omega) (Nat.le_refl _); rw [hdn] at this; exact this) (fun _ _ => trivial) (fun q4 hq4 => ?_)
        refine s_as 4 rfl rfl ?_
        refine s_as 5 rfl rfl ?_
        refine SX.next ?_
        refine CW.ret ?_
        exact KN.ret (rs := [.tmp 4, .tmp 5]) Tryd.results45 rfl (fun w hw => ⟨q4, rfl, hq4, hw.pick [0] rfl⟩)

theorem bshd_spec (A : Option Addr) (n c : Nat) (p : List Nat) (sh : Nat) (w : World) (ha : Has (sl 1 A n (nats .u8 p)) w) (hp : ∀ x ∈ p, x < 256) (hn : n ≤ 1073741824) (hcp : n ≤ c) (hnl : sh ≤ 1000000) (hbl4 : (bl p).length ≤ 4097) : SpecBE Tryd.prog 45 [.slice A n c, .int .i64 (-((sh : Nat) : Int))] w (bys (dnP sh (bl p))) := by
  have hla := nats_len ha
  subst hla
  have hbl := bl_len p
  refine spec_of Tryd.func45 rfl Tryd.ntmps45 rfl ?_
  refine CW.seq ?_
  refine CW.reg [0, 1] rfl ?_
  refine s_as 4 rfl rfl ?_
  refine s_as 5 rfl rfl ?_
  refine SX.next ?_
  refine CW.seq ?_
  refine CW.reg [0, 1, 2] rfl ?_
  refine s_mv 10 rfl rfl ?_
  refine s_call1 11 rfl rfl rfl rfl (fun w hw => bdeg_spec A p.length c p w (hw.old ha) hp hn hcp) (fun _ _ => trivial) ?_
  refine s_as 6 rfl rfl ?_
  refine SX.next ?_
  refine CW.seq ?_
  refine CW.block ?_
  refine CW.seq ?_
  refine CW.reg [0, 1, 2, 3, 4, 5, 6, 7, 8] rfl ?_
  refine s_mv 13 rfl rfl ?_
  refine s_lt 14 rfl rfl rfl rfl ?_
  refine s_mv 15 rfl rfl ?_
  refine SX.bool 15 rfl (fun hb => ?_) (fun hb => ?_)
  · skip
    replace hb := of_decide_eq_true hb
    have hz : (bys (dnP sh (bl p))) = [] := by rw [List.eq_nil_of_length_eq_zero (show (bl p).length = 0 by omega)]; rw [dnP_outB nil_b1 (Nat.zero_le _)]; rfl
    refine SX.skip rfl ?_
    refine SX.skip rfl ?_
    refine SX.skip rfl ?_
    refine SX.skip rfl ?_
    refine s_pickT 20 rfl rfl rfl ?_
    refine s_as 12 rfl rfl ?_
    refine SX.next ?_
    refine CW.condT rfl ?_
    refine CW.seq ?_
    refine CW.reg [0, 1] rfl ?_
    refine s_as 4 rfl rfl ?_
    refine s_as 5 rfl rfl ?_
    refine SX.next ?_
    refine CW.ret ?_
    exact KN.ret (rs := [.tmp 4, .tmp 5]) Tryd.results45 rfl (fun w hw => ⟨(none, 0), by rw [hz]; rfl, by rw [hz]; exact Nat.le_refl _, by rw [hz]; exact hw.dropR.begin_ _ 1⟩)
  · skip
    replace hb := of_decide_eq_false hb
    refine s_mv 16 rfl rfl ?_
    refine s_mv 17 rfl rfl ?_
    refine s_neg 18 rfl rfl (r := 1 - ((bl p).length : Nat)) (by rw [show (0 : Int) - (((bl p).length : Nat) - 1) = 1 - ((bl p).length : Nat) by omega]; exact w64 (by omega)) ?_
    refine s_lt 19 rfl rfl rfl rfl ?_
    refine s_pickF 20 rfl rfl rfl ?_
    refine s_as 12 rfl rfl ?_
    refine SX.next ?_
    refine CW.test rfl (fun hc2 => ?_) (fun hc2 => ?_)
    · skip
      have hz : (bys (dnP sh (bl p))) = [] := by rw [dnP_outB (bl_b1 p) (by omega)]; rfl
      refine CW.seq ?_
      refine CW.reg [0, 1] rfl ?_
      refine s_as 4 rfl rfl ?_
      refine s_as 5 rfl rfl ?_
      refine SX.next ?_
      refine CW.ret ?_
      exact KN.ret (rs := [.tmp 4, .tmp 5]) Tryd.results45 rfl (fun w hw => ⟨(none, 0), by rw [hz]; rfl, by rw [hz]; exact Nat.le_refl _, by rw [hz]; exact hw.dropR.begin_ _ 1⟩)
    · skip
      refine CW.seq ?_
      refine CW.reg [0, 1, 2, 3, 4] rfl ?_
      refine s_mv 22 rfl rfl ?_
      refine s_mv 23 rfl rfl ?_
      refine s_sub 24 rfl rfl rfl (r := 4097 - ((bl p).length : Nat)) (by rw [show (4096 : Int) - (((bl p).length : Nat) - 1) = 4097 - ((bl p).length : Nat) by omega]; exact w64 (by omega)) ?_
      refine s_gt 25 rfl rfl rfl (decide_eq_false (by omega)) ?_
      refine s_as 21 rfl rfl ?_
      refine SX.next ?_
      refine CW.condF rfl ?_
      refine CW.skip ?_
      refine KN.blk ?_
      refine KN.code ?_
      refine CW.seq ?_
      refine CW.reg [0, 1, 2, 3, 4, 5, 6] rfl ?_
      refine s_mv 27 rfl rfl ?_
      refine s_mv 28 rfl rfl ?_
      refine s_add 29 rfl rfl rfl (r := (((bl p).length - 1 - sh : Nat) : Int)) (by rw [show ((bl p).length : Int) - 1 + -((sh : Nat) : Int) = (((bl p).length - 1 - sh : Nat) : Int) by omega]; exact w64 (by omega)) ?_
      refine s_quo 30 rfl rfl rfl (by omega) (quo8 _ (by omega)) ?_
      refine s_add 31 rfl rfl rfl (r := (((((bl p).length - 1 - sh) / 8 + 1) : Nat) : Int)) (w64 (by omega)) ?_
      refine s_make 32 (((bl p).length - 1 - sh) / 8 + 1) rfl rfl rfl rfl rfl (by omega) (fun _ _ => trivial) (fun go => ?_)
      refine s_as 7 rfl rfl ?_
      refine SX.next ?_
      refine CW.seq ?_
      refine CW.seq ?_
      refine CW.reg [0, 1, 2, 3] rfl ?_
      refine s_mv 33 rfl rfl ?_
      refine s_call 34 rfl rfl rfl rfl (fun w hw => bexp_spec A p.length c p w (hw.old ha) hp hn hcp) (fun _ _ => trivial) (fun q3 hq3 => ?_)
      refine SX.pre (C' := Sto w [own 5 1 (some ⟨go, 0, none⟩) (((bl p).length - 1 - sh) / 8 + 1) (((bl p).length - 1 - sh) / 8 + 1) (nats .u8 (List.replicate (((bl p).length - 1 - sh) / 8 + 1) 0)), own 3 1 q3.1 (exL (bl p)).length q3.2 (nats .i64 (exL (bl p)))]) (fun _ h => by
        have := h.blkOwnM (q := 1) (m := (((bl p).length - 1 - sh) / 8 + 1)) (c := (((bl p).length - 1 - sh) / 8 + 1)) (sz := 1) rfl (by simp) (Nat.le_refl _) (by unfold maxLen; omega)
        rw [zeros8] at this
        exact this.pick [1, 0] rfl) ?_
      refine s_len 35 rfl rfl ?_
      refine s_mv 36 rfl rfl ?_
      refine SX.next ?_
      refine CW.block ?_
      refine CW.loop (G := Nat × List Nat) (fun z => [(1, .int .i64 (-((sh : Nat) : Int))), (7, .slice (some ⟨go, 0, none⟩) (((bl p).length - 1 - sh) / 8 + 1) (((bl p).length - 1 - sh) / 8 + 1)), (34, .slice q3.1 (exL (bl p)).length q3.2), (35, .int .i64 ((exL (bl p)).length : Nat)), (36, .int .i64 (z.1 : Nat))]) (fun z => Sto w [own 5 1 (some ⟨go, 0, none⟩) (((bl p).length - 1 - sh) / 8 + 1) (((bl p).length - 1 - sh) / 8 + 1) (nats .u8 z.2), own 3 1 q3.1 (exL (bl p)).length q3.2 (nats .i64 (exL (bl p)))]) (ShG p false sh (((bl p).length - 1 - sh) / 8 + 1)) (fun z => (exL (bl p)).length - z.1) (0, List.replicate (((bl p).length - 1 - sh) / 8 + 1) 0) ⟨rfl, rfl, rfl, rfl, rfl, trivial⟩ (fun _ h => h) (ShG.start p false sh _) ?_
      rintro ⟨i, L⟩ hz2
      have hle := hz2.le
      have hlen := hz2.len
      have hlt := hz2.lt
      simp only at hle hlen hlt
      dsimp only
      have hexl : (exL (bl p)).length ≤ (bl p).length := exU_len (bl p) (bl p).length (bl p).length
      refine CW.seq ?_
      refine CW.reg [0] rfl ?_
      refine s_lt 37 rfl rfl rfl rfl ?_
      refine SX.next ?_
      refine CW.seq ?_
      refine CW.test rfl (fun hc => ?_) (fun hc => ?_)
      · skip
        have hi : i < (exL (bl p)).length := by omega
        have hcl : cf (exL (bl p)) i < (bl p).length := exU_lt (by omega) (cf_mem hi)
        refine CW.skip ?_
        refine KN.code ?_
        refine CW.seq ?_
        refine CW.block ?_
        refine CW.seq ?_
        refine CW.reg [0, 1, 2] rfl ?_
        refine s_iaO 38 1 i rfl rfl rfl rfl rfl (by omega) ?_
        refine s_ldO 39 1 rfl rfl rfl (natsAtC hi) ?_
        refine s_as 9 rfl rfl ?_
        refine SX.next ?_
        refine CW.seq ?_
        refine CW.reg [0, 1, 2, 3] rfl ?_
        refine s_mv 40 rfl rfl ?_
        refine s_mv 41 rfl rfl ?_
        refine s_add 42 rfl rfl rfl (r := (cf (exL (bl p)) i : Nat) + -((sh : Nat) : Int)) (w64 (by omega)) ?_
        refine s_ge 43 rfl rfl rfl rfl ?_
        refine SX.next ?_
        refine CW.test rfl (fun hc => ?_) (fun hc => ?_)
        · skip
          have hk : sh ≤ cf (exL (bl p)) i := by omega
          refine CW.regD (.st true 0 (.st true 1 (.st true 2 (.st true 3 (.st true 4 (.st true 5 (.st true 7 (.st true 8 (.st true 9 (.st true 10 (.st true 11 (.st false 6 (.st true 12 (.st true 13 (.st false 14 .done))))))))))))))) (Sto w []) mixed (by kernel_rfl) (fun _ h => h.drew) (fun _ h => h.dropR) ?_
          refine s_mv 44 rfl rfl ?_
          refine s_mv 45 rfl rfl ?_
          refine s_mv 46 rfl rfl ?_
          refine s_add 47 rfl rfl rfl (r := (((cf (exL (bl p)) i - sh) : Nat) : Int)) (subn hk (by omega)) ?_
          refine s_quo 48 rfl rfl rfl (by omega) (quo8 _ (by omega)) ?_
          refine s_iaO 49 0 ((cf (exL (bl p)) i - sh) / 8) rfl rfl rfl rfl rfl (by omega) ?_
          refine s_mv 51 rfl rfl ?_
          refine s_mv 52 rfl rfl ?_
          refine s_add 53 rfl rfl rfl (r := (((cf (exL (bl p)) i - sh) : Nat) : Int)) (subn hk (by omega)) ?_
          refine s_rem 54 rfl rfl rfl (by omega) (tmod8 _) ?_
          refine s_shl 55 rfl rfl rfl (by omega) (r := ((2 ^ ((cf (exL (bl p)) i - sh) % 8) : Nat) : Int)) (by rw [show (1 : Int) = ((1 : Nat) : Int) from rfl, shl_u8 (by omega), Nat.one_mul, Nat.mod_eq_of_lt (Nat.pow_lt_pow_right (n := 8) (by omega) (Nat.mod_lt _ (by omega)))]) ?_
          refine s_ldO 50 0 rfl rfl rfl (natsAt8 (by omega)) ?_
          refine s_bit 56 rfl rfl rfl rfl (ibit_or_u8 (cf_lt8 hlt _) (Nat.pow_lt_pow_right (n := 8) (by omega) (Nat.mod_lt _ (by omega)))) ?_
          refine s_iaO 57 0 ((cf (exL (bl p)) i - sh) / 8) rfl rfl rfl rfl rfl (by omega) ?_
          refine s_stO 0 rfl rfl rfl rfl rfl (by omega) (fun _ h => h.dropR) ?_
          refine SX.end_ ?_
          refine KN.blk ?_
          refine KN.code ?_
          refine CW.reg [0, 1] rfl ?_
          refine s_add 58 rfl rfl rfl (r := ((i + 1 : Nat) : Int)) (w64 (by omega)) ?_
          refine s_mv 36 rfl rfl ?_
          refine SX.end_ ?_
          exact KN.back (i + 1, (L.set ((cf (exL (bl p)) i - sh) / 8) (cf L ((cf (exL (bl p)) i - sh) / 8) ||| 2 ^ ((cf (exL (bl p)) i - sh) % 8)))) ⟨rfl, rfl, rfl, rfl, rfl, trivial⟩ (fun _ h => by simp only; rw [← nats_set]; exact h) (hz2.nextD hi hk (by omega)) (by simp only; omega)
        · skip
          have hk : cf (exL (bl p)) i < (sh) := by omega
          refine CW.skip ?_
          refine KN.blk ?_
          refine KN.code ?_
          refine CW.reg [0, 1] rfl ?_
          refine s_add 58 rfl rfl rfl (r := ((i + 1 : Nat) : Int)) (w64 (by omega)) ?_
          refine s_mv 36 rfl rfl ?_
          refine SX.end_ ?_
          exact KN.back (i + 1, L) ⟨rfl, rfl, rfl, rfl, rfl, trivial⟩ (fun _ h => h) (hz2.skipD hi hk) (by simp only; omega)
      · skip
        obtain rfl : i = (exL (bl p)).length := by omega
        have hdn := hz2.doneD
        refine CW.exit rfl ?_
        refine KN.code ?_
        refine CW.seq ?_
        refine CW.reg [0, 1, 2, 3] rfl ?_
        refine s_mv 59 rfl rfl ?_
        refine s_call 60 rfl rfl rfl rfl (fun w hw => by have := trimmed_spec (some ⟨go, 0, none⟩) (((bl p).length - 1 - sh) / 8 + 1) (((bl p).length - 1 - sh) / 8 + 1) L w ((hw.has (i := 0) rfl).of_own) hlt (by omega) (Nat.le_refl _); rw [hdn] at this; exact this) (fun _ _ => trivial) (fun q4 hq4 => ?_)
        refine s_as 4 rfl rfl ?_
        refine s_as 5 rfl rfl ?_
        refine SX.next ?_
        refine CW.ret ?_
        exact KN.ret (rs := [.tmp 4, .tmp 5]) Tryd.results45 rfl (fun w hw => ⟨q4, rfl, hq4, hw.pick [0] rfl⟩)
end Go.Proofs.YtcdmmfpgeagimaaDoor
end
section
/- The statement BinDivides, walked. No condition but the errors' variables. -/
namespace Go.Proofs.YtcdmmfpgeagimaaDoor
open Go Go.Lib Go.Sx Go.Fm
set_option maxRecDepth 100000
/-- The polynomial of a number. -/
def nb (x : Nat) : List Nat := pl (blen x) (fun j => (x >>> j) % 2)
theorem cf_nb (x j : Nat) : cf (nb x) j = (x >>> j) % 2 := by
  unfold nb
  rw [cf_pl]
  split
  · rfl
  · rw [Nat.shiftRight_eq_div_pow, Nat.div_eq_of_lt (Nat.lt_of_lt_of_le (blen_lt x) (Nat.pow_le_pow_right (by omega) (by omega)))]
theorem nb_b1 (x : Nat) : B1 (nb x) := ⟨pl_tr (fun j => Nat.lt_trans (Nat.mod_lt _ (by omega)) (show 2 < 2 ^ 3 by decide)), fun j => by rw [cf_nb]; exact Nat.mod_lt _ (by omega)⟩
theorem nb_len (x : Nat) : (nb x).length = blen x := by
  have h1 : (nb x).length ≤ blen x := pl_le _ _
  refine Nat.le_antisymm h1 (Nat.le_of_not_lt fun hlt => ?_)
  have h0 : x ≠ 0 := fun h => by subst h; exact absurd hlt (by show ¬ _ < 0; omega)
  have h2 := cf_nb x (blen x - 1)
  rw [cf_out (by omega), shr_two, blen_top h0] at h2
  cases h2
theorem nb_xor (x y : Nat) : nb (x ^^^ y) = addP (nb x) (nb y) := (nb_b1 _).tr.ext (addP_b1 (nb_b1 x) (nb_b1 y)).tr (fun j => by rw [cf_nb, cf_addP, cf_nb, cf_nb]; exact shr_xor _ _ _)
theorem nb_shl (x k : Nat) : nb (x * 2 ^ k) = upP k (nb x) := (nb_b1 _).tr.ext (upP_b1 (nb_b1 x) k).tr (fun j => by
  rw [cf_nb, cf_upP, shr_two, Nat.mul_comm, Nat.testBit_two_pow_mul]
  split
  · rename_i h
    rw [cf_nb, shr_two, decide_eq_true h, Bool.true_and]
  · rename_i h
    rw [decide_eq_false h]
    rfl)
theorem rmF_dvd {q : Nat} (hq : q ≠ 0) : ∀ {k r : Nat}, blen r < k → Dvd 3 (nb q) (nb r) → rmF q k r = 0
  | 0, _, h, _ => by omega
  | k + 1, r, h, hd => by
    unfold rmF
    split
    · rename_i hle
      refine rmF_dvd hq (by have := step_blen hq hle; omega) ?_
      rw [nb_xor, nb_shl]
      refine dvd_add ok3 (nb_b1 q).tr hd ?_
      rw [← mul_xP (nb_b1 q), mulP_comm ok3 (nb_b1 q).tr (xP_b1 _).tr]
      exact ⟨_, (xP_b1 _).tr, rfl⟩
    · rename_i hlt
      obtain ⟨c, hc, hcr⟩ := hd
      refine Classical.byContradiction fun hr => ?_
      have hbr := blen_pos hr
      have hbq := blen_pos hq
      have l1 := nb_len r
      have l2 := nb_len q
      have hc0 : c.length ≠ 0 := fun h0 => by
        rw [List.eq_nil_of_length_eq_zero h0, mulP_nil_l] at hcr
        rw [← hcr] at l1
        simp at l1
        omega
      have := mulP_len ok3 hc (nb_b1 q).tr hc0 (by omega)
      rw [hcr] at this
      omega
theorem fold_test (l : List Nat) (j : Nat) : ∀ z : Nat, (l.foldl (fun z e => z ||| 2 ^ e) z).testBit j = (z.testBit j || decide (j ∈ l)) := by
  induction l with
  | nil => intro z; simp
  | cons e l ih =>
    intro z
    rw [List.foldl_cons, ih, Nat.testBit_or, Nat.testBit_two_pow, Bool.or_assoc]
    congr 1
    by_cases h1 : e = j
    · subst h1; simp
    · by_cases h2 : j ∈ l
      · simp [h2]
      · simp [h2, h1, Ne.symm h1]
theorem nb_vP {a : List Nat} (ha : B1 a) : nb (vP (exL a)) = a := (nb_b1 _).tr.ext ha.tr (fun j => by
  rw [cf_nb, shr_two]
  unfold vP
  rw [fold_test, ← mm_exL ha]
  unfold mm
  by_cases h : j ∈ exL a
  · simp [h]
  · simp [h])
theorem irr_mul {f g : List Nat} (hf : B1 f) (hg : B1 g) (h1 : 2 ≤ f.length) (h2 : f.length ≤ g.length) : irrP (mulP 3 f g) = false := by
  have hl := mulP_len ok3 hf.tr hg.tr (by omega) (by omega)
  by_cases h3 : (mulP 3 f g).length ≤ 33
  · have e1 := nb_vP hf
    have e2 := nb_len (vP (exL f))
    rw [e1] at e2
    have h4 := blen_lt (vP (exL f))
    refine irrP_false (q := vP (exL f)) (Nat.lt_of_lt_of_le h4 (Nat.pow_le_pow_right (by omega) (by omega))) ?_ ?_
    · refine Nat.le_of_not_lt fun h => ?_
      have := blen_le (x := vP (exL f)) (k := 1) (by omega)
      omega
    · unfold rm
      refine rmF_dvd (fun h => ?_) (Nat.lt_succ_self _) ?_
      · rw [h] at e2
        have : blen 0 = 0 := rfl
        omega
      · rw [e1, nb_vP (mulP_b1 hf hg), mulP_comm ok3 hf.tr hg.tr]
        exact ⟨g, hg.tr, rfl⟩
  · exact irrP_none (by omega)
theorem irr_mul2 {f g : List Nat} (hf : B1 f) (hg : B1 g) (h1 : 2 ≤ f.length) (h2 : 2 ≤ g.length) : irrP (mulP 3 f g) = false := by
  rcases Nat.le_total f.length g.length with h | h
  · exact irr_mul hf hg h1 h
  · rw [mulP_comm ok3 hf.tr hg.tr]
    exact irr_mul hg hf h2 h
end Go.Proofs.YtcdmmfpgeagimaaDoor
end
section
/- Irreducible polynomials by x to the powers of two: no divisor up to half of the degree is left out, none is met in vain. No program. -/
namespace Go.Proofs.YtcdmmfpgeagimaaDoor
open Go Go.Sx Go.Fm Nb
namespace Fd
section
variable {K : Type} (F : Fd K)
/-- Squared so often. -/
def fr : Nat → K → K
  | 0, a => a
  | i + 1, a => F.mul (fr i a) (fr i a)
theorem pw_add (a : K) (k : Nat) : ∀ n, F.pw a (n + k) = F.mul (F.pw a n) (F.pw a k)
  | 0 => by rw [Nat.zero_add]; show _ = F.mul F.one _; rw [F.mul_comm, F.mul_one]
  | n + 1 => by
    rw [Nat.add_right_comm]
    show F.mul a (F.pw a (n + k)) = F.mul (F.mul a (F.pw a n)) (F.pw a k)
    rw [pw_add a k n, F.mul_assoc]
theorem fr_pw (a : K) : ∀ i, F.fr i a = F.pw a (2 ^ i)
  | 0 => (F.mul_one a).symm
  | i + 1 => by
    rw [Nat.pow_succ, Nat.mul_two, F.pw_add, ← fr_pw a i]
    rfl
theorem fr_add (a b : K) : ∀ i, F.fr i (F.add a b) = F.add (F.fr i a) (F.fr i b)
  | 0 => rfl
  | i + 1 => by
    show F.mul (F.fr i (F.add a b)) (F.fr i (F.add a b)) = F.add (F.mul (F.fr i a) (F.fr i a)) (F.mul (F.fr i b) (F.fr i b))
    rw [fr_add a b i, F.mul_add, F.add_mul, F.add_mul, F.mul_comm (F.fr i b) (F.fr i a), F.add_assoc, ← F.add_assoc (F.mul (F.fr i a) (F.fr i b)), F.add_self, F.zero_add]
theorem fr_mul (a b : K) : ∀ i, F.fr i (F.mul a b) = F.mul (F.fr i a) (F.fr i b)
  | 0 => rfl
  | i + 1 => by
    show F.mul (F.fr i (F.mul a b)) (F.fr i (F.mul a b)) = F.mul (F.mul (F.fr i a) (F.fr i a)) (F.mul (F.fr i b) (F.fr i b))
    rw [fr_mul a b i, F.mul_assoc, F.mul_left (F.fr i b), ← F.mul_assoc]
theorem fr_zero : ∀ i, F.fr i F.zero = F.zero
  | 0 => rfl
  | i + 1 => by
    show F.mul (F.fr i F.zero) (F.fr i F.zero) = _
    rw [fr_zero i, F.mul_zero]
theorem fr_one : ∀ i, F.fr i F.one = F.one
  | 0 => rfl
  | i + 1 => by
    show F.mul (F.fr i F.one) (F.fr i F.one) = _
    rw [fr_one i, F.mul_one]
end
end Fd
/-! ### Residues -/
/-- The difference is divided. -/
def Cg (f a b : List Nat) : Prop := Dvd 3 f (addP a b)
structure Irr (f : List Nat) : Prop where
  b1 : B1 f
  two : 2 ≤ f.length
  ir : ∀ a, B1 a → Dvd 3 a f → a.length = 1 ∨ a.length = f.length
theorem b1_one {a : List Nat} (ha : B1 a) (h : a.length = 1) : a = [1] := b1_ext ha one_b1 (fun j => by
  by_cases hj : j = 0
  · subst hj
    have := ha.top (by omega)
    rw [h] at this
    exact this
  · rw [cf_out (by omega), cf_out (by simp; omega)])
section
variable {f : List Nat} (hf : B1 f) (h2 : 2 ≤ f.length)
include hf h2
theorem rs_b1 {a : List Nat} (ha : B1 a) : B1 (restP 3 a f) := restP_b1 ha hf (by omega)
theorem rs_len {a : List Nat} (ha : B1 a) : (restP 3 a f).length < f.length := by
  have := restP_len ok3 ha.tr.lt hf.tr.lt (by omega) (hf.tr.top (by omega))
  omega
theorem cg_rest {a : List Nat} (ha : B1 a) : Cg f a (restP 3 a f) := by
  have hr := rs_b1 hf h2 ha
  have hq := quotP_b1 ha hf (by omega)
  have e := div_eq ok3 ha.tr hf.tr (by omega : f.length ≠ 0)
  refine ⟨_, hq.tr, ?_⟩
  have h3 := addP_assoc ok3 (mulP_b1 hq hf).tr hr.tr hr.tr
  rw [e, addP_self ok3 hr.tr, addP_nil ok3 (mulP_b1 hq hf).tr] at h3
  exact h3.symm
theorem cg_eq {a b : List Nat} (ha : B1 a) (hb : B1 b) (hl : a.length < f.length) (hl' : b.length < f.length) (h : Cg f a b) : a = b := by
  obtain ⟨q, hq, e⟩ := h
  have h3 : (addP a b).length ≤ f.length - 1 := addP_len ok3 ha.tr hb.tr (by omega) (by omega)
  have h4 : addP a b = [] := by
    by_cases h0 : q.length = 0
    · rw [← e, List.eq_nil_of_length_eq_zero h0, mulP_nil_l]
    · have := mulP_len ok3 hq hf.tr h0 (by omega)
      rw [e] at this
      omega
  have h5 := addP_cancel ok3 ha.tr hb.tr
  rw [h4, addP_nil ok3 ha.tr] at h5
  exact h5
omit h2
theorem cg_refl {a : List Nat} (ha : B1 a) : Cg f a a := by
  have := hf
  unfold Cg
  rw [addP_self ok3 ha.tr]
  exact dvd_nil ok3
omit hf in
theorem cg_symm {a b : List Nat} (h : Cg f a b) : Cg f b a := by unfold Cg; rw [addP_comm]; exact h
theorem cg_trans {a b c : List Nat} (ha : B1 a) (hb : B1 b) (hc : B1 c) (h : Cg f a b) (h' : Cg f b c) : Cg f a c := by
  have h3 := dvd_add ok3 hf.tr h h'
  rw [addP_assoc ok3 ha.tr hb.tr (addP_b1 hb hc).tr, addP_cancel ok3 hb.tr hc.tr] at h3
  exact h3
theorem cg_mul {a a' b b' : List Nat} (ha : B1 a) (ha' : B1 a') (hb : B1 b) (hb' : B1 b') (h : Cg f a a') (h' : Cg f b b') : Cg f (mulP 3 a b) (mulP 3 a' b') := by
  have h3 := dvd_mul ok3 hf.tr ha.tr h'
  have h4 := dvd_mul ok3 hf.tr hb'.tr h
  rw [mulP_add_right ok3 ha.tr hb.tr hb'.tr] at h3
  rw [mulP_add_right ok3 hb'.tr ha.tr ha'.tr, mulP_comm ok3 hb'.tr ha.tr, mulP_comm ok3 hb'.tr ha'.tr] at h4
  exact cg_trans hf (mulP_b1 ha hb) (mulP_b1 ha hb') (mulP_b1 ha' hb') h3 h4
theorem cg_add {a a' b : List Nat} (ha : B1 a) (ha' : B1 a') (hb : B1 b) (h : Cg f a a') : Cg f (addP a b) (addP a' b) := by
  have := hf
  unfold Cg
  have e : addP (addP a b) (addP a' b) = addP a a' := by
    rw [addP_comm a' b, addP_assoc ok3 ha.tr hb.tr (addP_b1 hb ha').tr, addP_cancel ok3 hb.tr ha'.tr]
  rw [e]
  exact h
end
theorem dvd_len {a b : List Nat} (ha : B1 a) (h : Dvd 3 a b) (hb : b ≠ []) : a.length ≤ b.length ∧ a ≠ [] := by
  obtain ⟨q, hq, rfl⟩ := h
  have ha0 : a ≠ [] := fun e => hb (by rw [e, mulP_nil_r])
  have hq0 : q ≠ [] := fun e => hb (by rw [e, mulP_nil_l])
  have h1 : a.length ≠ 0 := fun e => ha0 (List.eq_nil_of_length_eq_zero e)
  have h2 : q.length ≠ 0 := fun e => hq0 (List.eq_nil_of_length_eq_zero e)
  rw [mulP_len ok3 hq ha.tr h2 h1]
  exact ⟨by omega, ha0⟩
/-- An irreducible polynomial divides a product only in a factor. -/
theorem euclid {f : List Nat} (hI : Irr f) : ∀ (n : Nat) {a b : List Nat}, B1 a → B1 b → a.length ≤ n → a.length < f.length → a ≠ [] → Dvd 3 f (mulP 3 a b) → Dvd 3 f b
  | 0, a, b, _, _, hn, _, h0, _ => absurd (List.eq_nil_of_length_eq_zero (by omega)) h0
  | n + 1, a, b, ha, hb, hn, hl, h0, hd => by
    have ha0 : a.length ≠ 0 := fun e => h0 (List.eq_nil_of_length_eq_zero e)
    have hf := hI.b1
    have hr := restP_b1 hf ha ha0
    have hrl := restP_len ok3 hf.tr.lt ha.tr.lt ha0 (ha.tr.top ha0)
    have hq := quotP_b1 hf ha ha0
    have e := div_eq ok3 hf.tr ha.tr ha0
    by_cases hz : restP 3 f a = []
    · rw [hz, addP_nil ok3 (mulP_b1 hq ha).tr] at e
      have h1 := (hI.ir a ha ⟨_, hq.tr, e⟩).resolve_right (by omega)
      rw [b1_one ha h1, mul_oneL hb] at hd
      exact hd
    · refine euclid hI n hr hb (by omega) (by omega) hz ?_
      have e2 : restP 3 f a = addP f (mulP 3 (quotP 3 f a) a) := by
        have h3 := addP_cancel ok3 (mulP_b1 hq ha).tr hr.tr
        rw [e] at h3
        rw [← h3, addP_comm]
      rw [e2, mulP_add_left ok3 hf.tr (mulP_b1 hq ha).tr hb.tr, mulP_assoc ok3 hq.tr ha.tr hb.tr]
      refine dvd_add ok3 hf.tr ?_ (dvd_mul ok3 hf.tr hq.tr hd)
      rw [mulP_comm ok3 hf.tr hb.tr]
      exact ⟨b, hb.tr, rfl⟩
theorem res_assoc {f a b c : List Nat} (hf : B1 f) (h2 : 2 ≤ f.length) (ha : B1 a) (hb : B1 b) (hc : B1 c) : restP 3 (mulP 3 (restP 3 (mulP 3 a b) f) c) f = restP 3 (mulP 3 a (restP 3 (mulP 3 b c) f)) f := by
  have hab := mulP_b1 ha hb
  have hbc := mulP_b1 hb hc
  have h1 := rs_b1 hf h2 hab
  have h3 := rs_b1 hf h2 hbc
  refine cg_eq hf h2 (rs_b1 hf h2 (mulP_b1 h1 hc)) (rs_b1 hf h2 (mulP_b1 ha h3)) (rs_len hf h2 (mulP_b1 h1 hc)) (rs_len hf h2 (mulP_b1 ha h3)) ?_
  have k1 := cg_symm (cg_rest hf h2 (mulP_b1 h1 hc))
  have k2 := cg_mul hf h1 hab hc hc (cg_symm (cg_rest hf h2 hab)) (cg_refl hf hc)
  have k3 := cg_mul hf ha ha hbc h3 (cg_refl hf ha) (cg_rest hf h2 hbc)
  have k4 := cg_rest hf h2 (mulP_b1 ha h3)
  rw [mulP_assoc ok3 ha.tr hb.tr hc.tr] at k2
  exact cg_trans hf (rs_b1 hf h2 (mulP_b1 h1 hc)) (mulP_b1 h1 hc) (rs_b1 hf h2 (mulP_b1 ha h3)) k1 (cg_trans hf (mulP_b1 h1 hc) (mulP_b1 ha hbc) (rs_b1 hf h2 (mulP_b1 ha h3)) k2 (cg_trans hf (mulP_b1 ha hbc) (mulP_b1 ha h3) (rs_b1 hf h2 (mulP_b1 ha h3)) k3 k4))
theorem res_add {f a b c : List Nat} (hf : B1 f) (h2 : 2 ≤ f.length) (ha : B1 a) (hb : B1 b) (hc : B1 c) : restP 3 (mulP 3 a (addP b c)) f = addP (restP 3 (mulP 3 a b) f) (restP 3 (mulP 3 a c) f) := by
  have hab := mulP_b1 ha hb
  have hac := mulP_b1 ha hc
  have h1 := rs_b1 hf h2 hab
  have h3 := rs_b1 hf h2 hac
  have hbc := mulP_b1 ha (addP_b1 hb hc)
  have hl : (addP (restP 3 (mulP 3 a b) f) (restP 3 (mulP 3 a c) f)).length < f.length := by
    have k1 := rs_len hf h2 hab
    have k2 := rs_len hf h2 hac
    have := addP_len ok3 h1.tr h3.tr (n := f.length - 1) (by omega) (by omega)
    omega
  refine cg_eq hf h2 (rs_b1 hf h2 hbc) (addP_b1 h1 h3) (rs_len hf h2 hbc) hl ?_
  have k1 := cg_symm (cg_rest hf h2 hbc)
  have k2 := cg_add hf hab h1 hac (cg_rest hf h2 hab)
  have k3 := cg_add hf hac h3 h1 (cg_rest hf h2 hac)
  rw [addP_comm (mulP 3 a c), addP_comm (restP 3 (mulP 3 a c) f)] at k3
  rw [mulP_add_right ok3 ha.tr hb.tr hc.tr] at k1 ⊢
  exact cg_trans hf (rs_b1 hf h2 (addP_b1 hab hac)) (addP_b1 hab hac) (addP_b1 h1 h3) k1 (cg_trans hf (addP_b1 hab hac) (addP_b1 h1 hac) (addP_b1 h1 h3) k2 k3)
theorem res_one {f a : List Nat} (hf : B1 f) (h2 : 2 ≤ f.length) (ha : B1 a) (hl : a.length < f.length) : restP 3 (mulP 3 a [1]) f = a := by
  rw [mulP_comm ok3 ha.tr one_b1.tr, mul_oneL ha]
  exact cg_eq hf h2 (rs_b1 hf h2 ha) ha (rs_len hf h2 ha) hl (cg_symm (cg_rest hf h2 ha))
theorem res_nz {f a b : List Nat} (hI : Irr f) (ha : B1 a) (hb : B1 b) (hl : a.length < f.length) (hl2 : b.length < f.length) (h1 : restP 3 (mulP 3 a b) f = []) : a = [] ∨ b = [] := by
  have hf := hI.b1
  have h3 := cg_rest hf hI.two (mulP_b1 ha hb)
  unfold Cg at h3
  rw [h1, addP_nil ok3 (mulP_b1 ha hb).tr] at h3
  by_cases h0 : a = []
  · exact .inl h0
  · refine .inr (Classical.byContradiction fun hb0 => ?_)
    have := (dvd_len hf (euclid hI _ ha hb (Nat.le_refl _) hl h0 h3) hb0).1
    omega
abbrev Kf (f : List Nat) : Type := { a : List Nat // B1 a ∧ a.length < f.length }
/-- The residues of an irreducible polynomial. -/
def addK {f : List Nat} (h2 : 2 ≤ f.length) (a b : Kf f) : Kf f := ⟨addP a.1 b.1, addP_b1 a.2.1 b.2.1, by
  have h1 := addP_len ok3 a.2.1.tr b.2.1.tr (n := f.length - 1) (by have := a.2.2; omega) (by have := b.2.2; omega)
  omega⟩
noncomputable def mulK {f : List Nat} (hf : B1 f) (h2 : 2 ≤ f.length) (a b : Kf f) : Kf f := ⟨restP 3 (mulP 3 a.1 b.1) f, rs_b1 hf h2 (mulP_b1 a.2.1 b.2.1), rs_len hf h2 (mulP_b1 a.2.1 b.2.1)⟩
theorem addK_val {f : List Nat} (h2 : 2 ≤ f.length) (a b : Kf f) : (addK h2 a b).1 = addP a.1 b.1 := rfl
theorem mulK_val {f : List Nat} (hf : B1 f) (h2 : 2 ≤ f.length) (a b : Kf f) : (mulK hf h2 a b).1 = restP 3 (mulP 3 a.1 b.1) f := rfl
def zeroK {f : List Nat} (h2 : 2 ≤ f.length) : Kf f := ⟨[], nil_b1, by simp; omega⟩
def oneK {f : List Nat} (h2 : 2 ≤ f.length) : Kf f := ⟨[1], one_b1, by simp; omega⟩
section
variable {f : List Nat} (hI : Irr f)
theorem kA (a b c : Kf f) : mulK hI.b1 hI.two (mulK hI.b1 hI.two a b) c = mulK hI.b1 hI.two a (mulK hI.b1 hI.two b c) := Subtype.ext (by
  rw [mulK_val, mulK_val, mulK_val, mulK_val]
  exact res_assoc hI.b1 hI.two a.2.1 b.2.1 c.2.1)
theorem kD (a b c : Kf f) : mulK hI.b1 hI.two a (addK hI.two b c) = addK hI.two (mulK hI.b1 hI.two a b) (mulK hI.b1 hI.two a c) := Subtype.ext (by
  rw [mulK_val, addK_val, addK_val, mulK_val, mulK_val]
  exact res_add hI.b1 hI.two a.2.1 b.2.1 c.2.1)
theorem kC (a b : Kf f) : mulK hI.b1 hI.two a b = mulK hI.b1 hI.two b a := Subtype.ext (by rw [mulK_val, mulK_val, mulP_comm ok3 a.2.1.tr b.2.1.tr])
theorem k1 (a : Kf f) : mulK hI.b1 hI.two a (oneK hI.two) = a := Subtype.ext (by
  rw [mulK_val]
  exact res_one hI.b1 hI.two a.2.1 a.2.2)
theorem kZ (a b : Kf f) (h : mulK hI.b1 hI.two a b = zeroK hI.two) : a = zeroK hI.two ∨ b = zeroK hI.two := by
  have h1 := congrArg Subtype.val h
  rw [mulK_val] at h1
  exact (res_nz hI a.2.1 b.2.1 a.2.2 b.2.2 h1).imp (fun e => Subtype.ext e) (fun e => Subtype.ext e)
noncomputable def resF : Fd (Kf f) where
  add := addK hI.two
  mul := mulK hI.b1 hI.two
  zero := zeroK hI.two
  one := oneK hI.two
  add_comm a b := Subtype.ext (addP_comm _ _)
  add_assoc a b c := Subtype.ext (addP_assoc ok3 a.2.1.tr b.2.1.tr c.2.1.tr)
  add_self a := Subtype.ext (addP_self ok3 a.2.1.tr)
  add_zero a := Subtype.ext (addP_nil ok3 a.2.1.tr)
  mul_comm := kC hI
  mul_assoc := kA hI
  mul_add := kD hI
  mul_one := k1 hI
  nz := kZ hI
  ne h := by cases (congrArg Subtype.val h : [1] = [])
end
/-! ### All residues -/
theorem nb_inj {x y : Nat} (h : nb x = nb y) : x = y := Nat.eq_of_testBit_eq (fun j => by
  have := congrArg (fun l => cf l j) h
  simp only [cf_nb, shr_two] at this
  exact toNat_inj this)
theorem nb_zero : nb 0 = [] := by decide +kernel
/-- The residue of a number. -/
def elK (f : List Nat) (h2 : 2 ≤ f.length) (x : Nat) : Kf f := if h : (nb x).length < f.length then ⟨nb x, nb_b1 x, h⟩ else ⟨[], nil_b1, by simp; omega⟩
theorem elK_val {f : List Nat} (h2 : 2 ≤ f.length) {x : Nat} (hx : x < 2 ^ (f.length - 1)) : (elK f h2 x).1 = nb x := by
  have h : (nb x).length < f.length := by rw [nb_len]; have := blen_le hx; omega
  unfold elK
  rw [dif_pos h]
theorem elK_inj {f : List Nat} (h2 : 2 ≤ f.length) {x y : Nat} (hx : x < 2 ^ (f.length - 1)) (hy : y < 2 ^ (f.length - 1)) (h : elK f h2 x = elK f h2 y) : x = y := nb_inj (by rw [← elK_val h2 hx, ← elK_val h2 hy, h])
theorem elK_all {f : List Nat} (h2 : 2 ≤ f.length) (a : Kf f) : ∃ x, x < 2 ^ (f.length - 1) ∧ elK f h2 x = a := by
  have h1 := nb_vP a.2.1
  have h3 : vP (exL a.1) < 2 ^ (f.length - 1) := by
    have h4 := blen_lt (vP (exL a.1))
    rw [← nb_len, h1] at h4
    have := a.2.2
    exact Nat.lt_of_lt_of_le h4 (Nat.pow_le_pow_right (by omega) (by omega))
  exact ⟨_, h3, Subtype.ext ((elK_val h2 h3).trans h1)⟩
theorem inj_nodup {α : Type} {g : Nat → α} : ∀ {n : Nat}, (∀ i j, i < n → j < n → g i = g j → i = j) → ((List.range n).map g).Nodup
  | _, h => List.pairwise_map.2 (List.Pairwise.imp_of_mem (fun hi hj hne e => hne (h _ _ (List.mem_range.1 hi) (List.mem_range.1 hj) e)) List.nodup_range)
def allK (f : List Nat) (h2 : 2 ≤ f.length) : List (Kf f) := (List.range (2 ^ (f.length - 1))).map (elK f h2)
theorem allK_nodup {f : List Nat} (h2 : 2 ≤ f.length) : (allK f h2).Nodup := inj_nodup (fun _ _ hi hj => elK_inj h2 hi hj)
def nzK (f : List Nat) (h2 : 2 ≤ f.length) : List (Kf f) := (List.range (2 ^ (f.length - 1) - 1)).map (fun i => elK f h2 (i + 1))
theorem nzK_nodup {f : List Nat} (h2 : 2 ≤ f.length) : (nzK f h2).Nodup := inj_nodup (fun i j hi hj e => by
  have := elK_inj h2 (x := i + 1) (y := j + 1) (by omega) (by omega) e
  omega)
section
variable {f : List Nat} (hI : Irr f)
theorem nzK_mem (x : Kf f) : x ∈ nzK f hI.two ↔ x ≠ (resF hI).zero := by
  unfold nzK
  rw [List.mem_map]
  constructor
  · rintro ⟨i, hi, rfl⟩ e
    have hi := List.mem_range.1 hi
    have h1 : (elK f hI.two (i + 1)).1 = [] := congrArg Subtype.val e
    rw [elK_val hI.two (by omega), ← nb_zero] at h1
    have := nb_inj h1
    omega
  · intro h
    obtain ⟨v, hv, rfl⟩ := elK_all hI.two x
    have h0 : v ≠ 0 := fun e => h (Subtype.ext (by rw [e, elK_val hI.two (Nat.two_pow_pos _), nb_zero]; rfl))
    exact ⟨v - 1, List.mem_range.2 (by omega), by rw [show v - 1 + 1 = v by omega]⟩
/-- The residue of x. -/
noncomputable def xK : Kf f := ⟨restP 3 [0, 1] f, rs_b1 hI.b1 hI.two (show B1 [0, 1] from (by decide +kernel : xP 1 = [0, 1]) ▸ xP_b1 1), rs_len hI.b1 hI.two (show B1 [0, 1] from (by decide +kernel : xP 1 = [0, 1]) ▸ xP_b1 1)⟩
theorem x_b1 : B1 [0, 1] := (by decide +kernel : xP 1 = [0, 1]) ▸ xP_b1 1
theorem frob_back (a : Kf f) : (resF hI).fr (f.length - 1) a = a := by
  have h := (resF hI).fermat' (nzK_nodup hI.two) (nzK_mem hI) a
  rw [(resF hI).fr_pw]
  have hl : (nzK f hI.two).length + 1 = 2 ^ (f.length - 1) := by
    have := Nat.two_pow_pos (f.length - 1)
    simp only [nzK, List.length_map, List.length_range]
    omega
  rw [← hl]
  exact h
theorem mul_x {a : List Nat} (ha : B1 a) : mulP 3 [0, 1] a = upP 1 a := by
  rw [← (by decide +kernel : xP 1 = [0, 1]), mulP_comm ok3 (xP_b1 1).tr ha.tr, mul_xP ha]
theorem step_x (a d b : Kf f) (hdv : d.1 = dnP 1 a.1) (hbv : ∀ j, cf b.1 j = if j = 0 then cf a.1 0 else 0) : a = addK hI.two (mulK hI.b1 hI.two (xK hI) d) b := Subtype.ext (by
  have ha := a.2.1
  have hd := d.2.1
  have hf := hI.b1
  have hx := (xK hI).2.1
  have hm1 := mulP_b1 hx hd
  have hm2 := mulP_b1 x_b1 hd
  have hr := rs_b1 hf hI.two hm1
  have hl := (addK hI.two (mulK hI.b1 hI.two (xK hI) d) b).2.2
  rw [addK_val, mulK_val] at hl ⊢
  refine cg_eq hf hI.two ha (addP_b1 hr b.2.1) a.2.2 hl ?_
  have e2 : addP (mulP 3 [0, 1] d.1) b.1 = a.1 := b1_ext (addP_b1 hm2 b.2.1) ha (fun j => by
    rw [cf_addP, mul_x hd, cf_upP, hbv, hdv]
    by_cases hj : j = 0
    · subst hj; rw [if_neg (by omega), if_pos rfl, Nat.zero_xor]
    · rw [if_pos (by omega), if_neg hj, cf_dnP, Nat.xor_zero, Nat.sub_add_cancel (by omega)])
  have k1 := cg_mul hf x_b1 hx hd hd (cg_rest hf hI.two x_b1) (cg_refl hf hd)
  have k2 := cg_trans hf hm2 hm1 hr k1 (cg_rest hf hI.two hm1)
  have k3 := cg_add hf hm2 hr b.2.1 k2
  rw [e2] at k3
  exact k3)
theorem all_fixed {i : Nat} (h : (resF hI).fr i (xK hI) = xK hI) : ∀ (n : Nat) (a : Kf f), a.1.length ≤ n → (resF hI).fr i a = a
  | 0, a, hn => by
    have : a = (resF hI).zero := Subtype.ext (List.eq_nil_of_length_eq_zero (by omega))
    rw [this, (resF hI).fr_zero]
  | n + 1, a, hn => by
    have ha := a.2.1
    have hd := dnP_b1 ha 1
    have hdl : (dnP 1 a.1).length ≤ n := b1_len hd (fun j hj => by rw [cf_dnP, cf_out (by omega)])
    have hdl2 : (dnP 1 a.1).length < f.length := by
      have : (dnP 1 a.1).length ≤ a.1.length := b1_len hd (fun j hj => by rw [cf_dnP, cf_out (by omega)])
      have := a.2.2
      omega
    obtain ⟨b, hbv, hbf⟩ : ∃ b : Kf f, (∀ j, cf b.1 j = if j = 0 then cf a.1 0 else 0) ∧ (resF hI).fr i b = b := by
      have := ha.le 0
      rcases (show cf a.1 0 = 0 ∨ cf a.1 0 = 1 by omega) with h0 | h0
      · exact ⟨(resF hI).zero, fun j => by rw [h0, ite_self]; exact cf_nil j, (resF hI).fr_zero i⟩
      · refine ⟨(resF hI).one, fun j => ?_, (resF hI).fr_one i⟩
        rw [h0]
        show cf [1] j = _
        cases j with
        | zero => rfl
        | succ j => rw [if_neg (by omega)]; exact cf_nil j
    have ih := all_fixed h n ⟨dnP 1 a.1, hd, hdl2⟩ hdl
    have e : a = (resF hI).add ((resF hI).mul (xK hI) ⟨dnP 1 a.1, hd, hdl2⟩) b := step_x hI a ⟨dnP 1 a.1, hd, hdl2⟩ b rfl hbv
    have e3 : (resF hI).fr i ((resF hI).add ((resF hI).mul (xK hI) ⟨dnP 1 a.1, hd, hdl2⟩) b) = (resF hI).add ((resF hI).mul (xK hI) ⟨dnP 1 a.1, hd, hdl2⟩) b := by
      rw [(resF hI).fr_add, (resF hI).fr_mul, h, ih, hbf]
    rw [e]
    exact e3
end
/-! ### The test -/
/-- x to the 2^i-th, divided. -/
noncomputable def yq (f : List Nat) : Nat → List Nat
  | 0 => [0, 1]
  | i + 1 => restP 3 (mulP 3 (yq f i) (yq f i)) f
theorem yq_b1 {f : List Nat} (hf : B1 f) (h2 : 2 ≤ f.length) : ∀ i, B1 (yq f i)
  | 0 => x_b1
  | i + 1 => rs_b1 hf h2 (mulP_b1 (yq_b1 hf h2 i) (yq_b1 hf h2 i))
theorem yq_cg {f h : List Nat} (hf : B1 f) (h2 : 2 ≤ f.length) (hI : Irr h) (hd : Dvd 3 h f) : ∀ i, Cg h (yq f i) ((resF hI).fr i (xK hI)).1
  | 0 => cg_rest hI.b1 hI.two x_b1
  | i + 1 => by
    have ih := yq_cg hf h2 hI hd i
    have hy := yq_b1 hf h2 i
    have hy1 := yq_b1 hf h2 (i + 1)
    have hk := ((resF hI).fr i (xK hI)).2.1
    have k1 : Cg h (yq f (i + 1)) (mulP 3 (yq f i) (yq f i)) := dvd_trans ok3 hI.b1.tr hd (cg_symm (cg_rest hf h2 (mulP_b1 hy hy)))
    have k2 := cg_mul hI.b1 hy hk hy hk ih ih
    have k3 := cg_rest hI.b1 hI.two (mulP_b1 hk hk)
    exact cg_trans hI.b1 hy1 (mulP_b1 hy hy) ((resF hI).fr (i + 1) (xK hI)).2.1 k1 (cg_trans hI.b1 (mulP_b1 hy hy) (mulP_b1 hk hk) ((resF hI).fr (i + 1) (xK hI)).2.1 k2 k3)
theorem rabin1 {f : List Nat} (hI : Irr f) {i : Nat} (h1 : 1 ≤ i) (hi : i ≤ (f.length - 1) / 2) : (gcdE 3 (addP (yq f i) [0, 1]) f).length = 1 := by
  have hf := hI.b1
  have hy := yq_b1 hf hI.two i
  have hyx := addP_b1 hy x_b1
  obtain ⟨d1, d2⟩ := gcdE_dvd ok3 hyx.tr hf.tr
  have hg := gcdE_b1 hyx hf
  refine (hI.ir _ hg d2).resolve_right fun hl => ?_
  have hgf : gcdE 3 (addP (yq f i) [0, 1]) f = f := by
    obtain ⟨q, hq, e⟩ := d2
    have hf0 : f ≠ [] := fun e => by have := hI.two; rw [e] at this; simp at this
    have hg0 : (gcdE 3 (addP (yq f i) [0, 1]) f).length ≠ 0 := by have := hI.two; omega
    have hq0 : q.length ≠ 0 := fun h0 => hf0 (by rw [← e, List.eq_nil_of_length_eq_zero h0, mulP_nil_l])
    have h3 := mulP_len ok3 hq hg.tr hq0 hg0
    rw [e] at h3
    have h4 : cf f (f.length - 1) = gm 3 (cf q (q.length - 1)) (cf (gcdE 3 (addP (yq f i) [0, 1]) f) ((gcdE 3 (addP (yq f i) [0, 1]) f).length - 1)) := by
      have := mulP_top ok3 hq0 hg0
      rw [e] at this
      rw [← this]
      congr 1
      omega
    rw [hg.top hg0, hf.top (by have := hI.two; omega), gm_one_right ok3 (hq.c _)] at h4
    have hq1 : q = [1] := hq.ext one_b1.tr (fun j => by
      by_cases hj : j = 0
      · subst hj
        rw [show q.length - 1 = 0 by omega] at h4
        exact h4.symm
      · rw [cf_out (by omega), cf_out (by simp; omega)])
    rw [hq1, mul_oneL hg] at e
    exact e
  rw [hgf] at d1
  have k1 : Cg f ((resF hI).fr i (xK hI)).1 (yq f i) := cg_symm (yq_cg hf hI.two hI (dvd_refl ok3 hf.tr) i)
  have k2 : Cg f (yq f i) [0, 1] := d1
  have hk := ((resF hI).fr i (xK hI)).2
  have k3 := cg_trans hf hk.1 hy (xK hI).2.1 k1 (cg_trans hf hy x_b1 (xK hI).2.1 k2 (cg_rest hf hI.two x_b1))
  have hfx : (resF hI).fr i (xK hI) = xK hI := Subtype.ext (cg_eq hf hI.two hk.1 (xK hI).2.1 hk.2 (xK hI).2.2 k3)
  have h3 := (resF hI).few (n := 2 ^ i) (by have := Nat.pow_le_pow_right (n := 2) (by omega) h1; omega) (allK_nodup hI.two) (fun s _ => by
    rw [← (resF hI).fr_pw]
    exact all_fixed hI hfx _ s (Nat.le_refl _))
  have h4 : (allK f hI.two).length = 2 ^ (f.length - 1) := by simp [allK]
  rw [h4] at h3
  have h5 := (Nat.pow_le_pow_iff_right (a := 2) (by omega)).1 h3
  have := hI.two
  omega
theorem irr_ex : ∀ (n : Nat) {c : List Nat}, c.length ≤ n → B1 c → 2 ≤ c.length → ∃ h, Irr h ∧ Dvd 3 h c ∧ h.length ≤ c.length
  | 0, c, hn, _, h2 => by omega
  | n + 1, c, hn, hc, h2 => by
    by_cases hI : ∀ a, B1 a → Dvd 3 a c → a.length = 1 ∨ a.length = c.length
    · exact ⟨c, ⟨hc, h2, hI⟩, dvd_refl ok3 hc.tr, Nat.le_refl _⟩
    · obtain ⟨a, h3⟩ := Classical.not_forall.1 hI
      obtain ⟨ha, h4⟩ := Classical.not_imp.1 h3
      obtain ⟨hd, h5⟩ := Classical.not_imp.1 h4
      have hc0 : c ≠ [] := fun e => by rw [e] at h2; simp at h2
      have h6 := dvd_len ha hd hc0
      have h7 : a.length ≠ 0 := fun e => h6.2 (List.eq_nil_of_length_eq_zero e)
      obtain ⟨h, k1, k2, k3⟩ := irr_ex n (c := a) (by omega) ha (by omega)
      exact ⟨h, k1, dvd_trans ok3 k1.b1.tr k2 hd, by omega⟩
theorem rabin2 {f : List Nat} (hf : B1 f) (h2 : 2 ≤ f.length) (hn : ¬ Irr f) : ∃ i, 1 ≤ i ∧ i ≤ (f.length - 1) / 2 ∧ (gcdE 3 (addP (yq f i) [0, 1]) f).length ≠ 1 := by
  have hI : ¬ ∀ a, B1 a → Dvd 3 a f → a.length = 1 ∨ a.length = f.length := fun h => hn ⟨hf, h2, h⟩
  obtain ⟨a, h3⟩ := Classical.not_forall.1 hI
  obtain ⟨ha, h4⟩ := Classical.not_imp.1 h3
  obtain ⟨hd, h5⟩ := Classical.not_imp.1 h4
  have hf0 : f ≠ [] := fun e => by rw [e] at h2; simp at h2
  have h6 := dvd_len ha hd hf0
  have h7 : a.length ≠ 0 := fun e => h6.2 (List.eq_nil_of_length_eq_zero e)
  have hda := hd
  obtain ⟨q, hq, e⟩ := hd
  have hqb : B1 q := by
    have h8 := quotP_b1 hf ha h7
    have := (div_uniq ok3 hf.tr ha.tr h7 hq (nil_tr 3) (by simp; omega) (by rw [e, addP_nil ok3 hf.tr])).1
    rw [this]; exact h8
  have hq0 : q.length ≠ 0 := fun h0 => hf0 (by rw [← e, List.eq_nil_of_length_eq_zero h0, mulP_nil_l])
  have hl := mulP_len ok3 hq ha.tr hq0 h7
  rw [e] at hl
  have hdq : Dvd 3 q f := ⟨a, ha.tr, by rw [mulP_comm ok3 ha.tr hq]; exact e⟩
  obtain ⟨c, hc, hcd, hc2, hcl⟩ : ∃ c, B1 c ∧ Dvd 3 c f ∧ 2 ≤ c.length ∧ c.length - 1 ≤ (f.length - 1) / 2 := by
    by_cases hle : a.length ≤ q.length
    · exact ⟨a, ha, hda, by omega, by omega⟩
    · exact ⟨q, hqb, hdq, by omega, by omega⟩
  obtain ⟨h, k1, k2, k3⟩ := irr_ex _ (Nat.le_refl _) hc hc2
  have hhf := dvd_trans ok3 k1.b1.tr k2 hcd
  refine ⟨h.length - 1, by have := k1.two; omega, by omega, fun hg1 => ?_⟩
  have hy := yq_b1 hf h2 (h.length - 1)
  have hyx := addP_b1 hy x_b1
  have m1 := yq_cg hf h2 k1 hhf (h.length - 1)
  rw [frob_back k1] at m1
  have m2 : Cg h (yq f (h.length - 1)) [0, 1] := cg_trans k1.b1 hy (xK k1).2.1 x_b1 m1 (cg_symm (cg_rest k1.b1 k1.two x_b1))
  have m3 := gcdE_most ok3 hyx.tr hf.tr k1.b1.tr m2 hhf
  have m4 := (dvd_len k1.b1 m3 (fun e => by rw [e] at hg1; cases hg1)).1
  have := k1.two
  omega
theorem irr_iff {f : List Nat} (hf : B1 f) (h2 : 2 ≤ f.length) (h33 : f.length ≤ 33) : irrP f = true ↔ Irr f := by
  constructor
  · intro h
    refine ⟨hf, h2, fun a ha hd => ?_⟩
    have hf0 : f ≠ [] := fun e => by rw [e] at h2; simp at h2
    have h6 := dvd_len ha hd hf0
    have h7 : a.length ≠ 0 := fun e => h6.2 (List.eq_nil_of_length_eq_zero e)
    obtain ⟨q, hq, e⟩ := hd
    have hqb : B1 q := by
      have h8 := quotP_b1 hf ha h7
      have := (div_uniq ok3 hf.tr ha.tr h7 hq (nil_tr 3) (by simp; omega) (by rw [e, addP_nil ok3 hf.tr])).1
      rw [this]; exact h8
    have hq0 : q.length ≠ 0 := fun h0 => hf0 (by rw [← e, List.eq_nil_of_length_eq_zero h0, mulP_nil_l])
    have hl := mulP_len ok3 hq ha.tr hq0 h7
    rw [e] at hl
    refine Classical.byContradiction fun hc => ?_
    have h9 := irr_mul2 hqb ha (by omega) (by omega)
    rw [e, h] at h9
    cases h9
  · intro h
    exact irr_of hf h2 h33 (fun p c hp hc e => h.ir p hp ⟨c, hc.tr, by rw [mulP_comm ok3 hc.tr hp.tr]; exact e⟩)
end Go.Proofs.YtcdmmfpgeagimaaDoor
end
section
/- A list of our own that slices.Sort has sorted. No condition. -/
namespace Go.Sx
open Go Go.Sort
theorem Fr.grown {w : World} {g N : Nat} {f : Array Value → Array Value} {os : Array Obj} {D : Nat → Prop} (hg : D g) : Fr (fun k => k < w.heap.size ∧ ¬ D k) w (grow (mapBlock (Sort.ahead w N) g f) os) := by
  refine ⟨rfl, rfl, rfl, ?_, fun k hk => ?_⟩
  · show w.heap.size ≤ (w.heap.modify g (onCells f) ++ os).size
    simp
  · show (w.heap.modify g (onCells f) ++ os)[k]? = _
    have hne : g ≠ k := fun h => hk.2 (h ▸ hg)
    rw [Array.getElem?_append_left (by simpa using hk.1), Array.getElem?_modify, if_neg hne]
theorem St.sorted {F : Nat → Prop} {w₀ w : World} {L : List Atom} {E n c g N : Nat} {zs zs' : List Int} {os : Array Obj} (h : St F w₀ (own E 1 (some ⟨g, 0, none⟩) n c (ints .i64 zs) :: L) w) (hl : zs'.length = zs.length) :
    St F w₀ (own E 1 (some ⟨g, 0, none⟩) n c (ints .i64 zs') :: L) (grow (putRow (Value.int .i64) (Sort.ahead w N) g 0 zs'.toArray) os) := by
  obtain ⟨D, ⟨⟨h1, h2⟩, hD⟩, hlt, hmk⟩ := h.work (i := 0) rfl
  rcases h2 with ⟨h3, _⟩ | ⟨g', cap, cur, hv, hb, hh, hc, hm, hs, ht⟩
  · cases h3
  · injection hv with hA hn hcp
    injection hA with hA
    injection hA with hg
    subst hg
    subst hcp
    have hDg : D g := (hD g).2 ⟨by simp, rfl⟩
    have hgs := (Array.getElem?_eq_some_iff.1 hh).1
    have hzl : zs'.length = n := by simpa [ints, hl] using h1
    refine hmk _ (own E 1 (some ⟨g, 0, none⟩) n c (ints .i64 zs')) D (Fr.grown hDg) ⟨⟨by simpa [ints] using hzl, .inr ⟨g, c, putCells (Value.int .i64) 0 zs'.toArray cur, rfl, hb, ?_, hc, hm, by simpa [putCells] using hs, ?_⟩⟩, hD⟩ (fun k hk => ⟨.inl hk, ?_⟩)
    · show (w.heap.modify g (onCells _) ++ os)[g]? = _
      rw [Array.getElem?_append_left (by simpa using hgs), Array.getElem?_modify, if_pos rfl, hh]; rfl
    · rw [Nat.mul_one] at ht hs ⊢
      apply List.ext_getElem?
      intro j
      rw [List.getElem?_take]
      by_cases hj : j < n
      · rw [if_pos hj]
        have hjc : j < cur.size := by omega
        simp [putCells, ints, hjc, hzl, hj]
      · rw [if_neg hj, List.getElem?_eq_none (by simp [ints]; omega)]
    · have := hlt k hk
      show k < (w.heap.modify g (onCells _) ++ os).size
      simp; omega
end Go.Sx
end
section
/-
  DERIVED: THE SHELF's CONTRACTS AT THIS DUMP, IN PLAIN WORDS (tools/lay-plain.mjs out of 'YtcdmmfpgeagimaaDoorSort.lean', which tools/lay-shelf.mjs wrote): THE SAME DECLARATIONS UNDER THE SAME NAMES: 'import', 'namespace', 'open', 'def', 'theorem' AND NOTHING ELSE: no command of the shelf's: FOR A HAND-IN. Each laying: the table of numbers ('.._ren') and one theorem, a field a fact of the dump's own or the kernel's comparison; each contract: ONE APPLICATION.
-/
namespace Go.Proofs
open Go.Shelf
def Tryd.lays189_ren : Go.Shelf.Ren := ⟨fun | 189 => 156 | 125 => 163 | 257 => 162 | 128 => 174 | 129 => 99 | 294 => 165 | 295 => 166 | 296 => 167 | 297 => 168 | 298 => 169 | 299 => 170 | 216 => 171 | 300 => 172 | 301 => 173 | 328 => 175 | 329 => 176 | 330 => 177 | 331 => 178 | 332 => 179 | 215 => 180 | 343 => 181 | n => n, fun | 28 => 23 | 3 => 3 | 46 => 171 | 0 => 0 | 51 => 229 | 53 => 136 | 4 => 4 | 183 => 222 | 182 => 221 | 131 => 114 | 5 => 5 | 9 => 9 | 218 => 230 | 222 => 234 | 228 => 236 | 229 => 237 | n => n, fun | n => n⟩
theorem Tryd.lays189 : Go.Proofs.Lays.n189 Tryd.prog Tryd.lays189_ren := {
  mixed := by kernel_rfl
  f125 := Tryd.func163.trans (congrArg some (by kernel_rfl))
  f128 := Tryd.func174.trans (congrArg some (by kernel_rfl))
  f129 := Tryd.func99.trans (congrArg some (by kernel_rfl))
  f189 := Tryd.func156.trans (congrArg some (by kernel_rfl))
  f215 := Tryd.func180.trans (congrArg some (by kernel_rfl))
  f216 := Tryd.func171.trans (congrArg some (by kernel_rfl))
  f257 := Tryd.func162.trans (congrArg some (by kernel_rfl))
  f294 := Tryd.func165.trans (congrArg some (by kernel_rfl))
  f295 := Tryd.func166.trans (congrArg some (by kernel_rfl))
  f296 := Tryd.func167.trans (congrArg some (by kernel_rfl))
  f297 := Tryd.func168.trans (congrArg some (by kernel_rfl))
  f298 := Tryd.func169.trans (congrArg some (by kernel_rfl))
  f299 := Tryd.func170.trans (congrArg some (by kernel_rfl))
  f300 := Tryd.func172.trans (congrArg some (by kernel_rfl))
  f301 := Tryd.func173.trans (congrArg some (by kernel_rfl))
  f328 := Tryd.func175.trans (congrArg some (by kernel_rfl))
  f329 := Tryd.func176.trans (congrArg some (by kernel_rfl))
  f330 := Tryd.func177.trans (congrArg some (by kernel_rfl))
  f331 := Tryd.func178.trans (congrArg some (by kernel_rfl))
  f332 := Tryd.func179.trans (congrArg some (by kernel_rfl))
  f343 := Tryd.func181.trans (congrArg some (by kernel_rfl))
  t0 := Tryd.underlying0
  a0 := Tryd.isAgg0
  z0 := Tryd.sizeOf0
  v0 := Tryd.zeroValue0
  t3 := Tryd.underlying3
  a3 := Tryd.isAgg3
  z3 := Tryd.sizeOf3
  v3 := Tryd.zeroValue3
  t4 := Tryd.underlying4
  a4 := Tryd.isAgg4
  z4 := Tryd.sizeOf4
  v4 := Tryd.zeroValue4
  t5 := Tryd.underlying5
  a5 := Tryd.isAgg5
  z5 := Tryd.sizeOf5
  v5 := Tryd.zeroValue5
  t9 := Tryd.underlying9
  a9 := Tryd.isAgg9
  z9 := Tryd.sizeOf9
  v9 := Tryd.zeroValue9
  t28 := Tryd.underlying23
  a28 := Tryd.isAgg23
  z28 := Tryd.sizeOf23
  v28 := Tryd.zeroValue23
  t46 := Tryd.underlying171
  a46 := Tryd.isAgg171
  z46 := Tryd.sizeOf171
  v46 := Tryd.zeroValue171
  t51 := Tryd.underlying229
  a51 := Tryd.isAgg229
  z51 := Tryd.sizeOf229
  v51 := Tryd.zeroValue229
  t53 := Tryd.underlying136
  a53 := Tryd.isAgg136
  z53 := Tryd.sizeOf136
  v53 := Tryd.zeroValue136
  t131 := Tryd.underlying114
  a131 := Tryd.isAgg114
  z131 := Tryd.sizeOf114
  v131 := Tryd.zeroValue114
  t182 := Tryd.underlying221
  a182 := Tryd.isAgg221
  z182 := Tryd.sizeOf221
  v182 := Tryd.zeroValue221
  t183 := Tryd.underlying222
  a183 := Tryd.isAgg222
  z183 := Tryd.sizeOf222
  v183 := Tryd.zeroValue222
  t218 := Tryd.underlying230
  a218 := Tryd.isAgg230
  z218 := Tryd.sizeOf230
  v218 := Tryd.zeroValue230
  t222 := Tryd.underlying234
  a222 := Tryd.isAgg234
  z222 := Tryd.sizeOf234
  v222 := Tryd.zeroValue234
  t228 := Tryd.underlying236
  a228 := Tryd.isAgg236
  z228 := Tryd.sizeOf236
  v228 := Tryd.zeroValue236
  t229 := Tryd.underlying237
  a229 := Tryd.isAgg237
  z229 := Tryd.sizeOf237
  v229 := Tryd.zeroValue237 }
open Go.Sort Go.RowKit in
theorem Tryd.slices_Sort_int (blk off cap : Nat) (zs : List Int) (w : World) (hH : Holds (Value.int .i64) w blk off zs.toArray) (hblk : blk < w.heap.size) (hsz : zs.length < 4611686018427387904) :
    Calls Tryd.prog 156 #[.slice (some ⟨blk, off, none⟩) zs.length cap] w fun e w' =>
      e = .returned (.tuple #[]) ∧ ∃ n os, w' = grow (putRow (Value.int .i64) (Sort.ahead w n) blk off (zs.mergeSort fun x y => decide (x ≤ y)).toArray) os := Any.slices_Sort_int Tryd.lays189 blk off cap zs w hH hblk hsz
end Go.Proofs
end
section
/- The contracts of the document's own field: what each of its functions answers. Conditions: an m that may be. -/
namespace Go.Proofs.YtcdmmfpgeagimaaDoor
open Go.Sx Go.Fm
set_option maxRecDepth 100000
theorem eq0 {x : Nat} (h : ¬ (0 : Int) < (x : Nat)) : x = 0 := by omega
theorem u64_nat {m : Nat} (h : Ok m) : IntKind.u64.wrap ((m : Nat) : Int) = (m : Nat) := wu64 (by have := h.hi; omega)

theorem rlow_spec (m : Nat) (a : Int) (w : World) (hm : Ok m) : Spec1 Tryd.prog 91 [.int .i64 (m : Nat), .int .i64 a] w (.int .i64 (lo m a : Nat)) := by
  have hp := N_pos hm
  have hlo := hm.lo
  have hhi := hm.hi
  have hN := N_succ m
  refine spec_of Tryd.func91 rfl Tryd.ntmps91 rfl ?_
  refine CW.seq ?_
  refine CW.reg [0] rfl ?_
  refine s_as 4 rfl rfl ?_
  refine SX.next ?_
  refine CW.seq ?_
  refine CW.reg [0, 1, 2, 3, 4, 5, 6] rfl ?_
  refine s_mv 5 rfl rfl ?_
  refine s_mv 6 rfl rfl ?_
  refine s_conv 7 rfl rfl (u64_nat hm) ?_
  refine s_shl 8 rfl rfl rfl (by omega) (shl_one hm) ?_
  refine s_sub 9 rfl rfl rfl (w64 (by omega)) ?_
  refine s_bit 10 rfl rfl rfl rfl (low_eq hm a) ?_
  refine s_as 4 rfl rfl ?_
  refine SX.next ?_
  refine CW.ret ?_
  exact KN.ret (rs := [.tmp 4]) Tryd.results91 rfl (fun w hw => ⟨rfl, hw.nothing⟩)

theorem rmul_spec (m : Nat) (a b : Int) (w : World) (hm : Ok m) : Spec1 Tryd.prog 85 [.int .i64 (m : Nat), .int .i64 a, .int .i64 b] w (.int .i64 (gm m (lo m a) (lo m b) : Nat)) := by
  have hp := N_pos hm
  have hlo := hm.lo
  have hhi := hm.hi
  have hN := N_succ m
  have hx := lo_lt m a
  have hb := lo_lt m b
  have hle := pow_le14 hm
  have hpl := poly_lt (m : Nat)
  refine spec_of Tryd.func85 rfl Tryd.ntmps85 rfl ?_
  refine CW.seq ?_
  refine CW.reg [0] rfl ?_
  refine s_as 6 rfl rfl ?_
  refine SX.next ?_
  refine CW.seq ?_
  refine CW.reg [0, 1, 2, 3] rfl ?_
  refine s_mv 9 rfl rfl ?_
  refine s_mv 10 rfl rfl ?_
  refine s_call1 11 rfl rfl rfl rfl (fun w hw => rlow_spec m _ _ hm) (fun _ _ => trivial) ?_
  refine s_as 1 rfl rfl ?_
  refine SX.next ?_
  refine CW.seq ?_
  refine CW.reg [0, 1, 2, 3] rfl ?_
  refine s_mv 12 rfl rfl ?_
  refine s_mv 13 rfl rfl ?_
  refine s_call1 14 rfl rfl rfl rfl (fun w hw => rlow_spec m _ _ hm) (fun _ _ => trivial) ?_
  refine s_as 2 rfl rfl ?_
  refine SX.next ?_
  refine CW.seq ?_
  refine CW.reg [0, 1, 2] rfl ?_
  refine s_mv 15 rfl rfl ?_
  refine s_call1 16 rfl rfl rfl rfl (fun w hw => rpoly_spec _ _ (by omega)) (fun _ _ => trivial) ?_
  refine s_as 7 rfl rfl ?_
  refine SX.next ?_
  refine CW.seq ?_
  refine CW.reg [0] rfl ?_
  refine s_as 8 rfl rfl ?_
  refine SX.next ?_
  refine CW.seq ?_
  refine CW.block ?_
  refine CW.loop (G := Nat) (fun k => [(0, .int .i64 (m : Nat)), (1, .int .i64 (xtk m k (lo m a) : Nat)), (2, .int .i64 (lo m b >>> k : Nat)), (7, .int .i64 (polyI (m : Nat) : Nat)), (8, .int .i64 (gmk m (lo m a) (lo m b) k : Nat))]) (fun _ => Sto w []) (fun k => k ≤ m) (fun k => lo m b >>> k) 0 ⟨rfl, rfl, rfl, rfl, rfl, trivial⟩ (fun _ h => h) (Nat.zero_le _) ?_
  intro k hk
  have hak := xtk_lt hm k hx
  have hgk := gmk_lt hm hx (lo m b) k
  have hbk : lo m b >>> k < 2 ^ m := Nat.lt_of_le_of_lt (Nat.shiftRight_le _ _) hb
  refine CW.seq ?_
  refine CW.seq ?_
  refine CW.reg [0, 1] rfl ?_
  refine s_mv 17 rfl rfl ?_
  refine s_gt 18 rfl rfl rfl rfl ?_
  refine SX.next ?_
  refine CW.test rfl (fun hc => ?_) (fun hc => ?_)
  · skip
    have hkm := shr_lt hb (k := k) (by omega)
    refine CW.skip ?_
    refine KN.code ?_
    refine CW.block ?_
    refine CW.cut (G := Unit) (fun _ => [(0, .int .i64 (m : Nat)), (1, .int .i64 (xtk m k (lo m a) : Nat)), (2, .int .i64 (lo m b >>> k : Nat)), (7, .int .i64 (polyI (m : Nat) : Nat)), (8, .int .i64 (gmk m (lo m a) (lo m b) (k + 1) : Nat))]) (fun _ => Sto w []) (fun _ => True) ?_ ?_
    · skip
      refine CW.seq ?_
      refine CW.reg [0, 1, 2] rfl ?_
      refine s_mv 19 rfl rfl ?_
      refine s_bit 20 rfl rfl rfl rfl (ibit_and_one (by omega)) ?_
      refine s_eq 21 rfl rfl rfl rfl ?_
      refine SX.next ?_
      refine CW.test rfl (fun hc => ?_) (fun hc => ?_)
      · skip
        refine CW.reg [0, 1, 2, 3] rfl ?_
        refine s_mv 22 rfl rfl ?_
        refine s_mv 23 rfl rfl ?_
        refine s_bit 24 rfl rfl rfl rfl (by rw [ibit_xor_nat (by omega) (by omega), ← gmk_odd hc]) ?_
        refine s_as 8 rfl rfl ?_
        refine SX.end_ ?_
        exact KN.join () ⟨rfl, rfl, rfl, rfl, rfl, trivial⟩ (fun _ h => h) trivial
      · skip
        refine CW.skip ?_
        exact KN.join () ⟨rfl, rfl, rfl, rfl, by rw [gmk_even hc]; rfl, trivial⟩ (fun _ h => h) trivial
    · skip
      intro _ _
      refine CW.seq ?_
      refine CW.reg [0, 1, 2] rfl ?_
      refine s_mv 25 rfl rfl ?_
      refine s_shl 26 rfl rfl rfl (by omega) (r := ((2 * xtk m k (lo m a) : Nat) : Int)) (shl1 (by omega)) ?_
      refine s_as 1 rfl rfl ?_
      refine SX.next ?_
      refine CW.cut (G := Unit) (fun _ => [(0, .int .i64 (m : Nat)), (1, .int .i64 (xtk m (k + 1) (lo m a) : Nat)), (2, .int .i64 (lo m b >>> k : Nat)), (7, .int .i64 (polyI (m : Nat) : Nat)), (8, .int .i64 (gmk m (lo m a) (lo m b) (k + 1) : Nat))]) (fun _ => Sto w []) (fun _ => True) ?_ ?_
      · skip
        refine CW.seq ?_
        refine CW.reg [0, 1, 2, 3, 4, 5] rfl ?_
        refine s_mv 27 rfl rfl ?_
        refine s_mv 28 rfl rfl ?_
        refine s_conv 29 rfl rfl (u64_nat hm) ?_
        refine s_shr 30 rfl rfl rfl (by omega) (shr_nat (by omega)) ?_
        refine s_bit 31 rfl rfl rfl rfl (ibit_and_one (Nat.lt_of_le_of_lt (Nat.shiftRight_le _ _) (by omega))) ?_
        refine s_eq 32 rfl rfl rfl rfl ?_
        refine SX.next ?_
        refine CW.test rfl (fun hc => ?_) (fun hc => ?_)
        · skip
          refine CW.reg [0, 1, 2, 3] rfl ?_
          refine s_mv 33 rfl rfl ?_
          refine s_mv 34 rfl rfl ?_
          refine s_bit 35 rfl rfl rfl rfl (by rw [ibit_xor_nat (by omega) hpl, polyI_ok hm, ← xtk_hi hm hx hc]) ?_
          refine s_as 1 rfl rfl ?_
          refine SX.end_ ?_
          exact KN.join () ⟨rfl, rfl, rfl, rfl, rfl, trivial⟩ (fun _ h => h) trivial
        · skip
          refine CW.skip ?_
          exact KN.join () ⟨rfl, by rw [xtk_lo hm hx hc]; rfl, rfl, rfl, rfl, trivial⟩ (fun _ h => h) trivial
      · skip
        intro _ _
        refine CW.reg [0, 1, 2] rfl ?_
        refine s_mv 36 rfl rfl ?_
        refine s_shr 37 rfl rfl rfl (by omega) (r := ((lo m b >>> (k + 1) : Nat) : Int)) (by rw [shr1, shr_succ]) ?_
        refine s_as 2 rfl rfl ?_
        refine SX.end_ ?_
        refine KN.blk ?_
        exact KN.back (k + 1) ⟨rfl, rfl, rfl, rfl, rfl, trivial⟩ (fun _ h => h) hkm (by rw [← shr_succ]; exact shr1_lt (by omega))
  · skip
    have hstop := gm_stop (m := m) (a := lo m a) (b := lo m b) (k := k) (eq0 hc) hk
    refine CW.exit rfl ?_
    refine KN.code ?_
    refine CW.seq ?_
    refine CW.reg [0, 1] rfl ?_
    refine s_mv 38 rfl rfl ?_
    refine s_as 6 rfl rfl ?_
    refine SX.next ?_
    refine CW.ret ?_
    exact KN.ret (rs := [.tmp 6]) Tryd.results85 rfl (fun w hw => ⟨by rw [oneOf, hstop], hw⟩)

structure PowG (m a n : Nat) (q : Nat × Nat × Nat) : Prop where
  hx : q.1 < 2 ^ m
  ha : q.2.1 < 2 ^ m
  hn : q.2.2 < 2 ^ 63
  inv : gm m q.1 (fpw m q.2.1 q.2.2) = fpw m a n
theorem PowG.odd {m a n : Nat} (h : Ok m) {q : Nat × Nat × Nat} (hq : PowG m a n q) (hc : ((q.2.2 % 2 : Nat) : Int) = 1) : PowG m a n (gm m q.1 q.2.1, gm m q.2.1 q.2.1, q.2.2 >>> 1) := by
  obtain ⟨h1, h2, h3, h4⟩ := hq
  have e : q.2.2 = 1 + 2 * (q.2.2 >>> 1) := by rw [Nat.shiftRight_eq_div_pow]; omega
  refine ⟨gm_lt h h1 _, gm_lt h h2 _, Nat.lt_of_le_of_lt (Nat.shiftRight_le _ _) h3, ?_⟩
  have h5 : fpw m q.2.1 1 = q.2.1 := gm_one_left h h2
  show gm m (gm m q.1 q.2.1) (fpw m (gm m q.2.1 q.2.1) (q.2.2 >>> 1)) = _
  rw [← h4, fpw_sq h h2, gm_assoc h h1 h2 (fpw_lt h _ _)]
  conv => rhs; rw [e, fpw_add h h2, h5]
theorem PowG.even {m a n : Nat} (h : Ok m) {q : Nat × Nat × Nat} (hq : PowG m a n q) (hc : ¬ ((q.2.2 % 2 : Nat) : Int) = 1) : PowG m a n (q.1, gm m q.2.1 q.2.1, q.2.2 >>> 1) := by
  obtain ⟨h1, h2, h3, h4⟩ := hq
  have e : q.2.2 = 2 * (q.2.2 >>> 1) := by rw [Nat.shiftRight_eq_div_pow]; omega
  refine ⟨h1, gm_lt h h2 _, Nat.lt_of_le_of_lt (Nat.shiftRight_le _ _) h3, ?_⟩
  show gm m q.1 (fpw m (gm m q.2.1 q.2.1) (q.2.2 >>> 1)) = _
  rw [← h4, fpw_sq h h2]
  conv => rhs; rw [e]
theorem PowG.last {m a n : Nat} (h : Ok m) {q : Nat × Nat × Nat} (hq : PowG m a n q) (hc : ¬ 0 < q.2.2) : q.1 = fpw m a n := by
  obtain ⟨h1, h2, h3, h4⟩ := hq
  rw [show q.2.2 = 0 by omega] at h4
  rw [← h4]
  exact (gm_one_right h h1).symm
theorem mulz {m x y : Nat} {w : World} (hm : Ok m) (hx : x < 2 ^ m) (hy : y < 2 ^ m) : Spec1 Tryd.prog 85 [.int .i64 (m : Nat), .int .i64 (x : Nat), .int .i64 (y : Nat)] w (.int .i64 (gm m x y : Nat)) := by
  have := rmul_spec m (x : Nat) (y : Nat) w hm
  rw [lo_nat hx, lo_nat hy] at this
  exact this

theorem power_spec (m : Nat) (a : Int) (n : Nat) (w : World) (hm : Ok m) (hn : n < 2 ^ 63) : Spec1 Tryd.prog 143 [.int .i64 (m : Nat), .int .i64 a, .int .i64 (n : Nat)] w (.int .i64 (fpw m (lo m a) n : Nat)) := by
  have hp := N_pos hm
  have hlo := hm.lo
  have hhi := hm.hi
  have hN := N_succ m
  have hx := lo_lt m a
  have hle := pow_le14 hm
  refine spec_of Tryd.func143 rfl Tryd.ntmps143 rfl ?_
  refine CW.seq ?_
  refine CW.reg [0] rfl ?_
  refine s_as 6 rfl rfl ?_
  refine SX.next ?_
  refine CW.seq ?_
  refine CW.reg [0] rfl ?_
  refine s_as 7 rfl rfl ?_
  refine SX.next ?_
  refine CW.seq ?_
  refine CW.reg [0, 1, 2, 3] rfl ?_
  refine s_mv 8 rfl rfl ?_
  refine s_mv 9 rfl rfl ?_
  refine s_call1 10 rfl rfl rfl rfl (fun w hw => rlow_spec m _ _ hm) (fun _ _ => trivial) ?_
  refine s_as 1 rfl rfl ?_
  refine SX.next ?_
  refine CW.seq ?_
  refine CW.block ?_
  refine CW.loop (G := Nat × Nat × Nat) (fun q => [(0, .int .i64 (m : Nat)), (1, .int .i64 (q.2.1 : Nat)), (2, .int .i64 (q.2.2 : Nat)), (7, .int .i64 (q.1 : Nat))]) (fun _ => Sto w []) (PowG m (lo m a) n) (fun q => q.2.2) (1, lo m a, n) ⟨rfl, rfl, rfl, rfl, trivial⟩ (fun _ h => h) ⟨one_lt hm, hx, hn, gm_one_left hm (fpw_lt hm _ _)⟩ ?_
  rintro ⟨x, y, k⟩ hq
  have hq1 := hq.hx
  have hq2 := hq.ha
  have hq3 := hq.hn
  simp only at hq1 hq2 hq3 ⊢
  refine CW.seq ?_
  refine CW.seq ?_
  refine CW.reg [0, 1] rfl ?_
  refine s_mv 11 rfl rfl ?_
  refine s_gt 12 rfl rfl rfl rfl ?_
  refine SX.next ?_
  refine CW.test rfl (fun hc => ?_) (fun hc => ?_)
  · skip
    refine CW.skip ?_
    refine KN.code ?_
    refine CW.block ?_
    refine CW.cut (G := Nat) (fun z => [(0, .int .i64 (m : Nat)), (1, .int .i64 (y : Nat)), (2, .int .i64 (k : Nat)), (7, .int .i64 (z : Nat))]) (fun _ => Sto w []) (fun z => PowG m (lo m a) n (z, gm m y y, k >>> 1)) ?_ ?_
    · skip
      refine CW.seq ?_
      refine CW.reg [0, 1, 2] rfl ?_
      refine s_mv 13 rfl rfl ?_
      refine s_bit 14 rfl rfl rfl rfl (ibit_and_one hq3) ?_
      refine s_eq 15 rfl rfl rfl rfl ?_
      refine SX.next ?_
      refine CW.test rfl (fun hc => ?_) (fun hc => ?_)
      · skip
        refine CW.reg [0, 1, 2, 3, 4] rfl ?_
        refine s_mv 16 rfl rfl ?_
        refine s_mv 17 rfl rfl ?_
        refine s_mv 18 rfl rfl ?_
        refine s_call1 19 rfl rfl rfl rfl (fun w _ => mulz hm hq1 hq2) (fun _ _ => trivial) ?_
        refine s_as 7 rfl rfl ?_
        refine SX.end_ ?_
        exact KN.join _ ⟨rfl, rfl, rfl, rfl, trivial⟩ (fun _ h => h) (hq.odd hm hc)
      · skip
        refine CW.skip ?_
        exact KN.join _ ⟨rfl, rfl, rfl, rfl, trivial⟩ (fun _ h => h) (hq.even hm hc)
    · skip
      intro z hz
      refine CW.seq ?_
      refine CW.reg [0, 1, 2, 3, 4] rfl ?_
      refine s_mv 20 rfl rfl ?_
      refine s_mv 21 rfl rfl ?_
      refine s_mv 22 rfl rfl ?_
      refine s_call1 23 rfl rfl rfl rfl (fun w _ => mulz hm hq2 hq2) (fun _ _ => trivial) ?_
      refine s_as 1 rfl rfl ?_
      refine SX.next ?_
      refine CW.reg [0, 1, 2] rfl ?_
      refine s_mv 24 rfl rfl ?_
      refine s_shr 25 rfl rfl rfl (by omega) (r := ((k >>> 1 : Nat) : Int)) (shr1 k) ?_
      refine s_as 2 rfl rfl ?_
      refine SX.end_ ?_
      refine KN.blk ?_
      exact KN.back (z, gm m y y, k >>> 1) ⟨rfl, rfl, rfl, rfl, trivial⟩ (fun _ h => h) hz (shr1_lt (by omega))
  · skip
    refine CW.exit rfl ?_
    refine KN.code ?_
    refine CW.seq ?_
    refine CW.reg [0, 1] rfl ?_
    refine s_mv 26 rfl rfl ?_
    refine s_as 6 rfl rfl ?_
    refine SX.next ?_
    refine CW.ret ?_
    exact KN.ret (rs := [.tmp 6]) Tryd.results143 rfl (fun w hw => ⟨by rw [oneOf, ← hq.last hm (by simp only; omega)], hw⟩)

theorem em_pos2 {m : Nat} (h : Ok m) (n : Int) : (n.tmod ((N m : Nat) : Int) + (N m : Nat)).tmod ((N m : Nat) : Int) = (em m n : Nat) := by
  have hp := N_pos h
  have hb := em_lt h n
  by_cases hc : n.tmod ((N m : Nat) : Int) < 0
  · rw [em_neg h hc]
    exact Int.tmod_eq_of_lt (by omega) (by omega)
  · rw [em_pos h hc]
    show (((em m n + N m) % N m : Nat) : Int) = _
    rw [Nat.add_mod_right, Nat.mod_eq_of_lt hb]
theorem lo_two {m : Nat} (h : Ok m) : lo m 2 = 2 := lo_nat (x := 2) (two_lt h)

theorem rpow_zero (m : Nat) (a n : Int) (w : World) (hm : Ok m) (h0 : lo m a = 0) : Spec1 Tryd.prog 127 [.int .i64 (m : Nat), .int .i64 a, .int .i64 n] w (.int .i64 (pw m (lo m a) n : Nat)) := by
  have hp := N_pos hm
  have hlo := hm.lo
  have hhi := hm.hi
  have hN := N_succ m
  have hx := lo_lt m a
  have hb := tmod_bd hm n
  refine spec_of Tryd.func127 rfl Tryd.ntmps127 rfl ?_
  refine CW.seq ?_
  refine CW.reg [0] rfl ?_
  refine s_as 6 rfl rfl ?_
  refine SX.next ?_
  refine CW.seq ?_
  refine CW.reg [0, 1, 2, 3, 4] rfl ?_
  refine s_mv 8 rfl rfl ?_
  refine s_conv 9 rfl rfl (u64_nat hm) ?_
  refine s_shl 10 rfl rfl rfl (by omega) (shl_one hm) ?_
  refine s_sub 11 rfl rfl rfl (r := (N m : Nat)) (by rw [sizem1]; exact w64 (by omega)) ?_
  refine s_as 7 rfl rfl ?_
  refine SX.next ?_
  refine CW.seq ?_
  refine CW.seq ?_
  refine CW.reg [0, 1, 2, 3] rfl ?_
  refine s_mv 12 rfl rfl ?_
  refine s_mv 13 rfl rfl ?_
  refine s_call1 14 rfl rfl rfl rfl (fun w hw => rlow_spec m _ _ hm) (fun _ _ => trivial) ?_
  refine s_eq 15 rfl rfl rfl (decide_eq_true (by omega)) ?_
  refine SX.next ?_
  refine CW.condT rfl ?_
  refine CW.seq ?_
  refine CW.seq ?_
  refine CW.reg [0, 1] rfl ?_
  refine s_mv 16 rfl rfl ?_
  refine s_eq 17 rfl rfl rfl rfl ?_
  refine SX.next ?_
  refine CW.test rfl (fun hc => ?_) (fun hc => ?_)
  · skip
    refine CW.seq ?_
    refine CW.reg [0] rfl ?_
    refine s_as 6 rfl rfl ?_
    refine SX.next ?_
    refine CW.ret ?_
    exact KN.ret (rs := [.tmp 6]) Tryd.results127 rfl (fun w hw => ⟨by rw [pw_zero h0, if_pos hc]; rfl, hw⟩)
  · skip
    refine CW.skip ?_
    refine KN.code ?_
    refine CW.seq ?_
    refine CW.reg [0] rfl ?_
    refine s_as 6 rfl rfl ?_
    refine SX.next ?_
    refine CW.ret ?_
    exact KN.ret (rs := [.tmp 6]) Tryd.results127 rfl (fun w hw => ⟨by rw [pw_zero h0, if_neg hc]; rfl, hw⟩)

theorem rpow_some (m : Nat) (a n : Int) (w : World) (hm : Ok m) (h0 : lo m a ≠ 0) : Spec1 Tryd.prog 127 [.int .i64 (m : Nat), .int .i64 a, .int .i64 n] w (.int .i64 (pw m (lo m a) n : Nat)) := by
  have hp := N_pos hm
  have hlo := hm.lo
  have hhi := hm.hi
  have hN := N_succ m
  have hx := lo_lt m a
  have hb := tmod_bd hm n
  refine spec_of Tryd.func127 rfl Tryd.ntmps127 rfl ?_
  refine CW.seq ?_
  refine CW.reg [0] rfl ?_
  refine s_as 6 rfl rfl ?_
  refine SX.next ?_
  refine CW.seq ?_
  refine CW.reg [0, 1, 2, 3, 4] rfl ?_
  refine s_mv 8 rfl rfl ?_
  refine s_conv 9 rfl rfl (u64_nat hm) ?_
  refine s_shl 10 rfl rfl rfl (by omega) (shl_one hm) ?_
  refine s_sub 11 rfl rfl rfl (r := (N m : Nat)) (by rw [sizem1]; exact w64 (by omega)) ?_
  refine s_as 7 rfl rfl ?_
  refine SX.next ?_
  refine CW.seq ?_
  refine CW.seq ?_
  refine CW.reg [0, 1, 2, 3] rfl ?_
  refine s_mv 12 rfl rfl ?_
  refine s_mv 13 rfl rfl ?_
  refine s_call1 14 rfl rfl rfl rfl (fun w hw => rlow_spec m _ _ hm) (fun _ _ => trivial) ?_
  refine s_eq 15 rfl rfl rfl (decide_eq_false (by omega)) ?_
  refine SX.next ?_
  refine CW.condF rfl ?_
  refine CW.skip ?_
  refine KN.code ?_
  refine CW.seq ?_
  refine CW.reg [0, 1, 2, 3, 4, 5, 6, 7, 8, 9, 10] rfl ?_
  refine s_mv 18 rfl rfl ?_
  refine s_mv 19 rfl rfl ?_
  refine s_mv 20 rfl rfl ?_
  refine s_mv 21 rfl rfl ?_
  refine s_rem 22 rfl rfl rfl (by omega) rfl ?_
  refine s_mv 23 rfl rfl ?_
  refine s_add 24 rfl rfl rfl (w64 (by omega)) ?_
  refine s_mv 25 rfl rfl ?_
  refine s_rem 26 rfl rfl rfl (by omega) (em_pos2 hm n) ?_
  refine s_call1 27 rfl rfl rfl rfl (v := .int .i64 (pw m (lo m a) n : Nat)) (fun w _ => by rw [pw_fpw hm hx h0]; exact power_spec m _ _ _ hm (by have := em_lt hm n; omega)) (fun _ _ => trivial) ?_
  refine s_as 6 rfl rfl ?_
  refine SX.next ?_
  refine CW.ret ?_
  exact KN.ret (rs := [.tmp 6]) Tryd.results127 rfl (fun w hw => ⟨rfl, hw.nothing⟩)

theorem rpow_spec (m : Nat) (a n : Int) (w : World) (hm : Ok m) : Spec1 Tryd.prog 127 [.int .i64 (m : Nat), .int .i64 a, .int .i64 n] w (.int .i64 (pw m (lo m a) n : Nat)) := by
  by_cases h0 : lo m a = 0
  · exact rpow_zero m a n w hm h0
  · exact rpow_some m a n w hm h0

theorem rexp_spec (m : Nat) (n : Int) (w : World) (hm : Ok m) : Spec1 Tryd.prog 86 [.int .i64 (m : Nat), .int .i64 n] w (.int .i64 (ex m (em m n) : Nat)) := by
  refine spec_of Tryd.func86 rfl Tryd.ntmps86 rfl ?_
  refine CW.seq ?_
  refine CW.reg [0] rfl ?_
  refine s_as 4 rfl rfl ?_
  refine SX.next ?_
  refine CW.seq ?_
  refine CW.reg [0, 1, 2, 3] rfl ?_
  refine s_mv 5 rfl rfl ?_
  refine s_mv 6 rfl rfl ?_
  refine s_call1 7 rfl rfl rfl rfl (v := .int .i64 (ex m (em m n) : Nat)) (fun w _ => by have := rpow_spec m 2 n w hm; rw [lo_two hm, pw_two hm] at this; exact this) (fun _ _ => trivial) ?_
  refine s_as 4 rfl rfl ?_
  refine SX.next ?_
  refine CW.ret ?_
  exact KN.ret (rs := [.tmp 4]) Tryd.results86 rfl (fun w hw => ⟨rfl, hw.nothing⟩)
end Go.Proofs.YtcdmmfpgeagimaaDoor
end
section
/- Tables of truth values. No condition. -/
namespace Go.Proofs.YtcdmmfpgeagimaaDoor
open Go Go.Sx Go.Fm
def btab (n : Nat) (p : Nat → Bool) : Array Value := ((List.range n).map (fun k => .bool (p k))).toArray
theorem btab_size (n : Nat) (p : Nat → Bool) : (btab n p).size = n := by simp [btab]
theorem btab_at {n k : Nat} {p : Nat → Bool} (h : k < n) : (btab n p)[k]? = some (.bool (p k)) := by simp [btab, h]
theorem btab_cong {n : Nat} {p q : Nat → Bool} (h : ∀ k, k < n → p k = q k) : btab n p = btab n q := by
  unfold btab
  congr 1
  exact List.map_congr_left (fun k hk => by rw [h k (List.mem_range.1 hk)])
theorem btab_zero (n : Nat) : (List.replicate n (.bool false)).toArray = btab n (fun _ => false) := by
  unfold btab
  congr 1
  exact (List.map_const' ..).symm ▸ by simp
theorem btab_set {n i : Nat} {p : Nat → Bool} (b : Bool) : (btab n p).setIfInBounds i (.bool b) = btab n (fun k => if k = i then b else p k) := by
  unfold btab
  rw [List.setIfInBounds_toArray]
  congr 1
  apply List.ext_getElem
  · simp
  · intro j h1 h2
    rw [List.getElem_set]
    simp only [List.getElem_map, List.getElem_range]
    by_cases h : i = j
    · rw [if_pos h, if_pos h.symm]
    · rw [if_neg h, if_neg (fun e => h e.symm)]
def memF (Z : List Nat) (k : Nat) : Bool := decide (k ∈ Z)
theorem memF_next (Z : List Nat) (x : Nat) : (fun k => if k = x then true else memF Z k) = memF (Z ++ [x]) := by
  funext k
  unfold memF
  by_cases hk : k = x
  · rw [if_pos hk, hk]; simp
  · rw [if_neg hk]; simp [hk]
theorem memF_nil : memF [] = fun _ => false := by funext k; simp [memF]
end Go.Proofs.YtcdmmfpgeagimaaDoor
end
section
/- Cosets, walked: the program's and the document's. Conditions: the field may be. -/
namespace Go.Proofs.YtcdmmfpgeagimaaDoor
open Go Go.Sx Go.Fm
set_option maxRecDepth 100000
def leI (x y : Int) : Bool := decide (x ≤ y)
theorem sortI_spec {F : Nat → Prop} {w₀ w : World} {R : List Atom} {A : Option Addr} {n c : Nat} (zs : List Int) (hz : zs.length = n) (hn : n ≠ 0) (hsz : n ≤ 1000000) (h : St F w₀ (own 3 1 A n c (ints .i64 zs) :: R) w) :
    Calls Tryd.prog 156 #[.slice A n c] w (fun e w' => ∃ _x : Unit, e = .returned (.tuple #[]) ∧ True ∧ St F w₀ (own 3 1 A n c (ints .i64 (zs.mergeSort leI)) :: R) w') := by
  subst hz
  obtain ⟨D, ⟨⟨h1, h2⟩, hD⟩, hlt, _⟩ := h.work (i := 0) rfl
  rcases h2 with ⟨_, h3⟩ | ⟨g, cap, cur, hv, hb, hh, hc, hm, hs, ht⟩
  · exact absurd h3 hn
  · injection hv with hA _ hcp
    subst hA
    subst hcp
    refine Calls.mono (Tryd.slices_Sort_int g 0 c zs w (fun j hj => ⟨?_, ?_⟩) (hlt g ((hD g).2 ⟨by simp, rfl⟩)) (by omega)) ?_
    · have hj2 : j < zs.length := by simpa using hj
      have := h.ownCell (q := 0) (j := j) (v := .int .i64 (zs.getD j 0)) rfl (intsAt hj2)
      show w.cell? ⟨ob (some ⟨g, 0, none⟩), 0 + j, none⟩ = _
      rw [this, getElem!_pos _ j hj]
      simp [hj2]
    · exact h.ownFree (q := 0) (j := 0 + j) rfl hn
    · rintro e w' ⟨he, N, os, hw⟩
      subst hw
      exact ⟨(), he, trivial, St.sorted h (List.length_mergeSort ..)⟩
theorem sorted_of {l : List Nat} : ∃ s : List Nat, (l.map Int.ofNat).mergeSort leI = s.map Int.ofNat ∧ s.Perm l ∧ s.Pairwise (· ≤ ·) := by
  have hp := List.mergeSort_perm (l.map Int.ofNat) leI
  have hs := List.pairwise_mergeSort (le := leI) (fun a b c h1 h2 => decide_eq_true (Int.le_trans (of_decide_eq_true h1) (of_decide_eq_true h2))) (fun a b => by unfold leI; rcases Int.le_total a b with h | h <;> simp [h]) (l.map Int.ofNat)
  refine ⟨((l.map Int.ofNat).mergeSort leI).map Int.toNat, ?_, ?_, ?_⟩
  · rw [List.map_map]
    refine ((List.map_congr_left (fun x hx => ?_)).trans (List.map_id _)).symm
    obtain ⟨y, _, rfl⟩ := List.mem_map.1 (hp.mem_iff.1 hx)
    rfl
  · have := hp.map Int.toNat
    rwa [List.map_map, show (Int.toNat ∘ Int.ofNat) = id from rfl, List.map_id] at this
  · exact List.Pairwise.map _ (fun a b h => by have := of_decide_eq_true h; omega) hs
theorem cos_sort {m : Nat} (hm : Ok m) {i k : Nat} (h : cst m i k ∈ orb m i k) (hn : (orb m i k).Nodup) : ((orb m i k).map Int.ofNat).mergeSort leI = (cosP m i).map Int.ofNat := by
  obtain ⟨s, e, hp, hs⟩ := sorted_of (l := orb m i k)
  rw [e, cos_sorted hm h hn hp hs]
theorem tmod_lt2 {k : Int} (hk : 0 < k) (m : Int) : -k < m.tmod k ∧ m.tmod k < k := by
  have h1 := Int.emod_nonneg m (b := k) (by omega)
  have h2 := Int.emod_lt_of_pos m hk
  rw [Int.tmod_eq_emod]
  split <;> omega
theorem polyI_ne {m : Nat} (hm : Ok m) : ¬ ((polyI (m : Nat) : Nat) : Int) = 0 := fun h => by
  have := (polyI_zero _).1 h
  have h1 := hm.lo
  have h2 := hm.hi
  omega
theorem cos_filter {m : Nat} (hm : Ok m) {i k : Nat} (h : cst m i k ∈ orb m i k) : (List.range (N m)).filter (memF (orb m i k)) = cosP m i := by
  unfold cosP
  refine List.filter_congr (fun x _ => ?_)
  unfold memF
  rw [decide_eq_decide, orb_all hm h]
  unfold cosP
  rw [List.mem_filter, decide_eq_true_eq]
  refine ⟨fun hx => hx.2, fun hx => ⟨?_, hx⟩⟩
  obtain ⟨j, _, e⟩ := hx
  rw [← e]
  exact List.mem_range.2 (cst_lt hm i j)
theorem filt_yes {p : Nat → Bool} {k : Nat} (h : p k = true) : (List.range (k + 1)).filter p = (List.range k).filter p ++ [k] := by
  rw [List.range_succ, List.filter_append]; simp [h]
theorem filt_no {p : Nat → Bool} {k : Nat} (h : ¬ p k = true) : (List.range (k + 1)).filter p = (List.range k).filter p := by
  rw [List.range_succ, List.filter_append]; simp [h]
theorem filt_len (p : Nat → Bool) (k : Nat) : ((List.range k).filter p).length ≤ k := by
  have := List.length_filter_le p (List.range k); simpa using this
theorem mem_nat {l : List Nat} {x : Nat} : ((x : Nat) : Int) ∈ l.map Int.ofNat ↔ x ∈ l := by
  rw [List.mem_map]
  constructor
  · rintro ⟨y, hy, e⟩
    have : y = x := Int.ofNat.inj e
    rwa [← this]
  · intro h; exact ⟨x, h, rfl⟩
theorem getD_mem {l : List Int} {i : Nat} (h : i < l.length) : l.getD i 0 ∈ l := by
  rw [List.getD_eq_getElem?_getD, List.getElem?_eq_getElem h]; exact List.getElem_mem h

theorem polyM_any (m : Int) (w : World) : Spec1 Tryd.prog 138 [.int .i64 m] w (.int .i64 (polyI m : Nat)) := by
  refine spec_of Tryd.func138 rfl Tryd.ntmps138 rfl ?_
  refine CW.seq ?_
  refine CW.reg [0] rfl ?_
  refine s_as 2 rfl rfl ?_
  refine SX.next ?_
  refine CW.seq ?_
  refine CW.reg [0, 1, 2] rfl ?_
  refine s_buildA 4 rfl rfl (cells := polyC) rfl ?_
  refine s_alloc 3 rfl (fun _ _ => trivial) (fun ga => ?_)
  refine s_stAll 0 rfl rfl (by kernel_rfl) rfl rfl rfl (by decide) (fun _ _ => trivial) ?_
  refine SX.next ?_
  refine CW.seq ?_
  refine CW.seq ?_
  refine CW.reg [0, 1, 2, 3, 4, 5] rfl ?_
  refine s_mv 5 rfl rfl ?_
  refine s_lt 6 rfl rfl rfl rfl ?_
  refine s_mv 7 rfl rfl ?_
  refine SX.bool 7 rfl (fun hb => ?_) (fun hb => ?_)
  · skip
    replace hb := of_decide_eq_true hb
    refine SX.skip rfl ?_
    refine SX.skip rfl ?_
    refine s_pickT 10 rfl rfl rfl ?_
    refine SX.next ?_
    refine CW.condT rfl ?_
    refine CW.seq ?_
    refine CW.reg [0] rfl ?_
    refine s_as 2 rfl rfl ?_
    refine SX.next ?_
    refine CW.ret ?_
    exact KN.ret (rs := [.tmp 2]) Tryd.results138 rfl (fun w hw => ⟨by rw [oneOf, ← polyI_bad (.inl hb)]; rfl, hw.nothing⟩)
  · skip
    replace hb := of_decide_eq_false hb
    refine s_mv 8 rfl rfl ?_
    refine s_gt 9 rfl rfl rfl rfl ?_
    refine s_pickF 10 rfl rfl rfl ?_
    refine SX.next ?_
    refine CW.test rfl (fun hc => ?_) (fun hc => ?_)
    · skip
      refine CW.seq ?_
      refine CW.reg [0] rfl ?_
      refine s_as 2 rfl rfl ?_
      refine SX.next ?_
      refine CW.ret ?_
      exact KN.ret (rs := [.tmp 2]) Tryd.results138 rfl (fun w hw => ⟨by rw [oneOf, ← polyI_bad (.inr hc)]; rfl, hw.nothing⟩)
    · skip
      refine CW.skip ?_
      refine KN.code ?_
      refine CW.seq ?_
      refine CW.reg [0, 1, 2, 3, 4] rfl ?_
      refine s_mv 11 rfl rfl ?_
      refine s_sub 12 rfl rfl rfl (w64 (by omega)) ?_
      refine s_iaR 13 (m - 3).toNat rfl rfl rfl (by omega) (by omega) ?_
      refine s_ldB 14 0 rfl rfl rfl (by rw [Nat.zero_add, Nat.mul_one]; exact polyC_at hb hc) ?_
      refine s_as 2 rfl rfl ?_
      refine SX.next ?_
      refine CW.ret ?_
      exact KN.ret (rs := [.tmp 2]) Tryd.results138 rfl (fun w hw => ⟨rfl, hw.nothing⟩)

theorem idx_spec (A : Option Addr) (n c : Nat) (l : List Int) (v : Int) (w : World) (ha : Has (sl 1 A n (ints .i64 l)) w) (hn : n ≤ 4294967296) : SpecX Tryd.prog 157 [.slice A n c, .int .i64 v] w (X := Int) (fun r => .int .i64 r) (fun r => (0 ≤ r ↔ v ∈ l)) (fun _ => []) := by
  have hla := ints_len ha
  subst hla
  refine spec_of Tryd.func157 rfl Tryd.ntmps157 rfl ?_
  refine CW.seq ?_
  refine CW.reg [0] rfl ?_
  refine s_as 4 rfl rfl ?_
  refine SX.next ?_
  refine CW.seq ?_
  refine CW.seq ?_
  refine CW.reg [0, 1, 2] rfl ?_
  refine s_mv 6 rfl rfl ?_
  refine s_len 7 rfl rfl ?_
  refine s_mv 8 rfl rfl ?_
  refine SX.next ?_
  refine CW.block ?_
  refine CW.loop (G := Nat) (fun i => [(0, .slice A l.length c), (1, .int .i64 v), (7, .int .i64 (l.length : Nat)), (8, .int .i64 (i : Nat))]) (fun _ => Sto w []) (fun i => i ≤ l.length ∧ ∀ j, j < i → v ≠ l.getD j 0) (fun i => l.length - i) 0 ⟨rfl, rfl, rfl, rfl, trivial⟩ (fun _ h => h) ⟨Nat.zero_le _, fun j hj => absurd hj (Nat.not_lt_zero _)⟩ ?_
  rintro i ⟨hi, hno⟩
  refine CW.seq ?_
  refine CW.reg [0] rfl ?_
  refine s_lt 9 rfl rfl rfl rfl ?_
  refine SX.next ?_
  refine CW.seq ?_
  refine CW.test rfl (fun hc => ?_) (fun hc => ?_)
  · skip
    refine CW.skip ?_
    refine KN.code ?_
    refine CW.seq ?_
    refine CW.block ?_
    refine CW.seq ?_
    refine CW.reg [0, 1] rfl ?_
    refine s_mv 10 rfl rfl ?_
    refine s_as 5 rfl rfl ?_
    refine SX.next ?_
    refine CW.seq ?_
    refine CW.reg [0, 1, 2, 3, 4, 5] rfl ?_
    refine s_mv 11 rfl rfl ?_
    refine s_mv 12 rfl rfl ?_
    refine s_mv 13 rfl rfl ?_
    refine s_iaV 14 i (fun w hw => hw.old ha) rfl rfl rfl rfl (by omega) ?_
    refine s_ldV 15 (fun w hw => hw.old ha) rfl rfl (by rw [Nat.mul_one]; exact intsAt (by omega)) (by omega) ?_
    refine s_eq 16 rfl rfl rfl rfl ?_
    refine SX.next ?_
    refine CW.test rfl (fun hcv => ?_) (fun hcv => ?_)
    · skip
      have hmem : v ∈ l := by rw [hcv]; exact getD_mem (by omega)
      refine CW.seq ?_
      refine CW.reg [0, 1] rfl ?_
      refine s_mv 17 rfl rfl ?_
      refine s_as 4 rfl rfl ?_
      refine SX.next ?_
      refine CW.ret ?_
      exact KN.ret (rs := [.tmp 4]) Tryd.results157 rfl (fun w hw => ⟨(i : Nat), rfl, ⟨fun _ => hmem, fun _ => by omega⟩, hw⟩)
    · skip
      refine CW.skip ?_
      refine KN.blk ?_
      refine KN.code ?_
      refine CW.reg [0, 1] rfl ?_
      refine s_add 18 rfl rfl rfl (r := ((i + 1 : Nat) : Int)) (w64 (by omega)) ?_
      refine s_mv 8 rfl rfl ?_
      refine SX.end_ ?_
      exact KN.back (i + 1) ⟨rfl, rfl, rfl, rfl, trivial⟩ (fun _ h => h) ⟨by omega, fun j hj => by by_cases h : j = i; (subst h; exact hcv); exact hno j (by omega)⟩ (by omega)
  · skip
    have hnm : v ∉ l := fun h => by
      obtain ⟨j, hj, e⟩ := List.getElem_of_mem h
      exact hno j (by omega) (by rw [← e]; simp [hj])
    refine CW.exit rfl ?_
    refine KN.code ?_
    refine CW.seq ?_
    refine CW.reg [0] rfl ?_
    refine s_as 4 rfl rfl ?_
    refine SX.next ?_
    refine CW.ret ?_
    exact KN.ret (rs := [.tmp 4]) Tryd.results157 rfl (fun w hw => ⟨-1, rfl, ⟨fun h => by omega, fun h => absurd h hnm⟩, hw⟩)

theorem has_spec (A : Option Addr) (n c : Nat) (l : List Int) (v : Int) (w : World) (ha : Has (sl 1 A n (ints .i64 l)) w) (hn : n ≤ 4294967296) : Spec1 Tryd.prog 147 [.slice A n c, .int .i64 v] w (.bool (decide (v ∈ l))) := by
  refine spec_of Tryd.func147 rfl Tryd.ntmps147 rfl ?_
  refine CW.seq ?_
  refine CW.reg [0] rfl ?_
  refine s_as 4 rfl rfl ?_
  refine SX.next ?_
  refine CW.seq ?_
  refine CW.reg [0, 1, 2, 3, 4] rfl ?_
  refine s_mv 5 rfl rfl ?_
  refine s_mv 6 rfl rfl ?_
  refine s_call 7 rfl rfl rfl rfl (fun w hw => idx_spec A n c l v w (hw.old ha) hn) (fun _ _ => trivial) (fun r hr => ?_)
  refine s_ge 8 rfl rfl rfl (r := decide (v ∈ l)) (by rw [decide_eq_decide]; exact hr) ?_
  refine s_as 4 rfl rfl ?_
  refine SX.next ?_
  refine CW.ret ?_
  exact KN.ret (rs := [.tmp 4]) Tryd.results147 rfl (fun w hw => ⟨rfl, hw.nothing⟩)

theorem coset_spec (m : Nat) (i : Int) (w : World) (hm : Ok m) : SpecLE Tryd.prog 146 [.int .i64 (m : Nat), .int .i64 i] w (cosP m (em m i)) := by
  have hNs := N_succ m
  have hNp := N_pos hm
  have hmh := hm.hi
  have hpo := polyI_ne hm
  have htb := tmod_lt2 (k := ((N m) : Nat)) (by omega) i
  have hel := em_lt hm i
  refine spec_of Tryd.func146 rfl Tryd.ntmps146 rfl ?_
  refine CW.seq ?_
  refine CW.reg [0, 1] rfl ?_
  refine s_as 4 rfl rfl ?_
  refine s_as 5 rfl rfl ?_
  refine SX.next ?_
  refine CW.seq ?_
  refine CW.seq ?_
  refine CW.reg [0, 1, 2] rfl ?_
  refine s_mv 8 rfl rfl ?_
  refine s_call1 9 rfl rfl rfl rfl (fun w hw => polyM_any _ w) (fun _ _ => trivial) ?_
  refine s_eq 10 rfl rfl rfl (decide_eq_false hpo) ?_
  refine SX.next ?_
  refine CW.condF rfl ?_
  refine CW.skip ?_
  refine KN.code ?_
  refine CW.seq ?_
  refine CW.reg [0, 1, 2, 3] rfl ?_
  refine s_mv 12 rfl rfl ?_
  refine s_shl 13 rfl rfl rfl (by omega) (shl_one hm) ?_
  refine s_sub 14 rfl rfl rfl (r := (((N m) : Nat) : Int)) (by rw [show (((N m) + 1 : Nat) : Int) - 1 = (((N m) : Nat) : Int) by omega]; exact w64 (by omega)) ?_
  refine s_as 6 rfl rfl ?_
  refine SX.next ?_
  refine CW.seq ?_
  refine CW.reg [0, 1, 2, 3, 4, 5, 6, 7] rfl ?_
  refine s_mv 15 rfl rfl ?_
  refine s_mv 16 rfl rfl ?_
  refine s_rem 17 rfl rfl rfl (by omega) rfl ?_
  refine s_mv 18 rfl rfl ?_
  refine s_add 19 rfl rfl rfl (w64 (by omega)) ?_
  refine s_mv 20 rfl rfl ?_
  refine s_rem 21 rfl rfl rfl (by omega) (r := ((cst m (em m i) 0 : Nat) : Int)) (by rw [em_pos2 hm i]; unfold cst; rw [Nat.pow_zero, Nat.mul_one, Nat.mod_eq_of_lt hel]) ?_
  refine s_as 1 rfl rfl ?_
  refine SX.next ?_
  refine CW.seq ?_
  refine CW.reg [0] rfl ?_
  refine s_as 7 rfl rfl ?_
  refine SX.next ?_
  refine CW.seq ?_
  refine CW.block ?_
  refine CW.loop (G := Nat × Option Addr × Nat) (fun q => [(1, .int .i64 (cst m (em m i) q.1 : Nat)), (6, .int .i64 ((N m) : Nat)), (7, .slice q.2.1 q.1 q.2.2)]) (fun q => Sto w [own 3 1 q.2.1 q.1 q.2.2 (ints .i64 ((orb m (em m i) q.1).map Int.ofNat))]) (fun q => q.1 ≤ m ∧ (orb m (em m i) q.1).Nodup ∧ q.1 ≤ q.2.2) (fun q => m - q.1) (0, none, 0) ⟨rfl, rfl, rfl, trivial⟩ (fun _ h => h.begin_ 3 1) ⟨Nat.zero_le _, by simp [orb], Nat.le_refl _⟩ ?_
  rintro q ⟨hq, hnd, hqc⟩
  have hcl := cst_lt hm (em m i) q.1
  refine CW.seq ?_
  refine CW.seq ?_
  refine CW.reg [0, 1, 2, 3] rfl ?_
  refine s_mv 22 rfl rfl ?_
  refine s_mv 23 rfl rfl ?_
  refine s_call1 24 rfl rfl rfl rfl (v := .bool (decide (cst m (em m i) q.1 ∈ (orb m (em m i) q.1)))) (fun w hw => by have := has_spec q.2.1 q.1 q.2.2 ((orb m (em m i) q.1).map Int.ofNat) (cst m (em m i) q.1 : Nat) w ((hw.has (i := 0) rfl).of_own) (by omega); rw [decide_eq_decide.2 mem_nat] at this; exact this) (fun _ _ => trivial) ?_
  refine s_not 25 rfl rfl ?_
  refine SX.next ?_
  refine CW.cond rfl (fun hc => ?_) (fun hc => ?_)
  · skip
    have hno : cst m (em m i) q.1 ∉ (orb m (em m i) q.1) := by simpa using hc
    have hlt : q.1 < m := Nat.lt_of_le_of_ne hq (fun h => hno (by rw [h]; exact orb_end hm _))
    refine CW.skip ?_
    refine KN.code ?_
    refine CW.block ?_
    refine CW.seq ?_
    refine CW.reg [0, 1, 2, 3, 4] rfl ?_
    refine s_mv 26 rfl rfl ?_
    refine s_mv 27 rfl rfl ?_
    refine s_bsl 28 rfl rfl (cells := #[.int .i64 (cst m (em m i) q.1 : Nat)]) (by kernel_rfl) rfl (fun _ _ => trivial) (fun gb => ?_)
    refine s_app 29 1 rfl rfl rfl rfl (ys := [.int .i64 (cst m (em m i) q.1 : Nat)]) (fun w hw => Has.cong ((hw.has (i := 0) rfl).blk_sl (m := 1) rfl) rfl) rfl rfl (by omega) (by unfold maxLen; omega) (by omega) (fun _ _ _ _ => trivial) (fun A2 c2 hc2 => ?_)
    refine s_as 7 rfl rfl ?_
    refine SX.next ?_
    refine CW.reg [0, 1, 2, 3, 4] rfl ?_
    refine s_mv 30 rfl rfl ?_
    refine s_mul 31 rfl rfl rfl (r := ((2 * cst m (em m i) q.1 : Nat) : Int)) (by rw [show (2 : Int) * ((cst m (em m i) q.1 : Nat) : Int) = ((2 * cst m (em m i) q.1 : Nat) : Int) by omega]; exact w64 (by omega)) ?_
    refine s_mv 32 rfl rfl ?_
    refine s_rem 33 rfl rfl rfl (by omega) (r := ((cst m (em m i) (q.1 + 1) : Nat) : Int)) (by rw [cst_succ]; rfl) ?_
    refine s_as 1 rfl rfl ?_
    refine SX.end_ ?_
    refine KN.blk ?_
    exact KN.back (q.1 + 1, A2, c2) ⟨rfl, rfl, rfl, trivial⟩ (fun _ h => by
      have h2 := h.pick [1] rfl
      simp only [orb_succ, List.map_append, ints, List.map_cons, List.map_nil] at h2 ⊢
      exact h2) ⟨by simp only; omega, orb_nodup hnd hno, hc2⟩ (by simp only; omega)
  · skip
    have hyes : cst m (em m i) q.1 ∈ (orb m (em m i) q.1) := by simpa using hc
    have hq0 : q.1 ≠ 0 := fun h => by rw [h] at hyes; simp [orb] at hyes
    have hst := cos_sort hm hyes hnd
    have hcl2 := cos_len hm hyes hnd
    refine CW.exit rfl ?_
    refine KN.code ?_
    refine CW.seq ?_
    refine CW.reg [0, 1] rfl ?_
    refine s_mv 34 rfl rfl ?_
    refine s_callM 35 rfl rfl rfl rfl (v := fun _ : Unit => .tuple #[]) (pf := fun _ => True) (L' := fun _ => [own 3 1 q.2.1 q.1 q.2.2 (ints .i64 (((orb m (em m i) q.1).map Int.ofNat).mergeSort leI))]) (fun w hw => sortI_spec _ (by rw [List.length_map, orb_len]) hq0 (by omega) hw) (fun _ _ _ => trivial) (fun _ _ => ?_)
    refine SX.next ?_
    refine CW.seq ?_
    refine CW.reg [0, 1, 2] rfl ?_
    refine s_mv 36 rfl rfl ?_
    refine s_as 4 rfl rfl ?_
    refine s_as 5 rfl rfl ?_
    refine SX.next ?_
    refine CW.ret ?_
    exact KN.ret (rs := [.tmp 4, .tmp 5]) Tryd.results146 rfl (fun w hw => ⟨(q.2.1, q.2.2), by rw [hcl2]; rfl, by rw [hcl2]; exact hqc, by rw [hst] at hw; rw [hcl2, nats_ints]; exact hw⟩)

theorem rcoset_spec (m : Nat) (i : Int) (w : World) (hm : Ok m) : SpecL Tryd.prog 151 [.int .i64 (m : Nat), .int .i64 i] w (cosP m (em m i)) := by
  have hNs := N_succ m
  have hNp := N_pos hm
  have hmh := hm.hi
  have htb := tmod_lt2 (k := ((N m) : Nat)) (by omega) i
  have hel := em_lt hm i
  refine spec_of Tryd.func151 rfl Tryd.ntmps151 rfl ?_
  refine CW.seq ?_
  refine CW.reg [0] rfl ?_
  refine s_as 4 rfl rfl ?_
  refine SX.next ?_
  refine CW.seq ?_
  refine CW.reg [0, 1, 2, 3, 4] rfl ?_
  refine s_mv 10 rfl rfl ?_
  refine s_conv 11 rfl rfl (u64_nat hm) ?_
  refine s_shl 12 rfl rfl rfl (by omega) (shl_one hm) ?_
  refine s_sub 13 rfl rfl rfl (r := (((N m) : Nat) : Int)) (by rw [show (((N m) + 1 : Nat) : Int) - 1 = (((N m) : Nat) : Int) by omega]; exact w64 (by omega)) ?_
  refine s_as 5 rfl rfl ?_
  refine SX.next ?_
  refine CW.seq ?_
  refine CW.reg [0, 1, 2, 3, 4, 5, 6, 7] rfl ?_
  refine s_mv 14 rfl rfl ?_
  refine s_mv 15 rfl rfl ?_
  refine s_rem 16 rfl rfl rfl (by omega) rfl ?_
  refine s_mv 17 rfl rfl ?_
  refine s_add 18 rfl rfl rfl (w64 (by omega)) ?_
  refine s_mv 19 rfl rfl ?_
  refine s_rem 20 rfl rfl rfl (by omega) (r := ((cst m (em m i) 0 : Nat) : Int)) (by rw [em_pos2 hm i]; unfold cst; rw [Nat.pow_zero, Nat.mul_one, Nat.mod_eq_of_lt hel]) ?_
  refine s_as 1 rfl rfl ?_
  refine SX.next ?_
  refine CW.seq ?_
  refine CW.reg [0, 1, 2] rfl ?_
  refine s_mv 21 rfl rfl ?_
  refine s_make 22 (N m) rfl rfl rfl rfl rfl (by omega) (fun _ _ => trivial) (fun gh => ?_)
  refine s_as 6 rfl rfl ?_
  refine SX.next ?_
  refine CW.seq ?_
  refine CW.reg [0, 1] rfl ?_
  refine s_mv 23 rfl rfl ?_
  refine s_as 7 rfl rfl ?_
  refine SX.next ?_
  refine CW.seq ?_
  refine CW.block ?_
  refine CW.loop (G := Nat) (fun k => [(5, .int .i64 ((N m) : Nat)), (6, .slice (some ⟨gh, 0, none⟩) (N m) (N m)), (7, .int .i64 (cst m (em m i) k : Nat))]) (fun k => Sto w [blk gh 4 (btab (N m) (memF (orb m (em m i) k)))]) (fun k => k ≤ m ∧ (orb m (em m i) k).Nodup) (fun k => m - k) 0 ⟨rfl, rfl, rfl, trivial⟩ (fun _ h => by rw [show orb m (em m i) 0 = [] from rfl, memF_nil, ← btab_zero]; exact h) ⟨Nat.zero_le _, by simp [orb]⟩ ?_
  rintro k ⟨hk, hnd⟩
  have hcl := cst_lt hm (em m i) k
  refine CW.seq ?_
  refine CW.seq ?_
  refine CW.reg [0, 1, 2, 3, 4] rfl ?_
  refine s_mv 24 rfl rfl ?_
  refine s_mv 25 rfl rfl ?_
  refine s_ia0 26 (cst m (em m i) k) rfl rfl rfl rfl hcl ?_
  refine s_ldB 27 0 rfl rfl rfl (btab_at hcl) ?_
  refine s_not 28 rfl rfl ?_
  refine SX.next ?_
  refine CW.cond rfl (fun hc => ?_) (fun hc => ?_)
  · skip
    have hno : cst m (em m i) k ∉ (orb m (em m i) k) := by simpa [memF] using hc
    have hlt : k < m := Nat.lt_of_le_of_ne hk (fun h => hno (by rw [h]; exact orb_end hm _))
    refine CW.skip ?_
    refine KN.code ?_
    refine CW.block ?_
    refine CW.seq ?_
    refine CW.reg [0, 1, 2, 3] rfl ?_
    refine s_mv 29 rfl rfl ?_
    refine s_mv 30 rfl rfl ?_
    refine s_ia0 31 (cst m (em m i) k) rfl rfl rfl rfl hcl ?_
    refine s_stB 0 rfl rfl rfl rfl rfl (by rw [btab_size]; exact hcl) (fun _ _ => trivial) ?_
    refine SX.next ?_
    refine CW.reg [0, 1, 2, 3, 4] rfl ?_
    refine s_mv 32 rfl rfl ?_
    refine s_mul 33 rfl rfl rfl (r := ((2 * cst m (em m i) k : Nat) : Int)) (by rw [show (2 : Int) * ((cst m (em m i) k : Nat) : Int) = ((2 * cst m (em m i) k : Nat) : Int) by omega]; exact w64 (by omega)) ?_
    refine s_mv 34 rfl rfl ?_
    refine s_rem 35 rfl rfl rfl (by omega) (r := ((cst m (em m i) (k + 1) : Nat) : Int)) (by rw [cst_succ]; rfl) ?_
    refine s_as 7 rfl rfl ?_
    refine SX.end_ ?_
    refine KN.blk ?_
    exact KN.back (k + 1) ⟨rfl, rfl, rfl, trivial⟩ (fun _ h => by rw [orb_succ, ← memF_next, ← btab_set]; exact h) ⟨by omega, orb_nodup hnd hno⟩ (by omega)
  · skip
    have hyes : cst m (em m i) k ∈ (orb m (em m i) k) := by simpa [memF] using hc
    have hcf := cos_filter hm hyes
    obtain ⟨e, he⟩ : ∃ e, e = k := ⟨k, rfl⟩
    rw [← he] at hcf ⊢
    refine CW.exit rfl ?_
    refine KN.code ?_
    refine CW.seq ?_
    refine CW.reg [0] rfl ?_
    refine s_as 8 rfl rfl ?_
    refine SX.next ?_
    refine CW.seq ?_
    refine CW.seq ?_
    refine CW.reg [0] rfl ?_
    refine s_as 9 rfl rfl ?_
    refine SX.next ?_
    refine CW.block ?_
    refine CW.loop (G := Nat × Option Addr × Nat) (fun q => [(5, .int .i64 ((N m) : Nat)), (6, .slice (some ⟨gh, 0, none⟩) (N m) (N m)), (8, .slice q.2.1 ((List.range q.1).filter (memF (orb m (em m i) e))).length q.2.2), (9, .int .i64 (q.1 : Nat))]) (fun q => Sto w [own 3 1 q.2.1 ((List.range q.1).filter (memF (orb m (em m i) e))).length q.2.2 (nats .i64 ((List.range q.1).filter (memF (orb m (em m i) e)))), blk gh 4 (btab (N m) (memF (orb m (em m i) e)))]) (fun q => q.1 ≤ (N m) ∧ ((List.range q.1).filter (memF (orb m (em m i) e))).length ≤ q.2.2) (fun q => (N m) - q.1) (0, none, 0) ⟨rfl, rfl, rfl, rfl, trivial⟩ (fun _ h => h.begin_ 3 1) ⟨Nat.zero_le _, Nat.le_refl _⟩ ?_
    rintro q ⟨hq, hqc⟩
    have hfl := filt_len (memF (orb m (em m i) e)) q.1
    refine CW.seq ?_
    refine CW.seq ?_
    refine CW.reg [0, 1, 2] rfl ?_
    refine s_mv 36 rfl rfl ?_
    refine s_mv 37 rfl rfl ?_
    refine s_lt 38 rfl rfl rfl rfl ?_
    refine SX.next ?_
    refine CW.test rfl (fun hc => ?_) (fun hc => ?_)
    · skip
      refine CW.skip ?_
      refine KN.code ?_
      refine CW.seq ?_
      refine CW.block ?_
      refine CW.seq ?_
      refine CW.reg [0, 1, 2, 3] rfl ?_
      refine s_mv 41 rfl rfl ?_
      refine s_mv 42 rfl rfl ?_
      refine s_ia0 43 q.1 rfl rfl rfl rfl (by omega) ?_
      refine s_ldB 44 1 rfl rfl rfl (btab_at (by omega)) ?_
      refine SX.next ?_
      refine CW.cond rfl (fun hc2 => ?_) (fun hc2 => ?_)
      · skip
        have hnx := filt_yes hc2
        refine CW.reg [0, 1, 2, 3, 4] rfl ?_
        refine s_mv 45 rfl rfl ?_
        refine s_mv 46 rfl rfl ?_
        refine s_bsl 47 rfl rfl (cells := #[.int .i64 (q.1 : Nat)]) (by kernel_rfl) rfl (fun _ _ => trivial) (fun gb => ?_)
        refine s_app 48 1 rfl rfl rfl rfl (ys := [.int .i64 (q.1 : Nat)]) (fun w hw => Has.cong ((hw.has (i := 0) rfl).blk_sl (m := 1) rfl) rfl) rfl rfl (by omega) (by unfold maxLen; omega) (by omega) (fun _ _ _ _ => trivial) (fun A2 c2 hc2 => ?_)
        refine s_as 8 rfl rfl ?_
        refine SX.end_ ?_
        refine KN.blk ?_
        refine KN.code ?_
        refine CW.reg [0, 1, 2] rfl ?_
        refine s_mv 39 rfl rfl ?_
        refine s_add 40 rfl rfl rfl (r := ((q.1 + 1 : Nat) : Int)) (w64 (by omega)) ?_
        refine s_as 9 rfl rfl ?_
        refine SX.end_ ?_
        exact KN.back (q.1 + 1, A2, c2) ⟨rfl, rfl, by rw [hnx, List.length_append]; rfl, rfl, trivial⟩ (fun _ h => by
          simp only [hnx]
          rw [← nats_snoc, List.length_append]
          exact h.pick [1, 1] rfl) ⟨by simp only; omega, by simp only [hnx]; rw [List.length_append]; exact hc2⟩ (by simp only; omega)
      · skip
        have hnx := filt_no (p := memF (orb m (em m i) e)) (k := q.1) (by simp [hc2])
        refine CW.skip ?_
        refine KN.blk ?_
        refine KN.code ?_
        refine CW.reg [0, 1, 2] rfl ?_
        refine s_mv 39 rfl rfl ?_
        refine s_add 40 rfl rfl rfl (r := ((q.1 + 1 : Nat) : Int)) (w64 (by omega)) ?_
        refine s_as 9 rfl rfl ?_
        refine SX.end_ ?_
        exact KN.back (q.1 + 1, q.2) ⟨rfl, rfl, by simp only [hnx]; rfl, rfl, trivial⟩ (fun _ h => by simp only [hnx]; exact h) ⟨by simp only; omega, by simp only [hnx]; exact hqc⟩ (by simp only; omega)
    · skip
      have hqe : q.1 = (N m) := by omega
      rw [hqe] at hqc
      rw [hcf] at hqc
      refine CW.exit rfl ?_
      refine KN.code ?_
      refine CW.seq ?_
      refine CW.reg [0, 1] rfl ?_
      refine s_mv 49 rfl rfl ?_
      refine s_as 4 rfl rfl ?_
      refine SX.next ?_
      refine CW.ret ?_
      exact KN.ret (rs := [.tmp 4]) Tryd.results151 rfl (fun w hw => ⟨q.2, by rw [hqe, hcf]; rfl, hqc, by rw [hqe, hcf] at hw; exact hw.pick [0] rfl⟩)
end Go.Proofs.YtcdmmfpgeagimaaDoor
end
