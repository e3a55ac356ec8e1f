/- The places of a polynomial: plain mathematics of package search. Condition: Ok m. -/
import Derived.Test.YtfhfckoemgkdlaaDoorPr3
import Derived.Test.YtfhfckoemgkdlaaDoorSearch
namespace Go.Fm
open Go Go.Proofs.YtfhfckoemgkdlaaDoor
variable {m : Nat} (hm : Ok m)
include hm
/-! ### Values as sums -/
theorem evL_xs {x : Nat} (hx : x < 2 ^ m) : ∀ {a : List Nat} (_ : ∀ y ∈ a, y < 2 ^ m), evL m a x = xs (fun k => gm m (cf a k) (fpw m x k)) a.length
  | [], _ => rfl
  | a0 :: r, h => by
    have hr : ∀ y ∈ r, y < 2 ^ m := fun y hy => h y (List.mem_cons_of_mem _ hy)
    have h0 : a0 < 2 ^ m := h a0 (List.mem_cons_self ..)
    show gm m (evL m r x) x ^^^ a0 = xs _ (r.length + 1)
    rw [evL_xs hx hr, gm_xs_left hm x _ (fun i _ => gm_lt hm (cf_lt hr (Nat.two_pow_pos m) i) _), xs_first, Nat.xor_comm]
    congr 1
    · show a0 = gm m (cf (a0 :: r) 0) 1
      rw [cf_cons_zero, gm_one_right hm h0]
    · refine xs_congr (fun i _ => ?_)
      show gm m (gm m (cf r i) (fpw m x i)) x = gm m (cf (a0 :: r) (i + 1)) (gm m (fpw m x i) x)
      rw [cf_cons_succ, gm_assoc hm (cf_lt hr (Nat.two_pow_pos m) i) (fpw_lt hm _ _) hx]
/-- The power of 2 with a whole number. -/
def exz (m : Nat) (n : Int) : Nat := ex m (em m n)
theorem exz_lt (n : Int) : exz m n < 2 ^ m := (ex_lt hm _).2
theorem exz_ne (n : Int) : exz m n ≠ 0 := by have := (ex_lt hm (em m n)).1; unfold exz; omega
omit hm in
theorem em_cast (n : Int) (h : 0 < N m) : ((em m n : Nat) : Int) = n % ((N m : Nat) : Int) := by
  have := Int.emod_nonneg n (b := ((N m : Nat) : Int)) (by omega)
  unfold em; omega
theorem exz_of {n : Int} {k : Nat} (h : n % ((N m : Nat) : Int) = ((k : Nat) : Int) % ((N m : Nat) : Int)) : exz m n = ex m k := by
  unfold exz
  rw [em_congr h, em_nat, ex_mod hm]
theorem exz_add (a b : Int) : gm m (exz m a) (exz m b) = exz m (a + b) := by
  have hp := (N_pos hm).1
  unfold exz
  rw [gm_ex hm]
  refine (exz_of hm (k := em m a + em m b) ?_).symm
  rw [Int.natCast_add, em_cast a (by omega), em_cast b (by omega)]
  exact Int.add_emod _ _ _
theorem exz_zero : exz m 0 = 1 := exz_of hm (k := 0) rfl
omit hm in
theorem exz_congr {a b : Int} (h : a % ((N m : Nat) : Int) = b % ((N m : Nat) : Int)) : exz m a = exz m b := by unfold exz; rw [em_congr h]
theorem exz_mulN (a : Int) (k : Nat) : ex m (em m a * k) = exz m (a * (k : Nat)) := by
  have hp := (N_pos hm).1
  refine (exz_of hm ?_).symm
  rw [Int.natCast_mul, em_cast a (by omega)]
  rw [Int.mul_emod a (k : Int), Int.mul_emod (a % ((N m : Nat) : Int)) (k : Int), Int.emod_emod_of_dvd a (Int.dvd_refl _)]
theorem exz_fpw (a : Int) (k : Nat) : fpw m (exz m a) k = exz m (a * (k : Nat)) := by unfold exz; rw [fpw_ex hm]; exact exz_mulN hm a k
theorem exz_inj {a b : Int} (h : exz m a = exz m b) : a % ((N m : Nat) : Int) = b % ((N m : Nat) : Int) := by
  have hp := (N_pos hm).1
  have := ex_inj hm (em_lt hm a) (em_lt hm b) h
  rw [← em_cast a (by omega), ← em_cast b (by omega), this]
/-- The value at a place. -/
def plc (m : Nat) (a : List Nat) (i : Nat) : Nat := evL m a (ex m (em m (0 - (i : Int))))
theorem plc_xs {a : List Nat} (ha : ∀ y ∈ a, y < 2 ^ m) (i : Nat) : plc m a i = xs (fun k => gm m (cf a k) (exz m (-((i : Int) * (k : Nat))))) a.length := by
  unfold plc
  rw [evL_xs hm (ex_lt hm _).2 ha]
  refine xs_congr (fun k _ => ?_)
  rw [show ex m (em m (0 - (i : Int))) = exz m (0 - (i : Int)) from rfl, exz_fpw hm, Int.sub_mul, Int.zero_mul, Int.zero_sub]
theorem tfF_ex {a : List Nat} (ha : ∀ y ∈ a, y < 2 ^ m) : ∀ i k : Nat, tfF m a i k = gm m (cf a k) (exz m (-((i : Int) * (k : Nat))))
  | 0, k => by
    rw [show (-(((0 : Nat) : Int) * (k : Nat))) = 0 by simp, exz_zero hm, gm_one_right hm (cf_lt ha (Nat.two_pow_pos m) k)]; rfl
  | i + 1, k => by
    show gm m (tfF m a i k) (exz m (0 - (k : Int))) = _
    rw [tfF_ex ha i k, gm_assoc hm (cf_lt ha (Nat.two_pow_pos m) k) (exz_lt hm _) (exz_lt hm _), exz_add hm]
    congr 2
    rw [Int.natCast_succ, Int.add_mul]
    omega
omit hm in
theorem sfF_xs (a : List Nat) (i : Nat) : ∀ j, sfF m a i j = xs (tfF m a i) j
  | 0 => rfl
  | j + 1 => by show sfF m a i j ^^^ _ = xs _ j ^^^ _; rw [sfF_xs a i j]
theorem sfF_plc {a : List Nat} (ha : ∀ y ∈ a, y < 2 ^ m) (i : Nat) : sfF m a i a.length = plc m a i := by
  rw [sfF_xs, plc_xs hm ha]
  exact xs_congr (fun k _ => tfF_ex hm ha i k)
omit hm in
theorem plc_trim (a : List Nat) (i : Nat) : plc m (trim a) i = plc m a i := evL_trim a _
omit hm in
theorem zerosN_congr {v u : Nat → Nat} {i : Nat} (h : ∀ k, k < i → v k = u k) : zerosN v i = zerosN u i := by
  unfold zerosN
  refine List.filter_congr (fun k hk => ?_)
  rw [h k (List.mem_range.1 hk)]
omit hm in
theorem zerosN_mem {v : Nat → Nat} {i k : Nat} : k ∈ zerosN v i ↔ k < i ∧ v k = 0 := by
  unfold zerosN
  rw [List.mem_filter, List.mem_range]
  simp
omit hm in
theorem zerosN_up (v : Nat → Nat) (i : Nat) : (zerosN v i).Pairwise (· < ·) := List.Pairwise.filter _ List.pairwise_lt_range
/-- Few places are roots. -/
theorem zeros_few {a : List Nat} (ha : Tr m a) (h0 : a.length ≠ 0) {n : Nat} (hn : n ≤ N m) : (zerosN (plc m a) n).length ≤ a.length - 1 := by
  have hp := (N_pos hm).1
  have h := roots_le hm ((zerosN (plc m a) n).map (fun i : Nat => ex m (em m (0 - (i : Int))))) ha h0 ?_ ?_
  · rwa [List.length_map] at h
  · refine List.Pairwise.map _ (R := fun i j => i < n ∧ j < n ∧ i < j) (fun i j hij => ?_) ?_
    · intro he
      have := exz_inj hm he
      rw [show ((0 : Int) - (i : Nat)) = (((N m - i : Nat) : Int) - (N m : Nat)) by omega, show ((0 : Int) - (j : Nat)) = (((N m - j : Nat) : Int) - (N m : Nat)) by omega, Int.sub_emod_right, Int.sub_emod_right] at this
      have hj : (((N m - j : Nat) : Int)) % ((N m : Nat) : Int) = ((N m - j : Nat) : Int) := Int.emod_eq_of_lt (by omega) (by omega)
      rw [hj] at this
      by_cases hi : i = 0
      · subst hi
        rw [Nat.sub_zero, Int.emod_self] at this
        omega
      · rw [Int.emod_eq_of_lt (by omega) (by omega)] at this
        omega
    · refine List.Pairwise.imp_of_mem (R := (· < ·)) (fun {i j} hi hj hij => ⟨(zerosN_mem.1 hi).1, (zerosN_mem.1 hj).1, hij⟩) (zerosN_up _ n)
  · intro x hx
    obtain ⟨i, hi, rfl⟩ := List.mem_map.1 hx
    exact ⟨(ex_lt hm _).2, (zerosN_mem.1 hi).2⟩
omit hm in
theorem zeros_all {n : Nat} {v : Nat → Nat} (h : ∀ i, v i = 0) : (zerosN v n).length = n := by
  unfold zerosN
  rw [List.filter_eq_self.2 (fun k _ => by simp [h k]), List.length_range]
omit hm in
theorem zeros_at {v : Nat → Nat} {n i : Nat} (h : i < (zerosN v n).length) : cf (zerosN v n) i < n ∧ v (cf (zerosN v n) i) = 0 :=
  zerosN_mem.1 (List.mem_of_getElem? (cf_in h))
omit hm in
theorem zeros_inc {v : Nat → Nat} {n i : Nat} (h : i + 1 < (zerosN v n).length) : cf (zerosN v n) i < cf (zerosN v n) (i + 1) := by
  have h1 := List.pairwise_iff_getElem.1 (zerosN_up v n) i (i + 1) (by omega) h (by omega)
  have e1 := cf_in (l := zerosN v n) (j := i) (by omega)
  have e2 := cf_in (l := zerosN v n) (j := i + 1) h
  rw [List.getElem?_eq_getElem (by omega)] at e1 e2
  rw [← Option.some.inj e1, ← Option.some.inj e2]
  exact h1
omit hm in
theorem ev_drop (l : List Int) {k : Nat} (hk : k < l.length) (x : Nat) : evL m ((lowL m l).drop k) x = gm m (evL m ((lowL m l).drop (k + 1)) x) x ^^^ lo m (l.getD k 0) := by
  have hk2 : k < (lowL m l).length := by rw [lowL_len]; exact hk
  rw [List.drop_eq_getElem_cons hk2]
  show gm m _ x ^^^ (lowL m l)[k] = _
  congr 1
  rw [← cf_low]
  have := cf_in hk2
  rw [List.getElem?_eq_getElem hk2] at this
  exact Option.some.inj this
/-! ### Turned -/
omit hm in
/-- How many there are, in two parts. -/
theorem zerosN_parts (v : Nat → Nat) (a : Nat) : ∀ b, (zerosN v (a + b)).length = (zerosN v a).length + (zerosN (fun k => v (a + k)) b).length
  | 0 => by simp [zerosN]
  | b + 1 => by
    have h := zerosN_parts v a b
    by_cases hz : v (a + b) = 0
    · rw [← Nat.add_assoc, zerosN_yes hz, zerosN_yes (v := fun k => v (a + k)) hz, List.length_append, List.length_append, h]; rfl
    · rw [← Nat.add_assoc, zerosN_no hz, zerosN_no (v := fun k => v (a + k)) hz, h]
omit hm in
theorem zeros_turn {u v : Nat → Nat} {n b : Nat} (hb : b ≤ n) (h1 : ∀ k, k < b → u k = v (n - b + k)) (h2 : ∀ k, k < n - b → u (b + k) = v k) : (zerosN u n).length = (zerosN v n).length := by
  have e1 := zerosN_parts u b (n - b)
  have e2 := zerosN_parts v (n - b) b
  rw [show b + (n - b) = n by omega] at e1
  rw [show n - b + b = n by omega] at e2
  rw [e1, e2, zerosN_congr h1, zerosN_congr (u := v) (v := fun k => u (b + k)) h2]
  omega
theorem plc_turn {a b : List Nat} (ha : ∀ y ∈ a, y < 2 ^ m) (hb : ∀ y ∈ b, y < 2 ^ m) (hl : b.length = a.length) {s : Int} (h : ∀ k, k < a.length → cf b k = gm m (cf a k) (exz m (s * (k : Nat)))) {i j : Nat} (hij : (i : Int) % ((N m : Nat) : Int) = ((j : Int) - s) % ((N m : Nat) : Int)) : plc m b j = plc m a i := by
  rw [plc_xs hm ha, plc_xs hm hb, hl]
  refine xs_congr (fun k hk => ?_)
  rw [h k hk, gm_assoc hm (cf_lt ha (Nat.two_pow_pos m) k) (exz_lt hm _) (exz_lt hm _), exz_add hm]
  congr 1
  refine exz_congr ?_
  rw [show s * (k : Int) + -((j : Int) * (k : Int)) = (-1) * (((j : Int) - s) * (k : Int)) by rw [Int.sub_mul]; omega, show -((i : Int) * (k : Int)) = (-1) * ((i : Int) * (k : Int)) by omega, Int.mul_emod, Int.mul_emod (-1) ((i : Int) * (k : Int)), Int.mul_emod ((j : Int) - s), Int.mul_emod (i : Int) (k : Int), hij]
/-! ### The product of 1 + a^p x -/
omit hm in
def ofS (m : Nat) (p : List Nat) (c : Nat) : List Nat := addP p (0 :: scaleP m p c)
omit hm in
def ofP (m : Nat) (l : List Int) : Nat → List Nat
  | 0 => [1]
  | i + 1 => ofS m (ofP m l i) (exz m (l.getD i 0))
theorem scaleP_lt {p : List Nat} (hp : ∀ x ∈ p, x < 2 ^ m) (c : Nat) : ∀ x ∈ scaleP m p c, x < 2 ^ m := (pl_tr (m := m) (fun j => gm_lt hm (cf_lt hp (Nat.two_pow_pos m) j) c)).lt
theorem ofS_tr {p : List Nat} (hp : Tr m p) (c : Nat) : Tr m (ofS m p c) := pl_tr (fun j => xor_lt (hp.c j) (cf_lt (zero_cons_lt hm (scaleP_lt hm hp.lt c)) (Nat.two_pow_pos m) j))
theorem ofP_tr (l : List Int) : ∀ i, Tr m (ofP m l i)
  | 0 => ⟨fun x hx => by rw [List.mem_singleton.1 hx]; exact one_lt hm, rfl⟩
  | i + 1 => ofS_tr hm (ofP_tr l i) _
theorem evL_ofS {p : List Nat} (hp : Tr m p) {c x : Nat} (hc : c < 2 ^ m) (hx : x < 2 ^ m) : evL m (ofS m p c) x = gm m (evL m p x) (1 ^^^ gm m c x) := by
  have he := evL_lt hm x hp.lt
  unfold ofS
  rw [evL_add hm hp.lt (zero_cons_lt hm (scaleP_lt hm hp.lt c))]
  show _ ^^^ (gm m (evL m (scaleP m p c) x) x ^^^ 0) = _
  rw [Nat.xor_zero, evL_scale hm c hc hp.lt x hx, gm_assoc hm he hc hx, gm_xor_right, gm_one_right hm he]
theorem plc_ofP (l : List Int) (j : Nat) : ∀ i, plc m (ofP m l i) j = 0 ↔ ∃ k, k < i ∧ (l.getD k 0) % ((N m : Nat) : Int) = ((j : Nat) : Int) % ((N m : Nat) : Int)
  | 0 => by
    refine ⟨fun h => ?_, fun ⟨k, hk, _⟩ => by omega⟩
    have : plc m [1] j = 1 := by unfold plc evL evL; rw [gm_zero_left, Nat.zero_xor]
    rw [show ofP m l 0 = [1] from rfl, this] at h; omega
  | i + 1 => by
    have ih := plc_ofP l j i
    have h1 : plc m (ofP m l (i + 1)) j = gm m (plc m (ofP m l i) j) (1 ^^^ gm m (exz m (l.getD i 0)) (exz m (0 - (j : Int)))) := evL_ofS hm (ofP_tr hm l i) (exz_lt hm _) (exz_lt hm _)
    have hz : (1 ^^^ gm m (exz m (l.getD i 0)) (exz m (0 - (j : Int)))) = 0 ↔ (l.getD i 0) % ((N m : Nat) : Int) = ((j : Nat) : Int) % ((N m : Nat) : Int) := by
      rw [exz_add hm, ← exz_zero hm]
      constructor
      · intro h
        have := exz_inj hm (xor_eq_zero' hm h)
        have h3 := Int.emod_emod_of_dvd (l.getD i 0 + (0 - (j : Int))) (Int.dvd_refl ((N m : Nat) : Int))
        have : ((l.getD i 0 + (0 - (j : Int))) + (j : Int)) % ((N m : Nat) : Int) = (0 + (j : Int)) % ((N m : Nat) : Int) := by rw [Int.add_emod, ← this, ← Int.add_emod]
        rw [show l.getD i 0 + (0 - (j : Int)) + (j : Int) = l.getD i 0 by omega, Int.zero_add] at this
        exact this
      · intro h
        rw [exz_congr (a := l.getD i 0 + (0 - (j : Int))) (b := 0) ?_, Nat.xor_self]
        rw [show l.getD i 0 + (0 - (j : Int)) = l.getD i 0 - (j : Int) by omega, Int.sub_emod, h, ← Int.sub_emod, Int.sub_self]
    rw [h1]
    constructor
    · intro h
      by_cases h0 : plc m (ofP m l i) j = 0
      · obtain ⟨k, hk, e⟩ := ih.1 h0
        exact ⟨k, by omega, e⟩
      · by_cases h2 : (1 ^^^ gm m (exz m (l.getD i 0)) (exz m (0 - (j : Int)))) = 0
        · exact ⟨i, by omega, hz.1 h2⟩
        · exact absurd h (gm_ne_zero hm (evL_lt hm _ (ofP_tr hm l i).lt) (xor_lt (one_lt hm) (gm_lt hm (exz_lt hm _) _)) h0 h2)
    · rintro ⟨k, hk, e⟩
      by_cases hki : k < i
      · rw [ih.2 ⟨k, hki, e⟩, gm_zero_left]
      · obtain rfl : k = i := by omega
        rw [hz.2 e, gm_zero_right]
theorem ofP_le (l : List Int) : ∀ i, (ofP m l i).length ≤ i + 1
  | 0 => Nat.le_refl _
  | i + 1 => by
    have h := ofP_le l i
    refine len_le_of (ofP_tr hm l (i + 1)) (fun j hj => ?_)
    show cf (addP _ (0 :: scaleP m _ _)) j = 0
    obtain ⟨j', rfl⟩ : ∃ j', j = j' + 1 := ⟨j - 1, by omega⟩
    rw [cf_addP, cf_cons_succ, cf_scaleP, cf_out (by omega), cf_out (by omega), gm_zero_left]; rfl
end Go.Fm
