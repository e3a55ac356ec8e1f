/- The product of x + a, its roots and its derivative's: plain mathematics, no program. No condition but an m that may be. -/
import Derived.Test.YtcjddlcinaedaaaDoorPr2
namespace Go.Proofs.YtcjddlcinaedaaaDoor
open Go.Sx Go.Fm

section
variable {m : Nat}
theorem cf_frS (m : Nat) (p : List Nat) (a j : Nat) : cf (frS m p a) j = cf (0 :: p) j ^^^ gm m (cf p j) a := by
  unfold frS
  rw [cf_range]
  split
  · unfold frF
    split
    · rfl
    · rw [cf_out (l := p) (by omega), gm_zero_left, Nat.xor_zero]
  · rw [cf_out (l := p) (by omega), gm_zero_left, cf_out (by simp only [List.length_cons]; omega)]
    rfl
variable (hm : Ok m)
include hm
omit hm in
theorem zero_cons_lt (_hm : Ok m) {p : List Nat} (hp : ∀ x ∈ p, x < 2 ^ m) : ∀ x ∈ 0 :: p, x < 2 ^ m := fun x hx => by
  rcases List.mem_cons.1 hx with rfl | hx
  · exact Nat.two_pow_pos m
  · exact hp x hx
theorem evL_frS {p : List Nat} (hp : ∀ x ∈ p, x < 2 ^ m) {a : Nat} (ha : a < 2 ^ m) {x : Nat} (hx : x < 2 ^ m) : evL m (frS m p a) x = gm m (evL m p x) (x ^^^ a) := by
  have hsc : ∀ z ∈ scaleP m p a, z < 2 ^ m := (pl_tr (fun j => gm_lt hm (cf_lt hp (Nat.two_pow_pos m) j) a)).lt
  rw [evL_congr (b := addP (0 :: p) (scaleP m p a)) (fun j => by rw [cf_frS, cf_addP, cf_scaleP]) x, evL_add hm (zero_cons_lt hm hp) hsc, evL_scale hm a ha hp x hx, gm_xor_right]
  show gm m (evL m p x) x ^^^ 0 ^^^ _ = _
  rw [Nat.xor_zero]
omit hm in
theorem frP_top (_hm : Ok m) (l : List Int) : ∀ i, cf (frP m l i) i = 1
  | 0 => rfl
  | i + 1 => by
    show cf (frS m (frP m l i) _) (i + 1) = 1
    rw [cf_frS, cf_cons_succ, frP_top _hm l i, cf_out (by rw [frP_len]; omega), gm_zero_left]
    rfl
theorem frP_tr (l : List Int) (i : Nat) : Tr m (frP m l i) := by
  refine ⟨frP_lt hm l i, trim_of ?_⟩
  have h1 := tl_le (frP m l i)
  have h2 := frP_len m l i
  have h3 := frP_top hm l i
  refine Nat.le_antisymm h1 (Nat.le_of_not_lt fun hlt => ?_)
  rw [cf_hi (frP m l i) i (by omega)] at h3
  cases h3
/-- How often a number's element is x among the first i. -/
def cnt (m : Nat) (l : List Int) (x : Nat) : Nat → Nat
  | 0 => 0
  | i + 1 => if lo m (l.getD i 0) = x then cnt m l x i + 1 else cnt m l x i
theorem frP_root (l : List Int) {x : Nat} (hx : x < 2 ^ m) : ∀ i, evL m (frP m l i) x = 0 ↔ 0 < cnt m l x i
  | 0 => by
    show gm m 0 x ^^^ 1 = 0 ↔ 0 < 0
    rw [gm_zero_left]
    simp
  | i + 1 => by
    have ih := frP_root l hx i
    have hp := frP_lt hm l i
    have ha := lo_lt m (l.getD i 0)
    show evL m (frS m (frP m l i) (lo m (l.getD i 0))) x = 0 ↔ _
    rw [evL_frS hm hp ha hx]
    unfold cnt
    by_cases h : lo m (l.getD i 0) = x
    · rw [if_pos h, h, Nat.xor_self, gm_zero_right]
      simp
    · rw [if_neg h, ← ih]
      constructor
      · intro h2
        refine Classical.byContradiction fun hne => gm_ne_zero hm (evL_lt hm x hp) (xor_lt hx ha) hne (fun h3 => h (xor_eq_zero' hm h3).symm) h2
      · intro h2
        rw [h2, gm_zero_left]
/-! ### Derivatives -/
/-- The derivative's value. -/
def dvL (m : Nat) : List Nat → Nat → Nat
  | [], _ => 0
  | _ :: r, x => evL m r x ^^^ gm m (dvL m r x) x
theorem dvL_lt (x : Nat) : ∀ {a : List Nat} (_ : ∀ y ∈ a, y < 2 ^ m), dvL m a x < 2 ^ m
  | [], _ => Nat.two_pow_pos m
  | _ :: r, h => by
    have hr : ∀ x ∈ r, x < 2 ^ m := fun x hx => h x (List.mem_cons_of_mem _ hx)
    exact xor_lt (evL_lt hm x hr) (gm_lt hm (dvL_lt x hr) x)
omit hm in
theorem derP_lt (_hm : Ok m) {a : List Nat} (ha : ∀ y ∈ a, y < 2 ^ m) : ∀ y ∈ derP a, y < 2 ^ m := (pl_tr (m := m) (fun j => by
  split
  · exact cf_lt ha (Nat.two_pow_pos m) _
  · exact Nat.two_pow_pos m)).lt
theorem evL_der : ∀ {a : List Nat} (_ : ∀ y ∈ a, y < 2 ^ m) (x : Nat), evL m (derP a) x = dvL m a x
  | [], _, x => evL_zero (fun j => by rw [cf_derP, cf_nil]; simp) x
  | y :: r, h, x => by
    have hr : ∀ x ∈ r, x < 2 ^ m := fun x hx => h x (List.mem_cons_of_mem _ hx)
    have hd := derP_lt hm hr
    rw [evL_congr (b := addP r (0 :: derP r)) (fun j => by
      rw [cf_derP, cf_addP, cf_cons_succ]
      cases j with
      | zero => rw [cf_cons_zero]; simp
      | succ j =>
        rw [cf_cons_succ, cf_derP]
        rcases Nat.mod_two_eq_zero_or_one (j + 1) with h2 | h2
        · rw [if_pos (by omega), if_neg (by omega), Nat.xor_zero]
        · rw [if_neg (by omega), if_pos h2, Nat.xor_self]) x, evL_add hm hr (zero_cons_lt hm hd)]
    show _ ^^^ (gm m (evL m (derP r) x) x ^^^ 0) = _ ^^^ gm m (dvL m r x) x
    rw [evL_der hr x, Nat.xor_zero]
omit hm in
theorem dvL_zero : ∀ {a : List Nat} (_ : ∀ j, cf a j = 0) (x : Nat), dvL m a x = 0
  | [], _, _ => rfl
  | y :: r, h, x => by
    have h1 : ∀ j, cf r j = 0 := fun j => by rw [← cf_cons_succ y r j]; exact h _
    show evL m r x ^^^ gm m (dvL m r x) x = 0
    rw [evL_zero h1, dvL_zero h1, gm_zero_left]
    rfl
omit hm in
theorem dvL_congr : ∀ {a b : List Nat} (_ : ∀ j, cf a j = cf b j) (x : Nat), dvL m a x = dvL m b x
  | [], b, h, x => (dvL_zero (fun j => by rw [← h, cf_nil]) x).symm
  | y :: r, [], h, x => dvL_zero (fun j => by rw [h, cf_nil]) x
  | y :: r, z :: s, h, x => by
    have h1 : ∀ j, cf r j = cf s j := fun j => by have := h (j + 1); rwa [cf_cons_succ, cf_cons_succ] at this
    show evL m r x ^^^ gm m (dvL m r x) x = evL m s x ^^^ gm m (dvL m s x) x
    rw [evL_congr h1, dvL_congr h1]
theorem dvL_add : ∀ {a b : List Nat} (_ : ∀ x ∈ a, x < 2 ^ m) (_ : ∀ x ∈ b, x < 2 ^ m) (x : Nat), dvL m (addP a b) x = dvL m a x ^^^ dvL m b x
  | [], b, _, _, x => by
    rw [dvL_congr (b := b) (fun j => by rw [cf_addP, cf_nil, Nat.zero_xor]) x]
    show _ = 0 ^^^ _
    rw [Nat.zero_xor]
  | y :: r, [], _, _, x => by
    rw [dvL_congr (b := y :: r) (fun j => by rw [cf_addP, cf_nil, Nat.xor_zero]) x]
    show _ = _ ^^^ 0
    rw [Nat.xor_zero]
  | y :: r, z :: s, ha, hb, x => by
    have hr : ∀ x ∈ r, x < 2 ^ m := fun x hx => ha x (List.mem_cons_of_mem _ hx)
    have hs : ∀ x ∈ s, x < 2 ^ m := fun x hx => hb x (List.mem_cons_of_mem _ hx)
    rw [dvL_congr (b := (y ^^^ z) :: addP r s) (fun j => by
      rw [cf_addP]
      cases j with
      | zero => rw [cf_cons_zero, cf_cons_zero, cf_cons_zero]
      | succ j => rw [cf_cons_succ, cf_cons_succ, cf_cons_succ, cf_addP]) x]
    show evL m (addP r s) x ^^^ gm m (dvL m (addP r s) x) x = (evL m r x ^^^ gm m (dvL m r x) x) ^^^ (evL m s x ^^^ gm m (dvL m s x) x)
    rw [dvL_add hr hs x, evL_add hm hr hs, gm_xor_left hm (dvL_lt hm x hr) (dvL_lt hm x hs), Nat.xor_assoc, Nat.xor_assoc, xlc (evL m s x)]
/-- Of the product with x + a. -/
theorem dvL_frS : ∀ {p : List Nat} (_ : ∀ x ∈ p, x < 2 ^ m) {a : Nat} (_ : a < 2 ^ m) {x : Nat} (_ : x < 2 ^ m), dvL m (frS m p a) x = evL m p x ^^^ gm m (dvL m p x) (x ^^^ a)
  | [], _, a, _, x, _ => by
    rw [dvL_zero (fun j => by
      rw [cf_frS, cf_nil, gm_zero_left]
      cases j with
      | zero => rfl
      | succ j => rw [cf_cons_succ, cf_nil]; rfl)]
    show 0 = 0 ^^^ gm m 0 _
    rw [gm_zero_left]
    rfl
  | y :: r, hp, a, ha, x, hx => by
    have hr : ∀ x ∈ r, x < 2 ^ m := fun x hx => hp x (List.mem_cons_of_mem _ hx)
    have hy := hp y List.mem_cons_self
    have hsc : ∀ z ∈ scaleP m r a, z < 2 ^ m := (pl_tr (fun j => gm_lt hm (cf_lt hr (Nat.two_pow_pos m) j) a)).lt
    have hfr : ∀ z ∈ frS m r a, z < 2 ^ m := fun z hz => by
      obtain ⟨j, _, rfl⟩ := List.mem_map.1 hz
      exact frF_lt hm hr _ _ j
    -- frS (y :: r) a = (y a) :: (y x^0 + frS r a)
    have hy1 : ∀ z ∈ [y], z < 2 ^ m := fun z hz => by simp at hz; subst hz; exact hy
    rw [dvL_congr (b := gm m y a :: addP [y] (frS m r a)) (fun j => by
      rw [cf_frS]
      cases j with
      | zero => rw [cf_cons_zero, cf_cons_zero, cf_cons_zero, Nat.zero_xor]
      | succ j =>
        rw [cf_cons_succ, cf_cons_succ, cf_cons_succ, cf_addP, cf_frS]
        cases j with
        | zero => rw [cf_cons_zero, cf_cons_zero, cf_cons_zero, Nat.zero_xor]
        | succ j => rw [cf_cons_succ, cf_cons_succ, cf_cons_succ, cf_nil, Nat.zero_xor])]
    have e1 : evL m (addP [y] (frS m r a)) x = y ^^^ gm m (evL m r x) (x ^^^ a) := by
      rw [evL_add hm hy1 hfr, evL_frS hm hr ha hx]
      show gm m 0 x ^^^ y ^^^ _ = _
      rw [gm_zero_left, Nat.zero_xor]
    have e2 : dvL m (addP [y] (frS m r a)) x = dvL m (frS m r a) x := by
      rw [dvL_add hm hy1 hfr]
      show (0 ^^^ gm m 0 x) ^^^ _ = _
      rw [gm_zero_left, Nat.zero_xor, Nat.zero_xor]
    show evL m (addP [y] (frS m r a)) x ^^^ gm m (dvL m (addP [y] (frS m r a)) x) x = (gm m (evL m r x) x ^^^ y) ^^^ gm m (evL m r x ^^^ gm m (dvL m r x) x) (x ^^^ a)
    rw [e1, e2, dvL_frS hr ha hx]
    have hE := evL_lt hm x hr
    have hD := dvL_lt hm x hr
    have hxa := xor_lt hx ha
    rw [gm_xor_left hm hE (gm_lt hm hD _), gm_xor_left hm hE (gm_lt hm hD _), gm_assoc hm hD hxa hx, gm_comm hm hxa hx, ← gm_assoc hm hD hx hxa]
    generalize gm m (evL m r x) (x ^^^ a) = A
    generalize gm m (evL m r x) x = B
    generalize gm m (gm m (dvL m r x) x) (x ^^^ a) = C
    rw [Nat.xor_comm B y, Nat.xor_assoc, Nat.xor_assoc, xlc A B]
theorem frP_der (l : List Int) {x : Nat} (hx : x < 2 ^ m) : ∀ i, 0 < cnt m l x i → (dvL m (frP m l i) x = 0 ↔ 1 < cnt m l x i)
  | 0, h => absurd h (by simp [cnt])
  | i + 1, h => by
    have ih := frP_der l hx i
    have hp := frP_lt hm l i
    have ha := lo_lt m (l.getD i 0)
    have hroot := frP_root hm l hx i
    show dvL m (frS m (frP m l i) (lo m (l.getD i 0))) x = 0 ↔ _
    rw [dvL_frS hm hp ha hx]
    unfold cnt at h ⊢
    by_cases he : lo m (l.getD i 0) = x
    · rw [if_pos he, he, Nat.xor_self, gm_zero_right, Nat.xor_zero, hroot]
      omega
    · rw [if_neg he] at h ⊢
      rw [hroot.2 h, Nat.zero_xor, ← ih h]
      constructor
      · intro h2
        refine Classical.byContradiction fun hne => gm_ne_zero hm (dvL_lt hm x hp) (xor_lt hx ha) hne (fun h3 => he (xor_eq_zero' hm h3).symm) h2
      · intro h2
        rw [h2, gm_zero_left]
omit hm in
theorem rootsN_at {a : List Nat} {x n : Nat} (hx : x < n) (h : evL m a x = 0) : (rootsN m a n)[(rootsN m a x).length]? = some x := by
  induction n with
  | zero => omega
  | succ n ih =>
    show (if evL m a n = 0 then rootsN m a n ++ [n] else rootsN m a n)[(rootsN m a x).length]? = some x
    by_cases hxn : x = n
    · subst hxn
      rw [if_pos h]
      simp
    · have := ih (by omega)
      split
      · rw [List.getElem?_append_left]
        · exact this
        · exact (List.getElem?_eq_some_iff.1 this).1
      · exact this
end
end Go.Proofs.YtcjddlcinaedaaaDoor
