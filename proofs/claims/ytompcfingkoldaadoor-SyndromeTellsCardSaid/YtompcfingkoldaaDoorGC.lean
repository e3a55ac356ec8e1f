/- Texts that all walks share, as one. Conditions: each theorem tells its own. -/
import Derived.Test.YtompcfingkoldaaDoorGB
import Derived.Lib.Tables
import Derived.Test.YtompcfingkoldaaDoorGA
section
/- The product of x + a, its roots and its derivative's: plain mathematics, no program. No condition but an m that may be. -/
namespace Go.Proofs.YtompcfingkoldaaDoor
open Go.Sx Go.Fm

section
variable {m : Nat}
theorem cf_frS (m : Nat) (p : List Nat) (a j : Nat) : cf (frS m p a) j = cf (0 :: p) j ^^^ gm m (cf p j) a := by
  unfold frS
  rw [cf_range]
  split
  · unfold frF
    split
    · rfl
    · rw [cf_out (l := p) (by omega), gm_zero_left, Nat.xor_zero]
  · rw [cf_out (l := p) (by omega), gm_zero_left, cf_out (by simp only [List.length_cons]; omega)]
    rfl
variable (hm : Ok m)
include hm
omit hm in
theorem zero_cons_lt (_hm : Ok m) {p : List Nat} (hp : ∀ x ∈ p, x < 2 ^ m) : ∀ x ∈ 0 :: p, x < 2 ^ m := fun x hx => by
  rcases List.mem_cons.1 hx with rfl | hx
  · exact Nat.two_pow_pos m
  · exact hp x hx
theorem evL_frS {p : List Nat} (hp : ∀ x ∈ p, x < 2 ^ m) {a : Nat} (ha : a < 2 ^ m) {x : Nat} (hx : x < 2 ^ m) : evL m (frS m p a) x = gm m (evL m p x) (x ^^^ a) := by
  have hsc : ∀ z ∈ scaleP m p a, z < 2 ^ m := (pl_tr (fun j => gm_lt hm (cf_lt hp (Nat.two_pow_pos m) j) a)).lt
  rw [evL_congr (b := addP (0 :: p) (scaleP m p a)) (fun j => by rw [cf_frS, cf_addP, cf_scaleP]) x, evL_add hm (zero_cons_lt hm hp) hsc, evL_scale hm a ha hp x hx, gm_xor_right]
  show gm m (evL m p x) x ^^^ 0 ^^^ _ = _
  rw [Nat.xor_zero]
omit hm in
theorem frP_top (_hm : Ok m) (l : List Int) : ∀ i, cf (frP m l i) i = 1
  | 0 => rfl
  | i + 1 => by
    show cf (frS m (frP m l i) _) (i + 1) = 1
    rw [cf_frS, cf_cons_succ, frP_top _hm l i, cf_out (by rw [frP_len]; omega), gm_zero_left]
    rfl
theorem frP_tr (l : List Int) (i : Nat) : Tr m (frP m l i) := by
  refine ⟨frP_lt hm l i, trim_of ?_⟩
  have h1 := tl_le (frP m l i)
  have h2 := frP_len m l i
  have h3 := frP_top hm l i
  refine Nat.le_antisymm h1 (Nat.le_of_not_lt fun hlt => ?_)
  rw [cf_hi (frP m l i) i (by omega)] at h3
  cases h3
/-- How often a number's element is x among the first i. -/
def cnt (m : Nat) (l : List Int) (x : Nat) : Nat → Nat
  | 0 => 0
  | i + 1 => if lo m (l.getD i 0) = x then cnt m l x i + 1 else cnt m l x i
theorem frP_root (l : List Int) {x : Nat} (hx : x < 2 ^ m) : ∀ i, evL m (frP m l i) x = 0 ↔ 0 < cnt m l x i
  | 0 => by
    show gm m 0 x ^^^ 1 = 0 ↔ 0 < 0
    rw [gm_zero_left]
    simp
  | i + 1 => by
    have ih := frP_root l hx i
    have hp := frP_lt hm l i
    have ha := lo_lt m (l.getD i 0)
    show evL m (frS m (frP m l i) (lo m (l.getD i 0))) x = 0 ↔ _
    rw [evL_frS hm hp ha hx]
    unfold cnt
    by_cases h : lo m (l.getD i 0) = x
    · rw [if_pos h, h, Nat.xor_self, gm_zero_right]
      simp
    · rw [if_neg h, ← ih]
      constructor
      · intro h2
        refine Classical.byContradiction fun hne => gm_ne_zero hm (evL_lt hm x hp) (xor_lt hx ha) hne (fun h3 => h (xor_eq_zero' hm h3).symm) h2
      · intro h2
        rw [h2, gm_zero_left]
/-! ### Derivatives -/
/-- The derivative's value. -/
def dvL (m : Nat) : List Nat → Nat → Nat
  | [], _ => 0
  | _ :: r, x => evL m r x ^^^ gm m (dvL m r x) x
theorem dvL_lt (x : Nat) : ∀ {a : List Nat} (_ : ∀ y ∈ a, y < 2 ^ m), dvL m a x < 2 ^ m
  | [], _ => Nat.two_pow_pos m
  | _ :: r, h => by
    have hr : ∀ x ∈ r, x < 2 ^ m := fun x hx => h x (List.mem_cons_of_mem _ hx)
    exact xor_lt (evL_lt hm x hr) (gm_lt hm (dvL_lt x hr) x)
omit hm in
theorem derP_lt (_hm : Ok m) {a : List Nat} (ha : ∀ y ∈ a, y < 2 ^ m) : ∀ y ∈ derP a, y < 2 ^ m := (pl_tr (m := m) (fun j => by
  split
  · exact cf_lt ha (Nat.two_pow_pos m) _
  · exact Nat.two_pow_pos m)).lt
theorem evL_der : ∀ {a : List Nat} (_ : ∀ y ∈ a, y < 2 ^ m) (x : Nat), evL m (derP a) x = dvL m a x
  | [], _, x => evL_zero (fun j => by rw [cf_derP, cf_nil]; simp) x
  | y :: r, h, x => by
    have hr : ∀ x ∈ r, x < 2 ^ m := fun x hx => h x (List.mem_cons_of_mem _ hx)
    have hd := derP_lt hm hr
    rw [evL_congr (b := addP r (0 :: derP r)) (fun j => by
      rw [cf_derP, cf_addP, cf_cons_succ]
      cases j with
      | zero => rw [cf_cons_zero]; simp
      | succ j =>
        rw [cf_cons_succ, cf_derP]
        rcases Nat.mod_two_eq_zero_or_one (j + 1) with h2 | h2
        · rw [if_pos (by omega), if_neg (by omega), Nat.xor_zero]
        · rw [if_neg (by omega), if_pos h2, Nat.xor_self]) x, evL_add hm hr (zero_cons_lt hm hd)]
    show _ ^^^ (gm m (evL m (derP r) x) x ^^^ 0) = _ ^^^ gm m (dvL m r x) x
    rw [evL_der hr x, Nat.xor_zero]
omit hm in
theorem dvL_zero : ∀ {a : List Nat} (_ : ∀ j, cf a j = 0) (x : Nat), dvL m a x = 0
  | [], _, _ => rfl
  | y :: r, h, x => by
    have h1 : ∀ j, cf r j = 0 := fun j => by rw [← cf_cons_succ y r j]; exact h _
    show evL m r x ^^^ gm m (dvL m r x) x = 0
    rw [evL_zero h1, dvL_zero h1, gm_zero_left]
    rfl
omit hm in
theorem dvL_congr : ∀ {a b : List Nat} (_ : ∀ j, cf a j = cf b j) (x : Nat), dvL m a x = dvL m b x
  | [], b, h, x => (dvL_zero (fun j => by rw [← h, cf_nil]) x).symm
  | y :: r, [], h, x => dvL_zero (fun j => by rw [h, cf_nil]) x
  | y :: r, z :: s, h, x => by
    have h1 : ∀ j, cf r j = cf s j := fun j => by have := h (j + 1); rwa [cf_cons_succ, cf_cons_succ] at this
    show evL m r x ^^^ gm m (dvL m r x) x = evL m s x ^^^ gm m (dvL m s x) x
    rw [evL_congr h1, dvL_congr h1]
theorem dvL_add : ∀ {a b : List Nat} (_ : ∀ x ∈ a, x < 2 ^ m) (_ : ∀ x ∈ b, x < 2 ^ m) (x : Nat), dvL m (addP a b) x = dvL m a x ^^^ dvL m b x
  | [], b, _, _, x => by
    rw [dvL_congr (b := b) (fun j => by rw [cf_addP, cf_nil, Nat.zero_xor]) x]
    show _ = 0 ^^^ _
    rw [Nat.zero_xor]
  | y :: r, [], _, _, x => by
    rw [dvL_congr (b := y :: r) (fun j => by rw [cf_addP, cf_nil, Nat.xor_zero]) x]
    show _ = _ ^^^ 0
    rw [Nat.xor_zero]
  | y :: r, z :: s, ha, hb, x => by
    have hr : ∀ x ∈ r, x < 2 ^ m := fun x hx => ha x (List.mem_cons_of_mem _ hx)
    have hs : ∀ x ∈ s, x < 2 ^ m := fun x hx => hb x (List.mem_cons_of_mem _ hx)
    rw [dvL_congr (b := (y ^^^ z) :: addP r s) (fun j => by
      rw [cf_addP]
      cases j with
      | zero => rw [cf_cons_zero, cf_cons_zero, cf_cons_zero]
      | succ j => rw [cf_cons_succ, cf_cons_succ, cf_cons_succ, cf_addP]) x]
    show evL m (addP r s) x ^^^ gm m (dvL m (addP r s) x) x = (evL m r x ^^^ gm m (dvL m r x) x) ^^^ (evL m s x ^^^ gm m (dvL m s x) x)
    rw [dvL_add hr hs x, evL_add hm hr hs, gm_xor_left hm (dvL_lt hm x hr) (dvL_lt hm x hs), Nat.xor_assoc, Nat.xor_assoc, xlc (evL m s x)]
/-- Of the product with x + a. -/
theorem dvL_frS : ∀ {p : List Nat} (_ : ∀ x ∈ p, x < 2 ^ m) {a : Nat} (_ : a < 2 ^ m) {x : Nat} (_ : x < 2 ^ m), dvL m (frS m p a) x = evL m p x ^^^ gm m (dvL m p x) (x ^^^ a)
  | [], _, a, _, x, _ => by
    rw [dvL_zero (fun j => by
      rw [cf_frS, cf_nil, gm_zero_left]
      cases j with
      | zero => rfl
      | succ j => rw [cf_cons_succ, cf_nil]; rfl)]
    show 0 = 0 ^^^ gm m 0 _
    rw [gm_zero_left]
    rfl
  | y :: r, hp, a, ha, x, hx => by
    have hr : ∀ x ∈ r, x < 2 ^ m := fun x hx => hp x (List.mem_cons_of_mem _ hx)
    have hy := hp y List.mem_cons_self
    have hsc : ∀ z ∈ scaleP m r a, z < 2 ^ m := (pl_tr (fun j => gm_lt hm (cf_lt hr (Nat.two_pow_pos m) j) a)).lt
    have hfr : ∀ z ∈ frS m r a, z < 2 ^ m := fun z hz => by
      obtain ⟨j, _, rfl⟩ := List.mem_map.1 hz
      exact frF_lt hm hr _ _ j
    -- frS (y :: r) a = (y a) :: (y x^0 + frS r a)
    have hy1 : ∀ z ∈ [y], z < 2 ^ m := fun z hz => by simp at hz; subst hz; exact hy
    rw [dvL_congr (b := gm m y a :: addP [y] (frS m r a)) (fun j => by
      rw [cf_frS]
      cases j with
      | zero => rw [cf_cons_zero, cf_cons_zero, cf_cons_zero, Nat.zero_xor]
      | succ j =>
        rw [cf_cons_succ, cf_cons_succ, cf_cons_succ, cf_addP, cf_frS]
        cases j with
        | zero => rw [cf_cons_zero, cf_cons_zero, cf_cons_zero, Nat.zero_xor]
        | succ j => rw [cf_cons_succ, cf_cons_succ, cf_cons_succ, cf_nil, Nat.zero_xor])]
    have e1 : evL m (addP [y] (frS m r a)) x = y ^^^ gm m (evL m r x) (x ^^^ a) := by
      rw [evL_add hm hy1 hfr, evL_frS hm hr ha hx]
      show gm m 0 x ^^^ y ^^^ _ = _
      rw [gm_zero_left, Nat.zero_xor]
    have e2 : dvL m (addP [y] (frS m r a)) x = dvL m (frS m r a) x := by
      rw [dvL_add hm hy1 hfr]
      show (0 ^^^ gm m 0 x) ^^^ _ = _
      rw [gm_zero_left, Nat.zero_xor, Nat.zero_xor]
    show evL m (addP [y] (frS m r a)) x ^^^ gm m (dvL m (addP [y] (frS m r a)) x) x = (gm m (evL m r x) x ^^^ y) ^^^ gm m (evL m r x ^^^ gm m (dvL m r x) x) (x ^^^ a)
    rw [e1, e2, dvL_frS hr ha hx]
    have hE := evL_lt hm x hr
    have hD := dvL_lt hm x hr
    have hxa := xor_lt hx ha
    rw [gm_xor_left hm hE (gm_lt hm hD _), gm_xor_left hm hE (gm_lt hm hD _), gm_assoc hm hD hxa hx, gm_comm hm hxa hx, ← gm_assoc hm hD hx hxa]
    generalize gm m (evL m r x) (x ^^^ a) = A
    generalize gm m (evL m r x) x = B
    generalize gm m (gm m (dvL m r x) x) (x ^^^ a) = C
    rw [Nat.xor_comm B y, Nat.xor_assoc, Nat.xor_assoc, xlc A B]
theorem frP_der (l : List Int) {x : Nat} (hx : x < 2 ^ m) : ∀ i, 0 < cnt m l x i → (dvL m (frP m l i) x = 0 ↔ 1 < cnt m l x i)
  | 0, h => absurd h (by simp [cnt])
  | i + 1, h => by
    have ih := frP_der l hx i
    have hp := frP_lt hm l i
    have ha := lo_lt m (l.getD i 0)
    have hroot := frP_root hm l hx i
    show dvL m (frS m (frP m l i) (lo m (l.getD i 0))) x = 0 ↔ _
    rw [dvL_frS hm hp ha hx]
    unfold cnt at h ⊢
    by_cases he : lo m (l.getD i 0) = x
    · rw [if_pos he, he, Nat.xor_self, gm_zero_right, Nat.xor_zero, hroot]
      omega
    · rw [if_neg he] at h ⊢
      rw [hroot.2 h, Nat.zero_xor, ← ih h]
      constructor
      · intro h2
        refine Classical.byContradiction fun hne => gm_ne_zero hm (dvL_lt hm x hp) (xor_lt hx ha) hne (fun h3 => he (xor_eq_zero' hm h3).symm) h2
      · intro h2
        rw [h2, gm_zero_left]
omit hm in
theorem rootsN_at {a : List Nat} {x n : Nat} (hx : x < n) (h : evL m a x = 0) : (rootsN m a n)[(rootsN m a x).length]? = some x := by
  induction n with
  | zero => omega
  | succ n ih =>
    show (if evL m a n = 0 then rootsN m a n ++ [n] else rootsN m a n)[(rootsN m a x).length]? = some x
    by_cases hxn : x = n
    · subst hxn
      rw [if_pos h]
      simp
    · have := ih (by omega)
      split
      · rw [List.getElem?_append_left]
        · exact this
        · exact (List.getElem?_eq_some_iff.1 this).1
      · exact this
end
end Go.Proofs.YtompcfingkoldaaDoor
end
section
/- Polynomials over two elements, in bytes: as polynomials over the field of 2^3 elements whose coefficients are 0 or 1. Plain mathematics, no program. -/
namespace Go.Proofs.YtompcfingkoldaaDoor
open Go.Sx Go.Fm

theorem ok3 : Ok 3 := ⟨by decide, by decide⟩
/-- Bit j of bytes. -/
def bitN (l : List Nat) (j : Nat) : Nat := (cf l (j / 8) >>> (j % 8)) % 2
theorem bitN_lt (l : List Nat) (j : Nat) : bitN l j < 2 := Nat.mod_lt _ (by omega)
theorem bitN_out {l : List Nat} {j : Nat} (h : 8 * l.length ≤ j) : bitN l j = 0 := by
  unfold bitN
  rw [cf_out (by omega)]
  simp
theorem bitN_test (l : List Nat) (i s : Nat) (hs : s < 8) : bitN l (8 * i + s) = ((cf l i).testBit s).toNat := by
  unfold bitN
  rw [show (8 * i + s) / 8 = i by omega, show (8 * i + s) % 8 = s by omega, Nat.testBit_eq_decide_div_mod_eq, Nat.shiftRight_eq_div_pow]
  rcases Nat.mod_two_eq_zero_or_one (cf l i / 2 ^ s) with h | h <;> rw [h] <;> simp
/-- The polynomial that bytes are. -/
def bl (l : List Nat) : List Nat := pl (8 * l.length) (bitN l)
theorem cf_bl (l : List Nat) (j : Nat) : cf (bl l) j = bitN l j := by
  unfold bl
  rw [cf_pl]
  split
  · rfl
  · exact (bitN_out (by omega)).symm
/-- Coefficients that are 0 or 1. -/
structure B1 (a : List Nat) : Prop where
  tr : Tr 3 a
  le : ∀ j, cf a j < 2
theorem bl_b1 (l : List Nat) : B1 (bl l) := ⟨pl_tr (fun j => Nat.lt_trans (bitN_lt l j) (by decide)), fun j => by rw [cf_bl]; exact bitN_lt l j⟩
theorem test_ext {x y : Nat} (hx : x < 256) (hy : y < 256) (h : ∀ s, s < 8 → x.testBit s = y.testBit s) : x = y := by
  apply Nat.eq_of_testBit_eq
  intro s
  by_cases hs : s < 8
  · exact h s hs
  · have e : ∀ z, z < 256 → z.testBit s = false := fun z hz => Nat.testBit_lt_two_pow (Nat.lt_of_lt_of_le hz (Nat.pow_le_pow_right (n := 2) (by omega) (show 8 ≤ s by omega)))
    rw [e x hx, e y hy]
theorem toNat_inj {a b : Bool} (h : a.toNat = b.toNat) : a = b := by cases a <;> cases b <;> simp_all
theorem bytes_ext {a b : List Nat} (ha : Tr 8 a) (hb : Tr 8 b) (h : ∀ j, bitN a j = bitN b j) : a = b :=
  ha.ext hb (fun i => test_ext (ha.c i) (hb.c i) (fun s hs => by
    have := h (8 * i + s)
    rw [bitN_test _ _ _ hs, bitN_test _ _ _ hs] at this
    exact toNat_inj this))
theorem bl_inj {a b : List Nat} (ha : Tr 8 a) (hb : Tr 8 b) (h : bl a = bl b) : a = b := bytes_ext ha hb (fun j => by rw [← cf_bl, ← cf_bl, h])
/-- A byte of bits. -/
def byt (f : Nat → Nat) : Nat → Nat
  | 0 => 0
  | n + 1 => byt f n + f n * 2 ^ n
theorem byt_spec {f : Nat → Nat} (hf : ∀ j, f j < 2) : ∀ n, byt f n < 2 ^ n ∧ ∀ s, s < n → ((byt f n).testBit s).toNat = f s
  | 0 => ⟨by show 0 < 1; omega, fun s h => by omega⟩
  | n + 1 => by
    obtain ⟨h1, h2⟩ := byt_spec hf n
    have hfn := hf n
    have e : byt f (n + 1) = 2 ^ n * f n + byt f n := by
      show byt f n + f n * 2 ^ n = _
      rw [Nat.mul_comm (f n), Nat.add_comm]
    refine ⟨?_, fun s hs => ?_⟩
    · rw [e, Nat.pow_succ]
      have : 2 ^ n * f n ≤ 2 ^ n * 1 := Nat.mul_le_mul_left _ (by omega)
      omega
    · rw [e, Nat.testBit_two_pow_mul_add _ h1]
      by_cases h : s < n
      · rw [if_pos h]; exact h2 s h
      · obtain rfl : s = n := by omega
        rw [if_neg (by omega), Nat.sub_self]
        rcases (show f s = 0 ∨ f s = 1 by omega) with h0 | h0 <;> rw [h0] <;> decide
/-- The bytes of a polynomial. -/
def bys (a : List Nat) : List Nat := pl ((a.length + 7) / 8) (fun i => byt (fun s => cf a (8 * i + s)) 8)
theorem bys_tr {a : List Nat} (h : ∀ j, cf a j < 2) : Tr 8 (bys a) := pl_tr (fun i => (byt_spec (fun s => h (8 * i + s)) 8).1)
theorem bitN_bys {a : List Nat} (h : ∀ j, cf a j < 2) (j : Nat) : bitN (bys a) j = cf a j := by
  have e := bitN_test (bys a) (j / 8) (j % 8) (Nat.mod_lt _ (by omega))
  rw [show 8 * (j / 8) + j % 8 = j by omega] at e
  rw [e]
  unfold bys
  rw [cf_pl]
  split
  · rw [(byt_spec (fun s => h (8 * (j / 8) + s)) 8).2 _ (Nat.mod_lt _ (by omega)), show 8 * (j / 8) + j % 8 = j by omega]
  · rw [cf_out (by omega)]
    simp
theorem bl_bys {a : List Nat} (h : B1 a) : bl (bys a) = a := (bl_b1 _).tr.ext h.tr (fun j => by rw [cf_bl, bitN_bys h.le])
theorem bys_bl {l : List Nat} (h : Tr 8 l) : bys (bl l) = l := bl_inj (bys_tr (bl_b1 l).le) h (bl_bys (bl_b1 l))
/-- Whatever has these bits is the bytes of the polynomial. -/
theorem bys_of {l a : List Nat} (hl : ∀ x ∈ l, x < 256) (ha : B1 a) (h : ∀ j, bitN l j = cf a j) : trim l = bys a :=
  bytes_ext (a := trim l) ⟨fun x hx => trim_lt hl x hx, trim_trim l⟩ (bys_tr ha.le) (fun j => by
    rw [bitN_bys ha.le, ← h]
    unfold bitN
    rw [cf_trim])
theorem bys_len (a : List Nat) : (bys a).length ≤ (a.length + 7) / 8 := by
  unfold bys pl
  rw [trim_length]
  simpa using tl_le ((List.range ((a.length + 7) / 8)).map fun i => byt (fun s => cf a (8 * i + s)) 8)
theorem bl_len (l : List Nat) : (bl l).length ≤ 8 * l.length := by
  unfold bl pl
  rw [trim_length]
  simpa using tl_le ((List.range (8 * l.length)).map (bitN l))
theorem bl_trim (l : List Nat) : bl (trim l) = bl l := (bl_b1 _).tr.ext (bl_b1 _).tr (fun j => by
  rw [cf_bl, cf_bl]
  unfold bitN
  rw [cf_trim])

/-! ### Sums, products, quotients keep to 0 and 1 -/
theorem xor_two {a b : Nat} (ha : a < 2) (hb : b < 2) : a ^^^ b < 2 := Nat.xor_lt_two_pow (n := 1) ha hb
theorem gm_two {a b : Nat} (ha : a < 2) (hb : b < 2) : gm 3 a b = a * b := by
  rcases (show a = 0 ∨ a = 1 by omega) with rfl | rfl <;> rcases (show b = 0 ∨ b = 1 by omega) with rfl | rfl <;> decide
theorem gm_two_lt {a b : Nat} (ha : a < 2) (hb : b < 2) : gm 3 a b < 2 := by
  rw [gm_two ha hb]
  rcases (show a = 0 ∨ a = 1 by omega) with rfl | rfl <;> omega
theorem xs_two {f : Nat → Nat} : ∀ {n : Nat}, (∀ i, i < n → f i < 2) → xs f n < 2
  | 0, _ => by show 0 < 2; omega
  | n + 1, h => xor_two (xs_two (fun i hi => h i (by omega))) (h n (by omega))
theorem addP_b1 {a b : List Nat} (ha : B1 a) (hb : B1 b) : B1 (addP a b) := ⟨addP_tr ok3 ha.tr hb.tr, fun j => by rw [cf_addP]; exact xor_two (ha.le j) (hb.le j)⟩
theorem mulP_b1 {a b : List Nat} (ha : B1 a) (hb : B1 b) : B1 (mulP 3 a b) := ⟨mulP_tr ok3 ha.tr hb.tr, fun j => by
  rw [cf_mulP]
  exact xs_two (fun i _ => gm_two_lt (ha.le _) (hb.le _))⟩
theorem inv_one {m : Nat} (hm : Ok m) : inv m 1 = 1 := by
  have := gm_inv hm (one_lt hm) (by omega)
  rw [gm_one_left hm (inv_lt hm _)] at this
  exact this
theorem B1.top {a : List Nat} (h : B1 a) (h0 : a.length ≠ 0) : cf a (a.length - 1) = 1 := by
  have h1 := h.tr.top h0
  have h2 := h.le (a.length - 1)
  omega
theorem nil_b1 : B1 [] := ⟨nil_tr 3, fun j => by rw [cf_nil]; omega⟩
theorem lt8 {f : Nat → Nat} (h : ∀ j, f j < 2) (j : Nat) : f j < 2 ^ 3 := Nat.lt_trans (h j) (by decide)
theorem dC_two {b : List Nat} (hb : B1 b) (h0 : b.length ≠ 0) {R : Nat → Nat} (hR : ∀ j, R j < 2) (n : Nat) : dC 3 b R n < 2 := by
  unfold dC
  rw [hb.top h0, inv_one ok3, gm_one_right ok3 (lt8 hR _)]
  exact hR _
theorem dSi_two {b : List Nat} (hb : B1 b) {R : Nat → Nat} (hR : ∀ j, R j < 2) {n c i : Nat} (hc : c < 2) (j : Nat) : dSi 3 b R n c i j < 2 := by
  unfold dSi
  split
  · exact xor_two (hR j) (gm_two_lt hc (hb.le _))
  · exact hR j
theorem divR_two {b : List Nat} (hb : B1 b) (h0 : b.length ≠ 0) : ∀ (n : Nat) {R : Nat → Nat}, (∀ j, R j < 2) → ∀ j, divR 3 b n R j < 2
  | 0, _, hR, j => hR j
  | n + 1, _, hR, j => divR_two hb h0 n (fun j => dSi_two hb hR (dC_two hb h0 hR n) j) j
theorem divQ_two {b : List Nat} (hb : B1 b) (h0 : b.length ≠ 0) : ∀ (n : Nat) {R : Nat → Nat}, (∀ j, R j < 2) → ∀ j, divQ 3 b n R j < 2
  | 0, _, _, _ => by show 0 < 2; omega
  | n + 1, R, hR, j => by
    unfold divQ
    split
    · exact dC_two hb h0 hR n
    · exact divQ_two hb h0 n (fun j => dSi_two hb hR (dC_two hb h0 hR n) j) j
theorem quotP_b1 {a b : List Nat} (ha : B1 a) (hb : B1 b) (h0 : b.length ≠ 0) : B1 (quotP 3 a b) := ⟨quotP_tr ok3 ha.tr, fun j => by rw [cf_quotP ok3]; exact divQ_two hb h0 _ ha.le j⟩
theorem restP_b1 {a b : List Nat} (ha : B1 a) (hb : B1 b) (h0 : b.length ≠ 0) : B1 (restP 3 a b) := ⟨restP_tr ok3 ha.tr, fun j => by rw [cf_restP ok3 ha.tr hb.tr h0]; exact divR_two hb h0 _ ha.le j⟩
theorem gcdP_b1 : ∀ (k : Nat) {a b : List Nat}, B1 a → B1 b → B1 (gcdP 3 k a b)
  | 0, _, _, ha, _ => ha
  | k + 1, a, b, ha, hb => by
    unfold gcdP
    split
    · exact ha
    · rename_i h0
      exact gcdP_b1 k hb (restP_b1 ha hb h0)
theorem gcdE_b1 {a b : List Nat} (ha : B1 a) (hb : B1 b) : B1 (gcdE 3 a b) := gcdP_b1 _ ha hb
/-! ### Shifts -/
/-- n places up. -/
def upP (n : Nat) (a : List Nat) : List Nat := pl (n + a.length) (fun j => if n ≤ j then cf a (j - n) else 0)
/-- n places down. -/
def dnP (n : Nat) (a : List Nat) : List Nat := pl a.length (fun j => cf a (j + n))
theorem cf_upP (n : Nat) (a : List Nat) (j : Nat) : cf (upP n a) j = if n ≤ j then cf a (j - n) else 0 := by
  unfold upP
  rw [cf_pl]
  split
  · rfl
  · split
    · rw [cf_out (by omega)]
    · rfl
theorem cf_dnP (n : Nat) (a : List Nat) (j : Nat) : cf (dnP n a) j = cf a (j + n) := by
  unfold dnP
  rw [cf_pl]
  split
  · rfl
  · rw [cf_out (by omega)]
theorem upP_b1 {a : List Nat} (ha : B1 a) (n : Nat) : B1 (upP n a) := ⟨pl_tr (fun j => by split; exact ha.tr.c _; decide), fun j => by rw [cf_upP]; split; exact ha.le _; omega⟩
theorem dnP_b1 {a : List Nat} (ha : B1 a) (n : Nat) : B1 (dnP n a) := ⟨pl_tr (fun j => ha.tr.c _), fun j => by rw [cf_dnP]; exact ha.le _⟩
theorem dn_up {a : List Nat} (ha : B1 a) (n : Nat) : dnP n (upP n a) = a := (dnP_b1 (upP_b1 ha n) n).tr.ext ha.tr (fun j => by rw [cf_dnP, cf_upP, if_pos (by omega), show j + n - n = j by omega])
/-- x to the n-th. -/
def xP (n : Nat) : List Nat := upP n [1]
theorem one_b1 : B1 [1] := ⟨⟨by decide, by decide⟩, fun j => by cases j with | zero => decide | succ j => rw [cf_cons_succ, cf_nil]; omega⟩
theorem xP_b1 (n : Nat) : B1 (xP n) := upP_b1 one_b1 n
theorem cf_xP (n j : Nat) : cf (xP n) j = if j = n then 1 else 0 := by
  unfold xP
  rw [cf_upP]
  by_cases h : j = n
  · subst h; rw [if_pos (Nat.le_refl _), if_pos rfl, Nat.sub_self]; rfl
  · rw [if_neg h]
    split
    · rw [cf_out (by simp; omega)]
    · rfl
theorem mul_xP {a : List Nat} (ha : B1 a) (n : Nat) : mulP 3 a (xP n) = upP n a := by
  rw [mulP_comm ok3 ha.tr (xP_b1 n).tr]
  refine (mulP_tr ok3 (xP_b1 n).tr ha.tr).ext (upP_b1 ha n).tr (fun j => ?_)
  rw [cf_mulP, cv_congr (f' := fun i => if i = n then 1 else 0) (fun i _ => cf_xP n i) (fun _ _ => rfl), cv_one, cf_upP]
  split
  · rw [gm_one_left ok3 (ha.tr.c _)]
  · rfl
/-! ### Degrees -/
theorem upP_len {a : List Nat} (ha : B1 a) (h0 : a.length ≠ 0) (n : Nat) : (upP n a).length = n + a.length := by
  have h1 : (upP n a).length ≤ n + a.length := by
    unfold upP pl
    rw [trim_length]
    simpa using tl_le ((List.range (n + a.length)).map fun j => if n ≤ j then cf a (j - n) else 0)
  refine Nat.le_antisymm h1 (Nat.le_of_not_lt fun hlt => ?_)
  have h2 := cf_upP n a (n + a.length - 1)
  rw [if_pos (by omega), show n + a.length - 1 - n = a.length - 1 by omega, cf_out (by omega), ha.top h0] at h2
  cases h2
end Go.Proofs.YtompcfingkoldaaDoor
end
section
/- Bits of bytes and of numbers of 64 bits without a sign, said of natural numbers. No condition. -/
namespace Go.Sx
open Go

theorem w8 {x : Nat} (h : x < 256) : IntKind.u8.wrap (x : Int) = x := by
  simp only [IntKind.wrap, IntKind.signed, IntKind.bits]
  simp
  omega
theorem w8_mod (x : Nat) : IntKind.u8.wrap (x : Int) = ((x % 256 : Nat) : Int) := by
  simp only [IntKind.wrap, IntKind.signed, IntKind.bits]
  simp
theorem wu64' {x : Nat} (h : x < 2 ^ 64) : IntKind.u64.wrap (x : Int) = x := by
  simp only [IntKind.wrap, IntKind.signed, IntKind.bits]
  simp
  omega
theorem toNat_ofInt8 {x : Nat} (h : x < 256) : (BitVec.ofInt 8 (x : Int)).toNat = x := by
  rw [BitVec.toNat_ofInt]
  show ((x : Int) % 256).toNat = x
  omega
theorem toNat_ofIntU {x : Nat} (h : x < 2 ^ 64) : (BitVec.ofInt 64 (x : Int)).toNat = x := by
  rw [toNat_ofInt64]
  omega
theorem ibit_xor_u8 {x y : Nat} (hx : x < 256) (hy : y < 256) : ibit .xor .u8 x y = ((x ^^^ y : Nat) : Int) := by
  show IntKind.u8.wrap ((BitVec.ofInt 8 (x : Int) ^^^ BitVec.ofInt 8 (y : Int)).toNat : Nat) = _
  rw [BitVec.toNat_xor, toNat_ofInt8 hx, toNat_ofInt8 hy]
  exact w8 (Nat.xor_lt_two_pow (n := 8) hx hy)
theorem ibit_or_u8 {x y : Nat} (hx : x < 256) (hy : y < 256) : ibit .or .u8 x y = ((x ||| y : Nat) : Int) := by
  show IntKind.u8.wrap ((BitVec.ofInt 8 (x : Int) ||| BitVec.ofInt 8 (y : Int)).toNat : Nat) = _
  rw [BitVec.toNat_or, toNat_ofInt8 hx, toNat_ofInt8 hy]
  exact w8 (Nat.or_lt_two_pow (n := 8) hx hy)
theorem ibit_and_u8 {x y : Nat} (hx : x < 256) (hy : y < 256) : ibit .and .u8 x y = ((x &&& y : Nat) : Int) := by
  show IntKind.u8.wrap ((BitVec.ofInt 8 (x : Int) &&& BitVec.ofInt 8 (y : Int)).toNat : Nat) = _
  rw [BitVec.toNat_and, toNat_ofInt8 hx, toNat_ofInt8 hy]
  exact w8 (Nat.lt_of_le_of_lt Nat.and_le_left hx)
theorem ibit_and1_u8 {x : Nat} (hx : x < 256) : ibit .and .u8 x 1 = ((x % 2 : Nat) : Int) := by
  have := ibit_and_u8 hx (show 1 < 256 by omega)
  rw [Nat.and_one_is_mod] at this
  exact this
theorem ibit_xor_u64 {x y : Nat} (hx : x < 2 ^ 64) (hy : y < 2 ^ 64) : ibit .xor .u64 x y = ((x ^^^ y : Nat) : Int) := by
  show IntKind.u64.wrap ((BitVec.ofInt 64 (x : Int) ^^^ BitVec.ofInt 64 (y : Int)).toNat : Nat) = _
  rw [BitVec.toNat_xor, toNat_ofIntU hx, toNat_ofIntU hy]
  exact wu64' (Nat.xor_lt_two_pow hx hy)
theorem ibit_or_u64 {x y : Nat} (hx : x < 2 ^ 64) (hy : y < 2 ^ 64) : ibit .or .u64 x y = ((x ||| y : Nat) : Int) := by
  show IntKind.u64.wrap ((BitVec.ofInt 64 (x : Int) ||| BitVec.ofInt 64 (y : Int)).toNat : Nat) = _
  rw [BitVec.toNat_or, toNat_ofIntU hx, toNat_ofIntU hy]
  exact wu64' (Nat.or_lt_two_pow hx hy)
/-- Shifts of bytes. -/
theorem shl_u8 {x k : Nat} (hk : k ≤ 8) : IntKind.u8.wrap ((x : Int) * 2 ^ (min (k : Int).toNat IntKind.u8.bits)) = ((x * 2 ^ k % 256 : Nat) : Int) := by
  have : min (k : Int).toNat IntKind.u8.bits = k := by simp [IntKind.bits]; omega
  rw [this]
  have e : (x : Int) * 2 ^ k = ((x * 2 ^ k : Nat) : Int) := by push_cast; rfl
  rw [e]
  exact w8_mod _
theorem shr_u8 {x k : Nat} (hk : k ≤ 8) : ((x : Int)).fdiv (2 ^ (min (k : Int).toNat IntKind.u8.bits)) = ((x >>> k : Nat) : Int) := by
  have : min (k : Int).toNat IntKind.u8.bits = k := by simp [IntKind.bits]; omega
  rw [this, Nat.shiftRight_eq_div_pow, Int.fdiv_eq_ediv_of_nonneg _ (by exact Int.le_of_lt (Int.pow_pos (by decide)))]
  push_cast
  rfl
theorem shl_u64 {x k : Nat} (hk : k ≤ 63) (h : x * 2 ^ k < 2 ^ 64) : IntKind.u64.wrap ((x : Int) * 2 ^ (min (k : Int).toNat IntKind.u64.bits)) = ((x * 2 ^ k : Nat) : Int) := by
  have : min (k : Int).toNat IntKind.u64.bits = k := by simp [IntKind.bits]; omega
  rw [this]
  have e : (x : Int) * 2 ^ k = ((x * 2 ^ k : Nat) : Int) := by push_cast; rfl
  rw [e]
  exact wu64' h
theorem shr_u64 {x k : Nat} (hk : k ≤ 64) : ((x : Int)).fdiv (2 ^ (min (k : Int).toNat IntKind.u64.bits)) = ((x >>> k : Nat) : Int) := by
  have : min (k : Int).toNat IntKind.u64.bits = k := by simp [IntKind.bits]; omega
  rw [this, Nat.shiftRight_eq_div_pow, Int.fdiv_eq_ediv_of_nonneg _ (by exact Int.le_of_lt (Int.pow_pos (by decide)))]
  push_cast
  rfl
end Go.Sx
end
section
/- The contracts of package binpoly. Conditions: the lists are bytes, read where they lie. -/
namespace Go.Proofs.YtompcfingkoldaaDoor
open Go Go.Lib Go.Sx Go.Fm
set_option maxRecDepth 100000
/-! ### The library's tables -/
section
variable {P : Program} {ops : Array Oper} {S : World → Prop} {K : Act → World → Prop} {p : Plan} {n : Nat} {l : List (Nat × Value)} {C : World → Prop} {fl : Bool} {i : Nat} {ty ty2 : TypeId} {y : Operand}
theorem s_len8 (d : Nat) {s : ByteArray} {k : IntKind} {b r : Int} (ho : opAt ops n l i = some (some d, .index ty (.const (.string s)) y, ty2)) (hs : s = len8tab) (hu : P.underlying ty = some .string) (hy : ev l y = some (.int k b)) (h0 : 0 ≤ b) (h1 : b ≤ 255) (hr : len8 b = r)
    (h : SX P ops S K p n ((d, .int .u8 r) :: l) C) : SX P ops S K (.st fl i p) n l C :=
  SX.pure ho (fun a w o he h1' _ => by
    subst hs
    subst hr
    have e1 : a.eval (.const (.string len8tab)) = .string len8tab := rfl
    simp only [execOp, h1', he.ev hy, e1, Sem.run_bind, run_index_len8tab w ty k b hu h0 h1, Result.andThen_ok, Sem.run_pure]) h
theorem s_pop8 (d : Nat) {s : ByteArray} {k : IntKind} {b r : Int} (ho : opAt ops n l i = some (some d, .index ty (.const (.string s)) y, ty2)) (hs : s = pop8tab) (hu : P.underlying ty = some .string) (hy : ev l y = some (.int k b)) (h0 : 0 ≤ b) (h1 : b ≤ 255) (hr : pop8 b = r)
    (h : SX P ops S K p n ((d, .int .u8 r) :: l) C) : SX P ops S K (.st fl i p) n l C :=
  SX.pure ho (fun a w o he h1' _ => by
    subst hs
    subst hr
    have e1 : a.eval (.const (.string pop8tab)) = .string pop8tab := rfl
    simp only [execOp, h1', he.ev hy, e1, Sem.run_bind, run_index_pop8tab w ty k b hu h0 h1, Result.andThen_ok, Sem.run_pure]) h
end
/-- How many bits a byte has. -/
def bln (x : Nat) : Nat := (len8 (x : Int)).toNat
theorem bln_all : ∀ x : Nat, x < 256 → len8 (x : Int) = (bln x : Nat) ∧ bln x ≤ 8 ∧ x < 2 ^ bln x ∧ (x ≠ 0 → bln x ≠ 0 ∧ x.testBit (bln x - 1) = true) := by decide +kernel
theorem pop_all : ∀ x : Nat, x < 256 → ∃ z : Nat, pop8 (x : Int) = (z : Nat) ∧ z ≤ 8 ∧ z % 2 = xs (fun s => (x >>> s) % 2) 8 := by
  have : ∀ x : Nat, x < 256 → pop8 (x : Int) = ((pop8 (x : Int)).toNat : Nat) ∧ (pop8 (x : Int)).toNat ≤ 8 ∧ (pop8 (x : Int)).toNat % 2 = xs (fun s => (x >>> s) % 2) 8 := by decide +kernel
  exact fun x hx => ⟨_, this x hx⟩

theorem len8_spec (x : Nat) (w : World) (hx : x < 256) : Spec1 Tryd.prog 135 [.int .u8 (x : Nat)] w (.int .i64 (bln x : Nat)) := by
  obtain ⟨h1, h2, h3, h4⟩ := bln_all x hx
  refine spec_of Tryd.func135 rfl Tryd.ntmps135 rfl ?_
  refine CW.seq ?_
  refine CW.reg [0] rfl ?_   -- 0, bits.go:310
  refine s_as 2 rfl rfl ?_
  refine SX.next ?_
  refine CW.seq ?_
  refine CW.reg [0, 1, 2, 3] rfl ?_   -- 1, bits.go:311
  refine s_mv 3 rfl rfl ?_
  refine s_len8 4 rfl (by kernel_rfl) (by kernel_rfl) rfl (by omega) (by omega) h1 ?_
  refine s_conv 5 rfl rfl (w64 (by omega)) ?_
  refine s_as 2 rfl rfl ?_
  refine SX.next ?_
  refine CW.ret ?_
  exact KN.ret (rs := [.tmp 2]) Tryd.results135 rfl (fun w hw => ⟨rfl, hw.nothing⟩)

/-- Bytes are answered, in memory of their own. -/
abbrev SpecB (P : Program) (f : FuncId) (args : List Value) (w : World) (E : List Nat) : Prop :=
  SpecX P f args w (X := Option Addr × Nat) (fun q => .slice q.1 E.length q.2) (fun q => E.length ≤ q.2) (fun q => [own 5 1 q.1 E.length q.2 (nats .u8 E)])
theorem natsAt8 {a : List Nat} {i : Nat} (h : i < a.length) : (nats .u8 a)[i]? = some (.int .u8 (cf a i : Nat)) := by
  rw [natsAt h]; rfl
theorem cf_lt8 {a : List Nat} (h : ∀ x ∈ a, x < 256) (j : Nat) : cf a j < 256 := cf_lt h (by omega) j

theorem trimmed_spec (A : Option Addr) (n c : Nat) (p : List Nat) (w : World) (ha : Has (sl 1 A n (nats .u8 p)) w) (_hp : ∀ x ∈ p, x < 256) (hn : n ≤ 1073741824) (hcp : n ≤ c) : SpecB Tryd.prog 133 [.slice A n c] w (trim p) := by
  have hla := nats_len ha
  subst hla
  have htl := tl_le p
  have htt := trim_length p
  refine spec_of Tryd.func133 rfl Tryd.ntmps133 rfl ?_
  refine CW.seq ?_
  refine CW.reg [0] rfl ?_   -- 0, binpoly.go:20
  refine s_as 2 rfl rfl ?_
  refine SX.next ?_
  refine CW.seq ?_
  refine CW.reg [0, 1, 2] rfl ?_   -- 1, binpoly.go:21
  refine s_mv 4 rfl rfl ?_
  refine s_len 5 rfl rfl ?_
  refine s_as 3 rfl rfl ?_
  refine SX.next ?_
  refine CW.seq ?_
  refine CW.block ?_
  refine CW.loop (G := Nat) (fun k => [(0, .slice A p.length c), (3, .int .i64 (k : Nat))]) (fun _ => Sto w []) (fun k => tl p ≤ k ∧ k ≤ p.length) (fun k => k) p.length ⟨rfl, rfl, trivial⟩ (fun _ h => h) ⟨htl, Nat.le_refl _⟩ ?_
  intro k hk0
  obtain ⟨hk1, hk2⟩ := hk0
  refine CW.seq ?_
  refine CW.seq ?_
  refine CW.reg [0, 1, 2, 3, 4, 5, 6, 7, 8, 9] rfl ?_   -- 2, binpoly.go:22
  refine s_mv 6 rfl rfl ?_
  refine s_gt 7 rfl rfl rfl rfl ?_
  refine s_mv 8 rfl rfl ?_
  refine SX.bool 8 rfl (fun hb => ?_) (fun hb => ?_)
  · skip
    replace hb := of_decide_eq_true hb
    refine s_mv 9 rfl rfl ?_
    refine s_mv 10 rfl rfl ?_
    refine s_sub 11 rfl rfl rfl (r := ((k - 1 : Nat) : Int)) (by rw [show ((k : Nat) : Int) - 1 = ((k - 1 : Nat) : Int) by omega]; exact w64 (by omega)) ?_
    refine s_iaV 12 (k - 1) (fun w hw => hw.old ha) rfl rfl rfl rfl (by omega) ?_
    refine s_ldV 13 (fun w hw => hw.old ha) rfl rfl (by rw [Nat.mul_one]; exact natsAt8 (by omega)) (by omega) ?_
    refine s_eq 14 rfl rfl rfl rfl ?_
    refine s_pickT 15 rfl rfl rfl ?_
    refine SX.next ?_
    refine CW.test rfl (fun hc => ?_) (fun hc => ?_)
    · skip
      have hk3 : tl p ≤ k - 1 := by
        by_cases h : tl p = k
        · have := cf_top p (by omega)
          rw [h] at this
          omega
        · omega
      refine CW.skip ?_
      refine KN.code ?_
      refine CW.block ?_
      refine CW.reg [0, 1, 2] rfl ?_   -- 3, binpoly.go:23
      refine s_mv 16 rfl rfl ?_
      refine s_sub 17 rfl rfl rfl (r := ((k - 1 : Nat) : Int)) (by rw [show ((k : Nat) : Int) - 1 = ((k - 1 : Nat) : Int) by omega]; exact w64 (by omega)) ?_
      refine s_as 3 rfl rfl ?_
      refine SX.end_ ?_
      refine KN.blk ?_
      exact KN.back (k - 1) ⟨rfl, rfl, trivial⟩ (fun _ h => h) ⟨hk3, by omega⟩ (by omega)
    · skip
      have hk3 : (trim p).length = k := by
        have : k ≤ tl p := Nat.le_of_not_lt (fun h => hc (by rw [cf_hi p (k - 1) (by omega)]; rfl))
        omega
      have hk := hk3
      refine CW.exit rfl ?_
      refine KN.code ?_
      refine CW.seq ?_
      refine CW.reg [0, 1, 2, 3, 4] rfl ?_   -- 4, binpoly.go:25
      refine s_mv 18 rfl rfl ?_
      refine s_mv 19 rfl rfl ?_
      refine s_slH 20 k rfl rfl rfl rfl (by omega) ?_
      refine s_app0 21 rfl rfl rfl (ys := nats .u8 (trim p)) (fun w hw => Has.cong ((hw.old ha).sl_take (q := k) (by omega)) (by rw [nats_take, Nat.mul_one, ← hk, htt]; rfl)) (nats_one _ _) rfl (by omega) (by unfold maxLen; omega) (by omega) (fun _ _ _ _ => trivial) (fun A2 c2 hc2 => ?_)
      refine s_as 2 rfl rfl ?_
      refine SX.next ?_
      refine CW.ret ?_
      exact KN.ret (rs := [.tmp 2]) Tryd.results133 rfl (fun w hw => ⟨(A2, c2), by rw [hk]; rfl, by rw [hk]; exact hc2, by rw [hk]; exact hw.pick [0] rfl⟩)
  · skip
    replace hb := of_decide_eq_false hb
    have hk : (trim p).length = k := by omega
    refine SX.skip rfl ?_
    refine SX.skip rfl ?_
    refine SX.skip rfl ?_
    refine SX.skip rfl ?_
    refine SX.skip rfl ?_
    refine SX.skip rfl ?_
    refine s_pickF 15 rfl rfl rfl ?_
    refine SX.next ?_
    refine CW.condF rfl ?_
    refine CW.exit rfl ?_
    refine KN.code ?_
    refine CW.seq ?_
    refine CW.reg [0, 1, 2, 3, 4] rfl ?_   -- 4, binpoly.go:25
    refine s_mv 18 rfl rfl ?_
    refine s_mv 19 rfl rfl ?_
    refine s_slH 20 k rfl rfl rfl rfl (by omega) ?_
    refine s_app0 21 rfl rfl rfl (ys := nats .u8 (trim p)) (fun w hw => Has.cong ((hw.old ha).sl_take (q := k) (by omega)) (by rw [nats_take, Nat.mul_one, ← hk, htt]; rfl)) (nats_one _ _) rfl (by omega) (by unfold maxLen; omega) (by omega) (fun _ _ _ _ => trivial) (fun A2 c2 hc2 => ?_)
    refine s_as 2 rfl rfl ?_
    refine SX.next ?_
    refine CW.ret ?_
    exact KN.ret (rs := [.tmp 2]) Tryd.results133 rfl (fun w hw => ⟨(A2, c2), by rw [hk]; rfl, by rw [hk]; exact hc2, by rw [hk]; exact hw.pick [0] rfl⟩)

/-! ### Degrees -/
theorem bitN_zero {l : List Nat} {j : Nat} (h : cf l (j / 8) = 0) : bitN l j = 0 := by
  unfold bitN
  rw [h]
  simp
theorem deg_at {p : List Nat} {i : Nat} (h0 : ∀ j, i < j → cf p j = 0) (hx : cf p i < 256) (hne : cf p i ≠ 0) : (bl p).length = 8 * i + bln (cf p i) := by
  obtain ⟨_, h2, h3, h4⟩ := bln_all _ hx
  obtain ⟨h4, h5⟩ := h4 hne
  have hle : (bl p).length ≤ 8 * i + bln (cf p i) := len_le_of (bl_b1 p).tr (fun j hj => by
    rw [cf_bl]
    by_cases hji : j / 8 = i
    · have e := bitN_test p (j / 8) (j % 8) (Nat.mod_lt _ (by omega))
      rw [show 8 * (j / 8) + j % 8 = j by omega, hji] at e
      rw [e, Nat.testBit_lt_two_pow (Nat.lt_of_lt_of_le h3 (Nat.pow_le_pow_right (by omega) (by omega)))]
      rfl
    · exact bitN_zero (h0 _ (by omega)))
  refine Nat.le_antisymm hle (Nat.le_of_not_lt fun hlt => ?_)
  have e := bitN_test p i (bln (cf p i) - 1) (by omega)
  rw [h5, ← cf_bl, cf_out (by omega)] at e
  cases e
theorem deg_none {p : List Nat} (h0 : ∀ j, cf p j = 0) : (bl p).length = 0 := by
  have := len_le_of (bl_b1 p).tr (n := 0) (fun j _ => by rw [cf_bl]; exact bitN_zero (h0 _))
  omega

theorem bdeg_spec (A : Option Addr) (n c : Nat) (p : List Nat) (w : World) (ha : Has (sl 1 A n (nats .u8 p)) w) (hp : ∀ x ∈ p, x < 256) (hn : n ≤ 1073741824) (hcp : n ≤ c) : Spec1 Tryd.prog 63 [.slice A n c] w (.int .i64 (((bl p).length : Nat) - 1 : Int)) := by
  have hla := nats_len ha
  subst hla
  have hbl := bl_len p
  refine spec_of Tryd.func63 rfl Tryd.ntmps63 rfl ?_
  refine CW.seq ?_
  refine CW.reg [0] rfl ?_   -- 0, binpoly.go:57
  refine s_as 2 rfl rfl ?_
  refine SX.next ?_
  refine CW.seq ?_
  refine CW.seq ?_
  refine CW.reg [0, 1, 2, 3] rfl ?_   -- 1, binpoly.go:58
  refine s_mv 4 rfl rfl ?_
  refine s_len 5 rfl rfl ?_
  refine s_sub 6 rfl rfl rfl (r := ((p.length : Nat) : Int) - 1) (w64 (by omega)) ?_
  refine s_as 3 rfl rfl ?_
  refine SX.next ?_
  refine CW.block ?_
  refine CW.loop (G := Nat) (fun k => [(0, .slice A p.length c), (3, .int .i64 ((k : Nat) - 1))]) (fun _ => Sto w []) (fun k => k ≤ p.length ∧ ∀ j, k ≤ j → cf p j = 0) (fun k => k) p.length ⟨rfl, rfl, trivial⟩ (fun _ h => h) ⟨Nat.le_refl _, fun j hj => cf_out hj⟩ ?_
  intro k hk0
  obtain ⟨hk1, hk2⟩ := hk0
  refine CW.seq ?_
  refine CW.seq ?_
  refine CW.reg [0, 1] rfl ?_   -- 2, binpoly.go:58
  refine s_mv 7 rfl rfl ?_
  refine s_ge 8 rfl rfl rfl rfl ?_
  refine SX.next ?_
  refine CW.test rfl (fun hc => ?_) (fun hc => ?_)
  · skip
    refine CW.skip ?_
    refine KN.code ?_
    refine CW.seq ?_
    refine CW.block ?_
    refine CW.seq ?_
    refine CW.reg [0, 1, 2, 3, 4] rfl ?_   -- 4, binpoly.go:59
    refine s_mv 11 rfl rfl ?_
    refine s_mv 12 rfl rfl ?_
    refine s_iaV 13 (k - 1) (fun w hw => hw.old ha) rfl rfl rfl (by omega) (by omega) ?_
    refine s_ldV 14 (fun w hw => hw.old ha) rfl rfl (by rw [Nat.mul_one]; exact natsAt8 (by omega)) (by omega) ?_
    refine s_gt 15 rfl rfl rfl rfl ?_
    refine SX.next ?_
    refine CW.test rfl (fun hc => ?_) (fun hc => ?_)
    · skip
      have hd := deg_at (p := p) (i := k - 1) (fun j hj => hk2 j (by omega)) (cf_lt8 hp _) (by omega)
      obtain ⟨_, hb8, _⟩ := bln_all _ (cf_lt8 hp (k - 1))
      refine CW.seq ?_
      refine CW.reg [0, 1, 2, 3, 4, 5, 6, 7, 8, 9] rfl ?_   -- 5, binpoly.go:60
      refine s_mv 16 rfl rfl ?_
      refine s_mul 17 rfl rfl rfl (r := ((8 * (k - 1) : Nat) : Int)) (by rw [show (8 : Int) * (((k : Nat) : Int) - 1) = ((8 * (k - 1) : Nat) : Int) by omega]; exact w64 (by omega)) ?_
      refine s_mv 18 rfl rfl ?_
      refine s_mv 19 rfl rfl ?_
      refine s_iaV 20 (k - 1) (fun w hw => hw.old ha) rfl rfl rfl (by omega) (by omega) ?_
      refine s_ldV 21 (fun w hw => hw.old ha) rfl rfl (by rw [Nat.mul_one]; exact natsAt8 (by omega)) (by omega) ?_
      refine s_call1 22 rfl rfl rfl rfl (fun w hw => len8_spec _ w (cf_lt8 hp _)) (fun _ _ => trivial) ?_
      refine s_add 23 rfl rfl rfl (r := (((bl p).length : Nat) : Int)) (by rw [hd]; push_cast; exact w64 (by omega)) ?_
      refine s_sub 24 rfl rfl rfl (r := (((bl p).length : Nat) : Int) - 1) (w64 (by omega)) ?_
      refine s_as 2 rfl rfl ?_
      refine SX.next ?_
      refine CW.ret ?_
      exact KN.ret (rs := [.tmp 2]) Tryd.results63 rfl (fun w hw => ⟨rfl, hw.nothing⟩)
    · skip
      refine CW.skip ?_
      refine KN.blk ?_
      refine KN.code ?_
      refine CW.reg [0, 1, 2] rfl ?_   -- 3, binpoly.go:58
      refine s_mv 9 rfl rfl ?_
      refine s_sub 10 rfl rfl rfl (r := ((k - 1 : Nat) : Int) - 1) (by rw [show ((k : Nat) : Int) - 1 - 1 = ((k - 1 : Nat) : Int) - 1 by omega]; exact w64 (by omega)) ?_
      refine s_as 3 rfl rfl ?_
      refine SX.end_ ?_
      exact KN.back (k - 1) ⟨rfl, rfl, trivial⟩ (fun _ h => h) ⟨by omega, fun j hj => by
  by_cases h : j = k - 1
  · subst h; omega
  · exact hk2 j (by omega)⟩ (by omega)
  · skip
    have hd := deg_none (p := p) (fun j => hk2 j (by omega))
    refine CW.exit rfl ?_
    refine KN.code ?_
    refine CW.seq ?_
    refine CW.reg [0] rfl ?_   -- 6, binpoly.go:63
    refine s_as 2 rfl rfl ?_
    refine SX.next ?_
    refine CW.ret ?_
    exact KN.ret (rs := [.tmp 2]) Tryd.results63 rfl (fun w hw => ⟨by rw [hd]; rfl, hw.nothing⟩)

/-! ### Bits -/
/-- Bit i of bytes, of any number i. -/
def bitI (p : List Nat) (i : Int) : Nat := if i < 0 then 0 else bitN p i.toNat
theorem bitI_lt (p : List Nat) (i : Int) : bitI p i < 2 := by
  unfold bitI
  split
  · omega
  · exact bitN_lt _ _
theorem bitI_nat (p : List Nat) (i : Nat) : bitI p (i : Nat) = bitN p i := by
  unfold bitI
  rw [if_neg (by omega)]
  rfl
theorem tdiv8 (i : Nat) : ((i : Nat) : Int).tdiv 8 = ((i / 8 : Nat) : Int) := rfl
theorem tmod8 (i : Nat) : ((i : Nat) : Int).tmod 8 = ((i % 8 : Nat) : Int) := rfl
theorem quo8 (i : Nat) (h : i ≤ 9223372036854775807) : IntKind.i64.wrap (((i : Nat) : Int).tdiv 8) = ((i / 8 : Nat) : Int) := by
  rw [tdiv8]
  exact w64 (by omega)

theorem bbit_spec (A : Option Addr) (n c : Nat) (p : List Nat) (i : Int) (w : World) (ha : Has (sl 1 A n (nats .u8 p)) w) (hp : ∀ x ∈ p, x < 256) (hn : n ≤ 1073741824) (hcp : n ≤ c) (hi : i ≤ 9223372036854775807) : Spec1 Tryd.prog 73 [.slice A n c, .int .i64 i] w (.int .i64 (bitI p i : Nat)) := by
  have hla := nats_len ha
  subst hla
  have hbi := bitI_lt p i
  refine spec_of Tryd.func73 rfl Tryd.ntmps73 rfl ?_
  refine CW.seq ?_
  refine CW.reg [0] rfl ?_   -- 0, binpoly.go:67
  refine s_as 4 rfl rfl ?_
  refine SX.next ?_
  refine CW.seq ?_
  refine CW.seq ?_
  refine CW.reg [0, 1, 2, 3, 4, 5, 6, 7, 8] rfl ?_   -- 1, binpoly.go:68
  refine s_mv 5 rfl rfl ?_
  refine s_lt 6 rfl rfl rfl rfl ?_
  refine s_mv 7 rfl rfl ?_
  refine SX.bool 7 rfl (fun hb => ?_) (fun hb => ?_)
  · skip
    replace hb := of_decide_eq_true hb
    have hz : bitI p i = 0 := if_pos hb
    refine SX.skip rfl ?_
    refine SX.skip rfl ?_
    refine SX.skip rfl ?_
    refine SX.skip rfl ?_
    refine SX.skip rfl ?_
    refine s_pickT 13 rfl rfl rfl ?_
    refine SX.next ?_
    refine CW.condT rfl ?_
    refine CW.seq ?_
    refine CW.reg [0] rfl ?_   -- 2, binpoly.go:69
    refine s_as 4 rfl rfl ?_
    refine SX.next ?_
    refine CW.ret ?_
    exact KN.ret (rs := [.tmp 4]) Tryd.results73 rfl (fun w hw => ⟨by rw [hz]; rfl, hw.nothing⟩)
  · skip
    replace hb := of_decide_eq_false hb
    obtain ⟨j, rfl⟩ := Int.eq_ofNat_of_zero_le (show 0 ≤ i by omega)
    have hbj := bitI_nat p j
    refine s_mv 8 rfl rfl ?_
    refine s_quo 9 rfl rfl rfl (by omega) (quo8 j (by omega)) ?_
    refine s_mv 10 rfl rfl ?_
    refine s_len 11 rfl rfl ?_
    refine s_ge 12 rfl rfl rfl rfl ?_
    refine s_pickF 13 rfl rfl rfl ?_
    refine SX.next ?_
    refine CW.test rfl (fun hc2 => ?_) (fun hc2 => ?_)
    · skip
      have hz : bitI p j = 0 := by rw [hbj]; exact bitN_out (by omega)
      refine CW.seq ?_
      refine CW.reg [0] rfl ?_   -- 2, binpoly.go:69
      refine s_as 4 rfl rfl ?_
      refine SX.next ?_
      refine CW.ret ?_
      exact KN.ret (rs := [.tmp 4]) Tryd.results73 rfl (fun w hw => ⟨by rw [hz]; rfl, hw.nothing⟩)
    · skip
      refine CW.skip ?_
      refine KN.code ?_
      refine CW.seq ?_
      refine CW.reg [0, 1, 2, 3, 4, 5, 6, 7, 8, 9, 10] rfl ?_   -- 3, binpoly.go:71
      refine s_mv 14 rfl rfl ?_
      refine s_mv 15 rfl rfl ?_
      refine s_quo 16 rfl rfl rfl (by omega) (quo8 j (by omega)) ?_
      refine s_iaV 17 (j / 8) (fun w hw => hw.old ha) rfl rfl rfl rfl (by omega) ?_
      refine s_ldV 18 (fun w hw => hw.old ha) rfl rfl (by rw [Nat.mul_one]; exact natsAt8 (by omega)) (by omega) ?_
      refine s_mv 19 rfl rfl ?_
      refine s_rem 20 rfl rfl rfl (by omega) (tmod8 j) ?_
      refine s_shr 21 rfl rfl rfl (by omega) (shr_u8 (by omega)) ?_
      refine s_bit 22 rfl rfl rfl rfl (ibit_and1_u8 (Nat.lt_of_le_of_lt (Nat.shiftRight_le _ _) (cf_lt8 hp _))) ?_
      refine s_conv 23 rfl rfl (r := ((bitI p j : Nat) : Int)) (by rw [hbj]; exact w64 (by have := bitN_lt p j; unfold bitN at this; omega)) ?_
      refine s_as 4 rfl rfl ?_
      refine SX.next ?_
      refine CW.ret ?_
      exact KN.ret (rs := [.tmp 4]) Tryd.results73 rfl (fun w hw => ⟨rfl, hw.nothing⟩)

/-! ### Exponents -/
/-- The first d places from the top at which a coefficient stands. -/
def exU (a : List Nat) (N : Nat) : Nat → List Nat
  | 0 => []
  | d + 1 => if cf a (N - 1 - d) = 0 then exU a N d else exU a N d ++ [N - 1 - d]
def exL (a : List Nat) : List Nat := exU a a.length a.length
theorem exU_len (a : List Nat) (N : Nat) : ∀ d, (exU a N d).length ≤ d
  | 0 => Nat.le_refl _
  | d + 1 => by
    have := exU_len a N d
    unfold exU
    split
    · omega
    · simp; omega
theorem exU_lt {a : List Nat} {N x : Nat} : ∀ {d : Nat}, 0 < N → x ∈ exU a N d → x < N
  | 0, _, h => by cases h
  | d + 1, hN, h => by
    unfold exU at h
    split at h
    · exact exU_lt hN h
    · rcases List.mem_append.1 h with h | h
      · exact exU_lt hN h
      · simp at h; omega
/-- b at each of these places, added up. -/
def SS (l b : List Nat) (j : Nat) : Nat := l.foldr (fun n z => (if n ≤ j then cf b (j - n) else 0) ^^^ z) 0
theorem SS_snoc (b : List Nat) (n j : Nat) : ∀ l : List Nat, SS (l ++ [n]) b j = SS l b j ^^^ (if n ≤ j then cf b (j - n) else 0)
  | [] => by simp [SS]
  | x :: l => by
    show (if x ≤ j then cf b (j - x) else 0) ^^^ SS (l ++ [n]) b j = ((if x ≤ j then cf b (j - x) else 0) ^^^ SS l b j) ^^^ _
    rw [SS_snoc b n j l, Nat.xor_assoc]
theorem SS_exU {a b : List Nat} (ha : B1 a) (hb : B1 b) (j : Nat) : ∀ {d : Nat}, d ≤ a.length → SS (exU a a.length d) b j = cv 3 (fun i => if a.length ≤ i + d ∧ i < a.length then cf a i else 0) (cf b) j
  | 0, _ => by
    show 0 = _
    rw [cv_congr (f' := fun _ => 0) (fun i _ => if_neg (by omega)) (fun _ _ => rfl), cv_zero]
  | d + 1, hd => by
    have ih := SS_exU ha hb j (d := d) (by omega)
    unfold exU
    split
    · rename_i h0
      rw [ih]
      refine cv_congr (fun i _ => ?_) (fun _ _ => rfl)
      by_cases hi : a.length ≤ i + d ∧ i < a.length
      · rw [if_pos hi, if_pos (by omega)]
      · rw [if_neg hi]
        by_cases hi2 : i = a.length - 1 - d
        · subst hi2
          rw [if_pos (by omega), h0]
        · rw [if_neg (by omega)]
    · rename_i h0
      have h1 : cf a (a.length - 1 - d) = 1 := by have := ha.le (a.length - 1 - d); omega
      rw [SS_snoc, ih]
      have e : cv 3 (fun i => if a.length ≤ i + (d + 1) ∧ i < a.length then cf a i else 0) (cf b) j = cv 3 (fun i => (if a.length ≤ i + d ∧ i < a.length then cf a i else 0) ^^^ (if i = a.length - 1 - d then 1 else 0)) (cf b) j :=
        cv_congr (fun i _ => by
          by_cases hi2 : i = a.length - 1 - d
          · subst hi2
            rw [if_pos (by omega), if_neg (by omega), if_pos rfl, h1]
            rfl
          · rw [if_neg hi2, Nat.xor_zero]
            by_cases hi : a.length ≤ i + d ∧ i < a.length
            · rw [if_pos hi, if_pos (by omega)]
            · rw [if_neg hi, if_neg (by omega)]) (fun _ _ => rfl)
      rw [e, cv_add_left ok3 (fun i => by split; exact ha.tr.c i; decide) (fun i => by split <;> decide), cv_one]
      congr 1
      split
      · rw [gm_one_left ok3 (hb.tr.c _)]
      · rfl
theorem SS_exL {a b : List Nat} (ha : B1 a) (hb : B1 b) (j : Nat) : SS (exL a) b j = cf (mulP 3 a b) j := by
  unfold exL
  rw [SS_exU ha hb j (Nat.le_refl _), cf_mulP]
  refine cv_congr (fun i _ => ?_) (fun _ _ => rfl)
  by_cases hi : i < a.length
  · rw [if_pos (by omega)]
  · rw [if_neg (by omega), cf_out (by omega)]

theorem bexp_spec (A : Option Addr) (n c : Nat) (p : List Nat) (w : World) (ha : Has (sl 1 A n (nats .u8 p)) w) (hp : ∀ x ∈ p, x < 256) (hn : n ≤ 1073741824) (hcp : n ≤ c) : SpecL Tryd.prog 75 [.slice A n c] w (exL (bl p)) := by
  have hla := nats_len ha
  subst hla
  have hbl := bl_len p
  refine spec_of Tryd.func75 rfl Tryd.ntmps75 rfl ?_
  refine CW.seq ?_
  refine CW.reg [0] rfl ?_   -- 0, binpoly.go:75
  refine s_as 2 rfl rfl ?_
  refine SX.next ?_
  refine CW.seq ?_
  refine CW.reg [0] rfl ?_   -- 1, binpoly.go:76
  refine s_as 3 rfl rfl ?_
  refine SX.next ?_
  refine CW.seq ?_
  refine CW.seq ?_
  refine CW.reg [0, 1, 2] rfl ?_   -- 2, binpoly.go:77
  refine s_mv 5 rfl rfl ?_
  refine s_call1 6 rfl rfl rfl rfl (fun w hw => bdeg_spec A p.length c p w (hw.old ha) hp hn hcp) (fun _ _ => trivial) ?_
  refine s_as 4 rfl rfl ?_
  refine SX.next ?_
  refine CW.block ?_
  refine CW.loop (G := (Nat × Nat) × Option Addr × Nat) (fun q => [(0, .slice A p.length c), (3, .slice q.2.1 (exU (bl p) (bl p).length q.1.2).length q.2.2), (4, .int .i64 ((q.1.1 : Nat) - 1))]) (fun q => Sto w [own 3 1 q.2.1 (exU (bl p) (bl p).length q.1.2).length q.2.2 (nats .i64 (exU (bl p) (bl p).length q.1.2))]) (fun q => q.1.1 + q.1.2 = (bl p).length ∧ (exU (bl p) (bl p).length q.1.2).length ≤ q.2.2) (fun q => q.1.1) (((bl p).length, 0), none, 0) ⟨rfl, rfl, rfl, trivial⟩ (fun _ h => h.begin_ _ 1) ⟨Nat.add_zero _, Nat.le_refl _⟩ ?_
  rintro ⟨⟨k, d⟩, q⟩ hq
  have hq0 := hq.1
  simp only at hq0
  dsimp only
  have hel := exU_len (bl p) (bl p).length d
  refine CW.seq ?_
  refine CW.seq ?_
  refine CW.reg [0, 1] rfl ?_   -- 3, binpoly.go:77
  refine s_mv 7 rfl rfl ?_
  refine s_ge 8 rfl rfl rfl rfl ?_
  refine SX.next ?_
  refine CW.test rfl (fun hc => ?_) (fun hc => ?_)
  · skip
    have hkd : (bl p).length - 1 - d = k - 1 := by omega
    refine CW.skip ?_
    refine KN.code ?_
    refine CW.seq ?_
    refine CW.block ?_
    refine CW.seq ?_
    refine CW.reg [0, 1, 2, 3] rfl ?_   -- 5, binpoly.go:78
    refine s_mv 11 rfl rfl ?_
    refine s_mv 12 rfl rfl ?_
    refine s_call1 13 rfl rfl rfl rfl (v := .int .i64 (cf (bl p) (k - 1) : Nat)) (fun w hw => by have := bbit_spec A p.length c p (k - 1 : Nat) w (hw.old ha) hp hn hcp (by omega); rw [bitI_nat, ← cf_bl, show ((k - 1 : Nat) : Int) = (k : Nat) - 1 by omega] at this; exact this) (fun _ _ => trivial) ?_
    refine s_gt 14 rfl rfl rfl rfl ?_
    refine SX.next ?_
    refine CW.test rfl (fun hc2 => ?_) (fun hc2 => ?_)
    · skip
      have hnx : exU (bl p) (bl p).length (d + 1) = exU (bl p) (bl p).length d ++ [k - 1] := by rw [← hkd]; exact if_neg (by rw [hkd]; omega)
      refine CW.reg [0, 1, 2, 3, 4] rfl ?_   -- 6, binpoly.go:79
      refine s_mv 15 rfl rfl ?_
      refine s_mv 16 (v := .int .i64 (k - 1 : Nat)) rfl (by rw [show ((k - 1 : Nat) : Int) = (k : Nat) - 1 by omega]; rfl) ?_
      refine s_bsl 17 rfl rfl (cells := #[.int .i64 (k - 1 : Nat)]) (by kernel_rfl) rfl (fun _ _ => trivial) (fun gb => ?_)
      refine s_app 18 1 rfl rfl rfl rfl (ys := [.int .i64 (k - 1 : Nat)]) (fun w hw => Has.cong ((hw.has (i := 0) rfl).blk_sl (m := 1) rfl) rfl) rfl rfl (by omega) (by unfold maxLen; omega) (by omega) (fun _ _ _ _ => trivial) (fun A2 c2 hc2 => ?_)
      refine s_as 3 rfl rfl ?_
      refine SX.end_ ?_
      refine KN.blk ?_
      refine KN.code ?_
      refine CW.reg [0, 1, 2] rfl ?_   -- 4, binpoly.go:77
      refine s_mv 9 rfl rfl ?_
      refine s_sub 10 rfl rfl rfl (r := ((k - 1 : Nat) : Int) - 1) (by rw [show ((k : Nat) : Int) - 1 - 1 = ((k - 1 : Nat) : Int) - 1 by omega]; exact w64 (by omega)) ?_
      refine s_as 4 rfl rfl ?_
      refine SX.end_ ?_
      exact KN.back ((k - 1, d + 1), A2, c2) ⟨rfl, by simp only [hnx, List.length_append, List.length_singleton]; rfl, rfl, trivial⟩ (fun _ h => by simp only [hnx]; rw [← nats_snoc, List.length_append]; exact h.pick [1] rfl) ⟨by simp only; omega, by simp only [hnx, List.length_append, List.length_singleton]; exact hc2⟩ (by simp only; omega)
    · skip
      have hnx : exU (bl p) (bl p).length (d + 1) = exU (bl p) (bl p).length d := if_pos (by rw [hkd]; omega)
      refine CW.skip ?_
      refine KN.blk ?_
      refine KN.code ?_
      refine CW.reg [0, 1, 2] rfl ?_   -- 4, binpoly.go:77
      refine s_mv 9 rfl rfl ?_
      refine s_sub 10 rfl rfl rfl (r := ((k - 1 : Nat) : Int) - 1) (by rw [show ((k : Nat) : Int) - 1 - 1 = ((k - 1 : Nat) : Int) - 1 by omega]; exact w64 (by omega)) ?_
      refine s_as 4 rfl rfl ?_
      refine SX.end_ ?_
      exact KN.back ((k - 1, d + 1), q) ⟨rfl, by simp only [hnx]; rfl, rfl, trivial⟩ (fun _ h => by simp only [hnx]; exact h) ⟨by simp only; omega, by simp only [hnx]; exact hq.2⟩ (by simp only; omega)
  · skip
    have he : exU (bl p) (bl p).length d = exL (bl p) := by rw [show d = (bl p).length by omega]; rfl
    refine CW.exit rfl ?_
    refine KN.code ?_
    refine CW.seq ?_
    refine CW.reg [0, 1] rfl ?_   -- 7, binpoly.go:82
    refine s_mv 19 rfl rfl ?_
    refine s_as 2 rfl rfl ?_
    refine SX.next ?_
    refine CW.ret ?_
    exact KN.ret (rs := [.tmp 2]) Tryd.results75 rfl (fun w hw => ⟨q, by rw [← he]; rfl, by rw [← he]; exact hq.2, by rw [← he]; exact hw⟩)
end Go.Proofs.YtompcfingkoldaaDoor
end
section
/- The contracts of package binpoly: sums and products. Conditions: the lists are bytes, read where they lie. -/
namespace Go.Proofs.YtompcfingkoldaaDoor
open Go Go.Lib Go.Sx Go.Fm
set_option maxRecDepth 100000
theorem ints_tabN (k : IntKind) (n : Nat) (f : Nat → Nat) : ints k (tabN n f) = nats k ((List.range n).map f) := by simp [ints, tabN, tab, nats]
theorem shr_two (x s : Nat) : (x >>> s) % 2 = (x.testBit s).toNat := by
  rw [Nat.testBit_eq_decide_div_mod_eq, Nat.shiftRight_eq_div_pow]
  rcases Nat.mod_two_eq_zero_or_one (x / 2 ^ s) with h | h <;> rw [h] <;> simp
theorem shr_xor (x y s : Nat) : ((x ^^^ y) >>> s) % 2 = ((x >>> s) % 2) ^^^ ((y >>> s) % 2) := by
  rw [shr_two, shr_two, shr_two, Nat.testBit_xor]
  cases x.testBit s <;> cases y.testBit s <;> rfl
/-- The sum, byte by byte. -/
def baF (a b : List Nat) (i j : Nat) : Nat := if j < i then cf a j ^^^ cf b j else cf a j
theorem baF_next (a b : List Nat) (i : Nat) : (fun j => if j = i then cf a i ^^^ cf b i else baF a b i j) = baF a b (i + 1) := by
  funext j
  unfold baF
  by_cases h : j = i
  · subst h; simp
  · rw [if_neg h]
    by_cases h2 : j < i
    · rw [if_pos h2, if_pos (by omega)]
    · rw [if_neg h2, if_neg (by omega)]
theorem xor8 {a b : Nat} (ha : a < 256) (hb : b < 256) : a ^^^ b < 256 := Nat.xor_lt_two_pow (n := 8) ha hb
theorem baF_lt {a b : List Nat} (ha : ∀ x ∈ a, x < 256) (hb : ∀ x ∈ b, x < 256) (i : Nat) : ∀ x ∈ (List.range a.length).map (baF a b i), x < 256 := fun x hx => by
  obtain ⟨j, _, rfl⟩ := List.mem_map.1 hx
  unfold baF
  split
  · exact xor8 (cf_lt8 ha j) (cf_lt8 hb j)
  · exact cf_lt8 ha j
theorem badd_all {a b : List Nat} (ha : ∀ x ∈ a, x < 256) (hb : ∀ x ∈ b, x < 256) (hl : b.length ≤ a.length) : trim ((List.range a.length).map (baF a b b.length)) = bys (addP (bl a) (bl b)) :=
  bys_of (baF_lt ha hb _) (addP_b1 (bl_b1 a) (bl_b1 b)) (fun j => by
    rw [cf_addP, cf_bl, cf_bl]
    unfold bitN
    rw [cf_range]
    split
    · unfold baF
      split
      · exact shr_xor _ _ _
      · rw [cf_out (l := b) (by omega)]
        simp
    · rw [cf_out (l := a) (by omega), cf_out (l := b) (by omega)]
      simp)
/-- A list of bytes in memory. -/
structure BlG where
  A : Option Addr
  c : Nat
  l : List Nat
structure BaddG (w : World) (a b : List Nat) (q : BlG × BlG) : Prop where
  h1 : Has (sl 1 q.1.A q.1.l.length (nats .u8 q.1.l)) w
  h2 : Has (sl 1 q.2.A q.2.l.length (nats .u8 q.2.l)) w
  b1 : ∀ x ∈ q.1.l, x < 256
  b2 : ∀ x ∈ q.2.l, x < 256
  le : q.2.l.length ≤ q.1.l.length
  bd : q.1.l.length ≤ 1073741824
  eq : addP (bl q.1.l) (bl q.2.l) = addP (bl a) (bl b)

theorem badd_spec (A : Option Addr) (n c : Nat) (p : List Nat) (A2 : Option Addr) (n2 c2 : Nat) (p2 : List Nat) (w : World) (ha : Has (sl 1 A n (nats .u8 p)) w) (hp : ∀ x ∈ p, x < 256) (hn : n ≤ 1073741824) (hcp : n ≤ c) (ha2 : Has (sl 1 A2 n2 (nats .u8 p2)) w) (hp2 : ∀ x ∈ p2, x < 256) (hn2 : n2 ≤ 1073741824) (hcp2 : n2 ≤ c2) : SpecB Tryd.prog 61 [.slice A n c, .slice A2 n2 c2] w (bys (addP (bl p) (bl p2))) := by
  have hla := nats_len ha
  subst hla
  have hla2 := nats_len ha2
  subst hla2
  refine spec_of Tryd.func61 rfl Tryd.ntmps61 rfl ?_
  refine CW.seq ?_
  refine CW.reg [0] rfl ?_   -- 0, binpoly.go:86
  refine s_as 4 rfl rfl ?_
  refine SX.next ?_
  refine CW.cut (G := BlG × BlG) (fun q => [(0, .slice q.1.A q.1.l.length q.1.c), (1, .slice q.2.A q.2.l.length q.2.c)]) (fun _ => Sto w []) (BaddG w p p2) ?_ ?_
  · skip
    refine CW.seq ?_
    refine CW.reg [0, 1, 2, 3, 4] rfl ?_   -- 1, binpoly.go:87
    refine s_mv 8 rfl rfl ?_
    refine s_len 9 rfl rfl ?_
    refine s_mv 10 rfl rfl ?_
    refine s_len 11 rfl rfl ?_
    refine s_lt 12 rfl rfl rfl rfl ?_
    refine SX.next ?_
    refine CW.test rfl (fun hc => ?_) (fun hc => ?_)
    · skip
      refine CW.reg [0, 1, 2, 3] rfl ?_   -- 2, binpoly.go:88
      refine s_mv 13 rfl rfl ?_
      refine s_mv 14 rfl rfl ?_
      refine s_as 0 rfl rfl ?_
      refine s_as 1 rfl rfl ?_
      refine SX.end_ ?_
      exact KN.join (⟨A2, c2, p2⟩, ⟨A, c, p⟩) ⟨rfl, rfl, trivial⟩ (fun _ h => h) ⟨ha2, ha, hp2, hp, by simp only; omega, hn2, addP_comm _ _⟩
    · skip
      refine CW.skip ?_
      exact KN.join (⟨A, c, p⟩, ⟨A2, c2, p2⟩) ⟨rfl, rfl, trivial⟩ (fun _ h => h) ⟨ha, ha2, hp, hp2, by simp only; omega, hn, rfl⟩
  · skip
    rintro ⟨⟨A3, c3, l3⟩, ⟨A4, c4, l4⟩⟩ ⟨h3, h4, b3, b4, hle, hbd, heq⟩
    simp only at h3 h4 b3 b4 hle hbd heq
    refine CW.seq ?_
    refine CW.reg [0, 1, 2] rfl ?_   -- 3, binpoly.go:90
    refine s_mv 15 rfl rfl ?_
    refine s_app0 16 (m2 := l3.length) rfl rfl rfl (ys := nats .u8 l3) (fun w hw => hw.old h3) (nats_one _ _) rfl (by omega) (by unfold maxLen; omega) (by omega) (fun _ _ _ _ => trivial) (fun A5 c5 hc5 => ?_)
    refine s_as 5 rfl rfl ?_
    refine SX.next ?_
    refine CW.seq ?_
    refine CW.seq ?_
    refine CW.reg [0, 1, 2] rfl ?_   -- 4, binpoly.go:91
    refine s_mv 17 rfl rfl ?_
    refine s_len 18 rfl rfl ?_
    refine s_mv 19 rfl rfl ?_
    refine SX.next ?_
    refine CW.block ?_
    refine CW.loop (G := Nat) (fun i => [(5, .slice A5 l3.length c5), (17, .slice A4 l4.length c4), (18, .int .i64 (l4.length : Nat)), (19, .int .i64 (i : Nat))]) (fun i => Sto w [own 5 1 A5 l3.length c5 (ints .u8 (tabN l3.length (baF l3 l4 i)))]) (fun i => i ≤ l4.length) (fun i => l4.length - i) 0 ⟨rfl, rfl, rfl, rfl, trivial⟩ (fun _ h => by rw [show ints .u8 (tabN l3.length (baF l3 l4 0)) = nats .u8 l3 from (nats_tabN _ _).symm]; exact h) (Nat.zero_le _) ?_
    intro i hi
    refine CW.seq ?_
    refine CW.reg [0] rfl ?_   -- 5, binpoly.go:91
    refine s_lt 20 rfl rfl rfl rfl ?_
    refine SX.next ?_
    refine CW.seq ?_
    refine CW.test rfl (fun hc => ?_) (fun hc => ?_)
    · skip
      refine CW.skip ?_
      refine KN.code ?_
      refine CW.seq ?_
      refine CW.block ?_
      refine CW.seq ?_
      refine CW.reg [0, 1, 2, 3, 4] rfl ?_   -- 6, binpoly.go:91
      refine s_mv 21 rfl rfl ?_
      refine s_iaV 22 i (fun w hw => hw.old h4) rfl rfl rfl rfl (by omega) ?_
      refine s_ldV 23 (fun w hw => hw.old h4) rfl rfl (by rw [Nat.mul_one]; exact natsAt8 (by omega)) (by omega) ?_
      refine s_as 6 rfl rfl ?_
      refine s_as 7 rfl rfl ?_
      refine SX.next ?_
      refine CW.reg [0, 1, 2, 3, 4, 5, 6, 7] rfl ?_   -- 7, binpoly.go:92
      refine s_mv 24 rfl rfl ?_
      refine s_mv 25 rfl rfl ?_
      refine s_iaO 26 0 i rfl rfl rfl rfl rfl (by omega) ?_
      refine s_ldO 27 0 rfl rfl rfl (v := .int .u8 (cf l3 i : Nat)) (by rw [tabN_at (by omega), baF, if_neg (by omega)]) ?_
      refine s_mv 28 rfl rfl ?_
      refine s_bit 29 rfl rfl rfl rfl (ibit_xor_u8 (cf_lt8 b3 _) (cf_lt8 b4 _)) ?_
      refine s_iaO 30 0 i rfl rfl rfl rfl rfl (by omega) ?_
      refine s_stO 0 rfl rfl rfl rfl rfl (by omega) (fun _ _ => trivial) ?_
      refine SX.end_ ?_
      refine KN.blk ?_
      refine KN.code ?_
      refine CW.reg [0, 1] rfl ?_   -- 8, binpoly.go:91
      refine s_add 31 rfl rfl rfl (r := ((i + 1 : Nat) : Int)) (w64 (by omega)) ?_
      refine s_mv 19 rfl rfl ?_
      refine SX.end_ ?_
      exact KN.back (i + 1) ⟨rfl, rfl, rfl, rfl, trivial⟩ (fun _ h => by rw [← baF_next, ← tabN_setL]; exact h) (by omega) (by omega)
    · skip
      obtain rfl : i = l4.length := by omega
      refine CW.exit rfl ?_
      refine KN.code ?_
      refine CW.seq ?_
      refine CW.reg [0, 1, 2] rfl ?_   -- 9, binpoly.go:94
      refine s_mv 32 rfl rfl ?_
      refine s_call 33 rfl rfl rfl rfl (fun w hw => by have := trimmed_spec A5 l3.length c5 ((List.range l3.length).map (baF l3 l4 l4.length)) w (Has.cong ((hw.has (i := 0) rfl).of_own) (ints_tabN _ _ _)) (baF_lt b3 b4 _) (by omega) hc5; rw [badd_all b3 b4 hle, heq] at this; exact this) (fun _ _ => trivial) (fun q hq => ?_)
      refine s_as 4 rfl rfl ?_
      refine SX.next ?_
      refine CW.ret ?_
      exact KN.ret (rs := [.tmp 4]) Tryd.results61 rfl (fun w hw => ⟨q, rfl, hq, hw.pick [0] rfl⟩)

/-! ### Into the caller's bytes -/
theorem cf_set {l : List Nat} {i v : Nat} (hi : i < l.length) (j : Nat) : cf (l.set i v) j = if j = i then v else cf l j := by
  unfold cf
  simp only [List.getD_eq_getElem?_getD]
  rw [List.getElem?_set]
  by_cases h : i = j
  · subst h; rw [if_pos rfl, if_pos hi, if_pos rfl]; rfl
  · rw [if_neg h, if_neg (fun e => h e.symm)]
theorem set_lt {l : List Nat} {i v b : Nat} (hl : ∀ x ∈ l, x < b) (hv : v < b) : ∀ x ∈ l.set i v, x < b := fun x hx => by
  rcases List.mem_or_eq_of_mem_set hx with h | rfl
  · exact hl x h
  · exact hv
theorem nats_set (k : IntKind) (l : List Nat) (i v : Nat) : (nats k l).set i (.int k (v : Nat)) = nats k (l.set i v) := by simp [nats, List.map_set]
/-- What is laid into bytes, so far. -/
structure IntoG (o q : List Nat) (n : Nat) (z : Nat × List Nat) : Prop where
  le : z.1 ≤ q.length
  len : z.2.length = o.length
  lt : ∀ x ∈ z.2, x < 256
  bit : ∀ j, bitN z.2 j = bitN o j ^^^ (if n ≤ j ∧ j < n + 8 * z.1 then bitN q (j - n) else 0)
theorem IntoG.start {o : List Nat} (ho : ∀ x ∈ o, x < 256) (q : List Nat) (n : Nat) : IntoG o q n (0, o) := ⟨Nat.zero_le _, rfl, ho, fun j => by simp only; rw [if_neg (by omega), Nat.xor_zero]⟩
def lo8 (c n : Nat) : Nat := c * 2 ^ (n % 8) % 256
def hi8 (c n : Nat) : Nat := c >>> (8 - n % 8)
theorem lo8_test (c n s : Nat) (hs : s < 8) : ((lo8 c n) >>> s) % 2 = if n % 8 ≤ s then (c >>> (s - n % 8)) % 2 else 0 := by
  unfold lo8
  rw [shr_two, show (256 : Nat) = 2 ^ 8 from rfl, Nat.testBit_mod_two_pow, decide_eq_true hs, Bool.true_and, Nat.mul_comm, Nat.testBit_two_pow_mul]
  split
  · rename_i h
    rw [decide_eq_true h, Bool.true_and, shr_two]
  · rename_i h
    rw [decide_eq_false h]
    rfl
theorem hi8_test {c : Nat} (hc : c < 256) (n s : Nat) : ((hi8 c n) >>> s) % 2 = if s < n % 8 then (c >>> (s + 8 - n % 8)) % 2 else 0 := by
  unfold hi8
  rw [← Nat.shiftRight_add]
  split
  · rw [show 8 - n % 8 + s = s + 8 - n % 8 by omega]
  · have : c < 2 ^ (8 - n % 8 + s) := Nat.lt_of_lt_of_le hc (Nat.pow_le_pow_right (n := 2) (by omega) (show 8 ≤ _ by omega))
    rw [Nat.shiftRight_eq_div_pow, Nat.div_eq_of_lt this]
theorem IntoG.next {o q L L2 : List Nat} {n i : Nat} (h : IntoG o q n (i, L)) (hq : ∀ x ∈ q, x < 256) (hi : i < q.length) (hlen : L2.length = L.length) (hlt : ∀ x ∈ L2, x < 256)
    (h2 : ∀ k, cf L2 k = (if k = i + n / 8 then cf L k ^^^ lo8 (cf q i) n else if k = i + n / 8 + 1 then cf L k ^^^ hi8 (cf q i) n else cf L k)) : IntoG o q n (i + 1, L2) := by
  obtain ⟨h3, h4, h5, h6⟩ := h
  simp only at h3 h4 h5 h6
  refine ⟨hi, by simp only; omega, hlt, fun j => ?_⟩
  simp only
  have hc := cf_lt8 hq i
  have key : bitN L2 j = bitN L j ^^^ (if n + 8 * i ≤ j ∧ j < n + 8 * (i + 1) then bitN q (j - n) else 0) := by
    unfold bitN
    rw [h2]
    by_cases k1 : j / 8 = i + n / 8
    · rw [if_pos k1, shr_xor, lo8_test _ _ _ (Nat.mod_lt _ (by omega))]
      congr 1
      by_cases k2 : n % 8 ≤ j % 8
      · rw [if_pos k2, if_pos (by omega), show (j - n) / 8 = i by omega, show (j - n) % 8 = j % 8 - n % 8 by omega]
      · rw [if_neg k2, if_neg (by omega)]
    · rw [if_neg k1]
      by_cases k2 : j / 8 = i + n / 8 + 1
      · rw [if_pos k2, shr_xor, hi8_test hc]
        congr 1
        by_cases k3 : j % 8 < n % 8
        · rw [if_pos k3, if_pos (by omega), show (j - n) / 8 = i by omega, show (j - n) % 8 = j % 8 + 8 - n % 8 by omega]
        · rw [if_neg k3, if_neg (by omega)]
      · rw [if_neg k2, if_neg (by omega), Nat.xor_zero]
  rw [key, h6, Nat.xor_assoc]
  congr 1
  by_cases k1 : n ≤ j ∧ j < n + 8 * i
  · rw [if_pos k1, if_neg (by omega), if_pos (by omega), Nat.xor_zero]
  · rw [if_neg k1, Nat.zero_xor]
    by_cases k2 : n + 8 * i ≤ j ∧ j < n + 8 * (i + 1)
    · rw [if_pos k2, if_pos (by omega)]
    · rw [if_neg k2, if_neg (by omega)]
theorem lo8_lt (c n : Nat) : lo8 c n < 256 := Nat.mod_lt _ (by omega)
theorem hi8_lt {c : Nat} (hc : c < 256) (n : Nat) : hi8 c n < 256 := Nat.lt_of_le_of_lt (Nat.shiftRight_le _ _) hc

theorem _root_.Go.Sx.St.dropR {F : Nat → Prop} {w₀ w : World} {L : List Atom} (h : St F w₀ L w) : St F w₀ [] w := St.dropL L (by rw [List.append_nil]; exact h)
theorem hi8_zero {c n : Nat} (hc : c < 256) (h : n % 8 = 0) : hi8 c n = 0 := by
  unfold hi8
  rw [h, Nat.shiftRight_eq_div_pow]
  exact Nat.div_eq_of_lt hc
theorem IntoG.next1 {o q L : List Nat} {n i : Nat} (h : IntoG o q n (i, L)) (hq : ∀ x ∈ q, x < 256) (hi : i < q.length) (hr : i + n / 8 < o.length) (h0 : hi8 (cf q i) n = 0) : IntoG o q n (i + 1, L.set (i + n / 8) (cf L (i + n / 8) ^^^ lo8 (cf q i) n)) := by
  have hl := h.len
  have hlt := h.lt
  simp only at hl hlt
  refine h.next hq hi (by simp) (set_lt hlt (xor8 (cf_lt8 hlt _) (lo8_lt _ _))) (fun k => ?_)
  rw [cf_set (by omega)]
  by_cases k1 : k = i + n / 8
  · rw [if_pos k1, if_pos k1, k1]
  · rw [if_neg k1, if_neg k1]
    split
    · rw [h0, Nat.xor_zero]
    · rfl
theorem IntoG.next2 {o q L : List Nat} {n i : Nat} (h : IntoG o q n (i, L)) (hq : ∀ x ∈ q, x < 256) (hi : i < q.length) (hr : i + n / 8 + 1 < o.length) : IntoG o q n (i + 1, (L.set (i + n / 8) (cf L (i + n / 8) ^^^ lo8 (cf q i) n)).set (i + n / 8 + 1) (cf L (i + n / 8 + 1) ^^^ hi8 (cf q i) n)) := by
  have hl := h.len
  have hlt := h.lt
  simp only at hl hlt
  refine h.next hq hi (by simp) (set_lt (set_lt hlt (xor8 (cf_lt8 hlt _) (lo8_lt _ _))) (xor8 (cf_lt8 hlt _) (hi8_lt (cf_lt8 hq i) n))) (fun k => ?_)
  rw [cf_set (by rw [List.length_set]; omega), cf_set (by omega)]
  by_cases k1 : k = i + n / 8
  · rw [if_neg (by omega), if_pos k1, if_pos k1, k1]
  · rw [if_neg k1, if_neg k1]
    by_cases k2 : k = i + n / 8 + 1
    · rw [if_pos k2, if_pos k2, k2]
    · rw [if_neg k2, if_neg k2]
theorem IntoG.done {o q L : List Nat} {n : Nat} (h : IntoG o q n (q.length, L)) (j : Nat) : bitN L j = bitN o j ^^^ (if n ≤ j then bitN q (j - n) else 0) := by
  rw [h.bit]
  simp only
  congr 1
  by_cases h1 : n ≤ j
  · rw [if_pos h1]
    split
    · rfl
    · rw [bitN_out (by omega)]
  · rw [if_neg h1, if_neg (by omega)]

theorem into_spec (F : Nat → Prop) (w₀ w : World) (R : List Atom) (A : Option Addr) (c : Nat) (o : List Nat) (B : Option Addr) (d : Nat) (q : List Nat) (n : Nat) (ho : ∀ x ∈ o, x < 256) (hq : ∀ x ∈ q, x < 256) (hol : o.length ≤ 1073741824) (hr : q.length + n / 8 < o.length) (hw : St F w₀ (own 5 1 A o.length c (nats .u8 o) :: own 5 1 B q.length d (nats .u8 q) :: R) w) : Calls Tryd.prog 134 ([.slice B q.length d, .slice A o.length c, .int .i64 (n : Nat)] : List Value).toArray w (fun e w' => ∃ o' : List Nat, e = .returned (oneOf []) ∧ (o'.length = o.length ∧ (∀ x ∈ o', x < 256) ∧ ∀ j, bitN o' j = bitN o j ^^^ (if n ≤ j then bitN q (j - n) else 0)) ∧ St F w₀ (own 5 1 A o.length c (nats .u8 o') :: own 5 1 B q.length d (nats .u8 q) :: R) w') := by
  refine spec_ofC Tryd.func134 rfl Tryd.ntmps134 rfl hw ?_
  refine CW.seq ?_
  refine CW.reg [0, 1, 2] rfl ?_   -- 0, binpoly.go:99
  refine s_mv 9 rfl rfl ?_
  refine s_len 10 rfl rfl ?_
  refine s_mv 11 rfl rfl ?_
  refine SX.next ?_
  refine CW.block ?_
  refine CW.loop (G := Nat × List Nat) (fun z => [(1, .slice A o.length c), (2, .int .i64 (n : Nat)), (9, .slice B q.length d), (10, .int .i64 (q.length : Nat)), (11, .int .i64 (z.1 : Nat))]) (fun z => St F w₀ (own 5 1 A o.length c (nats .u8 z.2) :: own 5 1 B q.length d (nats .u8 q) :: R)) (IntoG o q n) (fun z => q.length - z.1) (0, o) ⟨rfl, rfl, rfl, rfl, rfl, trivial⟩ (fun _ h => h) (IntoG.start ho q n) ?_
  rintro ⟨i, L⟩ hz
  have hle := hz.le
  have hlen := hz.len
  have hlt := hz.lt
  simp only at hle hlen hlt
  dsimp only
  refine CW.seq ?_
  refine CW.reg [0] rfl ?_   -- 1, binpoly.go:99
  refine s_lt 12 rfl rfl rfl rfl ?_
  refine SX.next ?_
  refine CW.seq ?_
  refine CW.test rfl (fun hc => ?_) (fun hc => ?_)
  · skip
    have hcq := cf_lt8 hq i
    have hiq : i < q.length := by omega
    refine CW.skip ?_
    refine KN.code ?_
    refine CW.seq ?_
    refine CW.block ?_
    refine CW.seq ?_
    refine CW.reg [0, 1, 2, 3, 4] rfl ?_   -- 2, binpoly.go:99
    refine s_mv 13 rfl rfl ?_
    refine s_iaO 14 1 i rfl rfl rfl rfl rfl (by omega) ?_
    refine s_ldO 15 1 rfl rfl rfl (natsAt8 (by omega)) ?_
    refine s_as 6 rfl rfl ?_
    refine s_as 7 rfl rfl ?_
    refine SX.next ?_
    refine CW.seq ?_
    refine CW.regD (.st true 0 (.st true 1 (.st true 2 (.st true 3 (.st true 4 (.st true 5 (.st true 7 (.st true 8 (.st true 9 (.st true 10 (.st false 6 (.st true 11 (.st true 12 (.st false 13 .done)))))))))))))) (St F w₀ []) mixed (by kernel_rfl) (fun _ h => h.drew) (fun _ h => h.dropR) ?_
    refine s_mv 16 rfl rfl ?_
    refine s_mv 17 rfl rfl ?_
    refine s_mv 18 rfl rfl ?_
    refine s_quo 19 rfl rfl rfl (by omega) (quo8 n (by omega)) ?_
    refine s_add 20 rfl rfl rfl (r := ((i + n / 8 : Nat) : Int)) (w64 (by omega)) ?_
    refine s_iaO 21 0 (i + n / 8) rfl rfl rfl rfl rfl (by omega) ?_
    refine s_mv 23 rfl rfl ?_
    refine s_mv 24 rfl rfl ?_
    refine s_rem 25 rfl rfl rfl (by omega) (tmod8 n) ?_
    refine s_shl 26 rfl rfl rfl (by omega) (r := ((lo8 (cf q i) n : Nat) : Int)) (shl_u8 (by omega)) ?_
    refine s_ldO 22 0 rfl rfl rfl (natsAt8 (by omega)) ?_
    refine s_bit 27 rfl rfl rfl rfl (ibit_xor_u8 (cf_lt8 hlt _) (lo8_lt _ _)) ?_
    refine s_iaO 28 0 (i + n / 8) rfl rfl rfl rfl rfl (by omega) ?_
    refine s_stO 0 rfl rfl rfl rfl rfl (by omega) (fun _ h => h.dropR) ?_
    refine SX.next ?_
    refine CW.seq ?_
    refine CW.pre (C' := St F w₀ (own 5 1 A o.length c (nats .u8 (L.set (i + n / 8) (cf L (i + n / 8) ^^^ lo8 (cf q i) n))) :: own 5 1 B q.length d (nats .u8 q) :: R)) (fun _ h => by rw [← nats_set]; exact h) ?_
    refine CW.reg [0, 1, 2, 3, 4, 5] rfl ?_   -- 4, binpoly.go:101
    refine s_mv 29 rfl rfl ?_
    refine s_mv 30 rfl rfl ?_
    refine s_rem 31 rfl rfl rfl (by omega) (tmod8 n) ?_
    refine s_sub 32 rfl rfl rfl (r := ((8 - n % 8 : Nat) : Int)) (by rw [show (8 : Int) - ((n % 8 : Nat) : Int) = ((8 - n % 8 : Nat) : Int) by omega]; exact w64 (by omega)) ?_
    refine s_shr 33 rfl rfl rfl (by omega) (r := ((hi8 (cf q i) n : Nat) : Int)) (shr_u8 (by omega)) ?_
    refine s_as 8 rfl rfl ?_
    refine SX.next ?_
    refine CW.seq ?_
    refine CW.reg [0, 1, 2, 3, 4, 5, 6] rfl ?_   -- 5, binpoly.go:101
    refine s_mv 34 rfl rfl ?_
    refine s_rem 35 rfl rfl rfl (by omega) (tmod8 n) ?_
    refine s_gt 36 rfl rfl rfl rfl ?_
    refine s_mv 37 rfl rfl ?_
    refine SX.bool 37 rfl (fun hb => ?_) (fun hb => ?_)
    · skip
      replace hb := of_decide_eq_true hb
      refine s_mv 38 rfl rfl ?_
      refine s_gt 39 rfl rfl rfl rfl ?_
      refine s_pickT 40 rfl rfl rfl ?_
      refine SX.next ?_
      refine CW.test rfl (fun hc2 => ?_) (fun hc2 => ?_)
      · skip
        refine CW.reg [0, 1, 2, 3, 4, 5, 6, 7, 8, 9, 10, 11] rfl ?_   -- 6, binpoly.go:102
        refine s_mv 41 rfl rfl ?_
        refine s_mv 42 rfl rfl ?_
        refine s_mv 43 rfl rfl ?_
        refine s_quo 44 rfl rfl rfl (by omega) (quo8 n (by omega)) ?_
        refine s_add 45 rfl rfl rfl (r := ((i + n / 8 : Nat) : Int)) (w64 (by omega)) ?_
        refine s_add 46 rfl rfl rfl (r := ((i + n / 8 + 1 : Nat) : Int)) (w64 (by omega)) ?_
        refine s_iaO 47 0 (i + n / 8 + 1) rfl rfl rfl rfl rfl (by omega) ?_
        refine s_ldO 48 0 rfl rfl rfl (v := .int .u8 (cf L (i + n / 8 + 1) : Nat)) (by rw [natsAt8 (by rw [List.length_set]; omega), cf_set (by omega), if_neg (by omega)]) ?_
        refine s_mv 49 rfl rfl ?_
        refine s_bit 50 rfl rfl rfl rfl (ibit_xor_u8 (cf_lt8 hlt _) (hi8_lt hcq n)) ?_
        refine s_iaO 51 0 (i + n / 8 + 1) rfl rfl rfl rfl rfl (by omega) ?_
        refine s_stO 0 rfl rfl rfl rfl rfl (by omega) (fun _ _ => trivial) ?_
        refine SX.end_ ?_
        refine KN.blk ?_
        refine KN.code ?_
        refine CW.reg [0, 1] rfl ?_   -- 7, binpoly.go:99
        refine s_add 52 rfl rfl rfl (r := ((i + 1 : Nat) : Int)) (w64 (by omega)) ?_
        refine s_mv 11 rfl rfl ?_
        refine SX.end_ ?_
        exact KN.back (i + 1, (L.set (i + n / 8) (cf L (i + n / 8) ^^^ lo8 (cf q i) n)).set (i + n / 8 + 1) (cf L (i + n / 8 + 1) ^^^ hi8 (cf q i) n)) ⟨rfl, rfl, rfl, rfl, rfl, trivial⟩ (fun _ h => by simp only; rw [← nats_set]; exact h) (hz.next2 hq hiq (by omega)) (by simp only; omega)
      · skip
        have hz0 : hi8 (cf q i) n = 0 := by omega
        refine CW.skip ?_
        refine KN.blk ?_
        refine KN.code ?_
        refine CW.reg [0, 1] rfl ?_   -- 7, binpoly.go:99
        refine s_add 52 rfl rfl rfl (r := ((i + 1 : Nat) : Int)) (w64 (by omega)) ?_
        refine s_mv 11 rfl rfl ?_
        refine SX.end_ ?_
        exact KN.back (i + 1, (L.set (i + n / 8) (cf L (i + n / 8) ^^^ lo8 (cf q i) n))) ⟨rfl, rfl, rfl, rfl, rfl, trivial⟩ (fun _ h => h) (hz.next1 hq hiq (by omega) hz0) (by simp only; omega)
    · skip
      replace hb := of_decide_eq_false hb
      have hz0 : hi8 (cf q i) n = 0 := hi8_zero hcq (by omega)
      refine SX.skip rfl ?_
      refine SX.skip rfl ?_
      refine s_pickF 40 rfl rfl rfl ?_
      refine SX.next ?_
      refine CW.condF rfl ?_
      refine CW.skip ?_
      refine KN.blk ?_
      refine KN.code ?_
      refine CW.reg [0, 1] rfl ?_   -- 7, binpoly.go:99
      refine s_add 52 rfl rfl rfl (r := ((i + 1 : Nat) : Int)) (w64 (by omega)) ?_
      refine s_mv 11 rfl rfl ?_
      refine SX.end_ ?_
      exact KN.back (i + 1, (L.set (i + n / 8) (cf L (i + n / 8) ^^^ lo8 (cf q i) n))) ⟨rfl, rfl, rfl, rfl, rfl, trivial⟩ (fun _ h => h) (hz.next1 hq hiq (by omega) hz0) (by simp only; omega)
  · skip
    obtain rfl : i = q.length := by omega
    refine CW.exit rfl ?_
    exact KN.ret (rs := []) Tryd.results134 rfl (fun w hw => ⟨L, rfl, ⟨hlen, hlt, hz.done⟩, hw⟩)
end Go.Proofs.YtompcfingkoldaaDoor
end
section
/- The contracts of package binpoly: products, quotients, divisors. Conditions: the lists are bytes, read where they lie. -/
namespace Go.Proofs.YtompcfingkoldaaDoor
open Go Go.Lib Go.Sx Go.Fm
set_option maxRecDepth 100000
abbrev SpecBE (P : Program) (f : FuncId) (args : List Value) (w : World) (E : List Nat) : Prop :=
  SpecX P f args w (X := Option Addr × Nat) (fun q => two (.slice q.1 E.length q.2) .nilIface) (fun q => E.length ≤ q.2) (fun q => [own 5 1 q.1 E.length q.2 (nats .u8 E)])
theorem bys_nil : bys [] = [] := rfl
theorem bl_nil : bl [] = [] := rfl
theorem trim_lt8 {p : List Nat} (h : ∀ x ∈ p, x < 256) : ∀ x ∈ trim p, x < 256 := fun x hx => trim_lt h x hx
/-- Of bytes without noughts at the end the last holds the highest bit. -/
theorem bl_len_ge {p : List Nat} (h : ∀ x ∈ p, x < 256) (h0 : (trim p).length ≠ 0) : 8 * ((trim p).length - 1) < (bl p).length := by
  have ht : Tr 8 (trim p) := ⟨trim_lt8 h, trim_trim p⟩
  have h1 := deg_at (p := trim p) (i := (trim p).length - 1) (fun j hj => cf_out (by omega)) (ht.c _) (ht.top h0)
  rw [bl_trim] at h1
  have h2 := (bln_all _ (ht.c ((trim p).length - 1))).2.2.2 (ht.top h0)
  omega
theorem bl_zero {p : List Nat} (_h : ∀ x ∈ p, x < 256) (h0 : (trim p).length = 0) : bl p = [] := by
  rw [← bl_trim, List.eq_nil_of_length_eq_zero h0]
  rfl
/-- What the product's loop keeps. -/
structure BmG (p q : List Nat) (N : Nat) (z : Nat × List Nat) : Prop where
  le : z.1 ≤ (exL (bl p)).length
  len : z.2.length = N
  lt : ∀ x ∈ z.2, x < 256
  bit : ∀ j, bitN z.2 j = SS ((exL (bl p)).take z.1) (bl q) j
theorem zeros8 (N : Nat) : ((List.replicate N (Value.int .u8 0)).toArray.toList.take (N * 1)) = nats .u8 (List.replicate N 0) := by simp [nats]
theorem zeros_lt (N : Nat) : ∀ x ∈ List.replicate N 0, x < 256 := fun x hx => by rw [(List.mem_replicate.1 hx).2]; omega
theorem zeros_bit (N j : Nat) : bitN (List.replicate N 0) j = 0 := bitN_zero (by unfold cf; simp only [List.getD_eq_getElem?_getD]; rw [List.getElem?_replicate]; split <;> rfl)
theorem BmG.start (p q : List Nat) (N : Nat) : BmG p q N (0, List.replicate N 0) := ⟨Nat.zero_le _, by simp, zeros_lt N, fun j => zeros_bit N j⟩
theorem cf_mem {l : List Nat} {i : Nat} (h : i < l.length) : cf l i ∈ l := List.mem_of_getElem? (cf_in h)
theorem take_cf {l : List Nat} {i : Nat} (h : i < l.length) : l.take (i + 1) = l.take i ++ [cf l i] := by
  rw [List.take_add_one, cf_in h]
  rfl
theorem BmG.next {p q L L2 : List Nat} {N i : Nat} (h : BmG p q N (i, L)) (hi : i < (exL (bl p)).length) (h2 : L2.length = L.length ∧ (∀ x ∈ L2, x < 256) ∧ ∀ j, bitN L2 j = bitN L j ^^^ (if cf (exL (bl p)) i ≤ j then bitN (trim q) (j - cf (exL (bl p)) i) else 0)) : BmG p q N (i + 1, L2) := by
  refine ⟨hi, h2.1.trans h.len, h2.2.1, fun j => ?_⟩
  simp only
  rw [h2.2.2, h.bit, take_cf hi, SS_snoc]
  congr 1
  split
  · rw [← cf_bl, bl_trim]
  · rfl
theorem BmG.done {p q L : List Nat} {N : Nat} (h : BmG p q N ((exL (bl p)).length, L)) : trim L = bys (mulP 3 (bl p) (bl q)) :=
  bys_of h.lt (mulP_b1 (bl_b1 p) (bl_b1 q)) (fun j => by
    rw [h.bit]
    simp only
    rw [List.take_length, SS_exL (bl_b1 p) (bl_b1 q)])

theorem bmul_spec (A : Option Addr) (n c : Nat) (p : List Nat) (A2 : Option Addr) (n2 c2 : Nat) (p2 : List Nat) (w : World) (ha : Has (sl 1 A n (nats .u8 p)) w) (hp : ∀ x ∈ p, x < 256) (hn : n ≤ 1073741824) (hcp : n ≤ c) (ha2 : Has (sl 1 A2 n2 (nats .u8 p2)) w) (hp2 : ∀ x ∈ p2, x < 256) (hn2 : n2 ≤ 1073741824) (hcp2 : n2 ≤ c2) (hsm : (bl p).length + (bl p2).length ≤ 4098) : SpecBE Tryd.prog 68 [.slice A n c, .slice A2 n2 c2] w (bys (mulP 3 (bl p) (bl p2))) := by
  have hla := nats_len ha
  subst hla
  have hla2 := nats_len ha2
  subst hla2
  have ht1 := tl_le p
  have ht2 := tl_le p2
  have hl1 := trim_length p
  have hl2 := trim_length p2
  have h81 := trim_lt8 hp
  have h82 := trim_lt8 hp2
  have hbl1 := bl_len p
  have hbl2 := bl_len p2
  have hbt1 := bl_len (trim p)
  rw [bl_trim] at hbt1
  have hbt2 := bl_len (trim p2)
  rw [bl_trim] at hbt2
  refine spec_of Tryd.func68 rfl Tryd.ntmps68 rfl ?_
  refine CW.seq ?_
  refine CW.reg [0, 1] rfl ?_   -- 0, binpoly.go:108
  refine s_as 4 rfl rfl ?_
  refine s_as 5 rfl rfl ?_
  refine SX.next ?_
  refine CW.seq ?_
  refine CW.reg [0, 1, 2, 3, 4, 5] rfl ?_   -- 1, binpoly.go:109
  refine s_mv 9 rfl rfl ?_
  refine s_call 10 rfl rfl rfl rfl (fun w hw => trimmed_spec A p.length c p w (hw.old ha) hp hn hcp) (fun _ _ => trivial) (fun q1 hq1 => ?_)
  refine s_mv 11 rfl rfl ?_
  refine s_call 12 rfl rfl rfl rfl (fun w hw => trimmed_spec A2 p2.length c2 p2 w (hw.old ha2) hp2 hn2 hcp2) (fun _ _ => trivial) (fun q2 hq2 => ?_)
  refine s_as 0 rfl rfl ?_
  refine s_as 1 rfl rfl ?_
  refine SX.next ?_
  refine CW.seq ?_
  refine CW.seq ?_
  refine CW.reg [0, 1, 2, 3, 4, 5, 6, 7] rfl ?_   -- 2, binpoly.go:110
  refine s_mv 13 rfl rfl ?_
  refine s_len 14 rfl rfl ?_
  refine s_eq 15 rfl rfl rfl rfl ?_
  refine s_mv 16 rfl rfl ?_
  refine SX.bool 16 rfl (fun hb => ?_) (fun hb => ?_)
  · skip
    replace hb := of_decide_eq_true hb
    have hz : bys (mulP 3 (bl p) (bl p2)) = [] := by rw [bl_zero hp (by omega), mulP_nil_l]; rfl
    refine SX.skip rfl ?_
    refine SX.skip rfl ?_
    refine SX.skip rfl ?_
    refine s_pickT 20 rfl rfl rfl ?_
    refine SX.next ?_
    refine CW.condT rfl ?_
    refine CW.seq ?_
    refine CW.reg [0, 1] rfl ?_   -- 3, binpoly.go:111
    refine s_as 4 rfl rfl ?_
    refine s_as 5 rfl rfl ?_
    refine SX.next ?_
    refine CW.ret ?_
    exact KN.ret (rs := [.tmp 4, .tmp 5]) Tryd.results68 rfl (fun w hw => ⟨(none, 0), by rw [hz]; rfl, by rw [hz]; exact Nat.le_refl _, by rw [hz]; exact (hw.pick [] rfl).begin_ _ 1⟩)
  · skip
    replace hb := of_decide_eq_false hb
    refine s_mv 17 rfl rfl ?_
    refine s_len 18 rfl rfl ?_
    refine s_eq 19 rfl rfl rfl rfl ?_
    refine s_pickF 20 rfl rfl rfl ?_
    refine SX.next ?_
    refine CW.test rfl (fun hc2 => ?_) (fun hc2 => ?_)
    · skip
      have hz : bys (mulP 3 (bl p) (bl p2)) = [] := by rw [bl_zero hp2 (by omega), mulP_nil_r]; rfl
      refine CW.seq ?_
      refine CW.reg [0, 1] rfl ?_   -- 3, binpoly.go:111
      refine s_as 4 rfl rfl ?_
      refine s_as 5 rfl rfl ?_
      refine SX.next ?_
      refine CW.ret ?_
      exact KN.ret (rs := [.tmp 4, .tmp 5]) Tryd.results68 rfl (fun w hw => ⟨(none, 0), by rw [hz]; rfl, by rw [hz]; exact Nat.le_refl _, by rw [hz]; exact (hw.pick [] rfl).begin_ _ 1⟩)
    · skip
      have hge1 := bl_len_ge hp (by omega)
      have hge2 := bl_len_ge hp2 (by omega)
      refine CW.skip ?_
      refine KN.code ?_
      refine CW.seq ?_
      refine CW.seq ?_
      refine CW.reg [0, 1, 2, 3, 4, 5] rfl ?_   -- 4, binpoly.go:113
      refine s_mv 21 rfl rfl ?_
      refine s_call1 22 rfl rfl rfl rfl (v := .int .i64 ((bl p).length - 1 : Int)) (fun w hw => by have := bdeg_spec q1.1 (trim p).length q1.2 (trim p) w ((hw.has (i := 1) rfl).of_own) h81 (by omega) hq1; rw [bl_trim] at this; exact this) (fun _ _ => trivial) ?_
      refine s_mv 23 rfl rfl ?_
      refine s_call1 24 rfl rfl rfl rfl (v := .int .i64 ((bl p2).length - 1 : Int)) (fun w hw => by have := bdeg_spec q2.1 (trim p2).length q2.2 (trim p2) w ((hw.has (i := 0) rfl).of_own) h82 (by omega) hq2; rw [bl_trim] at this; exact this) (fun _ _ => trivial) ?_
      refine s_add 25 rfl rfl rfl (w64 (by omega)) ?_
      refine s_gt 26 rfl rfl rfl (decide_eq_false (by omega)) ?_
      refine SX.next ?_
      refine CW.condF rfl ?_
      refine CW.skip ?_
      refine KN.code ?_
      refine CW.seq ?_
      refine CW.reg [0, 1, 2, 3, 4, 5, 6, 7] rfl ?_   -- 6, binpoly.go:116
      refine s_mv 28 rfl rfl ?_
      refine s_len 29 rfl rfl ?_
      refine s_mv 30 rfl rfl ?_
      refine s_len 31 rfl rfl ?_
      refine s_add 32 rfl rfl rfl (w64 (by omega)) ?_
      refine s_add 33 rfl rfl rfl (r := ((((trim p).length + (trim p2).length + 1) : Nat) : Int)) (by rw [show ((trim p).length : Int) + (trim p2).length + 1 = ((((trim p).length + (trim p2).length + 1) : Nat) : Int) by omega]; exact w64 (by omega)) ?_
      refine s_make 34 ((trim p).length + (trim p2).length + 1) rfl rfl rfl rfl rfl (by omega) (fun _ _ => trivial) (fun go => ?_)
      refine s_as 6 rfl rfl ?_
      refine SX.next ?_
      refine CW.seq ?_
      refine CW.seq ?_
      refine CW.reg [0, 1, 2, 3] rfl ?_   -- 7, binpoly.go:117
      refine s_mv 35 rfl rfl ?_
      refine s_call 36 rfl rfl rfl rfl (fun w hw => by have := bexp_spec q1.1 (trim p).length q1.2 (trim p) w ((hw.has (i := 2) rfl).of_own) h81 (by omega) hq1; rw [bl_trim] at this; exact this) (fun _ _ => trivial) (fun q3 hq3 => ?_)
      refine SX.pre (fun _ h => h.blkOwnM (q := 1) (m := ((trim p).length + (trim p2).length + 1)) (c := ((trim p).length + (trim p2).length + 1)) (sz := 1) rfl (by simp) (Nat.le_refl _) (by unfold maxLen; omega)) ?_
      refine s_len 37 rfl rfl ?_
      refine s_mv 38 rfl rfl ?_
      refine SX.next ?_
      refine CW.block ?_
      refine CW.loop (G := Nat × List Nat) (fun z => [(1, .slice q2.1 (trim p2).length q2.2), (6, .slice (some ⟨go, 0, none⟩) ((trim p).length + (trim p2).length + 1) ((trim p).length + (trim p2).length + 1)), (36, .slice q3.1 (exL (bl p)).length q3.2), (37, .int .i64 ((exL (bl p)).length : Nat)), (38, .int .i64 (z.1 : Nat))]) (fun z => Sto w [own 5 1 (some ⟨go, 0, none⟩) ((trim p).length + (trim p2).length + 1) ((trim p).length + (trim p2).length + 1) (nats .u8 z.2), own 5 1 q2.1 (trim p2).length q2.2 (nats .u8 (trim p2)), own 3 1 q3.1 (exL (bl p)).length q3.2 (nats .i64 (exL (bl p)))]) (BmG p p2 ((trim p).length + (trim p2).length + 1)) (fun z => (exL (bl p)).length - z.1) (0, List.replicate ((trim p).length + (trim p2).length + 1) 0) ⟨rfl, rfl, rfl, rfl, rfl, trivial⟩ (fun _ h => by rw [zeros8] at h; exact h.pick [1, 1, 0] rfl) (BmG.start p p2 _) ?_
      rintro ⟨i, L⟩ hz
      have hle := hz.le
      have hlen := hz.len
      have hlt := hz.lt
      simp only at hle hlen hlt
      dsimp only
      have hexl : (exL (bl p)).length ≤ (bl p).length := exU_len (bl p) (bl p).length (bl p).length
      refine CW.seq ?_
      refine CW.reg [0] rfl ?_   -- 8, binpoly.go:117
      refine s_lt 39 rfl rfl rfl rfl ?_
      refine SX.next ?_
      refine CW.seq ?_
      refine CW.test rfl (fun hc => ?_) (fun hc => ?_)
      · skip
        have hi : i < (exL (bl p)).length := by omega
        have hcl : cf (exL (bl p)) i < (bl p).length := exU_lt (by omega) (cf_mem hi)
        refine CW.skip ?_
        refine KN.code ?_
        refine CW.seq ?_
        refine CW.block ?_
        refine CW.seq ?_
        refine CW.reg [0, 1, 2] rfl ?_   -- 9, binpoly.go:117
        refine s_iaO 40 2 i rfl rfl rfl rfl rfl (by omega) ?_
        refine s_ldO 41 2 rfl rfl rfl (natsAtC hi) ?_
        refine s_as 8 rfl rfl ?_
        refine SX.next ?_
        refine CW.reg [0, 1, 2, 3] rfl ?_   -- 10, binpoly.go:118
        refine s_mv 42 rfl rfl ?_
        refine s_mv 43 rfl rfl ?_
        refine s_mv 44 rfl rfl ?_
        refine s_callM 45 (v := fun _ => oneOf []) (L' := fun o' => [own 5 1 (some ⟨go, 0, none⟩) ((trim p).length + (trim p2).length + 1) ((trim p).length + (trim p2).length + 1) (nats .u8 o'), own 5 1 q2.1 (trim p2).length q2.2 (nats .u8 (trim p2)), own 3 1 q3.1 (exL (bl p)).length q3.2 (nats .i64 (exL (bl p)))]) rfl rfl rfl rfl (fun w hw => by have := into_spec _ _ w [own 3 1 q3.1 (exL (bl p)).length q3.2 (nats .i64 (exL (bl p)))] (some ⟨go, 0, none⟩) ((trim p).length + (trim p2).length + 1) L q2.1 q2.2 (trim p2) (cf (exL (bl p)) i) hlt h82 (by omega) (by omega) (by rw [hlen]; exact hw); rw [hlen] at this; exact this) (fun _ _ _ => trivial) (fun L2 hL2 => ?_)
        refine SX.end_ ?_
        refine KN.blk ?_
        refine KN.code ?_
        refine CW.reg [0, 1] rfl ?_   -- 11, binpoly.go:117
        refine s_add 46 rfl rfl rfl (r := ((i + 1 : Nat) : Int)) (w64 (by omega)) ?_
        refine s_mv 38 rfl rfl ?_
        refine SX.end_ ?_
        exact KN.back (i + 1, L2) ⟨rfl, rfl, rfl, rfl, rfl, trivial⟩ (fun _ h => h) (hz.next hi ⟨hL2.1.trans hlen.symm, hL2.2⟩) (by simp only; omega)
      · skip
        obtain rfl : i = (exL (bl p)).length := by omega
        have hdn := hz.done
        refine CW.exit rfl ?_
        refine KN.code ?_
        refine CW.seq ?_
        refine CW.reg [0, 1, 2, 3] rfl ?_   -- 12, binpoly.go:120
        refine s_mv 47 rfl rfl ?_
        refine s_call 48 rfl rfl rfl rfl (fun w hw => by have := trimmed_spec (some ⟨go, 0, none⟩) ((trim p).length + (trim p2).length + 1) ((trim p).length + (trim p2).length + 1) L w ((hw.has (i := 0) rfl).of_own) hlt (by omega) (Nat.le_refl _); rw [hdn] at this; exact this) (fun _ _ => trivial) (fun q4 hq4 => ?_)
        refine s_as 4 rfl rfl ?_
        refine s_as 5 rfl rfl ?_
        refine SX.next ?_
        refine CW.ret ?_
        exact KN.ret (rs := [.tmp 4, .tmp 5]) Tryd.results68 rfl (fun w hw => ⟨q4, rfl, hq4, hw.pick [0] rfl⟩)
end Go.Proofs.YtompcfingkoldaaDoor
end
section
/- The contracts of package binpoly: which polynomials have no divisor. Conditions: the lists are bytes, read where they lie. -/
namespace Go.Proofs.YtompcfingkoldaaDoor
open Go Go.Lib Go.Sx Go.Fm
set_option maxRecDepth 100000
/-- How many bits a number has. -/
def blen (x : Nat) : Nat := if x = 0 then 0 else Nat.log2 x + 1
theorem blen_lt (x : Nat) : x < 2 ^ blen x := by
  unfold blen
  split
  · rename_i h; subst h; decide
  · exact Nat.lt_log2_self
theorem blen_le {x k : Nat} (h : x < 2 ^ k) : blen x ≤ k := by
  unfold blen
  split
  · omega
  · rename_i h0
    exact (Nat.log2_lt h0).2 h
theorem blen_pos {x : Nat} (h : x ≠ 0) : 0 < blen x := by
  unfold blen
  rw [if_neg h]
  omega
theorem blen_top {x : Nat} (h : x ≠ 0) : x.testBit (blen x - 1) = true := by
  have h1 := blen_lt x
  have h2 : ¬ x < 2 ^ (blen x - 1) := fun hlt => by
    have := blen_le hlt
    have := blen_pos h
    omega
  have h3 := blen_pos h
  rw [Nat.testBit_eq_decide_div_mod_eq]
  have h4 : x / 2 ^ (blen x - 1) = 1 := by
    have h5 : 2 ^ blen x = 2 * 2 ^ (blen x - 1) := by rw [← Nat.pow_succ', show (blen x - 1).succ = blen x by omega]
    have hp := Nat.two_pow_pos (blen x - 1)
    refine Nat.div_eq_of_lt_le (by omega) ?_
    omega
  rw [h4]
  rfl
theorem blen_of {x b : Nat} (h1 : x < 2 ^ b) (h2 : b ≠ 0 → x.testBit (b - 1) = true) : blen x = b := by
  refine Nat.le_antisymm (blen_le h1) (Nat.le_of_not_lt fun hlt => ?_)
  have h3 := h2 (by omega)
  rw [Nat.testBit_lt_two_pow (Nat.lt_of_lt_of_le (blen_lt x) (Nat.pow_le_pow_right (n := 2) (by omega) (show blen x ≤ b - 1 by omega)))] at h3
  cases h3
theorem blen_shr {x k : Nat} (h : 2 ^ k ≤ x) : blen x = k + blen (x >>> k) := by
  have hp := Nat.two_pow_pos k
  have h0 : x >>> k ≠ 0 := by
    rw [Nat.shiftRight_eq_div_pow]
    have := Nat.div_pos h hp
    omega
  refine blen_of ?_ (fun _ => ?_)
  · have h1 := blen_lt (x >>> k)
    generalize blen (x >>> k) = b at h1
    rw [Nat.shiftRight_eq_div_pow] at h1
    rw [Nat.pow_add]
    exact (Nat.div_lt_iff_lt_mul hp).1 h1 |> (by rw [Nat.mul_comm]; exact ·)
  · have := blen_top h0
    rw [Nat.testBit_shiftRight] at this
    have hb := blen_pos h0
    rw [show k + blen (x >>> k) - 1 = k + (blen (x >>> k) - 1) by omega]
    exact this
theorem blen_8 {x : Nat} (h : x < 256) : bln x = blen x := by
  obtain ⟨_, _, h3, h4⟩ := bln_all x h
  refine (blen_of h3 (fun hb => ?_)).symm
  by_cases h0 : x = 0
  · subst h0
    exact absurd (by decide +kernel) hb
  · exact (h4 h0).2

theorem len64_spec (x : Nat) (w : World) (hx : x < 2 ^ 64) : Spec1 Tryd.prog 147 [.int .u64 (x : Nat)] w (.int .i64 (blen x : Nat)) := by
  have hbx := blen_le hx
  refine spec_of Tryd.func147 rfl Tryd.ntmps147 rfl ?_
  refine CW.seq ?_
  refine CW.reg [0] rfl ?_   -- 0, bits.go:337
  refine s_as 2 rfl rfl ?_
  refine SX.next ?_
  refine CW.cut (G := Nat × Nat) (fun q => [(0, .int .u64 (q.1 : Nat)), (2, .int .i64 (q.2 : Nat))]) (fun _ => Sto w []) (fun q => q.2 + blen q.1 = blen x ∧ q.1 < 2 ^ 32 ∧ q.2 ≤ 64) ?_ ?_
  · skip
    refine CW.seq ?_
    refine CW.reg [0, 1] rfl ?_   -- 1, bits.go:338
    refine s_mv 3 rfl rfl ?_
    refine s_ge 4 rfl rfl rfl rfl ?_
    refine SX.next ?_
    refine CW.test rfl (fun hc => ?_) (fun hc => ?_)
    · skip
      have hs := blen_shr (x := x) (k := 32) (by omega)
      have hlt : x >>> 32 < 2 ^ 32 := by rw [Nat.shiftRight_eq_div_pow]; exact (Nat.div_lt_iff_lt_mul (by decide)).2 (by omega)
      refine CW.seq ?_
      refine CW.reg [0, 1, 2] rfl ?_   -- 2, bits.go:339
      refine s_mv 5 rfl rfl ?_
      refine s_shr 6 rfl rfl rfl (by omega) (shr_u64 (x := x) (k := 32) (by omega)) ?_
      refine s_as 0 rfl rfl ?_
      refine SX.next ?_
      refine CW.reg [0] rfl ?_   -- 3, bits.go:340
      refine s_as 2 rfl rfl ?_
      refine SX.end_ ?_
      exact KN.join (x >>> 32, 32) ⟨rfl, rfl, trivial⟩ (fun _ h => h) ⟨by simp only; omega, hlt, by show 32 ≤ 64; omega⟩
    · skip
      refine CW.skip ?_
      exact KN.join (x, 0) ⟨rfl, rfl, trivial⟩ (fun _ h => h) ⟨by simp only; omega, by simp only; omega, by show 0 ≤ 64; omega⟩
  · skip
    rintro ⟨y, n1⟩ ⟨hy1, hy2, hy3⟩
    simp only at hy1 hy2 hy3
    dsimp only
    refine CW.cut (G := Nat × Nat) (fun q => [(0, .int .u64 (q.1 : Nat)), (2, .int .i64 (q.2 : Nat))]) (fun _ => Sto w []) (fun q => q.2 + blen q.1 = blen x ∧ q.1 < 2 ^ 16 ∧ q.2 ≤ 64) ?_ ?_
    · skip
      refine CW.seq ?_
      refine CW.reg [0, 1] rfl ?_   -- 4, bits.go:342
      refine s_mv 7 rfl rfl ?_
      refine s_ge 8 rfl rfl rfl rfl ?_
      refine SX.next ?_
      refine CW.test rfl (fun hc => ?_) (fun hc => ?_)
      · skip
        have hs := blen_shr (x := y) (k := 16) (by omega)
        have hlt : y >>> 16 < 2 ^ 16 := by rw [Nat.shiftRight_eq_div_pow]; exact (Nat.div_lt_iff_lt_mul (by decide)).2 (by omega)
        refine CW.seq ?_
        refine CW.reg [0, 1, 2] rfl ?_   -- 5, bits.go:343
        refine s_mv 9 rfl rfl ?_
        refine s_shr 10 rfl rfl rfl (by omega) (shr_u64 (x := y) (k := 16) (by omega)) ?_
        refine s_as 0 rfl rfl ?_
        refine SX.next ?_
        refine CW.reg [0, 1, 2] rfl ?_   -- 6, bits.go:344
        refine s_mv 11 rfl rfl ?_
        refine s_add 12 rfl rfl rfl (r := ((n1 + 16 : Nat) : Int)) (w64 (by omega)) ?_
        refine s_as 2 rfl rfl ?_
        refine SX.end_ ?_
        exact KN.join (y >>> 16, n1 + 16) ⟨rfl, rfl, trivial⟩ (fun _ h => h) ⟨by simp only; omega, hlt, by simp only; omega⟩
      · skip
        refine CW.skip ?_
        exact KN.join (y, n1) ⟨rfl, rfl, trivial⟩ (fun _ h => h) ⟨by simp only; omega, by simp only; omega, by simp only; omega⟩
    · skip
      rintro ⟨z, n2⟩ ⟨hz1, hz2, hz3⟩
      simp only at hz1 hz2 hz3
      dsimp only
      refine CW.cut (G := Nat × Nat) (fun q => [(0, .int .u64 (q.1 : Nat)), (2, .int .i64 (q.2 : Nat))]) (fun _ => Sto w []) (fun q => q.2 + blen q.1 = blen x ∧ q.1 < 2 ^ 8 ∧ q.2 ≤ 64) ?_ ?_
      · skip
        refine CW.seq ?_
        refine CW.reg [0, 1] rfl ?_   -- 7, bits.go:346
        refine s_mv 13 rfl rfl ?_
        refine s_ge 14 rfl rfl rfl rfl ?_
        refine SX.next ?_
        refine CW.test rfl (fun hc => ?_) (fun hc => ?_)
        · skip
          have hs := blen_shr (x := z) (k := 8) (by omega)
          have hlt : z >>> 8 < 2 ^ 8 := by rw [Nat.shiftRight_eq_div_pow]; exact (Nat.div_lt_iff_lt_mul (by decide)).2 (by omega)
          refine CW.seq ?_
          refine CW.reg [0, 1, 2] rfl ?_   -- 8, bits.go:347
          refine s_mv 15 rfl rfl ?_
          refine s_shr 16 rfl rfl rfl (by omega) (shr_u64 (x := z) (k := 8) (by omega)) ?_
          refine s_as 0 rfl rfl ?_
          refine SX.next ?_
          refine CW.reg [0, 1, 2] rfl ?_   -- 9, bits.go:348
          refine s_mv 17 rfl rfl ?_
          refine s_add 18 rfl rfl rfl (r := ((n2 + 8 : Nat) : Int)) (w64 (by omega)) ?_
          refine s_as 2 rfl rfl ?_
          refine SX.end_ ?_
          exact KN.join (z >>> 8, n2 + 8) ⟨rfl, rfl, trivial⟩ (fun _ h => h) ⟨by simp only; omega, hlt, by simp only; omega⟩
        · skip
          refine CW.skip ?_
          exact KN.join (z, n2) ⟨rfl, rfl, trivial⟩ (fun _ h => h) ⟨by simp only; omega, by simp only; omega, by simp only; omega⟩
      · skip
        rintro ⟨v, n3⟩ ⟨hv1, hv2, hv3⟩
        simp only at hv1 hv2 hv3
        dsimp only
        obtain ⟨h1, h2, h3, h4⟩ := bln_all v hv2
        have hb8 := blen_8 hv2
        refine CW.seq ?_
        refine CW.reg [0, 1, 2, 3, 4, 5, 6] rfl ?_   -- 10, bits.go:350
        refine s_mv 19 rfl rfl ?_
        refine s_mv 20 rfl rfl ?_
        refine s_conv 21 rfl rfl (r := ((v : Nat) : Int)) (w8 (by omega)) ?_
        refine s_len8 22 rfl (by kernel_rfl) (by kernel_rfl) rfl (by omega) (by omega) h1 ?_
        refine s_conv 23 rfl rfl (r := ((bln v : Nat) : Int)) (w64 (by omega)) ?_
        refine s_add 24 rfl rfl rfl (r := ((blen x : Nat) : Int)) (by rw [show ((n3 : Nat) : Int) + (bln v : Nat) = ((blen x : Nat) : Int) by omega]; exact w64 (by omega)) ?_
        refine s_as 2 rfl rfl ?_
        refine SX.next ?_
        refine CW.ret ?_
        exact KN.ret (rs := [.tmp 2]) Tryd.results147 rfl (fun w hw => ⟨rfl, hw.nothing⟩)

/-! ### Irreducible -/
/-- The number whose bits stand at these places. -/
def vP (l : List Nat) : Nat := l.foldl (fun z e => z ||| 2 ^ e) 0
theorem vP_snoc (l : List Nat) (e : Nat) : vP (l ++ [e]) = vP l ||| 2 ^ e := by simp [vP]
theorem or_lt {a b n : Nat} (ha : a < 2 ^ n) (hb : b < 2 ^ n) : a ||| b < 2 ^ n := Nat.or_lt_two_pow ha hb
theorem vP_take {l : List Nat} {n : Nat} (h : ∀ e ∈ l, e < n) : ∀ i, vP (l.take i) < 2 ^ n
  | 0 => Nat.two_pow_pos n
  | i + 1 => by
    by_cases hi : i < l.length
    · rw [take_cf hi, vP_snoc]
      exact or_lt (vP_take h i) (Nat.pow_lt_pow_right (by omega) (h _ (cf_mem hi)))
    · rw [List.take_of_length_le (by omega)]
      have := vP_take h i
      rw [List.take_of_length_le (by omega)] at this
      exact this
/-- The rest of r by q, both as numbers. -/
def rmF (q : Nat) : Nat → Nat → Nat
  | 0, r => r
  | k + 1, r => if blen q ≤ blen r then rmF q k (r ^^^ q * 2 ^ (blen r - blen q)) else r
def rm (q r : Nat) : Nat := rmF q (blen r + 1) r
theorem step_lt {q r : Nat} (_hq : q ≠ 0) (h : blen q ≤ blen r) : q * 2 ^ (blen r - blen q) < 2 ^ blen r := by
  have h1 := blen_lt q
  have h2 : 2 ^ blen r = 2 ^ blen q * 2 ^ (blen r - blen q) := by rw [← Nat.pow_add, show blen q + (blen r - blen q) = blen r by omega]
  rw [h2]
  exact Nat.mul_lt_mul_of_pos_right h1 (Nat.two_pow_pos _)
theorem step_blen {q r : Nat} (hq : q ≠ 0) (h : blen q ≤ blen r) : blen (r ^^^ q * 2 ^ (blen r - blen q)) < blen r := by
  have hbq := blen_pos hq
  have hr : r ≠ 0 := fun h0 => by
    subst h0
    have : blen 0 = 0 := rfl
    omega
  have h1 := blen_lt r
  have h2 := step_lt hq h
  have h3 : (r ^^^ q * 2 ^ (blen r - blen q)).testBit (blen r - 1) = false := by
    rw [Nat.testBit_xor, blen_top hr, Nat.mul_comm, Nat.testBit_two_pow_mul, decide_eq_true (by omega), Bool.true_and, show blen r - 1 - (blen r - blen q) = blen q - 1 by omega, blen_top hq]
    rfl
  have h4 := Nat.xor_lt_two_pow h1 h2
  have hle := blen_le h4
  refine Nat.lt_of_le_of_ne hle (fun he => ?_)
  generalize r ^^^ q * 2 ^ (blen r - blen q) = z at *
  have hz : z ≠ 0 := fun h0 => by
    subst h0
    have := blen_pos hr
    rw [← he] at this
    exact absurd this (by decide)
  have := blen_top hz
  rw [he, h3] at this
  cases this
theorem rmF_more {q : Nat} (hq : q ≠ 0) : ∀ {k i r : Nat}, blen r < k → blen r < i → rmF q k r = rmF q i r
  | 0, _, _, h, _ => by omega
  | _ + 1, 0, _, _, h => by omega
  | k + 1, i + 1, r, h1, h2 => by
    unfold rmF
    split
    · rename_i h
      have := step_blen hq h
      exact rmF_more hq (by omega) (by omega)
    · rfl
theorem rm_step {q r : Nat} (hq : q ≠ 0) (h : blen q ≤ blen r) : rm q (r ^^^ q * 2 ^ (blen r - blen q)) = rm q r := by
  have hs := step_blen hq h
  have e : rm q r = rmF q (blen r) (r ^^^ q * 2 ^ (blen r - blen q)) := if_pos h
  rw [e]
  exact rmF_more hq (Nat.lt_succ_self _) hs
theorem rm_done {q r : Nat} (h : ¬ blen q ≤ blen r) : rm q r = r := if_neg h
/-- Whether a polynomial has no divisor but 1 and itself, as it is tried. -/
def irrP (a : List Nat) : Bool := decide (2 ≤ a.length ∧ a.length ≤ 33) && (List.range (2 ^ ((a.length - 1) / 2 + 1))).all (fun q => decide (q < 2) || decide (rm q (vP (exL a)) ≠ 0))
theorem irrP_true {a : List Nat} (h : 2 ≤ a.length ∧ a.length ≤ 33) (h2 : ∀ q, q < 2 ^ ((a.length - 1) / 2 + 1) → q < 2 ∨ rm q (vP (exL a)) ≠ 0) : irrP a = true := by
  unfold irrP
  rw [decide_eq_true h, Bool.true_and, List.all_eq_true]
  intro q hq
  rcases h2 q (List.mem_range.1 hq) with h | h
  · rw [decide_eq_true h]; rfl
  · rw [decide_eq_true h, Bool.or_true]
theorem irrP_false {a : List Nat} {q : Nat} (hq : q < 2 ^ ((a.length - 1) / 2 + 1)) (h2 : 2 ≤ q) (h3 : rm q (vP (exL a)) = 0) : irrP a = false := by
  unfold irrP
  rw [Bool.and_eq_false_iff]
  refine .inr ?_
  rw [List.all_eq_false]
  refine ⟨q, List.mem_range.2 hq, ?_⟩
  rw [decide_eq_false (by omega), h3]
  simp
theorem irrP_none {a : List Nat} (h : ¬ (2 ≤ a.length ∧ a.length ≤ 33)) : irrP a = false := by
  unfold irrP
  rw [decide_eq_false h]
  rfl
theorem quo2 (i : Nat) (h : i ≤ 9223372036854775807) : IntKind.i64.wrap (((i : Nat) : Int).tdiv 2) = ((i / 2 : Nat) : Int) := by
  rw [show ((i : Nat) : Int).tdiv 2 = ((i / 2 : Nat) : Int) from rfl]
  exact w64 (by omega)
theorem shl_one_u64 {k : Nat} (hk : k ≤ 63) : IntKind.u64.wrap ((1 : Int) * 2 ^ (min (k : Int).toNat IntKind.u64.bits)) = ((2 ^ k : Nat) : Int) := by
  have := shl_u64 (x := 1) hk (by rw [Nat.one_mul]; exact Nat.pow_lt_pow_right (by omega) (by omega))
  rw [Nat.one_mul] at this
  exact this

theorem birr_spec (A : Option Addr) (n c : Nat) (p : List Nat) (w : World) (ha : Has (sl 1 A n (nats .u8 p)) w) (hp : ∀ x ∈ p, x < 256) (hn : n ≤ 1073741824) (hcp : n ≤ c) : Spec1 Tryd.prog 82 [.slice A n c] w (.bool (irrP (bl p))) := by
  have hla := nats_len ha
  subst hla
  have hbl := bl_len p
  refine spec_of Tryd.func82 rfl Tryd.ntmps82 rfl ?_
  refine CW.seq ?_
  refine CW.reg [0] rfl ?_   -- 0, binpoly.go:179
  refine s_as 2 rfl rfl ?_
  refine SX.next ?_
  refine CW.seq ?_
  refine CW.reg [0, 1, 2] rfl ?_   -- 1, binpoly.go:180
  refine s_mv 10 rfl rfl ?_
  refine s_call1 11 rfl rfl rfl rfl (fun w hw => bdeg_spec A p.length c p w (hw.old ha) hp hn hcp) (fun _ _ => trivial) ?_
  refine s_as 3 rfl rfl ?_
  refine SX.next ?_
  refine CW.seq ?_
  refine CW.seq ?_
  refine CW.reg [0, 1, 2, 3, 4, 5] rfl ?_   -- 2, binpoly.go:181
  refine s_mv 12 rfl rfl ?_
  refine s_lt 13 rfl rfl rfl rfl ?_
  refine s_mv 14 rfl rfl ?_
  refine SX.bool 14 rfl (fun hb => ?_) (fun hb => ?_)
  · skip
    replace hb := of_decide_eq_true hb
    have hz := irrP_none (a := bl p) (by omega)
    refine SX.skip rfl ?_
    refine SX.skip rfl ?_
    refine s_pickT 17 rfl rfl rfl ?_
    refine SX.next ?_
    refine CW.condT rfl ?_
    refine CW.seq ?_
    refine CW.reg [0] rfl ?_   -- 3, binpoly.go:182
    refine s_as 2 rfl rfl ?_
    refine SX.next ?_
    refine CW.ret ?_
    exact KN.ret (rs := [.tmp 2]) Tryd.results82 rfl (fun w hw => ⟨by rw [hz]; rfl, hw.nothing⟩)
  · skip
    replace hb := of_decide_eq_false hb
    refine s_mv 15 rfl rfl ?_
    refine s_gt 16 rfl rfl rfl rfl ?_
    refine s_pickF 17 rfl rfl rfl ?_
    refine SX.next ?_
    refine CW.test rfl (fun hc2 => ?_) (fun hc2 => ?_)
    · skip
      have hz := irrP_none (a := bl p) (by omega)
      refine CW.seq ?_
      refine CW.reg [0] rfl ?_   -- 3, binpoly.go:182
      refine s_as 2 rfl rfl ?_
      refine SX.next ?_
      refine CW.ret ?_
      exact KN.ret (rs := [.tmp 2]) Tryd.results82 rfl (fun w hw => ⟨by rw [hz]; rfl, hw.nothing⟩)
    · skip
      have hN : 2 ≤ (bl p).length ∧ (bl p).length ≤ 33 := by omega
      have hexl : (exL (bl p)).length ≤ (bl p).length := exU_len (bl p) (bl p).length (bl p).length
      have hxe : ∀ e ∈ exL (bl p), e < 33 := fun e he => by have := exU_lt (by omega) he; omega
      have hxt := vP_take hxe
      have hxv := hxt (exL (bl p)).length
      rw [List.take_length] at hxv
      have hD : ((bl p).length - 1) / 2 + 1 ≤ 17 := by omega
      refine CW.skip ?_
      refine KN.code ?_
      refine CW.seq ?_
      refine CW.reg [0] rfl ?_   -- 4, binpoly.go:184
      refine s_as 4 rfl rfl ?_
      refine SX.next ?_
      refine CW.seq ?_
      refine CW.seq ?_
      refine CW.reg [0, 1, 2, 3] rfl ?_   -- 5, binpoly.go:185
      refine s_mv 18 rfl rfl ?_
      refine s_call 19 rfl rfl rfl rfl (fun w hw => bexp_spec A p.length c p w (hw.old ha) hp hn hcp) (fun _ _ => trivial) (fun q3 hq3 => ?_)
      refine s_len 20 rfl rfl ?_
      refine s_mv 21 rfl rfl ?_
      refine SX.next ?_
      refine CW.block ?_
      refine CW.loop (G := Nat) (fun i => [(3, .int .i64 (((bl p).length : Nat) - 1 : Int)), (4, .int .u64 (vP ((exL (bl p)).take i) : Nat)), (19, .slice q3.1 (exL (bl p)).length q3.2), (20, .int .i64 ((exL (bl p)).length : Nat)), (21, .int .i64 (i : Nat))]) (fun _ => Sto w [own 3 1 q3.1 (exL (bl p)).length q3.2 (nats .i64 (exL (bl p)))]) (fun i => i ≤ (exL (bl p)).length) (fun i => (exL (bl p)).length - i) 0 ⟨rfl, rfl, rfl, rfl, rfl, trivial⟩ (fun _ h => h) (Nat.zero_le _) ?_
      intro i hi
      refine CW.seq ?_
      refine CW.reg [0] rfl ?_   -- 6, binpoly.go:185
      refine s_lt 22 rfl rfl rfl rfl ?_
      refine SX.next ?_
      refine CW.seq ?_
      refine CW.test rfl (fun hc => ?_) (fun hc => ?_)
      · skip
        have hi2 : i < (exL (bl p)).length := by omega
        have hei := hxe _ (cf_mem hi2)
        have hvi := hxt i
        have hnx : vP ((exL (bl p)).take (i + 1)) = vP ((exL (bl p)).take i) ||| 2 ^ cf (exL (bl p)) i := by rw [take_cf hi2, vP_snoc]
        have hpe : 2 ^ cf (exL (bl p)) i < 2 ^ 33 := Nat.pow_lt_pow_right (by omega) hei
        refine CW.skip ?_
        refine KN.code ?_
        refine CW.seq ?_
        refine CW.block ?_
        refine CW.seq ?_
        refine CW.reg [0, 1, 2] rfl ?_   -- 7, binpoly.go:185
        refine s_iaO 23 0 i rfl rfl rfl rfl rfl (by omega) ?_
        refine s_ldO 24 0 rfl rfl rfl (natsAtC hi2) ?_
        refine s_as 6 rfl rfl ?_
        refine SX.next ?_
        refine CW.reg [0, 1, 2, 3, 4] rfl ?_   -- 8, binpoly.go:186
        refine s_mv 25 rfl rfl ?_
        refine s_mv 26 rfl rfl ?_
        refine s_shl 27 rfl rfl rfl (by omega) (shl_one_u64 (by omega)) ?_
        refine s_bit 28 rfl rfl rfl rfl (r := ((vP ((exL (bl p)).take (i + 1)) : Nat) : Int)) (by rw [hnx]; exact ibit_or_u64 (by omega) (by omega)) ?_
        refine s_as 4 rfl rfl ?_
        refine SX.end_ ?_
        refine KN.blk ?_
        refine KN.code ?_
        refine CW.reg [0, 1] rfl ?_   -- 9, binpoly.go:185
        refine s_add 29 rfl rfl rfl (r := ((i + 1 : Nat) : Int)) (w64 (by omega)) ?_
        refine s_mv 21 rfl rfl ?_
        refine SX.end_ ?_
        exact KN.back (i + 1) ⟨rfl, rfl, rfl, rfl, rfl, trivial⟩ (fun _ h => h) (by omega) (by omega)
      · skip
        obtain rfl : i = (exL (bl p)).length := by omega
        have htk : (exL (bl p)).take (exL (bl p)).length = exL (bl p) := List.take_length
        refine CW.exit rfl ?_
        refine KN.code ?_
        refine CW.seq ?_
        refine CW.seq ?_
        refine CW.reg [0] rfl ?_   -- 10, binpoly.go:188
        refine s_as 7 rfl rfl ?_
        refine SX.next ?_
        refine CW.block ?_
        refine CW.loop (G := Nat) (fun q => [(3, .int .i64 (((bl p).length : Nat) - 1 : Int)), (4, .int .u64 (vP ((exL (bl p)).take (exL (bl p)).length) : Nat)), (7, .int .u64 (q : Nat))]) (fun _ => Sto w []) (fun q => (2 ≤ q ∧ q ≤ 2 ^ (((bl p).length - 1) / 2 + 1)) ∧ ∀ r, r < q → r < 2 ∨ rm r (vP (exL (bl p))) ≠ 0) (fun q => 2 ^ (((bl p).length - 1) / 2 + 1) - q) 2 ⟨rfl, rfl, rfl, trivial⟩ (fun _ h => h.pick [] rfl) ⟨⟨Nat.le_refl _, show 2 ^ 1 ≤ 2 ^ (((bl p).length - 1) / 2 + 1) from Nat.pow_le_pow_right (by omega) (by omega)⟩, fun r hr => .inl hr⟩ ?_
        rintro q ⟨⟨hq1, hq2⟩, hq3⟩
        have hpw : 2 ^ (((bl p).length - 1) / 2 + 1) ≤ 2 ^ 17 := Nat.pow_le_pow_right (by omega) hD
        refine CW.seq ?_
        refine CW.seq ?_
        refine CW.reg [0, 1, 2, 3, 4, 5] rfl ?_   -- 11, binpoly.go:188
        refine s_mv 30 rfl rfl ?_
        refine s_mv 31 (v := .int .i64 (((bl p).length - 1) : Nat)) rfl (by rw [show ((((bl p).length - 1) : Nat) : Int) = ((bl p).length : Nat) - 1 by omega]; rfl) ?_
        refine s_quo 32 rfl rfl rfl (by omega) (quo2 ((bl p).length - 1) (by omega)) ?_
        refine s_add 33 rfl rfl rfl (r := ((((bl p).length - 1) / 2 + 1 : Nat) : Int)) (w64 (by omega)) ?_
        refine s_shl 34 rfl rfl rfl (by omega) (shl_one_u64 (by omega)) ?_
        refine s_lt 35 rfl rfl rfl rfl ?_
        refine SX.next ?_
        refine CW.test rfl (fun hc => ?_) (fun hc => ?_)
        · skip
          have hq0 : q ≠ 0 := by omega
          have hbq := blen_le (x := q) (k := 17) (by omega)
          have hbx := blen_le hxv
          refine CW.skip ?_
          refine KN.code ?_
          refine CW.seq ?_
          refine CW.block ?_
          refine CW.seq ?_
          refine CW.reg [0, 1] rfl ?_   -- 13, binpoly.go:189
          refine s_mv 38 rfl rfl ?_
          refine s_as 8 rfl rfl ?_
          refine SX.next ?_
          refine CW.seq ?_
          refine CW.seq ?_
          refine CW.reg [0, 1, 2, 3, 4, 5] rfl ?_   -- 14, binpoly.go:190
          refine s_mv 39 rfl rfl ?_
          refine s_call1 40 rfl rfl rfl rfl (fun w hw => len64_spec _ w (by rw [htk]; omega)) (fun _ _ => trivial) ?_
          refine s_mv 41 rfl rfl ?_
          refine s_call1 42 rfl rfl rfl rfl (fun w hw => len64_spec _ w (by omega)) (fun _ _ => trivial) ?_
          refine s_sub 43 rfl rfl rfl (r := ((blen (vP ((exL (bl p)).take (exL (bl p)).length)) : Nat) : Int) - (blen q : Nat)) (by rw [htk]; exact w64 (by omega)) ?_
          refine s_as 9 rfl rfl ?_
          refine SX.next ?_
          refine CW.block ?_
          refine CW.loop (G := Nat) (fun r => [(3, .int .i64 (((bl p).length : Nat) - 1 : Int)), (4, .int .u64 (vP ((exL (bl p)).take (exL (bl p)).length) : Nat)), (7, .int .u64 (q : Nat)), (8, .int .u64 (r : Nat)), (9, .int .i64 ((blen r : Nat) - (blen q : Nat)))]) (fun _ => Sto w []) (fun r => r < 2 ^ 33 ∧ rm q r = rm q (vP (exL (bl p)))) (fun r => blen r) (vP ((exL (bl p)).take (exL (bl p)).length)) ⟨rfl, rfl, rfl, rfl, rfl, trivial⟩ (fun _ h => h) ⟨by rw [htk]; exact hxv, by rw [htk]⟩ ?_
          rintro r ⟨hr1, hr2⟩
          have hbr := blen_le hr1
          refine CW.seq ?_
          refine CW.seq ?_
          refine CW.reg [0, 1] rfl ?_   -- 15, binpoly.go:190
          refine s_mv 44 rfl rfl ?_
          refine s_ge 45 rfl rfl rfl rfl ?_
          refine SX.next ?_
          refine CW.test rfl (fun hc => ?_) (fun hc => ?_)
          · skip
            have hle : blen q ≤ blen r := by omega
            have hs1 := step_lt hq0 hle
            have hs2 := step_blen hq0 hle
            have hs3 := rm_step hq0 hle
            have hp33 : 2 ^ blen r ≤ 2 ^ 33 := Nat.pow_le_pow_right (by omega) hbr
            have hx33 := Nat.xor_lt_two_pow hr1 (Nat.lt_of_lt_of_le hs1 hp33)
            have hbx2 := blen_le hx33
            refine CW.skip ?_
            refine KN.code ?_
            refine CW.seq ?_
            refine CW.block ?_
            refine CW.reg [0, 1, 2, 3, 4, 5] rfl ?_   -- 17, binpoly.go:191
            refine s_mv 51 rfl rfl ?_
            refine s_mv 52 rfl rfl ?_
            refine s_mv 53 (v := .int .i64 (blen r - blen q : Nat)) rfl (by rw [show ((blen r - blen q : Nat) : Int) = (blen r : Nat) - (blen q : Nat) by omega]; rfl) ?_
            refine s_shl 54 rfl rfl rfl (by omega) (shl_u64 (by omega) (by omega)) ?_
            refine s_bit 55 rfl rfl rfl rfl (ibit_xor_u64 (by omega) (by omega)) ?_
            refine s_as 8 rfl rfl ?_
            refine SX.end_ ?_
            refine KN.blk ?_
            refine KN.code ?_
            refine CW.reg [0, 1, 2, 3, 4, 5] rfl ?_   -- 16, binpoly.go:190
            refine s_mv 46 rfl rfl ?_
            refine s_call1 47 rfl rfl rfl rfl (fun w hw => len64_spec _ w (by omega)) (fun _ _ => trivial) ?_
            refine s_mv 48 rfl rfl ?_
            refine s_call1 49 rfl rfl rfl rfl (fun w hw => len64_spec _ w (by omega)) (fun _ _ => trivial) ?_
            refine s_sub 50 rfl rfl rfl (r := ((blen (r ^^^ q * 2 ^ (blen r - blen q)) : Nat) : Int) - (blen q : Nat)) (w64 (by omega)) ?_
            refine s_as 9 rfl rfl ?_
            refine SX.end_ ?_
            exact KN.back (r ^^^ q * 2 ^ (blen r - blen q)) ⟨rfl, rfl, rfl, rfl, rfl, trivial⟩ (fun _ h => h) ⟨hx33, hs3.trans hr2⟩ hs2
          · skip
            have hrd := rm_done (q := q) (r := r) (by omega)
            rw [hrd] at hr2
            refine CW.exit rfl ?_
            refine KN.code ?_
            refine CW.seq ?_
            refine CW.reg [0, 1] rfl ?_   -- 18, binpoly.go:193
            refine s_mv 56 rfl rfl ?_
            refine s_eq 57 rfl rfl rfl rfl ?_
            refine SX.next ?_
            refine CW.test rfl (fun hc => ?_) (fun hc => ?_)
            · skip
              have hz := irrP_false (a := bl p) (q := q) (by omega) hq1 (by omega)
              refine CW.seq ?_
              refine CW.reg [0] rfl ?_   -- 19, binpoly.go:194
              refine s_as 2 rfl rfl ?_
              refine SX.next ?_
              refine CW.ret ?_
              exact KN.ret (rs := [.tmp 2]) Tryd.results82 rfl (fun w hw => ⟨by rw [hz]; rfl, hw.nothing⟩)
            · skip
              refine CW.skip ?_
              refine KN.blk ?_
              refine KN.code ?_
              refine CW.reg [0, 1, 2] rfl ?_   -- 12, binpoly.go:188
              refine s_mv 36 rfl rfl ?_
              refine s_add 37 rfl rfl rfl (r := ((q + 1 : Nat) : Int)) (wu64' (x := q + 1) (by omega)) ?_
              refine s_as 7 rfl rfl ?_
              refine SX.end_ ?_
              exact KN.back (q + 1) ⟨rfl, rfl, rfl, trivial⟩ (fun _ h => h) ⟨⟨by omega, by omega⟩, fun s hs => by
  by_cases h : s = q
  · subst h; right; omega
  · exact hq3 s (by omega)⟩ (by omega)
        · skip
          obtain rfl : q = 2 ^ (((bl p).length - 1) / 2 + 1) := by omega
          have hz := irrP_true hN hq3
          refine CW.exit rfl ?_
          refine KN.code ?_
          refine CW.seq ?_
          refine CW.reg [0] rfl ?_   -- 20, binpoly.go:197
          refine s_as 2 rfl rfl ?_
          refine SX.next ?_
          refine CW.ret ?_
          exact KN.ret (rs := [.tmp 2]) Tryd.results82 rfl (fun w hw => ⟨by rw [hz]; rfl, hw.nothing⟩)
end Go.Proofs.YtompcfingkoldaaDoor
end
section
/- The contracts of package binpoly: sums of powers; and of the document's comparisons of bytes. Conditions: the lists are bytes, read where they lie. -/
namespace Go.Proofs.YtompcfingkoldaaDoor
open Go Go.Lib Go.Sx Go.Fm
set_option maxRecDepth 100000

theorem sameBytes_spec (A : Option Addr) (n c : Nat) (p : List Nat) (A2 : Option Addr) (n2 c2 : Nat) (p2 : List Nat) (w : World) (ha : Has (sl 1 A n (nats .u8 p)) w) (hp : ∀ x ∈ p, x < 256) (ha2 : Has (sl 1 A2 n2 (nats .u8 p2)) w) (hp2 : ∀ x ∈ p2, x < 256) : Spec1 Tryd.prog 28 [.slice A n c, .slice A2 n2 c2] w (.bool (decide (p = p2))) := by
  refine spec_of Tryd.func28 rfl Tryd.ntmps28 rfl ?_
  refine CW.seq ?_
  refine CW.reg [0] rfl ?_   -- 0, ref.go:120
  refine s_as 4 rfl rfl ?_
  refine SX.next ?_
  refine CW.seq ?_
  refine CW.reg [0, 1, 2, 3, 4, 5] rfl ?_   -- 1, ref.go:120
  refine s_mv 5 rfl rfl ?_
  refine s_b2s 6 (b := p) rfl (by kernel_rfl) (by kernel_rfl) rfl (fun w hw => hw.old ha) ?_
  refine s_mv 7 rfl rfl ?_
  refine s_b2s 8 (b := p2) rfl (by kernel_rfl) (by kernel_rfl) rfl (fun w hw => hw.old ha2) ?_
  refine s_eqS 9 rfl rfl rfl (strB_beq hp hp2) ?_
  refine s_as 4 rfl rfl ?_
  refine SX.next ?_
  refine CW.ret ?_
  exact KN.ret (rs := [.tmp 4]) Tryd.results28 rfl (fun w hw => ⟨rfl, hw.nothing⟩)

theorem bare_spec (A : Option Addr) (n c : Nat) (p : List Nat) (w : World) (ha : Has (sl 1 A n (nats .u8 p)) w) (_hp : ∀ x ∈ p, x < 256) (hn : n ≤ 1073741824) (hcp : n ≤ c) (ht : trim p = p) : Spec1 Tryd.prog 145 [.slice A n c] w (.bool true) := by
  have hla := nats_len ha
  subst hla
  have htt := trim_length p
  rw [ht] at htt
  refine spec_of Tryd.func145 rfl Tryd.ntmps145 rfl ?_
  refine CW.seq ?_
  refine CW.reg [0] rfl ?_   -- 0, law.go:23
  refine s_as 2 rfl rfl ?_
  refine SX.next ?_
  refine CW.seq ?_
  refine CW.reg [0, 1, 2, 3, 4, 5, 6, 7, 8, 9, 10, 11, 12] rfl ?_   -- 1, law.go:23
  refine s_mv 3 rfl rfl ?_
  refine s_len 4 rfl rfl ?_
  refine s_eq 5 rfl rfl rfl rfl ?_
  refine s_mv 6 rfl rfl ?_
  refine SX.bool 6 rfl (fun hb => ?_) (fun hb => ?_)
  · skip
    skip
    refine SX.skip rfl ?_
    refine SX.skip rfl ?_
    refine SX.skip rfl ?_
    refine SX.skip rfl ?_
    refine SX.skip rfl ?_
    refine SX.skip rfl ?_
    refine SX.skip rfl ?_
    refine s_pickT 14 rfl rfl rfl ?_
    refine s_as 2 rfl rfl ?_
    refine SX.next ?_
    refine CW.ret ?_
    exact KN.ret (rs := [.tmp 2]) Tryd.results145 rfl (fun w hw => ⟨rfl, hw.nothing⟩)
  · skip
    replace hb := of_decide_eq_false hb
    have htop := cf_top p (by omega)
    rw [← htt] at htop
    refine s_mv 7 rfl rfl ?_
    refine s_mv 8 rfl rfl ?_
    refine s_len 9 rfl rfl ?_
    refine s_sub 10 rfl rfl rfl (r := ((p.length - 1 : Nat) : Int)) (by rw [show ((p.length : Nat) : Int) - 1 = ((p.length - 1 : Nat) : Int) by omega]; exact w64 (by omega)) ?_
    refine s_iaV 11 (p.length - 1) (fun w hw => hw.old ha) rfl rfl rfl rfl (by omega) ?_
    refine s_ldV 12 (fun w hw => hw.old ha) rfl rfl (by rw [Nat.mul_one]; exact natsAt8 (by omega)) (by omega) ?_
    refine s_ne 13 rfl rfl rfl (decide_eq_true (by omega)) ?_
    refine s_pickF 14 rfl rfl rfl ?_
    refine s_as 2 rfl rfl ?_
    refine SX.next ?_
    refine CW.ret ?_
    exact KN.ret (rs := [.tmp 2]) Tryd.results145 rfl (fun w hw => ⟨rfl, hw.nothing⟩)

theorem bsame_spec (A : Option Addr) (n c : Nat) (p : List Nat) (A2 : Option Addr) (n2 c2 : Nat) (p2 : List Nat) (w : World) (ha : Has (sl 1 A n (nats .u8 p)) w) (hp : ∀ x ∈ p, x < 256) (hn : n ≤ 1073741824) (hcp : n ≤ c) (ht : trim p = p) (ha2 : Has (sl 1 A2 n2 (nats .u8 p2)) w) (hp2 : ∀ x ∈ p2, x < 256) : Spec1 Tryd.prog 77 [.slice A n c, .slice A2 n2 c2] w (.bool (decide (p = p2))) := by
  refine spec_of Tryd.func77 rfl Tryd.ntmps77 rfl ?_
  refine CW.seq ?_
  refine CW.reg [0] rfl ?_   -- 0, law.go:26
  refine s_as 4 rfl rfl ?_
  refine SX.next ?_
  refine CW.seq ?_
  refine CW.reg [0, 1, 2, 3, 4, 5, 6, 7] rfl ?_   -- 1, law.go:26
  refine s_mv 5 rfl rfl ?_
  refine s_call1 6 rfl rfl rfl rfl (fun w hw => bare_spec A n c p w (hw.old ha) hp hn hcp ht) (fun _ _ => trivial) ?_
  refine s_mv 7 rfl rfl ?_
  refine s_mv 8 rfl rfl ?_
  refine s_mv 9 rfl rfl ?_
  refine s_call1 10 rfl rfl rfl rfl (fun w hw => sameBytes_spec A n c p A2 n2 c2 p2 w (hw.old ha) hp (hw.old ha2) hp2) (fun _ _ => trivial) ?_
  refine s_pickT 11 rfl rfl rfl ?_
  refine s_as 4 rfl rfl ?_
  refine SX.next ?_
  refine CW.ret ?_
  exact KN.ret (rs := [.tmp 4]) Tryd.results77 rfl (fun w hw => ⟨rfl, hw.nothing⟩)

/-! ### Powers of x -/
theorem one_bys (n : Nat) : (List.replicate (n / 8 + 1) 0).set (n / 8) (2 ^ (n % 8)) = bys (xP n) := by
  have hv : 2 ^ (n % 8) < 256 := Nat.pow_lt_pow_right (n := 8) (by omega) (Nat.mod_lt _ (by omega))
  have hl : ∀ x ∈ (List.replicate (n / 8 + 1) 0).set (n / 8) (2 ^ (n % 8)), x < 256 := set_lt (zeros_lt _) hv
  have ht : trim ((List.replicate (n / 8 + 1) 0).set (n / 8) (2 ^ (n % 8))) = (List.replicate (n / 8 + 1) 0).set (n / 8) (2 ^ (n % 8)) := by
    refine trim_of ?_
    have h1 := tl_le ((List.replicate (n / 8 + 1) 0).set (n / 8) (2 ^ (n % 8)))
    have h2 : ((List.replicate (n / 8 + 1) 0).set (n / 8) (2 ^ (n % 8))).length = n / 8 + 1 := by simp
    refine Nat.le_antisymm h1 (Nat.le_of_not_lt fun hlt => ?_)
    have h3 := cf_hi _ (n / 8) (show tl ((List.replicate (n / 8 + 1) 0).set (n / 8) (2 ^ (n % 8))) ≤ n / 8 by omega)
    rw [cf_set (by simp), if_pos rfl] at h3
    have := Nat.two_pow_pos (n % 8)
    omega
  rw [← ht]
  refine bys_of hl (xP_b1 n) (fun j => ?_)
  rw [cf_xP]
  by_cases h : j / 8 = n / 8
  · unfold bitN
    rw [cf_set (by simp), if_pos h, shr_two, Nat.testBit_two_pow]
    by_cases h2 : j = n
    · subst h2; simp
    · rw [if_neg h2, decide_eq_false (by omega)]
      rfl
  · rw [if_neg (by omega)]
    refine bitN_zero ?_
    rw [cf_set (by simp), if_neg h]
    unfold cf
    simp only [List.getD_eq_getElem?_getD]
    rw [List.getElem?_replicate]
    split <;> rfl
theorem xP_len (n : Nat) : (bys (xP n)).length = n / 8 + 1 := by rw [← one_bys]; simp
theorem repl8 (N i v : Nat) : (List.replicate N (Value.int .u8 0)).toArray.setIfInBounds i (.int .u8 (v : Nat)) = (nats .u8 ((List.replicate N 0).set i v)).toArray := by
  rw [List.setIfInBounds_toArray, ← nats_set]
  simp [nats]

theorem one_spec (n : Nat) (w : World) (hn : n ≤ 1000000) : SpecB Tryd.prog 138 [.int .i64 (n : Nat)] w (bys (xP n)) := by
  have hob := one_bys n
  have hxl := xP_len n
  have hv : 2 ^ (n % 8) < 256 := Nat.pow_lt_pow_right (n := 8) (by omega) (Nat.mod_lt _ (by omega))
  refine spec_of Tryd.func138 rfl Tryd.ntmps138 rfl ?_
  refine CW.seq ?_
  refine CW.reg [0] rfl ?_   -- 0, binpoly.go:29
  refine s_as 2 rfl rfl ?_
  refine SX.next ?_
  refine CW.seq ?_
  refine CW.reg [0, 1, 2, 3, 4] rfl ?_   -- 1, binpoly.go:30
  refine s_mv 4 rfl rfl ?_
  refine s_quo 5 rfl rfl rfl (by omega) (quo8 n (by omega)) ?_
  refine s_add 6 rfl rfl rfl (r := (((n / 8 + 1) : Nat) : Int)) (w64 (by omega)) ?_
  refine s_make 7 (n / 8 + 1) rfl rfl rfl rfl rfl (by omega) (fun _ _ => trivial) (fun go => ?_)
  refine s_as 3 rfl rfl ?_
  refine SX.next ?_
  refine CW.seq ?_
  refine CW.reg [0, 1, 2, 3, 4, 5, 6, 7] rfl ?_   -- 2, binpoly.go:31
  refine s_mv 8 rfl rfl ?_
  refine s_mv 9 rfl rfl ?_
  refine s_quo 10 rfl rfl rfl (by omega) (quo8 n (by omega)) ?_
  refine s_mv 11 rfl rfl ?_
  refine s_rem 12 rfl rfl rfl (by omega) (tmod8 n) ?_
  refine s_shl 13 rfl rfl rfl (by omega) (r := ((2 ^ (n % 8) : Nat) : Int)) (by rw [show (1 : Int) = ((1 : Nat) : Int) from rfl, shl_u8 (by omega), Nat.one_mul, Nat.mod_eq_of_lt hv]) ?_
  refine s_ia0 14 (n / 8) rfl rfl rfl rfl (by omega) ?_
  refine s_stB 0 rfl rfl rfl rfl rfl (by simp) (fun _ _ => trivial) ?_
  refine SX.next ?_
  refine CW.seq ?_
  refine CW.reg [0, 1] rfl ?_   -- 3, binpoly.go:32
  refine s_mv 15 rfl rfl ?_
  refine s_as 2 rfl rfl ?_
  refine SX.next ?_
  refine CW.ret ?_
  exact KN.ret (rs := [.tmp 2]) Tryd.results138 rfl (fun w hw => ⟨(some ⟨go, 0, none⟩, (n / 8 + 1)), by rw [hxl]; rfl, by rw [hxl]; exact Nat.le_refl _, by
  rw [hxl]
  rw [repl8, hob] at hw
  exact hw.blkOwn (q := 0) (c := (n / 8 + 1)) rfl (by simp [hxl]) (by unfold maxLen; omega)⟩)

/-! ### Sums of many -/
theorem _root_.Go.Sx.St.swp {F : Nat → Prop} {w₀ w : World} {A B : Atom} {L : List Atom} (h : St F w₀ (A :: B :: L) w) : St F w₀ (B :: A :: L) w := ⟨h.fr, h.lt, h.sep.swap⟩
def BlG.hdr (b : BlG) : Value := .slice b.A b.l.length b.c
def ownB (b : BlG) : Atom := own 5 1 b.A b.l.length b.c (nats .u8 b.l)
structure BlG.Fine (b : BlG) (w : World) : Prop where
  has : Has (sl 1 b.A b.l.length (nats .u8 b.l)) w
  lt : ∀ x ∈ b.l, x < 256
  bd : b.l.length ≤ 1000000
  cap : b.l.length ≤ b.c
/-- The sum of the first i. -/
def sumF (f : Nat → List Nat) : Nat → List Nat
  | 0 => []
  | i + 1 => addP (sumF f i) (f i)
theorem sumF_b1 {f : Nat → List Nat} (hf : ∀ i, B1 (f i)) : ∀ i, B1 (sumF f i)
  | 0 => nil_b1
  | i + 1 => addP_b1 (sumF_b1 hf i) (hf i)
theorem addP_le8 (a b : List Nat) : (addP a b).length ≤ max a.length b.length := by
  unfold addP pl
  rw [trim_length]
  simpa using tl_le ((List.range (max a.length b.length)).map fun j => cf a j ^^^ cf b j)
theorem sumF_le {f : Nat → List Nat} {K : Nat} : ∀ {i : Nat}, (∀ j, j < i → (f j).length ≤ K) → (sumF f i).length ≤ K
  | 0, _ => Nat.zero_le _
  | i + 1, h => by
    have h1 := addP_le8 (sumF f i) (f i)
    have h2 := sumF_le (i := i) (fun j hj => h j (by omega))
    have h3 := h i (by omega)
    show (addP (sumF f i) (f i)).length ≤ K
    omega
theorem sumF_congr {f g : Nat → List Nat} : ∀ {i : Nat}, (∀ j, j < i → f j = g j) → sumF f i = sumF g i
  | 0, _ => rfl
  | i + 1, h => by
    show addP (sumF f i) (f i) = addP (sumF g i) (g i)
    rw [sumF_congr (i := i) (fun j hj => h j (by omega)), h i (by omega)]
/-- Its bytes. -/
def sumY (f : Nat → List Nat) : Nat → List Nat
  | 0 => []
  | i + 1 => bys (sumF f (i + 1))
theorem sumY_eq (f : Nat → List Nat) : ∀ i, sumY f i = bys (sumF f i)
  | 0 => bys_nil.symm
  | _ + 1 => rfl
def blAt (bs : List BlG) (i : Nat) : List Nat := bl (bs.getD i ⟨none, 0, []⟩).l
theorem blAt_some {bs : List BlG} {i : Nat} {b : BlG} (h : bs[i]? = some b) : blAt bs i = bl b.l := by
  unfold blAt
  rw [List.getD_eq_getElem?_getD, h]
  rfl

theorem fold_spec (A : Option Addr) (n c : Nat) (bs : List BlG) (w : World) (ha : Has (sl 1 A n (bs.map BlG.hdr)) w) (hb : ∀ b ∈ bs, b.Fine w) (hn : n ≤ 1000000) : SpecB Tryd.prog 139 [.slice A n c, .func (.func 61) #[] #[]] w (sumY (blAt bs) bs.length) := by
  have hla : bs.length = n := by have := ha.sl_len; simpa using this
  subst hla
  refine spec_of Tryd.func139 rfl Tryd.ntmps139 rfl ?_
  refine CW.seq ?_
  refine CW.reg [0] rfl ?_   -- 0, binpoly.go:48
  refine s_as 4 rfl rfl ?_
  refine SX.next ?_
  refine CW.seq ?_
  refine CW.reg [0] rfl ?_   -- 1, binpoly.go:49
  refine s_as 5 rfl rfl ?_
  refine SX.next ?_
  refine CW.seq ?_
  refine CW.seq ?_
  refine CW.reg [0, 1, 2] rfl ?_   -- 2, binpoly.go:50
  refine s_mv 8 rfl rfl ?_
  refine s_len 9 rfl rfl ?_
  refine s_mv 10 rfl rfl ?_
  refine SX.next ?_
  refine CW.block ?_
  refine CW.loop (G := Nat × Option Addr × Nat) (fun q => [(1, .func (.func 61) #[] #[]), (5, .slice q.2.1 (sumY (blAt bs) q.1).length q.2.2), (8, .slice A bs.length c), (9, .int .i64 (bs.length : Nat)), (10, .int .i64 (q.1 : Nat))]) (fun q => Sto w [own 5 1 q.2.1 (sumY (blAt bs) q.1).length q.2.2 (nats .u8 (sumY (blAt bs) q.1))]) (fun q => q.1 ≤ bs.length ∧ (sumY (blAt bs) q.1).length ≤ q.2.2) (fun q => bs.length - q.1) (0, none, 0) ⟨rfl, rfl, rfl, rfl, rfl, trivial⟩ (fun _ h => h.begin_ _ 1) ⟨Nat.zero_le _, Nat.le_refl 0⟩ ?_
  rintro ⟨i, q⟩ ⟨hi, hq⟩
  simp only at hi hq
  dsimp only
  refine CW.seq ?_
  refine CW.reg [0] rfl ?_   -- 3, binpoly.go:50
  refine s_lt 11 rfl rfl rfl rfl ?_
  refine SX.next ?_
  refine CW.seq ?_
  refine CW.test rfl (fun hc => ?_) (fun hc => ?_)
  · skip
    obtain ⟨b, hbi⟩ : ∃ b, bs[i]? = some b := ⟨_, List.getElem?_eq_getElem (by omega)⟩
    obtain ⟨hb1, hb2, hb3, hb4⟩ := hb b (List.mem_of_getElem? hbi)
    have hcell : (bs.map BlG.hdr)[i * 1]? = some (BlG.hdr b) := by rw [Nat.mul_one, List.getElem?_map, hbi]; rfl
    have hsb := sumF_b1 (f := blAt bs) (fun j => bl_b1 _) i
    have hbl : bl (sumY (blAt bs) i) = sumF (blAt bs) i := by rw [sumY_eq]; exact bl_bys hsb
    have hlt8 : ∀ x ∈ (sumY (blAt bs) i), x < 256 := by rw [sumY_eq]; exact (bys_tr hsb.le).lt
    have hsl := sumF_le (f := blAt bs) (K := 8000000) (i := i) (fun j hj => by
      obtain ⟨b2, hb2⟩ : ∃ b, bs[j]? = some b := ⟨_, List.getElem?_eq_getElem (by omega)⟩
      rw [blAt_some hb2]
      have h1 := bl_len b2.l
      have h2 := (hb b2 (List.mem_of_getElem? hb2)).bd
      omega)
    have hbyl := bys_len (sumF (blAt bs) i)
    rw [← sumY_eq] at hbyl
    have hnx : sumY (blAt bs) (i + 1) = bys (addP (sumF (blAt bs) i) (bl b.l)) := by rw [← blAt_some hbi]; rfl
    refine CW.skip ?_
    refine KN.code ?_
    refine CW.seq ?_
    refine CW.block ?_
    refine CW.seq ?_
    refine CW.reg [0, 1, 2] rfl ?_   -- 4, binpoly.go:50
    refine s_iaV 12 i (fun w hw => hw.old ha) rfl rfl rfl rfl (by omega) ?_
    refine s_ldV 13 (v := .slice b.A b.l.length b.c) (fun w hw => hw.old ha) rfl rfl hcell (by omega) ?_
    refine s_as 7 rfl rfl ?_
    refine SX.next ?_
    refine CW.reg [0, 1, 2, 3, 4] rfl ?_   -- 5, binpoly.go:51
    refine s_mv 14 rfl rfl ?_
    refine s_mv 15 rfl rfl ?_
    refine s_mv 16 rfl rfl ?_
    refine s_call 17 rfl rfl rfl rfl (fun w hw => by have := badd_spec q.1 (sumY (blAt bs) i).length q.2 (sumY (blAt bs) i) b.A b.l.length b.c b.l w ((hw.has (i := 0) rfl).of_own) hlt8 (by omega) hq (hw.old hb1) hb2 (by omega) hb4; rw [hbl, ← hnx] at this; exact this) (fun _ _ => trivial) (fun q2 hq2 => ?_)
    refine s_as 5 rfl rfl ?_
    refine SX.end_ ?_
    refine KN.blk ?_
    refine KN.code ?_
    refine CW.reg [0, 1] rfl ?_   -- 6, binpoly.go:50
    refine s_add 18 rfl rfl rfl (r := ((i + 1 : Nat) : Int)) (w64 (by omega)) ?_
    refine s_mv 10 rfl rfl ?_
    refine SX.end_ ?_
    exact KN.back (i + 1, q2) ⟨rfl, rfl, rfl, rfl, rfl, trivial⟩ (fun _ h => h.pick [0] rfl) ⟨by simp only; omega, hq2⟩ (by simp only; omega)
  · skip
    obtain rfl : i = bs.length := by omega
    refine CW.exit rfl ?_
    refine KN.code ?_
    refine CW.seq ?_
    refine CW.reg [0, 1] rfl ?_   -- 7, binpoly.go:53
    refine s_mv 19 rfl rfl ?_
    refine s_as 4 rfl rfl ?_
    refine SX.next ?_
    refine CW.ret ?_
    exact KN.ret (rs := [.tmp 4]) Tryd.results139 rfl (fun w hw => ⟨q, rfl, hq, hw⟩)
end Go.Proofs.YtompcfingkoldaaDoor
end
section
/- The contracts of binpoly.Of. Conditions: the exponents are read where they lie. -/
namespace Go.Proofs.YtompcfingkoldaaDoor
open Go Go.Lib Go.Sx Go.Fm
set_option maxRecDepth 100000
/-- x to the number at place j. -/
def eX (l : List Int) (j : Nat) : List Nat := xP (l.getD j 0).toNat
theorem eX_b1 (l : List Int) (j : Nat) : B1 (eX l j) := xP_b1 _
/-- What Of's loop keeps: the newest first. -/
structure OfG (l : List Int) (z : Nat × (Option Addr × Nat) × List BlG) : Prop where
  le : z.1 ≤ l.length
  rng : ∀ j, j < z.1 → 0 ≤ l.getD j 0 ∧ l.getD j 0 ≤ 2048
  len : z.2.2.length = z.1
  row : ∀ j, j < z.1 → (z.2.2.reverse.getD j ⟨none, 0, []⟩).l = bys (eX l j)
  cap : ∀ b ∈ z.2.2, b.l.length ≤ b.c
  byt : ∀ b ∈ z.2.2, ∃ k, k ≤ 2048 ∧ b.l = bys (xP k)
theorem OfG.start (l : List Int) : OfG l (0, (none, 0), []) := ⟨Nat.zero_le _, fun j h => by simp at h, rfl, fun j h => by simp at h, fun b h => by simp at h, fun b h => by simp at h⟩
theorem OfG.next {l : List Int} {i k : Nat} {A A2 : Option Addr × Nat} {rs : List BlG} {q : Option Addr × Nat} (h : OfG l (i, A, rs)) (hi : i < l.length) (hk : l.getD i 0 = (k : Nat)) (hk2 : k ≤ 2048) (hq : (bys (xP k)).length ≤ q.2) : OfG l (i + 1, A2, ⟨q.1, q.2, bys (xP k)⟩ :: rs) := by
  obtain ⟨h1, h2, h3, h4, h5, h6⟩ := h
  simp only at h1 h2 h3 h4 h5 h6
  refine ⟨hi, fun j hj => ?_, by simp only [List.length_cons]; omega, fun j hj => ?_, fun b hb => ?_, fun b hb => ?_⟩
  · simp only at hj
    by_cases h : j = i
    · subst h; rw [hk]; omega
    · exact h2 j (by omega)
  · simp only at hj ⊢
    rw [List.reverse_cons, List.getD_eq_getElem?_getD]
    by_cases h : j = i
    · subst h
      rw [List.getElem?_append_right (by simp; omega)]
      simp only [List.length_reverse, h3, Nat.sub_self, List.getElem?_cons_zero, Option.getD_some]
      unfold eX
      rw [hk]
      rfl
    · rw [List.getElem?_append_left (by simp; omega), ← List.getD_eq_getElem?_getD]
      exact h4 j (by omega)
  · rcases List.mem_cons.1 hb with rfl | hb
    · exact hq
    · exact h5 b hb
  · rcases List.mem_cons.1 hb with rfl | hb
    · exact ⟨k, hk2, rfl⟩
    · exact h6 b hb
theorem sumY_congr {f g : Nat → List Nat} {i : Nat} (h : ∀ j, j < i → f j = g j) : sumY f i = sumY g i := by rw [sumY_eq, sumY_eq, sumF_congr h]
theorem OfG.done {l : List Int} {A : Option Addr × Nat} {rs : List BlG} (h : OfG l (l.length, A, rs)) : sumY (blAt rs.reverse) l.length = sumY (eX l) l.length :=
  sumY_congr (fun j hj => by
    unfold blAt
    rw [h.row j hj, bl_bys (eX_b1 l j)])
theorem rev_has {rs : List BlG} {b : BlG} (h : b ∈ rs.reverse) : ∃ k : Nat, (rs.map ownB)[k]? = some (ownB b) := by
  obtain ⟨k, hk⟩ := List.getElem?_of_mem (List.mem_reverse.1 h)
  exact ⟨k, by rw [List.getElem?_map, hk]; rfl⟩

theorem of_spec (A : Option Addr) (n c : Nat) (l : List Int) (w : World) (ha : Has (sl 1 A n (ints .i64 l)) w) (hn : n ≤ 1000000) (hr : ∀ j, j < l.length → 0 ≤ l.getD j 0 ∧ l.getD j 0 ≤ 2048) : SpecBE Tryd.prog 67 [.slice A n c] w (sumY (eX l) l.length) := by
  have hla := ints_len ha
  subst hla
  refine spec_of Tryd.func67 rfl Tryd.ntmps67 rfl ?_
  refine CW.seq ?_
  refine CW.reg [0, 1] rfl ?_   -- 0, binpoly.go:36
  refine s_as 2 rfl rfl ?_
  refine s_as 3 rfl rfl ?_
  refine SX.next ?_
  refine CW.seq ?_
  refine CW.reg [0] rfl ?_   -- 1, binpoly.go:37
  refine s_as 4 rfl rfl ?_
  refine SX.next ?_
  refine CW.seq ?_
  refine CW.seq ?_
  refine CW.reg [0, 1, 2] rfl ?_   -- 2, binpoly.go:38
  refine s_mv 7 rfl rfl ?_
  refine s_len 8 rfl rfl ?_
  refine s_mv 9 rfl rfl ?_
  refine SX.next ?_
  refine CW.block ?_
  refine CW.loop (G := Nat × (Option Addr × Nat) × List BlG) (fun z => [(4, .slice z.2.1.1 z.1 z.2.1.2), (7, .slice A l.length c), (8, .int .i64 (l.length : Nat)), (9, .int .i64 (z.1 : Nat))]) (fun z => Sto w (own 46 1 z.2.1.1 z.1 z.2.1.2 (z.2.2.reverse.map BlG.hdr) :: z.2.2.map ownB)) (OfG l) (fun z => l.length - z.1) (0, (none, 0), []) ⟨rfl, rfl, rfl, rfl, trivial⟩ (fun _ h => h.begin_ _ 1) (OfG.start l) ?_
  rintro ⟨i, q, rs⟩ hz
  have hle := hz.le
  have hrl := hz.len
  simp only at hle hrl
  dsimp only
  refine CW.seq ?_
  refine CW.reg [0] rfl ?_   -- 3, binpoly.go:38
  refine s_lt 10 rfl rfl rfl rfl ?_
  refine SX.next ?_
  refine CW.seq ?_
  refine CW.test rfl (fun hc => ?_) (fun hc => ?_)
  · skip
    have hi : i < l.length := by omega
    obtain ⟨k, hk⟩ := Int.eq_ofNat_of_zero_le (hr i hi).1
    have hk2 : k ≤ 2048 := by have := (hr i hi).2; omega
    refine CW.skip ?_
    refine KN.code ?_
    refine CW.seq ?_
    refine CW.block ?_
    refine CW.seq ?_
    refine CW.reg [0, 1, 2] rfl ?_   -- 4, binpoly.go:38
    refine s_iaV 11 i (fun w hw => hw.old ha) rfl rfl rfl rfl (by omega) ?_
    refine s_ldV 12 (v := .int .i64 (k : Nat)) (fun w hw => hw.old ha) rfl rfl (by rw [Nat.mul_one, intsAt hi, hk]) (by omega) ?_
    refine s_as 6 rfl rfl ?_
    refine SX.next ?_
    refine CW.seq ?_
    refine CW.seq ?_
    refine CW.reg [0, 1, 2, 3, 4, 5] rfl ?_   -- 5, binpoly.go:39
    refine s_mv 13 rfl rfl ?_
    refine s_lt 14 rfl rfl rfl (decide_eq_false (by omega)) ?_
    refine s_mv 15 rfl rfl ?_
    refine s_mv 16 rfl rfl ?_
    refine s_gt 17 rfl rfl rfl (decide_eq_false (by omega)) ?_
    refine s_pickF 18 rfl rfl rfl ?_
    refine SX.next ?_
    refine CW.condF rfl ?_
    refine CW.skip ?_
    refine KN.code ?_
    refine CW.reg [0, 1, 2, 3, 4, 5] rfl ?_   -- 7, binpoly.go:42
    refine s_mv 20 rfl rfl ?_
    refine s_mv 21 rfl rfl ?_
    refine s_call 22 rfl rfl rfl rfl (fun w hw => one_spec k w (by omega)) (fun _ _ => trivial) (fun q22 hq22 => ?_)
    refine s_bsl 23 rfl rfl (cells := #[.slice q22.1 (bys (xP k)).length q22.2]) (by kernel_rfl) rfl (fun _ _ => trivial) (fun gb => ?_)
    refine s_app 24 2 rfl rfl rfl rfl (ys := [.slice q22.1 (bys (xP k)).length q22.2]) (fun w hw => Has.cong ((hw.has (i := 0) rfl).blk_sl (m := 1) rfl) rfl) rfl rfl (by omega) (by unfold maxLen; omega) (by omega) (fun _ _ _ _ => trivial) (fun A2 c2 hc2 => ?_)
    refine s_as 4 rfl rfl ?_
    refine SX.end_ ?_
    refine KN.blk ?_
    refine KN.code ?_
    refine CW.reg [0, 1] rfl ?_   -- 8, binpoly.go:38
    refine s_add 25 rfl rfl rfl (r := ((i + 1 : Nat) : Int)) (w64 (by omega)) ?_
    refine s_mv 9 rfl rfl ?_
    refine SX.end_ ?_
    exact KN.back (i + 1, (A2, c2), ⟨q22.1, q22.2, (bys (xP k))⟩ :: rs) ⟨rfl, rfl, rfl, rfl, trivial⟩ (fun _ h => by simp only [List.reverse_cons, List.map_append]; exact h.tail.swp) (hz.next hi hk hk2 hq22) (by simp only; omega)
  · skip
    obtain rfl : i = l.length := by omega
    refine CW.exit rfl ?_
    refine KN.code ?_
    refine CW.seq ?_
    refine CW.reg [0, 1, 2, 3] rfl ?_   -- 9, binpoly.go:44
    refine s_mv 26 rfl rfl ?_
    refine s_call 27 rfl rfl rfl rfl (fun w hw => by have := fold_spec q.1 l.length q.2 rs.reverse w ((hw.has (i := 0) rfl).of_own) (fun b hb => by
      obtain ⟨k, hk⟩ := rev_has hb
      obtain ⟨k2, hk2, hbl⟩ := hz.byt b (List.mem_reverse.1 hb)
      have hx := xP_len k2
      exact ⟨(hw.has (i := k + 1) (by rw [List.getElem?_cons_succ]; exact hk)).of_own, by rw [hbl]; exact (bys_tr (xP_b1 k2).le).lt, by rw [hbl]; omega, hz.cap b (List.mem_reverse.1 hb)⟩) hn; rw [List.length_reverse, hrl, hz.done] at this; exact this) (fun _ _ => trivial) (fun q3 hq3 => ?_)
    refine s_as 2 rfl rfl ?_
    refine s_as 3 rfl rfl ?_
    refine SX.next ?_
    refine CW.ret ?_
    exact KN.ret (rs := [.tmp 2, .tmp 3]) Tryd.results67 rfl (fun w hw => ⟨q3, rfl, hq3, hw.pick [0] rfl⟩)

theorem of_bad (A : Option Addr) (n c : Nat) (l : List Int) (e : Nat → Addr) (w : World) (ha : Has (sl 1 A n (ints .i64 l)) w) (hn : n ≤ 1000000) (he : Er e w 1) (jb : Nat) (hjb : jb < l.length) (hbad : ¬ (0 ≤ l.getD jb 0 ∧ l.getD jb 0 ≤ 2048)) : Spec1 Tryd.prog 67 [.slice A n c] w (errRes e 1) := by
  have hla := ints_len ha
  subst hla
  refine spec_of Tryd.func67 rfl Tryd.ntmps67 rfl ?_
  refine CW.seq ?_
  refine CW.reg [0, 1] rfl ?_   -- 0, binpoly.go:36
  refine s_as 2 rfl rfl ?_
  refine s_as 3 rfl rfl ?_
  refine SX.next ?_
  refine CW.seq ?_
  refine CW.reg [0] rfl ?_   -- 1, binpoly.go:37
  refine s_as 4 rfl rfl ?_
  refine SX.next ?_
  refine CW.seq ?_
  refine CW.seq ?_
  refine CW.reg [0, 1, 2] rfl ?_   -- 2, binpoly.go:38
  refine s_mv 7 rfl rfl ?_
  refine s_len 8 rfl rfl ?_
  refine s_mv 9 rfl rfl ?_
  refine SX.next ?_
  refine CW.block ?_
  refine CW.loop (G := Nat × (Option Addr × Nat) × List BlG) (fun z => [(4, .slice z.2.1.1 z.1 z.2.1.2), (7, .slice A l.length c), (8, .int .i64 (l.length : Nat)), (9, .int .i64 (z.1 : Nat))]) (fun z => Sto w (own 46 1 z.2.1.1 z.1 z.2.1.2 (z.2.2.reverse.map BlG.hdr) :: z.2.2.map ownB)) (OfG l) (fun z => l.length - z.1) (0, (none, 0), []) ⟨rfl, rfl, rfl, rfl, trivial⟩ (fun _ h => h.begin_ _ 1) (OfG.start l) ?_
  rintro ⟨i, q, rs⟩ hz
  have hle := hz.le
  have hrl := hz.len
  simp only at hle hrl
  dsimp only
  refine CW.seq ?_
  refine CW.reg [0] rfl ?_   -- 3, binpoly.go:38
  refine s_lt 10 rfl rfl rfl rfl ?_
  refine SX.next ?_
  refine CW.seq ?_
  refine CW.test rfl (fun hc => ?_) (fun hc => ?_)
  · skip
    have hi : i < l.length := by omega
    refine CW.skip ?_
    refine KN.code ?_
    refine CW.seq ?_
    refine CW.block ?_
    refine CW.seq ?_
    refine CW.reg [0, 1, 2] rfl ?_   -- 4, binpoly.go:38
    refine s_iaV 11 i (fun w hw => hw.old ha) rfl rfl rfl rfl (by omega) ?_
    refine s_ldV 12 (fun w hw => hw.old ha) rfl rfl (by rw [Nat.mul_one]; exact intsAt hi) (by omega) ?_
    refine s_as 6 rfl rfl ?_
    refine SX.next ?_
    refine CW.seq ?_
    refine CW.seq ?_
    refine CW.reg [0, 1, 2, 3, 4, 5] rfl ?_   -- 5, binpoly.go:39
    refine s_mv 13 rfl rfl ?_
    refine s_lt 14 rfl rfl rfl rfl ?_
    refine s_mv 15 rfl rfl ?_
    refine SX.bool 15 rfl (fun hb => ?_) (fun hb => ?_)
    · skip
      skip
      refine SX.skip rfl ?_
      refine SX.skip rfl ?_
      refine s_pickT 18 rfl rfl rfl ?_
      refine SX.next ?_
      refine CW.condT rfl ?_
      refine CW.seq ?_
      refine CW.regD (.st true 0 (.st true 1 (.st true 2 .done))) (Sto w []) mixed (by kernel_rfl) (fun _ h => h.drew) (fun _ h => h.dropR) ?_
      refine s_ldS 19 rfl rfl (fun _ h => h.cell he) ?_
      refine s_as 2 rfl rfl ?_
      refine s_as 3 rfl rfl ?_
      refine SX.next ?_
      refine CW.ret ?_
      exact KN.ret (rs := [.tmp 2, .tmp 3]) Tryd.results67 rfl (fun w hw => ⟨rfl, hw.dropR⟩)
    · skip
      replace hb := of_decide_eq_false hb
      refine s_mv 16 rfl rfl ?_
      refine s_gt 17 rfl rfl rfl rfl ?_
      refine s_pickF 18 rfl rfl rfl ?_
      refine SX.next ?_
      refine CW.test rfl (fun hc2 => ?_) (fun hc2 => ?_)
      · skip
        refine CW.seq ?_
        refine CW.regD (.st true 0 (.st true 1 (.st true 2 .done))) (Sto w []) mixed (by kernel_rfl) (fun _ h => h.drew) (fun _ h => h.dropR) ?_
        refine s_ldS 19 rfl rfl (fun _ h => h.cell he) ?_
        refine s_as 2 rfl rfl ?_
        refine s_as 3 rfl rfl ?_
        refine SX.next ?_
        refine CW.ret ?_
        exact KN.ret (rs := [.tmp 2, .tmp 3]) Tryd.results67 rfl (fun w hw => ⟨rfl, hw.dropR⟩)
      · skip
        obtain ⟨k, hk⟩ := Int.eq_ofNat_of_zero_le (show 0 ≤ l.getD i 0 by omega)
        have hk2 : k ≤ 2048 := by omega
        refine CW.skip ?_
        refine KN.code ?_
        refine CW.reg [0, 1, 2, 3, 4, 5] rfl ?_   -- 7, binpoly.go:42
        refine s_mv 20 rfl rfl ?_
        refine s_mv 21 (v := .int .i64 (k : Nat)) rfl (by rw [← hk]; rfl) ?_
        refine s_call 22 rfl rfl rfl rfl (fun w hw => one_spec k w (by omega)) (fun _ _ => trivial) (fun q22 hq22 => ?_)
        refine s_bsl 23 rfl rfl (cells := #[.slice q22.1 (bys (xP k)).length q22.2]) (by kernel_rfl) rfl (fun _ _ => trivial) (fun gb => ?_)
        refine s_app 24 2 rfl rfl rfl rfl (ys := [.slice q22.1 (bys (xP k)).length q22.2]) (fun w hw => Has.cong ((hw.has (i := 0) rfl).blk_sl (m := 1) rfl) rfl) rfl rfl (by omega) (by unfold maxLen; omega) (by omega) (fun _ _ _ _ => trivial) (fun A2 c2 hc2 => ?_)
        refine s_as 4 rfl rfl ?_
        refine SX.end_ ?_
        refine KN.blk ?_
        refine KN.code ?_
        refine CW.reg [0, 1] rfl ?_   -- 8, binpoly.go:38
        refine s_add 25 rfl rfl rfl (r := ((i + 1 : Nat) : Int)) (w64 (by omega)) ?_
        refine s_mv 9 rfl rfl ?_
        refine SX.end_ ?_
        exact KN.back (i + 1, (A2, c2), ⟨q22.1, q22.2, (bys (xP k))⟩ :: rs) ⟨rfl, rfl, rfl, rfl, trivial⟩ (fun _ h => by simp only [List.reverse_cons, List.map_append]; exact h.tail.swp) (hz.next hi hk hk2 hq22) (by simp only; omega)
  · skip
    exact absurd (hz.rng jb (by simp only; omega)) hbad
end Go.Proofs.YtompcfingkoldaaDoor
end
section
/- The contracts of the document's bits and exponents, and of the chapter's examples. Conditions: the lists are read where they lie. -/
namespace Go.Proofs.YtompcfingkoldaaDoor
open Go Go.Lib Go.Sx Go.Fm
set_option maxRecDepth 100000
/-- 1 where a number is not 0. -/
def nzF (l : List Int) (j : Nat) : Nat := if l.getD j 0 = 0 then 0 else 1
theorem nzF_two (l : List Int) (j : Nat) : nzF l j < 2 := by unfold nzF; split <;> omega
/-- The polynomial of the first i. -/
def nzP (l : List Int) (i : Nat) : List Nat := pl i (nzF l)
theorem cf_nzP (l : List Int) (i j : Nat) : cf (nzP l i) j = if j < i then nzF l j else 0 := cf_pl _ _ _
theorem nzP_b1 (l : List Int) (i : Nat) : B1 (nzP l i) := ⟨pl_tr (fun j => Nat.lt_trans (nzF_two l j) (by decide)), fun j => by rw [cf_nzP]; split; exact nzF_two l j; omega⟩
theorem nzP_len (l : List Int) (i : Nat) : (nzP l i).length ≤ i := by
  unfold nzP pl
  rw [trim_length]
  simpa using tl_le ((List.range i).map (nzF l))
theorem nzP_same {l : List Int} {i : Nat} (h : l.getD i 0 = 0) : nzP l (i + 1) = nzP l i := by
  refine pl_eq (fun j => ?_)
  by_cases hj : j = i
  · subst hj
    rw [if_pos (by omega), if_neg (by omega)]
    unfold nzF
    rw [if_pos h]
  · by_cases h2 : j < i
    · rw [if_pos (by omega), if_pos h2]
    · rw [if_neg (by omega), if_neg h2]
theorem or_two (x s t : Nat) : ((x ||| 2 ^ s) >>> t) % 2 = if t = s then 1 else (x >>> t) % 2 := by
  rw [shr_two, shr_two, Nat.testBit_or, Nat.testBit_two_pow]
  by_cases h : t = s
  · subst h; rw [if_pos rfl, decide_eq_true rfl, Bool.or_true]; rfl
  · rw [if_neg h, decide_eq_false (fun e => h e.symm), Bool.or_false]
theorem bitN_or {L : List Nat} {i : Nat} (hi : i / 8 < L.length) (j : Nat) : bitN (L.set (i / 8) (cf L (i / 8) ||| 2 ^ (i % 8))) j = if j = i then 1 else bitN L j := by
  unfold bitN
  rw [cf_set hi]
  by_cases h : j / 8 = i / 8
  · rw [if_pos h, or_two, ← h]
    by_cases h2 : j = i
    · subst h2; rw [if_pos rfl, if_pos rfl]
    · rw [if_neg (by omega), if_neg h2]
  · rw [if_neg h, if_neg (fun e => h (by rw [e]))]
theorem or8 {x s : Nat} (hx : x < 256) (hs : s < 8) : x ||| 2 ^ s < 256 := Nat.or_lt_two_pow (n := 8) hx (Nat.pow_lt_pow_right (by omega) hs)
/-- One more bit is laid. -/
theorem nzP_set {l : List Int} {i : Nat} {L : List Nat} (h0 : l.getD i 0 ≠ 0) (hl : ∀ x ∈ L, x < 256) (hlen : L.length = i / 8 + 1) (hb : ∀ j, bitN L j = bitN (bys (nzP l i)) j) : L.set (i / 8) (cf L (i / 8) ||| 2 ^ (i % 8)) = bys (nzP l (i + 1)) := by
  have hlt : ∀ x ∈ L.set (i / 8) (cf L (i / 8) ||| 2 ^ (i % 8)), x < 256 := set_lt hl (or8 (cf_lt8 hl _) (Nat.mod_lt _ (by omega)))
  have ht : trim (L.set (i / 8) (cf L (i / 8) ||| 2 ^ (i % 8))) = L.set (i / 8) (cf L (i / 8) ||| 2 ^ (i % 8)) := by
    refine trim_of ?_
    have h1 := tl_le (L.set (i / 8) (cf L (i / 8) ||| 2 ^ (i % 8)))
    have h2 : (L.set (i / 8) (cf L (i / 8) ||| 2 ^ (i % 8))).length = i / 8 + 1 := by rw [List.length_set, hlen]
    refine Nat.le_antisymm h1 (Nat.le_of_not_lt fun hlt => ?_)
    have h3 := cf_hi _ (i / 8) (show tl (L.set (i / 8) (cf L (i / 8) ||| 2 ^ (i % 8))) ≤ i / 8 by omega)
    have h4 := bitN_or (L := L) (i := i) (by omega) i
    rw [if_pos rfl, bitN_zero h3] at h4
    cases h4
  rw [← ht]
  refine bys_of hlt (nzP_b1 l (i + 1)) (fun j => ?_)
  rw [bitN_or (by omega), hb, bitN_bys (nzP_b1 l i).le, cf_nzP, cf_nzP]
  by_cases h : j = i
  · subst h
    rw [if_pos rfl, if_pos (by omega)]
    unfold nzF
    rw [if_neg h0]
  · rw [if_neg h]
    by_cases h2 : j < i
    · rw [if_pos h2, if_pos (by omega)]
    · rw [if_neg h2, if_neg (by omega)]
theorem bitN_app (L : List Nat) (j : Nat) : bitN (L ++ [0]) j = bitN L j := by
  have : cf (L ++ [0]) (j / 8) = cf L (j / 8) := by
    unfold cf
    simp only [List.getD_eq_getElem?_getD]
    by_cases h : j / 8 < L.length
    · rw [List.getElem?_append_left h]
    · rw [List.getElem?_append_right (by omega), List.getElem?_eq_none (show L.length ≤ j / 8 by omega)]
      by_cases h2 : j / 8 - L.length = 0
      · rw [h2]; rfl
      · rw [List.getElem?_eq_none (by simp; omega)]
  unfold bitN
  rw [this]
structure BitG (l : List Int) (i : Nat) (L : List Nat) : Prop where
  len : L.length ≤ i / 8 + 1
  lt : ∀ x ∈ L, x < 256
  bit : ∀ j, bitN L j = bitN (bys (nzP l i)) j
theorem BitG.start (l : List Int) (i : Nat) : BitG l i (bys (nzP l i)) := ⟨by have := bys_len (nzP l i); have := nzP_len l i; omega, (bys_tr (nzP_b1 l i).le).lt, fun _ => rfl⟩
theorem BitG.next {l : List Int} {i : Nat} {L : List Nat} (h : BitG l i L) (hl : L.length ≤ i / 8) : BitG l i (L ++ [0]) := ⟨by simp; omega, fun x hx => by
  rcases List.mem_append.1 hx with hx | hx
  · exact h.lt x hx
  · simp at hx; omega, fun j => by rw [bitN_app, h.bit]⟩
theorem nats8_snoc (a : List Nat) : nats .u8 a ++ [.int .u8 0] = nats .u8 (a ++ [0]) := by simp [nats]

theorem rbits_spec (A : Option Addr) (n c : Nat) (l : List Int) (w : World) (ha : Has (sl 1 A n (ints .i64 l)) w) (hn : n ≤ 1000000) : SpecB Tryd.prog 146 [.slice A n c] w (bys (nzP l l.length)) := by
  have hla := ints_len ha
  subst hla
  refine spec_of Tryd.func146 rfl Tryd.ntmps146 rfl ?_
  refine CW.seq ?_
  refine CW.reg [0] rfl ?_   -- 0, binpoly.go:25
  refine s_as 2 rfl rfl ?_
  refine SX.next ?_
  refine CW.seq ?_
  refine CW.reg [0] rfl ?_   -- 1, binpoly.go:26
  refine s_as 3 rfl rfl ?_
  refine SX.next ?_
  refine CW.seq ?_
  refine CW.seq ?_
  refine CW.reg [0] rfl ?_   -- 2, binpoly.go:27
  refine s_as 4 rfl rfl ?_
  refine SX.next ?_
  refine CW.block ?_
  refine CW.loop (G := Nat × List Nat × (Option Addr × Nat)) (fun z => [(0, .slice A l.length c), (3, .slice z.2.2.1 z.2.1.length z.2.2.2), (4, .int .i64 (z.1 : Nat))]) (fun z => Sto w [own 5 1 z.2.2.1 z.2.1.length z.2.2.2 (nats .u8 z.2.1)]) (fun z => (z.1 ≤ l.length ∧ z.2.1 = bys (nzP l z.1)) ∧ z.2.1.length ≤ z.2.2.2) (fun z => l.length - z.1) (0, [], (none, 0)) ⟨rfl, rfl, rfl, trivial⟩ (fun _ h => h.begin_ _ 1) ⟨⟨Nat.zero_le _, bys_nil.symm⟩, Nat.le_refl _⟩ ?_
  rintro ⟨i, L, q⟩ ⟨⟨hi, hL⟩, hq⟩
  simp only at hi hL hq
  dsimp only
  refine CW.seq ?_
  refine CW.seq ?_
  refine CW.reg [0, 1, 2, 3] rfl ?_   -- 3, binpoly.go:27
  refine s_mv 5 rfl rfl ?_
  refine s_mv 6 rfl rfl ?_
  refine s_len 7 rfl rfl ?_
  refine s_lt 8 rfl rfl rfl rfl ?_
  refine SX.next ?_
  refine CW.test rfl (fun hc => ?_) (fun hc => ?_)
  · skip
    refine CW.skip ?_
    refine KN.code ?_
    refine CW.seq ?_
    refine CW.block ?_
    refine CW.seq ?_
    refine CW.seq ?_
    refine CW.reg [0, 1, 2, 3, 4] rfl ?_   -- 5, binpoly.go:28
    refine s_mv 11 rfl rfl ?_
    refine s_mv 12 rfl rfl ?_
    refine s_iaV 13 i (fun w hw => hw.old ha) rfl rfl rfl rfl (by omega) ?_
    refine s_ldV 14 (fun w hw => hw.old ha) rfl rfl (by rw [Nat.mul_one]; exact intsAt (by omega)) (by omega) ?_
    refine s_eq 15 rfl rfl rfl rfl ?_
    refine SX.next ?_
    refine CW.test rfl (fun hc => ?_) (fun hc => ?_)
    · skip
      have hnx := nzP_same (l := l) (i := i) (by assumption)
      refine CW.exit rfl ?_
      refine KN.code ?_
      refine CW.reg [0, 1, 2] rfl ?_   -- 4, binpoly.go:27
      refine s_mv 9 rfl rfl ?_
      refine s_add 10 rfl rfl rfl (r := ((i + 1 : Nat) : Int)) (w64 (by omega)) ?_
      refine s_as 4 rfl rfl ?_
      refine SX.end_ ?_
      exact KN.back (i + 1, L, q) ⟨rfl, rfl, rfl, trivial⟩ (fun _ h => h) ⟨⟨by simp only; omega, by simp only; rw [hnx]; exact hL⟩, hq⟩ (by simp only; omega)
    · skip
      have h0 : l.getD i 0 ≠ 0 := by assumption
      have hst := BitG.start l i
      rw [← hL] at hst
      refine CW.skip ?_
      refine KN.code ?_
      refine CW.seq ?_
      refine CW.block ?_
      refine CW.loop (G := List Nat × (Option Addr × Nat)) (fun y => [(0, .slice A l.length c), (3, .slice y.2.1 y.1.length y.2.2), (4, .int .i64 (i : Nat))]) (fun y => Sto w [own 5 1 y.2.1 y.1.length y.2.2 (nats .u8 y.1)]) (fun y => BitG l i y.1 ∧ y.1.length ≤ y.2.2) (fun y => i / 8 + 1 - y.1.length) (L, q) ⟨rfl, rfl, rfl, trivial⟩ (fun _ h => h) ⟨hst, hq⟩ ?_
      rintro ⟨L2, q2⟩ ⟨hg, hq2⟩
      have hgl := hg.len
      simp only at hg hq2 hgl
      dsimp only
      refine CW.seq ?_
      refine CW.seq ?_
      refine CW.reg [0, 1, 2, 3, 4] rfl ?_   -- 6, binpoly.go:31
      refine s_mv 16 rfl rfl ?_
      refine s_len 17 rfl rfl ?_
      refine s_mv 18 rfl rfl ?_
      refine s_quo 19 rfl rfl rfl (by omega) (quo8 i (by omega)) ?_
      refine s_le 20 rfl rfl rfl rfl ?_
      refine SX.next ?_
      refine CW.test rfl (fun hc => ?_) (fun hc => ?_)
      · skip
        refine CW.skip ?_
        refine KN.code ?_
        refine CW.block ?_
        refine CW.reg [0, 1, 2, 3] rfl ?_   -- 7, binpoly.go:32
        refine s_mv 21 rfl rfl ?_
        refine s_bsl 22 rfl rfl (cells := #[.int .u8 0]) (by kernel_rfl) rfl (fun _ _ => trivial) (fun gb => ?_)
        refine s_app 23 1 rfl rfl rfl rfl (ys := [.int .u8 0]) (fun w hw => Has.cong ((hw.has (i := 0) rfl).blk_sl (m := 1) rfl) rfl) rfl rfl (by omega) (by unfold maxLen; omega) (by omega) (fun _ _ _ _ => trivial) (fun A2 c2 hc2 => ?_)
        refine s_as 3 rfl rfl ?_
        refine SX.end_ ?_
        refine KN.blk ?_
        exact KN.back (L2 ++ [0], (A2, c2)) ⟨rfl, by simp only [List.length_append, List.length_singleton]; rfl, rfl, trivial⟩ (fun _ h => by simp only [List.length_append, List.length_singleton]; rw [← nats8_snoc]; exact h.pick [1] rfl) ⟨hg.next (by omega), by simp only [List.length_append, List.length_singleton]; exact hc2⟩ (by simp only [List.length_append, List.length_singleton]; omega)
      · skip
        have hle : L2.length = i / 8 + 1 := by omega
        have hset := nzP_set h0 hg.lt hle hg.bit
        refine CW.exit rfl ?_
        refine KN.code ?_
        refine CW.reg [0, 1, 2, 3, 4, 5, 6, 7, 8, 9, 10, 11, 12, 13, 14] rfl ?_   -- 8, binpoly.go:34
        refine s_mv 24 rfl rfl ?_
        refine s_mv 25 rfl rfl ?_
        refine s_quo 26 rfl rfl rfl (by omega) (quo8 i (by omega)) ?_
        refine s_mv 27 rfl rfl ?_
        refine s_mv 28 rfl rfl ?_
        refine s_quo 29 rfl rfl rfl (by omega) (quo8 i (by omega)) ?_
        refine s_iaO 30 0 (i / 8) rfl rfl rfl rfl rfl (by omega) ?_
        refine s_ldO 31 0 rfl rfl rfl (natsAt8 (by omega)) ?_
        refine s_mv 32 rfl rfl ?_
        refine s_rem 33 rfl rfl rfl (by omega) (tmod8 i) ?_
        refine s_conv 34 rfl rfl (wu64 (by omega)) ?_
        refine s_shl 35 rfl rfl rfl (by omega) (r := ((2 ^ (i % 8) : Nat) : Int)) (by rw [show (1 : Int) = ((1 : Nat) : Int) from rfl, shl_u8 (by omega), Nat.one_mul, Nat.mod_eq_of_lt (Nat.pow_lt_pow_right (n := 8) (by omega) (Nat.mod_lt _ (by omega)))]) ?_
        refine s_bit 36 rfl rfl rfl rfl (ibit_or_u8 (cf_lt8 hg.lt _) (Nat.pow_lt_pow_right (n := 8) (by omega) (Nat.mod_lt _ (by omega)))) ?_
        refine s_iaO 37 0 (i / 8) rfl rfl rfl rfl rfl (by omega) ?_
        refine s_stO 0 rfl rfl rfl rfl rfl (by omega) (fun _ _ => trivial) ?_
        refine SX.end_ ?_
        refine KN.blk ?_
        refine KN.code ?_
        refine CW.reg [0, 1, 2] rfl ?_   -- 4, binpoly.go:27
        refine s_mv 9 rfl rfl ?_
        refine s_add 10 rfl rfl rfl (r := ((i + 1 : Nat) : Int)) (w64 (by omega)) ?_
        refine s_as 4 rfl rfl ?_
        refine SX.end_ ?_
        exact KN.back (i + 1, L2.set (i / 8) (cf L2 (i / 8) ||| 2 ^ (i % 8)), q2) ⟨rfl, by simp only [List.length_set]; rfl, rfl, trivial⟩ (fun _ h => by simp only [List.length_set]; rw [← nats_set]; exact h) ⟨⟨by simp only; omega, hset⟩, by simp only [List.length_set]; exact hq2⟩ (by simp only; omega)
  · skip
    obtain rfl : i = l.length := by omega
    subst hL
    refine CW.exit rfl ?_
    refine KN.code ?_
    refine CW.seq ?_
    refine CW.reg [0, 1] rfl ?_   -- 9, binpoly.go:36
    refine s_mv 38 rfl rfl ?_
    refine s_as 2 rfl rfl ?_
    refine SX.next ?_
    refine CW.ret ?_
    exact KN.ret (rs := [.tmp 2]) Tryd.results146 rfl (fun w hw => ⟨q, rfl, hq, hw⟩)
end Go.Proofs.YtompcfingkoldaaDoor
end
section
/- The contracts of package binpoly: quotients and common divisors. Conditions: the lists are bytes, read where they lie. -/
namespace Go.Proofs.YtompcfingkoldaaDoor
open Go Go.Lib Go.Sx Go.Fm
set_option maxRecDepth 100000
/-- What the division's loop keeps. -/
structure BdG (p q : List Nat) (z : List Nat × List Nat) : Prop where
  l1 : z.1.length = p.length + 1
  b1 : ∀ x ∈ z.1, x < 256
  l2 : z.2.length = p.length + 1
  b2 : ∀ x ∈ z.2, x < 256
  le : (bl z.1).length ≤ (bl p).length
  lo : ∀ j, j + (bl q).length ≤ (bl z.1).length → cf (bl z.2) j = 0
  eq : addP (mulP 3 (bl z.2) (bl q)) (bl z.1) = bl p
theorem bl_app (p : List Nat) : bl (p ++ [0]) = bl p := (bl_b1 _).tr.ext (bl_b1 _).tr (fun j => by rw [cf_bl, cf_bl, bitN_app])
theorem bl_zeros (n : Nat) : bl (List.replicate n 0) = [] := (bl_b1 _).tr.nil_of (fun j => by rw [cf_bl, zeros_bit])
theorem app_lt {p : List Nat} (h : ∀ x ∈ p, x < 256) : ∀ x ∈ p ++ [0], x < 256 := fun x hx => by
  rcases List.mem_append.1 hx with hx | hx
  · exact h x hx
  · simp at hx; omega
theorem BdG.start {p : List Nat} (hp : ∀ x ∈ p, x < 256) (q : List Nat) : BdG p q (p ++ [0], List.replicate (p.length + 1) 0) := by
  refine ⟨by simp, app_lt hp, by simp, zeros_lt _, by simp only; rw [bl_app]; exact Nat.le_refl _, fun j _ => by simp only; rw [bl_zeros, cf_nil], ?_⟩
  simp only
  rw [bl_zeros, mulP_nil_l, nil_addP ok3 (bl_b1 _).tr, bl_app]
set_option maxHeartbeats 1600000 in
theorem BdG.next {p q L Q L2 : List Nat} {s : Nat} (h : BdG p q (L, Q)) (h0 : (bl q).length ≠ 0) (hs : s + (bl q).length = (bl L).length) (hs2 : s / 8 < Q.length)
    (h2 : L2.length = L.length ∧ (∀ x ∈ L2, x < 256) ∧ ∀ j, bitN L2 j = bitN L j ^^^ (if s ≤ j then bitN (trim q) (j - s) else 0)) :
    BdG p q (L2, Q.set (s / 8) (cf Q (s / 8) ||| 2 ^ (s % 8))) ∧ (bl L2).length < (bl L).length := by
  obtain ⟨k1, k2, k3, k4, k5, k6, k7⟩ := h
  simp only at k1 k2 k3 k4 k5 k6 k7
  have hq := bl_b1 q
  have hl := bl_b1 L
  have hQ := bl_b1 Q
  have eL : bl L2 = addP (bl L) (upP s (bl q)) := (bl_b1 _).tr.ext (addP_b1 hl (upP_b1 hq s)).tr (fun j => by
    rw [cf_bl, h2.2.2, cf_addP, cf_upP, cf_bl]
    congr 1
    split
    · rw [← cf_bl, bl_trim]
    · rfl)
  have eQ : bl (Q.set (s / 8) (cf Q (s / 8) ||| 2 ^ (s % 8))) = addP (bl Q) (xP s) := (bl_b1 _).tr.ext (addP_b1 hQ (xP_b1 s)).tr (fun j => by
    rw [cf_bl, bitN_or hs2, cf_addP, cf_xP]
    by_cases hj : j = s
    · subst hj
      rw [if_pos rfl, if_pos rfl, k6 j (by omega)]
      rfl
    · rw [if_neg hj, if_neg hj, Nat.xor_zero, cf_bl])
  have hlen : (bl L2).length ≤ (bl L).length - 1 := len_le_of (bl_b1 L2).tr (fun j hj => by
    rw [eL, cf_addP, cf_upP]
    by_cases he : j = (bl L).length - 1
    · subst he
      rw [hl.top (by omega), if_pos (by omega), show (bl L).length - 1 - s = (bl q).length - 1 by omega, hq.top h0]
      rfl
    · rw [cf_out (l := bl L) (by omega)]
      split
      · rw [cf_out (by omega)]; rfl
      · rfl)
  refine ⟨⟨by simp only; rw [h2.1, k1], h2.2.1, by simp only; rw [List.length_set, k3], set_lt k4 (or8 (cf_lt8 k4 _) (Nat.mod_lt _ (by omega))), by simp only; omega, fun j hj => ?_, ?_⟩, by omega⟩
  · simp only at hj ⊢
    rw [eQ, cf_addP, cf_xP, if_neg (by omega), k6 j (by omega)]
    rfl
  · simp only
    rw [eQ, eL, mulP_add_left ok3 hQ.tr (xP_b1 s).tr hq.tr, mulP_comm ok3 (xP_b1 s).tr hq.tr, mul_xP hq s, ← k7]
    refine (addP_tr ok3 (addP_tr ok3 (mulP_tr ok3 hQ.tr hq.tr) (upP_b1 hq s).tr) (addP_tr ok3 hl.tr (upP_b1 hq s).tr)).ext (addP_tr ok3 (mulP_tr ok3 hQ.tr hq.tr) hl.tr) (fun j => ?_)
    simp only [cf_addP]
    generalize cf (mulP 3 (bl Q) (bl q)) j = x
    generalize cf (upP s (bl q)) j = y
    generalize cf (bl L) j = z
    rw [Nat.xor_assoc, Nat.xor_comm z y, xcc]
theorem trim_bys {l : List Nat} (h : ∀ x ∈ l, x < 256) : trim l = bys (bl l) := bys_of h (bl_b1 l) (fun j => (cf_bl l j).symm)
theorem BdG.done {p q L Q : List Nat} (h : BdG p q (L, Q)) (h0 : (bl q).length ≠ 0) (hl : (bl L).length < (bl q).length) : trim Q = bys (quotP 3 (bl p) (bl q)) ∧ trim L = bys (restP 3 (bl p) (bl q)) := by
  obtain ⟨e1, e2⟩ := div_uniq ok3 (bl_b1 p).tr (bl_b1 q).tr h0 (bl_b1 Q).tr (bl_b1 L).tr hl h.eq
  exact ⟨by rw [← e1]; exact trim_bys h.b2, by rw [← e2]; exact trim_bys h.b1⟩
abbrev SpecBB (P : Program) (f : FuncId) (args : List Value) (w : World) (E G : List Nat) : Prop :=
  SpecX P f args w (X := (Option Addr × Nat) × (Option Addr × Nat)) (fun q => .tuple #[.slice q.1.1 E.length q.1.2, .slice q.2.1 G.length q.2.2, .nilIface]) (fun q => E.length ≤ q.1.2 ∧ G.length ≤ q.2.2)
    (fun q => [own 5 1 q.2.1 G.length q.2.2 (nats .u8 G), own 5 1 q.1.1 E.length q.1.2 (nats .u8 E)])
theorem nz_trim {q : List Nat} (hq : ∀ x ∈ q, x < 256) (h0 : (bl q).length ≠ 0) : (trim q).length ≠ 0 := fun h => h0 (by rw [bl_zero hq h]; rfl)

theorem bdiv_spec (A : Option Addr) (n c : Nat) (p : List Nat) (A2 : Option Addr) (n2 c2 : Nat) (p2 : List Nat) (w : World) (ha : Has (sl 1 A n (nats .u8 p)) w) (hp : ∀ x ∈ p, x < 256) (hn : n ≤ 1073741824) (hcp : n ≤ c) (ha2 : Has (sl 1 A2 n2 (nats .u8 p2)) w) (hp2 : ∀ x ∈ p2, x < 256) (hn2 : n2 ≤ 1073741824) (hcp2 : n2 ≤ c2) (h0 : (bl p2).length ≠ 0) (hsz : n ≤ 2000000) : SpecBB Tryd.prog 62 [.slice A n c, .slice A2 n2 c2] w (bys (quotP 3 (bl p) (bl p2))) (bys (restP 3 (bl p) (bl p2))) := by
  have hla := nats_len ha
  subst hla
  have hla2 := nats_len ha2
  subst hla2
  have hnz := nz_trim hp2 h0
  have h82 := trim_lt8 hp2
  have ht2 := tl_le p2
  have hl2 := trim_length p2
  have hge := bl_len_ge hp2 hnz
  have hbl1 := bl_len p
  have hbl2 := bl_len p2
  refine spec_of Tryd.func62 rfl Tryd.ntmps62 rfl ?_
  refine CW.seq ?_
  refine CW.reg [0, 1, 2] rfl ?_   -- 0, binpoly.go:124
  refine s_as 4 rfl rfl ?_
  refine s_as 5 rfl rfl ?_
  refine s_as 6 rfl rfl ?_
  refine SX.next ?_
  refine CW.seq ?_
  refine CW.reg [0, 1, 2] rfl ?_   -- 1, binpoly.go:125
  refine s_mv 11 rfl rfl ?_
  refine s_call 12 rfl rfl rfl rfl (fun w hw => trimmed_spec A2 p2.length c2 p2 w (hw.old ha2) hp2 hn2 hcp2) (fun _ _ => trivial) (fun q2 hq2 => ?_)
  refine s_as 1 rfl rfl ?_
  refine SX.next ?_
  refine CW.seq ?_
  refine CW.seq ?_
  refine CW.reg [0, 1, 2] rfl ?_   -- 2, binpoly.go:126
  refine s_mv 13 rfl rfl ?_
  refine s_len 14 rfl rfl ?_
  refine s_eq 15 rfl rfl rfl (decide_eq_false (by omega)) ?_
  refine SX.next ?_
  refine CW.condF rfl ?_
  refine CW.skip ?_
  refine KN.code ?_
  refine CW.seq ?_
  refine CW.reg [0, 1, 2, 3, 4] rfl ?_   -- 4, binpoly.go:129
  refine s_mv 17 rfl rfl ?_
  refine s_app0 18 (m2 := p.length) rfl rfl rfl (ys := nats .u8 p) (fun w hw => hw.old ha) (nats_one _ _) rfl (by omega) (by unfold maxLen; omega) (by omega) (fun _ _ _ _ => trivial) (fun A4 c4 hc4 => ?_)
  refine s_bsl 19 rfl rfl (cells := #[.int .u8 0]) (by kernel_rfl) rfl (fun _ _ => trivial) (fun gb => ?_)
  refine s_app 20 1 rfl rfl rfl rfl (ys := [.int .u8 0]) (fun w hw => Has.cong ((hw.has (i := 0) rfl).blk_sl (m := 1) rfl) rfl) rfl rfl (by omega) (by unfold maxLen; omega) (by omega) (fun _ _ _ _ => trivial) (fun A5 c5 hc5 => ?_)
  refine SX.pre (C' := Sto w [own 5 1 A5 (p.length + 1) c5 (nats .u8 (p ++ [0])), own 5 1 q2.1 (trim p2).length q2.2 (nats .u8 (trim p2))]) (fun _ h => by rw [nats8_snoc] at h; exact h.pick [1, 1] rfl) ?_
  refine s_as 7 rfl rfl ?_
  refine SX.next ?_
  refine CW.seq ?_
  refine CW.regD (.st true 0 (.st true 2 (.st true 3 (.st true 4 (.alt 1 (.st true 6 (.st false 5 (.st true 7 .done))) (.st false 5 (.st false 1 (.st true 6 (.st true 7 .done))))))))) (Sto w [own 5 1 A5 (p.length + 1) c5 (nats .u8 (p ++ [0])), own 5 1 q2.1 (trim p2).length q2.2 (nats .u8 (trim p2))]) mixed (by kernel_rfl) (fun _ h => h.drew) (fun _ h => h) ?_
  refine s_mv 21 rfl rfl ?_
  refine s_mv 23 rfl rfl ?_
  refine s_len 24 rfl rfl ?_
  refine s_add 25 rfl rfl rfl (r := (((p.length + 1) : Nat) : Int)) (w64 (by omega)) ?_
  refine SX.alt ?_ ?_
  · skip
    refine s_call1 22 rfl rfl rfl rfl (v := .int .i64 ((bl p2).length - 1 : Int)) (fun w hw => by have := bdeg_spec q2.1 (trim p2).length q2.2 (trim p2) w (by first | exact (hw.has (i := 1) rfl).of_own | exact (hw.has (i := 2) rfl).of_own) h82 (by omega) hq2; rw [bl_trim] at this; exact this) (fun _ h => by first | exact h | exact h.tail) ?_
    refine s_as 8 rfl rfl ?_
    refine s_make 26 (p.length + 1) rfl rfl rfl rfl rfl (by omega) (fun _ h => h) (fun go => ?_)
    refine s_as 9 rfl rfl ?_
    refine SX.next ?_
    refine CW.seq ?_
    refine CW.seq ?_
    refine CW.pre (C' := Sto w [own 5 1 A5 (p.length + 1) c5 (nats .u8 (p ++ [0])), own 5 1 q2.1 (trim p2).length q2.2 (nats .u8 (trim p2)), own 5 1 (some ⟨go, 0, none⟩) (p.length + 1) (p.length + 1) (nats .u8 (List.replicate (p.length + 1) 0))]) (fun _ h => by
      have := h.blkOwnM (q := 0) (m := (p.length + 1)) (c := (p.length + 1)) (sz := 1) rfl (by simp) (Nat.le_refl _) (by unfold maxLen; omega)
      rw [zeros8] at this
      exact this.pick [1, 1, 0] rfl) ?_
    have hst := BdG.start hp p2
    have hb0 := bl_app p
    refine CW.reg [0, 1, 2, 3, 4] rfl ?_   -- 6, binpoly.go:131
    refine s_mv 27 rfl rfl ?_
    refine s_call1 28 rfl rfl rfl rfl (fun w hw => bdeg_spec A5 (p.length + 1) c5 (p ++ [0]) w ((hw.has (i := 0) rfl).of_own) (app_lt hp) (by omega) (by omega)) (fun _ _ => trivial) ?_
    refine s_mv 29 rfl rfl ?_
    refine s_sub 30 rfl rfl rfl (r := ((bl (p ++ [0])).length : Nat) - ((bl p2).length : Nat)) (by rw [hb0, show (((bl p).length : Nat) : Int) - 1 - (((bl p2).length : Nat) - 1) = ((bl p).length : Nat) - ((bl p2).length : Nat) by omega]; exact w64 (by omega)) ?_
    refine s_as 10 rfl rfl ?_
    refine SX.next ?_
    refine CW.block ?_
    refine CW.loop (G := List Nat × List Nat) (fun z => [(1, .slice q2.1 (trim p2).length q2.2), (7, .slice A5 (p.length + 1) c5), (8, .int .i64 ((bl p2).length - 1 : Int)), (9, .slice (some ⟨go, 0, none⟩) (p.length + 1) (p.length + 1)), (10, .int .i64 (((bl z.1).length : Nat) - ((bl p2).length : Nat)))]) (fun z => Sto w [own 5 1 A5 (p.length + 1) c5 (nats .u8 z.1), own 5 1 q2.1 (trim p2).length q2.2 (nats .u8 (trim p2)), own 5 1 (some ⟨go, 0, none⟩) (p.length + 1) (p.length + 1) (nats .u8 z.2)]) (BdG p p2) (fun z => (bl z.1).length) (p ++ [0], List.replicate (p.length + 1) 0) ⟨rfl, rfl, rfl, rfl, rfl, trivial⟩ (fun _ h => h) hst ?_
    rintro ⟨L, Q⟩ hz
    have hz1 := hz.l1
    have hz2 := hz.l2
    have hz3 := hz.b1
    have hz4 := hz.b2
    have hz5 := hz.le
    simp only at hz1 hz2 hz3 hz4 hz5
    dsimp only
    refine CW.seq ?_
    refine CW.seq ?_
    refine CW.reg [0, 1] rfl ?_   -- 7, binpoly.go:131
    refine s_mv 31 rfl rfl ?_
    refine s_ge 32 rfl rfl rfl rfl ?_
    refine SX.next ?_
    refine CW.test rfl (fun hc => ?_) (fun hc => ?_)
    · skip
      have hs : ((bl L).length - (bl p2).length) + (bl p2).length = (bl L).length := by omega
      have hs8 : ((bl L).length - (bl p2).length) / 8 < Q.length := by omega
      refine CW.skip ?_
      refine KN.code ?_
      refine CW.seq ?_
      refine CW.block ?_
      refine CW.seq ?_
      refine CW.regD (.st true 0 (.st true 1 (.st true 2 (.st true 3 (.st true 5 (.st true 6 (.st true 7 (.st false 4 (.st true 8 (.st true 9 (.st false 10 .done))))))))))) (Sto w []) mixed (by kernel_rfl) (fun _ h => h.drew) (fun _ h => h.dropR) ?_
      refine s_mv 40 rfl rfl ?_
      refine s_mv 41 (v := .int .i64 (((bl L).length - (bl p2).length) : Nat)) rfl (by rw [show ((((bl L).length - (bl p2).length) : Nat) : Int) = ((bl L).length : Nat) - ((bl p2).length : Nat) by omega]; rfl) ?_
      refine s_quo 42 rfl rfl rfl (by omega) (quo8 ((bl L).length - (bl p2).length) (by omega)) ?_
      refine s_iaO 43 2 (((bl L).length - (bl p2).length) / 8) rfl rfl rfl rfl rfl (by omega) ?_
      refine s_mv 45 (v := .int .i64 (((bl L).length - (bl p2).length) : Nat)) rfl (by rw [show ((((bl L).length - (bl p2).length) : Nat) : Int) = ((bl L).length : Nat) - ((bl p2).length : Nat) by omega]; rfl) ?_
      refine s_rem 46 rfl rfl rfl (by omega) (tmod8 ((bl L).length - (bl p2).length)) ?_
      refine s_shl 47 rfl rfl rfl (by omega) (r := ((2 ^ (((bl L).length - (bl p2).length) % 8) : Nat) : Int)) (by rw [show (1 : Int) = ((1 : Nat) : Int) from rfl, shl_u8 (by omega), Nat.one_mul, Nat.mod_eq_of_lt (Nat.pow_lt_pow_right (n := 8) (by omega) (Nat.mod_lt _ (by omega)))]) ?_
      refine s_ldO 44 2 rfl rfl rfl (natsAt8 hs8) ?_
      refine s_bit 48 rfl rfl rfl rfl (ibit_or_u8 (cf_lt8 hz4 _) (Nat.pow_lt_pow_right (n := 8) (by omega) (Nat.mod_lt _ (by omega)))) ?_
      refine s_iaO 49 2 (((bl L).length - (bl p2).length) / 8) rfl rfl rfl rfl rfl (by omega) ?_
      refine s_stO 2 rfl rfl rfl rfl rfl (by omega) (fun _ h => h.dropR) ?_
      refine SX.next ?_
      refine CW.pre (C' := Sto w [own 5 1 A5 (p.length + 1) c5 (nats .u8 L), own 5 1 q2.1 (trim p2).length q2.2 (nats .u8 (trim p2)), own 5 1 (some ⟨go, 0, none⟩) (p.length + 1) (p.length + 1) (nats .u8 (Q.set (((bl L).length - (bl p2).length) / 8) (cf Q (((bl L).length - (bl p2).length) / 8) ||| 2 ^ (((bl L).length - (bl p2).length) % 8))))]) (fun _ h => by rw [← nats_set]; exact h) ?_
      refine CW.reg [0, 1, 2, 3] rfl ?_   -- 10, binpoly.go:133
      refine s_mv 50 rfl rfl ?_
      refine s_mv 51 rfl rfl ?_
      refine s_mv 52 (v := .int .i64 (((bl L).length - (bl p2).length) : Nat)) rfl (by rw [show ((((bl L).length - (bl p2).length) : Nat) : Int) = ((bl L).length : Nat) - ((bl p2).length : Nat) by omega]; rfl) ?_
      refine s_callM 53 (v := fun _ => oneOf []) (L' := fun o' => [own 5 1 A5 (p.length + 1) c5 (nats .u8 o'), own 5 1 q2.1 (trim p2).length q2.2 (nats .u8 (trim p2)), own 5 1 (some ⟨go, 0, none⟩) (p.length + 1) (p.length + 1) (nats .u8 (Q.set (((bl L).length - (bl p2).length) / 8) (cf Q (((bl L).length - (bl p2).length) / 8) ||| 2 ^ (((bl L).length - (bl p2).length) % 8))))]) rfl rfl rfl rfl (fun w hw => by have := into_spec _ _ w [own 5 1 (some ⟨go, 0, none⟩) (p.length + 1) (p.length + 1) (nats .u8 (Q.set (((bl L).length - (bl p2).length) / 8) (cf Q (((bl L).length - (bl p2).length) / 8) ||| 2 ^ (((bl L).length - (bl p2).length) % 8))))] A5 c5 L q2.1 q2.2 (trim p2) ((bl L).length - (bl p2).length) hz3 h82 (by omega) (by omega) (by rw [hz1]; exact hw); rw [hz1] at this; exact this) (fun _ _ _ => trivial) (fun L2 hL2 => ?_)
      obtain ⟨hnx, hlt2⟩ := hz.next h0 hs hs8 ⟨hL2.1.trans hz1.symm, hL2.2⟩
      refine SX.end_ ?_
      refine KN.blk ?_
      refine KN.code ?_
      refine CW.reg [0, 1, 2, 3, 4, 5, 6, 7] rfl ?_   -- 8, binpoly.go:131
      refine s_mv 33 rfl rfl ?_
      refine s_sub 34 rfl rfl rfl (r := ((bl L).length : Nat) - ((bl p2).length : Nat) - 1) (w64 (by omega)) ?_
      refine s_mv 35 rfl rfl ?_
      refine s_call1 36 rfl rfl rfl rfl (fun w hw => bdeg_spec A5 (p.length + 1) c5 L2 w ((hw.has (i := 0) rfl).of_own) hL2.2.1 (by omega) (by omega)) (fun _ _ => trivial) ?_
      refine s_mv 37 rfl rfl ?_
      refine s_sub 38 rfl rfl rfl (r := ((bl L2).length : Nat) - ((bl p2).length : Nat)) (by rw [show (((bl L2).length : Nat) : Int) - 1 - (((bl p2).length : Nat) - 1) = ((bl L2).length : Nat) - ((bl p2).length : Nat) by omega]; exact w64 (by omega)) ?_
      refine s_min 39 rfl rfl rfl (r := ((bl L2).length : Nat) - ((bl p2).length : Nat)) (by split <;> omega) ?_
      refine s_as 10 rfl rfl ?_
      refine SX.end_ ?_
      exact KN.back (L2, Q.set (((bl L).length - (bl p2).length) / 8) (cf Q (((bl L).length - (bl p2).length) / 8) ||| 2 ^ (((bl L).length - (bl p2).length) % 8))) ⟨rfl, rfl, rfl, rfl, rfl, trivial⟩ (fun _ h => h) hnx hlt2
    · skip
      obtain ⟨hdQ, hdR⟩ := hz.done h0 (by omega)
      refine CW.exit rfl ?_
      refine KN.code ?_
      refine CW.seq ?_
      refine CW.reg [0, 1, 2, 3, 4, 5, 6] rfl ?_   -- 11, binpoly.go:135
      refine s_mv 54 rfl rfl ?_
      refine s_call 55 rfl rfl rfl rfl (fun w hw => by have := trimmed_spec (some ⟨go, 0, none⟩) (p.length + 1) (p.length + 1) Q w ((hw.has (i := 2) rfl).of_own) hz4 (by omega) (Nat.le_refl _); rw [hdQ] at this; exact this) (fun _ _ => trivial) (fun q3 hq3 => ?_)
      refine s_mv 56 rfl rfl ?_
      refine s_call 57 rfl rfl rfl rfl (fun w hw => by have := trimmed_spec A5 (p.length + 1) c5 L w ((hw.has (i := 1) rfl).of_own) hz3 (by omega) (by omega); rw [hdR] at this; exact this) (fun _ _ => trivial) (fun q4 hq4 => ?_)
      refine s_as 4 rfl rfl ?_
      refine s_as 5 rfl rfl ?_
      refine s_as 6 rfl rfl ?_
      refine SX.next ?_
      refine CW.ret ?_
      exact KN.ret (rs := [.tmp 4, .tmp 5, .tmp 6]) Tryd.results62 rfl (fun w hw => ⟨(q3, q4), rfl, ⟨hq3, hq4⟩, hw.pick [0, 0] rfl⟩)
  · skip
    refine s_make 26 (p.length + 1) rfl rfl rfl rfl rfl (by omega) (fun _ h => h) (fun go => ?_)
    refine s_call1 22 rfl rfl rfl rfl (v := .int .i64 ((bl p2).length - 1 : Int)) (fun w hw => by have := bdeg_spec q2.1 (trim p2).length q2.2 (trim p2) w (by first | exact (hw.has (i := 1) rfl).of_own | exact (hw.has (i := 2) rfl).of_own) h82 (by omega) hq2; rw [bl_trim] at this; exact this) (fun _ h => by first | exact h | exact h.tail) ?_
    refine s_as 8 rfl rfl ?_
    refine s_as 9 rfl rfl ?_
    refine SX.next ?_
    refine CW.seq ?_
    refine CW.seq ?_
    refine CW.pre (C' := Sto w [own 5 1 A5 (p.length + 1) c5 (nats .u8 (p ++ [0])), own 5 1 q2.1 (trim p2).length q2.2 (nats .u8 (trim p2)), own 5 1 (some ⟨go, 0, none⟩) (p.length + 1) (p.length + 1) (nats .u8 (List.replicate (p.length + 1) 0))]) (fun _ h => by
      have := h.blkOwnM (q := 0) (m := (p.length + 1)) (c := (p.length + 1)) (sz := 1) rfl (by simp) (Nat.le_refl _) (by unfold maxLen; omega)
      rw [zeros8] at this
      exact this.pick [1, 1, 0] rfl) ?_
    have hst := BdG.start hp p2
    have hb0 := bl_app p
    refine CW.reg [0, 1, 2, 3, 4] rfl ?_   -- 6, binpoly.go:131
    refine s_mv 27 rfl rfl ?_
    refine s_call1 28 rfl rfl rfl rfl (fun w hw => bdeg_spec A5 (p.length + 1) c5 (p ++ [0]) w ((hw.has (i := 0) rfl).of_own) (app_lt hp) (by omega) (by omega)) (fun _ _ => trivial) ?_
    refine s_mv 29 rfl rfl ?_
    refine s_sub 30 rfl rfl rfl (r := ((bl (p ++ [0])).length : Nat) - ((bl p2).length : Nat)) (by rw [hb0, show (((bl p).length : Nat) : Int) - 1 - (((bl p2).length : Nat) - 1) = ((bl p).length : Nat) - ((bl p2).length : Nat) by omega]; exact w64 (by omega)) ?_
    refine s_as 10 rfl rfl ?_
    refine SX.next ?_
    refine CW.block ?_
    refine CW.loop (G := List Nat × List Nat) (fun z => [(1, .slice q2.1 (trim p2).length q2.2), (7, .slice A5 (p.length + 1) c5), (8, .int .i64 ((bl p2).length - 1 : Int)), (9, .slice (some ⟨go, 0, none⟩) (p.length + 1) (p.length + 1)), (10, .int .i64 (((bl z.1).length : Nat) - ((bl p2).length : Nat)))]) (fun z => Sto w [own 5 1 A5 (p.length + 1) c5 (nats .u8 z.1), own 5 1 q2.1 (trim p2).length q2.2 (nats .u8 (trim p2)), own 5 1 (some ⟨go, 0, none⟩) (p.length + 1) (p.length + 1) (nats .u8 z.2)]) (BdG p p2) (fun z => (bl z.1).length) (p ++ [0], List.replicate (p.length + 1) 0) ⟨rfl, rfl, rfl, rfl, rfl, trivial⟩ (fun _ h => h) hst ?_
    rintro ⟨L, Q⟩ hz
    have hz1 := hz.l1
    have hz2 := hz.l2
    have hz3 := hz.b1
    have hz4 := hz.b2
    have hz5 := hz.le
    simp only at hz1 hz2 hz3 hz4 hz5
    dsimp only
    refine CW.seq ?_
    refine CW.seq ?_
    refine CW.reg [0, 1] rfl ?_   -- 7, binpoly.go:131
    refine s_mv 31 rfl rfl ?_
    refine s_ge 32 rfl rfl rfl rfl ?_
    refine SX.next ?_
    refine CW.test rfl (fun hc => ?_) (fun hc => ?_)
    · skip
      have hs : ((bl L).length - (bl p2).length) + (bl p2).length = (bl L).length := by omega
      have hs8 : ((bl L).length - (bl p2).length) / 8 < Q.length := by omega
      refine CW.skip ?_
      refine KN.code ?_
      refine CW.seq ?_
      refine CW.block ?_
      refine CW.seq ?_
      refine CW.regD (.st true 0 (.st true 1 (.st true 2 (.st true 3 (.st true 5 (.st true 6 (.st true 7 (.st false 4 (.st true 8 (.st true 9 (.st false 10 .done))))))))))) (Sto w []) mixed (by kernel_rfl) (fun _ h => h.drew) (fun _ h => h.dropR) ?_
      refine s_mv 40 rfl rfl ?_
      refine s_mv 41 (v := .int .i64 (((bl L).length - (bl p2).length) : Nat)) rfl (by rw [show ((((bl L).length - (bl p2).length) : Nat) : Int) = ((bl L).length : Nat) - ((bl p2).length : Nat) by omega]; rfl) ?_
      refine s_quo 42 rfl rfl rfl (by omega) (quo8 ((bl L).length - (bl p2).length) (by omega)) ?_
      refine s_iaO 43 2 (((bl L).length - (bl p2).length) / 8) rfl rfl rfl rfl rfl (by omega) ?_
      refine s_mv 45 (v := .int .i64 (((bl L).length - (bl p2).length) : Nat)) rfl (by rw [show ((((bl L).length - (bl p2).length) : Nat) : Int) = ((bl L).length : Nat) - ((bl p2).length : Nat) by omega]; rfl) ?_
      refine s_rem 46 rfl rfl rfl (by omega) (tmod8 ((bl L).length - (bl p2).length)) ?_
      refine s_shl 47 rfl rfl rfl (by omega) (r := ((2 ^ (((bl L).length - (bl p2).length) % 8) : Nat) : Int)) (by rw [show (1 : Int) = ((1 : Nat) : Int) from rfl, shl_u8 (by omega), Nat.one_mul, Nat.mod_eq_of_lt (Nat.pow_lt_pow_right (n := 8) (by omega) (Nat.mod_lt _ (by omega)))]) ?_
      refine s_ldO 44 2 rfl rfl rfl (natsAt8 hs8) ?_
      refine s_bit 48 rfl rfl rfl rfl (ibit_or_u8 (cf_lt8 hz4 _) (Nat.pow_lt_pow_right (n := 8) (by omega) (Nat.mod_lt _ (by omega)))) ?_
      refine s_iaO 49 2 (((bl L).length - (bl p2).length) / 8) rfl rfl rfl rfl rfl (by omega) ?_
      refine s_stO 2 rfl rfl rfl rfl rfl (by omega) (fun _ h => h.dropR) ?_
      refine SX.next ?_
      refine CW.pre (C' := Sto w [own 5 1 A5 (p.length + 1) c5 (nats .u8 L), own 5 1 q2.1 (trim p2).length q2.2 (nats .u8 (trim p2)), own 5 1 (some ⟨go, 0, none⟩) (p.length + 1) (p.length + 1) (nats .u8 (Q.set (((bl L).length - (bl p2).length) / 8) (cf Q (((bl L).length - (bl p2).length) / 8) ||| 2 ^ (((bl L).length - (bl p2).length) % 8))))]) (fun _ h => by rw [← nats_set]; exact h) ?_
      refine CW.reg [0, 1, 2, 3] rfl ?_   -- 10, binpoly.go:133
      refine s_mv 50 rfl rfl ?_
      refine s_mv 51 rfl rfl ?_
      refine s_mv 52 (v := .int .i64 (((bl L).length - (bl p2).length) : Nat)) rfl (by rw [show ((((bl L).length - (bl p2).length) : Nat) : Int) = ((bl L).length : Nat) - ((bl p2).length : Nat) by omega]; rfl) ?_
      refine s_callM 53 (v := fun _ => oneOf []) (L' := fun o' => [own 5 1 A5 (p.length + 1) c5 (nats .u8 o'), own 5 1 q2.1 (trim p2).length q2.2 (nats .u8 (trim p2)), own 5 1 (some ⟨go, 0, none⟩) (p.length + 1) (p.length + 1) (nats .u8 (Q.set (((bl L).length - (bl p2).length) / 8) (cf Q (((bl L).length - (bl p2).length) / 8) ||| 2 ^ (((bl L).length - (bl p2).length) % 8))))]) rfl rfl rfl rfl (fun w hw => by have := into_spec _ _ w [own 5 1 (some ⟨go, 0, none⟩) (p.length + 1) (p.length + 1) (nats .u8 (Q.set (((bl L).length - (bl p2).length) / 8) (cf Q (((bl L).length - (bl p2).length) / 8) ||| 2 ^ (((bl L).length - (bl p2).length) % 8))))] A5 c5 L q2.1 q2.2 (trim p2) ((bl L).length - (bl p2).length) hz3 h82 (by omega) (by omega) (by rw [hz1]; exact hw); rw [hz1] at this; exact this) (fun _ _ _ => trivial) (fun L2 hL2 => ?_)
      obtain ⟨hnx, hlt2⟩ := hz.next h0 hs hs8 ⟨hL2.1.trans hz1.symm, hL2.2⟩
      refine SX.end_ ?_
      refine KN.blk ?_
      refine KN.code ?_
      refine CW.reg [0, 1, 2, 3, 4, 5, 6, 7] rfl ?_   -- 8, binpoly.go:131
      refine s_mv 33 rfl rfl ?_
      refine s_sub 34 rfl rfl rfl (r := ((bl L).length : Nat) - ((bl p2).length : Nat) - 1) (w64 (by omega)) ?_
      refine s_mv 35 rfl rfl ?_
      refine s_call1 36 rfl rfl rfl rfl (fun w hw => bdeg_spec A5 (p.length + 1) c5 L2 w ((hw.has (i := 0) rfl).of_own) hL2.2.1 (by omega) (by omega)) (fun _ _ => trivial) ?_
      refine s_mv 37 rfl rfl ?_
      refine s_sub 38 rfl rfl rfl (r := ((bl L2).length : Nat) - ((bl p2).length : Nat)) (by rw [show (((bl L2).length : Nat) : Int) - 1 - (((bl p2).length : Nat) - 1) = ((bl L2).length : Nat) - ((bl p2).length : Nat) by omega]; exact w64 (by omega)) ?_
      refine s_min 39 rfl rfl rfl (r := ((bl L2).length : Nat) - ((bl p2).length : Nat)) (by split <;> omega) ?_
      refine s_as 10 rfl rfl ?_
      refine SX.end_ ?_
      exact KN.back (L2, Q.set (((bl L).length - (bl p2).length) / 8) (cf Q (((bl L).length - (bl p2).length) / 8) ||| 2 ^ (((bl L).length - (bl p2).length) % 8))) ⟨rfl, rfl, rfl, rfl, rfl, trivial⟩ (fun _ h => h) hnx hlt2
    · skip
      obtain ⟨hdQ, hdR⟩ := hz.done h0 (by omega)
      refine CW.exit rfl ?_
      refine KN.code ?_
      refine CW.seq ?_
      refine CW.reg [0, 1, 2, 3, 4, 5, 6] rfl ?_   -- 11, binpoly.go:135
      refine s_mv 54 rfl rfl ?_
      refine s_call 55 rfl rfl rfl rfl (fun w hw => by have := trimmed_spec (some ⟨go, 0, none⟩) (p.length + 1) (p.length + 1) Q w ((hw.has (i := 2) rfl).of_own) hz4 (by omega) (Nat.le_refl _); rw [hdQ] at this; exact this) (fun _ _ => trivial) (fun q3 hq3 => ?_)
      refine s_mv 56 rfl rfl ?_
      refine s_call 57 rfl rfl rfl rfl (fun w hw => by have := trimmed_spec A5 (p.length + 1) c5 L w ((hw.has (i := 1) rfl).of_own) hz3 (by omega) (by omega); rw [hdR] at this; exact this) (fun _ _ => trivial) (fun q4 hq4 => ?_)
      refine s_as 4 rfl rfl ?_
      refine s_as 5 rfl rfl ?_
      refine s_as 6 rfl rfl ?_
      refine SX.next ?_
      refine CW.ret ?_
      exact KN.ret (rs := [.tmp 4, .tmp 5, .tmp 6]) Tryd.results62 rfl (fun w hw => ⟨(q3, q4), rfl, ⟨hq3, hq4⟩, hw.pick [0, 0] rfl⟩)
end Go.Proofs.YtompcfingkoldaaDoor
end
section
/- The contracts of package binpoly: common divisors, sameness, values. Conditions: the lists are bytes, read where they lie. -/
namespace Go.Proofs.YtompcfingkoldaaDoor
open Go Go.Lib Go.Sx Go.Fm
set_option maxRecDepth 100000
/-- What the common divisor's loop keeps. -/
structure BgG (a b : List Nat) (q : List Nat × List Nat × (Option Addr × Nat) × (Option Addr × Nat)) : Prop where
  h1 : B1 q.1
  h2 : B1 q.2.1
  l1 : q.1.length ≤ 8000000
  l2 : q.2.1.length ≤ 8000000
  c1 : (bys q.1).length ≤ q.2.2.1.2
  c2 : (bys q.2.1).length ≤ q.2.2.2.2
  eq : gcdE 3 q.1 q.2.1 = gcdE 3 a b
theorem bys_zero {b : List Nat} (hb : B1 b) : (bys b).length = 0 ↔ b.length = 0 := by
  constructor
  · intro h
    have := bl_bys hb
    rw [List.eq_nil_of_length_eq_zero h] at this
    rw [← this]
    rfl
  · intro h
    rw [List.eq_nil_of_length_eq_zero h]
    rfl
theorem bys_lt {b : List Nat} (hb : B1 b) : ∀ x ∈ bys b, x < 256 := (bys_tr hb.le).lt
theorem trim_bl {p : List Nat} (hp : ∀ x ∈ p, x < 256) : trim p = bys (bl p) := trim_bys hp

theorem bgcd_spec (A : Option Addr) (n c : Nat) (p : List Nat) (A2 : Option Addr) (n2 c2 : Nat) (p2 : List Nat) (w : World) (ha : Has (sl 1 A n (nats .u8 p)) w) (hp : ∀ x ∈ p, x < 256) (hn : n ≤ 1073741824) (hcp : n ≤ c) (ha2 : Has (sl 1 A2 n2 (nats .u8 p2)) w) (hp2 : ∀ x ∈ p2, x < 256) (hn2 : n2 ≤ 1073741824) (hcp2 : n2 ≤ c2) (hs1 : p.length ≤ 1000000) (hs2 : p2.length ≤ 1000000) : SpecB Tryd.prog 80 [.slice A n c, .slice A2 n2 c2] w (bys (gcdE 3 (bl p) (bl p2))) := by
  have hla := nats_len ha
  have hla2 := nats_len ha2
  subst hla
  subst hla2
  have hb1 := bl_len p
  have hb2 := bl_len p2
  refine spec_of Tryd.func80 rfl Tryd.ntmps80 rfl ?_
  refine CW.seq ?_
  refine CW.reg [0] rfl ?_   -- 0, binpoly.go:139
  refine s_as 4 rfl rfl ?_
  refine SX.next ?_
  refine CW.seq ?_
  refine CW.reg [0, 1, 2, 3, 4, 5] rfl ?_   -- 1, binpoly.go:140
  refine s_mv 8 rfl rfl ?_
  refine s_call 9 rfl rfl rfl rfl (fun w hw => by have := trimmed_spec A p.length c p w (hw.old ha) hp hn hcp; rw [trim_bl hp] at this; exact this) (fun _ _ => trivial) (fun q1 hq1 => ?_)
  refine s_mv 10 rfl rfl ?_
  refine s_call 11 rfl rfl rfl rfl (fun w hw => by have := trimmed_spec A2 p2.length c2 p2 w (hw.old ha2) hp2 hn2 hcp2; rw [trim_bl hp2] at this; exact this) (fun _ _ => trivial) (fun q2 hq2 => ?_)
  refine s_as 0 rfl rfl ?_
  refine s_as 1 rfl rfl ?_
  refine SX.next ?_
  refine CW.seq ?_
  refine CW.block ?_
  refine CW.loop (G := List Nat × List Nat × (Option Addr × Nat) × (Option Addr × Nat)) (fun q => [(0, .slice q.2.2.1.1 (bys q.1).length q.2.2.1.2), (1, .slice q.2.2.2.1 (bys q.2.1).length q.2.2.2.2)]) (fun q => Sto w [own 5 1 q.2.2.2.1 (bys q.2.1).length q.2.2.2.2 (nats .u8 (bys q.2.1)), own 5 1 q.2.2.1.1 (bys q.1).length q.2.2.1.2 (nats .u8 (bys q.1))]) (BgG (bl p) (bl p2)) (fun q => q.2.1.length) (bl p, bl p2, q1, q2) ⟨rfl, rfl, trivial⟩ (fun _ h => h) ⟨bl_b1 p, bl_b1 p2, by simp only; omega, by simp only; omega, hq1, hq2, rfl⟩ ?_
  rintro ⟨a1, b1, q3, q4⟩ hq
  obtain ⟨k1, k2, k3, k4, k5, k6, k7⟩ := hq
  simp only at k1 k2 k3 k4 k5 k6 k7
  dsimp only
  have hz := bys_zero k2
  have hy1 := bys_len a1
  have hy2 := bys_len b1
  refine CW.seq ?_
  refine CW.seq ?_
  refine CW.reg [0, 1, 2] rfl ?_   -- 2, binpoly.go:141
  refine s_mv 12 rfl rfl ?_
  refine s_len 13 rfl rfl ?_
  refine s_gt 14 rfl rfl rfl rfl ?_
  refine SX.next ?_
  refine CW.test rfl (fun hc => ?_) (fun hc => ?_)
  · skip
    have h0 : b1.length ≠ 0 := fun h => by have := hz.2 h; omega
    have hrl := restP_len ok3 k1.tr.lt k2.tr.lt h0 (k2.tr.top h0)
    refine CW.skip ?_
    refine KN.code ?_
    refine CW.block ?_
    refine CW.seq ?_
    refine CW.reg [0, 1, 2, 3, 4, 5, 6, 7, 8, 9] rfl ?_   -- 3, binpoly.go:142
    refine s_mv 16 rfl rfl ?_
    refine s_mv 17 rfl rfl ?_
    refine s_call 18 rfl rfl rfl rfl (fun w hw => by have := bdiv_spec q3.1 (bys a1).length q3.2 (bys a1) q4.1 (bys b1).length q4.2 (bys b1) w ((hw.has (i := 1) rfl).of_own) (bys_lt k1) (by omega) k5 ((hw.has (i := 0) rfl).of_own) (bys_lt k2) (by omega) k6 (by rw [bl_bys k2]; exact h0) (by omega); rw [bl_bys k1, bl_bys k2] at this; exact this) (fun _ _ => trivial) (fun q5 hq5 => ?_)
    refine s_mv 15 rfl rfl ?_
    refine s_ext 19 rfl rfl rfl ?_
    refine s_ext 20 rfl rfl rfl ?_
    refine s_ext 21 rfl rfl rfl ?_
    refine s_as 5 rfl rfl ?_
    refine s_as 6 rfl rfl ?_
    refine s_as 7 rfl rfl ?_
    refine SX.next ?_
    refine CW.reg [0, 1, 2, 3] rfl ?_   -- 4, binpoly.go:143
    refine s_mv 22 rfl rfl ?_
    refine s_mv 23 rfl rfl ?_
    refine s_as 0 rfl rfl ?_
    refine s_as 1 rfl rfl ?_
    refine SX.end_ ?_
    refine KN.blk ?_
    exact KN.back (b1, restP 3 a1 b1, q4, q5.2) ⟨rfl, rfl, trivial⟩ (fun _ h => h.pick [0, 1] rfl) ⟨k2, restP_b1 k1 k2 h0, k4, by simp only; omega, k6, hq5.2, (gcdE_step ok3 k1.tr k2.tr h0).trans k7⟩ (by simp only; omega)
  · skip
    have h0 : b1.length = 0 := hz.1 (by omega)
    have hg : gcdE 3 (bl p) (bl p2) = a1 := by rw [← k7]; exact gcdE_last h0
    refine CW.exit rfl ?_
    refine KN.code ?_
    refine CW.seq ?_
    refine CW.reg [0, 1] rfl ?_   -- 5, binpoly.go:145
    refine s_mv 24 rfl rfl ?_
    refine s_as 4 rfl rfl ?_
    refine SX.next ?_
    refine CW.ret ?_
    exact KN.ret (rs := [.tmp 4]) Tryd.results80 rfl (fun w hw => ⟨q3, by rw [hg]; rfl, by rw [hg]; exact k5, by rw [hg]; exact hw.pick [1] rfl⟩)

theorem bsm_spec (A : Option Addr) (n c : Nat) (p : List Nat) (A2 : Option Addr) (n2 c2 : Nat) (p2 : List Nat) (w : World) (ha : Has (sl 1 A n (nats .u8 p)) w) (hp : ∀ x ∈ p, x < 256) (hn : n ≤ 1073741824) (hcp : n ≤ c) (ha2 : Has (sl 1 A2 n2 (nats .u8 p2)) w) (hp2 : ∀ x ∈ p2, x < 256) (hn2 : n2 ≤ 1073741824) (hcp2 : n2 ≤ c2) : Spec1 Tryd.prog 70 [.slice A n c, .slice A2 n2 c2] w (.bool (decide (bl p = bl p2))) := by
  have hla := nats_len ha
  have hla2 := nats_len ha2
  subst hla
  subst hla2
  have hbb := strB_beq (bys_lt (bl_b1 p)) (bys_lt (bl_b1 p2))
  have hdd : decide (bys (bl p) = bys (bl p2)) = decide (bl p = bl p2) := decide_eq_decide.2 ⟨fun h => by rw [← bl_bys (bl_b1 p), h, bl_bys (bl_b1 p2)], fun h => by rw [h]⟩
  rw [hdd] at hbb
  refine spec_of Tryd.func70 rfl Tryd.ntmps70 rfl ?_
  refine CW.seq ?_
  refine CW.reg [0] rfl ?_   -- 0, binpoly.go:201
  refine s_as 4 rfl rfl ?_
  refine SX.next ?_
  refine CW.seq ?_
  refine CW.regD (.st true 0 (.st true 3 (.st false 1 (.alt 2 (.st false 4 (.st false 5 (.st true 6 (.st true 7 .done)))) (.st false 4 (.alt 2 (.st false 5 (.st true 6 (.st true 7 .done))) (.st false 5 (.st false 2 (.st true 6 (.st true 7 .done)))))))))) (Sto w []) mixed (by kernel_rfl) (fun _ h => h.drew) (fun _ h => h.dropR) ?_
  refine s_mv 5 rfl rfl ?_
  refine s_mv 8 rfl rfl ?_
  refine s_call 6 rfl rfl rfl rfl (fun w hw => by have := trimmed_spec A p.length c p w (hw.old ha) hp hn hcp; rw [trim_bl hp] at this; exact this) (fun _ h => h.dropR) (fun q1 hq1 => ?_)
  refine SX.alt ?_ ?_
  · skip
    refine s_b2s 7 (b := bys (bl p)) rfl (by kernel_rfl) (by kernel_rfl) rfl (fun w hw => by first | exact (hw.has (i := 0) rfl).of_own | exact (hw.has (i := 1) rfl).of_own) ?_
    refine s_call 9 rfl rfl rfl rfl (fun w hw => by have := trimmed_spec A2 p2.length c2 p2 w (hw.old ha2) hp2 hn2 hcp2; rw [trim_bl hp2] at this; exact this) (fun _ h => h.dropR) (fun q2 hq2 => ?_)
    refine s_b2s 10 (b := bys (bl p2)) rfl (by kernel_rfl) (by kernel_rfl) rfl (fun w hw => by first | exact (hw.has (i := 0) rfl).of_own | exact (hw.has (i := 1) rfl).of_own) ?_
    refine s_eqS 11 rfl rfl rfl hbb ?_
    refine s_as 4 rfl rfl ?_
    refine SX.next ?_
    refine CW.ret ?_
    exact KN.ret (rs := [.tmp 4]) Tryd.results70 rfl (fun w hw => ⟨rfl, hw.nothing⟩)
  · skip
    refine s_call 9 rfl rfl rfl rfl (fun w hw => by have := trimmed_spec A2 p2.length c2 p2 w (hw.old ha2) hp2 hn2 hcp2; rw [trim_bl hp2] at this; exact this) (fun _ h => h.dropR) (fun q2 hq2 => ?_)
    refine SX.alt ?_ ?_
    · skip
      refine s_b2s 7 (b := bys (bl p)) rfl (by kernel_rfl) (by kernel_rfl) rfl (fun w hw => by first | exact (hw.has (i := 0) rfl).of_own | exact (hw.has (i := 1) rfl).of_own) ?_
      refine s_b2s 10 (b := bys (bl p2)) rfl (by kernel_rfl) (by kernel_rfl) rfl (fun w hw => by first | exact (hw.has (i := 0) rfl).of_own | exact (hw.has (i := 1) rfl).of_own) ?_
      refine s_eqS 11 rfl rfl rfl hbb ?_
      refine s_as 4 rfl rfl ?_
      refine SX.next ?_
      refine CW.ret ?_
      exact KN.ret (rs := [.tmp 4]) Tryd.results70 rfl (fun w hw => ⟨rfl, hw.nothing⟩)
    · skip
      refine s_b2s 10 (b := bys (bl p2)) rfl (by kernel_rfl) (by kernel_rfl) rfl (fun w hw => by first | exact (hw.has (i := 0) rfl).of_own | exact (hw.has (i := 1) rfl).of_own) ?_
      refine s_b2s 7 (b := bys (bl p)) rfl (by kernel_rfl) (by kernel_rfl) rfl (fun w hw => by first | exact (hw.has (i := 0) rfl).of_own | exact (hw.has (i := 1) rfl).of_own) ?_
      refine s_eqS 11 rfl rfl rfl hbb ?_
      refine s_as 4 rfl rfl ?_
      refine SX.next ?_
      refine CW.ret ?_
      exact KN.ret (rs := [.tmp 4]) Tryd.results70 rfl (fun w hw => ⟨rfl, hw.nothing⟩)

/-! ### The value at 1 -/
theorem xs_add (f : Nat → Nat) (n : Nat) : ∀ k, xs f (n + k) = xs f n ^^^ xs (fun i => f (n + i)) k
  | 0 => by show xs f n = xs f n ^^^ 0; rw [Nat.xor_zero]
  | k + 1 => by
    show xs f (n + k) ^^^ f (n + k) = xs f n ^^^ (xs (fun i => f (n + i)) k ^^^ f (n + k))
    rw [xs_add f n k, Nat.xor_assoc]
theorem par_add {a b : Nat} : (a + b) % 2 = (a % 2) ^^^ (b % 2) := by
  rcases Nat.mod_two_eq_zero_or_one a with h1 | h1 <;> rcases Nat.mod_two_eq_zero_or_one b with h2 | h2 <;> rw [h1, h2, Nat.add_mod, h1, h2] <;> rfl
/-- How many bits stand, but for twos. -/
def parB (p : List Nat) (i : Nat) : Nat := xs (bitN p) (8 * i)
theorem parB_next {p : List Nat} {i n z : Nat} (h : n % 2 = parB p i) (hz : z % 2 = xs (fun s => (cf p i >>> s) % 2) 8) : (n + z) % 2 = parB p (i + 1) := by
  unfold parB at *
  rw [par_add, h, hz, show 8 * (i + 1) = 8 * i + 8 by omega, xs_add]
  congr 1
  refine xs_congr (fun s hs => ?_)
  unfold bitN
  rw [show (8 * i + s) / 8 = i by omega, show (8 * i + s) % 8 = s by omega]
/-- It is the value at 1. -/
theorem evL_one {m : Nat} (hm : Ok m) : ∀ {a : List Nat} (_ : ∀ x ∈ a, x < 2 ^ m), evL m a 1 = xs (cf a) a.length
  | [], _ => rfl
  | y :: r, h => by
    have hr : ∀ x ∈ r, x < 2 ^ m := fun x hx => h x (List.mem_cons_of_mem _ hx)
    show gm m (evL m r 1) 1 ^^^ y = _
    rw [gm_one_right hm (evL_lt hm 1 hr), evL_one hm hr, List.length_cons, xs_first, cf_cons_zero, Nat.xor_comm]
    congr 1
theorem parB_ev (p : List Nat) : parB p p.length = evL 3 (bl p) 1 := by
  rw [evL_one ok3 (bl_b1 p).tr.lt]
  unfold parB
  have := bl_len p
  rw [show 8 * p.length = (bl p).length + (8 * p.length - (bl p).length) by omega, xs_more (fun i hi => by rw [← cf_bl, cf_out hi])]
  exact xs_congr (fun i _ => (cf_bl p i).symm)

theorem ones8_spec (x z : Nat) (w : World) (hx : x < 256) (hz : pop8 (x : Int) = (z : Nat)) (hz8 : z ≤ 8) : Spec1 Tryd.prog 148 [.int .u8 (x : Nat)] w (.int .i64 (z : Nat)) := by
  refine spec_of Tryd.func148 rfl Tryd.ntmps148 rfl ?_
  refine CW.seq ?_
  refine CW.reg [0] rfl ?_   -- 0, bits.go:125
  refine s_as 2 rfl rfl ?_
  refine SX.next ?_
  refine CW.seq ?_
  refine CW.reg [0, 1, 2, 3] rfl ?_   -- 1, bits.go:126
  refine s_mv 3 rfl rfl ?_
  refine s_pop8 4 rfl (by kernel_rfl) (by kernel_rfl) rfl (by omega) (by omega) hz ?_
  refine s_conv 5 rfl rfl (w64 (by omega)) ?_
  refine s_as 2 rfl rfl ?_
  refine SX.next ?_
  refine CW.ret ?_
  exact KN.ret (rs := [.tmp 2]) Tryd.results148 rfl (fun w hw => ⟨rfl, hw.nothing⟩)

theorem beval_spec (A : Option Addr) (n c : Nat) (p : List Nat) (w : World) (ha : Has (sl 1 A n (nats .u8 p)) w) (hp : ∀ x ∈ p, x < 256) (hn : n ≤ 1073741824) (hcp : n ≤ c) : Spec1 Tryd.prog 86 [.slice A n c, .int .i64 1] w (.int .i64 (evL 3 (bl p) 1 : Nat)) := by
  have hla := nats_len ha
  subst hla
  refine spec_of Tryd.func86 rfl Tryd.ntmps86 rfl ?_
  refine CW.seq ?_
  refine CW.reg [0] rfl ?_   -- 0, binpoly.go:167
  refine s_as 4 rfl rfl ?_
  refine SX.next ?_
  refine CW.seq ?_
  refine CW.seq ?_
  refine CW.reg [0, 1, 2] rfl ?_   -- 1, binpoly.go:168
  refine s_mv 8 rfl rfl ?_
  refine s_rem 9 rfl rfl rfl (by omega) (r := 1) rfl ?_
  refine s_eq 10 rfl rfl rfl (decide_eq_false (by omega)) ?_
  refine SX.next ?_
  refine CW.condF rfl ?_
  refine CW.skip ?_
  refine KN.code ?_
  refine CW.seq ?_
  refine CW.reg [0] rfl ?_   -- 3, binpoly.go:171
  refine s_as 5 rfl rfl ?_
  refine SX.next ?_
  refine CW.seq ?_
  refine CW.seq ?_
  refine CW.reg [0, 1, 2] rfl ?_   -- 4, binpoly.go:172
  refine s_mv 13 rfl rfl ?_
  refine s_len 14 rfl rfl ?_
  refine s_mv 15 rfl rfl ?_
  refine SX.next ?_
  refine CW.block ?_
  refine CW.loop (G := Nat × Nat) (fun q => [(5, .int .i64 (q.2 : Nat)), (13, .slice A p.length c), (14, .int .i64 (p.length : Nat)), (15, .int .i64 (q.1 : Nat))]) (fun _ => Sto w []) (fun q => (q.1 ≤ p.length ∧ q.2 ≤ 8 * q.1) ∧ q.2 % 2 = parB p q.1) (fun q => p.length - q.1) (0, 0) ⟨rfl, rfl, rfl, rfl, trivial⟩ (fun _ h => h) ⟨⟨Nat.zero_le _, Nat.zero_le _⟩, rfl⟩ ?_
  rintro ⟨i, k⟩ ⟨⟨hi, hk⟩, hp2⟩
  simp only at hi hk hp2
  dsimp only
  refine CW.seq ?_
  refine CW.reg [0] rfl ?_   -- 5, binpoly.go:172
  refine s_lt 16 rfl rfl rfl rfl ?_
  refine SX.next ?_
  refine CW.seq ?_
  refine CW.test rfl (fun hc => ?_) (fun hc => ?_)
  · skip
    obtain ⟨z, hz1, hz2, hz3⟩ := pop_all (cf p i) (cf_lt8 hp i)
    refine CW.skip ?_
    refine KN.code ?_
    refine CW.seq ?_
    refine CW.block ?_
    refine CW.seq ?_
    refine CW.reg [0, 1, 2] rfl ?_   -- 6, binpoly.go:172
    refine s_iaV 17 i (fun w hw => hw.old ha) rfl rfl rfl rfl (by omega) ?_
    refine s_ldV 18 (fun w hw => hw.old ha) rfl rfl (by rw [Nat.mul_one]; exact natsAt8 (by omega)) (by omega) ?_
    refine s_as 7 rfl rfl ?_
    refine SX.next ?_
    refine CW.reg [0, 1, 2, 3, 4] rfl ?_   -- 7, binpoly.go:173
    refine s_mv 19 rfl rfl ?_
    refine s_mv 20 rfl rfl ?_
    refine s_call1 21 rfl rfl rfl rfl (fun w hw => ones8_spec _ z w (cf_lt8 hp i) hz1 hz2) (fun _ _ => trivial) ?_
    refine s_add 22 rfl rfl rfl (r := ((k + z : Nat) : Int)) (w64 (by omega)) ?_
    refine s_as 5 rfl rfl ?_
    refine SX.end_ ?_
    refine KN.blk ?_
    refine KN.code ?_
    refine CW.reg [0, 1] rfl ?_   -- 8, binpoly.go:172
    refine s_add 23 rfl rfl rfl (r := ((i + 1 : Nat) : Int)) (w64 (by omega)) ?_
    refine s_mv 15 rfl rfl ?_
    refine SX.end_ ?_
    exact KN.back (i + 1, k + z) ⟨rfl, rfl, rfl, rfl, trivial⟩ (fun _ h => h) ⟨⟨by simp only; omega, by simp only; omega⟩, parB_next hp2 hz3⟩ (by simp only; omega)
  · skip
    obtain rfl : i = p.length := by omega
    rw [parB_ev] at hp2
    refine CW.exit rfl ?_
    refine KN.code ?_
    refine CW.seq ?_
    refine CW.reg [0, 1, 2] rfl ?_   -- 9, binpoly.go:175
    refine s_mv 24 rfl rfl ?_
    refine s_rem 25 rfl rfl rfl (by omega) (r := ((evL 3 (bl p) 1 : Nat) : Int)) (by rw [← hp2]; rfl) ?_
    refine s_as 4 rfl rfl ?_
    refine SX.next ?_
    refine CW.ret ?_
    exact KN.ret (rs := [.tmp 4]) Tryd.results86 rfl (fun w hw => ⟨rfl, hw.nothing⟩)

theorem rbytes_spec (A : Option Addr) (n c : Nat) (p : List Nat) (w : World) (ha : Has (sl 1 A n (nats .u8 p)) w) (hn : n ≤ 1000000) : SpecB Tryd.prog 24 [.slice A n c] w p := by
  have hla := nats_len ha
  subst hla
  refine spec_of Tryd.func24 rfl Tryd.ntmps24 rfl ?_
  refine CW.seq ?_
  refine CW.reg [0] rfl ?_   -- 0, ref.go:117
  refine s_as 2 rfl rfl ?_
  refine SX.next ?_
  refine CW.seq ?_
  refine CW.reg [0, 1, 2, 3, 4, 5] rfl ?_   -- 1, ref.go:117
  refine s_mv 3 rfl rfl ?_
  refine s_len 4 rfl rfl ?_
  refine s_makeC 5 p.length rfl rfl rfl rfl rfl (by unfold maxLen; omega) (fun _ _ => trivial) (fun g0 => ?_)
  refine s_mv 6 rfl rfl ?_
  refine s_app 7 0 rfl rfl rfl rfl (ys := nats .u8 p) (fun w hw => hw.old ha) (nats_one _ _) rfl (by omega) (by unfold maxLen; omega) (by omega) (fun _ _ _ _ => trivial) (fun A2 c2 hc2 => ?_)
  refine s_as 2 rfl rfl ?_
  refine SX.next ?_
  refine CW.ret ?_
  exact KN.ret (rs := [.tmp 2]) Tryd.results24 rfl (fun w hw => ⟨(A2, c2), by rw [Nat.zero_add]; rfl, by omega, by rw [Nat.zero_add] at hw; exact hw⟩)
end Go.Proofs.YtompcfingkoldaaDoor
end
section
/- The document's sums of powers, the chapter's examples, and the statements BinOf and BinCounts. No condition but the errors' variables. -/
namespace Go.Proofs.YtompcfingkoldaaDoor
open Go Go.Lib Go.Sx Go.Fm
set_option maxRecDepth 100000
theorem eX_cf (l : List Int) (i j : Nat) : cf (sumF (eX l) (i + 1)) j = cf (sumF (eX l) i) j ^^^ (if j = (l.getD i 0).toNat then 1 else 0) := by
  show cf (addP (sumF (eX l) i) (eX l i)) j = _
  rw [cf_addP]
  unfold eX
  rw [cf_xP]
theorem toggle_next {l : List Int} {i k : Nat} (hk : l.getD i 0 = (k : Nat)) : (fun j => if j = k then cf (sumF (eX l) i) k ^^^ 1 else cf (sumF (eX l) i) j) = cf (sumF (eX l) (i + 1)) := by
  funext j
  rw [eX_cf, hk, Int.toNat_natCast]
  by_cases h : j = k
  · subst h; rw [if_pos rfl, if_pos rfl]
  · rw [if_neg h, if_neg h, Nat.xor_zero]
theorem sumF_hi {l : List Int} {M : Nat} : ∀ {i : Nat}, (∀ j, j < i → (l.getD j 0).toNat ≤ M) → ∀ j, M < j → cf (sumF (eX l) i) j = 0
  | 0, _, j, _ => cf_nil j
  | i + 1, h, j, hj => by
    rw [eX_cf, sumF_hi (i := i) (fun j hj => h j (by omega)) j hj, if_neg (by have := h i (by omega); omega)]
    rfl
theorem nzP_tab {l : List Int} {M i : Nat} (h : ∀ j, j < i → (l.getD j 0).toNat ≤ M) : nzP (tabN (M + 1) (cf (sumF (eX l) i))) (tabN (M + 1) (cf (sumF (eX l) i))).length = sumF (eX l) i := by
  have hb := sumF_b1 (eX_b1 l) i
  refine (nzP_b1 _ _).tr.ext hb.tr (fun j => ?_)
  rw [cf_nzP, tabN_len]
  split
  · rename_i hj
    have e : (tabN (M + 1) (cf (sumF (eX l) i))).getD j 0 = ((cf (sumF (eX l) i) j : Nat) : Int) := by
      unfold tabN
      rw [tab_getD, if_pos hj]
    unfold nzF
    rw [e]
    have := hb.le j
    split <;> omega
  · exact (sumF_hi h j (by omega)).symm

theorem rof_spec (A : Option Addr) (n c : Nat) (l : List Int) (w : World) (ha : Has (sl 1 A n (ints .i64 l)) w) (hn : n ≤ 1000000) (hr : ∀ j, j < l.length → 0 ≤ l.getD j 0 ∧ l.getD j 0 ≤ 2048) : SpecB Tryd.prog 181 [.slice A n c] w (bys (sumF (eX l) l.length)) := by
  have hla := ints_len ha
  subst hla
  refine spec_of Tryd.func181 rfl Tryd.ntmps181 rfl ?_
  refine CW.seq ?_
  refine CW.reg [0] rfl ?_   -- 0, binpoly.go:40
  refine s_as 2 rfl rfl ?_
  refine SX.next ?_
  refine CW.seq ?_
  refine CW.reg [0] rfl ?_   -- 1, binpoly.go:41
  refine s_as 3 rfl rfl ?_
  refine SX.next ?_
  refine CW.seq ?_
  refine CW.seq ?_
  refine CW.reg [0] rfl ?_   -- 2, binpoly.go:42
  refine s_as 4 rfl rfl ?_
  refine SX.next ?_
  refine CW.block ?_
  refine CW.loop (G := Nat × Nat) (fun q => [(0, .slice A l.length c), (3, .int .i64 (q.2 : Nat)), (4, .int .i64 (q.1 : Nat))]) (fun _ => Sto w []) (fun q => (q.1 ≤ l.length ∧ q.2 ≤ 2048) ∧ ∀ j, j < q.1 → (l.getD j 0).toNat ≤ q.2) (fun q => l.length - q.1) (0, 0) ⟨rfl, rfl, rfl, trivial⟩ (fun _ h => h) ⟨⟨Nat.zero_le _, Nat.zero_le _⟩, fun j hj => by simp at hj⟩ ?_
  rintro ⟨i, M⟩ ⟨⟨hi, hM⟩, hmx⟩
  simp only at hi hM hmx
  dsimp only
  refine CW.seq ?_
  refine CW.seq ?_
  refine CW.reg [0, 1, 2, 3] rfl ?_   -- 3, binpoly.go:42
  refine s_mv 7 rfl rfl ?_
  refine s_mv 8 rfl rfl ?_
  refine s_len 9 rfl rfl ?_
  refine s_lt 10 rfl rfl rfl rfl ?_
  refine SX.next ?_
  refine CW.test rfl (fun hc => ?_) (fun hc => ?_)
  · skip
    obtain ⟨k, hk⟩ := Int.eq_ofNat_of_zero_le (hr i (by omega)).1
    have hk2 : k ≤ 2048 := by have := (hr i (by omega)).2; omega
    refine CW.skip ?_
    refine KN.code ?_
    refine CW.seq ?_
    refine CW.block ?_
    refine CW.reg [0, 1, 2, 3, 4, 5, 6] rfl ?_   -- 5, binpoly.go:43
    refine s_mv 13 rfl rfl ?_
    refine s_mv 14 rfl rfl ?_
    refine s_mv 15 rfl rfl ?_
    refine s_iaV 16 i (fun w hw => hw.old ha) rfl rfl rfl rfl (by omega) ?_
    refine s_ldV 17 (v := .int .i64 (k : Nat)) (fun w hw => hw.old ha) rfl rfl (by rw [Nat.mul_one, intsAt (by omega), hk]) (by omega) ?_
    refine s_max 18 rfl rfl rfl (r := ((max M k : Nat) : Int)) (by split <;> omega) ?_
    refine s_as 3 rfl rfl ?_
    refine SX.end_ ?_
    refine KN.blk ?_
    refine KN.code ?_
    refine CW.reg [0, 1, 2] rfl ?_   -- 4, binpoly.go:42
    refine s_mv 11 rfl rfl ?_
    refine s_add 12 rfl rfl rfl (r := ((i + 1 : Nat) : Int)) (w64 (by omega)) ?_
    refine s_as 4 rfl rfl ?_
    refine SX.end_ ?_
    exact KN.back (i + 1, max M k) ⟨rfl, rfl, rfl, trivial⟩ (fun _ h => h) ⟨⟨by simp only; omega, by simp only; omega⟩, fun j hj => by
  simp only at hj ⊢
  by_cases h : j = i
  · subst h; rw [hk, Int.toNat_natCast]; omega
  · have := hmx j (by omega); omega⟩ (by simp only; omega)
  · skip
    obtain rfl : i = l.length := by omega
    refine CW.exit rfl ?_
    refine KN.code ?_
    refine CW.seq ?_
    refine CW.reg [0, 1, 2, 3] rfl ?_   -- 6, binpoly.go:45
    refine s_mv 19 rfl rfl ?_
    refine s_add 20 rfl rfl rfl (r := ((M + 1 : Nat) : Int)) (w64 (by omega)) ?_
    refine s_make 21 (M + 1) rfl rfl rfl rfl rfl (by omega) (fun _ _ => trivial) (fun go => ?_)
    refine s_as 5 rfl rfl ?_
    refine SX.next ?_
    refine CW.seq ?_
    refine CW.seq ?_
    refine CW.reg [0] rfl ?_   -- 7, binpoly.go:46
    refine s_as 6 rfl rfl ?_
    refine SX.next ?_
    refine CW.block ?_
    refine CW.loop (G := Nat) (fun i => [(0, .slice A l.length c), (5, .slice (some ⟨go, 0, none⟩) (M + 1) (M + 1)), (6, .int .i64 (i : Nat))]) (fun i => Sto w [blk go 3 (ints .i64 (tabN (M + 1) (cf (sumF (eX l) i)))).toArray]) (fun i => i ≤ l.length) (fun i => l.length - i) 0 ⟨rfl, rfl, rfl, trivial⟩ (fun _ h => by rw [show tabN (M + 1) (cf (sumF (eX l) 0)) = tab (M + 1) (fun _ => 0) from tab_cong (fun j _ => by rw [show sumF (eX l) 0 = [] from rfl, cf_nil]; rfl), ← tab_zero]; exact h) (Nat.zero_le _) ?_
    intro i hi
    refine CW.seq ?_
    refine CW.seq ?_
    refine CW.reg [0, 1, 2, 3] rfl ?_   -- 8, binpoly.go:46
    refine s_mv 22 rfl rfl ?_
    refine s_mv 23 rfl rfl ?_
    refine s_len 24 rfl rfl ?_
    refine s_lt 25 rfl rfl rfl rfl ?_
    refine SX.next ?_
    refine CW.test rfl (fun hc => ?_) (fun hc => ?_)
    · skip
      obtain ⟨k, hk⟩ := Int.eq_ofNat_of_zero_le (hr i (by omega)).1
      have hkM : k ≤ M := by have := hmx i (by omega); rw [hk, Int.toNat_natCast] at this; exact this
      have htw := (sumF_b1 (eX_b1 l) i).le k
      refine CW.skip ?_
      refine KN.code ?_
      refine CW.seq ?_
      refine CW.block ?_
      refine CW.regD (.st true 0 (.st true 1 (.st true 2 (.st true 3 (.st true 4 (.st true 5 (.st true 6 (.st true 7 (.st true 8 (.st true 9 (.st true 10 (.st false 11 (.st true 12 (.st true 13 (.st false 14 .done))))))))))))))) (Sto w []) mixed (by kernel_rfl) (fun _ h => h.drew) (fun _ h => h.pick [] rfl) ?_
      refine s_mv 28 rfl rfl ?_
      refine s_mv 29 rfl rfl ?_
      refine s_mv 30 rfl rfl ?_
      refine s_iaV 31 i (fun w hw => hw.old ha) rfl rfl rfl rfl (by omega) ?_
      refine s_ldVS 32 (v := .int .i64 (k : Nat)) (fun w hw => hw.old ha) rfl rfl (by rw [Nat.mul_one, intsAt (by omega), hk]) (by omega) ?_
      refine s_mv 33 rfl rfl ?_
      refine s_mv 34 rfl rfl ?_
      refine s_mv 35 rfl rfl ?_
      refine s_iaV 36 i (fun w hw => hw.old ha) rfl rfl rfl rfl (by omega) ?_
      refine s_ldVS 37 (v := .int .i64 (k : Nat)) (fun w hw => hw.old ha) rfl rfl (by rw [Nat.mul_one, intsAt (by omega), hk]) (by omega) ?_
      refine s_ia0 38 k rfl rfl rfl rfl (by omega) ?_
      refine s_ldB 39 0 rfl rfl rfl (v := .int .i64 (cf (sumF (eX l) i) k : Nat)) (by unfold tabN; exact tab_atA (by omega)) ?_
      refine s_bit 40 rfl rfl rfl rfl (ibit_xor_nat (y := 1) (by omega) (by omega)) ?_
      refine s_ia0 41 k rfl rfl rfl rfl (by omega) ?_
      refine s_stB 0 rfl rfl rfl rfl rfl (by rw [show (ints .i64 (tabN (M + 1) (cf (sumF (eX l) i)))).toArray.size = M + 1 from tab_size]; omega) (fun _ h => h.pick [] rfl) ?_
      refine SX.end_ ?_
      refine KN.blk ?_
      refine KN.code ?_
      refine CW.reg [0, 1, 2] rfl ?_   -- 9, binpoly.go:46
      refine s_mv 26 rfl rfl ?_
      refine s_add 27 rfl rfl rfl (r := ((i + 1 : Nat) : Int)) (w64 (by omega)) ?_
      refine s_as 6 rfl rfl ?_
      refine SX.end_ ?_
      exact KN.back (i + 1) ⟨rfl, rfl, rfl, trivial⟩ (fun _ h => by rw [← toggle_next hk, ← tabN_set]; exact h) (by omega) (by omega)
    · skip
      obtain rfl : i = l.length := by omega
      have hnt := nzP_tab hmx
      have htl := tabN_len (M + 1) (cf (sumF (eX l) l.length))
      refine CW.exit rfl ?_
      refine KN.code ?_
      refine CW.seq ?_
      refine CW.reg [0, 1, 2] rfl ?_   -- 11, binpoly.go:49
      refine s_mv 42 rfl rfl ?_
      refine s_call 43 rfl rfl rfl rfl (fun w hw => by have := rbits_spec (some ⟨go, 0, none⟩) (M + 1) (M + 1) (tabN (M + 1) (cf (sumF (eX l) l.length))) w (Has.cong ((hw.has (i := 0) rfl).blk_sl (m := M + 1) (by exact tab_size.trans (Nat.mul_one _).symm)) rfl) (by omega); rw [hnt] at this; exact this) (fun _ _ => trivial) (fun q hq => ?_)
      refine s_as 2 rfl rfl ?_
      refine SX.next ?_
      refine CW.ret ?_
      exact KN.ret (rs := [.tmp 2]) Tryd.results181 rfl (fun w hw => ⟨q, rfl, hq, hw.pick [0] rfl⟩)

/-! ### The chapter's examples -/
theorem ex_of1 : sumY (eX [4, 1, 0]) ([4, 1, 0] : List Int).length = [19] := by decide +kernel
theorem ex_of2 : sumY (eX [1, 0]) ([1, 0] : List Int).length = [3] := by decide +kernel
theorem ex_mulb : bys (mulP 3 (bl [3]) (bl [3])) = [5] := by decide +kernel
theorem ex_deg : (bl [19]).length = 5 := by decide +kernel
theorem ex_deg3 : (bl [3]).length = 2 := by decide +kernel
theorem ex_exp : exL (bl [19]) = [4, 1, 0] := by decide +kernel
theorem ex_irr : irrP (bl [19]) = true := by decide +kernel

theorem first3_spec (e : Nat → Addr) (w : World) (hnu : Er e w 1) : Spec1 Tryd.prog 71 [] w (.bool true) := by
  refine spec_of Tryd.func71 rfl Tryd.ntmps71 rfl ?_
  refine CW.seq ?_
  refine CW.reg [0] rfl ?_   -- 0, law.go:14
  refine s_as 0 rfl rfl ?_
  refine SX.next ?_
  refine CW.seq ?_
  refine CW.reg [0, 1, 2, 3, 4, 5, 6] rfl ?_   -- 1, law.go:15
  refine s_bsl 10 rfl rfl (cells := #[.int .i64 4, .int .i64 1, .int .i64 0]) (by kernel_rfl) rfl (fun _ _ => trivial) (fun b10 => ?_)
  refine s_call 11 rfl rfl rfl rfl (fun w hw => by have := of_spec (some ⟨b10, 0, none⟩) 3 3 [4, 1, 0] w (Has.cong ((hw.has (i := 0) rfl).blk_sl (m := 3) rfl) rfl) (by omega) (by decide); rw [ex_of1] at this; exact this) (fun _ _ => trivial) (fun q1 hq1 => ?_)
  refine s_mv 9 rfl rfl ?_
  refine s_ext 12 rfl rfl rfl ?_
  refine s_ext 13 rfl rfl rfl ?_
  refine s_as 1 rfl rfl ?_
  refine s_as 2 rfl rfl ?_
  refine SX.next ?_
  refine CW.seq ?_
  refine CW.reg [0, 1, 2, 3, 4, 5, 6] rfl ?_   -- 2, law.go:16
  refine s_bsl 15 rfl rfl (cells := #[.int .i64 1, .int .i64 0]) (by kernel_rfl) rfl (fun _ _ => trivial) (fun b15 => ?_)
  refine s_call 16 rfl rfl rfl rfl (fun w hw => by have := of_spec (some ⟨b15, 0, none⟩) 2 2 [1, 0] w (Has.cong ((hw.has (i := 0) rfl).blk_sl (m := 2) rfl) rfl) (by omega) (by decide); rw [ex_of2] at this; exact this) (fun _ _ => trivial) (fun q2 hq2 => ?_)
  refine s_mv 14 rfl rfl ?_
  refine s_ext 17 rfl rfl rfl ?_
  refine s_ext 18 rfl rfl rfl ?_
  refine s_as 3 rfl rfl ?_
  refine s_as 4 rfl rfl ?_
  refine SX.next ?_
  refine CW.seq ?_
  refine CW.reg [0, 1, 2, 3, 4, 5, 6, 7] rfl ?_   -- 3, law.go:17
  refine s_mv 20 rfl rfl ?_
  refine s_mv 21 rfl rfl ?_
  refine s_call 22 rfl rfl rfl rfl (fun w hw => by have := bmul_spec q2.1 1 q2.2 [3] q2.1 1 q2.2 [3] w ((hw.has (i := 0) rfl).of_own) (by decide) (by omega) hq2 ((hw.has (i := 0) rfl).of_own) (by decide) (by omega) hq2 (by rw [ex_deg3]; omega); rw [ex_mulb] at this; exact this) (fun _ _ => trivial) (fun q3 hq3 => ?_)
  refine s_mv 19 rfl rfl ?_
  refine s_ext 23 rfl rfl rfl ?_
  refine s_ext 24 rfl rfl rfl ?_
  refine s_as 5 rfl rfl ?_
  refine s_as 6 rfl rfl ?_
  refine SX.next ?_
  refine CW.seq ?_
  refine CW.reg [0, 1, 2, 3, 4, 5, 6] rfl ?_   -- 4, law.go:18
  refine s_bsl 26 rfl rfl (cells := #[.int .i64 (-1)]) (by kernel_rfl) rfl (fun _ _ => trivial) (fun b26 => ?_)
  refine s_call1 27 rfl rfl rfl rfl (fun w hw => of_bad (some ⟨b26, 0, none⟩) 1 1 [-1] e w (Has.cong ((hw.has (i := 0) rfl).blk_sl (m := 1) rfl) rfl) (by omega) (hw.er hnu) 0 (by decide) (by decide)) (fun _ _ => trivial) ?_
  refine s_mv 25 rfl rfl ?_
  refine s_ext 28 rfl rfl rfl ?_
  refine s_ext 29 rfl rfl rfl ?_
  refine s_as 7 rfl rfl ?_
  refine s_as 8 rfl rfl ?_
  refine SX.next ?_
  refine CW.seq ?_
  refine CW.reg [0, 1, 2, 3, 4, 5, 6, 7, 8, 9, 10, 11, 12, 13, 14, 15, 16, 17, 18, 19, 20, 21, 22, 23, 24, 25, 26, 27, 28, 29, 30, 31] rfl ?_   -- 5, law.go:19
  refine s_mv 30 rfl rfl ?_
  refine s_eqNN 31 rfl rfl ?_
  refine s_mv 32 rfl rfl ?_
  refine s_mv 33 rfl rfl ?_
  refine s_eqNN 34 rfl rfl ?_
  refine s_pickT 35 rfl rfl rfl ?_
  refine s_mv 36 rfl rfl ?_
  refine s_mv 37 rfl rfl ?_
  refine s_call1 38 rfl rfl rfl rfl (v := .int .i64 4) (fun w hw => by have := bdeg_spec q1.1 1 q1.2 [19] w ((hw.has (i := 4) rfl).of_own) (by decide) (by omega) hq1; rw [ex_deg] at this; exact this) (fun _ _ => trivial) ?_
  refine s_eq 39 rfl rfl rfl (decide_eq_true rfl) ?_
  refine s_pickT 40 rfl rfl rfl ?_
  refine s_mv 41 rfl rfl ?_
  refine s_mv 42 rfl rfl ?_
  refine s_call 43 rfl rfl rfl rfl (fun w hw => by have := bexp_spec q1.1 1 q1.2 [19] w ((hw.has (i := 4) rfl).of_own) (by decide) (by omega) hq1; rw [ex_exp] at this; exact this) (fun _ _ => trivial) (fun q4 hq4 => ?_)
  refine s_bsl 44 rfl rfl (cells := #[.int .i64 4, .int .i64 1, .int .i64 0]) (by kernel_rfl) rfl (fun _ _ => trivial) (fun b44 => ?_)
  refine s_call1 45 rfl rfl rfl rfl (v := .bool true) (fun w hw => by have := sameInts_spec q4.1 (some ⟨b44, 0, none⟩) [4, 1, 0].length q4.2 3 3 ([4, 1, 0].map Int.ofNat) [4, 1, 0] _ (by rw [← nats_ints]; exact ((hw.has (i := 1) rfl).of_own)) (Has.cong ((hw.has (i := 0) rfl).blk_sl (m := 3) rfl) rfl) (by decide); rw [decide_eq_true (by decide)] at this; exact this) (fun _ _ => trivial) ?_
  refine s_pickT 46 rfl rfl rfl ?_
  refine s_mv 47 rfl rfl ?_
  refine s_mv 48 rfl rfl ?_
  refine s_call1 49 rfl rfl rfl rfl (v := .bool true) (fun w hw => by have := birr_spec q1.1 1 q1.2 [19] w ((hw.has (i := 6) rfl).of_own) (by decide) (by omega) hq1; rw [ex_irr] at this; exact this) (fun _ _ => trivial) ?_
  refine s_pickT 50 rfl rfl rfl ?_
  refine s_mv 51 rfl rfl ?_
  refine s_mv 52 rfl rfl ?_
  refine s_bsl 53 rfl rfl (cells := #[.int .u8 5]) (by kernel_rfl) rfl (fun _ _ => trivial) (fun b53 => ?_)
  refine s_call1 54 rfl rfl rfl rfl (v := .bool true) (fun w hw => by have := sameBytes_spec q3.1 1 q3.2 [5] (some ⟨b53, 0, none⟩) 1 1 [5] w ((hw.has (i := 4) rfl).of_own) (by decide) (Has.cong ((hw.has (i := 0) rfl).blk_sl (m := 1) rfl) rfl) (by decide); rw [decide_eq_true rfl] at this; exact this) (fun _ _ => trivial) ?_
  refine s_pickT 55 rfl rfl rfl ?_
  refine s_mv 56 rfl rfl ?_
  refine s_mv 57 rfl rfl ?_
  refine s_ld 58 rfl rfl (fun _ h => h.cell hnu) ?_
  refine s_eqE 59 rfl rfl rfl ?_
  refine s_pickT 60 rfl rfl rfl ?_
  refine s_as 0 rfl rfl ?_
  refine SX.next ?_
  refine CW.ret ?_
  exact KN.ret (rs := [.tmp 0]) Tryd.results71 rfl (fun w hw => ⟨rfl, hw.nothing⟩)
end Go.Proofs.YtompcfingkoldaaDoor
end
section
/- What a slice of bytes that comes in gives a walk. No condition. -/
namespace Go.Sx
open Go Go.ChangeShapes Go.WideShapes
theorem open_slB {H : Type} {enc : TypeId × Value → H} {P : Program} {W : World} {base b0 : Nat} {spare : Nat → Bool} {held : Bool} {t e : TypeId} {v : Value} {d : DataW H} {ps : List MemPlace}
    (ht : P.underlying t = some (.slice e)) (he : P.underlying e = some (.int .u8)) (hc : P.cellsOf e = 1) (hval : Value.okWide P W .any b0 t v) (hd : DataW.Trod enc P W base spare held t v d ps) :
    ∃ A n c p, v = .slice A n c ∧ n ≤ c ∧ (c : Int) ≤ 9223372036854775807 ∧ p.length = n ∧ Has (sl 1 A n (nats .u8 p)) W ∧ ∀ x ∈ p, x < 256 := by
  obtain ⟨A, n, c, zs, hv, h1, h2, h3, h4, h5⟩ := open_slI ht he hc hval hd
  have hb : ∀ z ∈ zs, 0 ≤ z ∧ z < 256 := fun z hz => by
    have := h5 z hz
    simp only [Lit.wf, Bool.and_eq_true, decide_eq_true_eq] at this
    have e1 : IntKind.u8.min = 0 := by decide
    have e2 : IntKind.u8.max = 255 := by decide
    omega
  refine ⟨A, n, c, zs.map Int.toNat, hv, h1, h2, by simpa using h3, ?_, fun x hx => ?_⟩
  · have e2 : nats .u8 (zs.map Int.toNat) = ints .u8 zs := by
      unfold nats ints
      rw [List.map_map]
      exact List.map_congr_left (fun z hz => by
        show Value.int .u8 ((z.toNat : Nat) : Int) = Value.int .u8 z
        rw [Int.toNat_of_nonneg (hb z hz).1])
    rw [e2]
    exact h4
  · obtain ⟨z, hz, rfl⟩ := List.mem_map.1 hx
    have := hb z hz
    omega
end Go.Sx
end
section
/- The statements BinOf and BinCounts, walked. No condition but the errors' variables. -/
namespace Go.Proofs.YtompcfingkoldaaDoor
open Go Go.Lib Go.Sx Go.Fm
set_option maxRecDepth 100000
theorem sumY_tr (l : List Int) (i : Nat) : Tr 8 (sumY (eX l) i) := by rw [sumY_eq]; exact bys_tr (sumF_b1 (eX_b1 l) i).le
theorem xP_le {k : Nat} (h : k ≤ 2048) : (xP k).length ≤ 2049 := by
  unfold xP upP pl
  rw [trim_length]
  have := tl_le ((List.range (k + [1].length)).map fun j => if k ≤ j then cf [1] (j - k) else 0)
  simp at this
  simp
  omega

theorem tmod_lt8 (m : Int) : -8 < m.tmod 8 ∧ m.tmod 8 < 8 := by
  have h1 := Int.emod_nonneg m (b := 8) (by omega)
  have h2 := Int.emod_lt_of_pos m (b := 8) (by omega)
  rw [Int.tmod_eq_emod]
  split <;> omega
theorem dB_val (m : Int) : (m.tmod 8 + 8).tmod 8 = (((m % 8).toNat : Nat) : Int) := by
  have h1 := Int.emod_nonneg m (b := 8) (by omega)
  have h2 := tmod_lt8 m
  rw [Int.tmod_eq_emod_of_nonneg (by omega)]
  have h3 : (m.tmod 8 + 8) % 8 = m % 8 := by
    rw [Int.tmod_eq_emod]
    split <;> omega
  rw [h3]
  omega
/-- Which degree a number makes. -/
def dB (m : Int) : Nat := (m % 8).toNat + 1
theorem dB_bd (m : Int) : 1 ≤ dB m ∧ dB m ≤ 8 := by unfold dB; omega
def by2 (x : Nat) : List Nat := [x % 256, (x >>> 8) % 256]
def irrX (x : Nat) : Bool := irrP (bl (by2 x))
theorem by2_lt (x : Nat) : ∀ y ∈ by2 x, y < 256 := fun y hy => by
  simp [by2] at hy
  omega
theorem deg_all : (List.range 9).all (fun D => (List.range (2 ^ D)).all (fun k => (bl (by2 (2 ^ D + k))).length == D + 1)) = true := by decide +kernel
theorem deg_by2 {D k : Nat} (hD : D ≤ 8) (hk : k < 2 ^ D) : (bl (by2 (2 ^ D + k))).length = D + 1 := by
  have := List.all_eq_true.1 deg_all D (List.mem_range.2 (by omega))
  have := List.all_eq_true.1 this k (List.mem_range.2 hk)
  simpa using this
def cntR (a : Nat) : Nat → Nat
  | 0 => 0
  | k + 1 => if irrX (a + k) then cntR a k + 1 else cntR a k
theorem cntR_le (a : Nat) : ∀ k, cntR a k ≤ k
  | 0 => Nat.le_refl _
  | k + 1 => by
    have := cntR_le a k
    unfold cntR
    split <;> omega
theorem cnt_all : (List.range 8).all (fun i => cntR (2 ^ (i + 1)) (2 ^ (i + 1)) == [2, 1, 2, 3, 6, 9, 18, 30].getD i 0) = true := by decide +kernel
theorem cnt_tab {D : Nat} (h1 : 1 ≤ D) (h2 : D ≤ 8) : (#[Value.int .i64 0, .int .i64 2, .int .i64 1, .int .i64 2, .int .i64 3, .int .i64 6, .int .i64 9, .int .i64 18, .int .i64 30] : Array Value)[D]? = some (.int .i64 (cntR (2 ^ D) (2 ^ D) : Nat)) := by
  have h := List.all_eq_true.1 cnt_all (D - 1) (List.mem_range.2 (by omega))
  rw [show D - 1 + 1 = D by omega, beq_iff_eq] at h
  rw [h]
  have : D = 1 ∨ D = 2 ∨ D = 3 ∨ D = 4 ∨ D = 5 ∨ D = 6 ∨ D = 7 ∨ D = 8 := by omega
  rcases this with rfl | rfl | rfl | rfl | rfl | rfl | rfl | rfl <;> rfl
theorem shlD {D : Nat} (h : D ≤ 62) : IntKind.i64.wrap ((1 : Int) * 2 ^ (min (D : Int).toNat IntKind.i64.bits)) = ((2 ^ D : Nat) : Int) := by
  have := shl_nat (x := 1) h (by rw [Nat.one_mul]; exact Nat.pow_lt_pow_right (by omega) (by omega))
  rw [Nat.one_mul] at this
  exact this
end Go.Proofs.YtompcfingkoldaaDoor
end
