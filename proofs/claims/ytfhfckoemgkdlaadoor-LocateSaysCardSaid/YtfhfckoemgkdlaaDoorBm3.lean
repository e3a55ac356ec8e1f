/- The way of Berlekamp and Massey: of values each second of which is a square, every second fits; of the values of places it finds the places. Condition: Ok m. -/
import Derived.Test.YtfhfckoemgkdlaaDoorBm2
namespace Go.Fm
open Go Go.Proofs.YtfhfckoemgkdlaaDoor
variable {m : Nat} (hm : Ok m)
/-! ### Squares -/
theorem xs_split (F : Nat → Nat) (a : Nat) : ∀ b, xs F (a + b) = xs F a ^^^ xs (fun i => F (a + i)) b
  | 0 => by simp [xs]
  | b + 1 => by show xs F (a + b) ^^^ F (a + b) = _ ^^^ (xs _ b ^^^ F (a + b)); rw [xs_split F a b, Nat.xor_assoc]
include hm
theorem cv_odd {T : Nat → Nat} (hT : ∀ j, T j < 2 ^ m) (l : Nat) : cv m T T (2 * l + 1) = 0 := by
  unfold cv
  rw [show 2 * l + 1 + 1 = (l + 1) + (l + 1) by omega, xs_split, xs_back (fun i => gm m (T (l + 1 + i)) (T (2 * l + 1 - (l + 1 + i))))]
  rw [show xs (fun i => gm m (T (l + 1 + (l + 1 - 1 - i))) (T (2 * l + 1 - (l + 1 + (l + 1 - 1 - i))))) (l + 1) = xs (fun i => gm m (T i) (T (2 * l + 1 - i))) (l + 1) from xs_congr (fun i hi => by
    rw [show l + 1 + (l + 1 - 1 - i) = 2 * l + 1 - i by omega, show 2 * l + 1 - (2 * l + 1 - i) = i by omega, gm_comm hm (hT _) (hT _)]), Nat.xor_self]
theorem cv_even {T : Nat → Nat} (hT : ∀ j, T j < 2 ^ m) (l : Nat) : cv m T T (2 * l) = gm m (T l) (T l) := by
  unfold cv
  rw [show 2 * l + 1 = l + (l + 1) by omega, xs_split, xs_first, xs_back (fun i => gm m (T (l + (i + 1))) (T (2 * l - (l + (i + 1)))))]
  rw [show xs (fun i => gm m (T (l + (l - 1 - i + 1))) (T (2 * l - (l + (l - 1 - i + 1))))) l = xs (fun i => gm m (T i) (T (2 * l - i))) l from xs_congr (fun i hi => by
    rw [show l + (l - 1 - i + 1) = 2 * l - i by omega, show 2 * l - (2 * l - i) = i by omega, gm_comm hm (hT _) (hT _)])]
  rw [show l + 0 = l from rfl, show 2 * l - l = l by omega, Nat.xor_comm (gm m (T l) (T l)), ← Nat.xor_assoc, Nat.xor_self, Nat.zero_xor]
omit hm in
/-- The terms of odd places. -/
def od (f : Nat → Nat) (j : Nat) : Nat := if j % 2 = 1 then f j else 0
omit hm in
def EE (m : Nat) (T f : Nat → Nat) (j : Nat) : Nat := cv m f T j ^^^ od f j
omit hm in
theorem od_lt {f : Nat → Nat} (hf : ∀ j, f j < 2 ^ m) (j : Nat) : od f j < 2 ^ m := by unfold od; split; exact hf j; exact Nat.two_pow_pos m
theorem EE_lt {T f : Nat → Nat} (hf : ∀ j, f j < 2 ^ m) (j : Nat) : EE m T f j < 2 ^ m := xor_lt (cv_lt hm hf _ j) (od_lt hf j)
/-- The lowest term that is there is of an odd place. -/
theorem EE_low {T f : Nat → Nat} (hT : ∀ j, T j < 2 ^ m) (hf : ∀ j, f j < 2 ^ m) (h0 : T 0 = 0) {l : Nat} (hsq : ∀ i, i ≤ l → T (2 * i) = gm m (T i) (T i)) (hz : ∀ i, i < 2 * l → EE m T f i = 0) : EE m T f (2 * l) = 0 := by
  have e1 : EE m T f (2 * l) = cv m f T (2 * l) := by unfold EE od; rw [if_neg (by omega), Nat.xor_zero]
  have e2 : cv m f T (2 * l) = cv m (od f) T (2 * l) ^^^ cv m f (cv m T T) (2 * l) := by
    unfold cv
    rw [← xs_xor]
    refine xs_congr (fun i hi => ?_)
    by_cases ho : i % 2 = 1
    · have := cv_odd hm hT ((2 * l - i) / 2)
      rw [show 2 * ((2 * l - i) / 2) + 1 = 2 * l - i by omega] at this
      unfold cv at this
      unfold od
      rw [if_pos ho, this, gm_zero_right, Nat.xor_zero]
    · have := cv_even hm hT ((2 * l - i) / 2)
      rw [← hsq _ (by omega), show 2 * ((2 * l - i) / 2) = 2 * l - i by omega] at this
      unfold cv at this
      unfold od
      rw [if_neg ho, this, gm_zero_left, Nat.zero_xor]
  have e3 : cv m (EE m T f) T (2 * l) = cv m (cv m f T) T (2 * l) ^^^ cv m (od f) T (2 * l) := cv_add_left hm (fun j => cv_lt hm hf _ j) (od_lt hf) T (2 * l)
  rw [cv_assoc hm hf hT hT, Nat.xor_comm, ← e2] at e3
  rw [e1, ← e3]
  refine xs_zero (fun i hi => ?_)
  by_cases h : i = 2 * l
  · rw [h, Nat.sub_self, h0, gm_zero_right]
  · rw [hz i (by omega), gm_zero_left]
omit hm in
theorem od_sh2 (f : Nat → Nat) (j : Nat) : od (sh1 (sh1 f)) (j + 2) = od f j := by
  unfold od sh1
  rw [show (j + 2) % 2 = j % 2 by omega, if_pos (show 1 ≤ j + 2 by omega), if_pos (show 1 ≤ j + 2 - 1 by omega)]
  congr 1
theorem EE_sh2 (T f : Nat → Nat) (j : Nat) : EE m T (sh1 (sh1 f)) (j + 2) = EE m T f j := by
  have := hm
  unfold EE
  rw [od_sh2, cv_sh1, cv_sh1]
omit hm in
theorem EE_sh0 (T f : Nat → Nat) (_hT0 : T 0 = 0) : EE m T (sh1 (sh1 f)) 0 = 0 ∧ EE m T (sh1 (sh1 f)) 1 = 0 := by
  constructor
  · unfold EE cv od
    simp [xs, sh1, gm_zero_left]
  · unfold EE cv od
    simp [xs, sh1, gm_zero_left]
theorem EE_add {T f g : Nat → Nat} (hT : ∀ j, T j < 2 ^ m) (hf : ∀ j, f j < 2 ^ m) (hg : ∀ j, g j < 2 ^ m) {c : Nat} (hc : c < 2 ^ m) (j : Nat) : EE m T (fun i => f i ^^^ gm m (g i) c) j = EE m T f j ^^^ gm m (EE m T g j) c := by
  have h1 : cv m (fun i => f i ^^^ gm m (g i) c) T j = cv m f T j ^^^ gm m (cv m g T j) c := by
    rw [cv_add_left hm hf (fun j => gm_lt hm (hg j) c), cv_scale hm hg hT hc]
  have h2 : od (fun i => f i ^^^ gm m (g i) c) j = od f j ^^^ gm m (od g j) c := by
    unfold od
    split
    · rfl
    · rw [gm_zero_left]; rfl
  unfold EE
  rw [h1, h2, gm_xor_left hm (cv_lt hm hg _ j) (od_lt hg j)]
  generalize cv m f T j = a
  generalize gm m (cv m g T j) c = b
  generalize od f j = d
  generalize gm m (od g j) c = e
  rw [Nat.xor_assoc, Nat.xor_assoc, xlc b d e]
theorem cv_sh1r {f g : Nat → Nat} (hf : ∀ j, f j < 2 ^ m) (hg : ∀ j, g j < 2 ^ m) (j : Nat) : cv m f (sh1 g) (j + 1) = cv m f g j := by
  have hs : ∀ j, sh1 g j < 2 ^ m := fun j => by unfold sh1; split; exact hg _; exact Nat.two_pow_pos m
  rw [cv_comm hm hf hs, cv_sh1, cv_comm hm hg hf]
omit hm in
structure SqI (m : Nat) (s : List Nat) (q : Bm) (n : Nat) : Prop where
  c : ∀ j, j ≤ n → EE m (sh1 (cf s)) (cf q.c) j = 0
  b : ∀ j, j ≤ n → EE m (sh1 (cf s)) (xk q) j = 0
  e : EE m (sh1 (cf s)) (xk q) (n + 1) = q.e
theorem sq_d {s : List Nat} (hs : ∀ x ∈ s, x < 2 ^ m) {q : Bm} {n : Nat} (h : BmI m s q n) : q.d m s n = EE m (sh1 (cf s)) (cf q.c) (n + 1) := by
  rw [h.dcv]
  unfold EE
  have hod : od (cf q.c) (n + 1) = 0 := by
    unfold od
    split
    · exact h.dc _ (by have := h.Ln; omega)
    · rfl
  rw [hod, Nat.xor_zero, cv_sh1r hm h.tc.c (fun j => cf_lt hs (Nat.two_pow_pos m) j)]
/-- Two values more, the second of which is a square. -/
theorem sq_two {s : List Nat} (hs : ∀ x ∈ s, x < 2 ^ m) {t : Nat} (ht : 2 * t + 2 ≤ s.length) (hsq : ∀ i, 2 * i + 1 < s.length → cf s (2 * i + 1) = gm m (cf s i) (cf s i)) (hI : SqI m s (bmG m (stL m) s (2 * t)) (2 * t)) :
    (bmG m (stL m) s (2 * t + 1)).d m s (2 * t + 1) = 0 ∧ SqI m s (bmG m (stL m) s (2 * t + 2)) (2 * t + 2) := by
  have hsl : ∀ j, cf s j < 2 ^ m := fun j => cf_lt hs (Nat.two_pow_pos m) j
  have hT : ∀ j, sh1 (cf s) j < 2 ^ m := fun j => by unfold sh1; split; exact hsl _; exact Nat.two_pow_pos m
  have hT0 : sh1 (cf s) 0 = 0 := rfl
  have hT2 : ∀ i, i ≤ t + 1 → sh1 (cf s) (2 * i) = gm m (sh1 (cf s) i) (sh1 (cf s) i) := fun i hi => by
    by_cases h0 : i = 0
    · subst h0; rw [Nat.mul_zero, hT0, gm_zero_left]
    · obtain ⟨i, rfl⟩ : ∃ k, i = k + 1 := ⟨i - 1, by omega⟩
      have := hsq i (by omega)
      unfold sh1
      rw [if_pos (by omega), if_pos (by omega), show 2 * (i + 1) - 1 = 2 * i + 1 by omega, this]; rfl
  have h0 := bm_inv hm hs (2 * t)
  have h1 := bm_inv hm hs (2 * t + 1)
  have hx := xk_lt h0
  have hd := sq_d hm hs h0
  -- the polynomial of the next state, up to one place more
  have key : (∀ j, j ≤ 2 * t + 1 → EE m (sh1 (cf s)) (cf (bmG m (stL m) s (2 * t + 1)).c) j = 0) ∧ (∀ j, j ≤ 2 * t + 2 → EE m (sh1 (cf s)) (sh1 (xk (bmG m (stL m) s (2 * t + 1)))) j = 0) ∧ EE m (sh1 (cf s)) (sh1 (xk (bmG m (stL m) s (2 * t + 1)))) (2 * t + 3) = (bmG m (stL m) s (2 * t + 1)).e := by
    obtain ⟨Ic, Ib, Ie⟩ := hI
    have hlow : ∀ g : Nat → Nat, (∀ j, j ≤ 2 * t → EE m (sh1 (cf s)) g j = 0) → ∀ j, j ≤ 2 * t + 2 → EE m (sh1 (cf s)) (sh1 (sh1 g)) j = 0 := fun g hg j hj => by
      by_cases hj2 : 2 ≤ j
      · obtain ⟨j, rfl⟩ : ∃ k, j = k + 2 := ⟨j - 2, by omega⟩
        rw [EE_sh2 hm]; exact hg j (by omega)
      · by_cases hj0 : j = 0
        · subst hj0; exact (EE_sh0 _ g hT0).1
        · obtain rfl : j = 1 := by omega
          exact (EE_sh0 _ g hT0).2
    show (∀ j, j ≤ 2 * t + 1 → EE m (sh1 (cf s)) (cf (bmS m (stL m) s (bmG m (stL m) s (2 * t)) (2 * t)).c) j = 0) ∧ (∀ j, j ≤ 2 * t + 2 → EE m (sh1 (cf s)) (sh1 (xk (bmS m (stL m) s (bmG m (stL m) s (2 * t)) (2 * t)))) j = 0) ∧ EE m (sh1 (cf s)) (sh1 (xk (bmS m (stL m) s (bmG m (stL m) s (2 * t)) (2 * t)))) (2 * t + 3) = (bmS m (stL m) s (bmG m (stL m) s (2 * t)) (2 * t)).e
    generalize bmG m (stL m) s (2 * t) = q at *
    have hdl : q.d m s (2 * t) < 2 ^ m := sumP_lt hm h0.tc.lt _ _
    have hnew : ∀ j, j ≤ 2 * t + 1 → EE m (sh1 (cf s)) (cf (stL m q.c (List.replicate q.k 0 ++ q.b) (q.d m s (2 * t)) q.e)) j = 0 := fun j hj => by
      rw [show cf (stL m q.c (List.replicate q.k 0 ++ q.b) (q.d m s (2 * t)) q.e) = fun i => cf q.c i ^^^ gm m (xk q i) (gm m (q.d m s (2 * t)) (inv m q.e)) from funext (fun i => stL_cf h0 _ i), EE_add hm hT h0.tc.c hx (gm_lt hm hdl _)]
      by_cases hj2 : j ≤ 2 * t
      · rw [Ic j hj2, Ib j hj2, gm_zero_left]; rfl
      · obtain rfl : j = 2 * t + 1 := by omega
        rw [Ie, ← hd, gm_comm hm h0.el (gm_lt hm hdl _), gm_div hm hdl h0.el h0.e0, Nat.xor_self]
    unfold bmS
    by_cases hd0 : q.d m s (2 * t) = 0
    · rw [if_pos hd0]
      refine ⟨fun j hj => ?_, ?_, ?_⟩
      · by_cases hj2 : j ≤ 2 * t
        · exact Ic j hj2
        · obtain rfl : j = 2 * t + 1 := by omega
          show EE m (sh1 (cf s)) (cf q.c) (2 * t + 1) = 0
          rw [← hd]; exact hd0
      · rw [xk_more]; exact hlow _ Ib
      · rw [xk_more, show 2 * t + 3 = 2 * t + 1 + 2 from rfl, EE_sh2 hm]; exact Ie
    · rw [if_neg hd0]
      by_cases h2 : 2 * t < 2 * q.L
      · rw [if_pos h2]
        refine ⟨hnew, ?_, ?_⟩
        · rw [xk_more]; exact hlow _ Ib
        · rw [xk_more, show 2 * t + 3 = 2 * t + 1 + 2 from rfl, EE_sh2 hm]; exact Ie
      · rw [if_neg h2]
        refine ⟨hnew, ?_, ?_⟩
        · rw [xk_one]; exact hlow _ Ic
        · rw [xk_one, show 2 * t + 3 = 2 * t + 1 + 2 from rfl, EE_sh2 hm]; exact hd.symm
  obtain ⟨k1, k2, k3⟩ := key
  have hev : EE m (sh1 (cf s)) (cf (bmG m (stL m) s (2 * t + 1)).c) (2 * t + 2) = 0 := by
    have := EE_low hm hT h1.tc.c hT0 (l := t + 1) hT2 (fun i hi => k1 i (by omega))
    exact this
  have hd1 : (bmG m (stL m) s (2 * t + 1)).d m s (2 * t + 1) = 0 := by rw [sq_d hm hs h1]; exact hev
  refine ⟨hd1, ?_⟩
  have hq : bmG m (stL m) s (2 * t + 2) = ⟨(bmG m (stL m) s (2 * t + 1)).c, (bmG m (stL m) s (2 * t + 1)).b, (bmG m (stL m) s (2 * t + 1)).L, (bmG m (stL m) s (2 * t + 1)).k + 1, (bmG m (stL m) s (2 * t + 1)).e⟩ := if_pos hd1
  rw [hq]
  refine ⟨fun j hj => ?_, ?_, ?_⟩
  · by_cases hj2 : j ≤ 2 * t + 1
    · exact k1 j hj2
    · obtain rfl : j = 2 * t + 2 := by omega
      exact hev
  · rw [xk_more]; exact k2
  · rw [xk_more]; exact k3
omit hm in
theorem sq_start (s : List Nat) : SqI m s ⟨[1], [1], 0, 1, 1⟩ 0 := by
  have h1 : gm m 1 0 = 0 := gm_zero_right m 1
  refine ⟨fun j hj => ?_, fun j hj => ?_, ?_⟩
  · obtain rfl : j = 0 := by omega
    unfold EE cv od sh1; simp [xs, gm_zero_right]
  · obtain rfl : j = 0 := by omega
    unfold EE cv od sh1 xk; simp [xs, gm_zero_right]
  · unfold EE cv od sh1 xk; simp [xs, gm_zero_right, gm_zero_left, cf]
theorem sq_all {s : List Nat} (hs : ∀ x ∈ s, x < 2 ^ m) (hsq : ∀ i, 2 * i + 1 < s.length → cf s (2 * i + 1) = gm m (cf s i) (cf s i)) : ∀ t, 2 * t ≤ s.length → SqI m s (bmG m (stL m) s (2 * t)) (2 * t)
  | 0, _ => sq_start s
  | t + 1, h => (sq_two hm hs (by omega) hsq (sq_all hs hsq t (by omega))).2
/-- Every second value fits. -/
theorem sq_fits {s : List Nat} (hs : ∀ x ∈ s, x < 2 ^ m) (hsq : ∀ i, 2 * i + 1 < s.length → cf s (2 * i + 1) = gm m (cf s i) (cf s i)) {t : Nat} (ht : 2 * t + 2 ≤ s.length) :
    (bmG m (stL m) s (2 * t + 2)).c = (bmG m (stL m) s (2 * t + 1)).c ∧ (bmG m (stL m) s (2 * t + 2)).L = (bmG m (stL m) s (2 * t + 1)).L := by
  have hd := (sq_two hm hs ht hsq (sq_all hm hs hsq t (by omega))).1
  have hq : bmG m (stL m) s (2 * t + 2) = ⟨(bmG m (stL m) s (2 * t + 1)).c, (bmG m (stL m) s (2 * t + 1)).b, (bmG m (stL m) s (2 * t + 1)).L, (bmG m (stL m) s (2 * t + 1)).k + 1, (bmG m (stL m) s (2 * t + 1)).e⟩ := if_pos hd
  rw [hq]
  exact ⟨rfl, rfl⟩
end Go.Fm
