/- The way of Berlekamp and Massey: plain mathematics. Condition: Ok m. -/
import Derived.Test.YtfhfckoemgkdlaaDoorSr
namespace Go.Fm
open Go Go.Proofs.YtfhfckoemgkdlaaDoor
/-- The state of the way. -/
structure Bm where
  c : List Nat
  b : List Nat
  L : Nat
  k : Nat
  e : Nat
/-- The sum that tells whether the next value fits. -/
def sumP (m : Nat) (p s : List Nat) (n t : Nat) : Nat := xs (fun i => gm m (cf p i) (cf s (n - i))) t
def Bm.d (m : Nat) (s : List Nat) (q : Bm) (n : Nat) : Nat := sumP m q.c s n (q.L + 1)
/-- One value more; stp makes the polynomial when it does not fit. -/
def bmS (m : Nat) (stp : List Nat → List Nat → Nat → Nat → List Nat) (s : List Nat) (q : Bm) (n : Nat) : Bm :=
  if q.d m s n = 0 then ⟨q.c, q.b, q.L, q.k + 1, q.e⟩
  else if n < 2 * q.L then ⟨stp q.c (List.replicate q.k 0 ++ q.b) (q.d m s n) q.e, q.b, q.L, q.k + 1, q.e⟩
  else ⟨stp q.c (List.replicate q.k 0 ++ q.b) (q.d m s n) q.e, q.c, n + 1 - q.L, 1, q.d m s n⟩
def bmG (m : Nat) (stp : List Nat → List Nat → Nat → Nat → List Nat) (s : List Nat) : Nat → Bm
  | 0 => ⟨[1], [1], 0, 1, 1⟩
  | n + 1 => bmS m stp s (bmG m stp s n) n
noncomputable def stL (m : Nat) (c sb : List Nat) (d e : Nat) : List Nat := addP c (scaleP m sb (gm m d (inv m e)))
def stF (m : Nat) (c sb : List Nat) (d e : Nat) : List Nat := addP (scaleP m c e) (scaleP m sb d)
/-- b, as many places up. -/
def xk (q : Bm) (i : Nat) : Nat := if q.k ≤ i then cf q.b (i - q.k) else 0
theorem cf_zs (s : Nat) (x : List Nat) (j : Nat) : cf (List.replicate s 0 ++ x) j = if s ≤ j then cf x (j - s) else 0 := by
  unfold cf
  rw [List.getD_eq_getElem?_getD, List.getD_eq_getElem?_getD]
  by_cases h : s ≤ j
  · rw [if_pos h, List.getElem?_append_right (by simpa using h), List.length_replicate]
  · rw [if_neg h, List.getElem?_append_left (by simpa using h)]
    rw [List.getElem?_replicate]
    split <;> rfl
theorem cf_sb (q : Bm) (j : Nat) : cf (List.replicate q.k 0 ++ q.b) j = xk q j := cf_zs _ _ _
def sh1 (f : Nat → Nat) (i : Nat) : Nat := if 1 ≤ i then f (i - 1) else 0
variable {m : Nat} (hm : Ok m)
theorem cv_sh1 (f g : Nat → Nat) (j : Nat) : cv m (sh1 f) g (j + 1) = cv m f g j := by
  unfold cv
  rw [xs_first]
  show gm m (sh1 f 0) _ ^^^ xs (fun i => gm m (sh1 f (i + 1)) (g (j + 1 - (i + 1)))) (j + 1) = _
  rw [show sh1 f 0 = 0 from rfl, gm_zero_left, Nat.zero_xor]
  refine xs_congr (fun i _ => ?_)
  rw [show sh1 f (i + 1) = f i from by simp [sh1], Nat.add_sub_add_right]
include hm
theorem cv_scale {f g : Nat → Nat} (hf : ∀ j, f j < 2 ^ m) (hg : ∀ j, g j < 2 ^ m) {c : Nat} (hc : c < 2 ^ m) (j : Nat) : cv m (fun i => gm m (f i) c) g j = gm m (cv m f g j) c := by
  unfold cv
  rw [gm_xs_left hm c _ (fun i _ => gm_lt hm (hf i) _)]
  refine xs_congr (fun i _ => ?_)
  rw [gm_assoc hm (hf i) hc (hg _), gm_comm hm hc (hg _), ← gm_assoc hm (hf i) (hg _) hc]
omit hm in
theorem cv_cong {f f' g g' : Nat → Nat} (h1 : ∀ i, f i = f' i) (h2 : ∀ i, g i = g' i) (j : Nat) : cv m f g j = cv m f' g' j := by rw [show f = f' from funext h1, show g = g' from funext h2]
/-! ### What is found makes the values -/
structure BmI (m : Nat) (s : List Nat) (q : Bm) (n : Nat) : Prop where
  c0 : cf q.c 0 = 1
  tc : Tr m q.c
  tb : Tr m q.b
  dc : ∀ j, q.L < j → cf q.c j = 0
  zc : ∀ j, q.L ≤ j → j < n → cv m (cf q.c) (cf s) j = 0
  db : ∀ j, n + 1 < j + q.L → xk q j = 0
  zb : ∀ j, n + 1 ≤ j + q.L → j ≤ n → cv m (xk q) (cf s) j = if j = n then q.e else 0
  Ln : q.L ≤ n
  e0 : q.e ≠ 0
  el : q.e < 2 ^ m
  k1 : 1 ≤ q.k
  kb : q.k + q.b.length ≤ n + 2
  cl : q.c.length ≤ n + 1
omit hm in
theorem xk_lt {s : List Nat} {q : Bm} {n : Nat} (h : BmI m s q n) (j : Nat) : xk q j < 2 ^ m := by
  unfold xk
  split
  · exact h.tb.c _
  · exact Nat.two_pow_pos m
omit hm in
theorem sumP_cv {p s : List Nat} {n L : Nat} (hn : L ≤ n) (hp : ∀ j, L < j → cf p j = 0) : sumP m p s n (L + 1) = cv m (cf p) (cf s) n := by
  unfold sumP cv
  have := xs_more (f := fun i => gm m (cf p i) (cf s (n - i))) (n := L + 1) (k := n - L) (fun i hi => by rw [hp i (by omega), gm_zero_left])
  rw [show L + 1 + (n - L) = n + 1 by omega] at this
  exact this.symm
omit hm in
theorem BmI.dcv {s : List Nat} {q : Bm} {n : Nat} (h : BmI m s q n) : q.d m s n = cv m (cf q.c) (cf s) n := sumP_cv h.Ln h.dc
omit hm in
theorem xk_more (q : Bm) (c : List Nat) (L e : Nat) : xk ⟨c, q.b, L, q.k + 1, e⟩ = sh1 (xk q) := by
  funext i
  show (if q.k + 1 ≤ i then cf q.b (i - (q.k + 1)) else 0) = if 1 ≤ i then (if q.k ≤ i - 1 then cf q.b (i - 1 - q.k) else 0) else 0
  by_cases h : q.k + 1 ≤ i
  · rw [if_pos h, if_pos (show 1 ≤ i by omega), if_pos (by omega), show i - (q.k + 1) = i - 1 - q.k by omega]
  · rw [if_neg h]
    by_cases h2 : 1 ≤ i
    · rw [if_pos h2, if_neg (by omega)]
    · rw [if_neg h2]
omit hm in
theorem xk_one (c b : List Nat) (L e : Nat) : xk ⟨b, c, L, 1, e⟩ = sh1 (cf c) := by
  funext i; unfold xk sh1; rfl
theorem BmI.start (s : List Nat) : BmI m s ⟨[1], [1], 0, 1, 1⟩ 0 where
  c0 := rfl
  tc := ⟨fun x hx => by rw [List.mem_singleton.1 hx]; exact one_lt hm, rfl⟩
  tb := ⟨fun x hx => by rw [List.mem_singleton.1 hx]; exact one_lt hm, rfl⟩
  dc := fun j hj => cf_out (by show 1 ≤ j; exact hj)
  zc := fun j _ h => by omega
  db := fun j hj => by
    unfold xk
    show (if 1 ≤ j then cf [1] (j - 1) else 0) = 0
    rw [if_pos (by simp only at hj; omega)]
    exact cf_out (by simp only at hj; show 1 ≤ j - 1; omega)
  zb := fun j h1 h2 => by simp only at h1; omega
  Ln := Nat.le_refl _
  e0 := by decide
  el := one_lt hm
  k1 := Nat.le_refl _
  kb := Nat.le_refl _
  cl := Nat.le_refl _
omit hm in
theorem stL_cf {s : List Nat} {q : Bm} {n : Nat} (_h : BmI m s q n) (d j : Nat) : cf (stL m q.c (List.replicate q.k 0 ++ q.b) d q.e) j = cf q.c j ^^^ gm m (xk q j) (gm m d (inv m q.e)) := by
  unfold stL
  rw [cf_addP, cf_scaleP, cf_sb]
theorem stL_cv {s : List Nat} (hs : ∀ x ∈ s, x < 2 ^ m) {q : Bm} {n : Nat} (h : BmI m s q n) {d : Nat} (hd : d < 2 ^ m) (j : Nat) : cv m (cf (stL m q.c (List.replicate q.k 0 ++ q.b) d q.e)) (cf s) j = cv m (cf q.c) (cf s) j ^^^ gm m (cv m (xk q) (cf s) j) (gm m d (inv m q.e)) := by
  have hg : gm m d (inv m q.e) < 2 ^ m := gm_lt hm hd _
  have hsl : ∀ j, cf s j < 2 ^ m := fun j => cf_lt hs (Nat.two_pow_pos m) j
  rw [cv_cong (f' := fun i => cf q.c i ^^^ gm m (xk q i) (gm m d (inv m q.e))) (g' := cf s) (fun i => stL_cf h d i) (fun _ => rfl), cv_add_left hm h.tc.c (fun j => gm_lt hm (xk_lt h j) _), cv_scale hm (xk_lt h) hsl hg]
theorem BmI.step {s : List Nat} (hs : ∀ x ∈ s, x < 2 ^ m) {q : Bm} {n : Nat} (h : BmI m s q n) : BmI m s (bmS m (stL m) s q n) (n + 1) := by
  have hsl : ∀ j, cf s j < 2 ^ m := fun j => cf_lt hs (Nat.two_pow_pos m) j
  have hd := h.dcv
  have hdl : q.d m s n < 2 ^ m := by rw [hd]; exact cv_lt hm h.tc.c _ n
  have hLn := h.Ln; have hk1 := h.k1; have hkb := h.kb; have hcl := h.cl
  unfold bmS
  by_cases h0 : q.d m s n = 0
  · rw [if_pos h0]
    refine ⟨h.c0, h.tc, h.tb, h.dc, fun j h1 h2 => ?_, fun j hj => ?_, fun j h1 h2 => ?_, by show q.L ≤ n + 1; omega, h.e0, h.el, by show 1 ≤ q.k + 1; omega, by show q.k + 1 + q.b.length ≤ _; omega, by show q.c.length ≤ _; omega⟩
    · by_cases hjn : j < n
      · exact h.zc j h1 hjn
      · obtain rfl : j = n := by omega
        show cv m (cf q.c) (cf s) j = 0
        rw [← hd]; exact h0
    · rw [xk_more]
      simp only at hj
      unfold sh1
      rw [if_pos (by omega)]
      exact h.db _ (by omega)
    · rw [xk_more]
      simp only at h1 ⊢
      obtain ⟨j, rfl⟩ : ∃ i, j = i + 1 := ⟨j - 1, by omega⟩
      rw [cv_sh1, h.zb j (by omega) (by omega)]
      simp
  · rw [if_neg h0]
    have hnc : ∀ j, n + 1 ≤ j + q.L → q.L ≤ j → j ≤ n → cv m (cf (stL m q.c (List.replicate q.k 0 ++ q.b) (q.d m s n) q.e)) (cf s) j = 0 := by
      intro j h1 h2 h3
      rw [stL_cv hm hs h hdl, h.zb j h1 h3]
      by_cases hjn : j = n
      · subst hjn
        rw [if_pos rfl, ← hd, gm_comm hm h.el (gm_lt hm hdl _), gm_div hm hdl h.el h.e0, Nat.xor_self]
      · rw [if_neg hjn, gm_zero_left, h.zc j h2 (by omega)]; rfl
    have hn0 : cf (stL m q.c (List.replicate q.k 0 ++ q.b) (q.d m s n) q.e) 0 = 1 := by
      rw [stL_cf h, h.c0, show xk q 0 = 0 by unfold xk; rw [if_neg (by omega)], gm_zero_left]; rfl
    have htr : Tr m (stL m q.c (List.replicate q.k 0 ++ q.b) (q.d m s n) q.e) := pl_tr (fun j => xor_lt (h.tc.c j) (cf_lt (scaleP_lt hm (fun x hx => by
      rcases List.mem_append.1 hx with hx | hx
      · rw [(List.mem_replicate.1 hx).2]; exact Nat.two_pow_pos m
      · exact h.tb.lt x hx) _) (Nat.two_pow_pos m) j))
    have hle : ∀ t, (∀ j, t < j → cf (stL m q.c (List.replicate q.k 0 ++ q.b) (q.d m s n) q.e) j = 0) → (stL m q.c (List.replicate q.k 0 ++ q.b) (q.d m s n) q.e).length ≤ t + 1 := fun t ht => len_le_of htr (fun j hj => ht j (by omega))
    have hdc : ∀ j, q.L < j → n + 1 < j + q.L → cf (stL m q.c (List.replicate q.k 0 ++ q.b) (q.d m s n) q.e) j = 0 := fun j h1 h2 => by
      rw [stL_cf h, h.dc j h1, h.db j h2, gm_zero_left]; rfl
    have hcl2 := hle (n + 1) (fun j hj => by
      rw [stL_cf h, cf_out (by omega), show xk q j = 0 by unfold xk; split <;> first | rfl | exact cf_out (by omega), gm_zero_left]; rfl)
    by_cases h2 : n < 2 * q.L
    · rw [if_pos h2]
      refine ⟨hn0, htr, h.tb, fun j hj => hdc j hj (by simp only at hj; omega), fun j h1 h3 => hnc j (by simp only at h1; omega) h1 (by omega), fun j hj => ?_, fun j h1 h3 => ?_, by show q.L ≤ n + 1; omega, h.e0, h.el, by show 1 ≤ q.k + 1; omega, by show q.k + 1 + q.b.length ≤ _; omega, hcl2⟩
      · rw [xk_more]
        simp only at hj
        unfold sh1
        rw [if_pos (by omega)]
        exact h.db _ (by omega)
      · rw [xk_more]
        simp only at h1 ⊢
        obtain ⟨j, rfl⟩ : ∃ i, j = i + 1 := ⟨j - 1, by omega⟩
        rw [cv_sh1, h.zb j (by omega) (by omega)]
        simp
    · rw [if_neg h2]
      refine ⟨hn0, htr, h.tc, fun j hj => hdc j (by simp only at hj; omega) (by simp only at hj; omega), fun j h1 h3 => hnc j (by simp only at h1; omega) (by simp only at h1; omega) (by omega), fun j hj => ?_, fun j h1 h3 => ?_, by show n + 1 - q.L ≤ n + 1; omega, h0, hdl, Nat.le_refl _, by show 1 + q.c.length ≤ _; omega, hcl2⟩
      · rw [xk_one]
        simp only at hj
        unfold sh1
        rw [if_pos (by omega)]
        exact h.dc _ (by omega)
      · rw [xk_one]
        simp only at h1 ⊢
        obtain ⟨j, rfl⟩ : ∃ i, j = i + 1 := ⟨j - 1, by omega⟩
        rw [cv_sh1]
        by_cases hjn : j = n
        · subst hjn; rw [if_pos rfl, hd]
        · rw [if_neg (by omega)]; exact h.zc j (by omega) (by omega)
theorem bm_inv {s : List Nat} (hs : ∀ x ∈ s, x < 2 ^ m) : ∀ n, BmI m s (bmG m (stL m) s n) n
  | 0 => BmI.start hm s
  | n + 1 => (bm_inv hs n).step hm hs
/-! ### No shorter one does -/
theorem bm_low {f g s : Nat → Nat} (hf : ∀ j, f j < 2 ^ m) (hg : ∀ j, g j < 2 ^ m) (hs : ∀ j, s j < 2 ^ m) {L K n : Nat} (hfL : ∀ j, L < j → f j = 0) (hgK : ∀ j, K < j → g j = 0) (hg0 : g 0 ≠ 0)
    (hfz : ∀ j, L ≤ j → j < n → cv m f s j = 0) (hfn : cv m f s n ≠ 0) (hgz : ∀ j, K ≤ j → j ≤ n → cv m g s j = 0) : n + 1 ≤ L + K := by
  refine Nat.le_of_not_lt fun hlt => ?_
  have e1 : cv m f (cv m g s) n = 0 := xs_zero (fun i hi => by
    by_cases h : i ≤ L
    · rw [hgz (n - i) (by omega) (by omega), gm_zero_right]
    · rw [hfL i (by omega), gm_zero_left])
  have e2 : cv m g (cv m f s) n = gm m (g 0) (cv m f s n) := by
    unfold cv
    rw [xs_one (k := 0) (by omega) (fun i hi h0 => by
      by_cases h : i ≤ K
      · have := hfz (n - i) (by omega) (by omega)
        unfold cv at this
        rw [this, gm_zero_right]
      · rw [hgK i (by omega), gm_zero_left])]
    rfl
  rw [← cv_assoc hm hf hg hs, cv_congr (f' := cv m g f) (g' := s) (fun i _ => cv_comm hm hf hg i) (fun _ _ => rfl), cv_assoc hm hg hf hs, e2] at e1
  exact gm_ne_zero hm (hg 0) (cv_lt hm hf _ n) hg0 hfn e1
theorem bm_min {s : List Nat} (hs : ∀ x ∈ s, x < 2 ^ m) {g : Nat → Nat} (hg : ∀ j, g j < 2 ^ m) {K : Nat} (hgK : ∀ j, K < j → g j = 0) (hg0 : g 0 ≠ 0) : ∀ n, (∀ j, K ≤ j → j < n → cv m g (cf s) j = 0) → (bmG m (stL m) s n).L ≤ K
  | 0, _ => Nat.zero_le _
  | n + 1, h => by
    have ih := bm_min hs hg hgK hg0 n (fun j h1 h2 => h j h1 (by omega))
    have hi := bm_inv hm hs n
    show (bmS m (stL m) s (bmG m (stL m) s n) n).L ≤ K
    unfold bmS
    split
    · exact ih
    · rename_i h0
      split
      · exact ih
      · have := bm_low hm hi.tc.c hg (fun j => cf_lt hs (Nat.two_pow_pos m) j) hi.dc hgK hg0 hi.zc (by rw [← hi.dcv]; exact h0) (fun j h1 h2 => h j h1 (by omega))
        show n + 1 - _ ≤ K
        omega
end Go.Fm
