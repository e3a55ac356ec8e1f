/- The ring of polynomials over a field of 2^m elements: plain mathematics, no program. Conditions: the lists hold elements, without noughts at the end. -/
import Derived.Test.YtcjddlcinaedaaaDoorPoly
namespace Go.Proofs.YtcjddlcinaedaaaDoor
open Go.Sx Go.Fm

/-! ### Sequences -/
section
variable {m : Nat}
theorem xs_one {f : Nat → Nat} {k : Nat} : ∀ {n : Nat}, k < n → (∀ i, i < n → i ≠ k → f i = 0) → xs f n = f k
  | 0, h, _ => by omega
  | n + 1, h, hz => by
    unfold xs
    by_cases hk : k = n
    · subst hk
      rw [xs_zero (fun i hi => hz i (by omega) (by omega)), Nat.zero_xor]
    · rw [xs_one (k := k) (by omega) (fun i hi hik => hz i (by omega) hik), hz n (by omega) (fun h => hk h.symm), Nat.xor_zero]
theorem xs_shift (G : Nat → Nat) (k : Nat) : ∀ n, xs (fun i => if k ≤ i then G (i - k) else 0) (k + n) = xs G n
  | 0 => xs_zero (fun i hi => if_neg (by omega))
  | n + 1 => by
    show xs _ (k + n) ^^^ (if k ≤ k + n then G (k + n - k) else 0) = xs G n ^^^ G n
    rw [xs_shift G k n, if_pos (by omega), show k + n - k = n by omega]
theorem cv_comm (hm : Ok m) {f g : Nat → Nat} (hf : ∀ j, f j < 2 ^ m) (hg : ∀ j, g j < 2 ^ m) (j : Nat) : cv m f g j = cv m g f j := by
  unfold cv
  rw [xs_back]
  refine xs_congr (fun i hi => ?_)
  rw [gm_comm hm (hf _) (hg _), show j + 1 - 1 - i = j - i by omega, show j - (j - i) = i by omega]
theorem cv_lt (hm : Ok m) {f : Nat → Nat} (hf : ∀ j, f j < 2 ^ m) (g : Nat → Nat) (j : Nat) : cv m f g j < 2 ^ m := xs_lt (fun _ _ => gm_lt hm (hf _) _)
theorem cv_add_left (hm : Ok m) {f g : Nat → Nat} (hf : ∀ j, f j < 2 ^ m) (hg : ∀ j, g j < 2 ^ m) (h : Nat → Nat) (j : Nat) : cv m (fun i => f i ^^^ g i) h j = cv m f h j ^^^ cv m g h j := by
  unfold cv
  rw [← xs_xor]
  exact xs_congr (fun i _ => gm_xor_left hm (hf i) (hg i) _)
theorem cv_add_right (m : Nat) (f g h : Nat → Nat) (j : Nat) : cv m f (fun i => g i ^^^ h i) j = cv m f g j ^^^ cv m f h j := by
  unfold cv
  rw [← xs_xor]
  exact xs_congr (fun i _ => gm_xor_right m _ _ _)
theorem cv_one (m k c : Nat) (g : Nat → Nat) (j : Nat) : cv m (fun i => if i = k then c else 0) g j = if k ≤ j then gm m c (g (j - k)) else 0 := by
  unfold cv
  split
  · rw [xs_one (k := k) (by omega) (fun i _ hi => by dsimp only; rw [if_neg hi, gm_zero_left])]
    dsimp only
    rw [if_pos rfl]
  · exact xs_zero (fun i hi => by dsimp only; rw [if_neg (by omega), gm_zero_left])
theorem cv_zero (m : Nat) (g : Nat → Nat) (j : Nat) : cv m (fun _ => 0) g j = 0 := xs_zero (fun _ _ => gm_zero_left m _)
theorem cv_congr {f f' g g' : Nat → Nat} {j : Nat} (h1 : ∀ i, i ≤ j → f i = f' i) (h2 : ∀ i, i ≤ j → g i = g' i) : cv m f g j = cv m f' g' j :=
  xs_congr (fun i hi => by rw [h1 i (by omega), h2 (j - i) (by omega)])
theorem xs_ext {F : Nat → Nat} {i j : Nat} (h : i ≤ j) : xs F (i + 1) = xs (fun k => if k ≤ i then F k else 0) (j + 1) := by
  rw [show j + 1 = i + 1 + (j - i) by omega, xs_more (f := fun k => if k ≤ i then F k else 0) (n := i + 1) (fun k hk => if_neg (by omega))]
  exact xs_congr (fun k hk => (if_pos (by omega)).symm)
theorem cv_assoc (hm : Ok m) {f g h : Nat → Nat} (hf : ∀ j, f j < 2 ^ m) (hg : ∀ j, g j < 2 ^ m) (hh : ∀ j, h j < 2 ^ m) (j : Nat) : cv m (cv m f g) h j = cv m f (cv m g h) j := by
  have e1 : cv m (cv m f g) h j = xs (fun i => xs (fun k => if k ≤ i then gm m (gm m (f k) (g (i - k))) (h (j - i)) else 0) (j + 1)) (j + 1) := by
    refine xs_congr (fun i hi => ?_)
    show gm m (xs _ (i + 1)) _ = _
    rw [gm_xs_left hm _ _ (fun k _ => gm_lt hm (hf _) _)]
    exact xs_ext (by omega)
  have e2 : cv m f (cv m g h) j = xs (fun k => xs (fun i => if k ≤ i then gm m (gm m (f k) (g (i - k))) (h (j - i)) else 0) (j + 1)) (j + 1) := by
    refine xs_congr (fun k hk => ?_)
    show gm m _ (xs _ (j - k + 1)) = _
    rw [gm_xs_right]
    have := xs_shift (fun l => gm m (gm m (f k) (g l)) (h (j - k - l))) k (j - k + 1)
    rw [show k + (j - k + 1) = j + 1 by omega] at this
    rw [← show _ = xs (fun l => gm m (f k) (gm m (g l) (h (j - k - l)))) (j - k + 1) from xs_congr (fun l _ => gm_assoc hm (hf k) (hg l) (hh _)), ← this]
    refine xs_congr (fun i hi => ?_)
    by_cases h : k ≤ i
    · rw [if_pos h, if_pos h, show j - k - (i - k) = j - i by omega]
    · rw [if_neg h, if_neg h]
  rw [e1, e2, xs_swap]
end

/-! ### Lists -/
section
variable {m : Nat} (hm : Ok m)
theorem Tr.c {a : List Nat} (h : Tr m a) (j : Nat) : cf a j < 2 ^ m := cf_lt h.lt (Nat.two_pow_pos m) j
theorem Tr.ext {a b : List Nat} (ha : Tr m a) (hb : Tr m b) (h : ∀ j, cf a j = cf b j) : a = b := by rw [← ha.eq, ← hb.eq]; exact trim_eq h
theorem nil_tr (m : Nat) : Tr m [] := ⟨fun _ h => (by cases h), rfl⟩
include hm
omit hm in
theorem addP_tr (_hm : Ok m) {a b : List Nat} (ha : Tr m a) (hb : Tr m b) : Tr m (addP a b) := pl_tr (fun j => xor_lt (ha.c j) (hb.c j))
theorem mulP_tr {a b : List Nat} (ha : Tr m a) (_hb : Tr m b) : Tr m (mulP m a b) := pl_tr (cv_lt hm ha.c _)
theorem scaleP_tr {a : List Nat} (ha : Tr m a) (x : Nat) : Tr m (scaleP m a x) := pl_tr (fun j => gm_lt hm (ha.c j) x)
theorem quotP_tr {a b : List Nat} (ha : Tr m a) : Tr m (quotP m a b) := pl_tr (divQ_lt hm _ ha.c)
omit hm in
theorem cf_mulP (m : Nat) (a b : List Nat) (j : Nat) : cf (mulP m a b) j = cv m (cf a) (cf b) j := by
  unfold mulP
  rw [cf_pl]
  split
  · rfl
  · refine (xs_zero (fun i hi => ?_)).symm
    by_cases h : i < a.length
    · rw [cf_out (l := b) (by omega), gm_zero_right]
    · rw [cf_out (l := a) (by omega), gm_zero_left]
omit hm in
theorem Tr.nil_of {a : List Nat} (h : Tr m a) (hz : ∀ j, cf a j = 0) : a = [] := h.ext (nil_tr m) (fun j => by rw [hz, cf_nil])
theorem mulP_comm {a b : List Nat} (ha : Tr m a) (hb : Tr m b) : mulP m a b = mulP m b a := (mulP_tr hm ha hb).ext (mulP_tr hm hb ha) (fun j => by rw [cf_mulP, cf_mulP, cv_comm hm ha.c hb.c])
theorem mulP_assoc {a b c : List Nat} (ha : Tr m a) (hb : Tr m b) (hc : Tr m c) : mulP m (mulP m a b) c = mulP m a (mulP m b c) :=
  (mulP_tr hm (mulP_tr hm ha hb) hc).ext (mulP_tr hm ha (mulP_tr hm hb hc)) (fun j => by
    rw [cf_mulP, cf_mulP, cv_congr (f' := cv m (cf a) (cf b)) (g' := cf c) (fun i _ => cf_mulP m a b i) (fun _ _ => rfl), cv_assoc hm ha.c hb.c hc.c]
    exact (cv_congr (fun _ _ => rfl) (fun i _ => cf_mulP m b c i)).symm)
theorem mulP_add_left {a b c : List Nat} (ha : Tr m a) (hb : Tr m b) (hc : Tr m c) : mulP m (addP a b) c = addP (mulP m a c) (mulP m b c) :=
  (mulP_tr hm (addP_tr hm ha hb) hc).ext (addP_tr hm (mulP_tr hm ha hc) (mulP_tr hm hb hc)) (fun j => by
    rw [cf_mulP, cf_addP, cf_mulP, cf_mulP, ← cv_add_left hm ha.c hb.c]
    exact cv_congr (fun i _ => cf_addP a b i) (fun _ _ => rfl))
theorem mulP_add_right {a b c : List Nat} (ha : Tr m a) (hb : Tr m b) (hc : Tr m c) : mulP m a (addP b c) = addP (mulP m a b) (mulP m a c) :=
  (mulP_tr hm ha (addP_tr hm hb hc)).ext (addP_tr hm (mulP_tr hm ha hb) (mulP_tr hm ha hc)) (fun j => by
    rw [cf_mulP, cf_addP, cf_mulP, cf_mulP, ← cv_add_right]
    exact cv_congr (fun _ _ => rfl) (fun i _ => cf_addP b c i))
theorem addP_assoc {a b c : List Nat} (ha : Tr m a) (hb : Tr m b) (hc : Tr m c) : addP (addP a b) c = addP a (addP b c) :=
  (addP_tr hm (addP_tr hm ha hb) hc).ext (addP_tr hm ha (addP_tr hm hb hc)) (fun j => by simp only [cf_addP]; exact Nat.xor_assoc _ _ _)
theorem addP_self {a : List Nat} (ha : Tr m a) : addP a a = [] := (addP_tr hm ha ha).nil_of (fun j => by rw [cf_addP, Nat.xor_self])
theorem addP_nil {a : List Nat} (ha : Tr m a) : addP a [] = a := (addP_tr hm ha (nil_tr m)).ext ha (fun j => by rw [cf_addP, cf_nil, Nat.xor_zero])
theorem nil_addP {a : List Nat} (ha : Tr m a) : addP [] a = a := by rw [addP_comm]; exact addP_nil hm ha
theorem addP_cancel {a b : List Nat} (ha : Tr m a) (hb : Tr m b) : addP a (addP a b) = b := by rw [← addP_assoc hm ha ha hb, addP_self hm ha, nil_addP hm hb]
omit hm in
theorem mulP_nil_l (m : Nat) (b : List Nat) : mulP m [] b = [] := mulP_nil (.inl rfl)
omit hm in
theorem mulP_nil_r (m : Nat) (a : List Nat) : mulP m a [] = [] := mulP_nil (.inr rfl)
omit hm in
theorem len_le_of {a : List Nat} (ha : Tr m a) {n : Nat} (h : ∀ j, n ≤ j → cf a j = 0) : a.length ≤ n := by
  have : tl a ≤ n := tl_le_cf h
  rw [← ha.eq, trim_length]
  exact this
theorem addP_len {a b : List Nat} (ha : Tr m a) (hb : Tr m b) {n : Nat} (h1 : a.length ≤ n) (h2 : b.length ≤ n) : (addP a b).length ≤ n :=
  len_le_of (addP_tr hm ha hb) (fun j hj => by rw [cf_addP, cf_out (by omega), cf_out (by omega), Nat.xor_self])
omit hm in
theorem mulP_top (_hm : Ok m) {a b : List Nat} (ha0 : a.length ≠ 0) (hb0 : b.length ≠ 0) : cf (mulP m a b) (a.length + b.length - 2) = gm m (cf a (a.length - 1)) (cf b (b.length - 1)) := by
  rw [cf_mulP]
  unfold cv
  rw [xs_one (k := a.length - 1) (by omega) (fun i hi hne => ?_)]
  · rw [show a.length + b.length - 2 - (a.length - 1) = b.length - 1 by omega]
  · by_cases h : i < a.length
    · rw [cf_out (l := b) (by omega), gm_zero_right]
    · rw [cf_out (l := a) (by omega), gm_zero_left]
theorem mulP_len {a b : List Nat} (ha : Tr m a) (hb : Tr m b) (ha0 : a.length ≠ 0) (hb0 : b.length ≠ 0) : (mulP m a b).length = a.length + b.length - 1 := by
  have h1 : (mulP m a b).length ≤ a.length + b.length - 1 := by
    unfold mulP pl
    rw [trim_length]
    have := tl_le ((List.range (a.length + b.length - 1)).map fun j => cv m (cf a) (cf b) j)
    simpa using this
  have h2 : ¬ (mulP m a b).length ≤ a.length + b.length - 2 := fun h => by
    have h3 := mulP_top hm ha0 hb0 (a := a) (b := b)
    rw [cf_out h] at h3
    exact gm_ne_zero hm (ha.c _) (hb.c _) (ha.top ha0) (hb.top hb0) h3.symm
  omega
theorem mulP_eq_nil {a b : List Nat} (ha : Tr m a) (hb : Tr m b) (h : mulP m a b = []) : a = [] ∨ b = [] := by
  by_cases ha0 : a.length = 0
  · exact .inl (List.eq_nil_of_length_eq_zero ha0)
  · by_cases hb0 : b.length = 0
    · exact .inr (List.eq_nil_of_length_eq_zero hb0)
    · have := mulP_len hm ha hb ha0 hb0
      rw [h] at this
      simp at this
      omega
theorem mulP_cancel {a b c : List Nat} (ha : Tr m a) (hb : Tr m b) (hc : Tr m c) (hc0 : c ≠ []) (h : mulP m a c = mulP m b c) : a = b := by
  have h1 : mulP m (addP a b) c = [] := by rw [mulP_add_left hm ha hb hc, h, addP_self hm (mulP_tr hm hb hc)]
  rcases mulP_eq_nil hm (addP_tr hm ha hb) hc h1 with h2 | h2
  · have := addP_cancel hm ha hb
    rw [h2, addP_nil hm ha] at this
    exact this
  · exact absurd h2 hc0

/-! ### Division -/
theorem divQR {b : List Nat} (hb : ∀ j, cf b j < 2 ^ m) : ∀ (n : Nat) {R : Nat → Nat}, (∀ j, R j < 2 ^ m) → ∀ j, cv m (divQ m b n R) (cf b) j ^^^ divR m b n R j = R j
  | 0, R, _, j => by
    show cv m (fun _ => 0) (cf b) j ^^^ R j = R j
    rw [cv_zero, Nat.zero_xor]
  | n + 1, R, hR, j => by
    have hc : dC m b R n < 2 ^ m := gm_lt hm (hR _) _
    have hR2 := dSi_lt hm (b := b) hR (n := n) hc (i := b.length)
    have ih := divQR hb n hR2 j
    have e : cv m (divQ m b (n + 1) R) (cf b) j = cv m (fun i => (if i = n then dC m b R n else 0) ^^^ divQ m b n (dSi m b R n (dC m b R n) b.length) i) (cf b) j := by
      refine cv_congr (fun i _ => ?_) (fun _ _ => rfl)
      conv => lhs; unfold divQ
      by_cases h : i = n
      · rw [if_pos h, if_pos h, divQ_hi _ _ _ _ _ (by omega), Nat.xor_zero]
      · rw [if_neg h, if_neg h, Nat.zero_xor]
    rw [e, cv_add_left hm (fun i => by split; exact hc; exact Nat.two_pow_pos m) (divQ_lt hm n hR2), cv_one]
    show _ ^^^ _ ^^^ divR m b n _ j = _
    rw [Nat.xor_assoc, ih]
    unfold dSi
    by_cases h1 : n ≤ j
    · rw [if_pos h1]
      by_cases h2 : j < n + b.length
      · rw [if_pos ⟨h1, h2⟩, xlc, Nat.xor_self, Nat.xor_zero]
      · rw [if_neg (by omega), cf_out (by omega), gm_zero_right, Nat.zero_xor]
    · rw [if_neg h1, if_neg (by omega), Nat.zero_xor]
omit hm in
theorem cf_quotP (_hm : Ok m) (a b : List Nat) (j : Nat) : cf (quotP m a b) j = divQ m b (a.length + 1 - b.length) (cf a) j := by
  unfold quotP
  rw [cf_pl]
  split
  · rfl
  · exact (divQ_hi _ _ _ _ _ (by omega)).symm
theorem cf_restP {a b : List Nat} (ha : Tr m a) (hb : Tr m b) (hb0 : b.length ≠ 0) (j : Nat) : cf (restP m a b) j = divR m b (a.length + 1 - b.length) (cf a) j := by
  unfold restP
  rw [cf_pl]
  split
  · rfl
  · by_cases h : b.length - 1 ≤ j
    · exact (rest_hi hm ha.lt hb.lt hb0 (hb.top hb0) j h).symm
    · have h0 : a.length + 1 - b.length = 0 := by omega
      rw [h0]
      exact (cf_out (by omega)).symm
theorem div_eq {a b : List Nat} (ha : Tr m a) (hb : Tr m b) (hb0 : b.length ≠ 0) : addP (mulP m (quotP m a b) b) (restP m a b) = a :=
  (addP_tr hm (mulP_tr hm (quotP_tr hm ha) hb) (restP_tr hm ha)).ext ha (fun j => by
    rw [cf_addP, cf_mulP, cf_restP hm ha hb hb0, cv_congr (fun i _ => cf_quotP hm a b i) (fun _ _ => rfl)]
    exact divQR hm hb.c _ ha.c j)
theorem div_uniq {a b q r : List Nat} (ha : Tr m a) (hb : Tr m b) (hb0 : b.length ≠ 0) (hq : Tr m q) (hr : Tr m r) (hl : r.length < b.length) (h : addP (mulP m q b) r = a) : q = quotP m a b ∧ r = restP m a b := by
  have hQ := quotP_tr hm ha (b := b)
  have hR := restP_tr hm ha (b := b)
  have hRl := restP_len hm ha.lt hb.lt hb0 (hb.top hb0) (a := a)
  have h2 := div_eq hm ha hb hb0
  generalize quotP m a b = Q at *
  generalize restP m a b = R at *
  have hqb := mulP_tr hm hq hb
  have hQb := mulP_tr hm hQ hb
  have key : mulP m (addP q Q) b = addP r R := by
    rw [mulP_add_left hm hq hQ hb]
    refine (addP_tr hm hqb hQb).ext (addP_tr hm hr hR) (fun j => ?_)
    have h3 : cf (addP (mulP m q b) r) j = cf (addP (mulP m Q b) R) j := by rw [h, h2]
    simp only [cf_addP] at h3 ⊢
    have h4 := congrArg (fun z => z ^^^ (cf (mulP m Q b) j ^^^ cf r j)) h3
    rw [show cf (mulP m q b) j ^^^ cf r j ^^^ (cf (mulP m Q b) j ^^^ cf r j) = cf (mulP m q b) j ^^^ cf (mulP m Q b) j by
        rw [Nat.xor_comm (cf (mulP m Q b) j), Nat.xor_assoc, xcc],
      show cf (mulP m Q b) j ^^^ cf R j ^^^ (cf (mulP m Q b) j ^^^ cf r j) = cf r j ^^^ cf R j by
        rw [Nat.xor_comm (cf (mulP m Q b) j) (cf R j), Nat.xor_assoc, xcc, Nat.xor_comm]] at h4
    exact h4
  have hz : addP q Q = [] := by
    refine Classical.byContradiction fun hne => ?_
    have hne2 : (addP q Q).length ≠ 0 := fun h0 => hne (List.eq_nil_of_length_eq_zero h0)
    have h5 := mulP_len hm (addP_tr hm hq hQ) hb hne2 hb0
    rw [key] at h5
    have := addP_len hm hr hR (n := b.length - 1) (by omega) (by omega)
    omega
  have e1 : q = Q := by
    have := addP_cancel hm hq hQ
    rw [hz, addP_nil hm hq] at this
    exact this
  refine ⟨e1, ?_⟩
  rw [hz, mulP_nil_l] at key
  have := addP_cancel hm hr hR
  rw [← key, addP_nil hm hr] at this
  exact this
end
end Go.Proofs.YtcjddlcinaedaaaDoor
