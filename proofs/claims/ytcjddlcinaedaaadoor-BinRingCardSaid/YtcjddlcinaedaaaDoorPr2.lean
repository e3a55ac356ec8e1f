/- Values, derivatives, roots and common divisors of polynomials over a field of 2^m elements: plain mathematics, no program. Conditions: the lists hold elements, without noughts at the end. -/
import Derived.Test.YtcjddlcinaedaaaDoorPr
namespace Go.Proofs.YtcjddlcinaedaaaDoor
open Go.Sx Go.Fm

/-! ### Values -/
section
variable {m : Nat}
theorem evL_zero : ∀ {a : List Nat} (_ : ∀ j, cf a j = 0) (x : Nat), evL m a x = 0
  | [], _, _ => rfl
  | y :: r, h, x => by
    show gm m (evL m r x) x ^^^ y = 0
    rw [evL_zero (a := r) (fun j => by rw [← cf_cons_succ y r j]; exact h _) x, gm_zero_left, Nat.zero_xor, ← cf_cons_zero y r]
    exact h 0
theorem evL_congr : ∀ {a b : List Nat} (_ : ∀ j, cf a j = cf b j) (x : Nat), evL m a x = evL m b x
  | [], b, h, x => (evL_zero (fun j => by rw [← h, cf_nil]) x).symm
  | y :: r, [], h, x => evL_zero (fun j => by rw [h, cf_nil]) x
  | y :: r, z :: s, h, x => by
    have h0 := h 0
    rw [cf_cons_zero, cf_cons_zero] at h0
    show gm m (evL m r x) x ^^^ y = gm m (evL m s x) x ^^^ z
    rw [evL_congr (a := r) (b := s) (fun j => by have := h (j + 1); rwa [cf_cons_succ, cf_cons_succ] at this) x, h0]
theorem evL_trim (a : List Nat) (x : Nat) : evL m (trim a) x = evL m a x := evL_congr (cf_trim a) x
variable (hm : Ok m)
include hm
theorem evL_add : ∀ {a b : List Nat} (_ : ∀ x ∈ a, x < 2 ^ m) (_ : ∀ x ∈ b, x < 2 ^ m) (x : Nat), evL m (addP a b) x = evL m a x ^^^ evL m b x
  | [], b, _, _, x => by
    rw [evL_congr (b := b) (fun j => by rw [cf_addP, cf_nil, Nat.zero_xor]) x]
    show _ = 0 ^^^ _
    rw [Nat.zero_xor]
  | y :: r, [], _, _, x => by
    rw [evL_congr (b := y :: r) (fun j => by rw [cf_addP, cf_nil, Nat.xor_zero]) x]
    show _ = _ ^^^ 0
    rw [Nat.xor_zero]
  | y :: r, z :: s, ha, hb, x => by
    have hr : ∀ x ∈ r, x < 2 ^ m := fun x hx => ha x (List.mem_cons_of_mem _ hx)
    have hs : ∀ x ∈ s, x < 2 ^ m := fun x hx => hb x (List.mem_cons_of_mem _ hx)
    rw [evL_congr (b := (y ^^^ z) :: addP r s) (fun j => by
      rw [cf_addP]
      cases j with
      | zero => rw [cf_cons_zero, cf_cons_zero, cf_cons_zero]
      | succ j => rw [cf_cons_succ, cf_cons_succ, cf_cons_succ, cf_addP]) x]
    show gm m (evL m (addP r s) x) x ^^^ (y ^^^ z) = (gm m (evL m r x) x ^^^ y) ^^^ (gm m (evL m s x) x ^^^ z)
    rw [evL_add hr hs x, gm_xor_left hm (evL_lt hm x hr) (evL_lt hm x hs), Nat.xor_assoc, Nat.xor_assoc, xlc (gm m (evL m s x) x)]
theorem evL_scale (c : Nat) (hc : c < 2 ^ m) : ∀ {a : List Nat} (_ : ∀ x ∈ a, x < 2 ^ m) (x : Nat) (_ : x < 2 ^ m), evL m (scaleP m a c) x = gm m (evL m a x) c
  | [], _, x, _ => by
    rw [evL_congr (b := []) (fun j => by rw [cf_scaleP, cf_nil, gm_zero_left]) x]
    exact (gm_zero_left m c).symm
  | y :: r, ha, x, hx => by
    have hr : ∀ x ∈ r, x < 2 ^ m := fun x hx => ha x (List.mem_cons_of_mem _ hx)
    have hy := ha y List.mem_cons_self
    rw [evL_congr (b := gm m y c :: scaleP m r c) (fun j => by
      rw [cf_scaleP]
      cases j with
      | zero => rw [cf_cons_zero, cf_cons_zero]
      | succ j => rw [cf_cons_succ, cf_cons_succ, cf_scaleP]) x]
    show gm m (evL m (scaleP m r c) x) x ^^^ gm m y c = gm m (gm m (evL m r x) x ^^^ y) c
    rw [evL_scale c hc hr x hx, gm_xor_left hm (gm_lt hm (evL_lt hm x hr) _) hy, gm_assoc hm (evL_lt hm x hr) hc hx, gm_comm hm hc hx, gm_assoc hm (evL_lt hm x hr) hx hc]
theorem evL_mul : ∀ {a b : List Nat} (_ : ∀ x ∈ a, x < 2 ^ m) (_ : ∀ x ∈ b, x < 2 ^ m) (x : Nat) (_ : x < 2 ^ m), evL m (mulP m a b) x = gm m (evL m a x) (evL m b x)
  | [], b, _, _, x, _ => by
    rw [mulP_nil_l]
    exact (gm_zero_left m _).symm
  | y :: r, b, ha, hb, x, hx => by
    have hr : ∀ x ∈ r, x < 2 ^ m := fun x hx => ha x (List.mem_cons_of_mem _ hx)
    have hy := ha y List.mem_cons_self
    have hp : ∀ z ∈ mulP m r b, z < 2 ^ m := (pl_tr (cv_lt hm (cf_lt hr (Nat.two_pow_pos m)) _)).lt
    have hp0 : ∀ z ∈ 0 :: mulP m r b, z < 2 ^ m := fun z hz => by
      rcases List.mem_cons.1 hz with rfl | hz
      · exact Nat.two_pow_pos m
      · exact hp z hz
    have hsc : ∀ z ∈ scaleP m b y, z < 2 ^ m := (pl_tr (fun j => gm_lt hm (cf_lt hb (Nat.two_pow_pos m) j) y)).lt
    rw [evL_congr (b := addP (scaleP m b y) (0 :: mulP m r b)) (fun j => by
      rw [cf_mulP, cf_addP, cf_scaleP]
      unfold cv
      rw [xs_first, cf_cons_zero]
      rw [gm_comm hm hy (cf_lt hb (Nat.two_pow_pos m) _)]
      congr 1
      cases j with
      | zero => rw [cf_cons_zero]; rfl
      | succ j =>
        rw [cf_cons_succ, cf_mulP]
        exact xs_congr (fun i hi => by rw [cf_cons_succ, show j + 1 - (i + 1) = j - i by omega])) x]
    rw [evL_add hm hsc hp0, evL_scale hm y hy hb x hx]
    show gm m (evL m b x) y ^^^ (gm m (evL m (mulP m r b) x) x ^^^ 0) = gm m (gm m (evL m r x) x ^^^ y) (evL m b x)
    rw [evL_mul hr hb x hx, Nat.xor_zero, gm_xor_left hm (gm_lt hm (evL_lt hm x hr) _) hy, gm_comm hm (evL_lt hm x hb) hy, Nat.xor_comm]
    congr 1
    rw [gm_assoc hm (evL_lt hm x hr) (evL_lt hm x hb) hx, gm_comm hm (evL_lt hm x hb) hx, ← gm_assoc hm (evL_lt hm x hr) hx (evL_lt hm x hb)]

/-! ### Roots -/
/-- x + r. -/
theorem lin_tr {r : Nat} (hr : r < 2 ^ m) : Tr m [r, 1] := by
  refine ⟨fun x hx => ?_, ?_⟩
  · simp at hx
    rcases hx with rfl | rfl
    · exact hr
    · exact one_lt hm
  · exact trim_of (by simp [tl])
theorem evL_lin {r : Nat} (_hr : r < 2 ^ m) {x : Nat} (hx : x < 2 ^ m) : evL m [r, 1] x = x ^^^ r := by
  show gm m (gm m 0 x ^^^ 1) x ^^^ r = _
  rw [gm_zero_left, Nat.zero_xor, gm_one_left hm hx]
omit hm in
theorem xor_eq_zero' (_hm : Ok m) {a b : Nat} (h : a ^^^ b = 0) : a = b := by
  have := congrArg (fun z => z ^^^ b) h
  simp only [Nat.zero_xor, Nat.xor_assoc, Nat.xor_self, Nat.xor_zero] at this
  exact this
omit hm in
theorem const_root (_hm : Ok m) {R : List Nat} (hR : Tr m R) {r : Nat} (h2 : R.length < 2) (h3 : evL m R r = 0) : R = [] := by
  rcases R with _ | ⟨y, _ | ⟨z, R⟩⟩
  · rfl
  · have h5 : evL m [y] r = y := by
      show gm m 0 r ^^^ y = y
      rw [gm_zero_left, Nat.zero_xor]
    rw [h5] at h3
    exact absurd h3 (hR.top (by simp))
  · simp at h2
    omega
/-- With a root r, x + r divides it. -/
theorem root_div {a : List Nat} (ha : Tr m a) {r : Nat} (hr : r < 2 ^ m) (h : evL m a r = 0) : ∃ q, Tr m q ∧ mulP m q [r, 1] = a := by
  have hl := lin_tr hm hr
  refine ⟨quotP m a [r, 1], quotP_tr hm ha, ?_⟩
  have h1 := div_eq hm ha hl (by simp)
  have h2 := restP_len hm ha.lt hl.lt (by simp) (hl.top (by simp)) (a := a)
  have hR := restP_tr hm ha (b := [r, 1])
  have hQ := quotP_tr hm ha (b := [r, 1])
  have h3 : evL m a r = evL m (restP m a [r, 1]) r := by
    conv => lhs; rw [← h1]
    rw [evL_add hm (mulP_tr hm hQ hl).lt hR.lt, evL_mul hm hQ.lt hl.lt r hr, evL_lin hm hr hr, Nat.xor_self, gm_zero_right, Nat.zero_xor]
  have h4 : restP m a [r, 1] = [] := const_root hm hR h2 (h3.symm.trans h)
  rw [h4, addP_nil hm (mulP_tr hm hQ hl)] at h1
  exact h1
theorem roots_le : ∀ (L : List Nat) {a : List Nat} (_ : Tr m a) (_ : a.length ≠ 0) (_ : L.Nodup) (_ : ∀ x ∈ L, x < 2 ^ m ∧ evL m a x = 0), L.length ≤ a.length - 1
  | [], _, _, _, _, _ => Nat.zero_le _
  | r :: L, a, ha, h0, hn, hL => by
    obtain ⟨hr, hz⟩ := hL r List.mem_cons_self
    obtain ⟨q, hq, rfl⟩ := root_div hm ha hr hz
    have hl := lin_tr hm hr
    have hq0 : q.length ≠ 0 := fun h => h0 (by rw [List.eq_nil_of_length_eq_zero h, mulP_nil_l]; rfl)
    have hlen := mulP_len hm hq hl hq0 (by simp)
    simp only [List.length_cons, List.length_nil] at hlen
    have hn2 := List.nodup_cons.1 hn
    have := roots_le L hq hq0 hn2.2 (fun x hx => by
      obtain ⟨h1, h2⟩ := hL x (List.mem_cons_of_mem _ hx)
      refine ⟨h1, ?_⟩
      rw [evL_mul hm hq.lt hl.lt x h1, evL_lin hm hr h1] at h2
      refine Classical.byContradiction fun hne => ?_
      refine gm_ne_zero hm (evL_lt hm x hq.lt) (xor_lt h1 hr) hne (fun h => ?_) h2
      exact hn2.1 (xor_eq_zero' hm h ▸ hx))
    simp only [List.length_cons]
    omega
omit hm in
theorem rootsN_mem {a : List Nat} {x : Nat} : ∀ {n : Nat}, x ∈ rootsN m a n ↔ x < n ∧ evL m a x = 0
  | 0 => by simp [rootsN]
  | n + 1 => by
    unfold rootsN
    have ih := rootsN_mem (a := a) (x := x) (n := n)
    split
    · rename_i h
      rw [List.mem_append, ih, List.mem_singleton]
      constructor
      · rintro (⟨h1, h2⟩ | rfl)
        · exact ⟨by omega, h2⟩
        · exact ⟨by omega, h⟩
      · rintro ⟨h1, h2⟩
        by_cases hx : x = n
        · exact .inr hx
        · exact .inl ⟨by omega, h2⟩
    · rename_i h
      rw [ih]
      constructor
      · rintro ⟨h1, h2⟩
        exact ⟨by omega, h2⟩
      · rintro ⟨h1, h2⟩
        refine ⟨?_, h2⟩
        by_cases hx : x = n
        · subst hx
          exact absurd h2 h
        · omega
omit hm in
theorem rootsN_nodup (a : List Nat) : ∀ n : Nat, (rootsN m a n).Nodup
  | 0 => List.nodup_nil
  | n + 1 => by
    unfold rootsN
    split
    · rw [List.nodup_append]
      refine ⟨rootsN_nodup a n, by simp, fun x hx y hy => ?_⟩
      have := (rootsN_mem (a := a) (m := m)).1 hx
      simp at hy
      omega
    · exact rootsN_nodup a n
theorem rootsP_le {a : List Nat} (ha : Tr m a) : (rootsP m a).length ≤ a.length - 1 := by
  unfold rootsP
  split
  · simp
  · rename_i h
    exact roots_le hm _ ha h (rootsN_nodup a _) (fun x hx => rootsN_mem.1 hx)

/-! ### Divisors -/
def Dvd (m : Nat) (a b : List Nat) : Prop := ∃ q, Tr m q ∧ mulP m q a = b
theorem dvd_refl {a : List Nat} (ha : Tr m a) : Dvd m a a := by
  have h1 : Tr m [1] := ⟨fun x hx => by simp at hx; subst hx; exact one_lt hm, trim_of (by simp [tl])⟩
  refine ⟨[1], h1, (mulP_tr hm h1 ha).ext ha (fun j => ?_)⟩
  rw [cf_mulP]
  rw [cv_congr (f' := fun i => if i = 0 then 1 else 0) (fun i _ => by cases i with | zero => rfl | succ i => rw [cf_cons_succ, cf_nil, if_neg (by omega)]) (fun _ _ => rfl), cv_one, if_pos (Nat.zero_le _), gm_one_left hm (ha.c _)]
  rfl
omit hm in
theorem dvd_nil (_hm : Ok m) {a : List Nat} : Dvd m a [] := ⟨[], nil_tr m, mulP_nil_l m a⟩
theorem dvd_mul {a b q : List Nat} (ha : Tr m a) (hq : Tr m q) (h : Dvd m a b) : Dvd m a (mulP m q b) := by
  obtain ⟨c, hc, rfl⟩ := h
  exact ⟨mulP m q c, mulP_tr hm hq hc, mulP_assoc hm hq hc ha⟩
theorem dvd_add {a b c : List Nat} (ha : Tr m a) (h1 : Dvd m a b) (h2 : Dvd m a c) : Dvd m a (addP b c) := by
  obtain ⟨p, hp, rfl⟩ := h1
  obtain ⟨q, hq, rfl⟩ := h2
  exact ⟨addP p q, addP_tr hm hp hq, mulP_add_left hm hp hq ha⟩
theorem dvd_trans {a b c : List Nat} (ha : Tr m a) (h1 : Dvd m a b) (h2 : Dvd m b c) : Dvd m a c := by
  obtain ⟨q, hq, rfl⟩ := h2
  exact dvd_mul hm ha hq h1
theorem dvd_of_div {g a b : List Nat} (hg : Tr m g) (ha : Tr m a) (hb : Tr m b) (hb0 : b.length ≠ 0) (h1 : Dvd m g b) (h2 : Dvd m g (restP m a b)) : Dvd m g a := by
  rw [← div_eq hm ha hb hb0]
  exact dvd_add hm hg (dvd_mul hm hg (quotP_tr hm ha) h1) h2
theorem dvd_rest {g a b : List Nat} (hg : Tr m g) (ha : Tr m a) (hb : Tr m b) (hb0 : b.length ≠ 0) (h1 : Dvd m g a) (h2 : Dvd m g b) : Dvd m g (restP m a b) := by
  have hQ := quotP_tr hm ha (b := b)
  have h3 := addP_cancel hm (mulP_tr hm hQ hb) (restP_tr hm ha (b := b))
  rw [div_eq hm ha hb hb0] at h3
  rw [← h3]
  exact dvd_add hm hg (dvd_mul hm hg hQ h2) h1
theorem rest_of_dvd {a b : List Nat} (ha : Tr m a) (hb : Tr m b) (hb0 : b.length ≠ 0) (h : Dvd m b a) : restP m a b = [] := by
  obtain ⟨q, hq, rfl⟩ := h
  exact ((div_uniq hm ha hb hb0 hq (nil_tr m) (by simp; omega) (addP_nil hm (mulP_tr hm hq hb))).2).symm
theorem gcdP_tr : ∀ (k : Nat) {a b : List Nat}, Tr m a → Tr m b → Tr m (gcdP m k a b)
  | 0, _, _, ha, _ => ha
  | k + 1, a, b, ha, hb => by
    unfold gcdP
    split
    · exact ha
    · exact gcdP_tr k hb (restP_tr hm ha)
theorem gcdP_dvd : ∀ (k : Nat) {a b : List Nat}, Tr m a → Tr m b → b.length < k → Dvd m (gcdP m k a b) a ∧ Dvd m (gcdP m k a b) b
  | 0, _, _, _, _, h => by omega
  | k + 1, a, b, ha, hb, h => by
    unfold gcdP
    split
    · rename_i h0
      rw [List.eq_nil_of_length_eq_zero h0]
      exact ⟨dvd_refl hm ha, dvd_nil hm⟩
    · rename_i h0
      have hl := restP_len hm ha.lt hb.lt h0 (hb.top h0) (a := a)
      have hR := restP_tr hm ha (b := b)
      obtain ⟨h1, h2⟩ := gcdP_dvd k hb hR (by omega)
      exact ⟨dvd_of_div hm (gcdP_tr hm k hb hR) ha hb h0 h1 h2, h1⟩
theorem gcdP_most : ∀ (k : Nat) {a b g : List Nat}, Tr m a → Tr m b → Tr m g → Dvd m g a → Dvd m g b → Dvd m g (gcdP m k a b)
  | 0, _, _, _, _, _, _, h, _ => h
  | k + 1, a, b, g, ha, hb, hg, h1, h2 => by
    unfold gcdP
    split
    · exact h1
    · rename_i h0
      exact gcdP_most k hb (restP_tr hm ha) hg h2 (dvd_rest hm hg ha hb h0 h1 h2)
theorem gcdE_tr {a b : List Nat} (ha : Tr m a) (hb : Tr m b) : Tr m (gcdE m a b) := gcdP_tr hm _ ha hb
theorem gcdE_dvd {a b : List Nat} (ha : Tr m a) (hb : Tr m b) : Dvd m (gcdE m a b) a ∧ Dvd m (gcdE m a b) b := gcdP_dvd hm _ ha hb (Nat.lt_succ_self _)
theorem gcdE_most {a b g : List Nat} (ha : Tr m a) (hb : Tr m b) (hg : Tr m g) (h1 : Dvd m g a) (h2 : Dvd m g b) : Dvd m g (gcdE m a b) := gcdP_most hm _ ha hb hg h1 h2

/-! ### Factors that are elements -/
omit hm in
theorem scaleP_len {a : List Nat} (hm : Ok m) (ha : Tr m a) {c : Nat} (hc : c < 2 ^ m) (hc0 : c ≠ 0) : (scaleP m a c).length = a.length := by
  have hs := scaleP_tr hm ha c
  refine Nat.le_antisymm (len_le_of hs (fun j hj => by rw [cf_scaleP, cf_out hj, gm_zero_left])) ?_
  refine len_le_of ha (fun j hj => ?_)
  refine Classical.byContradiction fun hne => ?_
  have := cf_scaleP m a c j
  rw [cf_out hj] at this
  exact gm_ne_zero hm (ha.c j) hc hne hc0 this.symm
theorem scaleP_one {a : List Nat} (ha : Tr m a) : scaleP m a 1 = a := (scaleP_tr hm ha 1).ext ha (fun j => by rw [cf_scaleP, gm_one_right hm (ha.c j)])
theorem scaleP_scaleP {a : List Nat} (ha : Tr m a) {c d : Nat} (hc : c < 2 ^ m) (hd : d < 2 ^ m) : scaleP m (scaleP m a c) d = scaleP m a (gm m c d) :=
  (scaleP_tr hm (scaleP_tr hm ha c) d).ext (scaleP_tr hm ha _) (fun j => by rw [cf_scaleP, cf_scaleP, cf_scaleP, gm_assoc hm (ha.c j) hc hd])
theorem mulP_scale {a b : List Nat} (ha : Tr m a) (hb : Tr m b) {c : Nat} (hc : c < 2 ^ m) : mulP m a (scaleP m b c) = scaleP m (mulP m a b) c :=
  (mulP_tr hm ha (scaleP_tr hm hb c)).ext (scaleP_tr hm (mulP_tr hm ha hb) c) (fun j => by
    rw [cf_mulP, cf_scaleP, cf_mulP]
    unfold cv
    rw [gm_xs_left hm _ _ (fun i _ => gm_lt hm (ha.c i) _)]
    exact xs_congr (fun i _ => by rw [cf_scaleP, gm_assoc hm (ha.c i) (hb.c _) hc]))
theorem scale_mulP {a b : List Nat} (ha : Tr m a) (hb : Tr m b) {c : Nat} (hc : c < 2 ^ m) : mulP m (scaleP m a c) b = scaleP m (mulP m a b) c := by
  rw [mulP_comm hm (scaleP_tr hm ha c) hb, mulP_scale hm hb ha hc, mulP_comm hm hb ha]
theorem mulP_unit {a : List Nat} (ha : Tr m a) {c : Nat} (hc : c < 2 ^ m) : mulP m a (trim [c]) = scaleP m a c := by
  have ht : Tr m (trim [c]) := ⟨trim_lt (fun x hx => by simp at hx; subst hx; exact hc), trim_trim _⟩
  refine (mulP_tr hm ha ht).ext (scaleP_tr hm ha c) (fun j => ?_)
  rw [mulP_comm hm ha ht, cf_mulP, cv_congr (f' := fun i => if i = 0 then c else 0) (fun i _ => by
    rw [cf_trim]
    cases i with
    | zero => rfl
    | succ i => rw [cf_cons_succ, cf_nil, if_neg (by omega)]) (fun _ _ => rfl), cv_one, if_pos (Nat.zero_le _), cf_scaleP, gm_comm hm hc (ha.c _)]
  rfl
omit hm in
theorem monicP_of (_hm : Ok m) {a : List Nat} (h0 : a.length ≠ 0) : monicP m a = scaleP m a (inv m (cf a (a.length - 1))) := if_neg h0
omit hm in
theorem monicP_nil (m : Nat) : monicP m [] = [] := if_pos rfl
theorem monicP_tr {a : List Nat} (ha : Tr m a) : Tr m (monicP m a) := by
  unfold monicP
  split
  · exact nil_tr m
  · exact scaleP_tr hm ha _
theorem monicP_len {a : List Nat} (ha : Tr m a) : (monicP m a).length = a.length := by
  by_cases h0 : a.length = 0
  · unfold monicP
    rw [if_pos h0, h0]; rfl
  · rw [monicP_of hm h0, scaleP_len hm ha (inv_lt hm _) (inv_ne hm _)]
theorem monicP_top {a : List Nat} (ha : Tr m a) (h0 : a.length ≠ 0) : cf (monicP m a) (a.length - 1) = 1 := by
  rw [monicP_of hm h0, cf_scaleP, gm_inv hm (ha.c _) (ha.top h0)]
theorem monicP_dvd {g a : List Nat} (hg : Tr m g) (h : Dvd m g a) : Dvd m (monicP m g) a := by
  by_cases h0 : g.length = 0
  · have : monicP m g = g := by unfold monicP; rw [if_pos h0, List.eq_nil_of_length_eq_zero h0]
    rw [this]
    exact h
  · obtain ⟨q, hq, rfl⟩ := h
    have hL := hg.c (g.length - 1)
    refine ⟨scaleP m q (cf g (g.length - 1)), scaleP_tr hm hq _, ?_⟩
    rw [monicP_of hm h0, mulP_scale hm (scaleP_tr hm hq _) hg (inv_lt hm _), scale_mulP hm hq hg hL, scaleP_scaleP hm (mulP_tr hm hq hg) hL (inv_lt hm _), gm_inv hm hL (hg.top h0), scaleP_one hm (mulP_tr hm hq hg)]
theorem monicP_scale {a : List Nat} (ha : Tr m a) {c : Nat} (hc : c < 2 ^ m) (hc0 : c ≠ 0) : monicP m (scaleP m a c) = monicP m a := by
  have hs := scaleP_tr hm ha c
  have hl := scaleP_len hm ha hc hc0
  by_cases h0 : a.length = 0
  · unfold monicP
    rw [if_pos h0, if_pos (by omega)]
  · have hL := ha.c (a.length - 1)
    rw [monicP_of hm h0, monicP_of hm (by omega), hl, cf_scaleP, scaleP_scaleP hm ha hc (inv_lt hm _)]
    congr 1
    have h1 := ha.top h0
    generalize cf a (a.length - 1) = t at *
    have hg := gm_lt hm hL c
    have hgn := gm_ne_zero hm hL hc h1 hc0
    have h2 := gm_inv hm hg hgn
    have h3 := gm_inv hm hL h1
    have h4 : gm m t (gm m c (inv m (gm m t c))) = gm m t (inv m t) := by rw [← gm_assoc hm hL hc (inv_lt hm _), h2, h3]
    have h5 := congrArg (fun z => gm m (inv m t) z) h4
    rw [← gm_assoc hm (inv_lt hm _) hL (gm_lt hm hc _), ← gm_assoc hm (inv_lt hm _) hL (inv_lt hm _), gm_comm hm (inv_lt hm t) hL, h3, gm_one_left hm (gm_lt hm hc _), gm_one_left hm (inv_lt hm _)] at h5
    exact h5
/-- Two that divide one another are the same but for a factor. -/
theorem monicP_uniq {a b : List Nat} (ha : Tr m a) (hb : Tr m b) (h1 : Dvd m a b) (h2 : Dvd m b a) : monicP m a = monicP m b := by
  obtain ⟨q, hq, rfl⟩ := h1
  obtain ⟨p, hp, hpa⟩ := h2
  by_cases ha0 : a.length = 0
  · rw [List.eq_nil_of_length_eq_zero ha0, mulP_nil_r]
  · have hq0 : q.length ≠ 0 := fun h => by
      rw [List.eq_nil_of_length_eq_zero h, mulP_nil_l, mulP_nil_r] at hpa
      rw [← hpa] at ha0
      exact ha0 rfl
    have hqa := mulP_len hm hq ha hq0 ha0
    have hp0 : p.length ≠ 0 := fun h => by
      rw [List.eq_nil_of_length_eq_zero h, mulP_nil_l] at hpa
      rw [← hpa] at ha0
      exact ha0 rfl
    have hpl := mulP_len hm hp hb hp0 (by omega)
    rw [hpa] at hpl
    obtain ⟨c, rfl⟩ : ∃ c, q = [c] := by
      match q, hq0, (show q.length = 1 by omega) with
      | [c], _, _ => exact ⟨c, rfl⟩
    have hc := hq.lt c List.mem_cons_self
    have hc0 : c ≠ 0 := hq.top (by simp)
    have hu := mulP_unit hm ha hc
    rw [hq.eq] at hu
    rw [mulP_comm hm hq ha, hu, monicP_scale hm ha hc hc0]
theorem monicP_mul {a b : List Nat} (ha : Tr m a) (hb : Tr m b) : monicP m (mulP m a b) = mulP m (monicP m a) (monicP m b) := by
  by_cases ha0 : a.length = 0
  · rw [List.eq_nil_of_length_eq_zero ha0, mulP_nil_l]
    rw [monicP_nil, mulP_nil_l]
  · by_cases hb0 : b.length = 0
    · rw [List.eq_nil_of_length_eq_zero hb0, mulP_nil_r]
      rw [monicP_nil, mulP_nil_r]
    · have hla := ha.c (a.length - 1)
      have hlb := hb.c (b.length - 1)
      have hl := mulP_len hm ha hb ha0 hb0
      have e1 : mulP m (monicP m a) (monicP m b) = scaleP m (mulP m a b) (gm m (inv m (cf b (b.length - 1))) (inv m (cf a (a.length - 1)))) := by
        rw [monicP_of hm ha0, monicP_of hm hb0, scale_mulP hm ha (scaleP_tr hm hb _) (inv_lt hm _), mulP_scale hm ha hb (inv_lt hm _), scaleP_scaleP hm (mulP_tr hm ha hb) (inv_lt hm _) (inv_lt hm _)]
      have hmn : monicP m (mulP m (monicP m a) (monicP m b)) = mulP m (monicP m a) (monicP m b) := by
        have hA := monicP_tr hm ha
        have hB := monicP_tr hm hb
        have hlA := monicP_len hm ha
        have hlB := monicP_len hm hb
        have ht := mulP_top hm (a := monicP m a) (b := monicP m b) (by omega) (by omega)
        have hll := mulP_len hm hA hB (by omega) (by omega)
        rw [hlA, hlB, monicP_top hm ha ha0, monicP_top hm hb hb0, gm_one_left hm (one_lt hm)] at ht
        rw [monicP_of hm (by omega), hll, hlA, hlB, show a.length + b.length - 1 - 1 = a.length + b.length - 2 by omega, ht]
        have h1 : inv m 1 = 1 := by
          have := gm_inv hm (one_lt hm) (by omega)
          rw [gm_one_left hm (inv_lt hm _)] at this
          exact this
        rw [h1, scaleP_one hm (mulP_tr hm hA hB)]
      rw [← hmn, e1, monicP_scale hm (mulP_tr hm ha hb) (gm_lt hm (inv_lt hm _) _) (gm_ne_zero hm (inv_lt hm _) (inv_lt hm _) (inv_ne hm _) (inv_ne hm _))]
/-- A factor of both goes ahead. -/
theorem restP_mul {a b c : List Nat} (ha : Tr m a) (hb : Tr m b) (hc : Tr m c) (hb0 : b.length ≠ 0) (hc0 : c.length ≠ 0) : restP m (mulP m a c) (mulP m b c) = mulP m (restP m a b) c := by
  have hQ := quotP_tr hm ha (b := b)
  have hR := restP_tr hm ha (b := b)
  have hRl := restP_len hm ha.lt hb.lt hb0 (hb.top hb0) (a := a)
  have hbc := mulP_len hm hb hc hb0 hc0
  refine ((div_uniq hm (mulP_tr hm ha hc) (mulP_tr hm hb hc) (by omega) hQ (mulP_tr hm hR hc) ?_ ?_).2).symm
  · by_cases h : (restP m a b).length = 0
    · rw [List.eq_nil_of_length_eq_zero h, mulP_nil_l]
      simp only [List.length_nil]
      omega
    · rw [mulP_len hm hR hc h hc0]
      omega
  · rw [← mulP_assoc hm hQ hb hc, ← mulP_add_left hm (mulP_tr hm hQ hb) hR hc, div_eq hm ha hb hb0]
theorem gcdP_mul : ∀ (k : Nat) {a b c : List Nat}, Tr m a → Tr m b → Tr m c → c.length ≠ 0 → gcdP m k (mulP m a c) (mulP m b c) = mulP m (gcdP m k a b) c
  | 0, _, _, _, _, _, _, _ => rfl
  | k + 1, a, b, c, ha, hb, hc, hc0 => by
    unfold gcdP
    by_cases hb0 : b.length = 0
    · rw [if_pos hb0, List.eq_nil_of_length_eq_zero hb0, mulP_nil_l]
      exact if_pos rfl
    · rw [if_neg hb0, if_neg (by rw [mulP_len hm hb hc hb0 hc0]; omega), restP_mul hm ha hb hc hb0 hc0]
      exact gcdP_mul k hb (restP_tr hm ha) hc hc0
theorem gcdE_mul {a b c : List Nat} (ha : Tr m a) (hb : Tr m b) (hc : Tr m c) (hc0 : c.length ≠ 0) : gcdE m (mulP m a c) (mulP m b c) = mulP m (gcdE m a b) c := by
  by_cases hb0 : b.length = 0
  · rw [List.eq_nil_of_length_eq_zero hb0, mulP_nil_l, gcdE_last (by rfl), gcdE_last (by rfl)]
  · unfold gcdE
    rw [gcdP_more hm (mulP_tr hm ha hc) (mulP_tr hm hb hc) (Nat.lt_succ_self _) (show (mulP m b c).length < b.length + c.length + 1 by rw [mulP_len hm hb hc hb0 hc0]; omega),
      gcdP_more hm ha hb (Nat.lt_succ_self _) (show b.length < b.length + c.length + 1 by omega), gcdP_mul hm _ ha hb hc hc0]
theorem gcd_comm {a b : List Nat} (ha : Tr m a) (hb : Tr m b) : monicP m (gcdE m a b) = monicP m (gcdE m b a) := by
  have h1 := gcdE_dvd hm ha hb
  have h2 := gcdE_dvd hm hb ha
  have t1 := gcdE_tr hm ha hb
  have t2 := gcdE_tr hm hb ha
  exact monicP_uniq hm t1 t2 (gcdE_most hm hb ha t1 h1.2 h1.1) (gcdE_most hm ha hb t2 h2.2 h2.1)
end
end Go.Proofs.YtcjddlcinaedaaaDoor
