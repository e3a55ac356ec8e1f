/- The way of Berlekamp and Massey: without quotients, of scaled values, and that there is but one polynomial. Condition: Ok m. -/
import Derived.Test.YtfhfckoemgkdlaaDoorBm
namespace Go.Fm
open Go Go.Proofs.YtfhfckoemgkdlaaDoor
variable {m : Nat} (hm : Ok m)
/-- What a step's polynomial has to keep. -/
def StOk (m : Nat) (stp : List Nat → List Nat → Nat → Nat → List Nat) : Prop :=
  ∀ (c sb : List Nat) (d e : Nat), (∀ x ∈ c, x < 2 ^ m) → (∀ x ∈ sb, x < 2 ^ m) → Tr m (stp c sb d e) ∧ (stp c sb d e).length ≤ max c.length sb.length
structure BmO (m : Nat) (q : Bm) (n : Nat) : Prop where
  tc : Tr m q.c
  tb : Tr m q.b
  Ln : q.L ≤ n
  e0 : q.e ≠ 0
  el : q.e < 2 ^ m
  k1 : 1 ≤ q.k
  kb : q.k + q.b.length ≤ n + 2
  cl : q.c.length ≤ n + 1
theorem sumP_lt (hm : Ok m) {p s : List Nat} (hp : ∀ x ∈ p, x < 2 ^ m) (n t : Nat) : sumP m p s n t < 2 ^ m := xs_lt (fun i _ => gm_lt hm (cf_lt hp (Nat.two_pow_pos m) i) _)
theorem sb_lt {q : Bm} (h : ∀ x ∈ q.b, x < 2 ^ m) : ∀ x ∈ List.replicate q.k 0 ++ q.b, x < 2 ^ m := fun x hx => by
  rcases List.mem_append.1 hx with hx | hx
  · rw [(List.mem_replicate.1 hx).2]; exact Nat.two_pow_pos m
  · exact h x hx
include hm
omit hm in
theorem addS_ok {a b : List Nat} (ha : ∀ x ∈ a, x < 2 ^ m) (hb : ∀ x ∈ b, x < 2 ^ m) : Tr m (addP a b) := pl_tr (fun j => xor_lt (cf_lt ha (Nat.two_pow_pos m) j) (cf_lt hb (Nat.two_pow_pos m) j))
omit hm in
theorem addP_leq (a b : List Nat) : (addP a b).length ≤ max a.length b.length := by
  unfold addP pl
  rw [trim_length]
  have := tl_le ((List.range (max a.length b.length)).map (fun j => cf a j ^^^ cf b j))
  simpa using this
omit hm in
theorem scaleP_lq (m : Nat) (a : List Nat) (c : Nat) : (scaleP m a c).length ≤ a.length := by
  unfold scaleP pl
  rw [trim_length]
  have := tl_le ((List.range a.length).map (fun j => gm m (cf a j) c))
  simpa using this
theorem stL_ok : StOk m (stL m) := fun c sb d e hc hb => by
  refine ⟨addS_ok hc (scaleP_lt hm hb _), ?_⟩
  have h1 := addP_leq c (scaleP m sb (gm m d (inv m e)))
  have h2 := scaleP_lq m sb (gm m d (inv m e))
  unfold stL
  omega
theorem stF_ok : StOk m (stF m) := fun c sb d e hc hb => by
  refine ⟨addS_ok (scaleP_lt hm hc _) (scaleP_lt hm hb _), ?_⟩
  have h1 := addP_leq (scaleP m c e) (scaleP m sb d)
  have h2 := scaleP_lq m sb d
  have h3 := scaleP_lq m c e
  unfold stF
  omega
theorem one_tr : Tr m [1] := ⟨fun x hx => by rw [List.mem_singleton.1 hx]; exact one_lt hm, rfl⟩
theorem bmG_ok {stp : List Nat → List Nat → Nat → Nat → List Nat} (hst : StOk m stp) (s : List Nat) : ∀ n, BmO m (bmG m stp s n) n
  | 0 => ⟨one_tr hm, one_tr hm, Nat.le_refl _, Nat.one_ne_zero, one_lt hm, Nat.le_refl _, Nat.le_refl _, Nat.le_refl _⟩
  | n + 1 => by
    obtain ⟨tc, tb, Ln, e0, el, k1, kb, cl⟩ := bmG_ok hst s n
    show BmO m (bmS m stp s (bmG m stp s n) n) (n + 1)
    generalize bmG m stp s n = q at *
    have hd : q.d m s n < 2 ^ m := sumP_lt hm tc.lt _ _
    obtain ⟨h1, h2⟩ := hst q.c (List.replicate q.k 0 ++ q.b) (q.d m s n) q.e tc.lt (sb_lt tb.lt)
    rw [List.length_append, List.length_replicate] at h2
    unfold bmS
    split
    · exact ⟨tc, tb, by show q.L ≤ n + 1; omega, e0, el, by show 1 ≤ q.k + 1; omega, by show q.k + 1 + q.b.length ≤ _; omega, by show q.c.length ≤ _; omega⟩
    · rename_i h0
      split
      · exact ⟨h1, tb, by show q.L ≤ n + 1; omega, e0, el, by show 1 ≤ q.k + 1; omega, by show q.k + 1 + q.b.length ≤ _; omega, by show (stp q.c (List.replicate q.k 0 ++ q.b) (q.d m s n) q.e).length ≤ _; omega⟩
      · exact ⟨h1, tc, by show n + 1 - q.L ≤ n + 1; omega, h0, hd, Nat.le_refl _, by show 1 + q.c.length ≤ _; omega, by show (stp q.c (List.replicate q.k 0 ++ q.b) (q.d m s n) q.e).length ≤ _; omega⟩
omit hm in
/-- The way knows no more than the values so far. -/
theorem d_ext {s t : List Nat} {q : Bm} {n : Nat} (hL : q.L ≤ n) (h : ∀ i, i ≤ n → cf s i = cf t i) : q.d m s n = q.d m t n := xs_congr (fun i hi => by rw [h (n - i) (by omega)])
theorem bmG_ext {stp : List Nat → List Nat → Nat → Nat → List Nat} (hst : StOk m stp) {s t : List Nat} : ∀ n, (∀ i, i < n → cf s i = cf t i) → bmG m stp s n = bmG m stp t n
  | 0, _ => rfl
  | n + 1, h => by
    have ih := bmG_ext hst n (fun i hi => h i (by omega))
    have ho := bmG_ok hm hst t n
    show bmS m stp s (bmG m stp s n) n = bmS m stp t (bmG m stp t n) n
    rw [ih]
    unfold bmS
    rw [d_ext (s := s) (t := t) ho.Ln (fun i hi => h i (by omega))]
/-! ### Quotients -/
theorem gm_cancel {a b c : Nat} (ha : a < 2 ^ m) (hb : b < 2 ^ m) (hc : c < 2 ^ m) (h0 : c ≠ 0) (h : gm m a c = gm m b c) : a = b := by
  refine xor_eq_zero' hm ?_
  by_cases hx : a ^^^ b = 0
  · exact hx
  · exact absurd (by rw [gm_xor_left hm ha hb, h, Nat.xor_self]) (gm_ne_zero hm (xor_lt ha hb) hc hx h0)
theorem gm_rot {a b c : Nat} (ha : a < 2 ^ m) (hb : b < 2 ^ m) (hc : c < 2 ^ m) : gm m (gm m a b) c = gm m (gm m a c) b := by rw [gm_assoc hm ha hb hc, gm_comm hm hb hc, ← gm_assoc hm ha hc hb]
/-! ### Without quotients -/
theorem sumP_scale {p p' s : List Nat} (hp : ∀ x ∈ p, x < 2 ^ m) (hs : ∀ x ∈ s, x < 2 ^ m) {g : Nat} (hg : g < 2 ^ m) (h : ∀ j, cf p' j = gm m (cf p j) g) (n t : Nat) : sumP m p' s n t = gm m (sumP m p s n t) g := by
  unfold sumP
  rw [gm_xs_left hm g _ (fun i _ => gm_lt hm (cf_lt hp (Nat.two_pow_pos m) i) _)]
  refine xs_congr (fun i _ => ?_)
  rw [h, gm_rot hm (cf_lt hp (Nat.two_pow_pos m) i) hg (cf_lt hs (Nat.two_pow_pos m) _)]
structure BmF (m : Nat) (q p : Bm) (g h : Nat) : Prop where
  g0 : g ≠ 0
  gl : g < 2 ^ m
  h0 : h ≠ 0
  hl : h < 2 ^ m
  c : ∀ j, cf p.c j = gm m (cf q.c j) g
  b : ∀ j, cf p.b j = gm m (cf q.b j) h
  L : p.L = q.L
  k : p.k = q.k
  e : p.e = gm m q.e h
theorem bm_fast {s : List Nat} (hs : ∀ x ∈ s, x < 2 ^ m) : ∀ n, ∃ g h, BmF m (bmG m (stL m) s n) (bmG m (stF m) s n) g h
  | 0 => ⟨1, 1, by decide, one_lt hm, by decide, one_lt hm, fun j => (gm_one_right hm ((one_tr hm).c j)).symm, fun j => (gm_one_right hm ((one_tr hm).c j)).symm, rfl, rfl, (gm_one_right hm (one_lt hm)).symm⟩
  | n + 1 => by
    obtain ⟨g, h, hF⟩ := bm_fast hs n
    have ho := bmG_ok hm (stL_ok hm) s n
    show ∃ g h, BmF m (bmS m (stL m) s (bmG m (stL m) s n) n) (bmS m (stF m) s (bmG m (stF m) s n) n) g h
    generalize bmG m (stL m) s n = q at *
    generalize bmG m (stF m) s n = p at *
    obtain ⟨g0, gl, h0, hl, hc, hb, hL, hk, he⟩ := hF
    have hdl : q.d m s n < 2 ^ m := sumP_lt hm ho.tc.lt _ _
    have hd : p.d m s n = gm m (q.d m s n) g := by unfold Bm.d; rw [hL]; exact sumP_scale hm ho.tc.lt hs gl hc n _
    have hz : p.d m s n = 0 ↔ q.d m s n = 0 := by
      rw [hd]
      refine ⟨fun hh => ?_, fun hh => by rw [hh, gm_zero_left]⟩
      by_cases hx : q.d m s n = 0
      · exact hx
      · exact absurd hh (gm_ne_zero hm hdl gl hx g0)
    have hehl : gm m q.e h < 2 ^ m := gm_lt hm ho.el _
    have hx : ∀ j, cf (List.replicate p.k 0 ++ p.b) j = gm m (cf (List.replicate q.k 0 ++ q.b) j) h := fun j => by
      rw [cf_zs, cf_zs, hk]
      split
      · exact hb _
      · rw [gm_zero_left]
    have hxl : ∀ j, cf (List.replicate q.k 0 ++ q.b) j < 2 ^ m := fun j => cf_lt (sb_lt ho.tb.lt) (Nat.two_pow_pos m) j
    have hn : ∀ j, cf (stF m p.c (List.replicate p.k 0 ++ p.b) (p.d m s n) p.e) j = gm m (cf (stL m q.c (List.replicate q.k 0 ++ q.b) (q.d m s n) q.e) j) (gm m g (gm m q.e h)) := fun j => by
      have hgl : gm m g (gm m q.e h) < 2 ^ m := gm_lt hm gl _
      have hdi : gm m (q.d m s n) (inv m q.e) < 2 ^ m := gm_lt hm hdl _
      unfold stF stL
      rw [cf_addP, cf_addP, cf_scaleP, cf_scaleP, cf_scaleP, hc, hx, hd, he, gm_xor_left hm (ho.tc.c j) (gm_lt hm (hxl j) _), gm_assoc hm (ho.tc.c j) gl hehl]
      congr 1
      rw [gm_assoc hm (hxl j) hdi hgl, gm_assoc hm (hxl j) hl (gm_lt hm hdl _)]
      congr 1
      -- h (d g) = (d / e) (g (e h))
      have e1 : gm m (gm m (q.d m s n) (inv m q.e)) (gm m g (gm m q.e h)) = gm m (gm m (gm m (gm m (q.d m s n) (inv m q.e)) q.e) h) g := by
        rw [gm_comm hm gl hehl, ← gm_assoc hm hdi hehl gl, ← gm_assoc hm hdi ho.el hl]
      rw [e1, gm_div hm hdl ho.el ho.e0, gm_rot hm hdl hl gl, gm_comm hm hl (gm_lt hm hdl _)]
    have hg' : gm m g (gm m q.e h) ≠ 0 := gm_ne_zero hm gl hehl g0 (gm_ne_zero hm ho.el hl ho.e0 h0)
    unfold bmS
    by_cases hd0 : q.d m s n = 0
    · rw [if_pos hd0, if_pos (hz.2 hd0)]
      exact ⟨g, h, g0, gl, h0, hl, hc, hb, hL, by show p.k + 1 = q.k + 1; rw [hk], he⟩
    · rw [if_neg hd0, if_neg (fun hh => hd0 (hz.1 hh))]
      by_cases h2 : n < 2 * q.L
      · rw [if_pos h2, if_pos (by rw [hL]; exact h2)]
        exact ⟨_, h, hg', gm_lt hm gl _, h0, hl, hn, hb, hL, by show p.k + 1 = q.k + 1; rw [hk], he⟩
      · rw [if_neg h2, if_neg (by rw [hL]; exact h2)]
        exact ⟨_, g, hg', gm_lt hm gl _, g0, gl, hn, hc, by show n + 1 - p.L = n + 1 - q.L; rw [hL], rfl, hd⟩
/-! ### There is but one -/
omit hm in
/-- f makes the first n of s, with length L. -/
structure Mk (m : Nat) (f s : Nat → Nat) (L n : Nat) : Prop where
  lt : ∀ j, f j < 2 ^ m
  deg : ∀ j, L < j → f j = 0
  z : ∀ j, L ≤ j → j < n → cv m f s j = 0
omit hm in
theorem cv_shr (f g : Nat → Nat) (r : Nat) (h : ∀ i, i < r → f i = 0) (j : Nat) : cv m f g (j + r) = cv m (fun i => f (i + r)) g j := by
  unfold cv
  have e1 : xs (fun i => gm m (f i) (g (j + r - i))) (r + (j + 1)) = xs (fun i => gm m (f (i + r)) (g (j - i))) (j + 1) := by
    rw [← xs_shift (fun i => gm m (f (i + r)) (g (j - i))) r (j + 1)]
    refine xs_congr (fun i _ => ?_)
    by_cases hi : r ≤ i
    · rw [if_pos hi, show i - r + r = i by omega, show j - (i - r) = j + r - i by omega]
    · rw [if_neg hi, h i (by omega), gm_zero_left]
  rw [show j + r + 1 = r + (j + 1) by omega]
  exact e1
theorem mk_one {f g s : Nat → Nat} {L n : Nat} (hs : ∀ j, s j < 2 ^ m) (hf : Mk m f s L n) (hg : Mk m g s L n) (h0 : f 0 = g 0) (hg0 : g 0 ≠ 0) (h2 : 2 * L ≤ n)
    (hmin : ∀ (u : Nat → Nat) (K : Nat), Mk m u s K n → u 0 ≠ 0 → L ≤ K) : ∀ j, f j = g j := by
  refine Classical.byContradiction fun hne => ?_
  have hex : ∃ r, f r ≠ g r := Classical.byContradiction fun h => hne (fun j => Classical.byContradiction fun hj => h ⟨j, hj⟩)
  -- the lowest place where they are unlike
  have hlow : ∃ r, f r ≠ g r ∧ ∀ i, i < r → f i = g i := by
    obtain ⟨r, hr⟩ := hex
    induction r using Nat.strongRecOn with
    | _ r ih =>
      by_cases h : ∃ i, i < r ∧ f i ≠ g i
      · obtain ⟨i, hi, hh⟩ := h; exact ih i hi hh
      · exact ⟨r, hr, fun i hi => Classical.byContradiction fun hh => h ⟨i, hi, hh⟩⟩
  obtain ⟨r, hr, hbel⟩ := hlow
  have hr1 : 1 ≤ r := by
    refine Nat.le_of_not_lt fun h => hr ?_
    obtain rfl : r = 0 := by omega
    exact h0
  have hrL : r ≤ L := Nat.le_of_not_lt fun h => hr (by rw [hf.deg r h, hg.deg r h])
  let u : Nat → Nat := fun i => f (i + r) ^^^ g (i + r)
  have hul : ∀ j, u j < 2 ^ m := fun j => xor_lt (hf.lt _) (hg.lt _)
  have hu0 : u 0 ≠ 0 := fun h => hr (xor_eq_zero' hm (by simpa [u] using h))
  have hud : ∀ j, L - r < j → u j = 0 := fun j hj => by show f _ ^^^ g _ = 0; rw [hf.deg _ (by omega), hg.deg _ (by omega)]; rfl
  have huc : ∀ j, cv m u s j = cv m f s (j + r) ^^^ cv m g s (j + r) := fun j => by
    rw [← cv_add_left hm hf.lt hg.lt, cv_shr (fun i => f i ^^^ g i) s r (fun i hi => by show f i ^^^ g i = 0; rw [hbel i hi, Nat.xor_self])]
  have huz : ∀ j, L - r ≤ j → j + r < n → cv m u s j = 0 := fun j h1 h3 => by rw [huc, hf.z _ (by omega) h3, hg.z _ (by omega) h3]; rfl
  by_cases hall : ∀ j, L - r ≤ j → j < n → cv m u s j = 0
  · have := hmin u (L - r) ⟨hul, hud, hall⟩ hu0
    omega
  · obtain ⟨t, ht1, ht2, ht3, ht4⟩ : ∃ t, L - r ≤ t ∧ t < n ∧ cv m u s t ≠ 0 ∧ ∀ j, L - r ≤ j → j < t → cv m u s j = 0 := by
      have hh : ∃ j, L - r ≤ j ∧ j < n ∧ cv m u s j ≠ 0 := Classical.byContradiction fun h => hall (fun j h1 h3 => Classical.byContradiction fun h4 => h ⟨j, h1, h3, h4⟩)
      obtain ⟨t, ht⟩ := hh
      induction t using Nat.strongRecOn with
      | _ t ih =>
        by_cases h : ∃ i, i < t ∧ L - r ≤ i ∧ cv m u s i ≠ 0
        · obtain ⟨i, hi, h1, h3⟩ := h; exact ih i hi ⟨h1, by omega, h3⟩
        · exact ⟨t, ht.1, ht.2.1, ht.2.2, fun j h1 h3 => Classical.byContradiction fun h4 => h ⟨j, h3, h1, h4⟩⟩
    have hge : n ≤ t + r := Nat.le_of_not_lt fun h => ht3 (huz t ht1 h)
    have := bm_low hm hul hg.lt hs hud hg.deg hg0 ht4 ht3 (fun j h1 h3 => hg.z j h1 (by omega))
    omega
omit hm in
theorem Mk.scale (hm : Ok m) {f s u : Nat → Nat} {L n c : Nat} (hs : ∀ j, s j < 2 ^ m) (hc : c < 2 ^ m) (h : Mk m f s L n) (hu : ∀ j, j < n → u j = gm m (s j) c) : Mk m f u L n := ⟨h.lt, h.deg, fun j h1 h2 => by
  have : cv m f u j = gm m (cv m f s j) c := by
    unfold cv
    rw [gm_xs_left hm c _ (fun i _ => gm_lt hm (h.lt i) _)]
    exact xs_congr (fun i _ => by rw [hu _ (by omega), gm_assoc hm (h.lt i) (hs _) hc])
  rw [this, h.z j h1 h2, gm_zero_left]⟩
theorem Mk.turn {f g s u : Nat → Nat} {L n b : Nat} (hs : ∀ j, s j < 2 ^ m) (hb : b < 2 ^ m) (h : Mk m f s L n) (hu : ∀ j, j < n → u j = gm m (s j) (fpw m b j)) (hg : ∀ j, g j = gm m (f j) (fpw m b j)) : Mk m g u L n := ⟨fun j => by rw [hg]; exact gm_lt hm (h.lt j) _, fun j hj => by rw [hg, h.deg j hj, gm_zero_left], fun j h1 h2 => by
  have : cv m g u j = gm m (cv m f s j) (fpw m b j) := by
    unfold cv
    rw [gm_xs_left hm (fpw m b j) _ (fun i _ => gm_lt hm (h.lt i) _)]
    refine xs_congr (fun i hi => ?_)
    have hp := fpw_lt hm b
    rw [hg, hu _ (by omega), show fpw m b j = gm m (fpw m b i) (fpw m b (j - i)) by rw [← fpw_add hm hb, show i + (j - i) = j by omega]]
    rw [gm_assoc hm (h.lt i) (hp i) (gm_lt hm (hs _) _), gm_assoc hm (h.lt i) (hs _) (gm_lt hm (hp _) _)]
    congr 1
    rw [← gm_assoc hm (hp i) (hs _) (hp _), gm_comm hm (hp i) (hs _), gm_assoc hm (hs _) (hp i) (hp _)]
  rw [this, h.z j h1 h2, gm_zero_left]⟩
theorem bm_mk {s : List Nat} (hs : ∀ x ∈ s, x < 2 ^ m) (n : Nat) : Mk m (cf (bmG m (stL m) s n).c) (cf s) (bmG m (stL m) s n).L n :=
  let h := bm_inv hm hs n
  ⟨h.tc.c, h.dc, h.zc⟩
theorem bm_least {s : List Nat} (hs : ∀ x ∈ s, x < 2 ^ m) (n : Nat) {u : Nat → Nat} {K : Nat} (h : Mk m u (cf s) K n) (h0 : u 0 ≠ 0) : (bmG m (stL m) s n).L ≤ K := bm_min hm hs h.lt h.deg h0 n h.z
/-- A polynomial that makes the values with the least length, if that is short enough, is what is found. -/
theorem bm_one {s : List Nat} (hs : ∀ x ∈ s, x < 2 ^ m) (n : Nat) {u : Nat → Nat} (h : Mk m u (cf s) (bmG m (stL m) s n).L n) (h0 : u 0 = 1) (h2 : 2 * (bmG m (stL m) s n).L ≤ n) : ∀ j, cf (bmG m (stL m) s n).c j = u j :=
  mk_one hm (fun j => cf_lt hs (Nat.two_pow_pos m) j) (bm_mk hm hs n) h (by rw [h0]; exact (bm_inv hm hs n).c0) (by rw [h0]; decide) h2 (fun v K hv hv0 => bm_least hm hs n hv hv0)
end Go.Fm
