/- The way of Berlekamp and Massey, of the values of unlike places: it finds the polynomial of these places. Condition: Ok m. -/
import Derived.Test.YtfhfckoemgkdlaaDoorBm3
namespace Go.Fm
open Go Go.Proofs.YtfhfckoemgkdlaaDoor
variable {m : Nat} (hm : Ok m)
/-- The i-th value of places. -/
def psum (m : Nat) (P : List Nat) (i : Nat) : Nat := xs (fun j => exz m ((cf P j : Nat) * ((i : Nat) + 1 : Int))) P.length
theorem cnt_pos {l : List Int} {x : Nat} : ∀ {i : Nat}, 0 < cnt m l x i ↔ ∃ j, j < i ∧ lo m (l.getD j 0) = x
  | 0 => ⟨fun h => absurd h (Nat.lt_irrefl 0), fun ⟨_, h, _⟩ => absurd h (Nat.not_lt_zero _)⟩
  | i + 1 => by
    have ih := cnt_pos (l := l) (x := x) (i := i)
    unfold cnt
    by_cases h : lo m (l.getD i 0) = x
    · refine ⟨fun _ => ⟨i, Nat.lt_succ_self i, h⟩, fun _ => ?_⟩
      rw [if_pos h]; omega
    · rw [if_neg h, ih]
      refine ⟨fun ⟨j, hj, e⟩ => ⟨j, by omega, e⟩, fun ⟨j, hj, e⟩ => ?_⟩
      by_cases hji : j = i
      · subst hji; exact absurd e h
      · exact ⟨j, by omega, e⟩
include hm
theorem psum_lt (P : List Nat) (i : Nat) : psum m P i < 2 ^ m := xs_lt (fun _ _ => exz_lt hm _)
theorem cv_psum {c : List Nat} (hc : ∀ x ∈ c, x < 2 ^ m) {s : Nat → Nat} {P : List Nat} {n : Nat} (hs : ∀ i, i < n → s i = psum m P i) {j : Nat} (hj : j < n) (hl : c.length ≤ j + 1) :
    cv m (cf c) s j = xs (fun p => gm m (plc m c (cf P p)) (exz m ((cf P p : Nat) * ((j : Nat) + 1 : Int)))) P.length := by
  have hcl : ∀ i, cf c i < 2 ^ m := fun i => cf_lt hc (Nat.two_pow_pos m) i
  have e1 : cv m (cf c) s j = xs (fun i => xs (fun p => gm m (gm m (cf c i) (exz m (-(((cf P p : Nat) : Int) * (i : Nat))))) (exz m ((cf P p : Nat) * ((j : Nat) + 1 : Int)))) P.length) (j + 1) := by
    unfold cv
    refine xs_congr (fun i hi => ?_)
    rw [hs _ (by omega)]
    unfold psum
    rw [gm_xs_right]
    refine xs_congr (fun p _ => ?_)
    rw [gm_assoc hm (hcl i) (exz_lt hm _) (exz_lt hm _), exz_add hm]
    congr 2
    rw [show ((j - i : Nat) : Int) = (j : Int) - (i : Int) by omega, ← Int.mul_neg, ← Int.mul_add]
    congr 1
    omega
  rw [e1, xs_swap]
  refine xs_congr (fun p _ => ?_)
  rw [plc_xs hm hc, gm_xs_left hm _ _ (fun i _ => gm_lt hm (hcl i) _)]
  have := xs_more (f := fun i => gm m (gm m (cf c i) (exz m (-(((cf P p : Nat) : Int) * (i : Nat))))) (exz m ((cf P p : Nat) * ((j : Nat) + 1 : Int)))) (n := c.length) (k := j + 1 - c.length) (fun i hi => by rw [cf_out hi, gm_zero_left, gm_zero_left])
  rw [show c.length + (j + 1 - c.length) = j + 1 by omega] at this
  exact this
/-- Weights of unlike places whose sums are 0, often enough, are 0. -/
theorem weights_zero {P : List Nat} (hP : ∀ p ∈ P, p < N m) (hnd : P.Nodup) {y : Nat → Nat} (hy : ∀ p, y p < 2 ^ m) {L : Nat} (h : ∀ a, a < P.length → xs (fun p => gm m (y p) (exz m ((cf P p : Nat) * (((L + a : Nat) : Nat) + 1 : Int)))) P.length = 0) {p₀ : Nat} (hp₀ : p₀ < P.length) : y p₀ = 0 := by
  let l : List Int := (P.eraseIdx p₀).map (fun r => ((exz m (r : Nat) : Nat) : Int))
  have hll : l.length = P.length - 1 := by simp [l, List.length_eraseIdx, hp₀]
  let g := frP m l l.length
  have hgl : g.length = P.length := by show (frP m l l.length).length = _; rw [frP_len]; omega
  have hgt := frP_tr hm l l.length
  have hgc : ∀ j, cf g j < 2 ^ m := hgt.c
  have hroot : ∀ p, p < P.length → (evL m g (exz m (cf P p : Nat)) = 0 ↔ p ≠ p₀) := by
    intro p hp
    rw [show evL m g (exz m (cf P p : Nat)) = evL m (frP m l l.length) (exz m (cf P p : Nat)) from rfl, frP_root hm l (exz_lt hm _), cnt_pos]
    have hPp : P[p]? = some (cf P p) := cf_in hp
    constructor
    · rintro ⟨j, hj, e⟩ rfl
      have hj' : j < (P.eraseIdx p).length := by simpa [l] using hj
      have e2 : l.getD j 0 = ((exz m ((P.eraseIdx p)[j] : Nat) : Nat) : Int) := by simp [l, hj']
      rw [e2, lo_nat (exz_lt hm _)] at e
      have hmem := List.getElem_mem hj'
      have hmP : (P.eraseIdx p)[j] ∈ P := List.mem_of_mem_eraseIdx hmem
      have e3 := exz_inj hm e
      have hb1 := hP _ hmP
      have hb2 := hP _ (List.mem_of_getElem? hPp)
      rw [Int.emod_eq_of_lt (by omega) (by omega), Int.emod_eq_of_lt (by omega) (by omega)] at e3
      have e4 : (P.eraseIdx p)[j] = cf P p := by omega
      rw [List.getElem_eraseIdx] at e4
      rw [List.getElem?_eq_getElem hp] at hPp
      have hPe := Option.some.inj hPp
      rw [List.length_eraseIdx, if_pos hp] at hj'
      split at e4
      · rename_i hlt
        rw [← hPe] at e4
        exact List.pairwise_iff_getElem.1 hnd j p (by omega) hp hlt e4
      · rename_i hge
        rw [← hPe] at e4
        exact List.pairwise_iff_getElem.1 hnd p (j + 1) hp (by omega) (by omega) e4.symm
    · intro hne
      have hex : ∃ j, j < l.length ∧ (P.eraseIdx p₀)[j]? = some (cf P p) := by
        by_cases hlt : p < p₀
        · exact ⟨p, by omega, by rw [List.getElem?_eraseIdx, if_pos hlt]; exact hPp⟩
        · exact ⟨p - 1, by omega, by rw [List.getElem?_eraseIdx, if_neg (by omega), show p - 1 + 1 = p by omega]; exact hPp⟩
      obtain ⟨j, hj, e⟩ := hex
      refine ⟨j, hj, ?_⟩
      have e2 : l.getD j 0 = ((exz m (cf P p : Nat) : Nat) : Int) := by
        rw [List.getD_eq_getElem?_getD]
        show ((P.eraseIdx p₀).map _)[j]?.getD 0 = _
        rw [List.getElem?_map, e]; rfl
      rw [e2, lo_nat (exz_lt hm _)]
  -- the sums, weighed by g
  have e0 : xs (fun a => gm m (cf g a) (xs (fun p => gm m (y p) (exz m ((cf P p : Nat) * (((L + a : Nat) : Nat) + 1 : Int)))) P.length)) P.length = 0 := xs_zero (fun a ha => by rw [h a ha, gm_zero_right])
  have e1 : xs (fun p => gm m (gm m (y p) (exz m ((cf P p : Nat) * ((L : Nat) + 1 : Int)))) (evL m g (exz m (cf P p : Nat)))) P.length = 0 := by
    rw [← e0]
    rw [show (fun a => gm m (cf g a) (xs (fun p => gm m (y p) (exz m ((cf P p : Nat) * (((L + a : Nat) : Nat) + 1 : Int)))) P.length)) = fun a => xs (fun p => gm m (cf g a) (gm m (y p) (exz m ((cf P p : Nat) * (((L + a : Nat) : Nat) + 1 : Int))))) P.length from funext (fun a => gm_xs_right m _ _ _), xs_swap]
    refine xs_congr (fun p _ => ?_)
    rw [evL_xs hm (exz_lt hm _) hgt.lt, gm_xs_right, hgl]
    refine xs_congr (fun a _ => ?_)
    have hx := exz_lt hm (m := m)
    rw [exz_fpw hm, gm_comm hm (hgc a) (hx _), ← gm_assoc hm (gm_lt hm (hy p) _) (hx _) (hgc a), gm_assoc hm (hy p) (hx _) (hx _), exz_add hm, gm_comm hm (gm_lt hm (hy p) _) (hgc a)]
    congr 3
    rw [← Int.mul_add]
    congr 1
    omega
  rw [xs_one hp₀ (fun p hp hne => by rw [(hroot p hp).2 hne, gm_zero_right])] at e1
  refine Classical.byContradiction fun hy0 => ?_
  exact gm_ne_zero hm (gm_lt hm (hy p₀) _) (evL_lt hm _ hgt.lt) (gm_ne_zero hm (hy p₀) (exz_lt hm _) hy0 (exz_ne hm _)) (fun hh => (hroot p₀ hp₀).1 hh rfl) e1
omit hm in
theorem ofP_zero (l : List Int) : ∀ i, cf (ofP m l i) 0 = 1
  | 0 => rfl
  | i + 1 => by show cf (addP _ (0 :: _)) 0 = 1; rw [cf_addP, ofP_zero l i, cf_cons_zero]; rfl
/-- It finds the places. -/
theorem bm_finds {P : List Nat} (hP : ∀ p ∈ P, p < N m) (hnd : P.Nodup) {s : List Nat} (hs : ∀ x ∈ s, x < 2 ^ m) {n : Nat} (hv : ∀ i, i < n → cf s i = psum m P i) (hn : 2 * P.length ≤ n) :
    (bmG m (stL m) s n).L = P.length ∧ (bmG m (stL m) s n).c = ofP m (P.map Int.ofNat) (P.map Int.ofNat).length := by
  have hN := N_pos hm
  have hi := bm_inv hm hs n
  have ho := ofP_tr hm (P.map Int.ofNat) (P.map Int.ofNat).length
  have hol := ofP_le hm (P.map Int.ofNat) (P.map Int.ofNat).length
  have hml : (P.map Int.ofNat).length = P.length := List.length_map _
  have hoz : ∀ p, p < P.length → plc m (ofP m (P.map Int.ofNat) (P.map Int.ofNat).length) (cf P p) = 0 := fun p hp => by
    rw [plc_ofP hm]
    exact ⟨p, by omega, by simp [cf, hp]⟩
  have hmk : Mk m (cf (ofP m (P.map Int.ofNat) (P.map Int.ofNat).length)) (cf s) P.length n := ⟨ho.c, fun j hj => cf_out (by omega), fun j h1 h2 => by
    rw [cv_psum hm ho.lt hv h2 (by omega)]
    exact xs_zero (fun p hp => by rw [hoz p hp, gm_zero_left])⟩
  have hle := bm_least hm hs n hmk (by rw [ofP_zero]; decide)
  have hcl : (bmG m (stL m) s n).c.length ≤ (bmG m (stL m) s n).L + 1 := len_le_of hi.tc (fun j hj => hi.dc j (by omega))
  have hcz : ∀ p, p < P.length → plc m (bmG m (stL m) s n).c (cf P p) = 0 := fun p hp =>
    weights_zero hm hP hnd (y := fun p => plc m (bmG m (stL m) s n).c (cf P p)) (fun p => evL_lt hm _ hi.tc.lt) (L := (bmG m (stL m) s n).L) (fun a ha => by
      have := cv_psum hm hi.tc.lt hv (j := (bmG m (stL m) s n).L + a) (by omega) (by omega)
      rw [hi.zc _ (by omega) (by omega)] at this
      exact this.symm) hp
  have hge : P.length ≤ (bmG m (stL m) s n).L := by
    have hc0 : (bmG m (stL m) s n).c.length ≠ 0 := fun h => by
      have := hi.c0
      rw [cf_out (by omega)] at this
      cases this
    have h := roots_le hm (P.map (fun i : Nat => ex m (em m (0 - (i : Int))))) hi.tc hc0 ?_ ?_
    · rw [List.length_map] at h; omega
    · refine List.Pairwise.map _ (R := fun i j => i < N m ∧ j < N m ∧ i ≠ j) (fun i j ⟨h1, h2, h3⟩ he => ?_) (List.Pairwise.imp_of_mem (fun {i j} h1 h2 h3 => ⟨hP i h1, hP j h2, h3⟩) hnd)
      have := exz_inj hm he
      have e2 : ((0 : Int) - (0 - (i : Int))) % ((N m : Nat) : Int) = ((0 : Int) - (0 - (j : Int))) % ((N m : Nat) : Int) := by rw [Int.sub_emod, this, ← Int.sub_emod]
      rw [show (0 : Int) - (0 - (i : Int)) = (i : Int) by omega, show (0 : Int) - (0 - (j : Int)) = (j : Int) by omega, Int.emod_eq_of_lt (by omega) (by omega), Int.emod_eq_of_lt (by omega) (by omega)] at e2
      omega
    · intro x hx
      obtain ⟨i, hi2, rfl⟩ := List.mem_map.1 hx
      obtain ⟨k, hk, e⟩ := List.getElem_of_mem hi2
      have e2 : cf P k = i := by rw [← e]; simp [cf, hk]
      refine ⟨(ex_lt hm _).2, ?_⟩
      have := hcz k hk
      rw [e2] at this
      exact this
  have hL : (bmG m (stL m) s n).L = P.length := by omega
  refine ⟨hL, hi.tc.ext ho (bm_one hm hs n (by rw [hL]; exact hmk) (ofP_zero _ _) (by omega))⟩
end Go.Fm
