/- Polynomials over two elements, in bytes: as polynomials over the field of 2^3 elements whose coefficients are 0 or 1. Plain mathematics, no program. -/
import Derived.Test.YtcjddlcinaedaaaDoorPr3
namespace Go.Proofs.YtcjddlcinaedaaaDoor
open Go.Sx Go.Fm

theorem ok3 : Ok 3 := ⟨by decide, by decide⟩
/-- Bit j of bytes. -/
def bitN (l : List Nat) (j : Nat) : Nat := (cf l (j / 8) >>> (j % 8)) % 2
theorem bitN_lt (l : List Nat) (j : Nat) : bitN l j < 2 := Nat.mod_lt _ (by omega)
theorem bitN_out {l : List Nat} {j : Nat} (h : 8 * l.length ≤ j) : bitN l j = 0 := by
  unfold bitN
  rw [cf_out (by omega)]
  simp
theorem bitN_test (l : List Nat) (i s : Nat) (hs : s < 8) : bitN l (8 * i + s) = ((cf l i).testBit s).toNat := by
  unfold bitN
  rw [show (8 * i + s) / 8 = i by omega, show (8 * i + s) % 8 = s by omega, Nat.testBit_eq_decide_div_mod_eq, Nat.shiftRight_eq_div_pow]
  rcases Nat.mod_two_eq_zero_or_one (cf l i / 2 ^ s) with h | h <;> rw [h] <;> simp
/-- The polynomial that bytes are. -/
def bl (l : List Nat) : List Nat := pl (8 * l.length) (bitN l)
theorem cf_bl (l : List Nat) (j : Nat) : cf (bl l) j = bitN l j := by
  unfold bl
  rw [cf_pl]
  split
  · rfl
  · exact (bitN_out (by omega)).symm
/-- Coefficients that are 0 or 1. -/
structure B1 (a : List Nat) : Prop where
  tr : Tr 3 a
  le : ∀ j, cf a j < 2
theorem bl_b1 (l : List Nat) : B1 (bl l) := ⟨pl_tr (fun j => Nat.lt_trans (bitN_lt l j) (by decide)), fun j => by rw [cf_bl]; exact bitN_lt l j⟩
theorem test_ext {x y : Nat} (hx : x < 256) (hy : y < 256) (h : ∀ s, s < 8 → x.testBit s = y.testBit s) : x = y := by
  apply Nat.eq_of_testBit_eq
  intro s
  by_cases hs : s < 8
  · exact h s hs
  · have e : ∀ z, z < 256 → z.testBit s = false := fun z hz => Nat.testBit_lt_two_pow (Nat.lt_of_lt_of_le hz (Nat.pow_le_pow_right (n := 2) (by omega) (show 8 ≤ s by omega)))
    rw [e x hx, e y hy]
theorem toNat_inj {a b : Bool} (h : a.toNat = b.toNat) : a = b := by cases a <;> cases b <;> simp_all
theorem bytes_ext {a b : List Nat} (ha : Tr 8 a) (hb : Tr 8 b) (h : ∀ j, bitN a j = bitN b j) : a = b :=
  ha.ext hb (fun i => test_ext (ha.c i) (hb.c i) (fun s hs => by
    have := h (8 * i + s)
    rw [bitN_test _ _ _ hs, bitN_test _ _ _ hs] at this
    exact toNat_inj this))
theorem bl_inj {a b : List Nat} (ha : Tr 8 a) (hb : Tr 8 b) (h : bl a = bl b) : a = b := bytes_ext ha hb (fun j => by rw [← cf_bl, ← cf_bl, h])
/-- A byte of bits. -/
def byt (f : Nat → Nat) : Nat → Nat
  | 0 => 0
  | n + 1 => byt f n + f n * 2 ^ n
theorem byt_spec {f : Nat → Nat} (hf : ∀ j, f j < 2) : ∀ n, byt f n < 2 ^ n ∧ ∀ s, s < n → ((byt f n).testBit s).toNat = f s
  | 0 => ⟨by show 0 < 1; omega, fun s h => by omega⟩
  | n + 1 => by
    obtain ⟨h1, h2⟩ := byt_spec hf n
    have hfn := hf n
    have e : byt f (n + 1) = 2 ^ n * f n + byt f n := by
      show byt f n + f n * 2 ^ n = _
      rw [Nat.mul_comm (f n), Nat.add_comm]
    refine ⟨?_, fun s hs => ?_⟩
    · rw [e, Nat.pow_succ]
      have : 2 ^ n * f n ≤ 2 ^ n * 1 := Nat.mul_le_mul_left _ (by omega)
      omega
    · rw [e, Nat.testBit_two_pow_mul_add _ h1]
      by_cases h : s < n
      · rw [if_pos h]; exact h2 s h
      · obtain rfl : s = n := by omega
        rw [if_neg (by omega), Nat.sub_self]
        rcases (show f s = 0 ∨ f s = 1 by omega) with h0 | h0 <;> rw [h0] <;> decide
/-- The bytes of a polynomial. -/
def bys (a : List Nat) : List Nat := pl ((a.length + 7) / 8) (fun i => byt (fun s => cf a (8 * i + s)) 8)
theorem bys_tr {a : List Nat} (h : ∀ j, cf a j < 2) : Tr 8 (bys a) := pl_tr (fun i => (byt_spec (fun s => h (8 * i + s)) 8).1)
theorem bitN_bys {a : List Nat} (h : ∀ j, cf a j < 2) (j : Nat) : bitN (bys a) j = cf a j := by
  have e := bitN_test (bys a) (j / 8) (j % 8) (Nat.mod_lt _ (by omega))
  rw [show 8 * (j / 8) + j % 8 = j by omega] at e
  rw [e]
  unfold bys
  rw [cf_pl]
  split
  · rw [(byt_spec (fun s => h (8 * (j / 8) + s)) 8).2 _ (Nat.mod_lt _ (by omega)), show 8 * (j / 8) + j % 8 = j by omega]
  · rw [cf_out (by omega)]
    simp
theorem bl_bys {a : List Nat} (h : B1 a) : bl (bys a) = a := (bl_b1 _).tr.ext h.tr (fun j => by rw [cf_bl, bitN_bys h.le])
theorem bys_bl {l : List Nat} (h : Tr 8 l) : bys (bl l) = l := bl_inj (bys_tr (bl_b1 l).le) h (bl_bys (bl_b1 l))
/-- Whatever has these bits is the bytes of the polynomial. -/
theorem bys_of {l a : List Nat} (hl : ∀ x ∈ l, x < 256) (ha : B1 a) (h : ∀ j, bitN l j = cf a j) : trim l = bys a :=
  bytes_ext (a := trim l) ⟨fun x hx => trim_lt hl x hx, trim_trim l⟩ (bys_tr ha.le) (fun j => by
    rw [bitN_bys ha.le, ← h]
    unfold bitN
    rw [cf_trim])
theorem bys_len (a : List Nat) : (bys a).length ≤ (a.length + 7) / 8 := by
  unfold bys pl
  rw [trim_length]
  simpa using tl_le ((List.range ((a.length + 7) / 8)).map fun i => byt (fun s => cf a (8 * i + s)) 8)
theorem bl_len (l : List Nat) : (bl l).length ≤ 8 * l.length := by
  unfold bl pl
  rw [trim_length]
  simpa using tl_le ((List.range (8 * l.length)).map (bitN l))
theorem bl_trim (l : List Nat) : bl (trim l) = bl l := (bl_b1 _).tr.ext (bl_b1 _).tr (fun j => by
  rw [cf_bl, cf_bl]
  unfold bitN
  rw [cf_trim])

/-! ### Sums, products, quotients keep to 0 and 1 -/
theorem xor_two {a b : Nat} (ha : a < 2) (hb : b < 2) : a ^^^ b < 2 := Nat.xor_lt_two_pow (n := 1) ha hb
theorem gm_two {a b : Nat} (ha : a < 2) (hb : b < 2) : gm 3 a b = a * b := by
  rcases (show a = 0 ∨ a = 1 by omega) with rfl | rfl <;> rcases (show b = 0 ∨ b = 1 by omega) with rfl | rfl <;> decide
theorem gm_two_lt {a b : Nat} (ha : a < 2) (hb : b < 2) : gm 3 a b < 2 := by
  rw [gm_two ha hb]
  rcases (show a = 0 ∨ a = 1 by omega) with rfl | rfl <;> omega
theorem xs_two {f : Nat → Nat} : ∀ {n : Nat}, (∀ i, i < n → f i < 2) → xs f n < 2
  | 0, _ => by show 0 < 2; omega
  | n + 1, h => xor_two (xs_two (fun i hi => h i (by omega))) (h n (by omega))
theorem addP_b1 {a b : List Nat} (ha : B1 a) (hb : B1 b) : B1 (addP a b) := ⟨addP_tr ok3 ha.tr hb.tr, fun j => by rw [cf_addP]; exact xor_two (ha.le j) (hb.le j)⟩
theorem mulP_b1 {a b : List Nat} (ha : B1 a) (hb : B1 b) : B1 (mulP 3 a b) := ⟨mulP_tr ok3 ha.tr hb.tr, fun j => by
  rw [cf_mulP]
  exact xs_two (fun i _ => gm_two_lt (ha.le _) (hb.le _))⟩
theorem inv_one {m : Nat} (hm : Ok m) : inv m 1 = 1 := by
  have := gm_inv hm (one_lt hm) (by omega)
  rw [gm_one_left hm (inv_lt hm _)] at this
  exact this
theorem B1.top {a : List Nat} (h : B1 a) (h0 : a.length ≠ 0) : cf a (a.length - 1) = 1 := by
  have h1 := h.tr.top h0
  have h2 := h.le (a.length - 1)
  omega
theorem nil_b1 : B1 [] := ⟨nil_tr 3, fun j => by rw [cf_nil]; omega⟩
theorem lt8 {f : Nat → Nat} (h : ∀ j, f j < 2) (j : Nat) : f j < 2 ^ 3 := Nat.lt_trans (h j) (by decide)
theorem dC_two {b : List Nat} (hb : B1 b) (h0 : b.length ≠ 0) {R : Nat → Nat} (hR : ∀ j, R j < 2) (n : Nat) : dC 3 b R n < 2 := by
  unfold dC
  rw [hb.top h0, inv_one ok3, gm_one_right ok3 (lt8 hR _)]
  exact hR _
theorem dSi_two {b : List Nat} (hb : B1 b) {R : Nat → Nat} (hR : ∀ j, R j < 2) {n c i : Nat} (hc : c < 2) (j : Nat) : dSi 3 b R n c i j < 2 := by
  unfold dSi
  split
  · exact xor_two (hR j) (gm_two_lt hc (hb.le _))
  · exact hR j
theorem divR_two {b : List Nat} (hb : B1 b) (h0 : b.length ≠ 0) : ∀ (n : Nat) {R : Nat → Nat}, (∀ j, R j < 2) → ∀ j, divR 3 b n R j < 2
  | 0, _, hR, j => hR j
  | n + 1, _, hR, j => divR_two hb h0 n (fun j => dSi_two hb hR (dC_two hb h0 hR n) j) j
theorem divQ_two {b : List Nat} (hb : B1 b) (h0 : b.length ≠ 0) : ∀ (n : Nat) {R : Nat → Nat}, (∀ j, R j < 2) → ∀ j, divQ 3 b n R j < 2
  | 0, _, _, _ => by show 0 < 2; omega
  | n + 1, R, hR, j => by
    unfold divQ
    split
    · exact dC_two hb h0 hR n
    · exact divQ_two hb h0 n (fun j => dSi_two hb hR (dC_two hb h0 hR n) j) j
theorem quotP_b1 {a b : List Nat} (ha : B1 a) (hb : B1 b) (h0 : b.length ≠ 0) : B1 (quotP 3 a b) := ⟨quotP_tr ok3 ha.tr, fun j => by rw [cf_quotP ok3]; exact divQ_two hb h0 _ ha.le j⟩
theorem restP_b1 {a b : List Nat} (ha : B1 a) (hb : B1 b) (h0 : b.length ≠ 0) : B1 (restP 3 a b) := ⟨restP_tr ok3 ha.tr, fun j => by rw [cf_restP ok3 ha.tr hb.tr h0]; exact divR_two hb h0 _ ha.le j⟩
theorem gcdP_b1 : ∀ (k : Nat) {a b : List Nat}, B1 a → B1 b → B1 (gcdP 3 k a b)
  | 0, _, _, ha, _ => ha
  | k + 1, a, b, ha, hb => by
    unfold gcdP
    split
    · exact ha
    · rename_i h0
      exact gcdP_b1 k hb (restP_b1 ha hb h0)
theorem gcdE_b1 {a b : List Nat} (ha : B1 a) (hb : B1 b) : B1 (gcdE 3 a b) := gcdP_b1 _ ha hb
/-! ### Shifts -/
/-- n places up. -/
def upP (n : Nat) (a : List Nat) : List Nat := pl (n + a.length) (fun j => if n ≤ j then cf a (j - n) else 0)
/-- n places down. -/
def dnP (n : Nat) (a : List Nat) : List Nat := pl a.length (fun j => cf a (j + n))
theorem cf_upP (n : Nat) (a : List Nat) (j : Nat) : cf (upP n a) j = if n ≤ j then cf a (j - n) else 0 := by
  unfold upP
  rw [cf_pl]
  split
  · rfl
  · split
    · rw [cf_out (by omega)]
    · rfl
theorem cf_dnP (n : Nat) (a : List Nat) (j : Nat) : cf (dnP n a) j = cf a (j + n) := by
  unfold dnP
  rw [cf_pl]
  split
  · rfl
  · rw [cf_out (by omega)]
theorem upP_b1 {a : List Nat} (ha : B1 a) (n : Nat) : B1 (upP n a) := ⟨pl_tr (fun j => by split; exact ha.tr.c _; decide), fun j => by rw [cf_upP]; split; exact ha.le _; omega⟩
theorem dnP_b1 {a : List Nat} (ha : B1 a) (n : Nat) : B1 (dnP n a) := ⟨pl_tr (fun j => ha.tr.c _), fun j => by rw [cf_dnP]; exact ha.le _⟩
theorem dn_up {a : List Nat} (ha : B1 a) (n : Nat) : dnP n (upP n a) = a := (dnP_b1 (upP_b1 ha n) n).tr.ext ha.tr (fun j => by rw [cf_dnP, cf_upP, if_pos (by omega), show j + n - n = j by omega])
/-- x to the n-th. -/
def xP (n : Nat) : List Nat := upP n [1]
theorem one_b1 : B1 [1] := ⟨⟨by decide, by decide⟩, fun j => by cases j with | zero => decide | succ j => rw [cf_cons_succ, cf_nil]; omega⟩
theorem xP_b1 (n : Nat) : B1 (xP n) := upP_b1 one_b1 n
theorem cf_xP (n j : Nat) : cf (xP n) j = if j = n then 1 else 0 := by
  unfold xP
  rw [cf_upP]
  by_cases h : j = n
  · subst h; rw [if_pos (Nat.le_refl _), if_pos rfl, Nat.sub_self]; rfl
  · rw [if_neg h]
    split
    · rw [cf_out (by simp; omega)]
    · rfl
theorem mul_xP {a : List Nat} (ha : B1 a) (n : Nat) : mulP 3 a (xP n) = upP n a := by
  rw [mulP_comm ok3 ha.tr (xP_b1 n).tr]
  refine (mulP_tr ok3 (xP_b1 n).tr ha.tr).ext (upP_b1 ha n).tr (fun j => ?_)
  rw [cf_mulP, cv_congr (f' := fun i => if i = n then 1 else 0) (fun i _ => cf_xP n i) (fun _ _ => rfl), cv_one, cf_upP]
  split
  · rw [gm_one_left ok3 (ha.tr.c _)]
  · rfl
/-! ### Degrees -/
theorem upP_len {a : List Nat} (ha : B1 a) (h0 : a.length ≠ 0) (n : Nat) : (upP n a).length = n + a.length := by
  have h1 : (upP n a).length ≤ n + a.length := by
    unfold upP pl
    rw [trim_length]
    simpa using tl_le ((List.range (n + a.length)).map fun j => if n ≤ j then cf a (j - n) else 0)
  refine Nat.le_antisymm h1 (Nat.le_of_not_lt fun hlt => ?_)
  have h2 := cf_upP n a (n + a.length - 1)
  rw [if_pos (by omega), show n + a.length - 1 - n = a.length - 1 by omega, cf_out (by omega), ha.top h0] at h2
  cases h2
end Go.Proofs.YtcjddlcinaedaaaDoor
