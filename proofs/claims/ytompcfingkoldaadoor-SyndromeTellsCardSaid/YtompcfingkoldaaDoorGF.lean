/- Texts that all walks share, as one. Conditions: each theorem tells its own. -/
import Derived.Test.YtompcfingkoldaaDoorGB
import Derived.Test.YtompcfingkoldaaDoorGC
import Derived.Test.YtompcfingkoldaaDoorGD
import Derived.Laws.CopyRow
import Derived.Laws.IdiomCopy
import Derived.Test.YtompcfingkoldaaDoorGE
section
/- The rest of a word behind a generator: bit by bit, byte by byte. No program. -/
namespace Go.Proofs.YtompcfingkoldaaDoor
open Go Go.Sx Go.Fm
/-- The polynomial x times a, and b. -/
def consP (b : Nat) (a : List Nat) : List Nat := pl (a.length + 1) (fun j => if j = 0 then b else cf a (j - 1))
theorem cf_consP (b : Nat) (a : List Nat) (j : Nat) : cf (consP b a) j = if j = 0 then b else cf a (j - 1) := by
  unfold consP
  rw [cf_pl]
  split
  · rfl
  · rw [if_neg (by omega), cf_out (by omega)]
theorem consP_b1 {b : Nat} (hb : b < 2) {a : List Nat} (ha : B1 a) : B1 (consP b a) := by
  have h : ∀ j, cf (consP b a) j < 2 := fun j => by
    rw [cf_consP]
    split
    · exact hb
    · exact ha.le _
  exact ⟨pl_tr (fun j => by
    split
    · exact Nat.lt_trans hb (by decide)
    · exact ha.tr.c _), h⟩
theorem b1_ext {a b : List Nat} (ha : B1 a) (hb : B1 b) (h : ∀ j, cf a j = cf b j) : a = b := ha.tr.ext hb.tr h
theorem b1_len {a : List Nat} (h : B1 a) {n : Nat} (hz : ∀ j, n ≤ j → cf a j = 0) : a.length ≤ n := Nat.le_of_not_lt fun hl => h.tr.top (by omega) (hz _ (by omega))
theorem pl_b1 {n : Nat} {f : Nat → Nat} (hf : ∀ j, f j < 2) : B1 (pl n f) := ⟨pl_tr (fun j => Nat.lt_trans (hf j) (by decide)), fun j => by
  rw [cf_pl]
  split
  · exact hf j
  · omega⟩
theorem mul_oneL {a : List Nat} (ha : B1 a) : mulP 3 [1] a = a := by
  have e : xP 0 = [1] := by decide +kernel
  rw [← e, mulP_comm ok3 (xP_b1 0).tr ha.tr, mul_xP ha]
  exact b1_ext (upP_b1 ha 0) ha (fun j => by rw [cf_upP, if_pos (by omega), Nat.sub_zero])
section
variable {G : List Nat} (hG : B1 G) (h2 : 2 ≤ G.length)
/-- The rest of a word's upper part. -/
noncomputable def encE (G A : List Nat) : List Nat := restP 3 (upP (G.length - 1) A) G
include hG h2
theorem encE_b1 {A : List Nat} (hA : B1 A) : B1 (encE G A) := restP_b1 (upP_b1 hA _) hG (by omega)
theorem encE_len {A : List Nat} (hA : B1 A) : (encE G A).length ≤ G.length - 1 := by
  have := restP_len ok3 (upP_b1 hA (G.length - 1)).tr.lt hG.tr.lt (by omega) (hG.tr.top (by omega))
  unfold encE
  omega
theorem encE_div {A : List Nat} (hA : B1 A) : addP (mulP 3 (quotP 3 (upP (G.length - 1) A) G) G) (encE G A) = upP (G.length - 1) A := div_eq ok3 (upP_b1 hA _).tr hG.tr (by omega)
/-- What is left, when it is less than the generator, is the rest. -/
theorem encE_of {A q r : List Nat} (hA : B1 A) (hq : B1 q) (hr : B1 r) (hl : r.length < G.length) (h : addP (mulP 3 q G) r = upP (G.length - 1) A) : encE G A = r := (div_uniq ok3 (upP_b1 hA _).tr hG.tr (by omega) hq.tr hr.tr hl h).2.symm
theorem encE_add {A B : List Nat} (hA : B1 A) (hB : B1 B) : encE G (addP A B) = addP (encE G A) (encE G B) := by
  have eA := encE_div hG h2 hA
  have eB := encE_div hG h2 hB
  have lA := encE_len hG h2 hA
  have lB := encE_len hG h2 hB
  have bA := encE_b1 hG h2 hA
  have bB := encE_b1 hG h2 hB
  have qA := quotP_b1 (upP_b1 hA (G.length - 1)) hG (by omega)
  have qB := quotP_b1 (upP_b1 hB (G.length - 1)) hG (by omega)
  generalize quotP 3 (upP (G.length - 1) A) G = q1 at *
  generalize quotP 3 (upP (G.length - 1) B) G = q2 at *
  refine encE_of hG h2 (addP_b1 hA hB) (addP_b1 qA qB) (addP_b1 bA bB) (Nat.lt_of_le_of_lt (b1_len (n := G.length - 1) (addP_b1 bA bB) (fun j hj => by rw [cf_addP, cf_out (by omega), cf_out (by omega)]; rfl)) (by omega)) ?_
  refine b1_ext (addP_b1 (mulP_b1 (addP_b1 qA qB) hG) (addP_b1 bA bB)) (upP_b1 (addP_b1 hA hB) _) (fun j => ?_)
  have hAj : cf (mulP 3 q1 G) j ^^^ cf (encE G A) j = cf (upP (G.length - 1) A) j := by rw [← cf_addP, eA]
  have hBj : cf (mulP 3 q2 G) j ^^^ cf (encE G B) j = cf (upP (G.length - 1) B) j := by rw [← cf_addP, eB]
  have hu : cf (upP (G.length - 1) (addP A B)) j = cf (upP (G.length - 1) A) j ^^^ cf (upP (G.length - 1) B) j := by
    rw [cf_upP, cf_upP, cf_upP]
    split
    · exact cf_addP _ _ _
    · rfl
  rw [cf_addP, cf_addP, mulP_add_left ok3 qA.tr qB.tr hG.tr, cf_addP, hu, ← hAj, ← hBj, ← Nat.xor_assoc, ← Nat.xor_assoc, Nat.xor_assoc (cf (mulP 3 q1 G) j), Nat.xor_comm (cf (mulP 3 q2 G) j) (cf (encE G A) j), ← Nat.xor_assoc]
theorem encE_zero : encE G [] = [] := by
  refine encE_of hG h2 nil_b1 nil_b1 nil_b1 (by simp; omega) ?_
  rw [mulP_nil_l, addP_nil ok3 (nil_tr 3)]
  exact b1_ext nil_b1 (upP_b1 nil_b1 _) (fun j => by rw [cf_upP, cf_nil, cf_nil, ite_self])
/-- What a step of one bit gives. -/
theorem encE_step {A : List Nat} (hA : B1 A) {b : Nat} (hb : b < 2) (j : Nat) : cf (encE G (consP b A)) j = if j < G.length - 1 then (if j = 0 then 0 else cf (encE G A) (j - 1)) ^^^ (b ^^^ cf (encE G A) (G.length - 1 - 1)) * cf G j else 0 := by
  have eA := encE_div hG h2 hA
  have lA := encE_len hG h2 hA
  have bA := encE_b1 hG h2 hA
  have qA := quotP_b1 (upP_b1 hA (G.length - 1)) hG (by omega)
  generalize quotP 3 (upP (G.length - 1) A) G = q at *
  generalize hR : encE G A = R at *
  generalize hd : G.length - 1 = d at *
  have ho : b ^^^ cf R (d - 1) < 2 := xor_two hb (bA.le _)
  generalize hout : b ^^^ cf R (d - 1) = out at *
  have hmul : ∀ j, out * cf G j < 2 := fun j => by
    have := hG.le j
    rcases (show out = 0 ∨ out = 1 by omega) with h | h <;> rw [h] <;> omega
  have hcb : B1 (pl d (fun j => (if j = 0 then 0 else cf R (j - 1)) ^^^ out * cf G j)) := pl_b1 (fun j => xor_two (by split; omega; exact bA.le _) (hmul j))
  have hob : B1 (pl 1 (fun _ => out)) := pl_b1 (fun _ => ho)
  have key : encE G (consP b A) = pl d (fun j => (if j = 0 then 0 else cf R (j - 1)) ^^^ out * cf G j) := by
    refine encE_of hG h2 (consP_b1 hb hA) (addP_b1 (upP_b1 qA 1) hob) hcb (by
      have : (pl d (fun j => (if j = 0 then 0 else cf R (j - 1)) ^^^ out * cf G j)).length ≤ d := b1_len hcb (fun j hj => by rw [cf_pl, if_neg (by omega)])
      omega) ?_
    refine b1_ext (addP_b1 (mulP_b1 (addP_b1 (upP_b1 qA 1) hob) hG) hcb) (upP_b1 (consP_b1 hb hA) _) (fun j => ?_)
    have e1 : mulP 3 (upP 1 q) G = upP 1 (mulP 3 q G) := by
      rw [← mul_xP qA, ← mul_xP (mulP_b1 qA hG), mulP_assoc ok3 qA.tr (xP_b1 1).tr hG.tr, mulP_comm ok3 (xP_b1 1).tr hG.tr, ← mulP_assoc ok3 qA.tr hG.tr (xP_b1 1).tr]
    have e2 : cf (mulP 3 (pl 1 (fun _ => out)) G) j = out * cf G j := by
      rcases (show out = 0 ∨ out = 1 by omega) with h | h
      · have : pl 1 (fun _ => out) = [] := by rw [h]; rfl
        rw [this, mulP_nil_l, cf_nil, h, Nat.zero_mul]
      · have : pl 1 (fun _ => out) = [1] := by rw [h]; rfl
        rw [this, mul_oneL hG, h, Nat.one_mul]
    have e3 : ∀ i, cf (mulP 3 q G) i = cf (upP d A) i ^^^ cf R i := fun i => by
      rw [← eA, cf_addP, Nat.xor_assoc, Nat.xor_self, Nat.xor_zero]
    have gd : cf G d = 1 := by have := hG.top (by omega); rwa [hd] at this
    have go : d < j → cf G j = 0 := fun h => cf_out (by omega)
    rw [cf_addP, mulP_add_left ok3 (upP_b1 qA 1).tr hob.tr hG.tr, cf_addP, e1, e2, cf_upP 1, e3, hd, cf_upP d, cf_upP d, cf_consP, cf_pl]
    by_cases h0 : j = 0
    · subst h0
      rw [if_neg (by omega), if_pos (by omega), if_pos rfl, if_neg (by omega), Nat.zero_xor]
      exact Nat.xor_self _
    · rw [if_pos (by omega), if_neg h0]
      by_cases h1 : j < d
      · rw [if_neg (by omega), if_pos h1, if_neg (by omega), Nat.zero_xor]
        exact Nat.xor_self _
      · rw [if_neg h1, Nat.xor_zero, if_pos (show d ≤ j by omega)]
        by_cases h3 : j = d
        · subst h3
          rw [if_neg (show ¬ j ≤ j - 1 by omega), Nat.zero_xor, if_pos (show j - j = 0 by omega), gd, Nat.mul_one, ← hout, Nat.xor_comm b, ← Nat.xor_assoc, Nat.xor_self, Nat.zero_xor]
        · have r0 : cf R (j - 1) = 0 := cf_out (by omega)
          have g0 : cf G j = 0 := cf_out (by omega)
          rw [if_pos (show d ≤ j - 1 by omega), r0, g0, Nat.mul_zero, Nat.xor_zero, Nat.xor_zero, if_neg (show ¬ j - d = 0 by omega), show j - 1 - d = j - d - 1 by omega]
  rw [key, cf_pl]
end
end Go.Proofs.YtompcfingkoldaaDoor
end
section
/- A register's bytes: shifted by a bit, by a byte. No program. -/
namespace Go.Proofs.YtompcfingkoldaaDoor
open Go Go.Sx Go.Fm
theorem cf8 {L : List Nat} (hL : ∀ x ∈ L, x < 256) (i : Nat) : cf L i < 256 := cf_lt hL (by decide) i
/-- A list of a function's first values. -/
def tb (n : Nat) (f : Nat → Nat) : List Nat := (List.range n).map f
theorem tb_len (n : Nat) (f : Nat → Nat) : (tb n f).length = n := by simp [tb]
theorem tb_get {n i : Nat} {f : Nat → Nat} (h : i < n) : (tb n f)[i]? = some (f i) := by simp [tb, h]
theorem cf_tb {n i : Nat} {f : Nat → Nat} (h : i < n) : cf (tb n f) i = f i := by
  unfold cf
  rw [List.getD_eq_getElem?_getD, tb_get h]; rfl
theorem tb_congr {n : Nat} {f g : Nat → Nat} (h : ∀ i, i < n → f i = g i) : tb n f = tb n g := List.map_congr_left (fun i hi => h i (List.mem_range.1 hi))
theorem tb_of (l : List Nat) : tb l.length (cf l) = l := by
  apply List.ext_getElem?
  intro i
  by_cases h : i < l.length
  · rw [tb_get h, cf_in h]
  · rw [List.getElem?_eq_none (by rw [tb_len]; omega), List.getElem?_eq_none (by omega)]
theorem tb_set {n i : Nat} {f : Nat → Nat} (v : Nat) : (tb n f).set i v = tb n (fun j => if j = i then v else f j) := by
  apply List.ext_getElem?
  intro j
  rw [List.getElem?_set]
  by_cases hj : j < n
  · rw [tb_get hj, tb_get hj, tb_len]
    by_cases h : i = j
    · subst h; rw [if_pos rfl, if_pos hj, if_pos rfl]
    · rw [if_neg h, if_neg (Ne.symm h)]
  · rw [List.getElem?_eq_none (l := tb n f) (by rw [tb_len]; omega), List.getElem?_eq_none (l := tb n fun j => if j = i then v else f j) (by rw [tb_len]; omega), tb_len]
    by_cases h : i = j
    · rw [if_pos h, if_neg (by omega)]
    · rw [if_neg h]
theorem tb_lt {n b : Nat} {f : Nat → Nat} (h : ∀ i, i < n → f i < b) : ∀ x ∈ tb n f, x < b := fun x hx => by
  obtain ⟨i, hi, e⟩ := List.mem_map.1 hx
  rw [← e]
  exact h i (List.mem_range.1 hi)
/-- A polynomial's first k bytes. -/
def pb (k : Nat) (a : List Nat) : List Nat := tb k (fun i => byt (fun s => cf a (8 * i + s)) 8)
theorem pb_len (k : Nat) (a : List Nat) : (pb k a).length = k := tb_len _ _
theorem pb_lt {a : List Nat} (ha : B1 a) (k : Nat) : ∀ x ∈ pb k a, x < 256 := tb_lt (fun i _ => (byt_spec (fun s => ha.le (8 * i + s)) 8).1)
theorem pb_test {a : List Nat} (ha : B1 a) {k i s : Nat} (hi : i < k) (hs : s < 8) : ((cf (pb k a) i).testBit s).toNat = cf a (8 * i + s) := by
  unfold pb
  rw [cf_tb hi]
  exact (byt_spec (fun s => ha.le (8 * i + s)) 8).2 s hs
/-- Bytes with these bits are these. -/
theorem pb_of {L a : List Nat} (ha : B1 a) (hL : ∀ x ∈ L, x < 256) (h : ∀ i s, i < L.length → s < 8 → ((cf L i).testBit s).toNat = cf a (8 * i + s)) : L = pb L.length a := by
  have e := tb_of L
  rw [← e]
  unfold pb
  rw [tb_len]
  refine tb_congr (fun i hi => test_ext (cf8 hL i) (byt_spec (fun s => ha.le (8 * i + s)) 8).1 (fun s hs => toNat_inj ?_))
  rw [h i s hi hs]
  exact ((byt_spec (fun s => ha.le (8 * i + s)) 8).2 s hs).symm
theorem bitN_pb {a : List Nat} (ha : B1 a) {k j : Nat} (h : j < 8 * k) : bitN (pb k a) j = cf a j := by
  have e := bitN_test (pb k a) (j / 8) (j % 8) (Nat.mod_lt _ (by omega))
  rw [show 8 * (j / 8) + j % 8 = j by omega] at e
  rw [e, pb_test ha (by omega) (Nat.mod_lt _ (by omega)), show 8 * (j / 8) + j % 8 = j by omega]
theorem bl_pb {a : List Nat} (ha : B1 a) {k : Nat} (h : a.length ≤ 8 * k) : bl (pb k a) = a := b1_ext (bl_b1 _) ha (fun j => by
  rw [cf_bl]
  by_cases hj : j < 8 * k
  · exact bitN_pb ha hj
  · rw [bitN_out (by rw [pb_len]; omega), cf_out (by omega)])
theorem pb_zero (k : Nat) : List.replicate k 0 = pb k [] := by
  have h := pb_of (L := List.replicate k 0) (a := []) nil_b1 (fun x hx => by rw [(List.mem_replicate.1 hx).2]; decide) (fun i s hi hs => by
    have : cf (List.replicate k 0) i = 0 := by unfold cf; rw [List.getD_eq_getElem?_getD, List.getElem?_replicate]; split <;> rfl
    rw [this, cf_nil]; simp)
  rwa [List.length_replicate] at h
/-! ### By a bit -/
/-- A byte that gets its lower neighbour's highest bit. -/
def shN (L : List Nat) (i : Nat) : Nat := cf L i * 2 ^ 1 % 256 ||| (cf L (i - 1) >>> 7)
theorem shl_test (x s : Nat) (hs : s < 8) : (x * 2 ^ 1 % 256).testBit s = if s = 0 then false else x.testBit (s - 1) := by
  rw [show (256 : Nat) = 2 ^ 8 from rfl, Nat.testBit_mod_two_pow, decide_eq_true hs, Bool.true_and, Nat.mul_comm, Nat.testBit_two_pow_mul]
  by_cases h : s = 0
  · subst h; rfl
  · rw [if_neg h, decide_eq_true (by omega), Bool.true_and]
theorem shN_test {L : List Nat} (hL : ∀ x ∈ L, x < 256) {i s : Nat} (hs : s < 8) : (shN L i).testBit s = if s = 0 then (cf L (i - 1)).testBit 7 else (cf L i).testBit (s - 1) := by
  unfold shN
  rw [Nat.testBit_or, shl_test _ s hs, Nat.testBit_shiftRight]
  by_cases h : s = 0
  · subst h; rw [if_pos rfl, if_pos rfl, Bool.false_or]
  · rw [if_neg h, if_neg h]
    have : (cf L (i - 1)).testBit (7 + s) = false := Nat.testBit_lt_two_pow (Nat.lt_of_lt_of_le (cf8 hL _) (show 2 ^ 8 ≤ 2 ^ (7 + s) from Nat.pow_le_pow_right (by omega) (by omega)))
    rw [this, Bool.or_false]
theorem shN_lt {L : List Nat} (hL : ∀ x ∈ L, x < 256) (i : Nat) : shN L i < 256 := by
  unfold shN
  refine Nat.or_lt_two_pow (n := 8) (Nat.mod_lt _ (by decide)) ?_
  have := cf8 hL (i - 1)
  rw [Nat.shiftRight_eq_div_pow]
  omega
/-- The register shifted, its last byte cut. -/
def shC (d : Nat) (L : List Nat) (i : Nat) : Nat :=
  let v := if i = 0 then cf L 0 * 2 ^ 1 % 256 else shN L i
  if i = L.length - 1 ∧ d % 8 ≠ 0 then v % 2 ^ (d % 8) else v
theorem shC_lt {L : List Nat} (hL : ∀ x ∈ L, x < 256) (d i : Nat) : shC d L i < 256 := by
  unfold shC
  have hv : (if i = 0 then cf L 0 * 2 ^ 1 % 256 else shN L i) < 256 := by
    split
    · exact Nat.mod_lt _ (by decide)
    · exact shN_lt hL i
  simp only
  split
  · exact Nat.lt_of_le_of_lt (Nat.mod_le _ _) hv
  · exact hv
theorem shC_test {d : Nat} (hd : 1 ≤ d) {R : List Nat} (hR : B1 R) {i s : Nat} (hi : i < (d + 7) / 8) (hs : s < 8) : ((shC d (pb ((d + 7) / 8) R) i).testBit s).toNat = if 8 * i + s < d then (if 8 * i + s = 0 then 0 else cf R (8 * i + s - 1)) else 0 := by
  have hL := pb_lt hR ((d + 7) / 8)
  have hv : (((if i = 0 then cf (pb ((d + 7) / 8) R) 0 * 2 ^ 1 % 256 else shN (pb ((d + 7) / 8) R) i)).testBit s).toNat = if 8 * i + s = 0 then 0 else cf R (8 * i + s - 1) := by
    by_cases h0 : i = 0
    · subst h0
      rw [if_pos rfl, shl_test _ s hs]
      by_cases h : s = 0
      · subst h; rfl
      · rw [if_neg h, if_neg (by omega), pb_test hR hi (by omega), show 8 * 0 + s - 1 = 8 * 0 + (s - 1) by omega]
    · rw [if_neg h0, shN_test hL hs]
      by_cases h : s = 0
      · subst h
        rw [if_pos rfl, if_neg (by omega), pb_test hR (by omega) (by omega), show 8 * i + 0 - 1 = 8 * (i - 1) + 7 by omega]
      · rw [if_neg h, if_neg (by omega), pb_test hR hi (by omega), show 8 * i + s - 1 = 8 * i + (s - 1) by omega]
  unfold shC
  rw [pb_len]
  simp only
  split
  · rename_i hc
    rw [Nat.testBit_mod_two_pow]
    by_cases h : s < d % 8
    · rw [decide_eq_true h, Bool.true_and, hv, if_pos (show 8 * i + s < d by omega)]
    · rw [decide_eq_false h, Bool.false_and, if_neg (show ¬ 8 * i + s < d by omega)]
      rfl
  · rename_i hc
    rw [hv, if_pos (show 8 * i + s < d by omega)]
section
variable {G : List Nat} (hG : B1 G) (h2 : 2 ≤ G.length)
/-- The generator without its highest coefficient. -/
def lowG (G : List Nat) : List Nat := pl (G.length - 1) (cf G)
include hG h2
theorem lowG_b1 : B1 (lowG G) := by have := h2; exact pl_b1 hG.le
theorem cf_lowG (j : Nat) : cf (lowG G) j = if j < G.length - 1 then cf G j else 0 := by have := h2; have := hG; exact cf_pl _ _ _
/-- A step of one bit, in bytes. -/
theorem pb_step {A : List Nat} (hA : B1 A) {b : Nat} (hb : b < 2) : pb ((G.length - 1 + 7) / 8) (encE G (consP b A)) = tb ((G.length - 1 + 7) / 8) (fun i => shC (G.length - 1) (pb ((G.length - 1 + 7) / 8) (encE G A)) i ^^^ (if b = cf (encE G A) (G.length - 1 - 1) then 0 else cf (pb ((G.length - 1 + 7) / 8) (lowG G)) i)) := by
  have hE := encE_b1 hG h2 hA
  have hE2 := encE_b1 hG h2 (consP_b1 hb hA)
  have hl := lowG_b1 hG h2
  have hLb := pb_lt hl ((G.length - 1 + 7) / 8)
  have h := pb_of (L := tb ((G.length - 1 + 7) / 8) (fun i => shC (G.length - 1) (pb ((G.length - 1 + 7) / 8) (encE G A)) i ^^^ (if b = cf (encE G A) (G.length - 1 - 1) then 0 else cf (pb ((G.length - 1 + 7) / 8) (lowG G)) i))) hE2 (tb_lt (fun i _ => Nat.xor_lt_two_pow (n := 8) (shC_lt (pb_lt hE _) _ _) (by
    split
    · decide
    · exact cf8 hLb i))) (fun i s hi hs => by
    rw [tb_len] at hi
    rw [cf_tb hi, Nat.testBit_xor, encE_step hG h2 hA hb]
    have h1 := shC_test (d := G.length - 1) (by omega) hE hi hs
    have h3 := pb_test hl hi hs
    have ht := hE.le (G.length - 1 - 1)
    rw [cf_lowG hG h2] at h3
    have hx : ∀ p q : Bool, (p ^^ q).toNat = p.toNat ^^^ q.toNat := by decide
    rw [hx, h1]
    by_cases hj : 8 * i + s < G.length - 1
    · rw [if_pos hj] at h3
      rw [if_pos hj, if_pos hj]
      congr 1
      by_cases hbt : b = cf (encE G A) (G.length - 1 - 1)
      · rw [if_pos hbt, ← hbt, Nat.xor_self, Nat.zero_mul]; simp
      · rw [if_neg hbt, h3]
        have : b ^^^ cf (encE G A) (G.length - 1 - 1) = 1 := by
          rcases (show b = 0 ∨ b = 1 by omega) with h | h <;> rcases (show cf (encE G A) (G.length - 1 - 1) = 0 ∨ cf (encE G A) (G.length - 1 - 1) = 1 by omega) with h4 | h4 <;> rw [h, h4] at hbt ⊢ <;> simp at hbt ⊢
        rw [this, Nat.one_mul]
    · rw [if_neg hj] at h3
      rw [if_neg hj, if_neg hj]
      split
      · simp
      · rw [h3]; rfl)
  rw [tb_len] at h
  exact h.symm
end
/-! ### A word's bits, from above -/
theorem dnP_cons {D : List Nat} (hD : B1 D) (j : Nat) : dnP j D = consP (cf D j) (dnP (j + 1) D) := b1_ext (dnP_b1 hD j) (consP_b1 (hD.le j) (dnP_b1 hD _)) (fun i => by
  rw [cf_consP, cf_dnP, cf_dnP]
  by_cases h : i = 0
  · subst h; rw [if_pos rfl, Nat.zero_add]
  · rw [if_neg h, show i - 1 + (j + 1) = i + j by omega])
theorem dnP_out {D : List Nat} (hD : B1 D) {j : Nat} (h : D.length ≤ j) : dnP j D = [] := b1_ext (dnP_b1 hD j) nil_b1 (fun i => by rw [cf_dnP, cf_out (by omega), cf_nil])
theorem dnP_zero {D : List Nat} (hD : B1 D) : dnP 0 D = D := b1_ext (dnP_b1 hD 0) hD (fun i => by rw [cf_dnP, Nat.add_zero])
/-- The register's bytes, with the bits from j on. -/
noncomputable def regB (G D : List Nat) (j : Nat) : List Nat := pb ((G.length - 1 + 7) / 8) (encE G (dnP j D))
theorem regB_len (G D : List Nat) (j : Nat) : (regB G D j).length = (G.length - 1 + 7) / 8 := pb_len _ _
/-! ### By a byte -/
theorem bl_cons (y : Nat) (l : List Nat) : bl (y :: l) = addP (upP 8 (bl l)) (bl [y]) := b1_ext (bl_b1 _) (addP_b1 (upP_b1 (bl_b1 l) 8) (bl_b1 _)) (fun j => by
  rw [cf_addP, cf_bl, cf_upP, cf_bl [y]]
  by_cases h : 8 ≤ j
  · rw [if_pos h, cf_bl, bitN_out (l := [y]) (by simpa using h), Nat.xor_zero]
    unfold bitN
    rw [show j / 8 = (j - 8) / 8 + 1 by omega, cf_cons_succ, show j % 8 = (j - 8) % 8 by omega]
  · rw [if_neg h, Nat.zero_xor]
    unfold bitN
    rw [show j / 8 = 0 by omega]; rfl)
section
variable {G : List Nat} (hG : B1 G) (h2 : 2 ≤ G.length)
include hG h2
/-- The upper eight of the register. -/
theorem encE_byte (h9 : 9 ≤ G.length) {A D : List Nat} (hA : B1 A) (hD : B1 D) : encE G (addP (upP 8 A) D) = addP (pl (G.length - 1) (fun j => if 8 ≤ j then cf (encE G A) (j - 8) else 0)) (encE G (addP (pl 8 (fun s => cf (encE G A) (G.length - 1 - 8 + s))) D)) := by
  have bA := encE_b1 hG h2 hA
  have lA := encE_len hG h2 hA
  have hT := pl_b1 (n := 8) (f := fun s => cf (encE G A) (G.length - 1 - 8 + s)) (fun s => bA.le _)
  have hC := pl_b1 (n := G.length - 1) (f := fun j => if 8 ≤ j then cf (encE G A) (j - 8) else 0) (fun s => by split; exact bA.le _; omega)
  rw [encE_add hG h2 (upP_b1 hA 8) hD, encE_add hG h2 hT hD]
  have key : encE G (upP 8 A) = addP (pl (G.length - 1) (fun j => if 8 ≤ j then cf (encE G A) (j - 8) else 0)) (encE G (pl 8 (fun s => cf (encE G A) (G.length - 1 - 8 + s)))) := by
    have eA := encE_div hG h2 hA
    have eT := encE_div hG h2 hT
    have bT := encE_b1 hG h2 hT
    have lT := encE_len hG h2 hT
    have qA := quotP_b1 (upP_b1 hA (G.length - 1)) hG (by omega)
    have qT := quotP_b1 (upP_b1 hT (G.length - 1)) hG (by omega)
    generalize quotP 3 (upP (G.length - 1) A) G = q at *
    generalize quotP 3 (upP (G.length - 1) (pl 8 fun s => cf (encE G A) (G.length - 1 - 8 + s))) G = q2 at *
    generalize encE G (pl 8 fun s => cf (encE G A) (G.length - 1 - 8 + s)) = RT at *
    generalize hR : encE G A = R at *
    generalize hd : G.length - 1 = d at *
    refine encE_of hG h2 (upP_b1 hA 8) (addP_b1 (upP_b1 qA 8) qT) (addP_b1 hC bT) (Nat.lt_of_le_of_lt (b1_len (n := d) (addP_b1 hC bT) (fun j hj => by rw [cf_addP, cf_pl, if_neg (by omega), cf_out (by omega)]; rfl)) (by omega)) ?_
    have e1 : mulP 3 (upP 8 q) G = upP 8 (mulP 3 q G) := by
      rw [← mul_xP qA, ← mul_xP (mulP_b1 qA hG), mulP_assoc ok3 qA.tr (xP_b1 8).tr hG.tr, mulP_comm ok3 (xP_b1 8).tr hG.tr, ← mulP_assoc ok3 qA.tr hG.tr (xP_b1 8).tr]
    refine b1_ext (addP_b1 (mulP_b1 (addP_b1 (upP_b1 qA 8) qT) hG) (addP_b1 hC bT)) (upP_b1 (upP_b1 hA 8) _) (fun j => ?_)
    have e3 : ∀ i, cf (mulP 3 q G) i = cf (upP d A) i ^^^ cf R i := fun i => by
      rw [← eA, cf_addP, Nat.xor_assoc, Nat.xor_self, Nat.xor_zero]
    have e4 : ∀ i, cf (mulP 3 q2 G) i ^^^ cf RT i = cf (upP d (pl 8 fun s => cf R (d - 8 + s))) i := fun i => by rw [← eT, cf_addP]
    rw [cf_addP, mulP_add_left ok3 (upP_b1 qA 8).tr qT.tr hG.tr, cf_addP, cf_addP, e1, cf_upP 8, e3, hd, cf_upP d, cf_pl]
    have e5 := e4 j
    rw [cf_upP, cf_pl] at e5
    have hre : ∀ a b c e : Nat, a ^^^ b ^^^ (c ^^^ e) = a ^^^ c ^^^ (b ^^^ e) := fun a b c e => by
      rw [Nat.xor_assoc, Nat.xor_assoc, ← Nat.xor_assoc b, ← Nat.xor_assoc c, Nat.xor_comm b c]
    rw [hre, e5, cf_upP d, cf_upP 8]
    by_cases h8 : 8 ≤ j
    · by_cases hj : j < d
      · simp only [h8, hj, show ¬ d ≤ j - 8 by omega, show ¬ d ≤ j by omega, if_true, if_false, Nat.zero_xor, Nat.xor_zero]
        exact Nat.xor_self _
      · by_cases hj8 : j - d < 8
        · simp only [h8, hj, hj8, show ¬ d ≤ j - 8 by omega, show d ≤ j by omega, show ¬ 8 ≤ j - d by omega, if_true, if_false, Nat.zero_xor, Nat.xor_zero, show d - 8 + (j - d) = j - 8 by omega]
          exact Nat.xor_self _
        · have r0 : cf R (j - 8) = 0 := cf_out (by omega)
          simp only [h8, hj, hj8, r0, show d ≤ j - 8 by omega, show d ≤ j by omega, show 8 ≤ j - d by omega, if_true, if_false, Nat.xor_zero, show j - 8 - d = j - d - 8 by omega]
    · simp only [h8, show ¬ d ≤ j by omega, if_false, ite_self, Nat.xor_zero]
  rw [key]
  exact addP_assoc ok3 hC.tr (encE_b1 hG h2 hT).tr (encE_b1 hG h2 hD).tr
end
end Go.Proofs.YtompcfingkoldaaDoor
end
section
/- A register and a byte; a right word's zeros; right words lie far apart. No program. -/
namespace Go.Proofs.YtompcfingkoldaaDoor
open Go Go.Sx Go.Fm Nb
/-- The register shifted by a byte, its last byte cut. -/
def shD (d : Nat) (L : List Nat) (i : Nat) : Nat :=
  let v := if i = 0 then 0 else cf L (i - 1)
  if i = L.length - 1 ∧ d % 8 ≠ 0 then v % 2 ^ (d % 8) else v
theorem shD_lt {L : List Nat} (hL : ∀ x ∈ L, x < 256) (d i : Nat) : shD d L i < 256 := by
  unfold shD
  have hv : (if i = 0 then 0 else cf L (i - 1)) < 256 := by
    split
    · decide
    · exact cf8 hL _
  simp only
  split
  · exact Nat.lt_of_le_of_lt (Nat.mod_le _ _) hv
  · exact hv
theorem shD_test {d : Nat} (hd : 1 ≤ d) {R : List Nat} (hR : B1 R) {i s : Nat} (hi : i < (d + 7) / 8) (hs : s < 8) : ((shD d (pb ((d + 7) / 8) R) i).testBit s).toNat = if 8 * i + s < d then (if 8 ≤ 8 * i + s then cf R (8 * i + s - 8) else 0) else 0 := by
  have hv : (((if i = 0 then 0 else cf (pb ((d + 7) / 8) R) (i - 1))).testBit s).toNat = if 8 ≤ 8 * i + s then cf R (8 * i + s - 8) else 0 := by
    by_cases h0 : i = 0
    · subst h0
      rw [if_pos rfl, if_neg (by omega), Nat.zero_testBit]
      rfl
    · rw [if_neg h0, if_pos (by omega), pb_test hR (by omega) hs, show 8 * i + s - 8 = 8 * (i - 1) + s by omega]
  unfold shD
  rw [pb_len]
  simp only
  split
  · rename_i hc
    rw [Nat.testBit_mod_two_pow]
    by_cases h : s < d % 8
    · rw [decide_eq_true h, Bool.true_and, hv, if_pos (show 8 * i + s < d by omega)]
    · rw [decide_eq_false h, Bool.false_and, if_neg (show ¬ 8 * i + s < d by omega)]
      rfl
  · rename_i hc
    rw [hv, if_pos (show 8 * i + s < d by omega)]
/-- The register's upper eight bits. -/
def topB (d : Nat) (R : List Nat) : Nat := byt (fun s => cf R (d - 8 + s)) 8
theorem topB_lt {R : List Nat} (hR : B1 R) (d : Nat) : topB d R < 256 := (byt_spec (fun _ => hR.le _) 8).1
theorem bl_one {f : Nat → Nat} (hf : ∀ j, f j < 2) : bl [byt f 8] = pl 8 f := b1_ext (bl_b1 _) (pl_b1 hf) (fun j => by
  rw [cf_bl, cf_pl]
  by_cases h : j < 8
  · have e := bitN_test [byt f 8] 0 j h
    rw [show 8 * 0 + j = j by omega] at e
    rw [e, if_pos h]
    exact (byt_spec hf 8).2 j h
  · rw [if_neg h, bitN_out (by simpa using h)])
theorem bl_xor1 (x y : Nat) : bl [x ^^^ y] = addP (bl [x]) (bl [y]) := b1_ext (bl_b1 _) (addP_b1 (bl_b1 _) (bl_b1 _)) (fun j => by
  rw [cf_addP, cf_bl, cf_bl, cf_bl]
  by_cases h : j < 8
  · have e := fun z => bitN_test [z] 0 j h
    rw [show 8 * 0 + j = j by omega] at e
    rw [e, e, e]
    show ((x ^^^ y).testBit j).toNat = (x.testBit j).toNat ^^^ (y.testBit j).toNat
    rw [Nat.testBit_xor]
    cases x.testBit j <;> cases y.testBit j <;> rfl
  · rw [bitN_out (by simpa using h), bitN_out (by simpa using h), bitN_out (by simpa using h)]; rfl)
section
variable {G : List Nat} (hG : B1 G) (h2 : 2 ≤ G.length)
include hG h2
/-- A step of one byte, in bytes. -/
theorem pb_byte (h9 : 9 ≤ G.length) {A : List Nat} (hA : B1 A) {y : Nat} (_hy : y < 256) : pb ((G.length - 1 + 7) / 8) (encE G (addP (upP 8 A) (bl [y]))) = tb ((G.length - 1 + 7) / 8) (fun i => shD (G.length - 1) (pb ((G.length - 1 + 7) / 8) (encE G A)) i ^^^ cf (pb ((G.length - 1 + 7) / 8) (encE G (bl [topB (G.length - 1) (encE G A) ^^^ y]))) i) := by
  have hE := encE_b1 hG h2 hA
  have hX := encE_b1 hG h2 (bl_b1 [topB (G.length - 1) (encE G A) ^^^ y])
  have hE2 := encE_b1 hG h2 (addP_b1 (upP_b1 hA 8) (bl_b1 [y]))
  have hLb := pb_lt hX ((G.length - 1 + 7) / 8)
  have h := pb_of (L := tb ((G.length - 1 + 7) / 8) (fun i => shD (G.length - 1) (pb ((G.length - 1 + 7) / 8) (encE G A)) i ^^^ cf (pb ((G.length - 1 + 7) / 8) (encE G (bl [topB (G.length - 1) (encE G A) ^^^ y]))) i)) hE2 (tb_lt (fun i _ => Nat.xor_lt_two_pow (n := 8) (shD_lt (pb_lt hE _) _ _) (cf8 hLb i))) (fun i s hi hs => by
    rw [tb_len] at hi
    rw [cf_tb hi, Nat.testBit_xor, encE_byte hG h2 h9 hA (bl_b1 [y]), cf_addP, cf_pl]
    have h1 := shD_test (d := G.length - 1) (by omega) hE hi hs
    have h3 := pb_test hX hi hs
    have hx : ∀ p q : Bool, (p ^^ q).toNat = p.toNat ^^^ q.toNat := by decide
    rw [hx, h1, h3, bl_xor1]
    unfold topB
    rw [bl_one (fun s => hE.le _)])
  rw [tb_len] at h
  exact h.symm
/-- A word and its parity are divided by the generator. -/
theorem word_dvd {A : List Nat} (hA : B1 A) : addP (upP (G.length - 1) A) (encE G A) = mulP 3 (quotP 3 (upP (G.length - 1) A) G) G := by
  have e := encE_div hG h2 hA
  have hE := encE_b1 hG h2 hA
  have hq := quotP_b1 (upP_b1 hA (G.length - 1)) hG (by omega)
  refine b1_ext (addP_b1 (upP_b1 hA _) hE) (mulP_b1 hq hG) (fun j => ?_)
  have h : cf (addP (mulP 3 (quotP 3 (upP (G.length - 1) A) G) G) (encE G A)) j = cf (upP (G.length - 1) A) j := by rw [e]
  rw [cf_addP] at h
  rw [cf_addP, ← h, Nat.xor_assoc, Nat.xor_self, Nat.xor_zero]
theorem word_rest {A : List Nat} (hA : B1 A) : restP 3 (addP (upP (G.length - 1) A) (encE G A)) G = [] := by
  rw [word_dvd hG h2 hA]
  have hq := quotP_b1 (upP_b1 hA (G.length - 1)) hG (by omega)
  exact rest_of_dvd ok3 (mulP_b1 hq hG).tr hG.tr (by omega) ⟨_, hq.tr, rfl⟩
end
/-! ### Right words lie far apart -/
/-- Values over a list, added up. -/
def xl (l : List Nat) (f : Nat → Nat) : Nat := l.foldr (fun s z => f s ^^^ z) 0
theorem xl_snoc (f : Nat → Nat) (k : Nat) : ∀ L : List Nat, xl (L ++ [k]) f = xl L f ^^^ f k
  | [] => by simp [xl]
  | x :: L => by
    show f x ^^^ xl (L ++ [k]) f = (f x ^^^ xl L f) ^^^ f k
    rw [xl_snoc f k L, Nat.xor_assoc]
theorem xorE_xl (m i : Nat) (l : List Nat) : xorE m i l = xl l (fun n => exz m ((n * i : Nat) : Int)) :=
  snoc_ind (P := fun l => xorE m i l = xl l (fun n => exz m ((n * i : Nat) : Int))) rfl (fun L k ih => by
    rw [xl_snoc, ← ih]
    unfold xorE
    rw [List.foldl_append]
    rfl) l
theorem xl_lt {m : Nat} {f : Nat → Nat} : ∀ {l : List Nat}, (∀ s ∈ l, f s < 2 ^ m) → xl l f < 2 ^ m
  | [], _ => Nat.two_pow_pos m
  | x :: _, h => Nat.xor_lt_two_pow (h x (List.mem_cons_self ..)) (xl_lt (fun s hs => h s (List.mem_cons_of_mem _ hs)))
theorem xl_xs (g : Nat → Nat → Nat) (n : Nat) : ∀ l : List Nat, xl l (fun s => xs (fun i => g s i) n) = xs (fun i => xl l (fun s => g s i)) n
  | [] => by
    show 0 = xs (fun _ => 0) n
    rw [xs_zero (fun i _ => rfl)]
  | x :: l => by
    show xs (fun i => g x i) n ^^^ xl l (fun s => xs (fun i => g s i) n) = xs (fun i => g x i ^^^ xl l (fun s => g s i)) n
    rw [xl_xs g n l, xs_xor]
theorem gm_xl {m : Nat} (c : Nat) (f : Nat → Nat) : ∀ l : List Nat, gm m c (xl l f) = xl l (fun s => gm m c (f s))
  | [] => gm_zero_right m c
  | x :: l => by
    show gm m c (f x ^^^ xl l f) = gm m c (f x) ^^^ xl l (fun s => gm m c (f s))
    rw [← gm_xl c f l, gm_xor_right]
theorem xl_one {f : Nat → Nat} {s0 : Nat} : ∀ {l : List Nat}, l.Nodup → s0 ∈ l → (∀ s ∈ l, s ≠ s0 → f s = 0) → xl l f = f s0
  | [], _, h, _ => by cases h
  | x :: l, hn, h, hz => by
    have hn := List.nodup_cons.1 hn
    show f x ^^^ xl l f = f s0
    by_cases he : x = s0
    · subst he
      have : xl l f = 0 := by
        have key : ∀ l' : List Nat, (∀ s ∈ l', f s = 0) → xl l' f = 0 := by
          intro l'
          induction l' with
          | nil => intro _; rfl
          | cons y t ih =>
            intro h
            show f y ^^^ xl t f = 0
            rw [h y (List.mem_cons_self ..), ih (fun s hs => h s (List.mem_cons_of_mem _ hs))]
            rfl
        exact key l (fun s hs => hz s (List.mem_cons_of_mem _ hs) (fun e => hn.1 (e ▸ hs)))
      rw [this, Nat.xor_zero]
    · rw [hz x (List.mem_cons_self ..) he, Nat.zero_xor]
      exact xl_one hn.2 ((List.mem_cons.1 h).resolve_left (Ne.symm he)) (fun s hs h2 => hz s (List.mem_cons_of_mem _ hs) h2)
/-- Powers at unlike places whose first sums are all 0: there are none, or more than the sums. -/
theorem far {m : Nat} (hm : Ok m) {S : List Nat} (hS : S.Nodup) (hN : ∀ s ∈ S, s < N m) (hz : ∀ x, 1 ≤ x → x ≤ S.length → xl S (fun s => exz m ((s * x : Nat) : Int)) = 0) : S = [] := by
  match S, hS, hN, hz with
  | [], _, _, _ => rfl
  | s0 :: T, hS, hN, hz =>
    exfalso
    have hnd := List.nodup_cons.1 hS
    have hT : ∀ r ∈ T.map (fun s : Nat => exz m (s : Int)), r < 2 ^ m := fun r hr => by
      obtain ⟨s, _, e⟩ := List.mem_map.1 hr
      rw [← e]; exact exz_lt hm _
    have hQ := prodL_tr hm hT
    have hQl := prodL_len hm hT
    rw [List.length_map] at hQl
    have hinj : ∀ s, s < N m → ∀ r, r < N m → exz m (s : Int) = exz m (r : Int) → s = r := fun s hs r hr e => by
      have := exz_inj hm e
      have h1 : ((s : Nat) : Int) % ((N m : Nat) : Int) = (s : Int) := Int.emod_eq_of_lt (by omega) (by omega)
      have h2 : ((r : Nat) : Int) % ((N m : Nat) : Int) = (r : Int) := Int.emod_eq_of_lt (by omega) (by omega)
      omega
    have hroot : ∀ s ∈ T, evL m (prodL m (T.map (fun s : Nat => exz m (s : Int)))) (exz m (s : Int)) = 0 := fun s hs => (prodL_root hm (exz_lt hm _) hT).2 (List.mem_map.2 ⟨s, hs, rfl⟩)
    have hne : evL m (prodL m (T.map (fun s : Nat => exz m (s : Int)))) (exz m (s0 : Int)) ≠ 0 := fun h => by
      obtain ⟨s, hs, e⟩ := List.mem_map.1 ((prodL_root hm (exz_lt hm _) hT).1 h)
      have := hinj s (hN s (List.mem_cons_of_mem _ hs)) s0 (hN s0 (List.mem_cons_self ..)) e
      rw [this] at hs
      exact hnd.1 hs
    generalize prodL m (T.map (fun s : Nat => exz m (s : Int))) = Q at hQ hQl hroot hne
    have h1 : xl (s0 :: T) (fun s => gm m (exz m (s : Int)) (evL m Q (exz m (s : Int)))) = gm m (exz m (s0 : Int)) (evL m Q (exz m (s0 : Int))) := xl_one hS (List.mem_cons_self ..) (fun s hs h => by
      rw [hroot s ((List.mem_cons.1 hs).resolve_left h), gm_zero_right])
    have h2 : xl (s0 :: T) (fun s => gm m (exz m (s : Int)) (evL m Q (exz m (s : Int)))) = xl (s0 :: T) (fun s => xs (fun i => gm m (cf Q i) (exz m ((s * (i + 1) : Nat) : Int))) Q.length) := by
      have hf : (fun s : Nat => gm m (exz m (s : Int)) (evL m Q (exz m (s : Int)))) = (fun s : Nat => xs (fun i => gm m (cf Q i) (exz m ((s * (i + 1) : Nat) : Int))) Q.length) := by
        funext s
        rw [evL_xs hm (exz_lt hm _) hQ.lt, gm_xs_right]
        refine xs_congr (fun i _ => ?_)
        have hx := exz_lt hm (s : Int)
        have hp := fpw_lt hm (exz m (s : Int)) i
        have hc := hQ.c i
        rw [← gm_assoc hm hx hc hp, gm_comm hm hx hc, gm_assoc hm hc hx hp, exz_fpw hm, exz_add hm]
        congr 2
        push_cast
        rw [Int.mul_add, Int.mul_one, Int.add_comm]
      rw [hf]
    rw [h2, xl_xs, xs_zero (fun i hi => ?_)] at h1
    · exact gm_ne_zero hm (exz_lt hm _) (evL_lt hm _ hQ.lt) (exz_ne hm _) hne h1.symm
    · rw [← gm_xl, hz (i + 1) (by omega) (by simp; omega), gm_zero_right]
theorem exL_mem {a : List Nat} {x : Nat} : x ∈ exL a ↔ x < a.length ∧ cf a x ≠ 0 := by
  unfold exL
  rw [mem_exU (Nat.le_refl _)]
  exact ⟨fun h => h.2, fun h => ⟨by omega, h⟩⟩
theorem exU_down (a : List Nat) : ∀ d, d ≤ a.length → (exU a a.length d).Pairwise (· > ·)
  | 0, _ => List.Pairwise.nil
  | d + 1, hd => by
    have ih := exU_down a d (by omega)
    unfold exU
    split
    · exact ih
    · rw [List.pairwise_append]
      refine ⟨ih, List.pairwise_singleton _ _, fun x hx y hy => ?_⟩
      rw [List.mem_singleton.1 hy]
      have := (mem_exU (a := a) (x := x) (by omega)).1 hx
      omega
theorem exL_nodup (a : List Nat) : (exL a).Nodup := (exU_down a _ (Nat.le_refl _)).imp (fun h => by omega)
/-- A word that is 0 at the first 2t powers has no coefficient, or more than 2t. -/
theorem far_word {m : Nat} (hm : Ok m) {W : List Nat} (hW : B1 W) (hl : W.length ≤ N m) {t : Nat} (hz : ∀ x, 1 ≤ x → x ≤ 2 * t → evL m W (exz m (x : Nat)) = 0) : exL W = [] ∨ 2 * t + 1 ≤ (exL W).length := by
  by_cases h : 2 * t + 1 ≤ (exL W).length
  · exact .inr h
  · refine .inl (far hm (exL_nodup W) (fun s hs => by have := (exL_mem.1 hs).1; omega) (fun x h1 h2 => ?_))
    rw [← xorE_xl]
    have := xs_exL hm hW x
    rw [hz x h1 (by omega)] at this
    exact this
theorem exL_nil {a : List Nat} (ha : B1 a) (h : exL a = []) : a = [] := b1_ext ha nil_b1 (fun j => by
  rw [cf_nil]
  refine Classical.byContradiction fun hc => ?_
  have : j ∈ exL a := exL_mem.2 ⟨Nat.lt_of_not_le fun h => hc (cf_out h), hc⟩
  rw [h] at this
  cases this)
/-- A right word is 0 at the generator's powers. -/
theorem word_zero {m : Nat} (hm : Ok m) {t : Nat} (h2 : 2 ≤ (genL m (ldr m t).1).length) {A : List Nat} (hA : B1 A) {x : Nat} (h1 : 1 ≤ x) (hx : x ≤ 2 * t) (hN : x < N m) : evL m (addP (upP ((genL m (ldr m t).1).length - 1) A) (encE (genL m (ldr m t).1) A)) (exz m (x : Nat)) = 0 := by
  have hG := gen_b1 hm (ldr m t).1
  have hq := quotP_b1 (upP_b1 hA ((genL m (ldr m t).1).length - 1)) hG (by omega)
  rw [word_dvd hG h2 hA, mulP_lift hm hq hG, evL_mul hm (b1_tr hm hq).lt (b1_tr hm hG).lt _ (exz_lt hm _), gen_zero hm h1 hx hN, gm_zero_right]
end Go.Proofs.YtompcfingkoldaaDoor
end
section
/- A register's bytes in memory: what a step of the program's leaves there. No program. -/
namespace Go.Proofs.YtompcfingkoldaaDoor
open Go Go.Sx Go.Fm Nb
/-- A register's bytes in memory. -/
def rB (n : Nat) (f : Nat → Nat) : Array Value := (nats .u8 (tb n f)).toArray
theorem rB_at {n i : Nat} {f : Nat → Nat} (h : i < n) : (rB n f)[i]? = some (.int .u8 (f i : Nat)) := by
  unfold rB
  rw [List.getElem?_toArray, nats, List.getElem?_map, tb_get h]
  rfl
theorem rB_set (n : Nat) (f : Nat → Nat) (i v : Nat) : (rB n f).setIfInBounds i (.int .u8 (v : Nat)) = rB n (fun j => if j = i then v else f j) := by
  unfold rB
  rw [List.setIfInBounds_toArray, nats_set, tb_set]
theorem rB_size (n : Nat) (f : Nat → Nat) : (rB n f).size = n := by simp [rB, nats, tb_len]
theorem rB_congr {n : Nat} {f g : Nat → Nat} (h : ∀ i, i < n → f i = g i) : rB n f = rB n g := by
  unfold rB
  rw [tb_congr h]
theorem rB_list (n : Nat) (f : Nat → Nat) : (rB n f).toList = nats .u8 (tb n f) := by simp [rB]
theorem rB_pb (k : Nat) (a : List Nat) : rB k (cf (pb k a)) = (nats .u8 (pb k a)).toArray := by
  unfold rB
  have := tb_of (pb k a)
  rw [pb_len] at this
  rw [this]
theorem rB_zero (k : Nat) : (List.replicate k (Value.int .u8 0)).toArray = rB k (cf (pb k [])) := by
  rw [rB_pb, ← pb_zero]
  simp [nats]
/-! ### A bit -/
/-- The bytes above i are shifted. -/
def sh1 (L : List Nat) (i : Nat) (j : Nat) : Nat := if i < j then shN L j else cf L j
theorem sh1_next (L : List Nat) (i : Nat) : (fun j => if j = i + 1 then shN L (i + 1) else sh1 L (i + 1) j) = sh1 L i := by
  funext j
  unfold sh1
  by_cases h : j = i + 1
  · subst h; rw [if_pos rfl, if_pos (by omega)]
  · rw [if_neg h]
    by_cases h2 : i + 1 < j
    · rw [if_pos h2, if_pos (by omega)]
    · rw [if_neg h2, if_neg (by omega)]
theorem sh1_top (L : List Nat) : rB L.length (sh1 L (L.length - 1)) = rB L.length (cf L) := rB_congr (fun i hi => by unfold sh1; rw [if_neg (by omega)])
theorem sh1_cf {L : List Nat} {i j : Nat} (h : j ≤ i) : sh1 L i j = cf L j := by unfold sh1; rw [if_neg (by omega)]
/-- All are shifted. -/
def sh2 (L : List Nat) (j : Nat) : Nat := if j = 0 then cf L 0 * 2 ^ 1 % 256 else shN L j
theorem sh2_of (L : List Nat) : (fun j => if j = 0 then cf L 0 * 2 ^ 1 % 256 else sh1 L 0 j) = sh2 L := by
  funext j
  unfold sh1 sh2
  by_cases h : j = 0
  · rw [if_pos h, if_pos h]
  · rw [if_neg h, if_neg h, if_pos (by omega)]
theorem sh2_lt {L : List Nat} (hL : ∀ x ∈ L, x < 256) (j : Nat) : sh2 L j < 256 := by
  unfold sh2
  split
  · exact Nat.mod_lt _ (by decide)
  · exact shN_lt hL j
theorem sh2_cut {L : List Nat} (d : Nat) (h : d % 8 ≠ 0) : (fun j => if j = L.length - 1 then sh2 L (L.length - 1) % 2 ^ (d % 8) else sh2 L j) = shC d L := by
  funext j
  unfold shC
  dsimp only
  by_cases hj : j = L.length - 1
  · rw [if_pos hj, if_pos ⟨hj, h⟩]
    subst hj
    rfl
  · rw [if_neg hj, if_neg (fun e => hj e.1)]
    rfl
theorem sh2_all {L : List Nat} (d : Nat) (h : d % 8 = 0) : sh2 L = shC d L := by
  funext j
  unfold shC
  dsimp only
  rw [if_neg (fun e => e.2 h)]
  rfl
theorem and_mask (x s : Nat) : x &&& (2 ^ s - 1) = x % 2 ^ s := Nat.and_two_pow_sub_one_eq_mod x s
/-- The bytes below i have the other list added. -/
def xq (f g : Nat → Nat) (i j : Nat) : Nat := if j < i then f j ^^^ g j else f j
theorem xq_zero (f g : Nat → Nat) : xq f g 0 = f := by funext j; unfold xq; rw [if_neg (by omega)]
theorem xq_next (f g : Nat → Nat) (i : Nat) : (fun j => if j = i then f i ^^^ g i else xq f g i j) = xq f g (i + 1) := by
  funext j
  unfold xq
  by_cases h : j = i
  · subst h; rw [if_pos rfl, if_pos (by omega)]
  · rw [if_neg h]
    by_cases h2 : j < i
    · rw [if_pos h2, if_pos (by omega)]
    · rw [if_neg h2, if_neg (by omega)]
theorem xq_at (f g : Nat → Nat) (i : Nat) : xq f g i i = f i := by unfold xq; rw [if_neg (by omega)]
theorem xq_all {n : Nat} (f g : Nat → Nat) : rB n (xq f g n) = rB n (fun j => f j ^^^ g j) := rB_congr (fun i hi => by unfold xq; rw [if_pos hi])
variable {G : List Nat} (hG : B1 G) (h2 : 2 ≤ G.length)
include hG h2
/-- The bit that goes out is not the one that comes. -/
theorem step_out {A : List Nat} (hA : B1 A) {b : Nat} (hb : b < 2) (h : b ≠ cf (encE G A) (G.length - 1 - 1)) :
    rB ((G.length - 1 + 7) / 8) (xq (shC (G.length - 1) (pb ((G.length - 1 + 7) / 8) (encE G A))) (cf (pb ((G.length - 1 + 7) / 8) (lowG G))) ((G.length - 1 + 7) / 8)) = rB ((G.length - 1 + 7) / 8) (cf (pb ((G.length - 1 + 7) / 8) (encE G (consP b A)))) := by
  rw [xq_all, pb_step hG h2 hA hb]
  refine rB_congr (fun i hi => ?_)
  rw [cf_tb hi, if_neg h]
theorem step_in {A : List Nat} (hA : B1 A) {b : Nat} (hb : b < 2) (h : b = cf (encE G A) (G.length - 1 - 1)) :
    rB ((G.length - 1 + 7) / 8) (shC (G.length - 1) (pb ((G.length - 1 + 7) / 8) (encE G A))) = rB ((G.length - 1 + 7) / 8) (cf (pb ((G.length - 1 + 7) / 8) (encE G (consP b A)))) := by
  rw [pb_step hG h2 hA hb]
  refine rB_congr (fun i hi => ?_)
  rw [cf_tb hi, if_pos h, Nat.xor_zero]
omit hG h2
/-! ### A byte -/
theorem dn8 {A : List Nat} (hA : B1 A) (y : Nat) : dnP 8 (addP (upP 8 A) (bl [y])) = A := b1_ext (dnP_b1 (addP_b1 (upP_b1 hA 8) (bl_b1 _)) 8) hA (fun j => by
  rw [cf_dnP, cf_addP, cf_upP, if_pos (by omega), cf_bl, bitN_out (by show 8 * 1 ≤ _; omega), Nat.xor_zero, Nat.add_sub_cancel])
theorem cf_byte (A : List Nat) (y : Nat) {k : Nat} (hk : k < 8) : cf (addP (upP 8 A) (bl [y])) k = (y >>> k) % 2 := by
  rw [cf_addP, cf_upP, if_neg (by omega), Nat.zero_xor, cf_bl]
  unfold bitN
  rw [Nat.div_eq_of_lt hk, Nat.mod_eq_of_lt hk]
  rfl
theorem byte_b1 {A : List Nat} (hA : B1 A) (y : Nat) : B1 (addP (upP 8 A) (bl [y])) := addP_b1 (upP_b1 hA 8) (bl_b1 _)
theorem byte_nil (y : Nat) : addP (upP 8 []) (bl [y]) = bl [y] := b1_ext (byte_b1 nil_b1 y) (bl_b1 _) (fun j => by rw [cf_addP, cf_upP, cf_nil, ite_self, Nat.zero_xor])
theorem byt_or {f : Nat → Nat} (hf : ∀ j, f j < 2) (i : Nat) : byt f i ||| f i * 2 ^ i = byt f (i + 1) := by
  have h := (byt_spec hf i).1
  show _ = byt f i + f i * 2 ^ i
  rw [Nat.or_comm, ← Nat.shiftLeft_eq, ← Nat.shiftLeft_add_eq_or_of_lt h, Nat.add_comm]
theorem byt_lt {f : Nat → Nat} (hf : ∀ j, f j < 2) {i : Nat} (h : i ≤ 8) : byt f i < 256 := Nat.lt_of_lt_of_le (byt_spec hf i).1 (Nat.pow_le_pow_right (n := 2) (by omega) h)
/-- A bit of the register, as the program finds it. -/
theorem reg_bit {a : List Nat} (ha : B1 a) {k j : Nat} (h : j < 8 * k) : (cf (pb k a) (j / 8) >>> (j % 8)) % 2 = cf a j := by
  have := bitN_pb ha h
  unfold bitN at this
  exact this
/-- A step of one byte's copy. -/
def cpN (L : List Nat) (j : Nat) : Nat := if j = 0 then cf L 0 else cf L (j - 1)
theorem cp_of {L : List Nat} (h : 1 ≤ L.length) : ((nats .u8 L).toArray.toList.take 1 ++ (nats .u8 L).take (min L.length (L.length - 1)) ++ (nats .u8 L).toArray.toList.drop (1 + min L.length (L.length - 1))).toArray = rB L.length (cpN L) := by
  rw [show min L.length (L.length - 1) = L.length - 1 by omega, show 1 + (L.length - 1) = L.length by omega]
  have hl : (nats .u8 L).length = L.length := by simp [nats]
  rw [show (nats .u8 L).toArray.toList = nats .u8 L from rfl, List.drop_of_length_le (by omega), List.append_nil]
  unfold rB
  congr 1
  apply List.ext_getElem?
  intro i
  by_cases hi : i < L.length
  · rw [show (nats .u8 (tb L.length (cpN L)))[i]? = some (.int .u8 (cpN L i : Nat)) by rw [nats, List.getElem?_map, tb_get hi]; rfl]
    unfold cpN
    have ht : ((nats .u8 L).take 1).length = 1 := by rw [List.length_take, hl]; omega
    by_cases h0 : i = 0
    · subst h0
      rw [if_pos rfl, List.getElem?_append_left (by omega), List.getElem?_take, if_pos (by omega)]
      exact natsAt8 hi
    · rw [if_neg h0, List.getElem?_append_right (by omega), ht, List.getElem?_take, if_pos (by omega)]
      exact natsAt8 (by omega)
  · rw [List.getElem?_eq_none (by rw [List.length_append, List.length_take, List.length_take, hl]; omega), List.getElem?_eq_none (by simp [nats, tb_len]; omega)]
def cp0 (L : List Nat) (j : Nat) : Nat := if j = 0 then 0 else cf L (j - 1)
theorem cp0_of (L : List Nat) : (fun j => if j = 0 then 0 else cpN L j) = cp0 L := by
  funext j
  unfold cpN cp0
  by_cases h : j = 0
  · rw [if_pos h, if_pos h]
  · rw [if_neg h, if_neg h, if_neg h]
theorem cp0_lt {L : List Nat} (hL : ∀ x ∈ L, x < 256) (j : Nat) : cp0 L j < 256 := by
  unfold cp0
  split
  · decide
  · exact cf8 hL _
theorem cp0_cut {L : List Nat} (d : Nat) (h : d % 8 ≠ 0) : (fun j => if j = L.length - 1 then cp0 L (L.length - 1) % 2 ^ (d % 8) else cp0 L j) = shD d L := by
  funext j
  unfold shD
  dsimp only
  by_cases hj : j = L.length - 1
  · rw [if_pos hj, if_pos ⟨hj, h⟩]
    subst hj
    rfl
  · rw [if_neg hj, if_neg (fun e => hj e.1)]
    rfl
theorem cp0_all {L : List Nat} (d : Nat) (h : d % 8 = 0) : cp0 L = shD d L := by
  funext j
  unfold shD
  dsimp only
  rw [if_neg (fun e => e.2 h)]
  rfl
include hG h2
theorem step_byte (h9 : 9 ≤ G.length) {A : List Nat} (hA : B1 A) {y : Nat} (hy : y < 256) :
    rB ((G.length - 1 + 7) / 8) (xq (shD (G.length - 1) (pb ((G.length - 1 + 7) / 8) (encE G A))) (cf (pb ((G.length - 1 + 7) / 8) (encE G (bl [topB (G.length - 1) (encE G A) ^^^ y])))) ((G.length - 1 + 7) / 8)) = rB ((G.length - 1 + 7) / 8) (cf (pb ((G.length - 1 + 7) / 8) (encE G (addP (upP 8 A) (bl [y]))))) := by
  rw [xq_all, pb_byte hG h2 h9 hA hy]
  refine rB_congr (fun i hi => ?_)
  rw [cf_tb hi]
end Go.Proofs.YtompcfingkoldaaDoor
end
section
/- copy into a block of the walk's own, from anywhere, from the block itself too; parts of memory under a name. No condition. -/
namespace Go.Sx
open Go
section
variable {P : Program} {ops : Array Oper} {S : World → Prop} {K : Act → World → Prop} {p : Plan} {n : Nat} {l : List (Nat × Value)} {i : Nat} {ty : TypeId} {x y : Operand} {F : Nat → Prop} {w₀ : World} {L : List Atom}
theorem St.blkAll {q g : Nat} {T : TypeId} {cs : Array Value} (hi : L[q]? = some (blk g T cs)) (cs2 : Array Value) {w : World} (h : St F w₀ L w) : St F w₀ (L.set q (blk g T cs2)) (w.setRow g cs2) := by
  obtain ⟨D, ⟨h1, h2⟩, h3, h4⟩ := h.work hi
  refine h4 _ _ D ⟨rfl, rfl, rfl, by simp [World.setRow], fun k hk => setRow_other w g k cs2 (fun e => hk.2 ((h1 k).2 e))⟩ ⟨h1, setRow_heap w g _ _ T _ h2⟩ (fun k hk => ⟨.inl hk, by simp [World.setRow]; exact h3 k hk⟩)
/-- copy(dst, src): dst lies in a block of the walk's own from place off on. -/
theorem s_copyB {d : Option Nat} (q : Nat) {g off E by_ E2 by2 dn dc m2 c2 : Nat} {zv zv2 : Value} {D B : Option Addr} {cur : Array Value} {ys : List Value} {T T2 : TypeId} (hi : L[q]? = some (blk g E cur))
    (ho : opAt ops n l i = some (d, .call ⟨.builtin .copy, #[x, y], #[T, T2]⟩, ty)) [hT : SlT P T E 1 by_ zv] [_hT2 : SlT P T2 E2 1 by2 zv2] (hx : ev l x = some (.slice D dn dc)) (hy : ev l y = some (.slice B m2 c2))
    (hD : dn ≠ 0 → D = some ⟨g, off, none⟩) (hv : ∀ w, St F w₀ L w → Has (sl 1 B m2 ys) w) (h1 : ys.all (·.oneCell') = true) (hfit : off + dn ≤ cur.size)
    (hS : ∀ w, St F w₀ (L.set q (blk g E (cur.toList.take off ++ ys.take (min m2 dn) ++ cur.toList.drop (off + min m2 dn)).toArray)) w → S w)
    (h : SX P ops S K p n (insO d (.int .i64 (min m2 dn : Nat)) l) (St F w₀ (L.set q (blk g E (cur.toList.take off ++ ys.take (min m2 dn) ++ cur.toList.drop (off + min m2 dn)).toArray)))) : SX P ops S K (.st false i p) n l (St F w₀ L) := by
  obtain ⟨inf, hi1, hs, hby, hzz⟩ := hT.info
  refine SX.act (d := d) (X := Unit) (v := fun _ => .int .i64 (min m2 dn : Nat)) (C' := fun _ => St F w₀ (L.set q (blk g E (cur.toList.take off ++ ys.take (min m2 dn) ++ cur.toList.drop (off + min m2 dn)).toArray))) ho (fun a w o he hw ho1 ho2 => ?_) (fun _ w hw => hS w hw) (fun _ => h)
  have hex : ∀ (v : Value) (w' : World), (Builtin.copy_ #[T, T2] ty #[.slice D dn dc, .slice B m2 c2]).run P w = .ok v w' → (execOp a.eval o).run P w = .ok (.value v) w' := fun v w' hr => by
    simp only [execOp, ho1, ho2, resolve, Sem.run_bind, Sem.run_pure, Result.andThen_ok, invoke, builtin, List.map_toArray, List.map_cons, List.map_nil, he.ev hx, he.ev hy, hr]
  have hsz : (P.info? E).map (·.size) = some 1 := by rw [hi1, Option.map_some, hs]
  have hsl := hv w hw
  have hyl := hsl.sl_len
  rw [Nat.mul_one] at hyl
  obtain ⟨DD, ⟨hb1, hb2⟩, _, _⟩ := hw.work hi
  by_cases hn : min m2 dn = 0
  · have hr := run_copy_none (P := P) w T T2 ty E D B dn dc m2 c2 hT.under hsz hn
    refine ⟨(), w, .inl (hex _ _ (by rw [hr, hn]; rfl)), ?_⟩
    rw [hn, List.take_zero, List.append_nil, Nat.add_zero, List.take_append_drop, Array.toArray_toList]
    have e : L.set q (blk g E cur) = L := by
      apply List.ext_getElem?
      intro t
      rw [List.getElem?_set]
      split
      · rename_i e
        subst e
        rw [if_pos (List.getElem?_eq_some_iff.1 hi).1, hi]
      · rfl
    rw [e]
    exact hw
  · have hd0 : dn ≠ 0 := fun e => hn (by rw [e]; exact Nat.min_zero _)
    have hm0 : m2 ≠ 0 := fun e => hn (by rw [e]; exact Nat.zero_min _)
    obtain rfl := hD hd0
    have hB := hsl.sl_some hm0
    have hcs : (ys.take (min m2 dn)).length = Nat.min m2 dn := by rw [List.length_take, hyl]; exact Nat.min_eq_left (Nat.min_le_left _ _)
    have hsrc : ∀ j v, (ys.take (min m2 dn))[j]? = some v → w.cell? ((⟨ob B, oo B, none⟩ : Addr).add j) = some v := fun j v hj => by
      rw [List.getElem?_take] at hj
      split at hj
      · have := (hsl.sl_cell hm0 hj).2
        rw [add_at]
        exact this
      · cases hj
    have hr := run_copy_row (P := P) w T T2 ty E g off dn dc ⟨ob B, oo B, none⟩ m2 c2 cur E (ys.take (min m2 dn)) hT.under hsz hb2 hcs hsrc (by rw [hcs]; have := Nat.min_le_right m2 dn; show off + min m2 dn ≤ _; omega) (fun v hv => List.all_eq_true.1 h1 v (List.mem_of_mem_take hv))
    rw [← hB] at hr
    rw [show (ys.take (min m2 dn)).length = min m2 dn from hcs] at hr
    exact ⟨(), _, .inl (hex _ _ hr), hw.blkAll hi _⟩
/-- Parts of memory under a name: for some x, these. -/
theorem Has.ex {G : Type} {f : G → Atom} {w : World} (h : Has (exA f) w) : ∃ x, Has (f x) w := by
  obtain ⟨D, ⟨x, h1⟩, h2⟩ := h
  exact ⟨x, D, h1, h2⟩
end
end Go.Sx
end
section
/- Calls that write into one block of the caller's: what they read lies elsewhere. No condition. -/
namespace Go.Sx
open Go
/-- All blocks that are there but one. -/
def Ex (r : Nat) (w : World) : Nat → Prop := fun k => k < w.heap.size ∧ k ≠ r
/-- Something holds in the world, and stands on blocks that are there, and not on one. -/
def HasN (r : Nat) (A : Atom) (w : World) : Prop := ∃ D : Nat → Prop, A.ok w D ∧ ∀ k, D k → k < w.heap.size ∧ k ≠ r
section
variable {F : Nat → Prop} {w₀ w w' : World} {L : List Atom} {A : Atom} {r : Nat} {T : TypeId} {cs : Array Value}
theorem HasN.has (h : HasN r A w) : Has A w := let ⟨D, h1, h2⟩ := h; ⟨D, h1, fun k hk => (h2 k hk).1⟩
theorem St.oldN (h : St (Ex r w) w L w') (ha : HasN r A w) : HasN r A w' :=
  let ⟨D, h1, h2⟩ := ha
  ⟨D, A.loc h1 (fun k hk => h.fr.block k (h2 k hk)), fun k hk => ⟨Nat.lt_of_lt_of_le (h2 k hk).1 h.fr.size, (h2 k hk).2⟩⟩
theorem St.startW (h : w.heap[r]? = some (.cells cs T (0, 0))) : St (Ex r w) w [blk r T cs] w :=
  ⟨Fr.refl _ _, fun _ hk => hk.1, fun k => k = r, ⟨fun _ => Iff.rfl, h⟩, fun k hk => ⟨fun hf => hf.2 hk, by
    subst hk
    exact (Array.getElem?_eq_some_iff.1 h).1⟩, trivial⟩
theorem HasN.cellB {c : Nat} {T2 : TypeId} {cs2 : Array Value} (h : HasN r (blk c T2 cs2) w) {j : Nat} {v : Value} (hj : cs2[j]? = some v) : w.cell? ⟨c, j, none⟩ = some v := by
  obtain ⟨D, ⟨_, h2⟩, _⟩ := h
  rw [cell_of_blk h2, hj]
theorem Has.cellB {c : Nat} {T2 : TypeId} {cs2 : Array Value} (h : Has (blk c T2 cs2) w) {j : Nat} {v : Value} (hj : cs2[j]? = some v) : w.cell? ⟨c, j, none⟩ = some v := by
  obtain ⟨D, ⟨_, h2⟩, _⟩ := h
  rw [cell_of_blk h2, hj]
theorem St.hasN {i j : Nat} (hi : L[i]? = some (blk r T cs)) (hj : (L.eraseIdx i)[j]? = some A) (h : St F w₀ L w) : HasN r A w := by
  obtain ⟨D, ⟨k1, _⟩, _, k3⟩ := h.sep.front hi
  obtain ⟨D2, m1, m2, _⟩ := Sep.at_ k3 hj
  exact ⟨D2, m1, fun k hk => ⟨(m2 k hk).2, fun e => (m2 k hk).1 (.inr ((k1 k).2 e))⟩⟩
theorem St.away {i : Nat} (hi : L[i]? = some (blk r T cs)) (h : Sto w₀ L w) (ha : Has A w₀) : HasN r A w := by
  obtain ⟨D, ⟨k1, _⟩, k2, _⟩ := h.sep.at_ hi
  obtain ⟨D2, m1, m2⟩ := ha
  exact ⟨D2, A.loc m1 (fun k hk => h.fr.block k (m2 k hk)), fun k hk => ⟨Nat.lt_of_lt_of_le (m2 k hk) h.fr.size, fun e => (k2 k ((k1 k).2 e)).1 (m2 k hk)⟩⟩
theorem St.heapOf {i : Nat} (hi : L[i]? = some (blk r T cs)) (h : St F w₀ L w) : w.heap[r]? = some (.cells cs T (0, 0)) := by
  obtain ⟨D, ⟨_, h2⟩, _⟩ := h.has hi
  exact h2
end
/-- A call that answers v and leaves a block with these cells, and all else as it was. -/
def WCall (P : Program) (g : FuncId) (args : List Value) (w : World) (r : Nat) (T : TypeId) (cs : Array Value) (v : Value) : Prop :=
  Calls P g args.toArray w (fun e w' => e = .returned v ∧ St (Ex r w) w [blk r T cs] w')
section
variable {P : Program} {n : Nat} {c : Code}
theorem spec_ofW {f : FuncId} {fn : Func} {args : List Value} {w : World} {r : Nat} {T : TypeId} {cs cs2 : Array Value} {v : Value} (hf : P.funcs[f]? = some fn) (hb : fn.body = some c) (hn : fn.ntmps = n) (hlen : Nat.ble args.length n = true) (hw : w.heap[r]? = some (.cells cs T (0, 0)))
    (h : CW P (Rets fn (fun e w' => e = .returned v ∧ St (Ex r w) w [blk r T cs2] w') P) [] c n (argEnv 0 args) (St (Ex r w) w [blk r T cs])) : WCall P f args w r T cs2 v :=
  calls_of hf hb hn hlen ⟨fun a v he hv => h.run a v he (by subst hv; exact St.startW hw)⟩
end
section
variable {P : Program} {ops : Array Oper} {S : World → Prop} {K : Act → World → Prop} {p : Plan} {n : Nat} {l : List (Nat × Value)} {i : Nat} {ty : TypeId} {x : Operand} {F : Nat → Prop} {w₀ : World} {A : List Atom}
theorem St.wrote {q r : Nat} {T : TypeId} {cs cs2 : Array Value} {w w' : World} (hi : A[q]? = some (blk r T cs)) (hw : St F w₀ A w) (h : St (Ex r w) w [blk r T cs2] w') : St F w₀ (A.set q (blk r T cs2)) w' := by
  obtain ⟨D, ⟨h1, h2⟩, h3, h4⟩ := hw.work hi
  have hok := h.heapOf (i := 0) rfl
  refine h4 w' (blk r T cs2) D (h.fr.mono (fun k hk => ⟨hk.1, fun e => hk.2 ((h1 k).2 e)⟩)) ⟨h1, hok⟩ (fun k hk => ⟨.inl hk, Nat.lt_of_lt_of_le (h3 k hk) h.fr.size⟩)
theorem s_callW (d q : Nat) {as1 : Array Operand} {ts : Array TypeId} {g : FuncId} {fs cs : Array Value} {vs L : List Value} {v : Value} {r : Nat} {T : TypeId} {c1 c2 : Array Value} (hi : A[q]? = some (blk r T c1))
    (ho : opAt ops n l i = some (some d, .call ⟨.value x, as1, ts⟩, ty)) (hx : ev l x = some (.func (.func g) fs cs)) (has : evs l as1.toList = some vs) (hL : fs.toList ++ vs ++ cs.toList = L) [hg : Enters P g]
    (hc : ∀ w, St F w₀ A w → WCall P g L w r T c2 v) (hS : ∀ w, St F w₀ (A.set q (blk r T c2)) w → S w) (h : SX P ops S K p n ((d, v) :: l) (St F w₀ (A.set q (blk r T c2)))) : SX P ops S K (.st false i p) n l (St F w₀ A) :=
  SX.enter (X := Unit) (v := fun _ => v) (C' := fun _ w => St F w₀ (A.set q (blk r T c2)) w) (pf := fun _ => True) ho (fun _ _ _ he h1 _ => run_call he h1 hx has hL) (fun w hw => (hc w hw).mono (fun _ _ ⟨h1, h2⟩ => ⟨(), h1, trivial, hw.wrote hi h2⟩)) (fun _ w hw => hS w hw) (fun _ _ => h)
theorem s_callW0 (q : Nat) {as1 : Array Operand} {ts : Array TypeId} {g : FuncId} {fs cs : Array Value} {vs L : List Value} {v : Value} {r : Nat} {T : TypeId} {c1 c2 : Array Value} (hi : A[q]? = some (blk r T c1))
    (ho : opAt ops n l i = some (none, .call ⟨.value x, as1, ts⟩, ty)) (hx : ev l x = some (.func (.func g) fs cs)) (has : evs l as1.toList = some vs) (hL : fs.toList ++ vs ++ cs.toList = L) [hg : Enters P g]
    (hc : ∀ w, St F w₀ A w → WCall P g L w r T c2 v) (hS : ∀ w, St F w₀ (A.set q (blk r T c2)) w → S w) (h : SX P ops S K p n l (St F w₀ (A.set q (blk r T c2)))) : SX P ops S K (.st false i p) n l (St F w₀ A) :=
  SX.enter (X := Unit) (v := fun _ => v) (C' := fun _ w => St F w₀ (A.set q (blk r T c2)) w) (pf := fun _ => True) ho (fun _ _ _ he h1 _ => run_call he h1 hx has hL) (fun w hw => (hc w hw).mono (fun _ _ ⟨h1, h2⟩ => ⟨(), h1, trivial, hw.wrote hi h2⟩)) (fun _ w hw => hS w hw) (fun _ _ => h)
end
end Go.Sx
end
section
/- Codes in memory; the register's steps, walked. Conditions: the code was made by New. -/
namespace Go.Proofs.YtompcfingkoldaaDoor
open Go Go.Sx Go.Fm Nb
set_option maxRecDepth 100000
theorem _root_.Go.Sx.HasN.ex {G : Type} {f : G → Atom} {r : Nat} {w : World} (h : HasN r (exA f) w) : ∃ x, HasN r (f x) w := by
  obtain ⟨D, ⟨x, h1⟩, h2⟩ := h
  exact ⟨x, D, h1, h2⟩
theorem _root_.Go.Sx.HasN.star {X : List Atom} {A : Atom} {r : Nat} {w : World} (h : HasN r (starA X) w) (hA : A ∈ X) : HasN r A w := by
  obtain ⟨D, h1, h2⟩ := h
  have key : ∀ (X : List Atom) (D : Nat → Prop), starOk X w D → (∀ k, D k → k < w.heap.size ∧ k ≠ r) → A ∈ X → HasN r A w := by
    intro X
    induction X with
    | nil => intro D _ _ hm; cases hm
    | cons B X ih =>
      rintro D ⟨D1, D2, k1, k2, k3, k4⟩ hlt hm
      rcases List.mem_cons.1 hm with rfl | hm
      · exact ⟨D1, k1, fun k hk => hlt k ((k3 k).2 (.inl hk))⟩
      · exact ih D2 k2 (fun k hk => hlt k ((k3 k).2 (.inr hk))) hm
  exact key X D h1 h2 hA
theorem _root_.Go.Sx.HasN.of_own {E : TypeId} {sz r : Nat} {A : Option Addr} {n c : Nat} {vs : List Value} {w : World} (h : HasN r (own E sz A n c vs) w) : HasN r (sl sz A n vs) w := let ⟨D, h1, h2⟩ := h; ⟨D, own_sl h1, h2⟩
theorem pow8_lt' (k : Nat) : 2 ^ (k % 8) < 256 := Nat.pow_lt_pow_right (n := 8) (by omega) (Nat.mod_lt _ (by omega))
theorem le_sum : ∀ (L : List Nat) {x : Nat}, x ∈ L → x ≤ L.sum
  | [], _, h => by cases h
  | y :: L, x, h => by
    rw [List.sum_cons]
    rcases List.mem_cons.1 h with rfl | h
    · omega
    · have := le_sum L h
      omega
/-! ### Numbers of a code -/
/-- The generator's degree. -/
def dg (m t : Nat) : Nat := (genL m (ldr m t).1).length - 1
/-- The bytes of parity. -/
def prB (m t : Nat) : Nat := (dg m t + 7) / 8
def gnB (m t : Nat) : List Nat := bys (genL m (ldr m t).1)
def lwB (m t : Nat) : List Nat := pb (prB m t) (lowG (genL m (ldr m t).1))
/-- The register behind a word's upper part. -/
noncomputable def rgL (m t : Nat) (A : List Nat) : List Nat := pb (prB m t) (encE (genL m (ldr m t).1) A)
noncomputable def rgB (m t : Nat) (A : List Nat) : Array Value := rB (prB m t) (cf (rgL m t A))
theorem rgL_len (m t : Nat) (A : List Nat) : (rgL m t A).length = prB m t := pb_len _ _
/-- A data's parity. -/
noncomputable def encB (m t : Nat) (data : List Nat) : List Nat := pb (prB m t) (encE (genL m (ldr m t).1) (bl data))
/-- A field and a number of bits for which there is a code. -/
structure MT (m t : Nat) : Prop where
  ok : Ok m
  t1 : 1 ≤ t
  t40 : t ≤ 40
section
variable {m t : Nat} (h : MT m t)
include h
theorem MT.gb : B1 (genL m (ldr m t).1) := gen_b1 h.ok _
theorem MT.g2 : 2 ≤ (genL m (ldr m t).1).length := by
  have h1 := ldr_has (m := m) (k := t) (j := 0) h.t1
  rw [gen_len h.ok]
  have h2 := cos_len_pos h.ok (hdP m (2 * 0 + 1))
  have h3 : (cosP m (hdP m (2 * 0 + 1))).length ≤ ((ldr m t).1.map (fun x => (cosP m x).length)).sum := le_sum _ (List.mem_map.2 ⟨_, h1, rfl⟩)
  omega
theorem MT.d1 : 1 ≤ dg m t := by have := h.g2; unfold dg; omega
theorem MT.deg : (ldr m t).2 = dg m t := by
  unfold dg
  rw [gen_len h.ok, ldr_deg h.ok]
  omega
theorem MT.d560 : dg m t ≤ 560 := by
  have h1 := ldr_le h.ok t
  rw [h.deg] at h1
  have := Nat.mul_le_mul h.ok.hi h.t40
  omega
theorem MT.p1 : 1 ≤ prB m t := by have := h.d1; unfold prB; omega
theorem MT.p70 : prB m t ≤ 70 := by have := h.d560; unfold prB; omega
theorem MT.eb {A : List Nat} (hA : B1 A) : B1 (encE (genL m (ldr m t).1) A) := encE_b1 h.gb h.g2 hA
theorem MT.lt {A : List Nat} (hA : B1 A) : ∀ x ∈ rgL m t A, x < 256 := pb_lt (h.eb hA) _
theorem MT.lwlt : ∀ x ∈ lwB m t, x < 256 := pb_lt (lowG_b1 h.gb h.g2) _
theorem MT.zero : (List.replicate (prB m t) (Value.int .u8 0)).toArray = rgB m t [] := by
  rw [rB_zero]
  unfold rgB rgL
  rw [encE_zero h.gb h.g2]
theorem MT.top {A : List Nat} (hA : B1 A) : (cf (rgL m t A) ((dg m t - 1) / 8) >>> ((dg m t - 1) % 8)) % 2 = cf (encE (genL m (ldr m t).1) A) (dg m t - 1) := reg_bit (h.eb hA) (by have := h.d1; unfold prB; omega)
theorem MT.bit {A : List Nat} (hA : B1 A) {j : Nat} (hj : j < dg m t) : (cf (rgL m t A) (j / 8) >>> (j % 8)) % 2 = cf (encE (genL m (ldr m t).1) A) j := reg_bit (h.eb hA) (by unfold prB; omega)
theorem MT.out {A : List Nat} (hA : B1 A) {b : Nat} (hb : b < 2) (hne : b ≠ cf (encE (genL m (ldr m t).1) A) (dg m t - 1)) : rB (prB m t) (xq (shC (dg m t) (rgL m t A)) (cf (lwB m t)) (prB m t)) = rgB m t (consP b A) := step_out h.gb h.g2 hA hb hne
theorem MT.inn {A : List Nat} (hA : B1 A) {b : Nat} (hb : b < 2) (he : b = cf (encE (genL m (ldr m t).1) A) (dg m t - 1)) : rB (prB m t) (shC (dg m t) (rgL m t A)) = rgB m t (consP b A) := step_in h.gb h.g2 hA hb he
theorem MT.byte (h9 : 8 ≤ dg m t) {A : List Nat} (hA : B1 A) {y : Nat} (hy : y < 256) : rB (prB m t) (xq (shD (dg m t) (rgL m t A)) (cf (rgL m t (bl [topB (dg m t) (encE (genL m (ldr m t).1) A) ^^^ y]))) (prB m t)) = rgB m t (addP (upP 8 A) (bl [y])) := step_byte h.gb h.g2 (by unfold dg at h9; omega) hA hy
end
theorem sh1_start (m t : Nat) (A : List Nat) : rB (prB m t) (sh1 (rgL m t A) (prB m t - 1)) = rgB m t A := by
  have := sh1_top (rgL m t A)
  rw [rgL_len] at this
  exact this
theorem sh2_cutM {m t : Nat} (A : List Nat) (h : dg m t % 8 ≠ 0) : (fun j => if j = prB m t - 1 then sh2 (rgL m t A) (prB m t - 1) % 2 ^ (dg m t % 8) else sh2 (rgL m t A) j) = shC (dg m t) (rgL m t A) := by
  have := sh2_cut (L := rgL m t A) (dg m t) h
  rw [rgL_len] at this
  exact this
theorem cp0_cutM {m t : Nat} (A : List Nat) (h : dg m t % 8 ≠ 0) : (fun j => if j = prB m t - 1 then cp0 (rgL m t A) (prB m t - 1) % 2 ^ (dg m t % 8) else cp0 (rgL m t A) j) = shD (dg m t) (rgL m t A) := by
  have := cp0_cut (L := rgL m t A) (dg m t) h
  rw [rgL_len] at this
  exact this
theorem rgB_list (m t : Nat) (A : List Nat) : rgB m t A = (nats .u8 (rgL m t A)).toArray := rB_pb _ _
theorem rgB_size (m t : Nat) (A : List Nat) : (rgB m t A).size = prB m t := rB_size _ _
theorem cp_M {m t : Nat} (hp : 1 ≤ prB m t) (A : List Nat) : ((rgB m t A).toList.take 1 ++ (nats .u8 (rgL m t A)).take (min (prB m t) (prB m t - 1)) ++ (rgB m t A).toList.drop (1 + min (prB m t) (prB m t - 1))).toArray = rB (prB m t) (cpN (rgL m t A)) := by
  have := cp_of (L := rgL m t A) (by rw [rgL_len]; exact hp)
  rw [rgL_len] at this
  rw [rgB_list]
  exact this
theorem shr8 {x : Nat} (hx : x < 256) (s : Nat) : x >>> s < 256 := Nat.lt_of_le_of_lt (Nat.shiftRight_le _ _) hx
theorem cut_mask (d : Nat) : 1 ≤ 2 ^ (d % 8) ∧ 2 ^ (d % 8) < 256 := ⟨Nat.one_le_two_pow, pow8_lt' d⟩
theorem encB_len (m t : Nat) (d : List Nat) : (encB m t d).length = prB m t := pb_len _ _
theorem rgB_enc (m t : Nat) (d : List Nat) : rgB m t (bl d) = (nats .u8 (encB m t d)).toArray := rB_pb _ _
theorem enc_rg (m t : Nat) (d : List Nat) : rgL m t (bl d) = encB m t d := rfl
/-! ### A code in memory -/
instance : FA Tryd.prog 160 7 7 := FA.mk' Tryd.underlying160 rfl rfl (by kernel_rfl)
instance : ArrT Tryd.prog 158 22 256 1 (List.replicate 256 (.slice none 0 0)) := ArrT.mk' Tryd.underlying158 (by kernel_rfl) (by kernel_rfl)
instance : StructT Tryd.prog 160 [(0, 1), (1, 1), (2, 1), (3, 1), (4, 1), (5, 1), (6, 1), (7, 256)] (.pointer none :: .int .i64 0 :: .int .i64 0 :: .int .i64 0 :: .int .i64 0 :: .slice none 0 0 :: .slice none 0 0 :: List.replicate 256 (.slice none 0 0)) := StructT.mk' Tryd.underlying160 (by kernel_rfl) (by kernel_rfl)
def CT : TypeId := 160
structure CodeG where
  f : Nat
  A1 : Option Addr
  c1 : Nat
  A2 : Option Addr
  c2 : Nat
  gs : List Nat
  X : List Atom
/-- The table's slices, as far as they are made. -/
def tabV (p : Nat) (gs : List Nat) (i : Nat) : Value := match gs[i]? with | some g => .slice (some ⟨g, 0, none⟩) p p | none => .slice none 0 0
def tabL (p : Nat) (gs : List Nat) : List Value := (List.range 256).map (tabV p gs)
def codeL (m t n : Nat) (q : CodeG) : List Value := .pointer (some ⟨q.f, 0, none⟩) :: .int .i64 (t : Nat) :: .int .i64 (n : Nat) :: .int .i64 (dg m t : Nat) :: .int .i64 (prB m t : Nat) :: .slice q.A1 (gnB m t).length q.c1 :: .slice q.A2 (prB m t) q.c2 :: tabL (prB m t) q.gs
theorem tabL_at (p : Nat) (gs : List Nat) {i : Nat} (h : i < 256) : (tabL p gs)[i]? = some (tabV p gs i) := by simp [tabL, h]
theorem tabL_set (p : Nat) (gs : List Nat) (g : Nat) : (tabL p gs).set gs.length (.slice (some ⟨g, 0, none⟩) p p) = tabL p (gs ++ [g]) := by
  apply List.ext_getElem?
  intro j
  rw [List.getElem?_set]
  have hl : ∀ gs, (tabL p gs).length = 256 := fun gs => by simp [tabL]
  by_cases hj : j < 256
  · rw [tabL_at p _ hj, tabL_at p _ hj, hl]
    unfold tabV
    by_cases h : gs.length = j
    · subst h
      rw [if_pos rfl, if_pos hj, List.getElem?_append_right (Nat.le_refl _), Nat.sub_self]
      rfl
    · rw [if_neg h]
      by_cases h2 : j < gs.length
      · rw [List.getElem?_append_left h2]
      · rw [List.getElem?_append_right (by omega), List.getElem?_eq_none (by omega), List.getElem?_eq_none (by simp; omega)]
  · rw [List.getElem?_eq_none (by rw [hl]; omega), List.getElem?_eq_none (by rw [hl]; omega)]
    split
    · rw [if_neg (by rw [hl]; omega)]
    · rfl
theorem tabL_nil (p : Nat) : tabL p [] = List.replicate 256 (.slice none 0 0) := by
  show (List.range 256).map (fun _ => Value.slice none 0 0) = _
  rw [List.map_const', List.length_range]
/-- A block of the table. -/
noncomputable def rowB (m t g y : Nat) : Atom := blk g 5 (rgB m t (bl [y]))
def lowO (m t : Nat) (q : CodeG) : Atom := own 5 1 q.A2 (prB m t) q.c2 (nats .u8 (lwB m t))
def genO (m t : Nat) (q : CodeG) : Atom := own 5 1 q.A1 (gnB m t).length q.c1 (nats .u8 (gnB m t))
structure CodeG.Fine (m t : Nat) (q : CodeG) : Prop where
  c1 : (gnB m t).length ≤ q.c1
  c2 : prB m t ≤ q.c2
  len : q.gs.length = 256
  row : ∀ y g, q.gs[y]? = some g → rowB m t g y ∈ q.X
/-- A code. -/
noncomputable def codeA (c m t n : Nat) (q : CodeG) : Atom := starA [blk c CT (codeL m t n q).toArray, genO m t q, lowO m t q, fieldA q.f m, starA q.X]
theorem code_at {c m t n : Nat} {q : CodeG} {w : World} (h : Has (codeA c m t n q) w) : Has (blk c CT (codeL m t n q).toArray) w ∧ Has (genO m t q) w ∧ Has (lowO m t q) w ∧ Has (fieldA q.f m) w ∧ Has (starA q.X) w :=
  ⟨h.star (by simp), h.star (by simp), h.star (by simp), h.star (by simp), h.star (by simp)⟩
theorem code_atN {c m t n r : Nat} {q : CodeG} {w : World} (h : HasN r (codeA c m t n q) w) : HasN r (blk c CT (codeL m t n q).toArray) w ∧ HasN r (genO m t q) w ∧ HasN r (lowO m t q) w ∧ HasN r (fieldA q.f m) w ∧ HasN r (starA q.X) w :=
  ⟨h.star (by simp), h.star (by simp), h.star (by simp), h.star (by simp), h.star (by simp)⟩
/-- What the register's steps read. -/
structure LowH (c r m t : Nat) (cs : Array Value) (A2 : Option Addr) (c2 : Nat) (w : World) : Prop where
  blk : HasN r (blk c CT cs) w
  deg : cs[3]? = some (.int .i64 (dg m t : Nat))
  hdr : cs[6]? = some (.slice A2 (prB m t) c2)
  low : HasN r (sl 1 A2 (prB m t) (nats .u8 (lwB m t))) w
theorem LowH.old {c r m t : Nat} {cs : Array Value} {A2 : Option Addr} {c2 : Nat} {w w' : World} {L : List Atom} (h : LowH c r m t cs A2 c2 w) (hw : St (Ex r w) w L w') : LowH c r m t cs A2 c2 w' := ⟨hw.oldN h.blk, h.deg, h.hdr, hw.oldN h.low⟩
/-- And the table. -/
structure TabH (c r m t : Nat) (cs : Array Value) (w : World) : Prop where
  row : ∀ y, y < 256 → ∃ g, cs[7 + y]? = some (.slice (some ⟨g, 0, none⟩) (prB m t) (prB m t)) ∧ HasN r (rowB m t g y) w
theorem TabH.old {c r m t : Nat} {cs : Array Value} {w w' : World} {L : List Atom} (h : TabH c r m t cs w) (hw : St (Ex r w) w L w') : TabH c r m t cs w' := ⟨fun y hy => let ⟨g, h1, h2⟩ := h.row y hy; ⟨g, h1, hw.oldN h2⟩⟩
theorem low_of {c r m t n : Nat} {q : CodeG} {w : World} (hq : q.Fine m t) (h : HasN r (codeA c m t n q) w) : ∃ cs A2 c2, LowH c r m t cs A2 c2 w ∧ TabH c r m t cs w := by
  obtain ⟨h1, h2, h3, h4, h5⟩ := code_atN h
  refine ⟨(codeL m t n q).toArray, q.A2, q.c2, ⟨h1, rfl, rfl, h3.of_own⟩, ⟨fun y hy => ?_⟩⟩
  obtain ⟨g, hg⟩ : ∃ g, q.gs[y]? = some g := ⟨_, List.getElem?_eq_getElem (by rw [hq.len]; exact hy)⟩
  refine ⟨g, ?_, h5.star (hq.row y g hg)⟩
  rw [List.getElem?_toArray, Nat.add_comm]
  show (tabL (prB m t) q.gs)[y]? = _
  rw [tabL_at _ _ hy]
  unfold tabV
  rw [hg]

theorem shift_ok (c r m t : Nat) (cs : Array Value) (A2 : Option Addr) (c2 rc : Nat) (A : List Nat) (b : Nat) (w : World) (hMT : MT m t) (hh : LowH c r m t cs A2 c2 w) (hA : B1 A) (hb : b < 2) (hw : w.heap[r]? = some (.cells (rgB m t A) 5 (0, 0))) : WCall Tryd.prog 121 [.pointer (some ⟨c, 0, none⟩), .slice (some ⟨r, 0, none⟩) (prB m t) rc, .int .i64 (b : Nat)] w r 5 (rgB m t (consP b A)) (oneOf []) := by
  have hd1 := hMT.d1
  have hd5 := hMT.d560
  have hp1 := hMT.p1
  have hp7 := hMT.p70
  have hpd : prB m t = (dg m t + 7) / 8 := rfl
  have hL := hMT.lt hA
  have hmk := cut_mask (dg m t)
  refine spec_ofW Tryd.func121 rfl Tryd.ntmps121 rfl hw ?_
  refine CW.seq ?_
  refine CW.reg [0, 1, 2, 3, 4, 5] rfl ?_   -- 0, encode.go:75
  refine s_mv 11 rfl rfl ?_
  refine s_nil 12 rfl rfl ?_
  refine s_fa 13 rfl rfl ?_
  refine s_ld 14 rfl rfl (fun _ hw => (hw.oldN hh.blk).cellB hh.deg) ?_
  refine s_sub 15 rfl rfl rfl (r := ((dg m t - 1 : Nat) : Int)) (by rw [show ((dg m t : Nat) : Int) - 1 = ((dg m t - 1 : Nat) : Int) by omega]; exact w64 (by omega)) ?_
  refine s_as 6 rfl rfl ?_
  refine SX.next ?_
  refine CW.seq ?_
  refine CW.reg [0, 1, 2, 3, 4, 5, 6, 7, 8, 9, 10, 11, 12] rfl ?_   -- 1, encode.go:76
  refine s_mv 16 rfl rfl ?_
  refine s_mv 17 rfl rfl ?_
  refine s_mv 18 rfl rfl ?_
  refine s_quo 19 rfl rfl rfl (by omega) (quo8 (dg m t - 1) (by omega)) ?_
  refine s_ia0 20 ((dg m t - 1) / 8) rfl rfl rfl rfl (by omega) ?_
  refine s_ldB 21 0 rfl rfl rfl (v := .int .u8 (cf (rgL m t A) ((dg m t - 1) / 8) : Nat)) (rB_at (by omega)) ?_
  refine s_mv 22 rfl rfl ?_
  refine s_rem 23 rfl rfl rfl (by omega) (tmod8 (dg m t - 1)) ?_
  refine s_shr 24 rfl rfl rfl (by omega) (shr_u8 (by omega)) ?_
  refine s_bit 25 rfl rfl rfl rfl (ibit_and1_u8 (shr8 (cf_lt8 hL _) _)) ?_
  refine s_conv 26 rfl rfl (r := ((cf (encE (genL m (ldr m t).1) A) (dg m t - 1) : Nat) : Int)) (by rw [hMT.top hA]; have := (hMT.eb hA).le (dg m t - 1); exact w64 (by omega)) ?_
  refine s_ne 27 rfl rfl rfl (r := (decide (b ≠ cf (encE (genL m (ldr m t).1) A) (dg m t - 1)))) (decide_eq_decide.2 (by omega)) ?_
  refine s_as 7 rfl rfl ?_
  refine SX.next ?_
  refine CW.seq ?_
  refine CW.seq ?_
  refine CW.reg [0, 1, 2, 3] rfl ?_   -- 2, encode.go:77
  refine s_mv 28 rfl rfl ?_
  refine s_len 29 rfl rfl ?_
  refine s_sub 30 rfl rfl rfl (r := ((prB m t - 1 : Nat) : Int)) (by rw [show ((prB m t : Nat) : Int) - 1 = ((prB m t - 1 : Nat) : Int) by omega]; exact w64 (by omega)) ?_
  refine s_as 8 rfl rfl ?_
  refine SX.next ?_
  refine CW.block ?_
  refine CW.loop (G := Nat) (fun i => [(0, .pointer (some ⟨c, 0, none⟩)), (1, .slice (some ⟨r, 0, none⟩) (prB m t) rc), (7, .bool (decide (b ≠ cf (encE (genL m (ldr m t).1) A) (dg m t - 1)))), (8, .int .i64 (i : Nat))]) (fun i => St (Ex r w) w [blk r 5 (rB (prB m t) (sh1 (rgL m t A) i))]) (fun i => i ≤ prB m t - 1) (fun i => i) (prB m t - 1) ⟨rfl, rfl, rfl, rfl, trivial⟩ (fun _ hw => by rw [sh1_start]; exact hw) (Nat.le_refl _) ?_
  intro i hi
  refine CW.seq ?_
  refine CW.seq ?_
  refine CW.reg [0, 1] rfl ?_   -- 3, encode.go:77
  refine s_mv 31 rfl rfl ?_
  refine s_gt 32 rfl rfl rfl rfl ?_
  refine SX.next ?_
  refine CW.test rfl (fun hc => ?_) (fun hc => ?_)
  · skip
    obtain ⟨k, rfl⟩ : ∃ k, i = k + 1 := ⟨i - 1, by omega⟩
    refine CW.skip ?_
    refine KN.code ?_
    refine CW.seq ?_
    refine CW.block ?_
    refine CW.regD (.st true 0 (.st true 1 (.st true 2 (.st true 3 (.st true 4 (.st true 7 (.st true 8 (.st true 9 (.st true 10 (.alt 5 (.st true 6 (.st false 11 (.st true 12 (.st true 13 (.st true 14 (.st false 15 .done)))))) (.st false 11 (.st true 12 (.st false 5 (.st true 6 (.st true 13 (.st true 14 (.st false 15 .done))))))))))))))))) (St (Ex r w) w []) mixed (by kernel_rfl) (fun _ h => h.drew) (fun _ hw => hw.dropR) ?_
    refine s_mv 35 rfl rfl ?_
    refine s_mv 36 rfl rfl ?_
    refine s_mv 37 rfl rfl ?_
    refine s_mv 38 rfl rfl ?_
    refine s_ia0 39 (k + 1) rfl rfl rfl rfl (by omega) ?_
    refine s_mv 42 rfl rfl ?_
    refine s_mv 43 rfl rfl ?_
    refine s_sub 44 rfl rfl rfl (r := ((k : Nat) : Int)) (by rw [show ((k + 1 : Nat) : Int) - 1 = ((k : Nat) : Int) by omega]; exact w64 (by omega)) ?_
    refine s_ia0 45 k rfl rfl rfl rfl (by omega) ?_
    refine SX.alt ?_ ?_
    · skip
      refine s_ldB 40 0 rfl rfl rfl (v := .int .u8 (cf (rgL m t A) (k + 1) : Nat)) (by rw [rB_at (by omega), sh1_cf (Nat.le_refl _)]) ?_
      refine s_shl 41 rfl rfl rfl (by omega) (r := ((cf (rgL m t A) (k + 1) * 2 ^ 1 % 256 : Nat) : Int)) (shl_u8 (k := 1) (by omega)) ?_
      refine s_ldB 46 0 rfl rfl rfl (v := .int .u8 (cf (rgL m t A) k : Nat)) (by rw [rB_at (by omega), sh1_cf (by omega)]) ?_
      refine s_shr 47 rfl rfl rfl (by omega) (r := ((cf (rgL m t A) k >>> 7 : Nat) : Int)) (shr_u8 (k := 7) (by omega)) ?_
      refine s_bit 48 rfl rfl rfl rfl (r := ((shN (rgL m t A) (k + 1) : Nat) : Int)) (ibit_or_u8 (Nat.mod_lt _ (by decide)) (shr8 (cf_lt8 hL _) _)) ?_
      refine s_ia0 49 (k + 1) rfl rfl rfl rfl (by omega) ?_
      refine s_stB 0 rfl rfl rfl rfl rfl (by rw [rB_size]; omega) (fun _ hw => hw.dropR) ?_
      refine SX.end_ ?_
      refine KN.blk ?_
      refine KN.code ?_
      refine CW.reg [0, 1, 2] rfl ?_   -- 4, encode.go:77
      refine s_mv 33 rfl rfl ?_
      refine s_sub 34 rfl rfl rfl (r := ((k : Nat) : Int)) (by rw [show ((k + 1 : Nat) : Int) - 1 = ((k : Nat) : Int) by omega]; exact w64 (by omega)) ?_
      refine s_as 8 rfl rfl ?_
      refine SX.end_ ?_
      exact KN.back k ⟨rfl, rfl, rfl, rfl, trivial⟩ (fun _ hw => by rw [← sh1_next, ← rB_set]; exact hw) (by omega) (by omega)
    · skip
      refine s_ldB 46 0 rfl rfl rfl (v := .int .u8 (cf (rgL m t A) k : Nat)) (by rw [rB_at (by omega), sh1_cf (by omega)]) ?_
      refine s_shr 47 rfl rfl rfl (by omega) (r := ((cf (rgL m t A) k >>> 7 : Nat) : Int)) (shr_u8 (k := 7) (by omega)) ?_
      refine s_ldB 40 0 rfl rfl rfl (v := .int .u8 (cf (rgL m t A) (k + 1) : Nat)) (by rw [rB_at (by omega), sh1_cf (Nat.le_refl _)]) ?_
      refine s_shl 41 rfl rfl rfl (by omega) (r := ((cf (rgL m t A) (k + 1) * 2 ^ 1 % 256 : Nat) : Int)) (shl_u8 (k := 1) (by omega)) ?_
      refine s_bit 48 rfl rfl rfl rfl (r := ((shN (rgL m t A) (k + 1) : Nat) : Int)) (ibit_or_u8 (Nat.mod_lt _ (by decide)) (shr8 (cf_lt8 hL _) _)) ?_
      refine s_ia0 49 (k + 1) rfl rfl rfl rfl (by omega) ?_
      refine s_stB 0 rfl rfl rfl rfl rfl (by rw [rB_size]; omega) (fun _ hw => hw.dropR) ?_
      refine SX.end_ ?_
      refine KN.blk ?_
      refine KN.code ?_
      refine CW.reg [0, 1, 2] rfl ?_   -- 4, encode.go:77
      refine s_mv 33 rfl rfl ?_
      refine s_sub 34 rfl rfl rfl (r := ((k : Nat) : Int)) (by rw [show ((k + 1 : Nat) : Int) - 1 = ((k : Nat) : Int) by omega]; exact w64 (by omega)) ?_
      refine s_as 8 rfl rfl ?_
      refine SX.end_ ?_
      exact KN.back k ⟨rfl, rfl, rfl, rfl, trivial⟩ (fun _ hw => by rw [← sh1_next, ← rB_set]; exact hw) (by omega) (by omega)
  · skip
    obtain rfl : i = 0 := by omega
    refine CW.exit rfl ?_
    refine KN.code ?_
    refine CW.seq ?_
    refine CW.reg [0, 1, 2, 3, 4, 5] rfl ?_   -- 6, encode.go:80
    refine s_mv 50 rfl rfl ?_
    refine s_ia0 51 0 rfl rfl rfl rfl (by omega) ?_
    refine s_ldB 52 0 rfl rfl rfl (v := .int .u8 (cf (rgL m t A) 0 : Nat)) (by rw [rB_at (by omega), sh1_cf (Nat.le_refl _)]) ?_
    refine s_shl 53 rfl rfl rfl (by omega) (r := ((cf (rgL m t A) 0 * 2 ^ 1 % 256 : Nat) : Int)) (shl_u8 (k := 1) (by omega)) ?_
    refine s_ia0 54 0 rfl rfl rfl rfl (by omega) ?_
    refine s_stB 0 rfl rfl rfl rfl rfl (by rw [rB_size]; omega) (fun _ _ => trivial) ?_
    refine SX.next ?_
    refine CW.cut (G := Unit) (fun _ => [(0, .pointer (some ⟨c, 0, none⟩)), (1, .slice (some ⟨r, 0, none⟩) (prB m t) rc), (7, .bool (decide (b ≠ cf (encE (genL m (ldr m t).1) A) (dg m t - 1))))]) (fun _ => St (Ex r w) w [blk r 5 (rB (prB m t) (shC (dg m t) (rgL m t A)))]) (fun _ => True) ?_ ?_
    · skip
      refine CW.seq ?_
      refine CW.pre (C' := St (Ex r w) w [blk r 5 (rB (prB m t) (sh2 (rgL m t A)))]) (fun _ hw => by rw [← sh2_of, ← rB_set]; exact hw) ?_
      refine CW.reg [0, 1, 2, 3, 4, 5] rfl ?_   -- 7, encode.go:81
      refine s_mv 55 rfl rfl ?_
      refine s_nil 56 rfl rfl ?_
      refine s_fa 57 rfl rfl ?_
      refine s_ld 58 rfl rfl (fun _ hw => (hw.oldN hh.blk).cellB hh.deg) ?_
      refine s_rem 59 rfl rfl rfl (by omega) (tmod8 (dg m t)) ?_
      refine s_as 9 rfl rfl ?_
      refine SX.next ?_
      refine CW.seq ?_
      refine CW.reg [0, 1] rfl ?_   -- 8, encode.go:81
      refine s_mv 60 rfl rfl ?_
      refine s_gt 61 rfl rfl rfl rfl ?_
      refine SX.next ?_
      refine CW.test rfl (fun hc => ?_) (fun hc => ?_)
      · skip
        refine CW.regD (.st true 0 (.st true 1 (.st true 2 (.st true 3 (.st true 4 (.st true 6 (.st true 7 (.st true 8 (.st false 5 (.st true 9 (.st true 10 (.st false 11 .done)))))))))))) (St (Ex r w) w []) mixed (by kernel_rfl) (fun _ h => h.drew) (fun _ hw => hw.dropR) ?_
        refine s_mv 62 rfl rfl ?_
        refine s_mv 63 rfl rfl ?_
        refine s_len 64 rfl rfl ?_
        refine s_sub 65 rfl rfl rfl (r := ((prB m t - 1 : Nat) : Int)) (by rw [show ((prB m t : Nat) : Int) - 1 = ((prB m t - 1 : Nat) : Int) by omega]; exact w64 (by omega)) ?_
        refine s_ia0 66 (prB m t - 1) rfl rfl rfl rfl (by omega) ?_
        refine s_mv 68 rfl rfl ?_
        refine s_shl 69 rfl rfl rfl (by omega) (r := ((2 ^ (dg m t % 8) : Nat) : Int)) (by rw [show (1 : Int) = ((1 : Nat) : Int) from rfl, shl_u8 (by omega), Nat.one_mul, Nat.mod_eq_of_lt hmk.2]) ?_
        refine s_sub 70 rfl rfl rfl (r := ((2 ^ (dg m t % 8) - 1 : Nat) : Int)) (by rw [show ((2 ^ (dg m t % 8) : Nat) : Int) - 1 = ((2 ^ (dg m t % 8) - 1 : Nat) : Int) by omega]; exact w8 (by omega)) ?_
        refine s_ldB 67 0 rfl rfl rfl (v := .int .u8 ((sh2 (rgL m t A)) (prB m t - 1) : Nat)) (rB_at (by omega)) ?_
        refine s_bit 71 rfl rfl rfl rfl (r := (((sh2 (rgL m t A)) (prB m t - 1) % 2 ^ (dg m t % 8) : Nat) : Int)) (by rw [ibit_and_u8 (sh2_lt hL _) (by omega), and_mask]) ?_
        refine s_ia0 72 (prB m t - 1) rfl rfl rfl rfl (by omega) ?_
        refine s_stB 0 rfl rfl rfl rfl rfl (by rw [rB_size]; omega) (fun _ hw => hw.dropR) ?_
        refine SX.end_ ?_
        exact KN.join () ⟨rfl, rfl, rfl, trivial⟩ (fun _ hw => by rw [← sh2_cutM A (by omega), ← rB_set]; exact hw) trivial
      · skip
        refine CW.skip ?_
        exact KN.join () ⟨rfl, rfl, rfl, trivial⟩ (fun _ hw => by rw [← sh2_all _ (by omega)]; exact hw) trivial
    · skip
      intro _ _
      refine CW.seq ?_
      refine CW.seq ?_
      refine CW.reg [0, 1] rfl ?_   -- 10, encode.go:84
      refine s_mv 73 rfl rfl ?_
      refine s_not 74 rfl rfl ?_
      refine SX.next ?_
      refine CW.cond rfl (fun hc => ?_) (fun hc => ?_)
      · skip
        have heq : b = cf (encE (genL m (ldr m t).1) A) (dg m t - 1) := Classical.byContradiction fun hn => by simp [hn] at hc
        refine CW.ret ?_
        exact KN.ret (rs := []) Tryd.results121 rfl (fun _ hw => ⟨rfl, by rw [← hMT.inn hA hb heq]; exact hw⟩)
      · skip
        have hne : b ≠ cf (encE (genL m (ldr m t).1) A) (dg m t - 1) := fun hn => by simp [hn] at hc
        refine CW.skip ?_
        refine KN.code ?_
        refine CW.seq ?_
        refine CW.reg [0, 1, 2] rfl ?_   -- 11, encode.go:87
        refine s_mv 75 rfl rfl ?_
        refine s_len 76 rfl rfl ?_
        refine s_mv 77 rfl rfl ?_
        refine SX.next ?_
        refine CW.block ?_
        refine CW.loop (G := Nat) (fun i => [(0, .pointer (some ⟨c, 0, none⟩)), (1, .slice (some ⟨r, 0, none⟩) (prB m t) rc), (76, .int .i64 (prB m t : Nat)), (77, .int .i64 (i : Nat))]) (fun i => St (Ex r w) w [blk r 5 (rB (prB m t) (xq (shC (dg m t) (rgL m t A)) (cf (lwB m t)) i))]) (fun i => i ≤ prB m t) (fun i => prB m t - i) 0 ⟨rfl, rfl, rfl, rfl, trivial⟩ (fun _ hw => by rw [xq_zero]; exact hw) (Nat.zero_le _) ?_
        intro i hi
        have hlw : (lwB m t).length = prB m t := pb_len _ _
        refine CW.seq ?_
        refine CW.reg [0] rfl ?_   -- 12, encode.go:87
        refine s_lt 78 rfl rfl rfl rfl ?_
        refine SX.next ?_
        refine CW.seq ?_
        refine CW.test rfl (fun hc => ?_) (fun hc => ?_)
        · skip
          refine CW.skip ?_
          refine KN.code ?_
          refine CW.seq ?_
          refine CW.block ?_
          refine CW.seq ?_
          refine CW.reg [0, 1] rfl ?_   -- 13, encode.go:87
          refine s_mv 79 rfl rfl ?_
          refine s_as 10 rfl rfl ?_
          refine SX.next ?_
          refine CW.regD (.st true 0 (.st true 1 (.st true 2 (.st true 4 (.st true 5 (.st true 6 (.st true 7 (.st true 8 (.st true 9 (.st true 10 (.st false 3 (.st true 11 (.st true 12 (.st false 13 .done)))))))))))))) (St (Ex r w) w []) mixed (by kernel_rfl) (fun _ h => h.drew) (fun _ hw => hw.dropR) ?_
          refine s_mv 80 rfl rfl ?_
          refine s_mv 81 rfl rfl ?_
          refine s_ia0 82 i rfl rfl rfl rfl (by omega) ?_
          refine s_mv 84 rfl rfl ?_
          refine s_nil 85 rfl rfl ?_
          refine s_fa 86 rfl rfl ?_
          refine s_ldS 87 rfl rfl (fun _ hw => (hw.oldN hh.blk).cellB hh.hdr) ?_
          refine s_mv 88 rfl rfl ?_
          refine s_iaV 89 i (fun w hw => (hw.oldN hh.low).has) rfl rfl rfl rfl (by omega) ?_
          refine s_ldVS 90 (fun w hw => (hw.oldN hh.low).has) rfl rfl (by rw [Nat.mul_one]; exact natsAt8 (by omega)) (by omega) ?_
          refine s_ldB 83 0 rfl rfl rfl (v := .int .u8 (shC (dg m t) (rgL m t A) i : Nat)) (by rw [rB_at (by omega), xq_at]) ?_
          refine s_bit 91 rfl rfl rfl rfl (ibit_xor_u8 (shC_lt hL _ _) (cf_lt8 hMT.lwlt _)) ?_
          refine s_ia0 92 i rfl rfl rfl rfl (by omega) ?_
          refine s_stB 0 rfl rfl rfl rfl rfl (by rw [rB_size]; omega) (fun _ hw => hw.dropR) ?_
          refine SX.end_ ?_
          refine KN.blk ?_
          refine KN.code ?_
          refine CW.reg [0, 1] rfl ?_   -- 15, encode.go:87
          refine s_add 93 rfl rfl rfl (r := ((i + 1 : Nat) : Int)) (w64 (by omega)) ?_
          refine s_mv 77 rfl rfl ?_
          refine SX.end_ ?_
          exact KN.back (i + 1) ⟨rfl, rfl, rfl, rfl, trivial⟩ (fun _ hw => by rw [← xq_next, ← rB_set]; exact hw) (by omega) (by omega)
        · skip
          obtain rfl : i = prB m t := by omega
          refine CW.exit rfl ?_
          exact KN.ret (rs := []) Tryd.results121 rfl (fun _ hw => ⟨rfl, by rw [← hMT.out hA hb hne]; exact hw⟩)

theorem bitwise_ok (c r m t : Nat) (cs : Array Value) (A2 : Option Addr) (c2 rc : Nat) (A : List Nat) (y : Nat) (w : World) (hMT : MT m t) (hh : LowH c r m t cs A2 c2 w) (hA : B1 A) (hy : y < 256) (hw : w.heap[r]? = some (.cells (rgB m t A) 5 (0, 0))) : WCall Tryd.prog 124 [.pointer (some ⟨c, 0, none⟩), .slice (some ⟨r, 0, none⟩) (prB m t) rc, .int .u8 (y : Nat)] w r 5 (rgB m t (addP (upP 8 A) (bl [y]))) (oneOf []) := by
  have hD := byte_b1 hA y
  refine spec_ofW Tryd.func124 rfl Tryd.ntmps124 rfl hw ?_
  refine CW.seq ?_
  refine CW.reg [0] rfl ?_   -- 0, encode.go:97
  refine s_as 6 rfl rfl ?_
  refine SX.next ?_
  refine CW.block ?_
  refine CW.loop (G := Nat) (fun k => [(0, .pointer (some ⟨c, 0, none⟩)), (1, .slice (some ⟨r, 0, none⟩) (prB m t) rc), (2, .int .u8 (y : Nat)), (6, .int .i64 (((k : Nat) : Int) - 1))]) (fun k => St (Ex r w) w [blk r 5 (rgB m t (dnP k (addP (upP 8 A) (bl [y]))))]) (fun k => k ≤ 8) (fun k => k) 8 ⟨rfl, rfl, rfl, rfl, trivial⟩ (fun _ hw => by rw [dn8 hA]; exact hw) (Nat.le_refl _) ?_
  intro k hk
  refine CW.seq ?_
  refine CW.seq ?_
  refine CW.reg [0, 1] rfl ?_   -- 1, encode.go:97
  refine s_mv 7 rfl rfl ?_
  refine s_ge 8 rfl rfl rfl rfl ?_
  refine SX.next ?_
  refine CW.test rfl (fun hc => ?_) (fun hc => ?_)
  · skip
    obtain ⟨j, rfl⟩ : ∃ j, k = j + 1 := ⟨k - 1, by omega⟩
    refine CW.skip ?_
    refine KN.code ?_
    refine CW.seq ?_
    refine CW.block ?_
    refine CW.reg [0, 1, 2, 3, 4, 5, 6, 7] rfl ?_   -- 3, encode.go:98
    refine s_mv 11 rfl rfl ?_
    refine s_mv 12 rfl rfl ?_
    refine s_mv 13 rfl rfl ?_
    refine s_mv 14 rfl rfl ?_
    refine s_shr 15 rfl rfl rfl (by omega) (r := ((y >>> j : Nat) : Int)) (by rw [show ((j + 1 : Nat) : Int) - 1 = ((j : Nat) : Int) by omega]; exact shr_u8 (by omega)) ?_
    refine s_bit 16 rfl rfl rfl rfl (ibit_and1_u8 (shr8 hy _)) ?_
    refine s_conv 17 rfl rfl (r := (((y >>> j) % 2 : Nat) : Int)) (w64 (by omega)) ?_
    refine s_callW 18 0 rfl rfl rfl rfl rfl (fun w2 hw2 => shift_ok c r m t cs A2 c2 rc (dnP (j + 1) (addP (upP 8 A) (bl [y]))) ((y >>> j) % 2) w2 hMT (hh.old hw2) (dnP_b1 hD _) (Nat.mod_lt _ (by omega)) (hw2.heapOf (i := 0) rfl)) (fun _ _ => trivial) ?_
    refine SX.end_ ?_
    refine KN.blk ?_
    refine KN.code ?_
    refine CW.reg [0, 1, 2] rfl ?_   -- 2, encode.go:97
    refine s_mv 9 rfl rfl ?_
    refine s_sub 10 rfl rfl rfl (r := ((j : Nat) : Int) - 1) (by rw [show ((j + 1 : Nat) : Int) - 1 - 1 = ((j : Nat) : Int) - 1 by omega]; exact w64 (by omega)) ?_
    refine s_as 6 rfl rfl ?_
    refine SX.end_ ?_
    exact KN.back j ⟨rfl, rfl, rfl, rfl, trivial⟩ (fun _ hw => by rw [dnP_cons hD, cf_byte A y (by omega)]; exact hw) (by omega) (by omega)
  · skip
    obtain rfl : k = 0 := by omega
    refine CW.exit rfl ?_
    exact KN.ret (rs := []) Tryd.results124 rfl (fun _ hw => ⟨rfl, by rw [dnP_zero hD] at hw; exact hw⟩)

theorem bytewise_ok (c r m t : Nat) (cs : Array Value) (A2 : Option Addr) (c2 rc : Nat) (A : List Nat) (y : Nat) (w : World) (hMT : MT m t) (hh : LowH c r m t cs A2 c2 w) (hT : TabH c r m t cs w) (hrc : prB m t ≤ rc) (hA : B1 A) (hy : y < 256) (hw : w.heap[r]? = some (.cells (rgB m t A) 5 (0, 0))) : WCall Tryd.prog 115 [.pointer (some ⟨c, 0, none⟩), .slice (some ⟨r, 0, none⟩) (prB m t) rc, .int .u8 (y : Nat)] w r 5 (rgB m t (addP (upP 8 A) (bl [y]))) (oneOf []) := by
  have hd1 := hMT.d1
  have hd5 := hMT.d560
  have hp1 := hMT.p1
  have hp7 := hMT.p70
  have hpd : prB m t = (dg m t + 7) / 8 := rfl
  have hL := hMT.lt hA
  have hmk := cut_mask (dg m t)
  have hf2 : ∀ j, (fun s => cf (encE (genL m (ldr m t).1) A) (dg m t - 8 + s)) j < 2 := fun j => (hMT.eb hA).le _
  have htp := topB_lt (hMT.eb hA) (dg m t)
  obtain ⟨g, hg1, hg2⟩ := hT.row ((topB (dg m t) (encE (genL m (ldr m t).1) A)) ^^^ y) (xor8 htp hy)
  have hLz := hMT.lt (bl_b1 [((topB (dg m t) (encE (genL m (ldr m t).1) A)) ^^^ y)])
  refine spec_ofW Tryd.func115 rfl Tryd.ntmps115 rfl hw ?_
  refine CW.seq ?_
  refine CW.seq ?_
  refine CW.reg [0, 1, 2, 3, 4] rfl ?_   -- 0, encode.go:104
  refine s_mv 12 rfl rfl ?_
  refine s_nil 13 rfl rfl ?_
  refine s_fa 14 rfl rfl ?_
  refine s_ld 15 rfl rfl (fun _ hw => (hw.oldN hh.blk).cellB hh.deg) ?_
  refine s_lt 16 rfl rfl rfl rfl ?_
  refine SX.next ?_
  refine CW.test rfl (fun hc => ?_) (fun hc => ?_)
  · skip
    refine CW.seq ?_
    refine CW.reg [0, 1, 2, 3] rfl ?_   -- 1, encode.go:105
    refine s_mv 17 rfl rfl ?_
    refine s_mv 18 rfl rfl ?_
    refine s_mv 19 rfl rfl ?_
    refine s_callW 20 0 rfl rfl rfl rfl rfl (fun w2 hw2 => bitwise_ok c r m t cs A2 c2 rc A y w2 hMT (hh.old hw2) hA hy (hw2.heapOf (i := 0) rfl)) (fun _ _ => trivial) ?_
    refine SX.next ?_
    refine CW.ret ?_
    exact KN.ret (rs := []) Tryd.results115 rfl (fun _ hw => ⟨rfl, hw⟩)
  · skip
    have h8 : 8 ≤ dg m t := by omega
    refine CW.skip ?_
    refine KN.code ?_
    refine CW.seq ?_
    refine CW.reg [0] rfl ?_   -- 2, encode.go:108
    refine s_as 6 rfl rfl ?_
    refine SX.next ?_
    refine CW.seq ?_
    refine CW.seq ?_
    refine CW.reg [0] rfl ?_   -- 3, encode.go:109
    refine s_mv 21 rfl rfl ?_
    refine SX.next ?_
    refine CW.block ?_
    refine CW.loop (G := Nat) (fun i => [(0, .pointer (some ⟨c, 0, none⟩)), (1, .slice (some ⟨r, 0, none⟩) (prB m t) rc), (2, .int .u8 (y : Nat)), (6, .int .u8 (byt (fun s => cf (encE (genL m (ldr m t).1) A) (dg m t - 8 + s)) i : Nat)), (21, .int .i64 (i : Nat))]) (fun _ => St (Ex r w) w [blk r 5 (rgB m t A)]) (fun i => i ≤ 8) (fun i => 8 - i) 0 ⟨rfl, rfl, rfl, rfl, rfl, trivial⟩ (fun _ hw => hw) (Nat.zero_le _) ?_
    intro i hi
    refine CW.seq ?_
    refine CW.reg [0] rfl ?_   -- 4, encode.go:109
    refine s_lt 22 rfl rfl rfl rfl ?_
    refine SX.next ?_
    refine CW.seq ?_
    refine CW.test rfl (fun hc => ?_) (fun hc => ?_)
    · skip
      have hb9 := byt_lt hf2 (i := i + 1) (by omega)
      have hb8 := byt_lt hf2 (i := i) (by omega)
      have hbe : byt (fun s => cf (encE (genL m (ldr m t).1) A) (dg m t - 8 + s)) (i + 1) = byt (fun s => cf (encE (genL m (ldr m t).1) A) (dg m t - 8 + s)) i + cf (encE (genL m (ldr m t).1) A) (dg m t - 8 + i) * 2 ^ i := rfl
      refine CW.skip ?_
      refine KN.code ?_
      refine CW.seq ?_
      refine CW.block ?_
      refine CW.seq ?_
      refine CW.reg [0, 1] rfl ?_   -- 5, encode.go:109
      refine s_mv 23 rfl rfl ?_
      refine s_as 7 rfl rfl ?_
      refine SX.next ?_
      refine CW.seq ?_
      refine CW.reg [0, 1, 2, 3, 4, 5, 6, 7] rfl ?_   -- 6, encode.go:110
      refine s_mv 24 rfl rfl ?_
      refine s_nil 25 rfl rfl ?_
      refine s_fa 26 rfl rfl ?_
      refine s_ld 27 rfl rfl (fun _ hw => (hw.oldN hh.blk).cellB hh.deg) ?_
      refine s_sub 28 rfl rfl rfl (r := ((dg m t - 8 : Nat) : Int)) (by rw [show ((dg m t : Nat) : Int) - 8 = ((dg m t - 8 : Nat) : Int) by omega]; exact w64 (by omega)) ?_
      refine s_mv 29 rfl rfl ?_
      refine s_add 30 rfl rfl rfl (r := ((dg m t - 8 + i : Nat) : Int)) (w64 (by omega)) ?_
      refine s_as 8 rfl rfl ?_
      refine SX.next ?_
      refine CW.reg [0, 1, 2, 3, 4, 5, 6, 7, 8, 9, 10, 11, 12, 13] rfl ?_   -- 7, encode.go:111
      refine s_mv 31 rfl rfl ?_
      refine s_mv 32 rfl rfl ?_
      refine s_mv 33 rfl rfl ?_
      refine s_quo 34 rfl rfl rfl (by omega) (quo8 (dg m t - 8 + i) (by omega)) ?_
      refine s_ia0 35 ((dg m t - 8 + i) / 8) rfl rfl rfl rfl (by omega) ?_
      refine s_ldB 36 0 rfl rfl rfl (v := .int .u8 (cf (rgL m t A) ((dg m t - 8 + i) / 8) : Nat)) (rB_at (by omega)) ?_
      refine s_mv 37 rfl rfl ?_
      refine s_rem 38 rfl rfl rfl (by omega) (tmod8 (dg m t - 8 + i)) ?_
      refine s_shr 39 rfl rfl rfl (by omega) (shr_u8 (by omega)) ?_
      refine s_bit 40 rfl rfl rfl rfl (r := ((cf (encE (genL m (ldr m t).1) A) (dg m t - 8 + i) : Nat) : Int)) (by rw [ibit_and1_u8 (shr8 (cf_lt8 hL _) _), hMT.bit hA (by omega)]) ?_
      refine s_mv 41 rfl rfl ?_
      refine s_shl 42 rfl rfl rfl (by omega) (r := ((cf (encE (genL m (ldr m t).1) A) (dg m t - 8 + i) * 2 ^ i : Nat) : Int)) (by rw [shl_u8 (by omega), Nat.mod_eq_of_lt (by omega)]) ?_
      refine s_bit 43 rfl rfl rfl rfl (r := ((byt (fun s => cf (encE (genL m (ldr m t).1) A) (dg m t - 8 + s)) (i + 1) : Nat) : Int)) (by rw [ibit_or_u8 hb8 (by omega), ← byt_or hf2]) ?_
      refine s_as 6 rfl rfl ?_
      refine SX.end_ ?_
      refine KN.blk ?_
      refine KN.code ?_
      refine CW.reg [0, 1] rfl ?_   -- 8, encode.go:109
      refine s_add 44 rfl rfl rfl (r := ((i + 1 : Nat) : Int)) (w64 (by omega)) ?_
      refine s_mv 21 rfl rfl ?_
      refine SX.end_ ?_
      exact KN.back (i + 1) ⟨rfl, rfl, rfl, rfl, rfl, trivial⟩ (fun _ hw => hw) (by omega) (by omega)
    · skip
      obtain rfl : i = 8 := by omega
      refine CW.exit rfl ?_
      refine KN.code ?_
      refine CW.seq ?_
      refine CW.reg [0, 1, 2, 3] rfl ?_   -- 9, encode.go:113
      refine s_mv 45 rfl rfl ?_
      refine s_slL 46 1 rfl rfl rfl rfl (by omega) ?_
      refine s_mv 47 rfl rfl ?_
      refine (s_copyB (ys := nats .u8 (rgL m t A)) 0 (g := r) (off := 1) rfl rfl rfl rfl (fun hn => by unfold cutA; rw [if_neg (by omega)]; rfl) (fun w hw => Has.cong ((hw.has (i := 0) rfl).blk_sl (m := prB m t) (sz := 1) (by rw [rgB_size, Nat.mul_one])) (by rw [rgB_list])) (nats_one _ _) (by rw [rgB_size]; omega) (fun _ _ => trivial) ?_)
      refine SX.next ?_
      refine CW.seq ?_
      refine CW.pre (C' := St (Ex r w) w [blk r 5 (rB (prB m t) (cpN (rgL m t A)))]) (fun _ hw => by rw [← cp_M hp1]; exact hw) ?_
      refine CW.reg [0, 1, 2] rfl ?_   -- 10, encode.go:114
      refine s_mv 49 rfl rfl ?_
      refine s_ia0 50 0 rfl rfl rfl rfl (by omega) ?_
      refine s_stB 0 rfl rfl rfl rfl rfl (by rw [rB_size]; omega) (fun _ _ => trivial) ?_
      refine SX.next ?_
      refine CW.cut (G := Unit) (fun _ => [(0, .pointer (some ⟨c, 0, none⟩)), (1, .slice (some ⟨r, 0, none⟩) (prB m t) rc), (2, .int .u8 (y : Nat)), (6, .int .u8 ((topB (dg m t) (encE (genL m (ldr m t).1) A)) : Nat))]) (fun _ => St (Ex r w) w [blk r 5 (rB (prB m t) (shD (dg m t) (rgL m t A)))]) (fun _ => True) ?_ ?_
      · skip
        refine CW.seq ?_
        refine CW.pre (C' := St (Ex r w) w [blk r 5 (rB (prB m t) (cp0 (rgL m t A)))]) (fun _ hw => by rw [← cp0_of]; have := rB_set (prB m t) (cpN (rgL m t A)) 0 0; rw [← this]; exact hw) ?_
        refine CW.reg [0, 1, 2, 3, 4, 5] rfl ?_   -- 11, encode.go:115
        refine s_mv 51 rfl rfl ?_
        refine s_nil 52 rfl rfl ?_
        refine s_fa 53 rfl rfl ?_
        refine s_ld 54 rfl rfl (fun _ hw => (hw.oldN hh.blk).cellB hh.deg) ?_
        refine s_rem 55 rfl rfl rfl (by omega) (tmod8 (dg m t)) ?_
        refine s_as 9 rfl rfl ?_
        refine SX.next ?_
        refine CW.seq ?_
        refine CW.reg [0, 1] rfl ?_   -- 12, encode.go:115
        refine s_mv 56 rfl rfl ?_
        refine s_gt 57 rfl rfl rfl rfl ?_
        refine SX.next ?_
        refine CW.test rfl (fun hc => ?_) (fun hc => ?_)
        · skip
          refine CW.regD (.st true 0 (.st true 1 (.st true 2 (.st true 3 (.st true 4 (.st true 6 (.st true 7 (.st true 8 (.st false 5 (.st true 9 (.st true 10 (.st false 11 .done)))))))))))) (St (Ex r w) w []) mixed (by kernel_rfl) (fun _ h => h.drew) (fun _ hw => hw.dropR) ?_
          refine s_mv 58 rfl rfl ?_
          refine s_mv 59 rfl rfl ?_
          refine s_len 60 rfl rfl ?_
          refine s_sub 61 rfl rfl rfl (r := ((prB m t - 1 : Nat) : Int)) (by rw [show ((prB m t : Nat) : Int) - 1 = ((prB m t - 1 : Nat) : Int) by omega]; exact w64 (by omega)) ?_
          refine s_ia0 62 (prB m t - 1) rfl rfl rfl rfl (by omega) ?_
          refine s_mv 64 rfl rfl ?_
          refine s_shl 65 rfl rfl rfl (by omega) (r := ((2 ^ (dg m t % 8) : Nat) : Int)) (by rw [show (1 : Int) = ((1 : Nat) : Int) from rfl, shl_u8 (by omega), Nat.one_mul, Nat.mod_eq_of_lt hmk.2]) ?_
          refine s_sub 66 rfl rfl rfl (r := ((2 ^ (dg m t % 8) - 1 : Nat) : Int)) (by rw [show ((2 ^ (dg m t % 8) : Nat) : Int) - 1 = ((2 ^ (dg m t % 8) - 1 : Nat) : Int) by omega]; exact w8 (by omega)) ?_
          refine s_ldB 63 0 rfl rfl rfl (v := .int .u8 ((cp0 (rgL m t A)) (prB m t - 1) : Nat)) (rB_at (by omega)) ?_
          refine s_bit 67 rfl rfl rfl rfl (r := (((cp0 (rgL m t A)) (prB m t - 1) % 2 ^ (dg m t % 8) : Nat) : Int)) (by rw [ibit_and_u8 (cp0_lt hL _) (by omega), and_mask]) ?_
          refine s_ia0 68 (prB m t - 1) rfl rfl rfl rfl (by omega) ?_
          refine s_stB 0 rfl rfl rfl rfl rfl (by rw [rB_size]; omega) (fun _ hw => hw.dropR) ?_
          refine SX.end_ ?_
          exact KN.join () ⟨rfl, rfl, rfl, rfl, trivial⟩ (fun _ hw => by rw [← cp0_cutM A (by omega), ← rB_set]; exact hw) trivial
        · skip
          refine CW.skip ?_
          exact KN.join () ⟨rfl, rfl, rfl, rfl, trivial⟩ (fun _ hw => by rw [← cp0_all _ (by omega)]; exact hw) trivial
      · skip
        intro _ _
        refine CW.seq ?_
        refine CW.reg [0, 1, 2, 3, 4, 5, 6, 7, 8, 9] rfl ?_   -- 14, encode.go:118
        refine s_mv 69 rfl rfl ?_
        refine s_mv 70 rfl rfl ?_
        refine s_mv 71 rfl rfl ?_
        refine s_bit 72 rfl rfl rfl rfl (ibit_xor_u8 htp hy) ?_
        refine s_nil 73 rfl rfl ?_
        refine s_fa 74 rfl rfl ?_
        refine s_iaR 75 ((topB (dg m t) (encE (genL m (ldr m t).1) A)) ^^^ y) rfl rfl rfl rfl (xor8 htp hy) ?_
        refine s_ld 76 rfl rfl (fun _ hw => by have := (hw.oldN hh.blk).cellB hg1; simpa using this) ?_
        refine s_len 77 rfl rfl ?_
        refine s_mv 78 rfl rfl ?_
        refine SX.next ?_
        refine CW.block ?_
        refine CW.loop (G := Nat) (fun i => [(1, .slice (some ⟨r, 0, none⟩) (prB m t) rc), (76, .slice (some ⟨g, 0, none⟩) (prB m t) (prB m t)), (77, .int .i64 (prB m t : Nat)), (78, .int .i64 (i : Nat))]) (fun i => St (Ex r w) w [blk r 5 (rB (prB m t) (xq (shD (dg m t) (rgL m t A)) (cf (rgL m t (bl [((topB (dg m t) (encE (genL m (ldr m t).1) A)) ^^^ y)]))) i))]) (fun i => i ≤ prB m t) (fun i => prB m t - i) 0 ⟨rfl, rfl, rfl, rfl, trivial⟩ (fun _ hw => by rw [xq_zero]; exact hw) (Nat.zero_le _) ?_
        intro i hi
        refine CW.seq ?_
        refine CW.reg [0] rfl ?_   -- 15, encode.go:118
        refine s_lt 79 rfl rfl rfl rfl ?_
        refine SX.next ?_
        refine CW.seq ?_
        refine CW.test rfl (fun hc => ?_) (fun hc => ?_)
        · skip
          refine CW.skip ?_
          refine KN.code ?_
          refine CW.seq ?_
          refine CW.block ?_
          refine CW.seq ?_
          refine CW.reg [0, 1, 2, 3, 4] rfl ?_   -- 16, encode.go:118
          refine s_mv 80 rfl rfl ?_
          refine s_ia0 81 i rfl rfl rfl rfl (by omega) ?_
          refine s_ld 82 rfl rfl (v := .int .u8 (cf (rgL m t (bl [((topB (dg m t) (encE (genL m (ldr m t).1) A)) ^^^ y)])) i : Nat)) (fun _ hw => HasN.cellB (cs2 := rgB m t (bl [((topB (dg m t) (encE (genL m (ldr m t).1) A)) ^^^ y)])) (hw.oldN hg2) (rB_at (by omega))) ?_
          refine s_as 10 rfl rfl ?_
          refine s_as 11 rfl rfl ?_
          refine SX.next ?_
          refine CW.reg [0, 1, 2, 3, 4, 5, 6, 7] rfl ?_   -- 17, encode.go:119
          refine s_mv 83 rfl rfl ?_
          refine s_mv 84 rfl rfl ?_
          refine s_ia0 85 i rfl rfl rfl rfl (by omega) ?_
          refine s_ldB 86 0 rfl rfl rfl (v := .int .u8 (shD (dg m t) (rgL m t A) i : Nat)) (by rw [rB_at (by omega), xq_at]) ?_
          refine s_mv 87 rfl rfl ?_
          refine s_bit 88 rfl rfl rfl rfl (ibit_xor_u8 (shD_lt hL _ _) (cf_lt8 hLz _)) ?_
          refine s_ia0 89 i rfl rfl rfl rfl (by omega) ?_
          refine s_stB 0 rfl rfl rfl rfl rfl (by rw [rB_size]; omega) (fun _ _ => trivial) ?_
          refine SX.end_ ?_
          refine KN.blk ?_
          refine KN.code ?_
          refine CW.reg [0, 1] rfl ?_   -- 18, encode.go:118
          refine s_add 90 rfl rfl rfl (r := ((i + 1 : Nat) : Int)) (w64 (by omega)) ?_
          refine s_mv 78 rfl rfl ?_
          refine SX.end_ ?_
          exact KN.back (i + 1) ⟨rfl, rfl, rfl, rfl, trivial⟩ (fun _ hw => by rw [← xq_next, ← rB_set]; exact hw) (by omega) (by omega)
        · skip
          obtain rfl : i = prB m t := by omega
          refine CW.exit rfl ?_
          exact KN.ret (rs := []) Tryd.results115 rfl (fun _ hw => ⟨rfl, by rw [← hMT.byte h8 hA hy]; exact hw⟩)
end Go.Proofs.YtompcfingkoldaaDoor
end
section
/- Words, places turned, how many places differ. No program. -/
namespace Go.Proofs.YtompcfingkoldaaDoor
open Go Go.Sx Go.Fm Nb
/-- How many of the first values are not 0. -/
def nzc (f : Nat → Nat) : Nat → Nat
  | 0 => 0
  | n + 1 => nzc f n + (if f n = 0 then 0 else 1)
theorem nzc_filter (f : Nat → Nat) : ∀ n, nzc f n = ((List.range n).filter (fun j => decide (f j ≠ 0))).length
  | 0 => rfl
  | n + 1 => by
    rw [List.range_succ, List.filter_append, List.length_append, ← nzc_filter f n]
    show nzc f n + _ = _
    by_cases h : f n = 0
    · simp [h]
    · simp [h]
theorem nzc_congr {f g : Nat → Nat} : ∀ {n : Nat}, (∀ j, j < n → f j = g j) → nzc f n = nzc g n
  | 0, _ => rfl
  | n + 1, h => by
    show nzc f n + _ = nzc g n + _
    rw [nzc_congr (n := n) (fun j hj => h j (by omega)), h n (by omega)]
theorem nzc_zero {f : Nat → Nat} : ∀ {n : Nat}, nzc f n = 0 → ∀ j, j < n → f j = 0
  | n + 1, h, j, hj => by
    have h1 : nzc f n + (if f n = 0 then 0 else 1) = 0 := h
    by_cases h2 : f n = 0
    · by_cases h3 : j = n
      · rw [h3]; exact h2
      · exact nzc_zero (n := n) (by omega) j (by omega)
    · rw [if_neg h2] at h1; omega
theorem nzc_none {f : Nat → Nat} : ∀ {n : Nat}, (∀ j, j < n → f j = 0) → nzc f n = 0
  | 0, _ => rfl
  | n + 1, h => by
    show nzc f n + _ = 0
    rw [nzc_none (n := n) (fun j hj => h j (by omega)), if_pos (h n (by omega))]
theorem nzc_one {f : Nat → Nat} {k : Nat} : ∀ {n : Nat}, k < n → f k ≠ 0 → (∀ j, j < n → j ≠ k → f j = 0) → nzc f n = 1
  | n + 1, hk, h1, h => by
    show nzc f n + _ = 1
    by_cases he : k = n
    · subst he
      rw [if_neg h1, nzc_none (fun j hj => h j (by omega) (by omega))]
    · rw [if_pos (h n (by omega) (fun e => he e.symm)), nzc_one (n := n) (by omega) h1 (fun j hj h2 => h j (by omega) h2)]
theorem nzc_add (f : Nat → Nat) (d : Nat) : ∀ n, nzc f (d + n) = nzc f d + nzc (fun j => f (d + j)) n
  | 0 => rfl
  | n + 1 => by
    show nzc f (d + n) + (if f (d + n) = 0 then 0 else 1) = nzc f d + (nzc (fun j => f (d + j)) n + (if f (d + n) = 0 then 0 else 1))
    rw [nzc_add f d n, Nat.add_assoc]
theorem nzc_beyond {f : Nat → Nat} {d n : Nat} (h : d ≤ n) (hz : ∀ j, d ≤ j → j < n → f j = 0) : nzc f n = nzc f d := by
  obtain ⟨k, rfl⟩ := Nat.exists_eq_add_of_le h
  rw [nzc_add, nzc_none (f := fun j => f (d + j)) (fun j hj => hz (d + j) (by omega) (by omega))]
  rfl
theorem exL_nzc {a : List Nat} {n : Nat} (h : a.length ≤ n) : (exL a).length = nzc (cf a) n := by
  rw [nzc_filter]
  refine List.Perm.length_eq ((List.perm_ext_iff_of_nodup (exL_nodup a) (List.nodup_range.filter _)).2 (fun x => ?_))
  rw [exL_mem, List.mem_filter, List.mem_range, decide_eq_true_iff]
  exact ⟨fun ⟨h1, h2⟩ => ⟨by omega, h2⟩, fun ⟨_, h2⟩ => ⟨Nat.lt_of_not_le fun hl => h2 (cf_out hl), h2⟩⟩
/-! ### A place turned -/
def flB (l : List Nat) (k : Nat) : List Nat := l.set (k / 8) (cf l (k / 8) ^^^ 2 ^ (k % 8))
theorem flB_len (l : List Nat) (k : Nat) : (flB l k).length = l.length := by simp [flB]
theorem pow8_lt (k : Nat) : 2 ^ (k % 8) < 256 := Nat.pow_lt_pow_right (n := 8) (by omega) (Nat.mod_lt _ (by omega))
theorem flB_lt {l : List Nat} (hl : ∀ x ∈ l, x < 256) (k : Nat) : ∀ x ∈ flB l k, x < 256 := set_lt hl (xor8 (cf_lt8 hl _) (pow8_lt k))
theorem flB_bit {l : List Nat} {k : Nat} (hk : k < 8 * l.length) (j : Nat) : bitN (flB l k) j = bitN l j ^^^ (if j = k then 1 else 0) := by
  unfold bitN flB
  rw [cf_set (by omega)]
  by_cases h : j / 8 = k / 8
  · rw [if_pos h, shr_xor, h]
    congr 1
    rw [shr_two, Nat.testBit_two_pow]
    by_cases h2 : j = k
    · subst h2; simp
    · rw [if_neg h2, decide_eq_false (by omega)]
      rfl
  · rw [if_neg h, if_neg (by intro e; exact h (by rw [e])), Nat.xor_zero]
theorem bits_ext {a b : List Nat} (hl : a.length = b.length) (ha : ∀ x ∈ a, x < 256) (hb : ∀ x ∈ b, x < 256) (h : ∀ j, j < 8 * a.length → bitN a j = bitN b j) : a = b := by
  apply List.ext_getElem?
  intro i
  by_cases hi : i < a.length
  · have e : cf a i = cf b i := test_ext (cf_lt8 ha i) (cf_lt8 hb i) (fun s hs => by
      have := h (8 * i + s) (by omega)
      rw [bitN_test _ _ _ hs, bitN_test _ _ _ hs] at this
      exact toNat_inj this)
    rw [cf_in hi, cf_in (by omega), e]
  · rw [List.getElem?_eq_none (by omega), List.getElem?_eq_none (by omega)]
theorem flB_flB {l : List Nat} (hl : ∀ x ∈ l, x < 256) {k : Nat} (hk : k < 8 * l.length) : flB (flB l k) k = l :=
  bits_ext (by rw [flB_len, flB_len]) (flB_lt (flB_lt hl k) k) hl (fun j _ => by
    rw [flB_bit (by rw [flB_len]; exact hk), flB_bit hk, Nat.xor_assoc, Nat.xor_self, Nat.xor_zero])
theorem flB_ne {l : List Nat} {k : Nat} (hk : k < 8 * l.length) : flB l k ≠ l := fun h => by
  have := flB_bit hk k
  rw [h, if_pos rfl] at this
  have h2 := bitN_lt l k
  rcases (show bitN l k = 0 ∨ bitN l k = 1 by omega) with h3 | h3 <;> rw [h3] at this <;> cases this
theorem flB_inj {l : List Nat} {i j : Nat} (hi : i < 8 * l.length) (hj : j < 8 * l.length) (h : flB l i = flB l j) : i = j := Classical.byContradiction fun hne => by
  have h1 := flB_bit hi i
  rw [h, flB_bit hj i, if_pos rfl, if_neg hne, Nat.xor_zero] at h1
  have h2 := bitN_lt l i
  rcases (show bitN l i = 0 ∨ bitN l i = 1 by omega) with h3 | h3 <;> rw [h3] at h1 <;> cases h1
/-- Where the bits differ. -/
def dif (a b : List Nat) (n : Nat) : Nat := nzc (fun j => bitN a j ^^^ bitN b j) n
theorem dif_self (a : List Nat) (n : Nat) : dif a a n = 0 := nzc_none (fun _ _ => Nat.xor_self _)
theorem dif_flip {l : List Nat} {k : Nat} (hk : k < 8 * l.length) : dif (flB l k) l (8 * l.length) = 1 := by
  have e : ∀ j, bitN (flB l k) j ^^^ bitN l j = if j = k then 1 else 0 := fun j => by
    rw [flB_bit hk, Nat.xor_comm, ← Nat.xor_assoc, Nat.xor_self, Nat.zero_xor]
  exact nzc_one hk (by rw [e, if_pos rfl]; decide) (fun j _ h => by rw [e, if_neg h])
theorem xor_eq {a b : Nat} (h : a ^^^ b = 0) : a = b := by
  have := congrArg (fun z => z ^^^ b) h
  simp only [Nat.xor_assoc, Nat.xor_self, Nat.xor_zero, Nat.zero_xor] at this
  exact this
theorem dif_zero {a b : List Nat} (hl : a.length = b.length) (ha : ∀ x ∈ a, x < 256) (hb : ∀ x ∈ b, x < 256) (h : dif a b (8 * a.length) = 0) : a = b := bits_ext hl ha hb (fun j hj => xor_eq (nzc_zero h j hj))
theorem dif_comm (a b : List Nat) (n : Nat) : dif a b n = dif b a n := nzc_congr (fun _ _ => Nat.xor_comm _ _)
/-! ### Words -/
section
variable {m t : Nat} (h : MT m t)
include h
theorem enc_lt (d : List Nat) : ∀ x ∈ encB m t d, x < 256 := h.lt (bl_b1 d)
theorem enc_cf (d : List Nat) {j : Nat} (hj : j < 8 * prB m t) : bitN (encB m t d) j = cf (encE (genL m (ldr m t).1) (bl d)) j := bitN_pb (h.eb (bl_b1 d)) hj
theorem enc_hi {A : List Nat} (hA : B1 A) {j : Nat} (hj : dg m t ≤ j) : cf (encE (genL m (ldr m t).1) A) j = 0 := cf_out (Nat.le_trans (encE_len h.gb h.g2 hA) hj)
theorem bl_enc (d : List Nat) : bl (encB m t d) = encE (genL m (ldr m t).1) (bl d) := bl_pb (h.eb (bl_b1 d)) (by
  have h1 := encE_len h.gb h.g2 (bl_b1 d)
  unfold prB dg
  omega)
/-- The parity of the xor is the xor of the parities. -/
theorem enc_xor {a b c : List Nat} (hc : bl c = addP (bl a) (bl b)) {j : Nat} (hj : j < 8 * prB m t) : bitN (encB m t c) j = bitN (encB m t a) j ^^^ bitN (encB m t b) j := by
  rw [enc_cf h c hj, enc_cf h a hj, enc_cf h b hj, hc, encE_add h.gb h.g2 (bl_b1 a) (bl_b1 b), cf_addP]
theorem word_nzc {A : List Nat} (hA : B1 A) {D : Nat} (hl : A.length ≤ 8 * D) (hN : 8 * D + dg m t ≤ N m) (h2 : 2 * t < N m) : nzc (cf (encE (genL m (ldr m t).1) A)) (dg m t) + nzc (cf A) (8 * D) = 0 ∨ 2 * t + 1 ≤ nzc (cf (encE (genL m (ldr m t).1) A)) (dg m t) + nzc (cf A) (8 * D) := by
  have hE := h.eb hA
  have hEl := encE_len h.gb h.g2 hA
  have hW := addP_b1 (upP_b1 hA (dg m t)) hE
  have hcf : ∀ j, cf (addP (upP (dg m t) A) (encE (genL m (ldr m t).1) A)) j = if dg m t ≤ j then cf A (j - dg m t) else cf (encE (genL m (ldr m t).1) A) j := fun j => by
    rw [cf_addP, cf_upP]
    split
    · rename_i hj
      rw [enc_hi h hA hj, Nat.xor_zero]
    · rw [Nat.zero_xor]
  have hWl : (addP (upP (dg m t) A) (encE (genL m (ldr m t).1) A)).length ≤ dg m t + 8 * D := b1_len hW (fun j hj => by rw [hcf, if_pos (by omega), cf_out (by omega)])
  have hc := exL_nzc hWl
  rw [nzc_add] at hc
  have e1 : nzc (cf (addP (upP (dg m t) A) (encE (genL m (ldr m t).1) A))) (dg m t) = nzc (cf (encE (genL m (ldr m t).1) A)) (dg m t) := nzc_congr (fun j hj => by rw [hcf, if_neg (by omega)])
  have e2 : nzc (fun j => cf (addP (upP (dg m t) A) (encE (genL m (ldr m t).1) A)) (dg m t + j)) (8 * D) = nzc (cf A) (8 * D) := nzc_congr (fun j hj => by rw [hcf, if_pos (by omega), Nat.add_sub_cancel_left])
  rw [e1, e2] at hc
  rw [← hc]
  rcases far_word h.ok hW (by omega) (t := t) (fun x h3 h4 => word_zero h.ok h.g2 hA h3 h4 (by omega)) with h3 | h3
  · exact .inl (by rw [h3]; rfl)
  · exact .inr h3
/-- Right words that are not the same differ in 2t + 1 bits at least. -/
theorem apart {d e : List Nat} {D : Nat} (hd : d.length = D) (he : e.length = D) (hN : 8 * D + dg m t ≤ N m) (h2 : 2 * t < N m) : dif d e (8 * D) + dif (encB m t d) (encB m t e) (8 * prB m t) = 0 ∨ 2 * t + 1 ≤ dif d e (8 * D) + dif (encB m t d) (encB m t e) (8 * prB m t) := by
  have hA := addP_b1 (bl_b1 d) (bl_b1 e)
  have hl : (addP (bl d) (bl e)).length ≤ 8 * D := b1_len hA (fun j hj => by rw [cf_addP, cf_bl, cf_bl, bitN_out (by omega), bitN_out (by omega)]; rfl)
  have h3 := word_nzc h hA hl hN h2
  have e1 : nzc (cf (addP (bl d) (bl e))) (8 * D) = dif d e (8 * D) := nzc_congr (fun j _ => by rw [cf_addP, cf_bl, cf_bl])
  have e2 : dif (encB m t d) (encB m t e) (8 * prB m t) = nzc (cf (encE (genL m (ldr m t).1) (addP (bl d) (bl e)))) (dg m t) := by
    unfold dif
    rw [nzc_congr (f := fun j => bitN (encB m t d) j ^^^ bitN (encB m t e) j) (g := cf (encE (genL m (ldr m t).1) (addP (bl d) (bl e)))) (fun j hj => by rw [enc_cf h d hj, enc_cf h e hj, encE_add h.gb h.g2 (bl_b1 d) (bl_b1 e), cf_addP])]
    exact nzc_beyond (by unfold prB; omega) (fun j hj _ => enc_hi h hA hj)
  rw [← e1, e2, Nat.add_comm]
  exact h3
/-- A place turned in a word that is right. -/
theorem turned {d : List Nat} {D k : Nat} (hd : d.length = D) (hN : 8 * D + dg m t ≤ N m) (h2 : 2 * t < N m) (hk : k < 8 * D) : encB m t (flB d k) ≠ encB m t d := fun he => by
  have h1 := apart h (e := d) (show (flB d k).length = D by rw [flB_len, hd]) hd hN h2
  have h4 : dif (flB d k) d (8 * D) = 1 := by rw [← hd]; exact dif_flip (by omega)
  rw [h4, he, dif_self] at h1
  have := h.t1
  omega
end
end Go.Proofs.YtompcfingkoldaaDoor
end
section
/- What a code tells, walked: its numbers, the parity by both ways, whether a parity is right, a place turned. Conditions: the code was made by New; the errors' variables. -/
namespace Go.Proofs.YtompcfingkoldaaDoor
open Go Go.Sx Go.Fm Nb
set_option maxRecDepth 100000
theorem drop_bl {p : List Nat} {j : Nat} (h : j < p.length) : bl (p.drop j) = addP (upP 8 (bl (p.drop (j + 1)))) (bl [cf p j]) := by
  rw [← bl_cons]
  congr 1
  rw [List.drop_eq_getElem_cons h]
  congr 1
  unfold cf
  rw [List.getD_eq_getElem?_getD, List.getElem?_eq_getElem h]
  rfl
/-- A word with a place turned. -/
def fpD (m t k : Nat) (d : List Nat) : List Nat := if k < dg m t then d else flB d (k - dg m t)
def fpP (m t k : Nat) (p : List Nat) : List Nat := if k < dg m t then flB p k else p
theorem fpD_len (m t k : Nat) (d : List Nat) : (fpD m t k d).length = d.length := by unfold fpD; split <;> simp [flB_len]
theorem fpP_len (m t k : Nat) (p : List Nat) : (fpP m t k p).length = p.length := by unfold fpP; split <;> simp [flB_len]
theorem fpD_lt {d : List Nat} (hd : ∀ x ∈ d, x < 256) (m t k : Nat) : ∀ x ∈ fpD m t k d, x < 256 := by
  unfold fpD
  split
  · exact hd
  · exact flB_lt hd _
theorem fpP_lt {p : List Nat} (hp : ∀ x ∈ p, x < 256) (m t k : Nat) : ∀ x ∈ fpP m t k p, x < 256 := by
  unfold fpP
  split
  · exact flB_lt hp _
  · exact hp
theorem gn_len {m t : Nat} (h : MT m t) : (gnB m t).length ≤ 71 := by
  have h1 := bys_len (genL m (ldr m t).1)
  have h2 := h.d560
  unfold dg at h2
  unfold gnB
  omega
theorem prB_dg (m t : Nat) : dg m t ≤ 8 * prB m t := by unfold prB; omega

theorem cT_spec (cc m t D : Nat) (q : CodeG) (w : World) (hcd : Has (codeA cc m t D q) w) : Spec1 Tryd.prog 33 [.pointer (some ⟨cc, 0, none⟩)] w (.int .i64 ((t : Nat) : Int)) := by
  obtain ⟨hcb, hgn, hlw, hfd, hst⟩ := code_at hcd
  refine spec_of Tryd.func33 rfl Tryd.ntmps33 rfl ?_
  refine CW.seq ?_
  refine CW.reg [0] rfl ?_   -- 0, encode.go:56
  refine s_as 2 rfl rfl ?_
  refine SX.next ?_
  refine CW.seq ?_
  refine CW.reg [0, 1, 2, 3, 4] rfl ?_   -- 1, encode.go:56
  refine s_mv 3 rfl rfl ?_
  refine s_nil 4 rfl rfl ?_
  refine s_fa 5 rfl rfl ?_
  refine s_ld 6 rfl rfl (fun _ hw => (hw.old hcb).cellB (j := 1) rfl) ?_
  refine s_as 2 rfl rfl ?_
  refine SX.next ?_
  refine CW.ret ?_
  exact KN.ret (rs := [.tmp 2]) Tryd.results33 rfl (fun w hw => ⟨rfl, hw.nothing⟩)

theorem cData_spec (cc m t D : Nat) (q : CodeG) (w : World) (hcd : Has (codeA cc m t D q) w) : Spec1 Tryd.prog 34 [.pointer (some ⟨cc, 0, none⟩)] w (.int .i64 ((D : Nat) : Int)) := by
  obtain ⟨hcb, hgn, hlw, hfd, hst⟩ := code_at hcd
  refine spec_of Tryd.func34 rfl Tryd.ntmps34 rfl ?_
  refine CW.seq ?_
  refine CW.reg [0] rfl ?_   -- 0, encode.go:59
  refine s_as 2 rfl rfl ?_
  refine SX.next ?_
  refine CW.seq ?_
  refine CW.reg [0, 1, 2, 3, 4] rfl ?_   -- 1, encode.go:59
  refine s_mv 3 rfl rfl ?_
  refine s_nil 4 rfl rfl ?_
  refine s_fa 5 rfl rfl ?_
  refine s_ld 6 rfl rfl (fun _ hw => (hw.old hcb).cellB (j := 2) rfl) ?_
  refine s_as 2 rfl rfl ?_
  refine SX.next ?_
  refine CW.ret ?_
  exact KN.ret (rs := [.tmp 2]) Tryd.results34 rfl (fun w hw => ⟨rfl, hw.nothing⟩)

theorem cPar_spec (cc m t D : Nat) (q : CodeG) (w : World) (hcd : Has (codeA cc m t D q) w) : Spec1 Tryd.prog 36 [.pointer (some ⟨cc, 0, none⟩)] w (.int .i64 ((prB m t : Nat) : Int)) := by
  obtain ⟨hcb, hgn, hlw, hfd, hst⟩ := code_at hcd
  refine spec_of Tryd.func36 rfl Tryd.ntmps36 rfl ?_
  refine CW.seq ?_
  refine CW.reg [0] rfl ?_   -- 0, encode.go:62
  refine s_as 2 rfl rfl ?_
  refine SX.next ?_
  refine CW.seq ?_
  refine CW.reg [0, 1, 2, 3, 4] rfl ?_   -- 1, encode.go:62
  refine s_mv 3 rfl rfl ?_
  refine s_nil 4 rfl rfl ?_
  refine s_fa 5 rfl rfl ?_
  refine s_ld 6 rfl rfl (fun _ hw => (hw.old hcb).cellB (j := 4) rfl) ?_
  refine s_as 2 rfl rfl ?_
  refine SX.next ?_
  refine CW.ret ?_
  exact KN.ret (rs := [.tmp 2]) Tryd.results36 rfl (fun w hw => ⟨rfl, hw.nothing⟩)

theorem cDeg_spec (cc m t D : Nat) (q : CodeG) (w : World) (hcd : Has (codeA cc m t D q) w) : Spec1 Tryd.prog 35 [.pointer (some ⟨cc, 0, none⟩)] w (.int .i64 ((dg m t : Nat) : Int)) := by
  obtain ⟨hcb, hgn, hlw, hfd, hst⟩ := code_at hcd
  refine spec_of Tryd.func35 rfl Tryd.ntmps35 rfl ?_
  refine CW.seq ?_
  refine CW.reg [0] rfl ?_   -- 0, encode.go:65
  refine s_as 2 rfl rfl ?_
  refine SX.next ?_
  refine CW.seq ?_
  refine CW.reg [0, 1, 2, 3, 4] rfl ?_   -- 1, encode.go:65
  refine s_mv 3 rfl rfl ?_
  refine s_nil 4 rfl rfl ?_
  refine s_fa 5 rfl rfl ?_
  refine s_ld 6 rfl rfl (fun _ hw => (hw.old hcb).cellB (j := 3) rfl) ?_
  refine s_as 2 rfl rfl ?_
  refine SX.next ?_
  refine CW.ret ?_
  exact KN.ret (rs := [.tmp 2]) Tryd.results35 rfl (fun w hw => ⟨rfl, hw.nothing⟩)

theorem cField_spec (cc m t D : Nat) (q : CodeG) (w : World) (hcd : Has (codeA cc m t D q) w) : Spec1 Tryd.prog 39 [.pointer (some ⟨cc, 0, none⟩)] w (.pointer (some ⟨q.f, 0, none⟩)) := by
  obtain ⟨hcb, hgn, hlw, hfd, hst⟩ := code_at hcd
  refine spec_of Tryd.func39 rfl Tryd.ntmps39 rfl ?_
  refine CW.seq ?_
  refine CW.reg [0] rfl ?_   -- 0, encode.go:53
  refine s_as 2 rfl rfl ?_
  refine SX.next ?_
  refine CW.seq ?_
  refine CW.reg [0, 1, 2, 3, 4] rfl ?_   -- 1, encode.go:53
  refine s_mv 3 rfl rfl ?_
  refine s_nil 4 rfl rfl ?_
  refine s_fa 5 rfl rfl ?_
  refine s_ld 6 rfl rfl (fun _ hw => (hw.old hcb).cellB (j := 0) rfl) ?_
  refine s_as 2 rfl rfl ?_
  refine SX.next ?_
  refine CW.ret ?_
  exact KN.ret (rs := [.tmp 2]) Tryd.results39 rfl (fun w hw => ⟨rfl, hw.nothing⟩)

theorem cBits_spec (cc m t D : Nat) (q : CodeG) (w : World) (hMT : MT m t) (hDm : D ≤ 2048) (hcd : Has (codeA cc m t D q) w) : Spec1 Tryd.prog 37 [.pointer (some ⟨cc, 0, none⟩)] w (.int .i64 ((8 * D + dg m t : Nat) : Int)) := by
  obtain ⟨hcb, hgn, hlw, hfd, hst⟩ := code_at hcd
  have hd5 := hMT.d560
  refine spec_of Tryd.func37 rfl Tryd.ntmps37 rfl ?_
  refine CW.seq ?_
  refine CW.reg [0] rfl ?_   -- 0, encode.go:68
  refine s_as 2 rfl rfl ?_
  refine SX.next ?_
  refine CW.seq ?_
  refine CW.regD (.st true 0 (.st true 1 (.st true 2 (.st true 3 (.st true 4 (.st true 5 (.st true 6 (.st true 7 (.st true 8 (.st true 9 (.st true 10 .done))))))))))) (Sto w []) mixed (by kernel_rfl) (fun _ h => h.drew) (fun _ h => h) ?_
  refine s_mv 3 rfl rfl ?_
  refine s_nil 4 rfl rfl ?_
  refine s_fa 5 rfl rfl ?_
  refine s_ldS 6 rfl rfl (fun _ hw => (hw.old hcb).cellB (j := 2) rfl) ?_
  refine s_mul 7 rfl rfl rfl (r := ((8 * D : Nat) : Int)) (by rw [show (8 : Int) * ((D : Nat) : Int) = ((8 * D : Nat) : Int) by omega]; exact w64 (by omega)) ?_
  refine s_mv 8 rfl rfl ?_
  refine s_nil 9 rfl rfl ?_
  refine s_fa 10 rfl rfl ?_
  refine s_ldS 11 rfl rfl (fun _ hw => (hw.old hcb).cellB (j := 3) rfl) ?_
  refine s_add 12 rfl rfl rfl (r := ((8 * D + dg m t : Nat) : Int)) (w64 (by omega)) ?_
  refine s_as 2 rfl rfl ?_
  refine SX.next ?_
  refine CW.ret ?_
  exact KN.ret (rs := [.tmp 2]) Tryd.results37 rfl (fun w hw => ⟨rfl, hw.nothing⟩)

theorem cGen_spec (cc m t D : Nat) (q : CodeG) (w : World) (hMT : MT m t) (hcd : Has (codeA cc m t D q) w) : SpecB Tryd.prog 32 [.pointer (some ⟨cc, 0, none⟩)] w (gnB m t) := by
  obtain ⟨hcb, hgn, hlw, hfd, hst⟩ := code_at hcd
  have hgl := gn_len hMT
  refine spec_of Tryd.func32 rfl Tryd.ntmps32 rfl ?_
  refine CW.seq ?_
  refine CW.reg [0] rfl ?_   -- 0, encode.go:71
  refine s_as 2 rfl rfl ?_
  refine SX.next ?_
  refine CW.seq ?_
  refine CW.reg [0, 1, 2, 3, 4, 5] rfl ?_   -- 1, encode.go:71
  refine s_mv 3 rfl rfl ?_
  refine s_nil 4 rfl rfl ?_
  refine s_fa 5 rfl rfl ?_
  refine s_ld 6 rfl rfl (fun _ hw => (hw.old hcb).cellB (j := 5) rfl) ?_
  refine s_app0 7 (m2 := (gnB m t).length) rfl rfl rfl (ys := nats .u8 (gnB m t)) (fun w hw => (hw.old hgn).of_own) (nats_one _ _) rfl (by omega) (by unfold maxLen; omega) (by omega) (fun _ _ _ _ => trivial) (fun A5 c5 hc5 => ?_)
  refine s_as 2 rfl rfl ?_
  refine SX.next ?_
  refine CW.ret ?_
  exact KN.ret (rs := [.tmp 2]) Tryd.results32 rfl (fun w hw => ⟨(A5, c5), rfl, hc5, hw⟩)

theorem div_ser (cc m t D : Nat) (q : CodeG) (A : Option Addr) (n c : Nat) (p : List Nat) (w : World) (hMT : MT m t) (hq : q.Fine m t) (hcd : Has (codeA cc m t D q) w) (ha : Has (sl 1 A n (nats .u8 p)) w) (hp : ∀ x ∈ p, x < 256) (hn : n ≤ 1073741824) (hcp : n ≤ c) (hnD : n = D) : SpecX Tryd.prog 114 [.pointer (some ⟨cc, 0, none⟩), .slice A n c, .func (.func 124) #[.pointer (some ⟨cc, 0, none⟩)] #[]] w (X := Option Addr × Nat) (fun z => two (.slice z.1 (encB m t p).length z.2) .nilIface) (fun z => (encB m t p).length ≤ z.2) (fun z => [own 5 1 z.1 (encB m t p).length z.2 (nats .u8 (encB m t p))]) := by
  have hla := nats_len ha
  subst hla
  subst hnD
  obtain ⟨hcb, hgn, hlw, hfd, hst⟩ := code_at hcd
  have hp1 := hMT.p1
  have hp7 := hMT.p70
  refine spec_of Tryd.func114 rfl Tryd.ntmps114 rfl ?_
  refine CW.seq ?_
  refine CW.reg [0, 1] rfl ?_   -- 0, encode.go:124
  refine s_as 6 rfl rfl ?_
  refine s_as 7 rfl rfl ?_
  refine SX.next ?_
  refine CW.seq ?_
  refine CW.seq ?_
  refine CW.reg [0, 1, 2, 3, 4, 5, 6] rfl ?_   -- 1, encode.go:125
  refine s_mv 10 rfl rfl ?_
  refine s_len 11 rfl rfl ?_
  refine s_mv 12 rfl rfl ?_
  refine s_nil 13 rfl rfl ?_
  refine s_fa 14 rfl rfl ?_
  refine s_ld 15 rfl rfl (fun _ hw => (hw.old hcb).cellB (j := 2) rfl) ?_
  refine s_ne 16 rfl rfl rfl (decide_eq_false (fun h => h rfl)) ?_
  refine SX.next ?_
  refine CW.condF rfl ?_
  refine CW.skip ?_
  refine KN.code ?_
  refine CW.seq ?_
  refine CW.reg [0, 1, 2, 3, 4, 5] rfl ?_   -- 3, encode.go:128
  refine s_mv 18 rfl rfl ?_
  refine s_nil 19 rfl rfl ?_
  refine s_fa 20 rfl rfl ?_
  refine s_ld 21 rfl rfl (fun _ hw => (hw.old hcb).cellB (j := 4) rfl) ?_
  refine s_make 22 (prB m t) rfl rfl rfl rfl rfl (by omega) (fun _ _ => trivial) (fun r => ?_)
  refine s_as 8 rfl rfl ?_
  refine SX.next ?_
  refine CW.seq ?_
  refine CW.seq ?_
  refine CW.reg [0, 1, 2, 3] rfl ?_   -- 4, encode.go:129
  refine s_mv 23 rfl rfl ?_
  refine s_len 24 rfl rfl ?_
  refine s_sub 25 rfl rfl rfl (r := ((p.length : Nat) : Int) - 1) (w64 (by omega)) ?_
  refine s_as 9 rfl rfl ?_
  refine SX.next ?_
  refine CW.block ?_
  refine CW.loop (G := Nat) (fun k => [(0, .pointer (some ⟨cc, 0, none⟩)), (1, .slice A p.length c), (2, .func (.func 124) #[.pointer (some ⟨cc, 0, none⟩)] #[]), (8, .slice (some ⟨r, 0, none⟩) (prB m t) (prB m t)), (9, .int .i64 (((k : Nat) : Int) - 1))]) (fun k => Sto w [blk r 5 (rgB m t (bl (p.drop k)))]) (fun k => k ≤ p.length) (fun k => k) p.length ⟨rfl, rfl, rfl, rfl, rfl, trivial⟩ (fun _ hw => by rw [List.drop_length, bl_nil, ← hMT.zero]; exact hw) (Nat.le_refl _) ?_
  intro k hk
  refine CW.seq ?_
  refine CW.seq ?_
  refine CW.reg [0, 1] rfl ?_   -- 5, encode.go:129
  refine s_mv 26 rfl rfl ?_
  refine s_ge 27 rfl rfl rfl rfl ?_
  refine SX.next ?_
  refine CW.test rfl (fun hc => ?_) (fun hc => ?_)
  · skip
    obtain ⟨j, rfl⟩ : ∃ j, k = j + 1 := ⟨k - 1, by omega⟩
    refine CW.skip ?_
    refine KN.code ?_
    refine CW.seq ?_
    refine CW.block ?_
    refine CW.reg [0, 1, 2, 3, 4, 5, 6] rfl ?_   -- 7, encode.go:130
    refine s_mv 30 rfl rfl ?_
    refine s_mv 31 rfl rfl ?_
    refine s_mv 32 rfl rfl ?_
    refine s_mv 33 rfl rfl ?_
    refine s_iaV 34 j (fun w hw => hw.old ha) rfl rfl rfl (by omega) (by omega) ?_
    refine s_ldV 35 (fun w hw => hw.old ha) rfl rfl (by rw [Nat.mul_one]; exact natsAt8 (by omega)) (by omega) ?_
    refine s_callW 36 0 rfl rfl rfl rfl rfl (fun w2 hw2 => by
      obtain ⟨cs, A2, c2, hl, ht⟩ := low_of hq (hw2.away (i := 0) rfl hcd)
      exact bitwise_ok cc r m t cs A2 c2 (prB m t) (bl (p.drop (j + 1))) (cf p j) w2 hMT hl (bl_b1 _) (cf_lt8 hp j) (hw2.heapOf (i := 0) rfl)) (fun _ _ => trivial) ?_
    refine SX.end_ ?_
    refine KN.blk ?_
    refine KN.code ?_
    refine CW.reg [0, 1, 2] rfl ?_   -- 6, encode.go:129
    refine s_mv 28 rfl rfl ?_
    refine s_sub 29 rfl rfl rfl (r := ((j : Nat) : Int) - 1) (by rw [show ((j + 1 : Nat) : Int) - 1 - 1 = ((j : Nat) : Int) - 1 by omega]; exact w64 (by omega)) ?_
    refine s_as 9 rfl rfl ?_
    refine SX.end_ ?_
    exact KN.back j ⟨rfl, rfl, rfl, rfl, rfl, trivial⟩ (fun _ hw => by rw [drop_bl (by omega)]; exact hw) (by omega) (by omega)
  · skip
    obtain rfl : k = 0 := by omega
    refine CW.exit rfl ?_
    refine KN.code ?_
    refine CW.seq ?_
    refine CW.reg [0, 1, 2] rfl ?_   -- 8, encode.go:132
    refine s_mv 37 rfl rfl ?_
    refine s_as 6 rfl rfl ?_
    refine s_as 7 rfl rfl ?_
    refine SX.next ?_
    refine CW.ret ?_
    exact KN.ret (rs := [.tmp 6, .tmp 7]) Tryd.results114 rfl (fun w hw => ⟨(some ⟨r, 0, none⟩, prB m t), by rw [encB_len]; rfl, by rw [encB_len]; exact Nat.le_refl _, by
  rw [List.drop_zero, rgB_enc] at hw
  rw [encB_len]
  exact hw.blkOwn (q := 0) (c := prB m t) (sz := 1) rfl (by simp [encB_len]) (by unfold maxLen; omega)⟩)

theorem div_ser_long (cc m t D : Nat) (q : CodeG) (A : Option Addr) (n c : Nat) (_p : List Nat) (e : Nat → Addr) (w : World) (hcd : Has (codeA cc m t D q) w) (heL : Er e w 0) (hnD : n ≠ D) : Spec1 Tryd.prog 114 [.pointer (some ⟨cc, 0, none⟩), .slice A n c, .func (.func 124) #[.pointer (some ⟨cc, 0, none⟩)] #[]] w (errRes e 0) := by
  obtain ⟨hcb, hgn, hlw, hfd, hst⟩ := code_at hcd
  refine spec_of Tryd.func114 rfl Tryd.ntmps114 rfl ?_
  refine CW.seq ?_
  refine CW.reg [0, 1] rfl ?_   -- 0, encode.go:124
  refine s_as 6 rfl rfl ?_
  refine s_as 7 rfl rfl ?_
  refine SX.next ?_
  refine CW.seq ?_
  refine CW.seq ?_
  refine CW.reg [0, 1, 2, 3, 4, 5, 6] rfl ?_   -- 1, encode.go:125
  refine s_mv 10 rfl rfl ?_
  refine s_len 11 rfl rfl ?_
  refine s_mv 12 rfl rfl ?_
  refine s_nil 13 rfl rfl ?_
  refine s_fa 14 rfl rfl ?_
  refine s_ld 15 rfl rfl (fun _ hw => (hw.old hcb).cellB (j := 2) rfl) ?_
  refine s_ne 16 rfl rfl rfl (decide_eq_true (by omega)) ?_
  refine SX.next ?_
  refine CW.condT rfl ?_
  refine CW.seq ?_
  refine CW.regD (.st true 0 (.st true 1 (.st true 2 .done))) (Sto w []) mixed (by kernel_rfl) (fun _ h => h.drew) (fun _ h => h) ?_
  refine s_ldS 17 rfl rfl (fun _ h => h.cell heL) ?_
  refine s_as 6 rfl rfl ?_
  refine s_as 7 rfl rfl ?_
  refine SX.next ?_
  refine CW.ret ?_
  exact KN.ret (rs := [.tmp 6, .tmp 7]) Tryd.results114 rfl (fun w hw => ⟨rfl, hw.nothing⟩)

theorem cSerial_ok (cc m t D : Nat) (q : CodeG) (A : Option Addr) (n c : Nat) (p : List Nat) (w : World) (hMT : MT m t) (hq : q.Fine m t) (hcd : Has (codeA cc m t D q) w) (ha : Has (sl 1 A n (nats .u8 p)) w) (hp : ∀ x ∈ p, x < 256) (hn : n ≤ 1073741824) (hcp : n ≤ c) (hnD : n = D) : SpecX Tryd.prog 41 [.pointer (some ⟨cc, 0, none⟩), .slice A n c] w (X := Option Addr × Nat) (fun z => two (.slice z.1 (encB m t p).length z.2) .nilIface) (fun z => (encB m t p).length ≤ z.2) (fun z => [own 5 1 z.1 (encB m t p).length z.2 (nats .u8 (encB m t p))]) := by
  refine spec_of Tryd.func41 rfl Tryd.ntmps41 rfl ?_
  refine CW.seq ?_
  refine CW.reg [0, 1] rfl ?_   -- 0, encode.go:136
  refine s_as 4 rfl rfl ?_
  refine s_as 5 rfl rfl ?_
  refine SX.next ?_
  refine CW.seq ?_
  refine CW.reg [0, 1, 2, 3, 4, 5, 6, 7, 8] rfl ?_   -- 1, encode.go:136
  refine s_mv 6 rfl rfl ?_
  refine s_mv 7 rfl rfl ?_
  refine s_mv 8 rfl rfl ?_
  refine s_mkf 9 rfl rfl rfl ?_
  refine s_call 10 rfl rfl rfl rfl (fun w hw => div_ser cc m t D q A n c p w hMT hq (hw.old hcd) (hw.old ha) hp hn hcp hnD) (fun _ _ => trivial) (fun z hz => ?_)
  refine s_ext 11 rfl rfl rfl ?_
  refine s_ext 12 rfl rfl rfl ?_
  refine s_as 4 rfl rfl ?_
  refine s_as 5 rfl rfl ?_
  refine SX.next ?_
  refine CW.ret ?_
  exact KN.ret (rs := [.tmp 4, .tmp 5]) Tryd.results41 rfl (fun w hw => ⟨z, rfl, hz, hw⟩)

theorem cSerial_long (cc m t D : Nat) (q : CodeG) (A : Option Addr) (n c : Nat) (_p : List Nat) (e : Nat → Addr) (w : World) (hcd : Has (codeA cc m t D q) w) (heL : Er e w 0) (hnD : n ≠ D) : Spec1 Tryd.prog 41 [.pointer (some ⟨cc, 0, none⟩), .slice A n c] w (errRes e 0) := by
  refine spec_of Tryd.func41 rfl Tryd.ntmps41 rfl ?_
  refine CW.seq ?_
  refine CW.reg [0, 1] rfl ?_   -- 0, encode.go:136
  refine s_as 4 rfl rfl ?_
  refine s_as 5 rfl rfl ?_
  refine SX.next ?_
  refine CW.seq ?_
  refine CW.reg [0, 1, 2, 3, 4, 5, 6, 7, 8] rfl ?_   -- 1, encode.go:136
  refine s_mv 6 rfl rfl ?_
  refine s_mv 7 rfl rfl ?_
  refine s_mv 8 rfl rfl ?_
  refine s_mkf 9 rfl rfl rfl ?_
  refine s_call1 10 rfl rfl rfl rfl (fun w hw => div_ser_long cc m t D q A n c _p e w (hw.old hcd) (hw.er heL) hnD) (fun _ _ => trivial) ?_
  refine s_ext 11 rfl rfl rfl ?_
  refine s_ext 12 rfl rfl rfl ?_
  refine s_as 4 rfl rfl ?_
  refine s_as 5 rfl rfl ?_
  refine SX.next ?_
  refine CW.ret ?_
  exact KN.ret (rs := [.tmp 4, .tmp 5]) Tryd.results41 rfl (fun w hw => ⟨rfl, hw.nothing⟩)

theorem div_fast (cc m t D : Nat) (q : CodeG) (A : Option Addr) (n c : Nat) (p : List Nat) (w : World) (hMT : MT m t) (hq : q.Fine m t) (hcd : Has (codeA cc m t D q) w) (ha : Has (sl 1 A n (nats .u8 p)) w) (hp : ∀ x ∈ p, x < 256) (hn : n ≤ 1073741824) (hcp : n ≤ c) (hnD : n = D) : SpecX Tryd.prog 114 [.pointer (some ⟨cc, 0, none⟩), .slice A n c, .func (.func 115) #[.pointer (some ⟨cc, 0, none⟩)] #[]] w (X := Option Addr × Nat) (fun z => two (.slice z.1 (encB m t p).length z.2) .nilIface) (fun z => (encB m t p).length ≤ z.2) (fun z => [own 5 1 z.1 (encB m t p).length z.2 (nats .u8 (encB m t p))]) := by
  have hla := nats_len ha
  subst hla
  subst hnD
  obtain ⟨hcb, hgn, hlw, hfd, hst⟩ := code_at hcd
  have hp1 := hMT.p1
  have hp7 := hMT.p70
  refine spec_of Tryd.func114 rfl Tryd.ntmps114 rfl ?_
  refine CW.seq ?_
  refine CW.reg [0, 1] rfl ?_   -- 0, encode.go:124
  refine s_as 6 rfl rfl ?_
  refine s_as 7 rfl rfl ?_
  refine SX.next ?_
  refine CW.seq ?_
  refine CW.seq ?_
  refine CW.reg [0, 1, 2, 3, 4, 5, 6] rfl ?_   -- 1, encode.go:125
  refine s_mv 10 rfl rfl ?_
  refine s_len 11 rfl rfl ?_
  refine s_mv 12 rfl rfl ?_
  refine s_nil 13 rfl rfl ?_
  refine s_fa 14 rfl rfl ?_
  refine s_ld 15 rfl rfl (fun _ hw => (hw.old hcb).cellB (j := 2) rfl) ?_
  refine s_ne 16 rfl rfl rfl (decide_eq_false (fun h => h rfl)) ?_
  refine SX.next ?_
  refine CW.condF rfl ?_
  refine CW.skip ?_
  refine KN.code ?_
  refine CW.seq ?_
  refine CW.reg [0, 1, 2, 3, 4, 5] rfl ?_   -- 3, encode.go:128
  refine s_mv 18 rfl rfl ?_
  refine s_nil 19 rfl rfl ?_
  refine s_fa 20 rfl rfl ?_
  refine s_ld 21 rfl rfl (fun _ hw => (hw.old hcb).cellB (j := 4) rfl) ?_
  refine s_make 22 (prB m t) rfl rfl rfl rfl rfl (by omega) (fun _ _ => trivial) (fun r => ?_)
  refine s_as 8 rfl rfl ?_
  refine SX.next ?_
  refine CW.seq ?_
  refine CW.seq ?_
  refine CW.reg [0, 1, 2, 3] rfl ?_   -- 4, encode.go:129
  refine s_mv 23 rfl rfl ?_
  refine s_len 24 rfl rfl ?_
  refine s_sub 25 rfl rfl rfl (r := ((p.length : Nat) : Int) - 1) (w64 (by omega)) ?_
  refine s_as 9 rfl rfl ?_
  refine SX.next ?_
  refine CW.block ?_
  refine CW.loop (G := Nat) (fun k => [(0, .pointer (some ⟨cc, 0, none⟩)), (1, .slice A p.length c), (2, .func (.func 115) #[.pointer (some ⟨cc, 0, none⟩)] #[]), (8, .slice (some ⟨r, 0, none⟩) (prB m t) (prB m t)), (9, .int .i64 (((k : Nat) : Int) - 1))]) (fun k => Sto w [blk r 5 (rgB m t (bl (p.drop k)))]) (fun k => k ≤ p.length) (fun k => k) p.length ⟨rfl, rfl, rfl, rfl, rfl, trivial⟩ (fun _ hw => by rw [List.drop_length, bl_nil, ← hMT.zero]; exact hw) (Nat.le_refl _) ?_
  intro k hk
  refine CW.seq ?_
  refine CW.seq ?_
  refine CW.reg [0, 1] rfl ?_   -- 5, encode.go:129
  refine s_mv 26 rfl rfl ?_
  refine s_ge 27 rfl rfl rfl rfl ?_
  refine SX.next ?_
  refine CW.test rfl (fun hc => ?_) (fun hc => ?_)
  · skip
    obtain ⟨j, rfl⟩ : ∃ j, k = j + 1 := ⟨k - 1, by omega⟩
    refine CW.skip ?_
    refine KN.code ?_
    refine CW.seq ?_
    refine CW.block ?_
    refine CW.reg [0, 1, 2, 3, 4, 5, 6] rfl ?_   -- 7, encode.go:130
    refine s_mv 30 rfl rfl ?_
    refine s_mv 31 rfl rfl ?_
    refine s_mv 32 rfl rfl ?_
    refine s_mv 33 rfl rfl ?_
    refine s_iaV 34 j (fun w hw => hw.old ha) rfl rfl rfl (by omega) (by omega) ?_
    refine s_ldV 35 (fun w hw => hw.old ha) rfl rfl (by rw [Nat.mul_one]; exact natsAt8 (by omega)) (by omega) ?_
    refine s_callW 36 0 rfl rfl rfl rfl rfl (fun w2 hw2 => by
      obtain ⟨cs, A2, c2, hl, ht⟩ := low_of hq (hw2.away (i := 0) rfl hcd)
      exact bytewise_ok cc r m t cs A2 c2 (prB m t) (bl (p.drop (j + 1))) (cf p j) w2 hMT hl ht (Nat.le_refl _) (bl_b1 _) (cf_lt8 hp j) (hw2.heapOf (i := 0) rfl)) (fun _ _ => trivial) ?_
    refine SX.end_ ?_
    refine KN.blk ?_
    refine KN.code ?_
    refine CW.reg [0, 1, 2] rfl ?_   -- 6, encode.go:129
    refine s_mv 28 rfl rfl ?_
    refine s_sub 29 rfl rfl rfl (r := ((j : Nat) : Int) - 1) (by rw [show ((j + 1 : Nat) : Int) - 1 - 1 = ((j : Nat) : Int) - 1 by omega]; exact w64 (by omega)) ?_
    refine s_as 9 rfl rfl ?_
    refine SX.end_ ?_
    exact KN.back j ⟨rfl, rfl, rfl, rfl, rfl, trivial⟩ (fun _ hw => by rw [drop_bl (by omega)]; exact hw) (by omega) (by omega)
  · skip
    obtain rfl : k = 0 := by omega
    refine CW.exit rfl ?_
    refine KN.code ?_
    refine CW.seq ?_
    refine CW.reg [0, 1, 2] rfl ?_   -- 8, encode.go:132
    refine s_mv 37 rfl rfl ?_
    refine s_as 6 rfl rfl ?_
    refine s_as 7 rfl rfl ?_
    refine SX.next ?_
    refine CW.ret ?_
    exact KN.ret (rs := [.tmp 6, .tmp 7]) Tryd.results114 rfl (fun w hw => ⟨(some ⟨r, 0, none⟩, prB m t), by rw [encB_len]; rfl, by rw [encB_len]; exact Nat.le_refl _, by
  rw [List.drop_zero, rgB_enc] at hw
  rw [encB_len]
  exact hw.blkOwn (q := 0) (c := prB m t) (sz := 1) rfl (by simp [encB_len]) (by unfold maxLen; omega)⟩)

theorem div_fast_long (cc m t D : Nat) (q : CodeG) (A : Option Addr) (n c : Nat) (_p : List Nat) (e : Nat → Addr) (w : World) (hcd : Has (codeA cc m t D q) w) (heL : Er e w 0) (hnD : n ≠ D) : Spec1 Tryd.prog 114 [.pointer (some ⟨cc, 0, none⟩), .slice A n c, .func (.func 115) #[.pointer (some ⟨cc, 0, none⟩)] #[]] w (errRes e 0) := by
  obtain ⟨hcb, hgn, hlw, hfd, hst⟩ := code_at hcd
  refine spec_of Tryd.func114 rfl Tryd.ntmps114 rfl ?_
  refine CW.seq ?_
  refine CW.reg [0, 1] rfl ?_   -- 0, encode.go:124
  refine s_as 6 rfl rfl ?_
  refine s_as 7 rfl rfl ?_
  refine SX.next ?_
  refine CW.seq ?_
  refine CW.seq ?_
  refine CW.reg [0, 1, 2, 3, 4, 5, 6] rfl ?_   -- 1, encode.go:125
  refine s_mv 10 rfl rfl ?_
  refine s_len 11 rfl rfl ?_
  refine s_mv 12 rfl rfl ?_
  refine s_nil 13 rfl rfl ?_
  refine s_fa 14 rfl rfl ?_
  refine s_ld 15 rfl rfl (fun _ hw => (hw.old hcb).cellB (j := 2) rfl) ?_
  refine s_ne 16 rfl rfl rfl (decide_eq_true (by omega)) ?_
  refine SX.next ?_
  refine CW.condT rfl ?_
  refine CW.seq ?_
  refine CW.regD (.st true 0 (.st true 1 (.st true 2 .done))) (Sto w []) mixed (by kernel_rfl) (fun _ h => h.drew) (fun _ h => h) ?_
  refine s_ldS 17 rfl rfl (fun _ h => h.cell heL) ?_
  refine s_as 6 rfl rfl ?_
  refine s_as 7 rfl rfl ?_
  refine SX.next ?_
  refine CW.ret ?_
  exact KN.ret (rs := [.tmp 6, .tmp 7]) Tryd.results114 rfl (fun w hw => ⟨rfl, hw.nothing⟩)

theorem cFast_ok (cc m t D : Nat) (q : CodeG) (A : Option Addr) (n c : Nat) (p : List Nat) (w : World) (hMT : MT m t) (hq : q.Fine m t) (hcd : Has (codeA cc m t D q) w) (ha : Has (sl 1 A n (nats .u8 p)) w) (hp : ∀ x ∈ p, x < 256) (hn : n ≤ 1073741824) (hcp : n ≤ c) (hnD : n = D) : SpecX Tryd.prog 25 [.pointer (some ⟨cc, 0, none⟩), .slice A n c] w (X := Option Addr × Nat) (fun z => two (.slice z.1 (encB m t p).length z.2) .nilIface) (fun z => (encB m t p).length ≤ z.2) (fun z => [own 5 1 z.1 (encB m t p).length z.2 (nats .u8 (encB m t p))]) := by
  refine spec_of Tryd.func25 rfl Tryd.ntmps25 rfl ?_
  refine CW.seq ?_
  refine CW.reg [0, 1] rfl ?_   -- 0, encode.go:139
  refine s_as 4 rfl rfl ?_
  refine s_as 5 rfl rfl ?_
  refine SX.next ?_
  refine CW.seq ?_
  refine CW.reg [0, 1, 2, 3, 4, 5, 6, 7, 8] rfl ?_   -- 1, encode.go:139
  refine s_mv 6 rfl rfl ?_
  refine s_mv 7 rfl rfl ?_
  refine s_mv 8 rfl rfl ?_
  refine s_mkf 9 rfl rfl rfl ?_
  refine s_call 10 rfl rfl rfl rfl (fun w hw => div_fast cc m t D q A n c p w hMT hq (hw.old hcd) (hw.old ha) hp hn hcp hnD) (fun _ _ => trivial) (fun z hz => ?_)
  refine s_ext 11 rfl rfl rfl ?_
  refine s_ext 12 rfl rfl rfl ?_
  refine s_as 4 rfl rfl ?_
  refine s_as 5 rfl rfl ?_
  refine SX.next ?_
  refine CW.ret ?_
  exact KN.ret (rs := [.tmp 4, .tmp 5]) Tryd.results25 rfl (fun w hw => ⟨z, rfl, hz, hw⟩)

theorem cFast_long (cc m t D : Nat) (q : CodeG) (A : Option Addr) (n c : Nat) (_p : List Nat) (e : Nat → Addr) (w : World) (hcd : Has (codeA cc m t D q) w) (heL : Er e w 0) (hnD : n ≠ D) : Spec1 Tryd.prog 25 [.pointer (some ⟨cc, 0, none⟩), .slice A n c] w (errRes e 0) := by
  refine spec_of Tryd.func25 rfl Tryd.ntmps25 rfl ?_
  refine CW.seq ?_
  refine CW.reg [0, 1] rfl ?_   -- 0, encode.go:139
  refine s_as 4 rfl rfl ?_
  refine s_as 5 rfl rfl ?_
  refine SX.next ?_
  refine CW.seq ?_
  refine CW.reg [0, 1, 2, 3, 4, 5, 6, 7, 8] rfl ?_   -- 1, encode.go:139
  refine s_mv 6 rfl rfl ?_
  refine s_mv 7 rfl rfl ?_
  refine s_mv 8 rfl rfl ?_
  refine s_mkf 9 rfl rfl rfl ?_
  refine s_call1 10 rfl rfl rfl rfl (fun w hw => div_fast_long cc m t D q A n c _p e w (hw.old hcd) (hw.er heL) hnD) (fun _ _ => trivial) ?_
  refine s_ext 11 rfl rfl rfl ?_
  refine s_ext 12 rfl rfl rfl ?_
  refine s_as 4 rfl rfl ?_
  refine s_as 5 rfl rfl ?_
  refine SX.next ?_
  refine CW.ret ?_
  exact KN.ret (rs := [.tmp 4, .tmp 5]) Tryd.results25 rfl (fun w hw => ⟨rfl, hw.nothing⟩)

theorem cRight_ok (cc m t D : Nat) (q : CodeG) (A : Option Addr) (n c : Nat) (p : List Nat) (A2 : Option Addr) (n2 c2 : Nat) (p2 : List Nat) (w : World) (hMT : MT m t) (hq : q.Fine m t) (hcd : Has (codeA cc m t D q) w) (ha : Has (sl 1 A n (nats .u8 p)) w) (hp : ∀ x ∈ p, x < 256) (hn : n ≤ 1073741824) (hcp : n ≤ c) (hnD : n = D) (ha2 : Has (sl 1 A2 n2 (nats .u8 p2)) w) (hp2 : ∀ x ∈ p2, x < 256) : Spec1 Tryd.prog 42 [.pointer (some ⟨cc, 0, none⟩), .slice A n c, .slice A2 n2 c2] w (.bool (decide (encB m t p = p2))) := by
  refine spec_of Tryd.func42 rfl Tryd.ntmps42 rfl ?_
  refine CW.seq ?_
  refine CW.reg [0] rfl ?_   -- 0, encode.go:142
  refine s_as 6 rfl rfl ?_
  refine SX.next ?_
  refine CW.seq ?_
  refine CW.reg [0, 1, 2, 3, 4, 5, 6, 7] rfl ?_   -- 1, encode.go:143
  refine s_mv 10 rfl rfl ?_
  refine s_mv 11 rfl rfl ?_
  refine s_call 12 rfl rfl rfl rfl (fun w hw => cFast_ok cc m t D q A n c p w hMT hq (hw.old hcd) (hw.old ha) hp hn hcp hnD) (fun _ _ => trivial) (fun z hz => ?_)
  refine s_mv 9 rfl rfl ?_
  refine s_ext 13 rfl rfl rfl ?_
  refine s_ext 14 rfl rfl rfl ?_
  refine s_as 7 rfl rfl ?_
  refine s_as 8 rfl rfl ?_
  refine SX.next ?_
  refine CW.seq ?_
  refine CW.reg [0, 1, 2, 3, 4, 5, 6, 7, 8, 9] rfl ?_   -- 2, encode.go:144
  refine s_mv 15 rfl rfl ?_
  refine s_eqNN 16 rfl rfl ?_
  refine s_mv 17 rfl rfl ?_
  refine s_mv 18 rfl rfl ?_
  refine s_b2s 19 (b := encB m t p) rfl (by kernel_rfl) (by kernel_rfl) rfl (fun w hw => (hw.has (i := 0) rfl).of_own) ?_
  refine s_mv 20 rfl rfl ?_
  refine s_b2s 21 (b := p2) rfl (by kernel_rfl) (by kernel_rfl) rfl (fun w hw => hw.old ha2) ?_
  refine s_eqS 22 rfl rfl rfl (strB_beq (enc_lt hMT p) hp2) ?_
  refine s_pickT 23 rfl rfl rfl ?_
  refine s_as 6 rfl rfl ?_
  refine SX.next ?_
  refine CW.ret ?_
  exact KN.ret (rs := [.tmp 6]) Tryd.results42 rfl (fun w hw => ⟨rfl, hw.nothing⟩)

theorem cRight_long (cc m t D : Nat) (q : CodeG) (A : Option Addr) (n c : Nat) (p : List Nat) (A2 : Option Addr) (n2 c2 : Nat) (_p2 : List Nat) (e : Nat → Addr) (w : World) (hcd : Has (codeA cc m t D q) w) (heL : Er e w 0) (hnD : n ≠ D) : Spec1 Tryd.prog 42 [.pointer (some ⟨cc, 0, none⟩), .slice A n c, .slice A2 n2 c2] w (.bool false) := by
  refine spec_of Tryd.func42 rfl Tryd.ntmps42 rfl ?_
  refine CW.seq ?_
  refine CW.reg [0] rfl ?_   -- 0, encode.go:142
  refine s_as 6 rfl rfl ?_
  refine SX.next ?_
  refine CW.seq ?_
  refine CW.reg [0, 1, 2, 3, 4, 5, 6, 7] rfl ?_   -- 1, encode.go:143
  refine s_mv 10 rfl rfl ?_
  refine s_mv 11 rfl rfl ?_
  refine s_call1 12 rfl rfl rfl rfl (fun w hw => cFast_long cc m t D q A n c p e w (hw.old hcd) (hw.er heL) hnD) (fun _ _ => trivial) ?_
  refine s_mv 9 rfl rfl ?_
  refine s_ext 13 rfl rfl rfl ?_
  refine s_ext 14 rfl rfl rfl ?_
  refine s_as 7 rfl rfl ?_
  refine s_as 8 rfl rfl ?_
  refine SX.next ?_
  refine CW.seq ?_
  refine CW.reg [0, 1, 2, 3, 4, 5, 6, 7, 8, 9] rfl ?_   -- 2, encode.go:144
  refine s_mv 15 rfl rfl ?_
  refine s_eqHN 16 rfl rfl ?_
  refine s_mv 17 rfl rfl ?_
  refine SX.skip rfl ?_
  refine SX.skip rfl ?_
  refine SX.skip rfl ?_
  refine SX.skip rfl ?_
  refine SX.skip rfl ?_
  refine s_pickF 23 rfl rfl rfl ?_
  refine s_as 6 rfl rfl ?_
  refine SX.next ?_
  refine CW.ret ?_
  exact KN.ret (rs := [.tmp 6]) Tryd.results42 rfl (fun w hw => ⟨rfl, hw.nothing⟩)

theorem cFlip_long (cc m t D : Nat) (q : CodeG) (A : Option Addr) (n c : Nat) (_p : List Nat) (A2 : Option Addr) (n2 c2 : Nat) (_p2 : List Nat) (a : Int) (e : Nat → Addr) (w : World) (hcd : Has (codeA cc m t D q) w) (heL : Er e w 0) (hnD : n ≠ D ∨ n2 ≠ prB m t) : Spec1 Tryd.prog 51 [.pointer (some ⟨cc, 0, none⟩), .slice A n c, .slice A2 n2 c2, .int .i64 a] w (tri (.slice none 0 0) (.slice none 0 0) (errV e 0)) := by
  obtain ⟨hcb, hgn, hlw, hfd, hst⟩ := code_at hcd
  refine spec_of Tryd.func51 rfl Tryd.ntmps51 rfl ?_
  refine CW.seq ?_
  refine CW.reg [0, 1, 2] rfl ?_   -- 0, encode.go:148
  refine s_as 8 rfl rfl ?_
  refine s_as 9 rfl rfl ?_
  refine s_as 10 rfl rfl ?_
  refine SX.next ?_
  refine CW.seq ?_
  refine CW.block ?_
  refine CW.seq ?_
  refine CW.reg [0, 1, 2, 3, 4, 5, 6, 7, 8, 9, 10, 11, 12, 13, 14, 15, 16] rfl ?_   -- 1, encode.go:150
  refine s_mv 14 rfl rfl ?_
  refine s_len 15 rfl rfl ?_
  refine s_mv 16 rfl rfl ?_
  refine s_nil 17 rfl rfl ?_
  refine s_fa 18 rfl rfl ?_
  refine s_ld 19 rfl rfl (fun _ hw => (hw.old hcb).cellB (j := 2) rfl) ?_
  refine s_ne 20 rfl rfl rfl rfl ?_
  refine s_mv 21 rfl rfl ?_
  refine SX.bool 21 rfl (fun hb => ?_) (fun hb => ?_)
  · skip
    skip
    refine SX.skip rfl ?_
    refine SX.skip rfl ?_
    refine SX.skip rfl ?_
    refine SX.skip rfl ?_
    refine SX.skip rfl ?_
    refine SX.skip rfl ?_
    refine SX.skip rfl ?_
    refine s_pickT 29 rfl rfl rfl ?_
    refine s_as 13 rfl rfl ?_
    refine SX.next ?_
    refine CW.condT rfl ?_
    refine CW.seq ?_
    refine CW.regD (.st true 0 (.st true 1 (.st true 2 (.st true 3 .done)))) (Sto w []) mixed (by kernel_rfl) (fun _ h => h.drew) (fun _ h => h) ?_
    refine s_ldS 30 rfl rfl (fun _ h => h.cell heL) ?_
    refine s_as 8 rfl rfl ?_
    refine s_as 9 rfl rfl ?_
    refine s_as 10 rfl rfl ?_
    refine SX.next ?_
    refine CW.ret ?_
    exact KN.ret (rs := [.tmp 8, .tmp 9, .tmp 10]) Tryd.results51 rfl (fun w hw => ⟨rfl, hw.nothing⟩)
  · skip
    have hx := of_decide_eq_false hb
    refine s_mv 22 rfl rfl ?_
    refine s_len 23 rfl rfl ?_
    refine s_mv 24 rfl rfl ?_
    refine s_nil 25 rfl rfl ?_
    refine s_fa 26 rfl rfl ?_
    refine s_ld 27 rfl rfl (fun _ hw => (hw.old hcb).cellB (j := 4) rfl) ?_
    refine s_ne 28 rfl rfl rfl (decide_eq_true (by omega)) ?_
    refine s_pickF 29 rfl rfl rfl ?_
    refine s_as 13 rfl rfl ?_
    refine SX.next ?_
    refine CW.condT rfl ?_
    refine CW.seq ?_
    refine CW.regD (.st true 0 (.st true 1 (.st true 2 (.st true 3 .done)))) (Sto w []) mixed (by kernel_rfl) (fun _ h => h.drew) (fun _ h => h) ?_
    refine s_ldS 30 rfl rfl (fun _ h => h.cell heL) ?_
    refine s_as 8 rfl rfl ?_
    refine s_as 9 rfl rfl ?_
    refine s_as 10 rfl rfl ?_
    refine SX.next ?_
    refine CW.ret ?_
    exact KN.ret (rs := [.tmp 8, .tmp 9, .tmp 10]) Tryd.results51 rfl (fun w hw => ⟨rfl, hw.nothing⟩)

theorem cFlip_num (cc m t D : Nat) (q : CodeG) (A : Option Addr) (n c : Nat) (_p : List Nat) (A2 : Option Addr) (n2 c2 : Nat) (_p2 : List Nat) (a : Int) (e : Nat → Addr) (w : World) (hMT : MT m t) (hDm : D ≤ 2048) (hcd : Has (codeA cc m t D q) w) (heN : Er e w 1) (hnD : n = D) (hn2D : n2 = prB m t) (hat : a < 0 ∨ ((8 * D + dg m t : Nat) : Int) ≤ a) : Spec1 Tryd.prog 51 [.pointer (some ⟨cc, 0, none⟩), .slice A n c, .slice A2 n2 c2, .int .i64 a] w (tri (.slice none 0 0) (.slice none 0 0) (errV e 1)) := by
  obtain ⟨hcb, hgn, hlw, hfd, hst⟩ := code_at hcd
  refine spec_of Tryd.func51 rfl Tryd.ntmps51 rfl ?_
  refine CW.seq ?_
  refine CW.reg [0, 1, 2] rfl ?_   -- 0, encode.go:148
  refine s_as 8 rfl rfl ?_
  refine s_as 9 rfl rfl ?_
  refine s_as 10 rfl rfl ?_
  refine SX.next ?_
  refine CW.seq ?_
  refine CW.block ?_
  refine CW.seq ?_
  refine CW.reg [0, 1, 2, 3, 4, 5, 6, 7, 8, 9, 10, 11, 12, 13, 14, 15, 16] rfl ?_   -- 1, encode.go:150
  refine s_mv 14 rfl rfl ?_
  refine s_len 15 rfl rfl ?_
  refine s_mv 16 rfl rfl ?_
  refine s_nil 17 rfl rfl ?_
  refine s_fa 18 rfl rfl ?_
  refine s_ld 19 rfl rfl (fun _ hw => (hw.old hcb).cellB (j := 2) rfl) ?_
  refine s_ne 20 rfl rfl rfl (decide_eq_false (by omega)) ?_
  refine s_mv 21 rfl rfl ?_
  refine s_mv 22 rfl rfl ?_
  refine s_len 23 rfl rfl ?_
  refine s_mv 24 rfl rfl ?_
  refine s_nil 25 rfl rfl ?_
  refine s_fa 26 rfl rfl ?_
  refine s_ld 27 rfl rfl (fun _ hw => (hw.old hcb).cellB (j := 4) rfl) ?_
  refine s_ne 28 rfl rfl rfl (decide_eq_false (by omega)) ?_
  refine s_pickF 29 rfl rfl rfl ?_
  refine s_as 13 rfl rfl ?_
  refine SX.next ?_
  refine CW.condF rfl ?_
  refine CW.seq ?_
  refine CW.reg [0, 1, 2, 3, 4, 5, 6, 7, 8] rfl ?_   -- 3, encode.go:152
  refine s_mv 32 rfl rfl ?_
  refine s_lt 33 rfl rfl rfl rfl ?_
  refine s_mv 34 rfl rfl ?_
  refine SX.bool 34 rfl (fun hb => ?_) (fun hb => ?_)
  · skip
    skip
    refine SX.skip rfl ?_
    refine SX.skip rfl ?_
    refine SX.skip rfl ?_
    refine SX.skip rfl ?_
    refine s_pickT 39 rfl rfl rfl ?_
    refine s_as 31 rfl rfl ?_
    refine SX.next ?_
    refine CW.condT rfl ?_
    refine CW.seq ?_
    refine CW.regD (.st true 0 (.st true 1 (.st true 2 (.st true 3 .done)))) (Sto w []) mixed (by kernel_rfl) (fun _ h => h.drew) (fun _ h => h) ?_
    refine s_ldS 40 rfl rfl (fun _ h => h.cell heN) ?_
    refine s_as 8 rfl rfl ?_
    refine s_as 9 rfl rfl ?_
    refine s_as 10 rfl rfl ?_
    refine SX.next ?_
    refine CW.ret ?_
    exact KN.ret (rs := [.tmp 8, .tmp 9, .tmp 10]) Tryd.results51 rfl (fun w hw => ⟨rfl, hw.nothing⟩)
  · skip
    have hx := of_decide_eq_false hb
    refine s_mv 35 rfl rfl ?_
    refine s_mv 36 rfl rfl ?_
    refine s_call1 37 rfl rfl rfl rfl (fun w hw => cBits_spec cc m t D q w hMT hDm (hw.old hcd)) (fun _ _ => trivial) ?_
    refine s_ge 38 rfl rfl rfl (decide_eq_true (by omega)) ?_
    refine s_pickF 39 rfl rfl rfl ?_
    refine s_as 31 rfl rfl ?_
    refine SX.next ?_
    refine CW.condT rfl ?_
    refine CW.seq ?_
    refine CW.regD (.st true 0 (.st true 1 (.st true 2 (.st true 3 .done)))) (Sto w []) mixed (by kernel_rfl) (fun _ h => h.drew) (fun _ h => h) ?_
    refine s_ldS 40 rfl rfl (fun _ h => h.cell heN) ?_
    refine s_as 8 rfl rfl ?_
    refine s_as 9 rfl rfl ?_
    refine s_as 10 rfl rfl ?_
    refine SX.next ?_
    refine CW.ret ?_
    exact KN.ret (rs := [.tmp 8, .tmp 9, .tmp 10]) Tryd.results51 rfl (fun w hw => ⟨rfl, hw.nothing⟩)

theorem cFlip_ok (cc m t D : Nat) (q : CodeG) (A : Option Addr) (n c : Nat) (p : List Nat) (A2 : Option Addr) (n2 c2 : Nat) (p2 : List Nat) (k : Nat) (w : World) (hMT : MT m t) (hDm : D ≤ 2048) (hcd : Has (codeA cc m t D q) w) (ha : Has (sl 1 A n (nats .u8 p)) w) (hp : ∀ x ∈ p, x < 256) (hn : n ≤ 1073741824) (hcp : n ≤ c) (ha2 : Has (sl 1 A2 n2 (nats .u8 p2)) w) (hp2 : ∀ x ∈ p2, x < 256) (hn2 : n2 ≤ 1073741824) (hcp2 : n2 ≤ c2) (hnD : n = D) (hn2D : n2 = prB m t) (hk : k < 8 * D + dg m t) : SpecX Tryd.prog 51 [.pointer (some ⟨cc, 0, none⟩), .slice A n c, .slice A2 n2 c2, .int .i64 (k : Nat)] w (X := (Option Addr × Nat) × (Option Addr × Nat)) (fun z => tri (.slice z.1.1 (fpD m t k p).length z.1.2) (.slice z.2.1 (fpP m t k p2).length z.2.2) .nilIface) (fun z => (fpD m t k p).length ≤ z.1.2 ∧ (fpP m t k p2).length ≤ z.2.2) (fun z => [own 5 1 z.1.1 (fpD m t k p).length z.1.2 (nats .u8 (fpD m t k p)), own 5 1 z.2.1 (fpP m t k p2).length z.2.2 (nats .u8 (fpP m t k p2))]) := by
  have hla := nats_len ha
  subst hla
  have hla2 := nats_len ha2
  subst hla2
  obtain ⟨hcb, hgn, hlw, hfd, hst⟩ := code_at hcd
  have hpd := prB_dg m t
  have hd5 := hMT.d560
  refine spec_of Tryd.func51 rfl Tryd.ntmps51 rfl ?_
  refine CW.seq ?_
  refine CW.reg [0, 1, 2] rfl ?_   -- 0, encode.go:148
  refine s_as 8 rfl rfl ?_
  refine s_as 9 rfl rfl ?_
  refine s_as 10 rfl rfl ?_
  refine SX.next ?_
  refine CW.seq ?_
  refine CW.block ?_
  refine CW.seq ?_
  refine CW.reg [0, 1, 2, 3, 4, 5, 6, 7, 8, 9, 10, 11, 12, 13, 14, 15, 16] rfl ?_   -- 1, encode.go:150
  refine s_mv 14 rfl rfl ?_
  refine s_len 15 rfl rfl ?_
  refine s_mv 16 rfl rfl ?_
  refine s_nil 17 rfl rfl ?_
  refine s_fa 18 rfl rfl ?_
  refine s_ld 19 rfl rfl (fun _ hw => (hw.old hcb).cellB (j := 2) rfl) ?_
  refine s_ne 20 rfl rfl rfl (decide_eq_false (by omega)) ?_
  refine s_mv 21 rfl rfl ?_
  refine s_mv 22 rfl rfl ?_
  refine s_len 23 rfl rfl ?_
  refine s_mv 24 rfl rfl ?_
  refine s_nil 25 rfl rfl ?_
  refine s_fa 26 rfl rfl ?_
  refine s_ld 27 rfl rfl (fun _ hw => (hw.old hcb).cellB (j := 4) rfl) ?_
  refine s_ne 28 rfl rfl rfl (decide_eq_false (by omega)) ?_
  refine s_pickF 29 rfl rfl rfl ?_
  refine s_as 13 rfl rfl ?_
  refine SX.next ?_
  refine CW.condF rfl ?_
  refine CW.seq ?_
  refine CW.reg [0, 1, 2, 3, 4, 5, 6, 7, 8] rfl ?_   -- 3, encode.go:152
  refine s_mv 32 rfl rfl ?_
  refine s_lt 33 rfl rfl rfl (decide_eq_false (by omega)) ?_
  refine s_mv 34 rfl rfl ?_
  refine s_mv 35 rfl rfl ?_
  refine s_mv 36 rfl rfl ?_
  refine s_call1 37 rfl rfl rfl rfl (fun w hw => cBits_spec cc m t D q w hMT hDm (hw.old hcd)) (fun _ _ => trivial) ?_
  refine s_ge 38 rfl rfl rfl (decide_eq_false (by omega)) ?_
  refine s_pickF 39 rfl rfl rfl ?_
  refine s_as 31 rfl rfl ?_
  refine SX.next ?_
  refine CW.condF rfl ?_
  refine CW.skip ?_
  refine KN.blk ?_
  refine KN.code ?_
  refine CW.seq ?_
  refine CW.reg [0, 1, 2, 3, 4, 5] rfl ?_   -- 5, encode.go:155
  refine s_mv 41 rfl rfl ?_
  refine s_app0 42 (m2 := p.length) rfl rfl rfl (ys := nats .u8 p) (fun w hw => hw.old ha) (nats_one _ _) rfl (by omega) (by unfold maxLen; omega) (by omega) (fun _ _ _ _ => trivial) (fun A5 c5 hc5 => ?_)
  refine s_mv 43 rfl rfl ?_
  refine s_app0 44 (m2 := p2.length) rfl rfl rfl (ys := nats .u8 p2) (fun w hw => hw.old ha2) (nats_one _ _) rfl (by omega) (by unfold maxLen; omega) (by omega) (fun _ _ _ _ => trivial) (fun A6 c6 hc6 => ?_)
  refine s_as 11 rfl rfl ?_
  refine s_as 12 rfl rfl ?_
  refine SX.next ?_
  refine CW.seq ?_
  refine CW.seq ?_
  refine CW.reg [0, 1, 2, 3, 4, 5] rfl ?_   -- 6, encode.go:156
  refine s_mv 45 rfl rfl ?_
  refine s_mv 46 rfl rfl ?_
  refine s_nil 47 rfl rfl ?_
  refine s_fa 48 rfl rfl ?_
  refine s_ld 49 rfl rfl (fun _ hw => (hw.old hcb).cellB (j := 3) rfl) ?_
  refine s_lt 50 rfl rfl rfl rfl ?_
  refine SX.next ?_
  refine CW.test rfl (fun hc => ?_) (fun hc => ?_)
  · skip
    have hkd : k < dg m t := by omega
    have hfD : fpD m t k p = p := if_pos hkd
    have hfP : fpP m t k p2 = flB p2 k := if_pos hkd
    refine CW.regD (.st true 0 (.st true 1 (.st true 2 (.st true 3 (.st true 5 (.st true 6 (.st true 7 (.st false 4 (.st true 8 (.st true 9 (.st false 10 .done))))))))))) (Sto w []) mixed (by kernel_rfl) (fun _ h => h.drew) (fun _ hw => hw.dropR) ?_
    refine s_mv 51 rfl rfl ?_
    refine s_mv 52 rfl rfl ?_
    refine s_quo 53 rfl rfl rfl (by omega) (quo8 k (by omega)) ?_
    refine s_iaO 54 0 (k / 8) rfl rfl rfl rfl rfl (by omega) ?_
    refine s_mv 56 rfl rfl ?_
    refine s_rem 57 rfl rfl rfl (by omega) (tmod8 k) ?_
    refine s_shl 58 rfl rfl rfl (by omega) (r := ((2 ^ (k % 8) : Nat) : Int)) (by rw [show (1 : Int) = ((1 : Nat) : Int) from rfl, shl_u8 (by omega), Nat.one_mul, Nat.mod_eq_of_lt (pow8_lt _)]) ?_
    refine s_ldO 55 0 rfl rfl rfl (natsAt8 (by omega)) ?_
    refine s_bit 59 rfl rfl rfl rfl (ibit_xor_u8 (cf_lt8 hp2 _) (pow8_lt _)) ?_
    refine s_iaO 60 0 (k / 8) rfl rfl rfl rfl rfl (by omega) ?_
    refine s_stO 0 rfl rfl rfl rfl rfl (by omega) (fun _ hw => hw.dropR) ?_
    refine SX.next ?_
    refine CW.seq ?_
    refine CW.reg [0, 1, 2, 3, 4] rfl ?_   -- 10, encode.go:162
    refine s_mv 77 rfl rfl ?_
    refine s_mv 78 rfl rfl ?_
    refine s_as 8 rfl rfl ?_
    refine s_as 9 rfl rfl ?_
    refine s_as 10 rfl rfl ?_
    refine SX.next ?_
    refine CW.ret ?_
    exact KN.ret (rs := [.tmp 8, .tmp 9, .tmp 10]) Tryd.results51 rfl (fun w hw => ⟨((A5, c5), (A6, c6)), by rw [hfD, hfP, flB_len]; rfl, by rw [hfD, hfP, flB_len]; exact ⟨hc5, hc6⟩, by
  rw [hfD, hfP, flB_len]
  rw [nats_set] at hw
  exact hw.pick [1, 0] rfl⟩)
  · skip
    have hkd : ¬ k < dg m t := by omega
    have hfD : fpD m t k p = flB p (k - dg m t) := if_neg hkd
    have hfP : fpP m t k p2 = p2 := if_neg hkd
    refine CW.seq ?_
    refine CW.reg [0, 1, 2, 3, 4, 5, 6] rfl ?_   -- 8, encode.go:159
    refine s_mv 61 rfl rfl ?_
    refine s_mv 62 rfl rfl ?_
    refine s_nil 63 rfl rfl ?_
    refine s_fa 64 rfl rfl ?_
    refine s_ld 65 rfl rfl (fun _ hw => (hw.old hcb).cellB (j := 3) rfl) ?_
    refine s_sub 66 rfl rfl rfl (r := ((k - dg m t : Nat) : Int)) (by rw [show ((k : Nat) : Int) - ((dg m t : Nat) : Int) = ((k - dg m t : Nat) : Int) by omega]; exact w64 (by omega)) ?_
    refine s_as 3 rfl rfl ?_
    refine SX.next ?_
    refine CW.regD (.st true 0 (.st true 1 (.st true 2 (.st true 3 (.st true 5 (.st true 6 (.st true 7 (.st false 4 (.st true 8 (.st true 9 (.st false 10 .done))))))))))) (Sto w []) mixed (by kernel_rfl) (fun _ h => h.drew) (fun _ hw => hw.dropR) ?_
    refine s_mv 67 rfl rfl ?_
    refine s_mv 68 rfl rfl ?_
    refine s_quo 69 rfl rfl rfl (by omega) (quo8 (k - dg m t) (by omega)) ?_
    refine s_iaO 70 1 ((k - dg m t) / 8) rfl rfl rfl rfl rfl (by omega) ?_
    refine s_mv 72 rfl rfl ?_
    refine s_rem 73 rfl rfl rfl (by omega) (tmod8 (k - dg m t)) ?_
    refine s_shl 74 rfl rfl rfl (by omega) (r := ((2 ^ ((k - dg m t) % 8) : Nat) : Int)) (by rw [show (1 : Int) = ((1 : Nat) : Int) from rfl, shl_u8 (by omega), Nat.one_mul, Nat.mod_eq_of_lt (pow8_lt _)]) ?_
    refine s_ldO 71 1 rfl rfl rfl (natsAt8 (by omega)) ?_
    refine s_bit 75 rfl rfl rfl rfl (ibit_xor_u8 (cf_lt8 hp _) (pow8_lt _)) ?_
    refine s_iaO 76 1 ((k - dg m t) / 8) rfl rfl rfl rfl rfl (by omega) ?_
    refine s_stO 1 rfl rfl rfl rfl rfl (by omega) (fun _ hw => hw.dropR) ?_
    refine SX.next ?_
    refine CW.seq ?_
    refine CW.reg [0, 1, 2, 3, 4] rfl ?_   -- 10, encode.go:162
    refine s_mv 77 rfl rfl ?_
    refine s_mv 78 rfl rfl ?_
    refine s_as 8 rfl rfl ?_
    refine s_as 9 rfl rfl ?_
    refine s_as 10 rfl rfl ?_
    refine SX.next ?_
    refine CW.ret ?_
    exact KN.ret (rs := [.tmp 8, .tmp 9, .tmp 10]) Tryd.results51 rfl (fun w hw => ⟨((A5, c5), (A6, c6)), by rw [hfD, hfP, flB_len]; rfl, by rw [hfD, hfP, flB_len]; exact ⟨hc5, hc6⟩, by
  rw [hfD, hfP, flB_len]
  simp only [List.set_cons_zero, List.set_cons_succ, nats_set] at hw
  exact hw.pick [1, 0] rfl⟩)
end Go.Proofs.YtompcfingkoldaaDoor
end
section
/- append of another type's slice; slices cut at their end, of the walk's own. No condition. -/
namespace Go.Sx
open Go
theorem append_types {P : Program} {w : World} {T T2 E E2 ty : TypeId} {inf : TypeInfo} {u v : Value} (h1 : P.underlying T = some (.slice E)) (h2 : P.underlying T2 = some (.slice E2)) (hi : P.info? E = some inf) : (Builtin.append_ #[T, T2] ty #[u, v]).run P w = (Builtin.append_ #[T, T] ty #[u, v]).run P w := by
  cases u <;> simp [Builtin.append_, run_underlying h1, run_underlying h2, sizeOf, run_tinfo hi]
section
variable {P : Program} {ops : Array Oper} {S : World → Prop} {K : Act → World → Prop} {p : Plan} {n : Nat} {l : List (Nat × Value)} {C : World → Prop} {fl : Bool} {i : Nat} {ty ty' ty2 ty3 : TypeId} {x y z u : Operand}
variable {F : Nat → Prop} {w₀ : World} {L L' : List Atom}
theorem s_app2 (d q : Nat) {E sz by_ : Nat} {zv : Value} {A B : Option Addr} {m c m2 c2 : Nat} {xs ys : List Value} {T T2 E2 sz2 by2 : TypeId} {zv2 : Value} (hi : L[q]? = some (own E sz A m c xs))
    (ho : opAt ops n l i = some (some d, .call ⟨.builtin .append, #[x, y], #[T, T2]⟩, ty)) [hT : SlT P T E sz by_ zv] [hT2 : SlT P T2 E2 sz2 by2 zv2] (hx : ev l x = some (.slice A m c)) (hy : ev l y = some (.slice B m2 c2))
    (hv : ∀ w, St F w₀ L w → Has (sl sz B m2 ys) w) (h1 : ys.all (·.oneCell') = true) (hz : zv.cells.size = sz) (h0 : 0 < sz) (h63 : m + m2 ≤ maxLen) (hb : (m + m2) * by_ ≤ 140737488355328)
    (hS : ∀ A' c' w, St F w₀ (L.set q (own E sz A' (m + m2) c' (xs ++ ys))) w → S w)
    (h : ∀ A' c', m + m2 ≤ c' → SX P ops S K p n ((d, .slice A' (m + m2) c') :: l) (St F w₀ (L.set q (own E sz A' (m + m2) c' (xs ++ ys))))) : SX P ops S K (.st false i p) n l (St F w₀ L) := by
  obtain ⟨inf, hi1, hs, hby, hzz⟩ := hT.info
  refine SX.act (d := some d) (X := { q : Option Addr × Nat // m + m2 ≤ q.2 }) (v := fun r => .slice r.1.1 (m + m2) r.1.2) (C' := fun r => St F w₀ (L.set q (own E sz r.1.1 (m + m2) r.1.2 (xs ++ ys)))) ho (fun a w o he hw ho1 ho2 => ?_) (fun r w hw => hS _ _ w hw) (fun r => h _ _ r.2)
  obtain ⟨D, ⟨hown, hD⟩, hlt, hmk⟩ := hw.work hi
  have hsl := hv w hw
  have hex : ∀ (v : Value) (w' : World), (Builtin.append_ #[T, T] ty #[.slice A m c, .slice B m2 c2]).run P w = .ok v w' → (execOp a.eval o).run P w = .ok (.value v) w' := fun v w' hr => by
    simp only [execOp, ho1, ho2, resolve, Sem.run_bind, Sem.run_pure, Result.andThen_ok, invoke, builtin, List.map_toArray, List.map_cons, List.map_nil, he.ev hx, he.ev hy, append_types hT.under hT2.under hi1, hr]
  have hmc : m ≤ c := by
    rcases hown.2 with ⟨h, h2⟩ | ⟨g, cap, cur, h, _, _, h2, _⟩
    · injection h; omega
    · injection h; omega
  by_cases hn : B = none
  · subst hn
    have hm2 : m2 = 0 := by
      by_cases h : m2 = 0
      · exact h
      · have := hsl.sl_some h; cases this
    subst hm2
    have hys : ys = [] := List.eq_nil_of_length_eq_zero (by rw [hsl.sl_len]; omega)
    subst hys
    exact ⟨⟨(A, c), by omega⟩, w, .inl (hex _ _ (run_append_none hmc)), by
      have := hmk w (own E sz A (m + 0) c (xs ++ [])) D ⟨rfl, rfl, rfl, Nat.le_refl _, fun _ _ => rfl⟩ ⟨by simpa using hown, hD⟩ (fun k hk => ⟨.inl hk, hlt k hk⟩)
      exact this⟩
  · obtain ⟨b, rfl⟩ : ∃ b, B = some b := by cases B with | none => exact absurd rfl hn | some b => exact ⟨b, rfl⟩
    have hcells : ∀ j u, ys[j]? = some u → w.cell? (b.add j) = some u := fun j u hj => by
      have hne : m2 ≠ 0 := fun h => by
        have := hsl.sl_len
        rw [h, Nat.zero_mul] at this
        rw [List.eq_nil_of_length_eq_zero this] at hj
        simp at hj
      have h2 := hsl.sl_cell hne hj
      have h3 := h2.1
      rw [Option.some.injEq] at h3
      rw [h3, add_at]
      exact h2.2
    obtain ⟨v', w', hr, k1, k2, k3, k4⟩ := run_append_own_at (P := P) w 0 T ty E inf zv sz by_ hT.under hi1 hzz hs hby hz h0 (.slice A m c) m xs hown b m2 c2 ys hsl.sl_len hcells (List.all_eq_true.1 h1) h63 hb (Nat.zero_le _)
    obtain ⟨A', c', rfl, hle⟩ : ∃ A' c', v' = .slice A' (m + m2) c' ∧ m + m2 ≤ c' := by
      rcases k1.2 with ⟨rfl, h⟩ | ⟨g, cap, cur, rfl, _, _, h, _⟩
      · exact ⟨none, 0, by rw [h], by omega⟩
      · exact ⟨_, _, rfl, h⟩
    refine ⟨⟨(A', c'), hle⟩, w', .inl (hex _ _ hr), hmk w' (own E sz A' (m + m2) c' (xs ++ ys)) (fun k => A' ≠ none ∧ k = ob A') ⟨k2.os, k2.tape, k2.output, k2.size, fun k hk => k2.block k hk.1 (fun h => ?_)⟩ ⟨k1, fun k => Iff.rfl⟩ (fun k hk => ?_)⟩
    · refine hk.2 ((hD k).2 ?_)
      rw [ownBlock_of] at h
      cases A with
      | none => cases h
      | some a => exact ⟨by simp, by simpa [ob] using h⟩
    · obtain ⟨a', rfl⟩ : ∃ a', A' = some a' := by cases A' with | none => exact absurd rfl hk.1 | some b => exact ⟨b, rfl⟩
      have hk2 : k = a'.block := hk.2
      subst hk2
      refine ⟨?_, ?_⟩
      · rcases k4 with h | h
        · rw [ownBlock_of, ownBlock_of] at h
          cases A with
          | none => cases h
          | some a => exact .inl ((hD _).2 ⟨by simp, by simpa [ob] using h⟩)
        · rw [ownBlock_of] at h
          simp at h
          exact .inr (by omega)
      · rcases k1.2 with ⟨h, _⟩ | ⟨g, cap, cur, h, _, h2, _⟩
        · injection h with h; cases h
        · injection h with h
          simp only [Option.some.injEq] at h
          subst h
          obtain ⟨h3, _⟩ := Array.getElem?_eq_some_iff.1 h2
          exact h3
end
section
variable {F : Nat → Prop} {w₀ w : World} {L : List Atom}
theorem St.ownCutP {q E sz m m' c : Nat} {A : Option Addr} {xs : List Value} (hi : L[q]? = some (own E sz A m c xs)) (hm : m' ≤ m) (h : St F w₀ L w) : St F w₀ (L.set q (own E sz A m' c (xs.take (m' * sz)))) w :=
  h.swap hi (fun w D ⟨⟨h1, h2⟩, h3⟩ _ => by
    have hle : m' * sz ≤ m * sz := Nat.mul_le_mul_right _ hm
    refine ⟨D, ⟨⟨by rw [List.length_take, h1]; exact Nat.min_eq_left hle, ?_⟩, h3⟩, fun _ h => h⟩
    rcases h2 with ⟨k1, k2⟩ | ⟨g, cap, cur, hv, hg, hh, hc, hmx, hsz, hxs⟩
    · injection k1 with e1 e2 e3
      refine .inl ⟨?_, by omega⟩
      rw [e1, e3]
      congr 1
      omega
    · injection hv with e1 e2 e3
      refine .inr ⟨g, cap, cur, by rw [e1, e3], hg, hh, Nat.le_trans hm hc, hmx, hsz, ?_⟩
      rw [← hxs, List.take_take, Nat.min_eq_left hle])
end
end Go.Sx
end
section
/- New, walked: the code with its table, and what stands against it. Conditions: the errors' variables. -/
namespace Go.Proofs.YtompcfingkoldaaDoor
open Go Go.Sx Go.Fm Nb
set_option maxRecDepth 100000
theorem ibit_clr_u8 {x y : Nat} (hx : x < 256) (hy : y < 256) : ibit .andNot .u8 x y = ((x &&& (2 ^ 8 - (y + 1)) : Nat) : Int) := by
  show IntKind.u8.wrap ((BitVec.ofInt 8 (x : Int) &&& ~~~ BitVec.ofInt 8 (y : Int)).toNat : Nat) = _
  rw [BitVec.toNat_and, BitVec.toNat_not, toNat_ofInt8 hx, toNat_ofInt8 hy]
  have e : 2 ^ 8 - 1 - y = 2 ^ 8 - (y + 1) := by omega
  rw [e]
  exact w8 (Nat.lt_of_le_of_lt Nat.and_le_left hx)
theorem clr_test {x k s : Nat} (hs : s < 8) : (x &&& (2 ^ 8 - (2 ^ (k % 8) + 1))).testBit s = (x.testBit s && !decide (k % 8 = s)) := by
  rw [Nat.testBit_and, Nat.testBit_two_pow_sub_succ (Nat.pow_lt_pow_right (by omega) (Nat.mod_lt _ (by omega))), decide_eq_true hs, Bool.true_and, Nat.testBit_two_pow]
theorem gn_more {m t : Nat} (h : MT m t) : (gnB m t).length = dg m t / 8 + 1 := by
  have h1 := bys_len (genL m (ldr m t).1)
  have h2 := h.g2
  have hb := h.gb
  have h3 : bitN (gnB m t) (dg m t) = 1 := by
    unfold gnB
    rw [bitN_bys hb.le]
    exact hb.top (by omega)
  have h4 : ¬ 8 * (gnB m t).length ≤ dg m t := fun hl => by rw [bitN_out hl] at h3; cases h3
  unfold gnB dg at *
  omega
/-- The generator's bytes without the highest bit. -/
def lwL (m t : Nat) : List Nat := (gnB m t).set (dg m t / 8) (cf (gnB m t) (dg m t / 8) &&& (2 ^ 8 - (2 ^ (dg m t % 8) + 1)))
theorem gn_lt {m t : Nat} (h : MT m t) : ∀ x ∈ gnB m t, x < 256 := bys_lt h.gb
theorem lwL_len (m t : Nat) : (lwL m t).length = (gnB m t).length := by simp [lwL]
theorem lwL_lt {m t : Nat} (h : MT m t) : ∀ x ∈ lwL m t, x < 256 := set_lt (gn_lt h) (Nat.lt_of_le_of_lt Nat.and_le_left (cf_lt8 (gn_lt h) _))
theorem low_list {m t : Nat} (h : MT m t) : (lwL m t).take (prB m t) = lwB m t := by
  have hgl := gn_more h
  have hb := h.gb
  have h2 := h.g2
  have hpd : prB m t = (dg m t + 7) / 8 := rfl
  have hdg : (genL m (ldr m t).1).length - 1 = dg m t := rfl
  have hl : ((lwL m t).take (prB m t)).length = prB m t := by rw [List.length_take, lwL_len]; omega
  have key := pb_of (L := (lwL m t).take (prB m t)) (lowG_b1 hb h2) (fun x hx => lwL_lt h x (List.mem_of_mem_take hx)) (fun i s hi hs => by
    rw [hl] at hi
    have e : cf ((lwL m t).take (prB m t)) i = cf (lwL m t) i := by
      unfold cf
      rw [List.getD_eq_getElem?_getD, List.getD_eq_getElem?_getD, List.getElem?_take, if_pos hi]
    have eg : ((cf (gnB m t) i).testBit s).toNat = cf (genL m (ldr m t).1) (8 * i + s) := by
      rw [← bitN_test _ _ _ hs]
      exact bitN_bys hb.le _
    rw [e, cf_lowG hb h2, hdg]
    unfold lwL
    rw [cf_set (by omega)]
    by_cases hid : i = dg m t / 8
    · rw [if_pos hid, clr_test hs, ← hid]
      by_cases hsd : dg m t % 8 = s
      · rw [decide_eq_true hsd, if_neg (by omega)]
        simp
      · rw [decide_eq_false hsd, Bool.not_false, Bool.and_true, eg]
        split
        · rfl
        · exact cf_out (by omega)
    · rw [if_neg hid, eg, if_pos (by omega)])
  rw [hl] at key
  exact key
theorem code_set {m t D i r : Nat} (q : CodeG) (h : q.gs.length = i) (v : Value) (hv : v = .slice (some ⟨r, 0, none⟩) (prB m t) (prB m t)) : (codeL m t D q).toArray.setIfInBounds (0 + 7 + i * 1) v = (codeL m t D ⟨q.f, q.A1, q.c1, q.A2, q.c2, q.gs ++ [r], q.X⟩).toArray := by
  subst hv
  subst h
  rw [List.setIfInBounds_toArray, show 0 + 7 + q.gs.length * 1 = q.gs.length + 7 by omega]
  unfold codeL
  simp only [List.set_cons_succ]
  rw [tabL_set]
theorem cf_bl1 (y : Nat) {k : Nat} (hk : k < 8) : cf (bl [y]) k = (y >>> k) % 2 := by
  rw [cf_bl]
  unfold bitN
  rw [Nat.div_eq_of_lt hk, Nat.mod_eq_of_lt hk]
  rfl

set_option maxHeartbeats 1600000 in

theorem new_ok (m t D : Nat) (e : Nat → Addr) (w : World) (hMT : MT m t) (h1D : 1 ≤ D) (hDm : D ≤ 2048) (hfit : 8 * D + dg m t ≤ N m) : SpecX Tryd.prog 30 [.int .i64 (m : Nat), .int .i64 (t : Nat), .int .i64 (D : Nat)] w (X := Nat × CodeG) (fun z => two (.pointer (some ⟨z.1, 0, none⟩)) .nilIface) (fun z => z.2.Fine m t) (fun z => [codeA z.1 m t D z.2]) := by
  have hm := hMT.ok
  have hNs := N_succ m
  have hmh := hm.hi
  have hml := hm.lo
  have h14 := pow_le14 hm
  have hdeg := hMT.deg
  have hd1 := hMT.d1
  have hd5 := hMT.d560
  have hp1 := hMT.p1
  have hp7 := hMT.p70
  have hgl := gn_more hMT
  have hgl2 := gn_len hMT
  have hmk := cut_mask (dg m t)
  have hglt := gn_lt hMT
  have hd : (ldr m t).2 < N m := by omega
  have hpd : prB m t = (dg m t + 7) / 8 := rfl
  refine spec_of Tryd.func30 rfl Tryd.ntmps30 rfl ?_
  refine CW.seq ?_
  refine CW.reg [0, 1] rfl ?_   -- 0, encode.go:22
  refine s_as 6 rfl rfl ?_
  refine s_as 7 rfl rfl ?_
  refine SX.next ?_
  refine CW.seq ?_
  refine CW.reg [0, 1, 2, 3, 4, 5, 6, 7] rfl ?_   -- 1, encode.go:23
  refine s_mv 15 rfl rfl ?_
  refine s_mv 16 rfl rfl ?_
  refine s_call1 17 rfl rfl rfl rfl (fun w hw => by have := least_ok m t e w hm hMT.t1 hMT.t40 hd; rw [hdeg] at this; exact this) (fun _ _ => trivial) ?_
  refine s_mv 14 rfl rfl ?_
  refine s_ext 18 rfl rfl rfl ?_
  refine s_ext 19 rfl rfl rfl ?_
  refine s_as 8 rfl rfl ?_
  refine s_as 9 rfl rfl ?_
  refine SX.next ?_
  refine CW.seq ?_
  refine CW.block ?_
  refine CW.seq ?_
  refine CW.reg [0, 1, 2] rfl ?_   -- 2, encode.go:25
  refine s_mv 21 rfl rfl ?_
  refine s_neNN 22 rfl rfl ?_
  refine s_as 20 rfl rfl ?_
  refine SX.next ?_
  refine CW.condF rfl ?_
  refine CW.seq ?_
  refine CW.reg [0, 1, 2, 3, 4, 5, 6] rfl ?_   -- 4, encode.go:27
  refine s_mv 25 rfl rfl ?_
  refine s_lt 26 rfl rfl rfl (decide_eq_false (by omega)) ?_
  refine s_mv 27 rfl rfl ?_
  refine s_mv 28 rfl rfl ?_
  refine s_gt 29 rfl rfl rfl (decide_eq_false (by omega)) ?_
  refine s_pickF 30 rfl rfl rfl ?_
  refine s_as 24 rfl rfl ?_
  refine SX.next ?_
  refine CW.condF rfl ?_
  refine CW.seq ?_
  refine CW.reg [0, 1, 2, 3, 4, 5, 6, 7, 8] rfl ?_   -- 6, encode.go:29
  refine s_mv 33 rfl rfl ?_
  refine s_mul 34 rfl rfl rfl (r := ((8 * D : Nat) : Int)) (by rw [show (8 : Int) * ((D : Nat) : Int) = ((8 * D : Nat) : Int) by omega]; exact w64 (by omega)) ?_
  refine s_mv 35 rfl rfl ?_
  refine s_add 36 rfl rfl rfl (r := ((8 * D + dg m t : Nat) : Int)) (w64 (by omega)) ?_
  refine s_mv 37 rfl rfl ?_
  refine s_shl 38 rfl rfl rfl (by omega) (shl_one hm) ?_
  refine s_sub 39 rfl rfl rfl (r := ((N m : Nat) : Int)) (by rw [show ((N m + 1 : Nat) : Int) - 1 = ((N m : Nat) : Int) by omega]; exact w64 (by omega)) ?_
  refine s_gt 40 rfl rfl rfl (decide_eq_false (by omega)) ?_
  refine s_as 32 rfl rfl ?_
  refine SX.next ?_
  refine CW.condF rfl ?_
  refine CW.skip ?_
  refine KN.blk ?_
  refine KN.code ?_
  refine CW.seq ?_
  refine CW.reg [0, 1, 2, 3, 4, 5, 6, 7, 8] rfl ?_   -- 8, encode.go:32
  refine s_mv 42 rfl rfl ?_
  refine s_mv 43 rfl rfl ?_
  refine s_mv 44 rfl rfl ?_
  refine s_mv 45 rfl rfl ?_
  refine s_add 46 rfl rfl rfl (r := ((dg m t + 7 : Nat) : Int)) (w64 (by omega)) ?_
  refine s_quo 47 rfl rfl rfl (by omega) (quo8 (dg m t + 7) (by omega)) ?_
  refine s_build 48 rfl rfl (cells := (.pointer none :: .int .i64 (t : Nat) :: .int .i64 (D : Nat) :: .int .i64 (dg m t : Nat) :: .int .i64 (prB m t : Nat) :: .slice none 0 0 :: .slice none 0 0 :: List.replicate 256 (.slice none 0 0)).toArray) (by kernel_rfl) ?_
  refine s_box 49 rfl rfl (fun _ _ => trivial) (fun c => ?_)
  refine s_as 10 rfl rfl ?_
  refine SX.next ?_
  refine CW.seq ?_
  refine CW.seq ?_
  refine CW.reg [0, 1, 2, 3, 4, 5, 6, 7, 8, 9] rfl ?_   -- 9, encode.go:33
  refine s_mv 51 rfl rfl ?_
  refine s_mv 52 rfl rfl ?_
  refine s_call 53 rfl rfl rfl rfl (fun w hw => new_spec m w hm) (fun _ _ => trivial) (fun f _ => ?_)
  refine s_mv 50 rfl rfl ?_
  refine s_ext 54 rfl rfl rfl ?_
  refine s_ext 55 rfl rfl rfl ?_
  refine s_nil 56 rfl rfl ?_
  refine s_fa 57 rfl rfl ?_
  refine s_stB 1 rfl rfl rfl rfl rfl (by simp [Value.cells]) (fun _ _ => trivial) ?_
  refine s_as 9 rfl rfl ?_
  refine SX.next ?_
  refine CW.seq ?_
  refine CW.pre (C' := Sto w [fieldA f m, blk c CT (.pointer (some ⟨f, 0, none⟩) :: .int .i64 (t : Nat) :: .int .i64 (D : Nat) :: .int .i64 (dg m t : Nat) :: .int .i64 (prB m t : Nat) :: .slice none 0 0 :: .slice none 0 0 :: List.replicate 256 (.slice none 0 0)).toArray]) (fun _ hw => by rw [show (0 : Nat) + 0 = 0 from rfl, show (Value.agg (.pointer none :: .int .i64 (t : Nat) :: .int .i64 (D : Nat) :: .int .i64 (dg m t : Nat) :: .int .i64 (prB m t : Nat) :: .slice none 0 0 :: .slice none 0 0 :: List.replicate 256 (.slice none 0 0)).toArray).cells = (.pointer none :: .int .i64 (t : Nat) :: .int .i64 (D : Nat) :: .int .i64 (dg m t : Nat) :: .int .i64 (prB m t : Nat) :: .slice none 0 0 :: .slice none 0 0 :: List.replicate 256 (.slice none 0 0)).toArray from rfl, List.setIfInBounds_toArray] at hw; exact hw) ?_
  refine CW.reg [0, 1] rfl ?_   -- 10, encode.go:33
  refine s_mv 58 rfl rfl ?_
  refine s_neNN 59 rfl rfl ?_
  refine SX.next ?_
  refine CW.condF rfl ?_
  refine CW.skip ?_
  refine KN.code ?_
  refine CW.seq ?_
  refine CW.seq ?_
  refine CW.reg [0, 1, 2, 3, 4, 5, 6, 7, 8, 9, 10, 11, 12, 13] rfl ?_   -- 12, encode.go:36
  refine s_mv 62 rfl rfl ?_
  refine s_mv 63 rfl rfl ?_
  refine s_nil 64 rfl rfl ?_
  refine s_fa 65 rfl rfl ?_
  refine s_ldB 66 1 rfl rfl rfl (v := .pointer (some ⟨f, 0, none⟩)) rfl ?_
  refine s_mv 67 rfl rfl ?_
  refine s_call 68 rfl rfl rfl rfl (fun w hw => gen_ok f m t e w hm (hw.has (i := 0) rfl) hMT.t1 hMT.t40 hd) (fun _ _ => trivial) (fun g hg => ?_)
  refine s_mv 61 rfl rfl ?_
  refine s_ext 69 rfl rfl rfl ?_
  refine s_ext 70 rfl rfl rfl ?_
  refine s_nil 71 rfl rfl ?_
  refine s_fa 72 rfl rfl ?_
  refine s_stB 2 rfl rfl rfl rfl rfl (by simp) (fun _ _ => trivial) ?_
  refine s_as 9 rfl rfl ?_
  refine SX.next ?_
  refine CW.seq ?_
  refine CW.pre (C' := Sto w [own 5 1 g.1 (gnB m t).length g.2 (nats .u8 (gnB m t)), fieldA f m, blk c CT (.pointer (some ⟨f, 0, none⟩) :: .int .i64 (t : Nat) :: .int .i64 (D : Nat) :: .int .i64 (dg m t : Nat) :: .int .i64 (prB m t : Nat) :: .slice g.1 (gnB m t).length g.2 :: .slice none 0 0 :: List.replicate 256 (.slice none 0 0)).toArray]) (fun _ hw => by rw [List.setIfInBounds_toArray] at hw; exact hw) ?_
  refine CW.reg [0, 1] rfl ?_   -- 13, encode.go:36
  refine s_mv 73 rfl rfl ?_
  refine s_neNN 74 rfl rfl ?_
  refine SX.next ?_
  refine CW.condF rfl ?_
  refine CW.skip ?_
  refine KN.code ?_
  refine CW.seq ?_
  refine CW.regD (.st true 0 (.st true 1 (.st true 2 (.st true 3 (.st true 4 (.st true 5 (.st true 7 (.st true 8 (.st true 9 (.st true 10 (.st false 6 (.st false 11 (.st true 12 (.st true 13 (.st false 14 .done))))))))))))))) (fun w2 => w2.cell? ⟨c, 4, none⟩ = some (.int .i64 (prB m t : Nat)) ∧ w2.cell? ⟨c, 5, none⟩ = some (.slice g.1 (gnB m t).length g.2)) mixed (by kernel_rfl) (fun _ h => h.drew) (fun _ hw => ⟨hw.blkCell (i := 2) rfl rfl, hw.blkCell (i := 2) rfl rfl⟩) ?_
  refine s_mv 76 rfl rfl ?_
  refine s_mv 77 rfl rfl ?_
  refine s_nil 78 rfl rfl ?_
  refine s_fa 79 rfl rfl ?_
  refine s_ldS 80 rfl rfl (fun _ hw => hw.1) ?_
  refine s_add 81 rfl rfl rfl (r := ((prB m t + 1 : Nat) : Int)) (w64 (by omega)) ?_
  refine s_mv 83 rfl rfl ?_
  refine s_nil 84 rfl rfl ?_
  refine s_fa 85 rfl rfl ?_
  refine s_ldS 86 rfl rfl (fun _ hw => hw.2) ?_
  refine s_makeC 82 (prB m t + 1) rfl rfl rfl rfl rfl (by unfold maxLen; omega) (fun _ hw => ⟨hw.blkCell (i := 2) rfl rfl, hw.blkCell (i := 2) rfl rfl⟩) (fun lg => ?_)
  refine s_app2 87 0 rfl rfl rfl rfl (ys := nats .u8 (gnB m t)) (fun w hw => (hw.has (i := 1) rfl).of_own) (nats_one _ _) rfl (by omega) (by unfold maxLen; omega) (by omega) (fun _ _ _ hw => ⟨hw.blkCell (i := 3) rfl rfl, hw.blkCell (i := 3) rfl rfl⟩) (fun A2 c2 hc2 => ?_)
  refine s_nil 88 rfl rfl ?_
  refine s_fa 89 rfl rfl ?_
  refine s_stB 3 rfl rfl rfl rfl rfl (by simp) (fun _ hw => ⟨hw.blkCell (i := 3) rfl rfl, hw.blkCell (i := 3) rfl rfl⟩) ?_
  refine SX.next ?_
  refine CW.seq ?_
  refine CW.pre (C' := Sto w [own 5 1 A2 (gnB m t).length c2 (nats .u8 (gnB m t)), own 5 1 g.1 (gnB m t).length g.2 (nats .u8 (gnB m t)), fieldA f m, blk c CT (.pointer (some ⟨f, 0, none⟩) :: .int .i64 (t : Nat) :: .int .i64 (D : Nat) :: .int .i64 (dg m t : Nat) :: .int .i64 (prB m t : Nat) :: .slice g.1 (gnB m t).length g.2 :: .slice A2 (gnB m t).length c2 :: List.replicate 256 (.slice none 0 0)).toArray]) (fun _ hw => by rw [List.setIfInBounds_toArray] at hw; simp only [Nat.zero_add, List.nil_append] at hw; exact hw) ?_
  refine CW.regD (.st true 0 (.st true 1 (.st true 2 (.st true 3 (.st true 4 (.st true 5 (.st true 6 (.st true 8 (.st true 9 (.st true 10 (.st false 7 (.st true 11 (.st true 12 (.st false 13 .done)))))))))))))) (fun w2 => w2.cell? ⟨c, 6, none⟩ = some (.slice A2 (gnB m t).length c2)) mixed (by kernel_rfl) (fun _ h => h.drew) (fun _ hw => hw.blkCell (i := 3) rfl rfl) ?_
  refine s_mv 90 rfl rfl ?_
  refine s_nil 91 rfl rfl ?_
  refine s_fa 92 rfl rfl ?_
  refine s_ldS 93 rfl rfl (fun _ hw => hw) ?_
  refine s_mv 94 rfl rfl ?_
  refine s_quo 95 rfl rfl rfl (by omega) (quo8 (dg m t) (by omega)) ?_
  refine s_iaO 96 0 (dg m t / 8) rfl rfl rfl rfl rfl (by omega) ?_
  refine s_mv 98 rfl rfl ?_
  refine s_rem 99 rfl rfl rfl (by omega) (tmod8 (dg m t)) ?_
  refine s_shl 100 rfl rfl rfl (by omega) (r := ((2 ^ (dg m t % 8) : Nat) : Int)) (by rw [show (1 : Int) = ((1 : Nat) : Int) from rfl, shl_u8 (by omega), Nat.one_mul, Nat.mod_eq_of_lt hmk.2]) ?_
  refine s_ldO 97 0 rfl rfl rfl (natsAt8 (by omega)) ?_
  refine s_bit 101 rfl rfl rfl rfl (ibit_clr_u8 (cf_lt8 hglt _) hmk.2) ?_
  refine s_iaO 102 0 (dg m t / 8) rfl rfl rfl rfl rfl (by omega) ?_
  refine s_stO 0 rfl rfl rfl rfl rfl (by omega) (fun _ hw => hw.blkCell (i := 3) rfl rfl) ?_
  refine SX.next ?_
  refine CW.seq ?_
  refine CW.pre (C' := Sto w [own 5 1 A2 (gnB m t).length c2 (nats .u8 (lwL m t)), own 5 1 g.1 (gnB m t).length g.2 (nats .u8 (gnB m t)), fieldA f m, blk c CT (.pointer (some ⟨f, 0, none⟩) :: .int .i64 (t : Nat) :: .int .i64 (D : Nat) :: .int .i64 (dg m t : Nat) :: .int .i64 (prB m t : Nat) :: .slice g.1 (gnB m t).length g.2 :: .slice A2 (gnB m t).length c2 :: List.replicate 256 (.slice none 0 0)).toArray]) (fun _ hw => by rw [nats_set] at hw; exact hw) ?_
  refine CW.regD (.st true 0 (.st true 1 (.st true 2 (.st true 3 (.st true 5 (.st true 6 (.st true 7 (.st true 8 (.st false 4 (.st true 9 (.st true 10 (.st true 11 (.st false 12 .done))))))))))))) (fun w2 => w2.cell? ⟨c, 4, none⟩ = some (.int .i64 (prB m t : Nat))) mixed (by kernel_rfl) (fun _ h => h.drew) (fun _ hw => hw.blkCell (i := 3) rfl rfl) ?_
  refine s_mv 103 rfl rfl ?_
  refine s_mv 104 rfl rfl ?_
  refine s_nil 105 rfl rfl ?_
  refine s_fa 106 rfl rfl ?_
  refine s_mv 108 rfl rfl ?_
  refine s_nil 109 rfl rfl ?_
  refine s_fa 110 rfl rfl ?_
  refine s_ldS 111 rfl rfl (fun _ hw => hw) ?_
  refine s_ldB 107 3 rfl rfl rfl (v := .slice A2 (gnB m t).length c2) rfl ?_
  refine s_slH 112 (prB m t) rfl rfl rfl rfl (by omega) ?_
  refine s_nil 113 rfl rfl ?_
  refine s_fa 114 rfl rfl ?_
  refine s_stB 3 rfl rfl rfl rfl rfl (by simp) (fun _ hw => hw.blkCell (i := 3) rfl rfl) ?_
  refine SX.next ?_
  refine CW.seq ?_
  refine CW.seq ?_
  refine CW.pre (C' := Sto w [lowO m t ⟨f, g.1, g.2, A2, c2, [], []⟩, own 5 1 g.1 (gnB m t).length g.2 (nats .u8 (gnB m t)), fieldA f m, blk c CT (.pointer (some ⟨f, 0, none⟩) :: .int .i64 (t : Nat) :: .int .i64 (D : Nat) :: .int .i64 (dg m t : Nat) :: .int .i64 (prB m t : Nat) :: .slice g.1 (gnB m t).length g.2 :: .slice A2 (prB m t) c2 :: List.replicate 256 (.slice none 0 0)).toArray]) (fun _ hw => by
    have h1 := St.ownCutP (q := 0) (m' := prB m t) rfl (by omega) hw
    rw [Nat.mul_one] at h1
    have e : (nats .u8 (lwL m t)).take (prB m t) = nats .u8 (lwB m t) := by
      rw [← low_list hMT]
      simp [nats, List.map_take]
    rw [e] at h1
    exact h1) ?_
  refine CW.reg [0] rfl ?_   -- 18, encode.go:42
  refine s_mv 115 rfl rfl ?_
  refine SX.next ?_
  refine CW.block ?_
  refine CW.loop (G := Nat × List Nat × List Atom) (fun p => [(10, .pointer (some ⟨c, 0, none⟩)), (115, .int .i64 (p.1 : Nat))]) (fun p => Sto w [blk c CT (codeL m t D ⟨f, g.1, g.2, A2, c2, p.2.1, p.2.2⟩).toArray, lowO m t ⟨f, g.1, g.2, A2, c2, p.2.1, p.2.2⟩, genO m t ⟨f, g.1, g.2, A2, c2, p.2.1, p.2.2⟩, fieldA f m, starA p.2.2]) (fun p => p.1 ≤ 256 ∧ p.2.1.length = p.1 ∧ ∀ y g2, p.2.1[y]? = some g2 → rowB m t g2 y ∈ p.2.2) (fun p => 256 - p.1) (0, [], []) ⟨rfl, rfl, trivial⟩ (fun _ hw => by
  have h1 := hw.nilStar'
  unfold codeL
  rw [tabL_nil]
  exact h1.pick [3, 0, 0, 0, 0] rfl) ⟨by omega, rfl, fun y g2 hy => by simp at hy⟩ ?_
  rintro ⟨i, gs, X⟩ ⟨hi, hgs, hX⟩
  simp only at hi hgs hX
  dsimp only
  refine CW.seq ?_
  refine CW.reg [0] rfl ?_   -- 19, encode.go:42
  refine s_lt 116 rfl rfl rfl rfl ?_
  refine SX.next ?_
  refine CW.seq ?_
  refine CW.test rfl (fun hc => ?_) (fun hc => ?_)
  · skip
    refine CW.skip ?_
    refine KN.code ?_
    refine CW.seq ?_
    refine CW.block ?_
    refine CW.seq ?_
    refine CW.reg [0, 1] rfl ?_   -- 20, encode.go:42
    refine s_mv 117 rfl rfl ?_
    refine s_as 11 rfl rfl ?_
    refine SX.next ?_
    refine CW.seq ?_
    refine CW.reg [0, 1, 2, 3, 4, 5] rfl ?_   -- 21, encode.go:43
    refine s_mv 118 rfl rfl ?_
    refine s_nil 119 rfl rfl ?_
    refine s_fa 120 rfl rfl ?_
    refine s_ldB 121 0 rfl rfl rfl (v := .int .i64 (prB m t : Nat)) rfl ?_
    refine s_make 122 (prB m t) rfl rfl rfl rfl rfl (by omega) (fun _ _ => trivial) (fun r => ?_)
    refine s_as 12 rfl rfl ?_
    refine SX.next ?_
    refine CW.seq ?_
    refine CW.seq ?_
    refine CW.reg [0] rfl ?_   -- 22, encode.go:44
    refine s_as 13 rfl rfl ?_
    refine SX.next ?_
    refine CW.block ?_
    refine CW.loop (G := Nat) (fun k => [(10, .pointer (some ⟨c, 0, none⟩)), (11, .int .i64 (i : Nat)), (12, .slice (some ⟨r, 0, none⟩) (prB m t) (prB m t)), (13, .int .i64 (((k : Nat) : Int) - 1)), (115, .int .i64 (i : Nat))]) (fun k => Sto w [blk r 5 (rgB m t (dnP k (bl [i]))), blk c CT (codeL m t D ⟨f, g.1, g.2, A2, c2, gs, X⟩).toArray, lowO m t ⟨f, g.1, g.2, A2, c2, gs, X⟩, genO m t ⟨f, g.1, g.2, A2, c2, gs, X⟩, fieldA f m, starA X]) (fun k => k ≤ 8) (fun k => k) 8 ⟨rfl, rfl, rfl, rfl, rfl, trivial⟩ (fun _ hw => by rw [dnP_out (bl_b1 _) (show (bl [i]).length ≤ 8 from bl_len [i]), ← hMT.zero]; exact hw) (Nat.le_refl _) ?_
    intro k hk
    refine CW.seq ?_
    refine CW.seq ?_
    refine CW.reg [0, 1] rfl ?_   -- 23, encode.go:44
    refine s_mv 123 rfl rfl ?_
    refine s_ge 124 rfl rfl rfl rfl ?_
    refine SX.next ?_
    refine CW.test rfl (fun hc => ?_) (fun hc => ?_)
    · skip
      obtain ⟨j, rfl⟩ : ∃ j, k = j + 1 := ⟨k - 1, by omega⟩
      refine CW.skip ?_
      refine KN.code ?_
      refine CW.seq ?_
      refine CW.block ?_
      refine CW.reg [0, 1, 2, 3, 4, 5, 6] rfl ?_   -- 25, encode.go:45
      refine s_mv 127 rfl rfl ?_
      refine s_mv 128 rfl rfl ?_
      refine s_mv 129 rfl rfl ?_
      refine s_mv 130 rfl rfl ?_
      refine s_shr 131 rfl rfl rfl (by omega) (r := ((i >>> j : Nat) : Int)) (by rw [show ((j + 1 : Nat) : Int) - 1 = ((j : Nat) : Int) by omega]; exact shr_nat (by omega)) ?_
      refine s_bit 132 rfl rfl rfl rfl (r := (((i >>> j) % 2 : Nat) : Int)) (by have := shr8 (show i < 256 by omega) j; rw [show (1 : Int) = ((1 : Nat) : Int) from rfl, ibit_and_nat (by omega) (by omega), Nat.and_one_is_mod]) ?_
      refine s_callW 133 0 rfl rfl rfl rfl rfl (fun w2 hw2 => shift_ok c r m t (codeL m t D ⟨f, g.1, g.2, A2, c2, gs, X⟩).toArray A2 c2 (prB m t) (dnP (j + 1) (bl [i])) ((i >>> j) % 2) w2 hMT ⟨hw2.hasN (i := 0) (j := 0) rfl rfl, rfl, rfl, (hw2.hasN (i := 0) (j := 1) rfl rfl).of_own⟩ (dnP_b1 (bl_b1 _) _) (Nat.mod_lt _ (by omega)) (hw2.heapOf (i := 0) rfl)) (fun _ _ => trivial) ?_
      refine SX.end_ ?_
      refine KN.blk ?_
      refine KN.code ?_
      refine CW.reg [0, 1, 2] rfl ?_   -- 24, encode.go:44
      refine s_mv 125 rfl rfl ?_
      refine s_sub 126 rfl rfl rfl (r := ((j : Nat) : Int) - 1) (by rw [show ((j + 1 : Nat) : Int) - 1 - 1 = ((j : Nat) : Int) - 1 by omega]; exact w64 (by omega)) ?_
      refine s_as 13 rfl rfl ?_
      refine SX.end_ ?_
      exact KN.back j ⟨rfl, rfl, rfl, rfl, rfl, trivial⟩ (fun _ hw => by rw [dnP_cons (bl_b1 _), cf_bl1 i (by omega)]; exact hw) (by omega) (by omega)
    · skip
      obtain rfl : k = 0 := by omega
      refine CW.exit rfl ?_
      refine KN.code ?_
      refine CW.reg [0, 1, 2, 3, 4, 5, 6] rfl ?_   -- 26, encode.go:47
      refine s_mv 134 rfl rfl ?_
      refine s_mv 135 rfl rfl ?_
      refine s_mv 136 rfl rfl ?_
      refine s_nil 137 rfl rfl ?_
      refine s_fa 138 rfl rfl ?_
      refine s_iaR 139 i rfl rfl rfl rfl (by omega) ?_
      refine s_stB 1 rfl rfl rfl rfl rfl (by simp [codeL, tabL]; omega) (fun _ _ => trivial) ?_
      refine SX.end_ ?_
      refine KN.blk ?_
      refine KN.code ?_
      refine CW.reg [0, 1] rfl ?_   -- 27, encode.go:42
      refine s_add 140 rfl rfl rfl (r := ((i + 1 : Nat) : Int)) (w64 (by omega)) ?_
      refine s_mv 115 rfl rfl ?_
      refine SX.end_ ?_
      exact KN.back (i + 1, gs ++ [r], rowB m t r i :: X) ⟨rfl, rfl, trivial⟩ (fun _ hw => by
        have e := code_set (m := m) (t := t) (D := D) (r := r) (⟨f, g.1, g.2, A2, c2, gs, X⟩ : CodeG) hgs _ rfl
        have h0 := hw.pick [0, 4, 0, 0, 0, 0] rfl
        simp only [e, dnP_zero (bl_b1 _)] at h0
        have h1 := h0.moreStar
        exact h1.pick [1, 1, 1, 1, 0] rfl) ⟨by simp only; omega, by simp only [List.length_append, List.length_singleton]; omega, fun y g2 hy => by
        by_cases hyl : y < gs.length
        · rw [List.getElem?_append_left hyl] at hy
          exact List.mem_cons_of_mem _ (hX y g2 hy)
        · have hy2 := (List.getElem?_eq_some_iff.1 hy).1
          simp only [List.length_append, List.length_singleton] at hy2
          obtain rfl : y = i := by omega
          rw [List.getElem?_append_right (by omega), hgs, Nat.sub_self] at hy
          obtain rfl : r = g2 := by simpa using hy
          exact List.mem_cons_self ..⟩ (by simp only; omega)
  · skip
    have hi6 : i = 256 := by omega
    refine CW.exit rfl ?_
    refine KN.code ?_
    refine CW.seq ?_
    refine CW.reg [0, 1, 2] rfl ?_   -- 28, encode.go:49
    refine s_mv 141 rfl rfl ?_
    refine s_as 6 rfl rfl ?_
    refine s_as 7 rfl rfl ?_
    refine SX.next ?_
    refine CW.ret ?_
    exact KN.ret (rs := [.tmp 6, .tmp 7]) Tryd.results30 rfl (fun w hw => ⟨(c, ⟨f, g.1, g.2, A2, c2, gs, X⟩), rfl, ⟨hg, (show prB m t ≤ c2 by omega), (show gs.length = 256 by omega), hX⟩, (St.star (L := []) _).1 (by rw [List.append_nil]; exact hw.pick [0, 1, 0, 0, 0] rfl)⟩)
end Go.Proofs.YtompcfingkoldaaDoor
end
section
/- The chapter's code, made, and the laws' own helpers, walked. Conditions: the errors' variables. -/
namespace Go.Proofs.YtompcfingkoldaaDoor
open Go Go.Sx Go.Fm Nb
set_option maxRecDepth 100000
/-- A code that may be. -/
structure COk (m t D : Nat) : Prop where
  mt : MT m t
  d1 : 1 ≤ D
  dm : D ≤ 2048
  fit : 8 * D + dg m t ≤ N m
/-- The chapter's code as data. -/
def refC (m t D : Nat) (g : Option Addr × Nat) : Array Value := #[.int .i64 (m : Nat), .int .i64 (t : Nat), .int .i64 (D : Nat), .slice g.1 (gnB m t).length g.2, .int .i64 (dg m t : Nat)]
def refZ : Array Value := #[.int .i64 0, .int .i64 0, .int .i64 0, .slice none 0 0, .int .i64 0]
def genOf (m t : Nat) (g : Option Addr × Nat) : Atom := own 5 1 g.1 (gnB m t).length g.2 (nats .u8 (gnB m t))
theorem COk.deg {m t D : Nat} (h : COk m t D) : (ldr m t).2 < N m := by
  have := h.mt.deg
  have := h.fit
  have := h.d1
  omega
theorem COk.gA {m t D : Nat} (h : COk m t D) : genA (m : Nat) (t : Nat) = gnB m t := by
  unfold genA
  rw [lc_ok h.mt.ok h.mt.t1 h.mt.t40 h.deg]
  rfl
theorem mt82 : MT 8 2 := ⟨⟨by decide, by decide⟩, by decide, by decide⟩
theorem dg82 : dg 8 2 = 16 := by rw [← mt82.deg]; decide +kernel
theorem cok82 : COk 8 2 9 := ⟨mt82, by decide, by decide, by rw [dg82]; decide⟩
theorem mt52 : MT 5 2 := ⟨⟨by decide, by decide⟩, by decide, by decide⟩
theorem dg52 : dg 5 2 = 10 := by rw [← mt52.deg]; decide +kernel
theorem cok52 : COk 5 2 2 := ⟨mt52, by decide, by decide, by rw [dg52]; decide⟩
theorem mt42 : MT 4 2 := ⟨⟨by decide, by decide⟩, by decide, by decide⟩
theorem dg42 : dg 4 2 = 8 := by rw [← mt42.deg]; decide +kernel
theorem enc_0 : encB 5 2 [0, 0] = [0, 0] := by decide +kernel
theorem enc_1 : encB 5 2 [1, 0] = [105, 3] := by
  have h : encE (genL 5 (ldr 5 2).1) (bl [1, 0]) = bl [105, 3] := encE_of mt52.gb mt52.g2 (bl_b1 _) one_b1 (bl_b1 _) (by decide +kernel) (by decide +kernel)
  unfold encB
  rw [h]
  decide +kernel
/-- Any number brought between b and b + k. -/
def md (k b : Nat) (x : Int) : Nat := (x % (k : Int)).toNat + b
theorem md_bd {k : Nat} (hk : 0 < k) (b : Nat) (x : Int) : b ≤ md k b x ∧ md k b x < k + b := by
  have h1 := Int.emod_nonneg x (b := (k : Int)) (by omega)
  have h2 := Int.emod_lt_of_pos x (b := (k : Int)) (by omega)
  unfold md
  omega
/-- Bytes brought to a length. -/
def fitL (b : List Nat) (n : Nat) : List Nat := b.take (min b.length n) ++ List.replicate (n - min b.length n) 0
theorem fitL_len (b : List Nat) (n : Nat) : (fitL b n).length = n := by simp [fitL]; omega
theorem fitL_lt {b : List Nat} (hb : ∀ x ∈ b, x < 256) (n : Nat) : ∀ x ∈ fitL b n, x < 256 := fun x hx => by
  rcases List.mem_append.1 hx with h | h
  · exact hb x (List.mem_of_mem_take h)
  · rw [(List.mem_replicate.1 h).2]; decide
theorem fit_cells (b : List Nat) (n : Nat) : ((List.replicate n (Value.int .u8 0)).toArray.toList.take 0 ++ (nats .u8 b).take (min b.length n) ++ (List.replicate n (Value.int .u8 0)).toArray.toList.drop (0 + min b.length n)).toArray = (nats .u8 (fitL b n)).toArray := by
  rw [List.take_zero, List.nil_append, Nat.zero_add, show (List.replicate n (Value.int .u8 0)).toArray.toList = List.replicate n (Value.int .u8 0) from rfl, List.drop_replicate]
  simp [fitL, nats, List.map_take]

theorem rNew_ok (m t D : Nat) (w : World) (hC : COk m t D) : SpecX Tryd.prog 29 [.int .i64 (m : Nat), .int .i64 (t : Nat), .int .i64 (D : Nat)] w (X := Option Addr × Nat) (fun g => two (.agg (refC m t D g)) (.int .i64 0)) (fun g => (gnB m t).length ≤ g.2) (fun g => [genOf m t g]) := by
  obtain ⟨hMT, h1D, hDm, hfit⟩ := hC
  have hd := COk.deg ⟨hMT, h1D, hDm, hfit⟩
  have hgA := COk.gA ⟨hMT, h1D, hDm, hfit⟩
  have hm := hMT.ok
  have hNs := N_succ m
  have hmh := hm.hi
  have hml := hm.lo
  have h14 := pow_le14 hm
  have hdeg := hMT.deg
  have hd1 := hMT.d1
  have hd5 := hMT.d560
  have hp1 := hMT.p1
  have hp7 := hMT.p70
  have hlc := lc_ok hm hMT.t1 hMT.t40 hd
  refine spec_of Tryd.func29 rfl Tryd.ntmps29 rfl ?_
  refine CW.seq ?_
  refine CW.reg [0, 1] rfl ?_   -- 0, code.go:17
  refine s_alloc 6 rfl (fun _ _ => trivial) (fun rs => ?_)
  refine s_as 7 rfl rfl ?_
  refine SX.next ?_
  refine CW.seq ?_
  refine CW.reg [0, 1, 2, 3, 4, 5, 6, 7, 8, 9] rfl ?_   -- 1, code.go:18
  refine s_mv 14 rfl rfl ?_
  refine s_mv 15 rfl rfl ?_
  refine s_call 16 rfl rfl rfl rfl (fun w hw => by have := rleast_ok m t w hm hMT.t1 hMT.t40 hd; rw [hdeg] at this; exact this) (fun _ _ => trivial) (fun z hz => ?_)
  refine s_mv 13 rfl rfl ?_
  refine s_ext 17 rfl rfl rfl ?_
  refine s_ext 18 rfl rfl rfl ?_
  refine s_ext 19 rfl rfl rfl ?_
  refine s_as 8 rfl rfl ?_
  refine s_as 9 rfl rfl ?_
  refine s_as 10 rfl rfl ?_
  refine SX.next ?_
  refine CW.seq ?_
  refine CW.seq ?_
  refine CW.reg [0, 1] rfl ?_   -- 2, code.go:19
  refine s_mv 20 rfl rfl ?_
  refine s_ne 21 rfl rfl rfl (decide_eq_false (fun h => h rfl)) ?_
  refine SX.next ?_
  refine CW.condF rfl ?_
  refine CW.skip ?_
  refine KN.code ?_
  refine CW.seq ?_
  refine CW.seq ?_
  refine CW.reg [0, 1, 2, 3, 4, 5] rfl ?_   -- 4, code.go:22
  refine s_mv 24 rfl rfl ?_
  refine s_lt 25 rfl rfl rfl (decide_eq_false (by omega)) ?_
  refine s_mv 26 rfl rfl ?_
  refine s_mv 27 rfl rfl ?_
  refine s_gt 28 rfl rfl rfl (decide_eq_false (by omega)) ?_
  refine s_pickF 29 rfl rfl rfl ?_
  refine SX.next ?_
  refine CW.condF rfl ?_
  refine CW.skip ?_
  refine KN.code ?_
  refine CW.seq ?_
  refine CW.seq ?_
  refine CW.reg [0, 1, 2, 3, 4, 5, 6, 7, 8] rfl ?_   -- 6, code.go:25
  refine s_mv 31 rfl rfl ?_
  refine s_mul 32 rfl rfl rfl (r := ((8 * D : Nat) : Int)) (by rw [show (8 : Int) * ((D : Nat) : Int) = ((8 * D : Nat) : Int) by omega]; exact w64 (by omega)) ?_
  refine s_mv 33 rfl rfl ?_
  refine s_add 34 rfl rfl rfl (r := ((8 * D + dg m t : Nat) : Int)) (w64 (by omega)) ?_
  refine s_mv 35 rfl rfl ?_
  refine s_conv 36 rfl rfl (u64_nat hm) ?_
  refine s_shl 37 rfl rfl rfl (by omega) (shl_one hm) ?_
  refine s_sub 38 rfl rfl rfl (r := ((N m : Nat) : Int)) (by rw [show ((N m + 1 : Nat) : Int) - 1 = ((N m : Nat) : Int) by omega]; exact w64 (by omega)) ?_
  refine s_gt 39 rfl rfl rfl (decide_eq_false (by omega)) ?_
  refine SX.next ?_
  refine CW.condF rfl ?_
  refine CW.skip ?_
  refine KN.code ?_
  refine CW.seq ?_
  refine CW.reg [0, 1, 2, 3, 4, 5, 6, 7] rfl ?_   -- 8, code.go:28
  refine s_mv 42 rfl rfl ?_
  refine s_mv 43 rfl rfl ?_
  refine s_call 44 rfl rfl rfl rfl (fun w hw => by have := rgen_spec m (t : Nat) w hm; rw [hgA, hlc] at this; exact this) (fun _ _ => trivial) (fun g hg => ?_)
  refine s_mv 41 rfl rfl ?_
  refine s_ext 45 rfl rfl rfl ?_
  refine s_ext 46 rfl rfl rfl ?_
  refine s_as 11 rfl rfl ?_
  refine s_as 12 rfl rfl ?_
  refine SX.next ?_
  refine CW.seq ?_
  refine CW.reg [0, 1, 2, 3, 4, 5, 6, 7, 8] rfl ?_   -- 9, code.go:29
  refine s_mv 47 rfl rfl ?_
  refine s_mv 48 rfl rfl ?_
  refine s_mv 49 rfl rfl ?_
  refine s_mv 50 rfl rfl ?_
  refine s_mv 51 rfl rfl ?_
  refine s_build 52 rfl rfl (cells := refC m t D g) rfl ?_
  refine s_mv 53 rfl rfl ?_
  refine s_stAll 2 rfl rfl (by kernel_rfl) rfl rfl rfl rfl (fun _ _ => trivial) ?_
  refine s_as 7 rfl rfl ?_
  refine SX.next ?_
  refine CW.ret ?_
  exact KN.retC (rs := [.cell 6 27, .tmp 7]) Tryd.results29 (fun w hw => ⟨[_, _], ⟨⟨_, rfl, hw.ldRow (q := 2) rfl (by rfl)⟩, rfl, trivial⟩, ⟨g, rfl, hg, hw.pick [0] rfl⟩⟩)

theorem rNew_bad1 (m t D : Nat) (w : World) (hMT : MT m t) (h1D : 1 ≤ D) (hDm : D ≤ 2048) (hd : (ldr m t).2 < N m) (hfit : N m < 8 * D + dg m t) : Spec1 Tryd.prog 29 [.int .i64 (m : Nat), .int .i64 (t : Nat), .int .i64 (D : Nat)] w (two (.agg refZ) (.int .i64 105)) := by
  have hm := hMT.ok
  have hNs := N_succ m
  have hmh := hm.hi
  have hml := hm.lo
  have h14 := pow_le14 hm
  have hdeg := hMT.deg
  have hd1 := hMT.d1
  have hd5 := hMT.d560
  have hp1 := hMT.p1
  have hp7 := hMT.p70
  refine spec_of Tryd.func29 rfl Tryd.ntmps29 rfl ?_
  refine CW.seq ?_
  refine CW.reg [0, 1] rfl ?_   -- 0, code.go:17
  refine s_alloc 6 rfl (fun _ _ => trivial) (fun rs => ?_)
  refine s_as 7 rfl rfl ?_
  refine SX.next ?_
  refine CW.seq ?_
  refine CW.reg [0, 1, 2, 3, 4, 5, 6, 7, 8, 9] rfl ?_   -- 1, code.go:18
  refine s_mv 14 rfl rfl ?_
  refine s_mv 15 rfl rfl ?_
  refine s_call 16 rfl rfl rfl rfl (fun w hw => by have := rleast_ok m t w hm hMT.t1 hMT.t40 hd; rw [hdeg] at this; exact this) (fun _ _ => trivial) (fun z hz => ?_)
  refine s_mv 13 rfl rfl ?_
  refine s_ext 17 rfl rfl rfl ?_
  refine s_ext 18 rfl rfl rfl ?_
  refine s_ext 19 rfl rfl rfl ?_
  refine s_as 8 rfl rfl ?_
  refine s_as 9 rfl rfl ?_
  refine s_as 10 rfl rfl ?_
  refine SX.next ?_
  refine CW.seq ?_
  refine CW.seq ?_
  refine CW.reg [0, 1] rfl ?_   -- 2, code.go:19
  refine s_mv 20 rfl rfl ?_
  refine s_ne 21 rfl rfl rfl (decide_eq_false (fun h => h rfl)) ?_
  refine SX.next ?_
  refine CW.condF rfl ?_
  refine CW.skip ?_
  refine KN.code ?_
  refine CW.seq ?_
  refine CW.seq ?_
  refine CW.reg [0, 1, 2, 3, 4, 5] rfl ?_   -- 4, code.go:22
  refine s_mv 24 rfl rfl ?_
  refine s_lt 25 rfl rfl rfl (decide_eq_false (by omega)) ?_
  refine s_mv 26 rfl rfl ?_
  refine s_mv 27 rfl rfl ?_
  refine s_gt 28 rfl rfl rfl (decide_eq_false (by omega)) ?_
  refine s_pickF 29 rfl rfl rfl ?_
  refine SX.next ?_
  refine CW.condF rfl ?_
  refine CW.skip ?_
  refine KN.code ?_
  refine CW.seq ?_
  refine CW.seq ?_
  refine CW.reg [0, 1, 2, 3, 4, 5, 6, 7, 8] rfl ?_   -- 6, code.go:25
  refine s_mv 31 rfl rfl ?_
  refine s_mul 32 rfl rfl rfl (r := ((8 * D : Nat) : Int)) (by rw [show (8 : Int) * ((D : Nat) : Int) = ((8 * D : Nat) : Int) by omega]; exact w64 (by omega)) ?_
  refine s_mv 33 rfl rfl ?_
  refine s_add 34 rfl rfl rfl (r := ((8 * D + dg m t : Nat) : Int)) (w64 (by omega)) ?_
  refine s_mv 35 rfl rfl ?_
  refine s_conv 36 rfl rfl (u64_nat hm) ?_
  refine s_shl 37 rfl rfl rfl (by omega) (shl_one hm) ?_
  refine s_sub 38 rfl rfl rfl (r := ((N m : Nat) : Int)) (by rw [show ((N m + 1 : Nat) : Int) - 1 = ((N m : Nat) : Int) by omega]; exact w64 (by omega)) ?_
  refine s_gt 39 rfl rfl rfl (decide_eq_true (by omega)) ?_
  refine SX.next ?_
  refine CW.condT rfl ?_
  refine CW.seq ?_
  refine CW.reg [0, 1, 2] rfl ?_   -- 7, code.go:26
  refine s_build 40 rfl rfl (cells := refZ) rfl ?_
  refine s_stAll 1 rfl rfl (by kernel_rfl) rfl rfl rfl rfl (fun _ _ => trivial) ?_
  refine s_as 7 rfl rfl ?_
  refine SX.next ?_
  refine CW.ret ?_
  exact KN.retC (rs := [.cell 6 27, .tmp 7]) Tryd.results29 (fun w hw => ⟨[_, _], ⟨⟨_, rfl, hw.ldRow (q := 1) rfl (by rfl)⟩, rfl, trivial⟩, rfl, hw.nothing⟩)

theorem rNew_bad2 (m t D : Nat) (w : World) (hMT : MT m t) (hd : ¬ (ldr m t).2 < N m) : Spec1 Tryd.prog 29 [.int .i64 (m : Nat), .int .i64 (t : Nat), .int .i64 (D : Nat)] w (two (.agg refZ) (.int .i64 105)) := by
  refine spec_of Tryd.func29 rfl Tryd.ntmps29 rfl ?_
  refine CW.seq ?_
  refine CW.reg [0, 1] rfl ?_   -- 0, code.go:17
  refine s_alloc 6 rfl (fun _ _ => trivial) (fun rs => ?_)
  refine s_as 7 rfl rfl ?_
  refine SX.next ?_
  refine CW.seq ?_
  refine CW.reg [0, 1, 2, 3, 4, 5, 6, 7, 8, 9] rfl ?_   -- 1, code.go:18
  refine s_mv 14 rfl rfl ?_
  refine s_mv 15 rfl rfl ?_
  refine s_call1 16 rfl rfl rfl rfl (fun w hw => rleast_code m t w hMT.ok hMT.t1 hMT.t40 hd) (fun _ _ => trivial) ?_
  refine s_mv 13 rfl rfl ?_
  refine s_ext 17 rfl rfl rfl ?_
  refine s_ext 18 rfl rfl rfl ?_
  refine s_ext 19 rfl rfl rfl ?_
  refine s_as 8 rfl rfl ?_
  refine s_as 9 rfl rfl ?_
  refine s_as 10 rfl rfl ?_
  refine SX.next ?_
  refine CW.seq ?_
  refine CW.seq ?_
  refine CW.reg [0, 1] rfl ?_   -- 2, code.go:19
  refine s_mv 20 rfl rfl ?_
  refine s_ne 21 rfl rfl rfl (decide_eq_true (by omega)) ?_
  refine SX.next ?_
  refine CW.condT rfl ?_
  refine CW.seq ?_
  refine CW.reg [0, 1, 2, 3] rfl ?_   -- 3, code.go:20
  refine s_build 22 rfl rfl (cells := refZ) rfl ?_
  refine s_mv 23 rfl rfl ?_
  refine s_stAll 0 rfl rfl (by kernel_rfl) rfl rfl rfl rfl (fun _ _ => trivial) ?_
  refine s_as 7 rfl rfl ?_
  refine SX.next ?_
  refine CW.ret ?_
  exact KN.retC (rs := [.cell 6 27, .tmp 7]) Tryd.results29 (fun w hw => ⟨[_, _], ⟨⟨_, rfl, hw.ldRow (q := 0) rfl (by rfl)⟩, rfl, trivial⟩, rfl, hw.nothing⟩)

theorem rNew_bad (m t D : Nat) (w : World) (hMT : MT m t) (h1D : 1 ≤ D) (hDm : D ≤ 2048) (hfit : N m < 8 * D + dg m t) : Spec1 Tryd.prog 29 [.int .i64 (m : Nat), .int .i64 (t : Nat), .int .i64 (D : Nat)] w (two (.agg refZ) (.int .i64 105)) := by
  by_cases hd : (ldr m t).2 < N m
  · exact rNew_bad1 m t D w hMT h1D hDm hd hfit
  · exact rNew_bad2 m t D w hMT hd
/-- A code that was made, with the chapter's. -/
structure MadeG where
  c : Nat
  q : CodeG
  m : Nat
  t : Nat
  D : Nat
  g : Option Addr × Nat
structure MadeG.Fine (M T B : Nat) (z : MadeG) : Prop where
  ok : COk z.m z.t z.D
  q : z.q.Fine z.m z.t
  g : (gnB z.m z.t).length ≤ z.g.2
  mM : z.m ≤ M
  tT : z.t ≤ T
  dB : z.D ≤ B
  m6 : 6 ≤ z.m
def MadeG.val (z : MadeG) : Value := tri (.pointer (some ⟨z.c, 0, none⟩)) (.agg (refC z.m z.t z.D z.g)) (.bool true)
noncomputable def MadeG.mem (z : MadeG) : List Atom := [codeA z.c z.m z.t z.D z.q, genOf z.m z.t z.g]

theorem shalelaw6_made_ok (m t bytes : Int) (w : World) (hC : COk (md 5 6 m) (md 6 1 t) (md 24 1 bytes)) : SpecX Tryd.prog 22 [.int .i64 m, .int .i64 t, .int .i64 bytes] w MadeG.val (MadeG.Fine 10 6 24) MadeG.mem := by
  have hbm := md_bd (k := 5) (by omega) 6 m
  have hbt := md_bd (k := 6) (by omega) 1 t
  have hbd := md_bd (k := 24) (by omega) 1 bytes
  have hMT : MT (md 5 6 m) (md 6 1 t) := ⟨⟨by omega, by omega⟩, by omega, by omega⟩
  refine spec_of Tryd.func22 rfl Tryd.ntmps22 rfl ?_
  refine CW.seq ?_
  refine CW.reg [0, 1, 2] rfl ?_   -- 0, law.go:13
  refine s_as 6 rfl rfl ?_
  refine s_alloc 7 rfl (fun _ _ => trivial) (fun rs => ?_)
  refine s_as 8 rfl rfl ?_
  refine SX.next ?_
  refine CW.seq ?_
  refine CW.reg [0, 1, 2, 3, 4, 5] rfl ?_   -- 1, law.go:14
  refine s_mv 13 rfl rfl ?_
  refine s_rem 14 rfl rfl rfl (by omega) rfl ?_
  refine s_add 15 rfl rfl rfl (r := m.tmod 5 + 5) (w64 (by have := tmod_lt2 (k := 5) (by omega) m; omega)) ?_
  refine s_rem 16 rfl rfl rfl (by omega) (mkm_val (k := 5) (by omega) m) ?_
  refine s_add 17 rfl rfl rfl (r := ((md 5 6 m : Nat) : Int)) (by rw [show (((m % 5).toNat : Nat) : Int) + 6 = ((md 5 6 m : Nat) : Int) by unfold md; push_cast; rfl]; have := md_bd (k := 5) (by omega) 6 m; exact w64 (by omega)) ?_
  refine s_as 0 rfl rfl ?_
  refine SX.next ?_
  refine CW.seq ?_
  refine CW.reg [0, 1, 2, 3, 4, 5] rfl ?_   -- 2, law.go:15
  refine s_mv 18 rfl rfl ?_
  refine s_rem 19 rfl rfl rfl (by omega) rfl ?_
  refine s_add 20 rfl rfl rfl (r := t.tmod 6 + 6) (w64 (by have := tmod_lt2 (k := 6) (by omega) t; omega)) ?_
  refine s_rem 21 rfl rfl rfl (by omega) (mkm_val (k := 6) (by omega) t) ?_
  refine s_add 22 rfl rfl rfl (r := ((md 6 1 t : Nat) : Int)) (by rw [show (((t % 6).toNat : Nat) : Int) + 1 = ((md 6 1 t : Nat) : Int) by unfold md; push_cast; rfl]; have := md_bd (k := 6) (by omega) 1 t; exact w64 (by omega)) ?_
  refine s_as 1 rfl rfl ?_
  refine SX.next ?_
  refine CW.seq ?_
  refine CW.reg [0, 1, 2, 3, 4, 5] rfl ?_   -- 3, law.go:16
  refine s_mv 23 rfl rfl ?_
  refine s_rem 24 rfl rfl rfl (by omega) rfl ?_
  refine s_add 25 rfl rfl rfl (r := bytes.tmod 24 + 24) (w64 (by have := tmod_lt2 (k := 24) (by omega) bytes; omega)) ?_
  refine s_rem 26 rfl rfl rfl (by omega) (mkm_val (k := 24) (by omega) bytes) ?_
  refine s_add 27 rfl rfl rfl (r := ((md 24 1 bytes : Nat) : Int)) (by rw [show (((bytes % 24).toNat : Nat) : Int) + 1 = ((md 24 1 bytes : Nat) : Int) by unfold md; push_cast; rfl]; have := md_bd (k := 24) (by omega) 1 bytes; exact w64 (by omega)) ?_
  refine s_as 2 rfl rfl ?_
  refine SX.next ?_
  refine CW.seq ?_
  refine CW.reg [0, 1, 2, 3, 4, 5, 6, 7, 8, 9] rfl ?_   -- 4, law.go:17
  refine s_mv 29 rfl rfl ?_
  refine s_mv 30 rfl rfl ?_
  refine s_mv 31 rfl rfl ?_
  refine s_call 32 rfl rfl rfl rfl (fun w hw => rNew_ok (md 5 6 m) (md 6 1 t) (md 24 1 bytes) w hC) (fun _ _ => trivial) (fun g hg => ?_)
  refine s_mv 28 rfl rfl ?_
  refine s_ext 33 rfl rfl rfl ?_
  refine s_ext 34 rfl rfl rfl ?_
  refine s_alloc 9 rfl (fun _ _ => trivial) (fun rx => ?_)
  refine s_stAll 0 rfl rfl (by kernel_rfl) rfl rfl rfl rfl (fun _ _ => trivial) ?_
  refine s_as 10 rfl rfl ?_
  refine SX.next ?_
  refine CW.seq ?_
  refine CW.seq ?_
  refine CW.reg [0, 1] rfl ?_   -- 5, law.go:18
  refine s_mv 35 rfl rfl ?_
  refine s_ne 36 rfl rfl rfl (decide_eq_false (fun h => h rfl)) ?_
  refine SX.next ?_
  refine CW.condF rfl ?_
  refine CW.skip ?_
  refine KN.code ?_
  refine CW.seq ?_
  refine CW.reg [0, 1, 2, 3, 4, 5, 6, 7, 8, 9, 10, 11] rfl ?_   -- 7, law.go:21
  refine s_fa 42 rfl rfl ?_
  refine s_ldB 43 0 rfl rfl rfl rfl ?_
  refine s_fa 44 rfl rfl ?_
  refine s_ldB 45 0 rfl rfl rfl rfl ?_
  refine s_fa 46 rfl rfl ?_
  refine s_ldB 47 0 rfl rfl rfl rfl ?_
  refine s_call 48 rfl rfl rfl rfl (fun w hw => new_ok (md 5 6 m) (md 6 1 t) (md 24 1 bytes) (fun _ => default) w hC.mt hC.d1 hC.dm hC.fit) (fun _ _ => trivial) (fun z hz => ?_)
  refine s_mv 41 rfl rfl ?_
  refine s_ext 49 rfl rfl rfl ?_
  refine s_ext 50 rfl rfl rfl ?_
  refine s_as 11 rfl rfl ?_
  refine s_as 12 rfl rfl ?_
  refine SX.next ?_
  refine CW.seq ?_
  refine CW.regD (.st true 0 (.st true 2 (.st true 3 (.st true 4 (.st true 5 (.st true 6 (.st true 7 (.st true 8 (.st false 1 (.st false 9 (.st true 10 .done))))))))))) (Sto w []) mixed (by kernel_rfl) (fun _ h => h.drew) (fun _ h => h.pick [] rfl) ?_
  refine s_mv 51 rfl rfl ?_
  refine s_mv 53 rfl rfl ?_
  refine s_nePN 54 rfl rfl ?_
  refine s_mv 55 rfl rfl ?_
  refine s_mv 56 rfl rfl ?_
  refine s_eqNN 57 rfl rfl ?_
  refine s_pickT 58 rfl rfl rfl ?_
  refine s_as 6 rfl rfl ?_
  refine s_ldW 52 1 rfl rfl rfl ?_
  refine s_stAll 3 rfl rfl (by kernel_rfl) rfl rfl rfl rfl (fun _ h => h.pick [] rfl) ?_
  refine s_as 8 rfl rfl ?_
  refine SX.next ?_
  refine CW.ret ?_
  exact KN.retC (rs := [.tmp 6, .cell 7 27, .tmp 8]) Tryd.results22 (fun w hw => ⟨[_, _, _], ⟨rfl, ⟨_, rfl, hw.ldRow (q := 3) rfl (by rfl)⟩, rfl, trivial⟩, ⟨⟨z.1, z.2, (md 5 6 m), (md 6 1 t), (md 24 1 bytes), g⟩, rfl, ⟨hC, hz, hg, by show (md 5 6 m) ≤ 10; omega, by show (md 6 1 t) ≤ 6; omega, by show (md 24 1 bytes) ≤ 24; omega, by show 6 ≤ (md 5 6 m); omega⟩, hw.pick [0, 1] rfl⟩⟩)

theorem shalelaw6_made_else (m t bytes : Int) (w : World) (hbad : N (md 5 6 m) < 8 * (md 24 1 bytes) + dg (md 5 6 m) (md 6 1 t)) : SpecX Tryd.prog 22 [.int .i64 m, .int .i64 t, .int .i64 bytes] w MadeG.val (MadeG.Fine 10 6 24) MadeG.mem := by
  have hbm := md_bd (k := 5) (by omega) 6 m
  have hbt := md_bd (k := 6) (by omega) 1 t
  have hbd := md_bd (k := 24) (by omega) 1 bytes
  have hMT : MT (md 5 6 m) (md 6 1 t) := ⟨⟨by omega, by omega⟩, by omega, by omega⟩
  refine spec_of Tryd.func22 rfl Tryd.ntmps22 rfl ?_
  refine CW.seq ?_
  refine CW.reg [0, 1, 2] rfl ?_   -- 0, law.go:13
  refine s_as 6 rfl rfl ?_
  refine s_alloc 7 rfl (fun _ _ => trivial) (fun rs => ?_)
  refine s_as 8 rfl rfl ?_
  refine SX.next ?_
  refine CW.seq ?_
  refine CW.reg [0, 1, 2, 3, 4, 5] rfl ?_   -- 1, law.go:14
  refine s_mv 13 rfl rfl ?_
  refine s_rem 14 rfl rfl rfl (by omega) rfl ?_
  refine s_add 15 rfl rfl rfl (r := m.tmod 5 + 5) (w64 (by have := tmod_lt2 (k := 5) (by omega) m; omega)) ?_
  refine s_rem 16 rfl rfl rfl (by omega) (mkm_val (k := 5) (by omega) m) ?_
  refine s_add 17 rfl rfl rfl (r := ((md 5 6 m : Nat) : Int)) (by rw [show (((m % 5).toNat : Nat) : Int) + 6 = ((md 5 6 m : Nat) : Int) by unfold md; push_cast; rfl]; have := md_bd (k := 5) (by omega) 6 m; exact w64 (by omega)) ?_
  refine s_as 0 rfl rfl ?_
  refine SX.next ?_
  refine CW.seq ?_
  refine CW.reg [0, 1, 2, 3, 4, 5] rfl ?_   -- 2, law.go:15
  refine s_mv 18 rfl rfl ?_
  refine s_rem 19 rfl rfl rfl (by omega) rfl ?_
  refine s_add 20 rfl rfl rfl (r := t.tmod 6 + 6) (w64 (by have := tmod_lt2 (k := 6) (by omega) t; omega)) ?_
  refine s_rem 21 rfl rfl rfl (by omega) (mkm_val (k := 6) (by omega) t) ?_
  refine s_add 22 rfl rfl rfl (r := ((md 6 1 t : Nat) : Int)) (by rw [show (((t % 6).toNat : Nat) : Int) + 1 = ((md 6 1 t : Nat) : Int) by unfold md; push_cast; rfl]; have := md_bd (k := 6) (by omega) 1 t; exact w64 (by omega)) ?_
  refine s_as 1 rfl rfl ?_
  refine SX.next ?_
  refine CW.seq ?_
  refine CW.reg [0, 1, 2, 3, 4, 5] rfl ?_   -- 3, law.go:16
  refine s_mv 23 rfl rfl ?_
  refine s_rem 24 rfl rfl rfl (by omega) rfl ?_
  refine s_add 25 rfl rfl rfl (r := bytes.tmod 24 + 24) (w64 (by have := tmod_lt2 (k := 24) (by omega) bytes; omega)) ?_
  refine s_rem 26 rfl rfl rfl (by omega) (mkm_val (k := 24) (by omega) bytes) ?_
  refine s_add 27 rfl rfl rfl (r := ((md 24 1 bytes : Nat) : Int)) (by rw [show (((bytes % 24).toNat : Nat) : Int) + 1 = ((md 24 1 bytes : Nat) : Int) by unfold md; push_cast; rfl]; have := md_bd (k := 24) (by omega) 1 bytes; exact w64 (by omega)) ?_
  refine s_as 2 rfl rfl ?_
  refine SX.next ?_
  refine CW.seq ?_
  refine CW.reg [0, 1, 2, 3, 4, 5, 6, 7, 8, 9] rfl ?_   -- 4, law.go:17
  refine s_mv 29 rfl rfl ?_
  refine s_mv 30 rfl rfl ?_
  refine s_mv 31 rfl rfl ?_
  refine s_call1 32 rfl rfl rfl rfl (fun w hw => rNew_bad (md 5 6 m) (md 6 1 t) (md 24 1 bytes) w hMT (by omega) (by omega) hbad) (fun _ _ => trivial) ?_
  refine s_mv 28 rfl rfl ?_
  refine s_ext 33 rfl rfl rfl ?_
  refine s_ext 34 rfl rfl rfl ?_
  refine s_alloc 9 rfl (fun _ _ => trivial) (fun rx => ?_)
  refine s_stAll 0 rfl rfl (by kernel_rfl) rfl rfl rfl rfl (fun _ _ => trivial) ?_
  refine s_as 10 rfl rfl ?_
  refine SX.next ?_
  refine CW.seq ?_
  refine CW.seq ?_
  refine CW.reg [0, 1] rfl ?_   -- 5, law.go:18
  refine s_mv 35 rfl rfl ?_
  refine s_ne 36 rfl rfl rfl (decide_eq_true (by omega)) ?_
  refine SX.next ?_
  refine CW.condT rfl ?_
  refine CW.reg [0, 1, 2, 3, 4] rfl ?_   -- 6, law.go:19
  refine s_call 38 rfl rfl rfl rfl (fun w hw => rNew_ok 8 2 9 w cok82) (fun _ _ => trivial) (fun g hg => ?_)
  refine s_mv 37 rfl rfl ?_
  refine s_ext 39 rfl rfl rfl ?_
  refine s_ext 40 rfl rfl rfl ?_
  refine s_stAll 1 rfl rfl (by kernel_rfl) rfl rfl rfl rfl (fun _ _ => trivial) ?_
  refine SX.next ?_
  refine CW.seq ?_
  refine CW.pre (C' := Sto w [blk rx 27 (refC 8 2 9 g), genOf 8 2 g, blk rs 27 refZ]) (fun _ hw => hw.pick [1, 0, 0] rfl) ?_
  refine CW.reg [0, 1, 2, 3, 4, 5, 6, 7, 8, 9, 10, 11] rfl ?_   -- 7, law.go:21
  refine s_fa 42 rfl rfl ?_
  refine s_ldB 43 0 rfl rfl rfl rfl ?_
  refine s_fa 44 rfl rfl ?_
  refine s_ldB 45 0 rfl rfl rfl rfl ?_
  refine s_fa 46 rfl rfl ?_
  refine s_ldB 47 0 rfl rfl rfl rfl ?_
  refine s_call 48 rfl rfl rfl rfl (fun w hw => new_ok 8 2 9 (fun _ => default) w cok82.mt cok82.d1 cok82.dm cok82.fit) (fun _ _ => trivial) (fun z hz => ?_)
  refine s_mv 41 rfl rfl ?_
  refine s_ext 49 rfl rfl rfl ?_
  refine s_ext 50 rfl rfl rfl ?_
  refine s_as 11 rfl rfl ?_
  refine s_as 12 rfl rfl ?_
  refine SX.next ?_
  refine CW.seq ?_
  refine CW.regD (.st true 0 (.st true 2 (.st true 3 (.st true 4 (.st true 5 (.st true 6 (.st true 7 (.st true 8 (.st false 1 (.st false 9 (.st true 10 .done))))))))))) (Sto w []) mixed (by kernel_rfl) (fun _ h => h.drew) (fun _ h => h.pick [] rfl) ?_
  refine s_mv 51 rfl rfl ?_
  refine s_mv 53 rfl rfl ?_
  refine s_nePN 54 rfl rfl ?_
  refine s_mv 55 rfl rfl ?_
  refine s_mv 56 rfl rfl ?_
  refine s_eqNN 57 rfl rfl ?_
  refine s_pickT 58 rfl rfl rfl ?_
  refine s_as 6 rfl rfl ?_
  refine s_ldW 52 1 rfl rfl rfl ?_
  refine s_stAll 3 rfl rfl (by kernel_rfl) rfl rfl rfl rfl (fun _ h => h.pick [] rfl) ?_
  refine s_as 8 rfl rfl ?_
  refine SX.next ?_
  refine CW.ret ?_
  exact KN.retC (rs := [.tmp 6, .cell 7 27, .tmp 8]) Tryd.results22 (fun w hw => ⟨[_, _, _], ⟨rfl, ⟨_, rfl, hw.ldRow (q := 3) rfl (by rfl)⟩, rfl, trivial⟩, ⟨⟨z.1, z.2, 8, 2, 9, g⟩, rfl, ⟨cok82, hz, hg, by show 8 ≤ 10; decide, by show 2 ≤ 6; decide, by show 9 ≤ 24; decide, by show 6 ≤ 8; decide⟩, hw.pick [0, 1] rfl⟩⟩)

theorem shalelaw6_made (m t bytes : Int) (w : World) : SpecX Tryd.prog 22 [.int .i64 m, .int .i64 t, .int .i64 bytes] w MadeG.val (MadeG.Fine 10 6 24) MadeG.mem := by
  have hbm := md_bd (k := 5) (by omega) 6 m
  have hbt := md_bd (k := 6) (by omega) 1 t
  have hbd := md_bd (k := 24) (by omega) 1 bytes
  have hMT : MT (md 5 6 m) (md 6 1 t) := ⟨⟨by omega, by omega⟩, by omega, by omega⟩
  by_cases h : 8 * (md 24 1 bytes) + dg (md 5 6 m) (md 6 1 t) ≤ N (md 5 6 m)
  · exact shalelaw6_made_ok m t bytes w ⟨hMT, by omega, by omega, h⟩
  · exact shalelaw6_made_else m t bytes w (by omega)

theorem shalelaw6_fit (A : Option Addr) (n c : Nat) (p : List Nat) (k : Nat) (w : World) (ha : Has (sl 1 A n (nats .u8 p)) w) (_hp : ∀ x ∈ p, x < 256) (_hn : n ≤ 9223372036854775807) (hcp : n ≤ c) (hk : k ≤ 100000) : SpecB Tryd.prog 23 [.slice A n c, .int .i64 (k : Nat)] w (fitL p k) := by
  have hla := nats_len ha
  subst hla
  have hfl := fitL_len p k
  refine spec_of Tryd.func23 rfl Tryd.ntmps23 rfl ?_
  refine CW.seq ?_
  refine CW.reg [0] rfl ?_   -- 0, law.go:26
  refine s_as 4 rfl rfl ?_
  refine SX.next ?_
  refine CW.seq ?_
  refine CW.reg [0, 1, 2] rfl ?_   -- 1, law.go:27
  refine s_mv 6 rfl rfl ?_
  refine s_make 7 k rfl rfl rfl rfl rfl (by omega) (fun _ _ => trivial) (fun go => ?_)
  refine s_as 5 rfl rfl ?_
  refine SX.next ?_
  refine CW.seq ?_
  refine CW.reg [0, 1, 2] rfl ?_   -- 2, law.go:28
  refine s_mv 8 rfl rfl ?_
  refine s_mv 9 rfl rfl ?_
  refine (s_copyB (ys := nats .u8 p) 0 (g := go) (off := 0) rfl rfl rfl rfl (fun _ => rfl) (fun w hw => hw.old ha) (nats_one _ _) (by simp) (fun _ _ => trivial) ?_)
  refine SX.next ?_
  refine CW.seq ?_
  refine CW.reg [0, 1] rfl ?_   -- 3, law.go:29
  refine s_mv 11 rfl rfl ?_
  refine s_as 4 rfl rfl ?_
  refine SX.next ?_
  refine CW.ret ?_
  exact KN.ret (rs := [.tmp 4]) Tryd.results23 rfl (fun w hw => ⟨(some ⟨go, 0, none⟩, k), by rw [hfl]; rfl, by rw [hfl]; exact Nat.le_refl _, by
  rw [fit_cells] at hw
  rw [hfl]
  exact hw.blkOwn (q := 0) (c := k) (sz := 1) rfl (by simp [hfl]) (by unfold maxLen; omega)⟩)

theorem shalelaw7_fit (A : Option Addr) (n c : Nat) (p : List Nat) (k : Nat) (w : World) (ha : Has (sl 1 A n (nats .u8 p)) w) (_hp : ∀ x ∈ p, x < 256) (_hn : n ≤ 9223372036854775807) (hcp : n ≤ c) (hk : k ≤ 100000) : SpecB Tryd.prog 54 [.slice A n c, .int .i64 (k : Nat)] w (fitL p k) := by
  have hla := nats_len ha
  subst hla
  have hfl := fitL_len p k
  refine spec_of Tryd.func54 rfl Tryd.ntmps54 rfl ?_
  refine CW.seq ?_
  refine CW.reg [0] rfl ?_   -- 0, law.go:26
  refine s_as 4 rfl rfl ?_
  refine SX.next ?_
  refine CW.seq ?_
  refine CW.reg [0, 1, 2] rfl ?_   -- 1, law.go:27
  refine s_mv 6 rfl rfl ?_
  refine s_make 7 k rfl rfl rfl rfl rfl (by omega) (fun _ _ => trivial) (fun go => ?_)
  refine s_as 5 rfl rfl ?_
  refine SX.next ?_
  refine CW.seq ?_
  refine CW.reg [0, 1, 2] rfl ?_   -- 2, law.go:28
  refine s_mv 8 rfl rfl ?_
  refine s_mv 9 rfl rfl ?_
  refine (s_copyB (ys := nats .u8 p) 0 (g := go) (off := 0) rfl rfl rfl rfl (fun _ => rfl) (fun w hw => hw.old ha) (nats_one _ _) (by simp) (fun _ _ => trivial) ?_)
  refine SX.next ?_
  refine CW.seq ?_
  refine CW.reg [0, 1] rfl ?_   -- 3, law.go:29
  refine s_mv 11 rfl rfl ?_
  refine s_as 4 rfl rfl ?_
  refine SX.next ?_
  refine CW.ret ?_
  exact KN.ret (rs := [.tmp 4]) Tryd.results54 rfl (fun w hw => ⟨(some ⟨go, 0, none⟩, k), by rw [hfl]; rfl, by rw [hfl]; exact Nat.le_refl _, by
  rw [fit_cells] at hw
  rw [hfl]
  exact hw.blkOwn (q := 0) (c := k) (sz := 1) rfl (by simp [hfl]) (by unfold maxLen; omega)⟩)
end Go.Proofs.YtompcfingkoldaaDoor
end
section
/- The chapter's examples and what the laws of chapter 6 lean on, walked. Conditions: the errors' variables. -/
namespace Go.Proofs.YtompcfingkoldaaDoor
open Go Go.Sx Go.Fm Nb
set_option maxRecDepth 100000
/-- The sums of bytes, so far. -/
def fx (d e : List Nat) (i j : Nat) : Nat := if j < i then cf d j ^^^ cf e j else 0
theorem fx_next (d e : List Nat) (i : Nat) : (fun j => if j = i then cf d i ^^^ cf e i else fx d e i j) = fx d e (i + 1) := by
  funext j
  unfold fx
  by_cases h : j = i
  · subst h; rw [if_pos rfl, if_pos (by omega)]
  · rw [if_neg h]
    by_cases h2 : j < i
    · rw [if_pos h2, if_pos (by omega)]
    · rw [if_neg h2, if_neg (by omega)]
def xorL (d e : List Nat) : List Nat := tb d.length (fun j => cf d j ^^^ cf e j)
theorem xorL_len (d e : List Nat) : (xorL d e).length = d.length := tb_len _ _
theorem xorL_lt {d e : List Nat} (hd : ∀ x ∈ d, x < 256) (he : ∀ x ∈ e, x < 256) : ∀ x ∈ xorL d e, x < 256 := tb_lt (fun i _ => xor8 (cf_lt8 hd i) (cf_lt8 he i))
theorem fx_all (d e : List Nat) : rB d.length (fx d e d.length) = (nats .u8 (xorL d e)).toArray := rB_congr (fun i hi => by unfold fx; rw [if_pos hi])
theorem fx_zero (d e : List Nat) (n : Nat) : (List.replicate n (Value.int .u8 0)).toArray = rB n (fx d e 0) := by
  have h : rB n (fx d e 0) = rB n (fun _ => 0) := rB_congr (fun i _ => by unfold fx; rw [if_neg (by omega)])
  rw [h]
  unfold rB tb nats
  rw [List.map_map]
  show _ = ((List.range n).map (fun _ => Value.int .u8 0)).toArray
  rw [List.map_const', List.length_range]
theorem bl_xor {d e : List Nat} (hl : d.length = e.length) : bl (xorL d e) = addP (bl d) (bl e) := b1_ext (bl_b1 _) (addP_b1 (bl_b1 _) (bl_b1 _)) (fun j => by
  rw [cf_addP, cf_bl, cf_bl, cf_bl]
  by_cases h : j < 8 * d.length
  · unfold bitN xorL
    rw [cf_tb (by omega), shr_xor]
  · rw [bitN_out (by rw [xorL_len]; omega), bitN_out (by omega), bitN_out (by omega)]
    rfl)
theorem byte_ext {x y : Nat} (hx : x < 256) (hy : y < 256) (h : ∀ s, s < 8 → (x >>> s) % 2 = (y >>> s) % 2) : x = y := test_ext hx hy (fun s hs => by
  have := h s hs
  rw [shr_two, shr_two] at this
  exact toNat_inj this)
/-- The parity of the xor, byte by byte. -/
theorem enc_xor8 {m t : Nat} (h : MT m t) {d e : List Nat} (hl : d.length = e.length) {i : Nat} (hi : i < prB m t) : cf (encB m t d) i ^^^ cf (encB m t e) i = cf (encB m t (xorL d e)) i :=
  byte_ext (xor8 (cf_lt8 (enc_lt h d) i) (cf_lt8 (enc_lt h e) i)) (cf_lt8 (enc_lt h _) i) (fun s hs => by
    have := enc_xor h (bl_xor hl) (j := 8 * i + s) (by omega)
    unfold bitN at this
    rw [show (8 * i + s) / 8 = i by omega, show (8 * i + s) % 8 = s by omega] at this
    rw [shr_xor, this])
theorem enc_at {m t : Nat} (d : List Nat) {i : Nat} (hi : i < prB m t) : (nats .u8 (encB m t d))[i]? = some (.int .u8 (cf (encB m t d) i : Nat)) := natsAt8 (by rw [encB_len]; exact hi)

theorem new_code (m t D : Nat) (e : Nat → Addr) (w : World) (hMT : MT m t) (h1D : 1 ≤ D) (hDm : D ≤ 2048) (hd : (ldr m t).2 < N m) (hfit : N m < 8 * D + dg m t) (heC : Er e w 2) : Spec1 Tryd.prog 30 [.int .i64 (m : Nat), .int .i64 (t : Nat), .int .i64 (D : Nat)] w (two (.pointer none) (errV e 2)) := by
  have hm := hMT.ok
  have hNs := N_succ m
  have hmh := hm.hi
  have hml := hm.lo
  have h14 := pow_le14 hm
  have hdeg := hMT.deg
  have hd1 := hMT.d1
  have hd5 := hMT.d560
  have hp1 := hMT.p1
  have hp7 := hMT.p70
  refine spec_of Tryd.func30 rfl Tryd.ntmps30 rfl ?_
  refine CW.seq ?_
  refine CW.reg [0, 1] rfl ?_   -- 0, encode.go:22
  refine s_as 6 rfl rfl ?_
  refine s_as 7 rfl rfl ?_
  refine SX.next ?_
  refine CW.seq ?_
  refine CW.reg [0, 1, 2, 3, 4, 5, 6, 7] rfl ?_   -- 1, encode.go:23
  refine s_mv 15 rfl rfl ?_
  refine s_mv 16 rfl rfl ?_
  refine s_call1 17 rfl rfl rfl rfl (fun w hw => by have := least_ok m t e w hm hMT.t1 hMT.t40 hd; rw [hdeg] at this; exact this) (fun _ _ => trivial) ?_
  refine s_mv 14 rfl rfl ?_
  refine s_ext 18 rfl rfl rfl ?_
  refine s_ext 19 rfl rfl rfl ?_
  refine s_as 8 rfl rfl ?_
  refine s_as 9 rfl rfl ?_
  refine SX.next ?_
  refine CW.seq ?_
  refine CW.block ?_
  refine CW.seq ?_
  refine CW.reg [0, 1, 2] rfl ?_   -- 2, encode.go:25
  refine s_mv 21 rfl rfl ?_
  refine s_neNN 22 rfl rfl ?_
  refine s_as 20 rfl rfl ?_
  refine SX.next ?_
  refine CW.condF rfl ?_
  refine CW.seq ?_
  refine CW.reg [0, 1, 2, 3, 4, 5, 6] rfl ?_   -- 4, encode.go:27
  refine s_mv 25 rfl rfl ?_
  refine s_lt 26 rfl rfl rfl (decide_eq_false (by omega)) ?_
  refine s_mv 27 rfl rfl ?_
  refine s_mv 28 rfl rfl ?_
  refine s_gt 29 rfl rfl rfl (decide_eq_false (by omega)) ?_
  refine s_pickF 30 rfl rfl rfl ?_
  refine s_as 24 rfl rfl ?_
  refine SX.next ?_
  refine CW.condF rfl ?_
  refine CW.seq ?_
  refine CW.reg [0, 1, 2, 3, 4, 5, 6, 7, 8] rfl ?_   -- 6, encode.go:29
  refine s_mv 33 rfl rfl ?_
  refine s_mul 34 rfl rfl rfl (r := ((8 * D : Nat) : Int)) (by rw [show (8 : Int) * ((D : Nat) : Int) = ((8 * D : Nat) : Int) by omega]; exact w64 (by omega)) ?_
  refine s_mv 35 rfl rfl ?_
  refine s_add 36 rfl rfl rfl (r := ((8 * D + dg m t : Nat) : Int)) (w64 (by omega)) ?_
  refine s_mv 37 rfl rfl ?_
  refine s_shl 38 rfl rfl rfl (by omega) (shl_one hm) ?_
  refine s_sub 39 rfl rfl rfl (r := ((N m : Nat) : Int)) (by rw [show ((N m + 1 : Nat) : Int) - 1 = ((N m : Nat) : Int) by omega]; exact w64 (by omega)) ?_
  refine s_gt 40 rfl rfl rfl (decide_eq_true (by omega)) ?_
  refine s_as 32 rfl rfl ?_
  refine SX.next ?_
  refine CW.condT rfl ?_
  refine CW.seq ?_
  refine CW.regD (.st true 0 (.st true 1 (.st true 2 .done))) (Sto w []) mixed (by kernel_rfl) (fun _ h => h.drew) (fun _ h => h) ?_
  refine s_ldS 41 rfl rfl (fun _ h => h.cell heC) ?_
  refine s_as 6 rfl rfl ?_
  refine s_as 7 rfl rfl ?_
  refine SX.next ?_
  refine CW.ret ?_
  exact KN.ret (rs := [.tmp 6, .tmp 7]) Tryd.results30 rfl (fun w hw => ⟨rfl, hw.nothing⟩)

theorem rPar_spec (m t D : Nat) (g : Option Addr × Nat) (w : World) (hMT : MT m t) : Spec1 Tryd.prog 27 [.agg (refC m t D g)] w (.int .i64 ((prB m t : Nat) : Int)) := by
  have hd5 := hMT.d560
  refine spec_of Tryd.func27 rfl Tryd.ntmps27 rfl ?_
  refine CW.seq ?_
  refine CW.reg [0, 1] rfl ?_   -- 0, code.go:33
  refine s_box 1 rfl rfl (fun _ _ => trivial) (fun b => ?_)
  refine s_as 2 rfl rfl ?_
  refine SX.next ?_
  refine CW.seq ?_
  refine CW.reg [0, 1, 2, 3, 4] rfl ?_   -- 1, code.go:33
  refine s_fa 3 rfl rfl ?_
  refine s_ldB 4 0 rfl rfl rfl rfl ?_
  refine s_add 5 rfl rfl rfl (r := ((dg m t + 7 : Nat) : Int)) (w64 (by omega)) ?_
  refine s_quo 6 rfl rfl rfl (by omega) (quo8 (dg m t + 7) (by omega)) ?_
  refine s_as 2 rfl rfl ?_
  refine SX.next ?_
  refine CW.ret ?_
  exact KN.ret (rs := [.tmp 2]) Tryd.results27 rfl (fun w hw => ⟨rfl, hw.nothing⟩)

theorem rBits_spec (m t D : Nat) (g : Option Addr × Nat) (w : World) (hMT : MT m t) (hDm : D ≤ 2048) : Spec1 Tryd.prog 38 [.agg (refC m t D g)] w (.int .i64 ((8 * D + dg m t : Nat) : Int)) := by
  have hd5 := hMT.d560
  refine spec_of Tryd.func38 rfl Tryd.ntmps38 rfl ?_
  refine CW.seq ?_
  refine CW.reg [0, 1] rfl ?_   -- 0, code.go:36
  refine s_box 1 rfl rfl (fun _ _ => trivial) (fun b => ?_)
  refine s_as 2 rfl rfl ?_
  refine SX.next ?_
  refine CW.seq ?_
  refine CW.reg [0, 1, 2, 3, 4, 5, 6] rfl ?_   -- 1, code.go:36
  refine s_fa 3 rfl rfl ?_
  refine s_ldB 4 0 rfl rfl rfl rfl ?_
  refine s_mul 5 rfl rfl rfl (r := ((8 * D : Nat) : Int)) (by rw [show (8 : Int) * ((D : Nat) : Int) = ((8 * D : Nat) : Int) by omega]; exact w64 (by omega)) ?_
  refine s_fa 6 rfl rfl ?_
  refine s_ldB 7 0 rfl rfl rfl rfl ?_
  refine s_add 8 rfl rfl rfl (r := ((8 * D + dg m t : Nat) : Int)) (w64 (by omega)) ?_
  refine s_as 2 rfl rfl ?_
  refine SX.next ?_
  refine CW.ret ?_
  exact KN.ret (rs := [.tmp 2]) Tryd.results38 rfl (fun w hw => ⟨rfl, hw.nothing⟩)

theorem first6_spec (e : Nat → Addr) (w : World) (he : Er e w 2) : Spec1 Tryd.prog 21 [] w (.bool true) := by
  refine spec_of Tryd.func21 rfl Tryd.ntmps21 rfl ?_
  refine CW.seq ?_
  refine CW.reg [0] rfl ?_   -- 0, law.go:33
  refine s_as 0 rfl rfl ?_
  refine SX.next ?_
  refine CW.seq ?_
  refine CW.reg [0, 1, 2, 3, 4, 5] rfl ?_   -- 1, law.go:34
  refine s_call 10 rfl rfl rfl rfl (fun w hw => new_ok 5 2 2 e w cok52.mt cok52.d1 cok52.dm cok52.fit) (fun _ _ => trivial) (fun z hz => ?_)
  refine s_mv 9 rfl rfl ?_
  refine s_ext 11 rfl rfl rfl ?_
  refine s_ext 12 rfl rfl rfl ?_
  refine s_as 1 rfl rfl ?_
  refine s_as 2 rfl rfl ?_
  refine SX.next ?_
  refine CW.seq ?_
  refine CW.seq ?_
  refine CW.reg [0, 1, 2, 3, 4, 5] rfl ?_   -- 2, law.go:35
  refine s_mv 13 rfl rfl ?_
  refine s_eqPN 14 rfl rfl ?_
  refine s_mv 15 rfl rfl ?_
  refine s_mv 16 rfl rfl ?_
  refine s_neNN 17 rfl rfl ?_
  refine s_pickF 18 rfl rfl rfl ?_
  refine SX.next ?_
  refine CW.condF rfl ?_
  refine CW.skip ?_
  refine KN.code ?_
  refine CW.seq ?_
  refine CW.reg [0, 1, 2, 3, 4, 5, 6, 7] rfl ?_   -- 4, law.go:38
  refine s_mv 20 rfl rfl ?_
  refine s_bsl 21 rfl rfl (cells := #[.int .u8 0, .int .u8 0]) (by kernel_rfl) rfl (fun _ _ => trivial) (fun b21 => ?_)
  refine s_call 22 rfl rfl rfl rfl (fun w hw => by have := cSerial_ok z.1 5 2 2 z.2 (some ⟨b21, 0, none⟩) 2 2 [0, 0] w mt52 hz (hw.has (i := 1) rfl) (Has.cong ((hw.has (i := 0) rfl).blk_sl (m := 2) rfl) rfl) (by decide) (by omega) (by omega) rfl; rw [enc_0] at this; exact this) (fun _ _ => trivial) (fun q22 hq22 => ?_)
  refine s_mv 19 rfl rfl ?_
  refine s_ext 23 rfl rfl rfl ?_
  refine s_ext 24 rfl rfl rfl ?_
  refine s_as 3 rfl rfl ?_
  refine s_as 4 rfl rfl ?_
  refine SX.next ?_
  refine CW.seq ?_
  refine CW.reg [0, 1, 2, 3, 4, 5, 6, 7] rfl ?_   -- 5, law.go:39
  refine s_mv 26 rfl rfl ?_
  refine s_bsl 27 rfl rfl (cells := #[.int .u8 1, .int .u8 0]) (by kernel_rfl) rfl (fun _ _ => trivial) (fun b27 => ?_)
  refine s_call 28 rfl rfl rfl rfl (fun w hw => by have := cFast_ok z.1 5 2 2 z.2 (some ⟨b27, 0, none⟩) 2 2 [1, 0] w mt52 hz (hw.has (i := 3) rfl) (Has.cong ((hw.has (i := 0) rfl).blk_sl (m := 2) rfl) rfl) (by decide) (by omega) (by omega) rfl; rw [enc_1] at this; exact this) (fun _ _ => trivial) (fun q28 hq28 => ?_)
  refine s_mv 25 rfl rfl ?_
  refine s_ext 29 rfl rfl rfl ?_
  refine s_ext 30 rfl rfl rfl ?_
  refine s_as 5 rfl rfl ?_
  refine s_as 6 rfl rfl ?_
  refine SX.next ?_
  refine CW.seq ?_
  refine CW.reg [0, 1, 2, 3, 4, 5] rfl ?_   -- 6, law.go:40
  refine s_call1 32 rfl rfl rfl rfl (fun w hw => new_code 4 2 1 e w mt42 (by decide) (by decide) (by rw [mt42.deg, dg42]; decide) (by rw [dg42]; decide) (hw.er he)) (fun _ _ => trivial) ?_
  refine s_mv 31 rfl rfl ?_
  refine s_ext 33 rfl rfl rfl ?_
  refine s_ext 34 rfl rfl rfl ?_
  refine s_as 7 rfl rfl ?_
  refine s_as 8 rfl rfl ?_
  refine SX.next ?_
  refine CW.seq ?_
  refine CW.reg [0, 1, 2, 3, 4, 5, 6, 7, 8, 9, 10, 11, 12, 13, 14, 15, 16, 17, 18, 19, 20, 21, 22, 23, 24, 25, 26, 27, 28, 29, 30, 31, 32, 33, 34, 35, 36] rfl ?_   -- 7, law.go:41
  refine s_mv 35 rfl rfl ?_
  refine s_call1 36 rfl rfl rfl rfl (fun w hw => cDeg_spec z.1 5 2 2 z.2 w (hw.has (i := 4) rfl)) (fun _ _ => trivial) ?_
  refine s_eq 37 rfl rfl rfl (decide_eq_true (by rw [dg52]; rfl)) ?_
  refine s_mv 38 rfl rfl ?_
  refine s_mv 39 rfl rfl ?_
  refine s_call1 40 rfl rfl rfl rfl (fun w hw => cBits_spec z.1 5 2 2 z.2 w mt52 (by decide) (hw.has (i := 4) rfl)) (fun _ _ => trivial) ?_
  refine s_eq 41 rfl rfl rfl (decide_eq_true (by rw [dg52]; rfl)) ?_
  refine s_pickT 42 rfl rfl rfl ?_
  refine s_mv 43 rfl rfl ?_
  refine s_mv 44 rfl rfl ?_
  refine s_call1 45 rfl rfl rfl rfl (fun w hw => cPar_spec z.1 5 2 2 z.2 w (hw.has (i := 4) rfl)) (fun _ _ => trivial) ?_
  refine s_eq 46 rfl rfl rfl (decide_eq_true (by unfold prB; rw [dg52]; rfl)) ?_
  refine s_pickT 47 rfl rfl rfl ?_
  refine s_mv 48 rfl rfl ?_
  refine s_mv 49 rfl rfl ?_
  refine s_eqNN 50 rfl rfl ?_
  refine s_pickT 51 rfl rfl rfl ?_
  refine s_mv 52 rfl rfl ?_
  refine s_mv 53 rfl rfl ?_
  refine s_bsl 54 rfl rfl (cells := #[.int .u8 0, .int .u8 0]) (by kernel_rfl) rfl (fun _ _ => trivial) (fun b54 => ?_)
  refine s_call1 55 rfl rfl rfl rfl (v := .bool true) (fun w hw => by have := sameBytes_spec q22.1 2 q22.2 [0, 0] (some ⟨b54, 0, none⟩) 2 2 [0, 0] w ((hw.has (i := 3) rfl).of_own) (by decide) (Has.cong ((hw.has (i := 0) rfl).blk_sl (m := 2) rfl) rfl) (by decide); exact this) (fun _ _ => trivial) ?_
  refine s_pickT 56 rfl rfl rfl ?_
  refine s_mv 57 rfl rfl ?_
  refine s_mv 58 rfl rfl ?_
  refine s_eqNN 59 rfl rfl ?_
  refine s_pickT 60 rfl rfl rfl ?_
  refine s_mv 61 rfl rfl ?_
  refine s_mv 62 rfl rfl ?_
  refine s_bsl 63 rfl rfl (cells := #[.int .u8 105, .int .u8 3]) (by kernel_rfl) rfl (fun _ _ => trivial) (fun b63 => ?_)
  refine s_call1 64 rfl rfl rfl rfl (v := .bool true) (fun w hw => by have := sameBytes_spec q28.1 2 q28.2 [105, 3] (some ⟨b63, 0, none⟩) 2 2 [105, 3] w ((hw.has (i := 2) rfl).of_own) (by decide) (Has.cong ((hw.has (i := 0) rfl).blk_sl (m := 2) rfl) rfl) (by decide); exact this) (fun _ _ => trivial) ?_
  refine s_pickT 65 rfl rfl rfl ?_
  refine s_mv 66 rfl rfl ?_
  refine s_mv 67 rfl rfl ?_
  refine s_ld 68 rfl rfl (fun _ h => h.cell he) ?_
  refine s_eqE 69 rfl rfl rfl ?_
  refine s_pickT 70 rfl rfl rfl ?_
  refine s_as 0 rfl rfl ?_
  refine SX.next ?_
  refine CW.ret ?_
  exact KN.ret (rs := [.tmp 0]) Tryd.results21 rfl (fun w hw => ⟨rfl, hw.nothing⟩)
end Go.Proofs.YtompcfingkoldaaDoor
end
