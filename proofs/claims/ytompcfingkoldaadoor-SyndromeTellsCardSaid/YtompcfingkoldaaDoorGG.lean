/- Texts that all walks share, as one. Conditions: each theorem tells its own. -/
import Derived.Test.YtompcfingkoldaaDoorGF
import Derived.Test.YtompcfingkoldaaDoorGE
import Derived.Test.YtompcfingkoldaaDoorGD
import Derived.Test.YtompcfingkoldaaDoorGB
section
/- How many places differ, walked; places turned. Conditions: the lists are read where they lie. -/
namespace Go.Proofs.YtompcfingkoldaaDoor
open Go Go.Sx Go.Fm Nb
set_option maxRecDepth 100000
theorem dif_step (a b : List Nat) (i : Nat) : dif a b (i + 1) = dif a b i + (if bitN a i ≠ bitN b i then 1 else 0) := by
  show nzc _ i + (if bitN a i ^^^ bitN b i = 0 then 0 else 1) = _
  by_cases h : bitN a i = bitN b i
  · rw [h, Nat.xor_self, if_pos rfl, if_neg (fun e => e rfl)]
    rfl
  · rw [if_neg (fun e => h (xor_eq e)), if_pos h]
    rfl
theorem dif_le (a b : List Nat) : ∀ i, dif a b i ≤ i
  | 0 => Nat.le_refl _
  | i + 1 => by
    have := dif_le a b i
    rw [dif_step]
    split <;> omega
section
variable {m t D : Nat} (h : MT m t)
include h
/-- A place turned makes a right word wrong. -/
theorem flip_wrong {d : List Nat} (hd : d.length = D) (hN : 8 * D + dg m t ≤ N m) (h2 : 2 * t < N m) {k : Nat} (hk : k < 8 * D + dg m t) : encB m t (fpD m t k d) ≠ fpP m t k (encB m t d) := by
  have hp := prB_dg m t
  have hl := encB_len m t d
  unfold fpD fpP
  by_cases hkd : k < dg m t
  · rw [if_pos hkd, if_pos hkd]
    exact fun e => flB_ne (by omega) e.symm
  · rw [if_neg hkd, if_neg hkd]
    exact turned h hd hN h2 (by omega)
omit h
theorem fp_backD {d : List Nat} (hd : d.length = D) (hlt : ∀ x ∈ d, x < 256) {k : Nat} (hk : k < 8 * D + dg m t) : fpD m t k (fpD m t k d) = d := by
  unfold fpD
  by_cases hkd : k < dg m t
  · rw [if_pos hkd, if_pos hkd]
  · rw [if_neg hkd, if_neg hkd]
    exact flB_flB hlt (by omega)
theorem fp_backP {p : List Nat} (hp : p.length = prB m t) (hlt : ∀ x ∈ p, x < 256) (k : Nat) : fpP m t k (fpP m t k p) = p := by
  have := prB_dg m t
  unfold fpP
  by_cases hkd : k < dg m t
  · rw [if_pos hkd, if_pos hkd]
    exact flB_flB hlt (by omega)
  · rw [if_neg hkd, if_neg hkd]
theorem fp_one {d p : List Nat} (hd : d.length = D) (hp : p.length = prB m t) {k : Nat} (hk : k < 8 * D + dg m t) : dif (fpD m t k d) d (8 * (fpD m t k d).length) + dif (fpP m t k p) p (8 * (fpP m t k p).length) = 1 := by
  have := prB_dg m t
  rw [fpD_len, fpP_len]
  unfold fpD fpP
  by_cases hkd : k < dg m t
  · rw [if_pos hkd, if_pos hkd, dif_self, dif_flip (by omega)]
  · rw [if_neg hkd, if_neg hkd, dif_self, dif_flip (by omega)]
/-- Unlike places make unlike words. -/
theorem fp_apart {d p : List Nat} (hd : d.length = D) (hp : p.length = prB m t) {i j : Nat} (hi : i < 8 * D + dg m t) (hj : j < 8 * D + dg m t) (hij : i ≠ j) (he : fpD m t i d = fpD m t j d) : fpP m t i p ≠ fpP m t j p := by
  have := prB_dg m t
  unfold fpD at he
  unfold fpP
  by_cases h1 : i < dg m t
  · rw [if_pos h1] at he ⊢
    by_cases h2 : j < dg m t
    · rw [if_pos h2]
      exact fun e => hij (flB_inj (by omega) (by omega) e)
    · rw [if_neg h2] at he
      exact absurd he.symm (flB_ne (by omega))
  · rw [if_neg h1] at he ⊢
    by_cases h2 : j < dg m t
    · rw [if_pos h2] at he
      exact absurd he (flB_ne (by omega))
    · rw [if_neg h2] at he
      have := flB_inj (by omega) (by omega) he
      omega
end

theorem dist_spec (A : Option Addr) (n c : Nat) (p : List Nat) (A2 : Option Addr) (n2 c2 : Nat) (p2 : List Nat) (w : World) (ha : Has (sl 1 A n (nats .u8 p)) w) (hp : ∀ x ∈ p, x < 256) (hn : n ≤ 1073741824) (hcp : n ≤ c) (ha2 : Has (sl 1 A2 n2 (nats .u8 p2)) w) (hp2 : ∀ x ∈ p2, x < 256) (hn2 : n2 ≤ 1073741824) (hcp2 : n2 ≤ c2) (hl : n = n2) : Spec1 Tryd.prog 26 [.slice A n c, .slice A2 n2 c2] w (.int .i64 ((dif p p2 (8 * n) : Nat) : Int)) := by
  have hla := nats_len ha
  subst hla
  have hla2 := nats_len ha2
  subst hla2
  refine spec_of Tryd.func26 rfl Tryd.ntmps26 rfl ?_
  refine CW.seq ?_
  refine CW.reg [0] rfl ?_   -- 0, code.go:231
  refine s_as 4 rfl rfl ?_
  refine SX.next ?_
  refine CW.seq ?_
  refine CW.reg [0] rfl ?_   -- 1, code.go:232
  refine s_as 5 rfl rfl ?_
  refine SX.next ?_
  refine CW.seq ?_
  refine CW.seq ?_
  refine CW.reg [0] rfl ?_   -- 2, code.go:233
  refine s_as 6 rfl rfl ?_
  refine SX.next ?_
  refine CW.block ?_
  refine CW.loop (G := Nat) (fun i => [(0, .slice A p.length c), (1, .slice A2 p2.length c2), (5, .int .i64 (dif p p2 i : Nat)), (6, .int .i64 (i : Nat))]) (fun _ => Sto w []) (fun i => i ≤ 8 * p.length) (fun i => 8 * p.length - i) 0 ⟨rfl, rfl, rfl, rfl, trivial⟩ (fun _ hw => hw) (Nat.zero_le _) ?_
  intro i hi
  have hdl := dif_le p p2 i
  have hds := dif_step p p2 i
  refine CW.seq ?_
  refine CW.seq ?_
  refine CW.reg [0, 1, 2, 3, 4, 5, 6, 7] rfl ?_   -- 3, code.go:233
  refine s_mv 7 rfl rfl ?_
  refine s_mv 8 rfl rfl ?_
  refine s_len 9 rfl rfl ?_
  refine s_mv 10 rfl rfl ?_
  refine s_len 11 rfl rfl ?_
  refine s_min 12 rfl rfl rfl (r := ((p.length : Nat) : Int)) (by split <;> omega) ?_
  refine s_mul 13 rfl rfl rfl (r := ((8 * p.length : Nat) : Int)) (by rw [show (8 : Int) * ((p.length : Nat) : Int) = ((8 * p.length : Nat) : Int) by omega]; exact w64 (by omega)) ?_
  refine s_lt 14 rfl rfl rfl rfl ?_
  refine SX.next ?_
  refine CW.test rfl (fun hc => ?_) (fun hc => ?_)
  · skip
    refine CW.skip ?_
    refine KN.code ?_
    refine CW.seq ?_
    refine CW.block ?_
    refine CW.seq ?_
    refine CW.reg [0, 1, 2, 3, 4, 5, 6] rfl ?_   -- 5, code.go:234
    refine s_mv 17 rfl rfl ?_
    refine s_mv 18 rfl rfl ?_
    refine s_call1 19 rfl rfl rfl rfl (v := .int .i64 (bitN p i : Nat)) (fun w hw => by have := rBit_spec A p.length c p (i : Nat) w (hw.old ha) hp hn hcp (by omega); rw [bitI_nat] at this; exact this) (fun _ _ => trivial) ?_
    refine s_mv 20 rfl rfl ?_
    refine s_mv 21 rfl rfl ?_
    refine s_call1 22 rfl rfl rfl rfl (v := .int .i64 (bitN p2 i : Nat)) (fun w hw => by have := rBit_spec A2 p2.length c2 p2 (i : Nat) w (hw.old ha2) hp2 hn2 hcp2 (by omega); rw [bitI_nat] at this; exact this) (fun _ _ => trivial) ?_
    refine s_ne 23 rfl rfl rfl rfl ?_
    refine SX.next ?_
    refine CW.test rfl (fun hc => ?_) (fun hc => ?_)
    · skip
      have hnx : dif p p2 (i + 1) = dif p p2 i + 1 := by rw [hds, if_pos (by omega)]
      refine CW.reg [0, 1, 2] rfl ?_   -- 6, code.go:235
      refine s_mv 24 rfl rfl ?_
      refine s_add 25 rfl rfl rfl (r := ((dif p p2 i + 1 : Nat) : Int)) (w64 (by omega)) ?_
      refine s_as 5 rfl rfl ?_
      refine SX.end_ ?_
      refine KN.blk ?_
      refine KN.code ?_
      refine CW.reg [0, 1, 2] rfl ?_   -- 4, code.go:233
      refine s_mv 15 rfl rfl ?_
      refine s_add 16 rfl rfl rfl (r := ((i + 1 : Nat) : Int)) (w64 (by omega)) ?_
      refine s_as 6 rfl rfl ?_
      refine SX.end_ ?_
      exact KN.back (i + 1) ⟨rfl, rfl, by rw [hnx]; rfl, rfl, trivial⟩ (fun _ hw => hw) (by omega) (by omega)
    · skip
      have hnx : dif p p2 (i + 1) = dif p p2 i := by rw [hds, if_neg (by omega)]; rfl
      refine CW.skip ?_
      refine KN.blk ?_
      refine KN.code ?_
      refine CW.reg [0, 1, 2] rfl ?_   -- 4, code.go:233
      refine s_mv 15 rfl rfl ?_
      refine s_add 16 rfl rfl rfl (r := ((i + 1 : Nat) : Int)) (w64 (by omega)) ?_
      refine s_as 6 rfl rfl ?_
      refine SX.end_ ?_
      exact KN.back (i + 1) ⟨rfl, rfl, by rw [hnx]; rfl, rfl, trivial⟩ (fun _ hw => hw) (by omega) (by omega)
  · skip
    obtain rfl : i = 8 * p.length := by omega
    refine CW.exit rfl ?_
    refine KN.code ?_
    refine CW.seq ?_
    refine CW.reg [0, 1, 2, 3, 4, 5, 6, 7, 8, 9, 10, 11, 12, 13, 14] rfl ?_   -- 7, code.go:238
    refine s_mv 26 rfl rfl ?_
    refine s_mv 27 rfl rfl ?_
    refine s_len 28 rfl rfl ?_
    refine s_mv 29 rfl rfl ?_
    refine s_len 30 rfl rfl ?_
    refine s_max 31 rfl rfl rfl (r := ((p.length : Nat) : Int)) (by split <;> omega) ?_
    refine s_mv 32 rfl rfl ?_
    refine s_len 33 rfl rfl ?_
    refine s_mv 34 rfl rfl ?_
    refine s_len 35 rfl rfl ?_
    refine s_min 36 rfl rfl rfl (r := ((p.length : Nat) : Int)) (by split <;> omega) ?_
    refine s_sub 37 rfl rfl rfl (r := 0) (by rw [Int.sub_self]; rfl) ?_
    refine s_mul 38 rfl rfl rfl (r := 0) (by rw [Int.mul_zero]; rfl) ?_
    refine s_add 39 rfl rfl rfl (r := ((dif p p2 (8 * p.length) : Nat) : Int)) (by rw [Int.add_zero]; exact w64 (by omega)) ?_
    refine s_as 4 rfl rfl ?_
    refine SX.next ?_
    refine CW.ret ?_
    exact KN.ret (rs := [.tmp 4]) Tryd.results26 rfl (fun w hw => ⟨rfl, hw.nothing⟩)
end Go.Proofs.YtompcfingkoldaaDoor
end
section
/- Values of words and of places. No program. -/
namespace Go.Proofs.YtompcfingkoldaaDoor
open Go Go.Sx Go.Fm Nb
/-- The sum of the powers of some places. -/
def sv (m : Nat) (L : List Nat) (i : Nat) : Nat := xl L (fun p => exz m ((p * i : Nat) : Int))
def synL (m t : Nat) (L : List Nat) : List Nat := tb (2 * t) (fun i => sv m L (i + 1))
theorem synL_len (m t : Nat) (L : List Nat) : (synL m t L).length = 2 * t := tb_len _ _
theorem sv_lt {m : Nat} (hm : Ok m) (L : List Nat) (i : Nat) : sv m L i < 2 ^ m := xl_lt (fun _ _ => exz_lt hm _)
theorem sv_snoc (m : Nat) (L : List Nat) (p i : Nat) : sv m (L ++ [p]) i = sv m L i ^^^ exz m ((p * i : Nat) : Int) := xl_snoc _ _ _
theorem sv_sq {m : Nat} (hm : Ok m) (i : Nat) (L : List Nat) : gm m (sv m L i) (sv m L i) = sv m L (2 * i) :=
  snoc_ind (P := fun L => gm m (sv m L i) (sv m L i) = sv m L (2 * i)) (gm_zero_right m 0) (fun L p ih => by
    rw [sv_snoc, sv_snoc, sq_xor hm (sv_lt hm _ _) (exz_lt hm _), ih, exz_add hm]
    rw [Nat.two_mul, Nat.mul_add, Int.natCast_add]) L
/-- The numbers below n that are chosen. -/
def selL (f : Nat → Bool) : Nat → List Nat
  | 0 => []
  | k + 1 => selL f k ++ (if f k then [k] else [])
theorem selL_mem (f : Nat → Bool) {k : Nat} : ∀ {n : Nat}, k ∈ selL f n ↔ k < n ∧ f k = true
  | 0 => by simp [selL]
  | n + 1 => by
    unfold selL
    rw [List.mem_append, selL_mem f]
    by_cases h : f n = true
    · rw [if_pos h, List.mem_singleton]
      constructor
      · rintro (⟨h1, h2⟩ | rfl)
        · exact ⟨by omega, h2⟩
        · exact ⟨by omega, h⟩
      · rintro ⟨h1, h2⟩
        by_cases h3 : k = n
        · exact .inr h3
        · exact .inl ⟨by omega, h2⟩
    · rw [if_neg h]
      constructor
      · rintro (⟨h1, h2⟩ | h3)
        · exact ⟨by omega, h2⟩
        · cases h3
      · rintro ⟨h1, h2⟩
        refine .inl ⟨?_, h2⟩
        by_cases h3 : k = n
        · subst h3; exact absurd h2 h
        · omega
theorem selL_nodup (f : Nat → Bool) : ∀ n, (selL f n).Nodup
  | 0 => List.nodup_nil
  | n + 1 => by
    unfold selL
    split
    · rw [List.nodup_append]
      refine ⟨selL_nodup f n, List.pairwise_singleton _ _, fun x hx y hy => ?_⟩
      rw [List.mem_singleton.1 hy]
      have := ((selL_mem f).1 hx).1
      omega
    · rw [List.append_nil]
      exact selL_nodup f n
theorem selL_congr {f g : Nat → Bool} : ∀ {n : Nat}, (∀ k, k < n → f k = g k) → selL f n = selL g n
  | 0, _ => rfl
  | n + 1, h => by
    unfold selL
    rw [selL_congr (n := n) (fun k hk => h k (by omega)), h n (by omega)]
theorem selL_inj {f g : Nat → Bool} {n : Nat} (h : selL f n = selL g n) {k : Nat} (hk : k < n) : f k = g k := by
  have h1 := selL_mem f (k := k) (n := n)
  have h2 := selL_mem g (k := k) (n := n)
  rw [h] at h1
  cases hf : f k <;> cases hg : g k <;> simp_all
theorem selL_none {f : Nat → Bool} : ∀ {n : Nat}, (∀ k, k < n → f k = false) → selL f n = []
  | 0, _ => rfl
  | n + 1, h => by
    unfold selL
    rw [selL_none (n := n) (fun k hk => h k (by omega)), h n (by omega)]
    rfl
theorem selL_xor (f g : Nat → Bool) : ∀ n, (selL (fun k => f k != g k) n).length ≤ (selL f n).length + (selL g n).length
  | 0 => Nat.le_refl _
  | n + 1 => by
    have := selL_xor f g n
    unfold selL
    simp only [List.length_append]
    cases f n <;> cases g n <;> simp <;> omega
theorem sv_sel (m : Nat) (f : Nat → Bool) (i : Nat) : ∀ n, sv m (selL f n) i = xs (fun k => if f k then exz m ((k * i : Nat) : Int) else 0) n
  | 0 => rfl
  | n + 1 => by
    show sv m (selL f n ++ (if f n then [n] else [])) i = xs _ n ^^^ (if f n then exz m ((n * i : Nat) : Int) else 0)
    rw [← sv_sel m f i n]
    split
    · exact sv_snoc m _ _ _
    · rw [List.append_nil, Nat.xor_zero]
theorem sv_xor (m : Nat) (f g : Nat → Bool) (i n : Nat) : sv m (selL (fun k => f k != g k) n) i = sv m (selL f n) i ^^^ sv m (selL g n) i := by
  rw [sv_sel, sv_sel, sv_sel, ← xs_xor]
  refine xs_congr (fun k _ => ?_)
  cases f k <;> cases g k <;> simp
/-- Of few unlike places the values are not all 0. -/
theorem sel_far {m : Nat} (hm : Ok m) {f : Nat → Bool} {n T : Nat} (hn : n ≤ N m) (hT : (selL f n).length ≤ T) (hz : ∀ i, i < T → sv m (selL f n) (i + 1) = 0) : selL f n = [] :=
  far hm (selL_nodup f n) (fun s hs => by have := ((selL_mem f).1 hs).1; omega) (fun x h1 h2 => by
    have := hz (x - 1) (by omega)
    rw [Nat.sub_add_cancel h1] at this
    exact this)
/-! ### Words -/
/-- A word's coefficient. -/
def wc (m t : Nat) (d p : List Nat) (k : Nat) : Nat := if k < dg m t then bitN p k else bitN d (k - dg m t)
theorem wc_lt (m t : Nat) (d p : List Nat) (k : Nat) : wc m t d p k < 2 := by unfold wc; split <;> exact bitN_lt _ _
def wf (m t : Nat) (d p : List Nat) (k : Nat) : Bool := decide (0 < wc m t d p k)
/-- Where a word is not 0. -/
def posL (m t : Nat) (d p : List Nat) (n : Nat) : List Nat := selL (wf m t d p) n
theorem posL_succ (m t : Nat) (d p : List Nat) (n : Nat) : posL m t d p (n + 1) = posL m t d p n ++ (if 0 < wc m t d p n then [n] else []) := by
  show selL _ n ++ _ = selL _ n ++ _
  congr 1
  unfold wf
  by_cases h : 0 < wc m t d p n
  · rw [if_pos (decide_eq_true h), if_pos h]
  · rw [if_neg (by simp [h]), if_neg h]
theorem evL_sel {m : Nat} (hm : Ok m) {W : List Nat} (hW : B1 W) {n : Nat} (hl : W.length ≤ n) (i : Nat) : evL m W (exz m (i : Nat)) = xs (fun k => if 0 < cf W k then exz m ((k * i : Nat) : Int) else 0) n := by
  have e1 : xs (fun k => gm m (cf W k) (fpw m (exz m (i : Nat)) k)) W.length = xs (fun k => gm m (cf W k) (fpw m (exz m (i : Nat)) k)) n := xs_any (fun k hk => by rw [cf_out hk, gm_zero_left]) (fun k hk => by rw [cf_out (by omega), gm_zero_left])
  rw [evL_xs hm (exz_lt hm _) (b1_tr hm hW).lt, e1]
  refine xs_congr (fun k _ => ?_)
  have := hW.le k
  rcases (show cf W k = 0 ∨ cf W k = 1 by omega) with h0 | h0
  · rw [h0, gm_zero_left, if_neg (by omega)]
  · rw [h0, if_pos (by omega), gm_comm hm (one_lt hm) (fpw_lt hm _ _), gm_one_right hm (fpw_lt hm _ _), exz_fpw hm]
    congr 1
    push_cast
    exact Int.mul_comm _ _
section
variable {m t : Nat} (h : MT m t)
include h
/-- A right word's values are 0. -/
theorem right_zero {d : List Nat} {D : Nat} (hd : d.length = D) {i : Nat} (h1 : 1 ≤ i) (hi : i ≤ 2 * t) (hN : i < N m) : sv m (posL m t d (encB m t d) (8 * D + dg m t)) i = 0 := by
  have hA := bl_b1 d
  have hE := h.eb hA
  have hW := addP_b1 (upP_b1 hA (dg m t)) hE
  have hz := word_zero h.ok h.g2 hA h1 hi hN
  have hcf : ∀ j, j < 8 * D + dg m t → cf (addP (upP (dg m t) (bl d)) (encE (genL m (ldr m t).1) (bl d))) j = wc m t d (encB m t d) j := fun j hj => by
    have hpd : dg m t ≤ 8 * prB m t := by unfold prB; omega
    rw [cf_addP, cf_upP]
    unfold wc
    by_cases hjd : j < dg m t
    · rw [if_neg (by omega), if_pos hjd, Nat.zero_xor, enc_cf h d (by omega)]
    · rw [if_pos (by omega), if_neg hjd, enc_hi h hA (by omega), Nat.xor_zero, cf_bl]
  have hWl : (addP (upP (dg m t) (bl d)) (encE (genL m (ldr m t).1) (bl d))).length ≤ 8 * D + dg m t := by
    refine b1_len hW (fun j hj => ?_)
    have hbl := bl_len d
    rw [cf_addP, cf_upP, if_pos (by omega), enc_hi h hA (by omega), Nat.xor_zero]
    exact cf_out (by omega)
  unfold posL
  rw [sv_sel]
  have he := evL_sel h.ok hW hWl i
  rw [show evL m (addP (upP (dg m t) (bl d)) (encE (genL m (ldr m t).1) (bl d))) (exz m (i : Nat)) = 0 from hz] at he
  refine Eq.trans (xs_congr (fun k hk => ?_)) he.symm
  rw [hcf k hk]
  unfold wf
  by_cases h0 : 0 < wc m t d (encB m t d) k
  · rw [if_pos (decide_eq_true h0), if_pos h0]
  · rw [if_neg (by simp [h0]), if_neg h0]
omit h
/-- The word of two words' sums. -/
theorem wc_xor {d e u v : List Nat} (hd : d.length = e.length) (hu : u.length = v.length) (k : Nat) : wc m t (xorL d e) (xorL u v) k = wc m t d u k ^^^ wc m t e v k := by
  have hb : ∀ {a b : List Nat}, a.length = b.length → ∀ j, bitN (xorL a b) j = bitN a j ^^^ bitN b j := fun hl j => by
    rw [← cf_bl, bl_xor hl, cf_addP, cf_bl, cf_bl]
  unfold wc
  split
  · exact hb hu k
  · exact hb hd _
theorem wf_xor {d e u v : List Nat} (hd : d.length = e.length) (hu : u.length = v.length) (k : Nat) : wf m t (xorL d e) (xorL u v) k = (wf m t d u k != wf m t e v k) := by
  unfold wf
  rw [wc_xor hd hu]
  have h1 := wc_lt m t d u k
  have h2 := wc_lt m t e v k
  rcases (show wc m t d u k = 0 ∨ wc m t d u k = 1 by omega) with h3 | h3 <;> rcases (show wc m t e v k = 0 ∨ wc m t e v k = 1 by omega) with h4 | h4 <;> rw [h3, h4] <;> rfl
/-- A word with a place turned. -/
theorem wc_flip {d p : List Nat} {D : Nat} (hd : d.length = D) (hp : p.length = prB m t) {k : Nat} (hk : k < 8 * D + dg m t) (j : Nat) : wc m t (fpD m t k d) (fpP m t k p) j = wc m t d p j ^^^ (if j = k then 1 else 0) := by
  have hpd : dg m t ≤ 8 * prB m t := by unfold prB; omega
  unfold wc fpD fpP
  by_cases h1 : k < dg m t
  · rw [if_pos h1, if_pos h1]
    by_cases h2 : j < dg m t
    · rw [if_pos h2, if_pos h2, flB_bit (by omega)]
    · rw [if_neg h2, if_neg h2, if_neg (by omega), Nat.xor_zero]
  · rw [if_neg h1, if_neg h1]
    by_cases h2 : j < dg m t
    · rw [if_pos h2, if_pos h2, if_neg (by omega), Nat.xor_zero]
    · rw [if_neg h2, if_neg h2, flB_bit (by omega)]
      by_cases h3 : j = k
      · rw [if_pos h3, if_pos (by omega)]
      · rw [if_neg h3, if_neg (by omega)]
theorem sv_flip {d p : List Nat} {D : Nat} (hd : d.length = D) (hp : p.length = prB m t) {k : Nat} (hk : k < 8 * D + dg m t) (i : Nat) : sv m (posL m t (fpD m t k d) (fpP m t k p) (8 * D + dg m t)) i = sv m (posL m t d p (8 * D + dg m t)) i ^^^ exz m ((k * i : Nat) : Int) := by
  have e : posL m t (fpD m t k d) (fpP m t k p) (8 * D + dg m t) = selL (fun j => wf m t d p j != decide (j = k)) (8 * D + dg m t) := selL_congr (fun j _ => by
    unfold wf
    rw [wc_flip hd hp hk]
    have h1 := wc_lt m t d p j
    have h5 : ∀ x : Nat, x < 2 → ∀ b : Bool, decide (0 < x ^^^ (if b = true then 1 else 0)) = (decide (0 < x) != b) := by decide
    have := h5 _ h1 (decide (j = k))
    rw [← this]
    congr 2
    by_cases h4 : j = k <;> simp [h4])
  rw [e, sv_xor]
  congr 1
  rw [sv_sel, xs_one hk (fun j hj hne => by simp [hne])]
  simp
end
end Go.Proofs.YtompcfingkoldaaDoor
end
section
/- Package syndrome, walked. Conditions: the code was made by New; the errors' variables. -/
namespace Go.Proofs.YtompcfingkoldaaDoor
open Go Go.Sx Go.Fm Nb
set_option maxRecDepth 100000
theorem rI_at' {n i : Nat} {f : Nat → Nat} (h : i < n) : (nats .i64 (tb n f)).toArray[i]? = some (.int .i64 (f i : Nat)) := by
  rw [List.getElem?_toArray, nats, List.getElem?_map, tb_get h]
  rfl
def sI (n : Nat) (f : Nat → Nat) : Array Value := (nats .i64 (tb n f)).toArray
theorem sI_at {n i : Nat} {f : Nat → Nat} (h : i < n) : (sI n f)[i]? = some (.int .i64 (f i : Nat)) := rI_at' h
theorem sI_set (n : Nat) (f : Nat → Nat) (i v : Nat) : (sI n f).setIfInBounds i (.int .i64 (v : Nat)) = sI n (fun j => if j = i then v else f j) := by
  unfold sI
  rw [List.setIfInBounds_toArray, nats_set, tb_set]
theorem sI_size (n : Nat) (f : Nat → Nat) : (sI n f).size = n := by simp [sI, nats, tb_len]
theorem sI_zero (n : Nat) : (List.replicate n (Value.int .i64 0)).toArray = sI n (fun _ => 0) := by
  unfold sI tb nats
  rw [List.map_map]
  show _ = ((List.range n).map (fun _ => Value.int .i64 0)).toArray
  rw [List.map_const', List.length_range]
/-- The values, as far as they are summed. -/
def vq (m : Nat) (L : List Nat) (p i j : Nat) : Nat := if j < i then sv m (L ++ [p]) (j + 1) else sv m L (j + 1)
theorem vq_zero (m : Nat) (L : List Nat) (p : Nat) : vq m L p 0 = fun j => sv m L (j + 1) := by funext j; unfold vq; rw [if_neg (by omega)]
theorem vq_next (m : Nat) (L : List Nat) (p i : Nat) : (fun j => if j = i then sv m L (i + 1) ^^^ exz m ((p * (i + 1) : Nat) : Int) else vq m L p i j) = vq m L p (i + 1) := by
  funext j
  unfold vq
  by_cases h : j = i
  · subst h; rw [if_pos rfl, if_pos (by omega), sv_snoc]
  · rw [if_neg h]
    by_cases h2 : j < i
    · rw [if_pos h2, if_pos (by omega)]
    · rw [if_neg h2, if_neg (by omega)]
theorem vq_all (m t : Nat) (L : List Nat) (p : Nat) : sI (2 * t) (vq m L p (2 * t)) = sI (2 * t) (fun j => sv m (L ++ [p]) (j + 1)) := by
  unfold sI
  rw [tb_congr (fun i hi => by unfold vq; rw [if_pos hi])]
theorem sv_nil (m : Nat) : (fun j => sv m [] (j + 1)) = fun _ => 0 := rfl
theorem exz_step {m : Nat} (hm : Ok m) (p j : Nat) : gm m (exz m ((p * j : Nat) : Int)) (exz m (p : Nat)) = exz m ((p * (j + 1) : Nat) : Int) := by
  rw [exz_add hm, Nat.mul_succ, Int.natCast_add]

theorem values_spec (cc m t D : Nat) (q : CodeG) (A : Option Addr) (c : Nat) (l : List Nat) (w : World) (hMT : MT m t) (hcd : Has (codeA cc m t D q) w) (ha : Has (sl 1 A l.length (nats .i64 l)) w) (hln : l.length ≤ 1073741824) : SpecX Tryd.prog 125 [.pointer (some ⟨cc, 0, none⟩), .slice A l.length c] w (X := Option Addr × Nat) (fun z => .slice z.1 (synL m t l).length z.2) (fun z => (synL m t l).length ≤ z.2) (fun z => [own 3 1 z.1 (synL m t l).length z.2 (nats .i64 (synL m t l))]) := by
  obtain ⟨hcb, hgn, hlw, hfd, hst⟩ := code_at hcd
  have hm := hMT.ok
  have h40 := hMT.t40
  refine spec_of Tryd.func125 rfl Tryd.ntmps125 rfl ?_
  refine CW.seq ?_
  refine CW.reg [0] rfl ?_   -- 0, syndrome.go:11
  refine s_as 4 rfl rfl ?_
  refine SX.next ?_
  refine CW.seq ?_
  refine CW.reg [0, 1, 2, 3, 4] rfl ?_   -- 1, syndrome.go:12
  refine s_mv 13 rfl rfl ?_
  refine s_call1 14 rfl rfl rfl rfl (fun w hw => cT_spec cc m t D q w (hw.old hcd)) (fun _ _ => trivial) ?_
  refine s_mul 15 rfl rfl rfl (r := ((2 * t : Nat) : Int)) (by rw [show (2 : Int) * ((t : Nat) : Int) = ((2 * t : Nat) : Int) by omega]; exact w64 (by omega)) ?_
  refine s_make 16 (2 * t) rfl rfl rfl rfl rfl (by omega) (fun _ _ => trivial) (fun b => ?_)
  refine s_as 5 rfl rfl ?_
  refine SX.next ?_
  refine CW.seq ?_
  refine CW.reg [0, 1, 2] rfl ?_   -- 2, syndrome.go:13
  refine s_mv 17 rfl rfl ?_
  refine s_call1 18 rfl rfl rfl rfl (fun w hw => cField_spec cc m t D q w (hw.old hcd)) (fun _ _ => trivial) ?_
  refine s_as 6 rfl rfl ?_
  refine SX.next ?_
  refine CW.seq ?_
  refine CW.reg [0, 1, 2] rfl ?_   -- 3, syndrome.go:14
  refine s_mv 19 rfl rfl ?_
  refine s_mkf 20 rfl rfl rfl ?_
  refine s_as 7 rfl rfl ?_
  refine SX.next ?_
  refine CW.seq ?_
  refine CW.seq ?_
  refine CW.reg [0, 1, 2] rfl ?_   -- 4, syndrome.go:15
  refine s_mv 21 rfl rfl ?_
  refine s_len 22 rfl rfl ?_
  refine s_mv 23 rfl rfl ?_
  refine SX.next ?_
  refine CW.block ?_
  refine CW.loop (G := Nat) (fun i => [(5, .slice (some ⟨b, 0, none⟩) (2 * t) (2 * t)), (6, .pointer (some ⟨q.f, 0, none⟩)), (7, .func (.func 131) #[.pointer (some ⟨q.f, 0, none⟩)] #[]), (21, .slice A l.length c), (22, .int .i64 (l.length : Nat)), (23, .int .i64 (i : Nat))]) (fun i => Sto w [blk b 3 (sI (2 * t) (fun j => sv m (l.take i) (j + 1)))]) (fun i => i ≤ l.length) (fun i => l.length - i) 0 ⟨rfl, rfl, rfl, rfl, rfl, rfl, trivial⟩ (fun _ hw => by rw [List.take_zero, sv_nil, ← sI_zero]; exact hw) (Nat.zero_le _) ?_
  intro i hi
  refine CW.seq ?_
  refine CW.reg [0] rfl ?_   -- 5, syndrome.go:15
  refine s_lt 24 rfl rfl rfl rfl ?_
  refine SX.next ?_
  refine CW.seq ?_
  refine CW.test rfl (fun hc => ?_) (fun hc => ?_)
  · skip
    obtain ⟨p, hp⟩ : ∃ p, l[i]? = some p := ⟨_, List.getElem?_eq_getElem (by omega)⟩
    have htk : l.take (i + 1) = l.take i ++ [p] := by rw [List.take_add_one, hp]; rfl
    refine CW.skip ?_
    refine KN.code ?_
    refine CW.seq ?_
    refine CW.block ?_
    refine CW.seq ?_
    refine CW.reg [0, 1, 2] rfl ?_   -- 6, syndrome.go:15
    refine s_iaV 25 i (fun w hw => hw.old ha) rfl rfl rfl rfl (by omega) ?_
    refine s_ldV 26 (v := .int .i64 (p : Nat)) (fun w hw => hw.old ha) rfl rfl (by rw [Nat.mul_one, nats, List.getElem?_map, hp]; rfl) (by omega) ?_
    refine s_as 9 rfl rfl ?_
    refine SX.next ?_
    refine CW.seq ?_
    refine CW.reg [0, 1, 2, 3] rfl ?_   -- 7, syndrome.go:16
    refine s_mv 27 rfl rfl ?_
    refine s_mv 28 rfl rfl ?_
    refine s_call1 29 rfl rfl rfl rfl (v := .int .i64 (exz m (p : Nat) : Nat)) (fun w hw => exp_spec q.f m (p : Nat) w hm (hw.old hfd)) (fun _ _ => trivial) ?_
    refine s_as 10 rfl rfl ?_
    refine SX.next ?_
    refine CW.seq ?_
    refine CW.reg [0] rfl ?_   -- 8, syndrome.go:17
    refine s_as 11 rfl rfl ?_
    refine SX.next ?_
    refine CW.seq ?_
    refine CW.reg [0, 1, 2] rfl ?_   -- 9, syndrome.go:18
    refine s_mv 30 rfl rfl ?_
    refine s_len 31 rfl rfl ?_
    refine s_mv 32 rfl rfl ?_
    refine SX.next ?_
    refine CW.block ?_
    refine CW.loop (G := Nat) (fun j => [(5, .slice (some ⟨b, 0, none⟩) (2 * t) (2 * t)), (6, .pointer (some ⟨q.f, 0, none⟩)), (7, .func (.func 131) #[.pointer (some ⟨q.f, 0, none⟩)] #[]), (10, .int .i64 (exz m (p : Nat) : Nat)), (11, .int .i64 (exz m ((p * j : Nat) : Int) : Nat)), (21, .slice A l.length c), (22, .int .i64 (l.length : Nat)), (23, .int .i64 (i : Nat)), (31, .int .i64 (2 * t : Nat)), (32, .int .i64 (j : Nat))]) (fun j => Sto w [blk b 3 (sI (2 * t) (vq m (l.take i) p j))]) (fun j => j ≤ 2 * t) (fun j => 2 * t - j) 0 ⟨rfl, rfl, rfl, rfl, by rw [Nat.mul_zero, show ((0 : Nat) : Int) = 0 from rfl, exz_zero hm]; rfl, rfl, rfl, rfl, rfl, rfl, trivial⟩ (fun _ hw => by rw [vq_zero]; exact hw) (Nat.zero_le _) ?_
    intro j hj
    have hx1 := exz_lt hm ((p * (j + 1) : Nat) : Int)
    have hx0 := exz_lt hm ((p * j : Nat) : Int)
    have hxs := exz_lt hm (p : Nat)
    have hsv := sv_lt hm (l.take i) (j + 1)
    refine CW.seq ?_
    refine CW.reg [0] rfl ?_   -- 10, syndrome.go:18
    refine s_lt 33 rfl rfl rfl rfl ?_
    refine SX.next ?_
    refine CW.seq ?_
    refine CW.test rfl (fun hc => ?_) (fun hc => ?_)
    · skip
      refine CW.skip ?_
      refine KN.code ?_
      refine CW.seq ?_
      refine CW.block ?_
      refine CW.seq ?_
      refine CW.reg [0, 1] rfl ?_   -- 11, syndrome.go:18
      refine s_mv 34 rfl rfl ?_
      refine s_as 12 rfl rfl ?_
      refine SX.next ?_
      refine CW.seq ?_
      refine CW.reg [0, 1, 2, 3, 4] rfl ?_   -- 12, syndrome.go:19
      refine s_mv 35 rfl rfl ?_
      refine s_mv 36 rfl rfl ?_
      refine s_mv 37 rfl rfl ?_
      refine s_call1 38 rfl rfl rfl rfl (v := .int .i64 (exz m ((p * (j + 1) : Nat) : Int) : Nat)) (fun w hw => by have := mul_spec q.f m (exz m ((p * j : Nat) : Int) : Nat) (exz m (p : Nat) : Nat) w hm (hw.old hfd); rw [lo_nat hx0, lo_nat hxs, exz_step hm] at this; exact this) (fun _ _ => trivial) ?_
      refine s_as 11 rfl rfl ?_
      refine SX.next ?_
      refine CW.reg [0, 1, 2, 3, 4, 5, 6, 7, 8, 9, 10] rfl ?_   -- 13, syndrome.go:20
      refine s_mv 39 rfl rfl ?_
      refine s_mv 40 rfl rfl ?_
      refine s_mv 41 rfl rfl ?_
      refine s_mv 42 rfl rfl ?_
      refine s_mv 43 rfl rfl ?_
      refine s_ia0 44 j rfl rfl rfl rfl (by omega) ?_
      refine s_ldB 45 0 rfl rfl rfl (v := .int .i64 (sv m (l.take i) (j + 1) : Nat)) (by rw [sI_at (by omega)]; unfold vq; rw [if_neg (by omega)]) ?_
      refine s_mv 46 rfl rfl ?_
      refine s_call1 47 rfl rfl rfl rfl (v := .int .i64 ((sv m (l.take i) (j + 1) ^^^ exz m ((p * (j + 1) : Nat) : Int) : Nat) : Int)) (fun w hw => by have := add_spec q.f m (sv m (l.take i) (j + 1) : Nat) (exz m ((p * (j + 1) : Nat) : Int) : Nat) w hm (hw.old hfd); rw [lo_nat hsv, lo_nat hx1] at this; exact this) (fun _ _ => trivial) ?_
      refine s_ia0 48 j rfl rfl rfl rfl (by omega) ?_
      refine s_stB 0 rfl rfl rfl rfl rfl (by rw [sI_size]; omega) (fun _ _ => trivial) ?_
      refine SX.end_ ?_
      refine KN.blk ?_
      refine KN.code ?_
      refine CW.reg [0, 1] rfl ?_   -- 14, syndrome.go:18
      refine s_add 49 rfl rfl rfl (r := ((j + 1 : Nat) : Int)) (w64 (by omega)) ?_
      refine s_mv 32 rfl rfl ?_
      refine SX.end_ ?_
      exact KN.back (j + 1) ⟨rfl, rfl, rfl, rfl, rfl, rfl, rfl, rfl, rfl, rfl, trivial⟩ (fun _ hw => by rw [← vq_next, ← sI_set]; exact hw) (by omega) (by omega)
    · skip
      obtain rfl : j = 2 * t := by omega
      refine CW.exit rfl ?_
      refine KN.blk ?_
      refine KN.code ?_
      refine CW.reg [0, 1] rfl ?_   -- 15, syndrome.go:15
      refine s_add 50 rfl rfl rfl (r := ((i + 1 : Nat) : Int)) (w64 (by omega)) ?_
      refine s_mv 23 rfl rfl ?_
      refine SX.end_ ?_
      exact KN.back (i + 1) ⟨rfl, rfl, rfl, rfl, rfl, rfl, trivial⟩ (fun _ hw => by rw [htk, ← vq_all]; exact hw) (by omega) (by omega)
  · skip
    obtain rfl : i = l.length := by omega
    refine CW.exit rfl ?_
    refine KN.code ?_
    refine CW.seq ?_
    refine CW.reg [0, 1] rfl ?_   -- 16, syndrome.go:23
    refine s_mv 51 rfl rfl ?_
    refine s_as 4 rfl rfl ?_
    refine SX.next ?_
    refine CW.ret ?_
    exact KN.ret (rs := [.tmp 4]) Tryd.results125 rfl (fun w hw => ⟨(some ⟨b, 0, none⟩, 2 * t), by rw [synL_len]; rfl, by rw [synL_len]; exact Nat.le_refl _, by
  rw [List.take_length] at hw
  rw [synL_len]
  exact hw.blkOwn (q := 0) (c := 2 * t) (sz := 1) rfl (by simp [synL_len]) (by unfold maxLen; omega)⟩)

theorem of7_ok (cc m t D : Nat) (q : CodeG) (A : Option Addr) (n c : Nat) (p : List Nat) (A2 : Option Addr) (n2 c2 : Nat) (p2 : List Nat) (w : World) (hMT : MT m t) (hDm : D ≤ 2048) (hcd : Has (codeA cc m t D q) w) (ha : Has (sl 1 A n (nats .u8 p)) w) (hp : ∀ x ∈ p, x < 256) (hn : n ≤ 1073741824) (hcp : n ≤ c) (ha2 : Has (sl 1 A2 n2 (nats .u8 p2)) w) (hp2 : ∀ x ∈ p2, x < 256) (hn2 : n2 ≤ 1073741824) (hcp2 : n2 ≤ c2) (hnD : n = D) (hn2 : n2 = prB m t) : SpecX Tryd.prog 53 [.pointer (some ⟨cc, 0, none⟩), .slice A n c, .slice A2 n2 c2] w (X := Option Addr × Nat) (fun z => two (.slice z.1 (synL m t (posL m t p p2 (8 * D + dg m t))).length z.2) .nilIface) (fun z => (synL m t (posL m t p p2 (8 * D + dg m t))).length ≤ z.2) (fun z => [own 3 1 z.1 (synL m t (posL m t p p2 (8 * D + dg m t))).length z.2 (nats .i64 (synL m t (posL m t p p2 (8 * D + dg m t))))]) := by
  have hla := nats_len ha
  subst hla
  have hla2 := nats_len ha2
  subst hla2
  have hd5 := hMT.d560
  have hpd := prB_dg m t
  refine spec_of Tryd.func53 rfl Tryd.ntmps53 rfl ?_
  refine CW.seq ?_
  refine CW.reg [0, 1] rfl ?_   -- 0, syndrome.go:27
  refine s_as 6 rfl rfl ?_
  refine s_as 7 rfl rfl ?_
  refine SX.next ?_
  refine CW.seq ?_
  refine CW.seq ?_
  refine CW.reg [0, 1, 2, 3, 4, 5, 6, 7, 8, 9, 10, 11] rfl ?_   -- 1, syndrome.go:28
  refine s_mv 12 rfl rfl ?_
  refine s_len 13 rfl rfl ?_
  refine s_mv 14 rfl rfl ?_
  refine s_call1 15 rfl rfl rfl rfl (fun w hw => cData_spec cc m t D q w (hw.old hcd)) (fun _ _ => trivial) ?_
  refine s_ne 16 rfl rfl rfl (decide_eq_false (by omega)) ?_
  refine s_mv 17 rfl rfl ?_
  refine s_mv 18 rfl rfl ?_
  refine s_len 19 rfl rfl ?_
  refine s_mv 20 rfl rfl ?_
  refine s_call1 21 rfl rfl rfl rfl (fun w hw => cPar_spec cc m t D q w (hw.old hcd)) (fun _ _ => trivial) ?_
  refine s_ne 22 rfl rfl rfl (decide_eq_false (by omega)) ?_
  refine s_pickF 23 rfl rfl rfl ?_
  refine SX.next ?_
  refine CW.condF rfl ?_
  refine CW.skip ?_
  refine KN.code ?_
  refine CW.seq ?_
  refine CW.reg [0] rfl ?_   -- 3, syndrome.go:31
  refine s_as 8 rfl rfl ?_
  refine SX.next ?_
  refine CW.seq ?_
  refine CW.seq ?_
  refine CW.reg [0, 1, 2] rfl ?_   -- 4, syndrome.go:32
  refine s_mv 25 rfl rfl ?_
  refine s_call1 26 rfl rfl rfl rfl (fun w hw => cBits_spec cc m t D q w hMT hDm (hw.old hcd)) (fun _ _ => trivial) ?_
  refine s_mv 27 rfl rfl ?_
  refine SX.next ?_
  refine CW.block ?_
  refine CW.loop (G := Nat × Option Addr × Nat) (fun z => [(0, .pointer (some ⟨cc, 0, none⟩)), (1, .slice A p.length c), (2, .slice A2 p2.length c2), (8, .slice z.2.1 (posL m t p p2 z.1).length z.2.2), (26, .int .i64 (8 * D + dg m t : Nat)), (27, .int .i64 (z.1 : Nat))]) (fun z => Sto w [own 3 1 z.2.1 (posL m t p p2 z.1).length z.2.2 (nats .i64 (posL m t p p2 z.1))]) (fun z => z.1 ≤ 8 * D + dg m t ∧ (posL m t p p2 z.1).length ≤ z.2.2 ∧ (posL m t p p2 z.1).length ≤ z.1) (fun z => 8 * D + dg m t - z.1) (0, none, 0) ⟨rfl, rfl, rfl, rfl, rfl, rfl, trivial⟩ (fun _ hw => hw.begin_ 3 1) ⟨Nat.zero_le _, Nat.le_refl _, Nat.le_refl _⟩ ?_
  rintro ⟨i, za, zc⟩ ⟨hi, hzc, hzl⟩
  simp only at hi hzc hzl
  dsimp only
  have hps := posL_succ m t p p2 i
  refine CW.seq ?_
  refine CW.reg [0] rfl ?_   -- 5, syndrome.go:32
  refine s_lt 28 rfl rfl rfl rfl ?_
  refine SX.next ?_
  refine CW.seq ?_
  refine CW.test rfl (fun hc => ?_) (fun hc => ?_)
  · skip
    refine CW.skip ?_
    refine KN.code ?_
    refine CW.seq ?_
    refine CW.block ?_
    refine CW.seq ?_
    refine CW.reg [0, 1] rfl ?_   -- 6, syndrome.go:32
    refine s_mv 29 rfl rfl ?_
    refine s_as 9 rfl rfl ?_
    refine SX.next ?_
    refine CW.seq ?_
    refine CW.reg [0, 1, 2, 3] rfl ?_   -- 7, syndrome.go:33
    refine s_mv 30 rfl rfl ?_
    refine s_mv 31 rfl rfl ?_
    refine s_as 10 rfl rfl ?_
    refine s_as 11 rfl rfl ?_
    refine SX.next ?_
    refine CW.cut (G := BlG × Nat) (fun y => [(0, .pointer (some ⟨cc, 0, none⟩)), (1, .slice A p.length c), (2, .slice A2 p2.length c2), (8, .slice za (posL m t p p2 i).length zc), (9, .int .i64 (i : Nat)), (10, .slice y.1.A y.1.l.length y.1.c), (11, .int .i64 (y.2 : Nat)), (26, .int .i64 (8 * D + dg m t : Nat)), (27, .int .i64 (i : Nat))]) (fun _ => Sto w [own 3 1 za (posL m t p p2 i).length zc (nats .i64 (posL m t p p2 i))]) (fun y => Has (sl 1 y.1.A y.1.l.length (nats .u8 y.1.l)) w ∧ (∀ x ∈ y.1.l, x < 256) ∧ y.2 < 8 * y.1.l.length ∧ y.2 < 20000 ∧ bitN y.1.l y.2 = (wc m t p p2 i)) ?_ ?_
    · skip
      refine CW.seq ?_
      refine CW.reg [0, 1, 2, 3] rfl ?_   -- 8, syndrome.go:34
      refine s_mv 32 rfl rfl ?_
      refine s_mv 33 rfl rfl ?_
      refine s_call1 34 rfl rfl rfl rfl (fun w hw => cDeg_spec cc m t D q w (hw.old hcd)) (fun _ _ => trivial) ?_
      refine s_ge 35 rfl rfl rfl rfl ?_
      refine SX.next ?_
      refine CW.test rfl (fun hc => ?_) (fun hc => ?_)
      · skip
        have hdk : dg m t ≤ i := by omega
        refine CW.reg [0, 1, 2, 3, 4, 5, 6] rfl ?_   -- 9, syndrome.go:35
        refine s_mv 36 rfl rfl ?_
        refine s_mv 37 rfl rfl ?_
        refine s_mv 38 rfl rfl ?_
        refine s_call1 39 rfl rfl rfl rfl (fun w hw => cDeg_spec cc m t D q w (hw.old hcd)) (fun _ _ => trivial) ?_
        refine s_sub 40 rfl rfl rfl (r := ((i - dg m t : Nat) : Int)) (by rw [show ((i : Nat) : Int) - ((dg m t : Nat) : Int) = ((i - dg m t : Nat) : Int) by omega]; exact w64 (by omega)) ?_
        refine s_as 10 rfl rfl ?_
        refine s_as 11 rfl rfl ?_
        refine SX.end_ ?_
        exact KN.join (⟨A, c, p⟩, i - dg m t) ⟨rfl, rfl, rfl, rfl, rfl, rfl, rfl, rfl, rfl, trivial⟩ (fun _ hw => hw) ⟨ha, hp, by simp only; omega, by simp only; omega, by unfold wc; rw [if_neg (by omega)]⟩
      · skip
        refine CW.skip ?_
        exact KN.join (⟨A2, c2, p2⟩, i) ⟨rfl, rfl, rfl, rfl, rfl, rfl, rfl, rfl, rfl, trivial⟩ (fun _ hw => hw) ⟨ha2, hp2, by simp only; omega, by simp only; omega, by unfold wc; rw [if_pos (by omega)]⟩
    · skip
      rintro ⟨⟨A3, c3, l3⟩, k⟩ ⟨h3, hl3, hk1, hk2, hbk⟩
      simp only at h3 hl3 hk1 hk2 hbk
      have hbu : (cf l3 (k / 8) >>> (k % 8)) % 2 = wc m t p p2 i := hbk
      have hw2 := wc_lt m t p p2 i
      refine CW.seq ?_
      refine CW.reg [0, 1, 2, 3, 4, 5, 6, 7, 8, 9] rfl ?_   -- 10, syndrome.go:37
      refine s_mv 41 rfl rfl ?_
      refine s_mv 42 rfl rfl ?_
      refine s_quo 43 rfl rfl rfl (by omega) (quo8 k (by omega)) ?_
      refine s_iaV 44 (k / 8) (fun w hw => hw.old h3) rfl rfl rfl rfl (by omega) ?_
      refine s_ldV 45 (fun w hw => hw.old h3) rfl rfl (by rw [Nat.mul_one]; exact natsAt8 (by omega)) (by omega) ?_
      refine s_mv 46 rfl rfl ?_
      refine s_rem 47 rfl rfl rfl (by omega) (tmod8 k) ?_
      refine s_shr 48 rfl rfl rfl (by omega) (shr_u8 (by omega)) ?_
      refine s_bit 49 rfl rfl rfl rfl (r := ((wc m t p p2 i : Nat) : Int)) (by rw [ibit_and1_u8 (shr8 (cf_lt8 hl3 _) _), hbu]) ?_
      refine s_gt 50 rfl rfl rfl rfl ?_
      refine SX.next ?_
      refine CW.test rfl (fun hc => ?_) (fun hc => ?_)
      · skip
        rw [if_pos (by omega)] at hps
        refine CW.reg [0, 1, 2, 3, 4] rfl ?_   -- 11, syndrome.go:38
        refine s_mv 51 rfl rfl ?_
        refine s_mv 52 rfl rfl ?_
        refine s_bsl 53 rfl rfl (cells := #[.int .i64 ((i : Nat) : Int)]) (by kernel_rfl) rfl (fun _ _ => trivial) (fun gb => ?_)
        refine s_app 54 1 rfl rfl rfl rfl (ys := [.int .i64 ((i : Nat) : Int)]) (fun w hw => Has.cong ((hw.has (i := 0) rfl).blk_sl (m := 1) rfl) rfl) rfl rfl (by omega) (by unfold maxLen; omega) (by omega) (fun _ _ _ _ => trivial) (fun A2 c2 hc2 => ?_)
        refine s_as 8 rfl rfl ?_
        refine SX.end_ ?_
        refine KN.blk ?_
        refine KN.code ?_
        refine CW.reg [0, 1] rfl ?_   -- 12, syndrome.go:32
        refine s_add 55 rfl rfl rfl (r := ((i + 1 : Nat) : Int)) (w64 (by omega)) ?_
        refine s_mv 27 rfl rfl ?_
        refine SX.end_ ?_
        exact KN.back (i + 1, A2, c2) ⟨rfl, rfl, rfl, by simp only [hps, List.length_append, List.length_singleton]; rfl, rfl, rfl, trivial⟩ (fun _ hw => by
          simp only [hps, List.length_append, List.length_singleton]
          rw [← nats_snoc]
          exact hw.pick [1] rfl) ⟨by simp only; omega, by simp only [hps, List.length_append, List.length_singleton]; omega, by simp only [hps, List.length_append, List.length_singleton]; omega⟩ (by simp only; omega)
      · skip
        rw [if_neg (by omega), List.append_nil] at hps
        refine CW.skip ?_
        refine KN.blk ?_
        refine KN.code ?_
        refine CW.reg [0, 1] rfl ?_   -- 12, syndrome.go:32
        refine s_add 55 rfl rfl rfl (r := ((i + 1 : Nat) : Int)) (w64 (by omega)) ?_
        refine s_mv 27 rfl rfl ?_
        refine SX.end_ ?_
        exact KN.back (i + 1, za, zc) ⟨rfl, rfl, rfl, by simp only [hps]; rfl, rfl, rfl, trivial⟩ (fun _ hw => by simp only [hps]; exact hw) ⟨by simp only; omega, by simp only [hps]; exact hzc, by simp only [hps]; omega⟩ (by simp only; omega)
  · skip
    obtain rfl : i = 8 * D + dg m t := by omega
    refine CW.exit rfl ?_
    refine KN.code ?_
    refine CW.seq ?_
    refine CW.reg [0, 1, 2, 3, 4] rfl ?_   -- 13, syndrome.go:41
    refine s_mv 56 rfl rfl ?_
    refine s_mv 57 rfl rfl ?_
    refine s_call 58 rfl rfl rfl rfl (fun w hw => values_spec cc m t D q za zc (posL m t p p2 (8 * D + dg m t)) w hMT (hw.old hcd) ((hw.has (i := 0) rfl).of_own) (by omega)) (fun _ _ => trivial) (fun z hz => ?_)
    refine s_as 6 rfl rfl ?_
    refine s_as 7 rfl rfl ?_
    refine SX.next ?_
    refine CW.ret ?_
    exact KN.ret (rs := [.tmp 6, .tmp 7]) Tryd.results53 rfl (fun w hw => ⟨z, rfl, hz, hw.pick [0] rfl⟩)
end Go.Proofs.YtompcfingkoldaaDoor
end
section
/- Package syndrome: places, sums, what is asked of values; the laws' own helpers, walked. Conditions: the errors' variables. -/
namespace Go.Proofs.YtompcfingkoldaaDoor
open Go Go.Sx Go.Fm Nb
set_option maxRecDepth 100000
theorem mt72 : MT 7 2 := ⟨⟨by decide, by decide⟩, by decide, by decide⟩
theorem dg72 : dg 7 2 = 14 := by rw [← mt72.deg]; decide +kernel
theorem cok72 : COk 7 2 5 := ⟨mt72, by decide, by decide, by rw [dg72]; decide⟩

theorem of7_long (cc m t D : Nat) (q : CodeG) (A : Option Addr) (n c : Nat) (_p : List Nat) (A2 : Option Addr) (n2 c2 : Nat) (_p2 : List Nat) (e : Nat → Addr) (w : World) (hcd : Has (codeA cc m t D q) w) (heL : Er e w 0) (hnD : n ≠ D ∨ n2 ≠ prB m t) : Spec1 Tryd.prog 53 [.pointer (some ⟨cc, 0, none⟩), .slice A n c, .slice A2 n2 c2] w (errRes e 0) := by
  refine spec_of Tryd.func53 rfl Tryd.ntmps53 rfl ?_
  refine CW.seq ?_
  refine CW.reg [0, 1] rfl ?_   -- 0, syndrome.go:27
  refine s_as 6 rfl rfl ?_
  refine s_as 7 rfl rfl ?_
  refine SX.next ?_
  refine CW.seq ?_
  refine CW.seq ?_
  refine CW.reg [0, 1, 2, 3, 4, 5, 6, 7, 8, 9, 10, 11] rfl ?_   -- 1, syndrome.go:28
  refine s_mv 12 rfl rfl ?_
  refine s_len 13 rfl rfl ?_
  refine s_mv 14 rfl rfl ?_
  refine s_call1 15 rfl rfl rfl rfl (fun w hw => cData_spec cc m t D q w (hw.old hcd)) (fun _ _ => trivial) ?_
  refine s_ne 16 rfl rfl rfl rfl ?_
  refine s_mv 17 rfl rfl ?_
  refine SX.bool 17 rfl (fun hb => ?_) (fun hb => ?_)
  · skip
    skip
    refine SX.skip rfl ?_
    refine SX.skip rfl ?_
    refine SX.skip rfl ?_
    refine SX.skip rfl ?_
    refine SX.skip rfl ?_
    refine s_pickT 23 rfl rfl rfl ?_
    refine SX.next ?_
    refine CW.condT rfl ?_
    refine CW.seq ?_
    refine CW.regD (.st true 0 (.st true 1 (.st true 2 .done))) (Sto w []) mixed (by kernel_rfl) (fun _ h => h.drew) (fun _ h => h) ?_
    refine s_ldS 24 rfl rfl (fun _ h => h.cell heL) ?_
    refine s_as 6 rfl rfl ?_
    refine s_as 7 rfl rfl ?_
    refine SX.next ?_
    refine CW.ret ?_
    exact KN.ret (rs := [.tmp 6, .tmp 7]) Tryd.results53 rfl (fun w hw => ⟨rfl, hw.nothing⟩)
  · skip
    have hx := of_decide_eq_false hb
    refine s_mv 18 rfl rfl ?_
    refine s_len 19 rfl rfl ?_
    refine s_mv 20 rfl rfl ?_
    refine s_call1 21 rfl rfl rfl rfl (fun w hw => cPar_spec cc m t D q w (hw.old hcd)) (fun _ _ => trivial) ?_
    refine s_ne 22 rfl rfl rfl (decide_eq_true (by omega)) ?_
    refine s_pickF 23 rfl rfl rfl ?_
    refine SX.next ?_
    refine CW.condT rfl ?_
    refine CW.seq ?_
    refine CW.regD (.st true 0 (.st true 1 (.st true 2 .done))) (Sto w []) mixed (by kernel_rfl) (fun _ h => h.drew) (fun _ h => h) ?_
    refine s_ldS 24 rfl rfl (fun _ h => h.cell heL) ?_
    refine s_as 6 rfl rfl ?_
    refine s_as 7 rfl rfl ?_
    refine SX.next ?_
    refine CW.ret ?_
    exact KN.ret (rs := [.tmp 6, .tmp 7]) Tryd.results53 rfl (fun w hw => ⟨rfl, hw.nothing⟩)

theorem bits7_ok (cc m t D : Nat) (q : CodeG) (A : Option Addr) (c : Nat) (l : List Nat) (w : World) (hMT : MT m t) (hDm : D ≤ 2048) (hcd : Has (codeA cc m t D q) w) (ha : Has (sl 1 A l.length (nats .i64 l)) w) (hln : l.length ≤ 1073741824) (hall : ∀ x ∈ l, x < 8 * D + dg m t) : SpecX Tryd.prog 46 [.pointer (some ⟨cc, 0, none⟩), .slice A l.length c] w (X := Option Addr × Nat) (fun z => two (.slice z.1 (synL m t l).length z.2) .nilIface) (fun z => (synL m t l).length ≤ z.2) (fun z => [own 3 1 z.1 (synL m t l).length z.2 (nats .i64 (synL m t l))]) := by
  have hd5 := hMT.d560
  refine spec_of Tryd.func46 rfl Tryd.ntmps46 rfl ?_
  refine CW.seq ?_
  refine CW.reg [0, 1] rfl ?_   -- 0, syndrome.go:45
  refine s_as 4 rfl rfl ?_
  refine s_as 5 rfl rfl ?_
  refine SX.next ?_
  refine CW.seq ?_
  refine CW.seq ?_
  refine CW.reg [0, 1, 2] rfl ?_   -- 1, syndrome.go:46
  refine s_mv 8 rfl rfl ?_
  refine s_len 9 rfl rfl ?_
  refine s_mv 10 rfl rfl ?_
  refine SX.next ?_
  refine CW.block ?_
  refine CW.loop (G := Nat) (fun i => [(0, .pointer (some ⟨cc, 0, none⟩)), (1, .slice A l.length c), (8, .slice A l.length c), (9, .int .i64 (l.length : Nat)), (10, .int .i64 (i : Nat))]) (fun _ => Sto w []) (fun i => i ≤ l.length) (fun i => l.length - i) 0 ⟨rfl, rfl, rfl, rfl, rfl, trivial⟩ (fun _ hw => hw) (Nat.zero_le _) ?_
  intro i hi
  refine CW.seq ?_
  refine CW.reg [0] rfl ?_   -- 2, syndrome.go:46
  refine s_lt 11 rfl rfl rfl rfl ?_
  refine SX.next ?_
  refine CW.seq ?_
  refine CW.test rfl (fun hc => ?_) (fun hc => ?_)
  · skip
    have hil : i < l.length := by omega
    have hcl := hall _ (cf_mem hil)
    refine CW.skip ?_
    refine KN.code ?_
    refine CW.seq ?_
    refine CW.block ?_
    refine CW.seq ?_
    refine CW.reg [0, 1, 2] rfl ?_   -- 3, syndrome.go:46
    refine s_iaV 12 i (fun w hw => hw.old ha) rfl rfl rfl rfl (by omega) ?_
    refine s_ldV 13 (fun w hw => hw.old ha) rfl rfl (by rw [Nat.mul_one]; exact natsAtC hil) (by omega) ?_
    refine s_as 7 rfl rfl ?_
    refine SX.next ?_
    refine CW.seq ?_
    refine CW.reg [0, 1, 2, 3, 4, 5, 6, 7] rfl ?_   -- 4, syndrome.go:47
    refine s_mv 14 rfl rfl ?_
    refine s_lt 15 rfl rfl rfl (decide_eq_false (by omega)) ?_
    refine s_mv 16 rfl rfl ?_
    refine s_mv 17 rfl rfl ?_
    refine s_mv 18 rfl rfl ?_
    refine s_call1 19 rfl rfl rfl rfl (fun w hw => cBits_spec cc m t D q w hMT hDm (hw.old hcd)) (fun _ _ => trivial) ?_
    refine s_ge 20 rfl rfl rfl (decide_eq_false (by omega)) ?_
    refine s_pickF 21 rfl rfl rfl ?_
    refine SX.next ?_
    refine CW.condF rfl ?_
    refine CW.skip ?_
    refine KN.blk ?_
    refine KN.code ?_
    refine CW.reg [0, 1] rfl ?_   -- 6, syndrome.go:46
    refine s_add 23 rfl rfl rfl (r := ((i + 1 : Nat) : Int)) (w64 (by omega)) ?_
    refine s_mv 10 rfl rfl ?_
    refine SX.end_ ?_
    exact KN.back (i + 1) ⟨rfl, rfl, rfl, rfl, rfl, trivial⟩ (fun _ hw => hw) (by omega) (by omega)
  · skip
    refine CW.exit rfl ?_
    refine KN.code ?_
    refine CW.seq ?_
    refine CW.reg [0, 1, 2, 3, 4] rfl ?_   -- 7, syndrome.go:51
    refine s_mv 24 rfl rfl ?_
    refine s_mv 25 rfl rfl ?_
    refine s_call 26 rfl rfl rfl rfl (fun w hw => values_spec cc m t D q A c l w hMT (hw.old hcd) (hw.old ha) hln) (fun _ _ => trivial) (fun z hz => ?_)
    refine s_as 4 rfl rfl ?_
    refine s_as 5 rfl rfl ?_
    refine SX.next ?_
    refine CW.ret ?_
    exact KN.ret (rs := [.tmp 4, .tmp 5]) Tryd.results46 rfl (fun w hw => ⟨z, rfl, hz, hw⟩)

theorem bits7_num (cc m t D : Nat) (q : CodeG) (A : Option Addr) (n c : Nat) (l : List Int) (j : Nat) (e : Nat → Addr) (w : World) (hMT : MT m t) (hDm : D ≤ 2048) (hcd : Has (codeA cc m t D q) w) (ha : Has (sl 1 A n (ints .i64 l)) w) (hn : n ≤ 1073741824) (heN : Er e w 1) (hj : j < n) (hgood : ∀ i, i < j → 0 ≤ l.getD i 0 ∧ l.getD i 0 < ((8 * D + dg m t : Nat) : Int)) (hbad : l.getD j 0 < 0 ∨ ((8 * D + dg m t : Nat) : Int) ≤ l.getD j 0) : Spec1 Tryd.prog 46 [.pointer (some ⟨cc, 0, none⟩), .slice A n c] w (errRes e 1) := by
  have hla := ints_len ha
  subst hla
  have hd5 := hMT.d560
  refine spec_of Tryd.func46 rfl Tryd.ntmps46 rfl ?_
  refine CW.seq ?_
  refine CW.reg [0, 1] rfl ?_   -- 0, syndrome.go:45
  refine s_as 4 rfl rfl ?_
  refine s_as 5 rfl rfl ?_
  refine SX.next ?_
  refine CW.seq ?_
  refine CW.seq ?_
  refine CW.reg [0, 1, 2] rfl ?_   -- 1, syndrome.go:46
  refine s_mv 8 rfl rfl ?_
  refine s_len 9 rfl rfl ?_
  refine s_mv 10 rfl rfl ?_
  refine SX.next ?_
  refine CW.block ?_
  refine CW.loop (G := Nat) (fun i => [(0, .pointer (some ⟨cc, 0, none⟩)), (1, .slice A l.length c), (8, .slice A l.length c), (9, .int .i64 (l.length : Nat)), (10, .int .i64 (i : Nat))]) (fun _ => Sto w []) (fun i => i ≤ j) (fun i => l.length - i) 0 ⟨rfl, rfl, rfl, rfl, rfl, trivial⟩ (fun _ hw => hw) (Nat.zero_le _) ?_
  intro i hi
  refine CW.seq ?_
  refine CW.reg [0] rfl ?_   -- 2, syndrome.go:46
  refine s_lt 11 rfl rfl rfl (decide_eq_true (by omega)) ?_
  refine SX.next ?_
  refine CW.seq ?_
  refine CW.condT rfl ?_
  refine CW.skip ?_
  refine KN.code ?_
  refine CW.seq ?_
  refine CW.block ?_
  refine CW.seq ?_
  refine CW.reg [0, 1, 2] rfl ?_   -- 3, syndrome.go:46
  refine s_iaV 12 i (fun w hw => hw.old ha) rfl rfl rfl rfl (by omega) ?_
  refine s_ldV 13 (fun w hw => hw.old ha) rfl rfl (by rw [Nat.mul_one]; exact intsAt (by omega)) (by omega) ?_
  refine s_as 7 rfl rfl ?_
  refine SX.next ?_
  refine CW.seq ?_
  refine CW.reg [0, 1, 2, 3, 4, 5, 6, 7] rfl ?_   -- 4, syndrome.go:47
  refine s_mv 14 rfl rfl ?_
  refine s_lt 15 rfl rfl rfl rfl ?_
  refine s_mv 16 rfl rfl ?_
  refine SX.bool 16 rfl (fun hb => ?_) (fun hb => ?_)
  · skip
    replace hb := of_decide_eq_true hb
    obtain rfl : i = j := Classical.byContradiction fun hne => by have := hgood i (by omega); omega
    refine SX.skip rfl ?_
    refine SX.skip rfl ?_
    refine SX.skip rfl ?_
    refine SX.skip rfl ?_
    refine s_pickT 21 rfl rfl rfl ?_
    refine SX.next ?_
    refine CW.condT rfl ?_
    refine CW.seq ?_
    refine CW.regD (.st true 0 (.st true 1 (.st true 2 .done))) (Sto w []) mixed (by kernel_rfl) (fun _ h => h.drew) (fun _ h => h) ?_
    refine s_ldS 22 rfl rfl (fun _ h => h.cell heN) ?_
    refine s_as 4 rfl rfl ?_
    refine s_as 5 rfl rfl ?_
    refine SX.next ?_
    refine CW.ret ?_
    exact KN.ret (rs := [.tmp 4, .tmp 5]) Tryd.results46 rfl (fun w hw => ⟨rfl, hw.nothing⟩)
  · skip
    replace hb := of_decide_eq_false hb
    refine s_mv 17 rfl rfl ?_
    refine s_mv 18 rfl rfl ?_
    refine s_call1 19 rfl rfl rfl rfl (fun w hw => cBits_spec cc m t D q w hMT hDm (hw.old hcd)) (fun _ _ => trivial) ?_
    refine s_ge 20 rfl rfl rfl rfl ?_
    refine s_pickF 21 rfl rfl rfl ?_
    refine SX.next ?_
    refine CW.test rfl (fun hc => ?_) (fun hc => ?_)
    · skip
      skip
      refine CW.seq ?_
      refine CW.regD (.st true 0 (.st true 1 (.st true 2 .done))) (Sto w []) mixed (by kernel_rfl) (fun _ h => h.drew) (fun _ h => h) ?_
      refine s_ldS 22 rfl rfl (fun _ h => h.cell heN) ?_
      refine s_as 4 rfl rfl ?_
      refine s_as 5 rfl rfl ?_
      refine SX.next ?_
      refine CW.ret ?_
      exact KN.ret (rs := [.tmp 4, .tmp 5]) Tryd.results46 rfl (fun w hw => ⟨rfl, hw.nothing⟩)
    · skip
      have hij : i < j := Nat.lt_of_le_of_ne hi (fun h => by subst h; omega)
      refine CW.skip ?_
      refine KN.blk ?_
      refine KN.code ?_
      refine CW.reg [0, 1] rfl ?_   -- 6, syndrome.go:46
      refine s_add 23 rfl rfl rfl (r := ((i + 1 : Nat) : Int)) (w64 (by omega)) ?_
      refine s_mv 10 rfl rfl ?_
      refine SX.end_ ?_
      exact KN.back (i + 1) ⟨rfl, rfl, rfl, rfl, rfl, trivial⟩ (fun _ hw => hw) (by omega) (by omega)

/-! ### Sums, what is asked -/
def x64 (a b : Int) : Int := ibit .xor .i64 a b
theorem x64_comm (a b : Int) : x64 a b = x64 b a := by
  unfold x64
  rw [ibit_xor64, ibit_xor64, BitVec.xor_comm]
/-- A list's numbers, summed below i. -/
def aqL (s u : List Int) : Nat → List Int
  | 0 => s
  | i + 1 => (aqL s u i).set i (x64 ((aqL s u i).getD i 0) (u.getD i 0))
theorem aqL_len (s u : List Int) : ∀ i, (aqL s u i).length = s.length
  | 0 => rfl
  | i + 1 => by show ((aqL s u i).set i _).length = _; rw [List.length_set, aqL_len s u i]
theorem aqL_at (s u : List Int) (j : Nat) (hj : j < s.length) : ∀ i, (aqL s u i).getD j 0 = if j < i then x64 (s.getD j 0) (u.getD j 0) else s.getD j 0
  | 0 => by rw [if_neg (by omega)]; rfl
  | i + 1 => by
    have ih := aqL_at s u j hj i
    have hl := aqL_len s u i
    show ((aqL s u i).set i _).getD j 0 = _
    rw [List.getD_eq_getElem?_getD, List.getElem?_set]
    by_cases h : i = j
    · subst h
      rw [if_pos rfl, if_pos (by omega), if_pos (by omega), Option.getD_some, ih, if_neg (by omega)]
    · rw [if_neg h, ← List.getD_eq_getElem?_getD, ih]
      by_cases h2 : j < i
      · rw [if_pos h2, if_pos (by omega)]
      · rw [if_neg h2, if_neg (by omega)]
/-- The sums of two lists. -/
def addL (s u : List Int) : List Int := if s.length < u.length then aqL u s s.length else aqL s u u.length
theorem addL_len (s u : List Int) : (addL s u).length = max s.length u.length := by
  unfold addL
  split <;> rw [aqL_len] <;> omega
structure SlI where
  A : Option Addr
  c : Nat
  l : List Int

theorem add7_spec (A1 : Option Addr) (n1 c1 : Nat) (l1 : List Int) (A2 : Option Addr) (n2 c2 : Nat) (l2 : List Int) (w : World) (ha1 : Has (sl 1 A1 n1 (ints .i64 l1)) w) (hn1 : n1 ≤ 1073741824) (ha2 : Has (sl 1 A2 n2 (ints .i64 l2)) w) (hn2 : n2 ≤ 1073741824) : SpecX Tryd.prog 49 [.slice A1 n1 c1, .slice A2 n2 c2] w (X := Option Addr × Nat) (fun z => .slice z.1 (addL l1 l2).length z.2) (fun z => (addL l1 l2).length ≤ z.2) (fun z => [own 3 1 z.1 (addL l1 l2).length z.2 (ints .i64 (addL l1 l2))]) := by
  have hla1 := ints_len ha1
  subst hla1
  have hla2 := ints_len ha2
  subst hla2
  refine spec_of Tryd.func49 rfl Tryd.ntmps49 rfl ?_
  refine CW.seq ?_
  refine CW.reg [0] rfl ?_   -- 0, syndrome.go:55
  refine s_as 4 rfl rfl ?_
  refine SX.next ?_
  refine CW.cut (G := SlI × SlI) (fun y => [(0, .slice y.1.A y.1.l.length y.1.c), (1, .slice y.2.A y.2.l.length y.2.c)]) (fun _ => Sto w []) (fun y => Has (sl 1 y.1.A y.1.l.length (ints .i64 y.1.l)) w ∧ Has (sl 1 y.2.A y.2.l.length (ints .i64 y.2.l)) w ∧ y.2.l.length ≤ y.1.l.length ∧ y.1.l.length ≤ 1073741824 ∧ addL l1 l2 = aqL y.1.l y.2.l y.2.l.length) ?_ ?_
  · skip
    refine CW.seq ?_
    refine CW.reg [0, 1, 2, 3, 4] rfl ?_   -- 1, syndrome.go:56
    refine s_mv 8 rfl rfl ?_
    refine s_len 9 rfl rfl ?_
    refine s_mv 10 rfl rfl ?_
    refine s_len 11 rfl rfl ?_
    refine s_lt 12 rfl rfl rfl rfl ?_
    refine SX.next ?_
    refine CW.test rfl (fun hc => ?_) (fun hc => ?_)
    · skip
      refine CW.reg [0, 1, 2, 3] rfl ?_   -- 2, syndrome.go:57
      refine s_mv 13 rfl rfl ?_
      refine s_mv 14 rfl rfl ?_
      refine s_as 0 rfl rfl ?_
      refine s_as 1 rfl rfl ?_
      refine SX.end_ ?_
      exact KN.join (⟨A2, c2, l2⟩, ⟨A1, c1, l1⟩) ⟨rfl, rfl, trivial⟩ (fun _ hw => hw) ⟨ha2, ha1, by simp only; omega, hn2, if_pos (by omega)⟩
    · skip
      refine CW.skip ?_
      exact KN.join (⟨A1, c1, l1⟩, ⟨A2, c2, l2⟩) ⟨rfl, rfl, trivial⟩ (fun _ hw => hw) ⟨ha1, ha2, by simp only; omega, hn1, if_neg (by omega)⟩
  · skip
    rintro ⟨y1, y2⟩ ⟨h1, h2, hle, hb1, hre⟩
    simp only at h1 h2 hle hb1 hre
    refine CW.seq ?_
    refine CW.reg [0, 1, 2] rfl ?_   -- 3, syndrome.go:59
    refine s_mv 15 rfl rfl ?_
    refine s_app0 16 (m2 := y1.l.length) rfl rfl rfl (ys := ints .i64 y1.l) (fun w hw => hw.old h1) (ints_one _ _) rfl (by omega) (by unfold maxLen; omega) (by omega) (fun _ _ _ _ => trivial) (fun A5 c5 hc5 => ?_)
    refine s_as 5 rfl rfl ?_
    refine SX.next ?_
    refine CW.seq ?_
    refine CW.seq ?_
    refine CW.reg [0, 1, 2] rfl ?_   -- 4, syndrome.go:60
    refine s_mv 17 rfl rfl ?_
    refine s_len 18 rfl rfl ?_
    refine s_mv 19 rfl rfl ?_
    refine SX.next ?_
    refine CW.block ?_
    refine CW.loop (G := Nat) (fun i => [(5, .slice A5 y1.l.length c5), (17, .slice y2.A y2.l.length y2.c), (18, .int .i64 (y2.l.length : Nat)), (19, .int .i64 (i : Nat))]) (fun i => Sto w [own 3 1 A5 y1.l.length c5 (ints .i64 (aqL y1.l y2.l i))]) (fun i => i ≤ y2.l.length) (fun i => y2.l.length - i) 0 ⟨rfl, rfl, rfl, rfl, trivial⟩ (fun _ hw => hw) (Nat.zero_le _) ?_
    intro i hi
    have hal := aqL_len y1.l y2.l i
    refine CW.seq ?_
    refine CW.reg [0] rfl ?_   -- 5, syndrome.go:60
    refine s_lt 20 rfl rfl rfl rfl ?_
    refine SX.next ?_
    refine CW.seq ?_
    refine CW.test rfl (fun hc => ?_) (fun hc => ?_)
    · skip
      refine CW.skip ?_
      refine KN.code ?_
      refine CW.seq ?_
      refine CW.block ?_
      refine CW.seq ?_
      refine CW.reg [0, 1, 2, 3, 4] rfl ?_   -- 6, syndrome.go:60
      refine s_mv 21 rfl rfl ?_
      refine s_iaV 22 i (fun w hw => hw.old h2) rfl rfl rfl rfl (by omega) ?_
      refine s_ldV 23 (fun w hw => hw.old h2) rfl rfl (by rw [Nat.mul_one]; exact intsAt (by omega)) (by omega) ?_
      refine s_as 6 rfl rfl ?_
      refine s_as 7 rfl rfl ?_
      refine SX.next ?_
      refine CW.reg [0, 1, 2, 3, 4, 5, 6, 7] rfl ?_   -- 7, syndrome.go:61
      refine s_mv 24 rfl rfl ?_
      refine s_mv 25 rfl rfl ?_
      refine s_iaO 26 0 i rfl rfl rfl rfl rfl (by omega) ?_
      refine s_ldO 27 0 rfl rfl rfl (intsAt (by omega)) ?_
      refine s_mv 28 rfl rfl ?_
      refine s_bit 29 rfl rfl rfl rfl (r := x64 ((aqL y1.l y2.l i).getD i 0) (y2.l.getD i 0)) rfl ?_
      refine s_iaO 30 0 i rfl rfl rfl rfl rfl (by omega) ?_
      refine s_stO 0 rfl rfl rfl rfl rfl (by omega) (fun _ _ => trivial) ?_
      refine SX.end_ ?_
      refine KN.blk ?_
      refine KN.code ?_
      refine CW.reg [0, 1] rfl ?_   -- 8, syndrome.go:60
      refine s_add 31 rfl rfl rfl (r := ((i + 1 : Nat) : Int)) (w64 (by omega)) ?_
      refine s_mv 19 rfl rfl ?_
      refine SX.end_ ?_
      exact KN.back (i + 1) ⟨rfl, rfl, rfl, rfl, trivial⟩ (fun _ hw => by
  have e : (ints .i64 (aqL y1.l y2.l i)).set i (.int .i64 (x64 ((aqL y1.l y2.l i).getD i 0) (y2.l.getD i 0))) = ints .i64 (aqL y1.l y2.l (i + 1)) := by simp [ints, aqL, List.map_set]
  rw [← e]
  exact hw) (by omega) (by omega)
    · skip
      obtain rfl : i = y2.l.length := by omega
      refine CW.exit rfl ?_
      refine KN.code ?_
      refine CW.seq ?_
      refine CW.reg [0, 1] rfl ?_   -- 9, syndrome.go:63
      refine s_mv 32 rfl rfl ?_
      refine s_as 4 rfl rfl ?_
      refine SX.next ?_
      refine CW.ret ?_
      exact KN.ret (rs := [.tmp 4]) Tryd.results49 rfl (fun w hw => ⟨(A5, c5), by rw [hre, aqL_len]; rfl, by rw [hre, aqL_len]; exact hc5, by rw [hre, aqL_len]; exact hw⟩)

def cleanB (l : List Int) : Bool := l.all (fun x => decide (x = 0))
theorem clean_true {l : List Int} (h : ∀ i, i < l.length → l.getD i 0 = 0) : cleanB l = true := by
  unfold cleanB
  rw [List.all_eq_true]
  intro x hx
  obtain ⟨i, hi, e⟩ := List.mem_iff_getElem.1 hx
  have := h i hi
  rw [List.getD_eq_getElem?_getD, List.getElem?_eq_getElem hi, Option.getD_some, e] at this
  exact decide_eq_true this
theorem clean_false {l : List Int} {i : Nat} (hi : i < l.length) (h : l.getD i 0 ≠ 0) : cleanB l = false := by
  cases hc : cleanB l
  · rfl
  · unfold cleanB at hc
    rw [List.all_eq_true] at hc
    have h2 := hc _ (List.getElem_mem hi)
    rw [List.getD_eq_getElem?_getD, List.getElem?_eq_getElem hi, Option.getD_some] at h
    exact absurd (of_decide_eq_true h2) h
/-- Each even one the square of the one at its half. -/
def fitP (m : Nat) (l : List Int) (i : Nat) : Prop := lo m (l.getD (2 * i + 1) 0) = gm m (lo m (l.getD i 0)) (lo m (l.getD i 0))
def fitsB (m : Nat) (l : List Int) : Bool := (List.range (l.length / 2)).all (fun i => decide (lo m (l.getD (2 * i + 1) 0) = gm m (lo m (l.getD i 0)) (lo m (l.getD i 0))))
theorem fits_true {m : Nat} {l : List Int} (h : ∀ i, 2 * i + 1 < l.length → fitP m l i) : fitsB m l = true := by
  unfold fitsB
  rw [List.all_eq_true]
  intro i hi
  exact decide_eq_true (h i (by have := List.mem_range.1 hi; omega))
theorem fits_false {m : Nat} {l : List Int} {i : Nat} (hi : 2 * i + 1 < l.length) (h : ¬ fitP m l i) : fitsB m l = false := by
  cases hc : fitsB m l
  · rfl
  · unfold fitsB at hc
    rw [List.all_eq_true] at hc
    exact absurd (of_decide_eq_true (hc i (List.mem_range.2 (by omega)))) h

theorem clean7_spec (A : Option Addr) (n c : Nat) (l : List Int) (w : World) (ha : Has (sl 1 A n (ints .i64 l)) w) (hn : n ≤ 1073741824) : Spec1 Tryd.prog 48 [.slice A n c] w (.bool (cleanB l)) := by
  have hla := ints_len ha
  subst hla
  refine spec_of Tryd.func48 rfl Tryd.ntmps48 rfl ?_
  refine CW.seq ?_
  refine CW.reg [0] rfl ?_   -- 0, syndrome.go:67
  refine s_as 2 rfl rfl ?_
  refine SX.next ?_
  refine CW.seq ?_
  refine CW.seq ?_
  refine CW.reg [0, 1, 2] rfl ?_   -- 1, syndrome.go:68
  refine s_mv 5 rfl rfl ?_
  refine s_len 6 rfl rfl ?_
  refine s_mv 7 rfl rfl ?_
  refine SX.next ?_
  refine CW.block ?_
  refine CW.loop (G := Nat) (fun i => [(5, .slice A l.length c), (6, .int .i64 (l.length : Nat)), (7, .int .i64 (i : Nat))]) (fun _ => Sto w []) (fun i => i ≤ l.length ∧ ∀ k, k < i → l.getD k 0 = 0) (fun i => l.length - i) 0 ⟨rfl, rfl, rfl, trivial⟩ (fun _ hw => hw) ⟨Nat.zero_le _, fun k hk => by omega⟩ ?_
  rintro i ⟨hi, hz⟩
  refine CW.seq ?_
  refine CW.reg [0] rfl ?_   -- 2, syndrome.go:68
  refine s_lt 8 rfl rfl rfl rfl ?_
  refine SX.next ?_
  refine CW.seq ?_
  refine CW.test rfl (fun hc => ?_) (fun hc => ?_)
  · skip
    refine CW.skip ?_
    refine KN.code ?_
    refine CW.seq ?_
    refine CW.block ?_
    refine CW.seq ?_
    refine CW.reg [0, 1, 2] rfl ?_   -- 3, syndrome.go:68
    refine s_iaV 9 i (fun w hw => hw.old ha) rfl rfl rfl rfl (by omega) ?_
    refine s_ldV 10 (fun w hw => hw.old ha) rfl rfl (by rw [Nat.mul_one]; exact intsAt (by omega)) (by omega) ?_
    refine s_as 4 rfl rfl ?_
    refine SX.next ?_
    refine CW.seq ?_
    refine CW.reg [0, 1] rfl ?_   -- 4, syndrome.go:69
    refine s_mv 11 rfl rfl ?_
    refine s_ne 12 rfl rfl rfl rfl ?_
    refine SX.next ?_
    refine CW.test rfl (fun hc2 => ?_) (fun hc2 => ?_)
    · skip
      refine CW.seq ?_
      refine CW.reg [0] rfl ?_   -- 5, syndrome.go:70
      refine s_as 2 rfl rfl ?_
      refine SX.next ?_
      refine CW.ret ?_
      exact KN.ret (rs := [.tmp 2]) Tryd.results48 rfl (fun w hw => ⟨by rw [clean_false (i := i) (by omega) hc2]; rfl, hw⟩)
    · skip
      refine CW.skip ?_
      refine KN.blk ?_
      refine KN.code ?_
      refine CW.reg [0, 1] rfl ?_   -- 6, syndrome.go:68
      refine s_add 13 rfl rfl rfl (r := ((i + 1 : Nat) : Int)) (w64 (by omega)) ?_
      refine s_mv 7 rfl rfl ?_
      refine SX.end_ ?_
      exact KN.back (i + 1) ⟨rfl, rfl, rfl, trivial⟩ (fun _ hw => hw) ⟨by omega, fun k hk => by
  by_cases hki : k = i
  · subst hki; exact Classical.byContradiction hc2
  · exact hz k (by omega)⟩ (by omega)
  · skip
    obtain rfl : i = l.length := by omega
    refine CW.exit rfl ?_
    refine KN.code ?_
    refine CW.seq ?_
    refine CW.reg [0] rfl ?_   -- 7, syndrome.go:73
    refine s_as 2 rfl rfl ?_
    refine SX.next ?_
    refine CW.ret ?_
    exact KN.ret (rs := [.tmp 2]) Tryd.results48 rfl (fun w hw => ⟨by rw [clean_true hz]; rfl, hw⟩)
end Go.Proofs.YtompcfingkoldaaDoor
end
section
/- Whether values fit; the chapter's examples, a code made, walked. Conditions: the errors' variables. -/
namespace Go.Proofs.YtompcfingkoldaaDoor
open Go Go.Sx Go.Fm Nb
set_option maxRecDepth 100000
theorem syn_0 : synL 5 2 [0] = [1, 1, 1, 1] := by decide +kernel
theorem syn_1 : synL 5 2 [1] = [2, 4, 8, 16] := by decide +kernel
theorem syn_n : cleanB ((synL 5 2 []).map Int.ofNat) = true := by decide +kernel

theorem fit1_spec (f m b : Nat) (a : Int) (w : World) (hm : Ok m) (hf : Has (fieldA f m) w) (hb : w.cell? ⟨b, 0, none⟩ = some (.pointer (some ⟨f, 0, none⟩))) : Spec1 Tryd.prog 129 [.int .i64 a, .pointer (some ⟨b, 0, none⟩)] w (.int .i64 (gm m (lo m a) (lo m a) : Nat)) := by
  refine spec_of Tryd.func129 rfl Tryd.ntmps129 rfl ?_
  refine CW.seq ?_
  refine CW.reg [0] rfl ?_   -- 0, syndrome.go:78
  refine s_as 3 rfl rfl ?_
  refine SX.next ?_
  refine CW.seq ?_
  refine CW.reg [0, 1, 2, 3, 4] rfl ?_   -- 1, syndrome.go:78
  refine s_ld 4 rfl rfl (fun _ hw => hw.cell hb) ?_
  refine s_mv 5 rfl rfl ?_
  refine s_mv 6 rfl rfl ?_
  refine s_call1 7 rfl rfl rfl rfl (fun w hw => mul_spec f m a a w hm (hw.old hf)) (fun _ _ => trivial) ?_
  refine s_as 3 rfl rfl ?_
  refine SX.next ?_
  refine CW.ret ?_
  exact KN.ret (rs := [.tmp 3]) Tryd.results129 rfl (fun w hw => ⟨rfl, hw.nothing⟩)

theorem fits7_spec (f m : Nat) (A : Option Addr) (n c : Nat) (l : List Int) (w : World) (hm : Ok m) (hf : Has (fieldA f m) w) (ha : Has (sl 1 A n (ints .i64 l)) w) (hn : n ≤ 1073741824) : Spec1 Tryd.prog 58 [.pointer (some ⟨f, 0, none⟩), .slice A n c] w (.bool (fitsB m l)) := by
  have hla := ints_len ha
  subst hla
  refine spec_of Tryd.func58 rfl Tryd.ntmps58 rfl ?_
  refine CW.seq ?_
  refine CW.reg [0, 1] rfl ?_   -- 0, syndrome.go:77
  refine s_box 2 rfl rfl (fun _ _ => trivial) (fun b => ?_)
  refine s_as 4 rfl rfl ?_
  refine SX.next ?_
  refine CW.seq ?_
  refine CW.reg [0, 1] rfl ?_   -- 1, syndrome.go:78
  refine s_mkf 7 rfl rfl rfl ?_
  refine s_as 5 rfl rfl ?_
  refine SX.next ?_
  refine CW.seq ?_
  refine CW.seq ?_
  refine CW.reg [0] rfl ?_   -- 2, syndrome.go:79
  refine s_as 6 rfl rfl ?_
  refine SX.next ?_
  refine CW.block ?_
  refine CW.loop (G := Nat) (fun k => [(1, .slice A l.length c), (2, .pointer (some ⟨b, 0, none⟩)), (5, .func (.func 129) #[] #[.pointer (some ⟨b, 0, none⟩)]), (6, .int .i64 ((k + 1 : Nat) : Int))]) (fun _ => Sto w [blk b 48 #[.pointer (some ⟨f, 0, none⟩)]]) (fun k => 2 * k ≤ l.length ∧ ∀ i, i < k → fitP m l i) (fun k => l.length - k) 0 ⟨rfl, rfl, rfl, rfl, trivial⟩ (fun _ hw => hw) ⟨Nat.zero_le _, fun i hi => by omega⟩ ?_
  rintro k ⟨hk, hz⟩
  refine CW.seq ?_
  refine CW.seq ?_
  refine CW.reg [0, 1, 2, 3, 4] rfl ?_   -- 3, syndrome.go:79
  refine s_mv 8 rfl rfl ?_
  refine s_mul 9 rfl rfl rfl (r := ((2 * k + 2 : Nat) : Int)) (by rw [show (2 : Int) * ((k + 1 : Nat) : Int) = ((2 * k + 2 : Nat) : Int) by omega]; exact w64 (by omega)) ?_
  refine s_mv 10 rfl rfl ?_
  refine s_len 11 rfl rfl ?_
  refine s_le 12 rfl rfl rfl rfl ?_
  refine SX.next ?_
  refine CW.test rfl (fun hc => ?_) (fun hc => ?_)
  · skip
    have hk2 : 2 * k + 2 ≤ l.length := by omega
    refine CW.skip ?_
    refine KN.code ?_
    refine CW.seq ?_
    refine CW.block ?_
    refine CW.seq ?_
    refine CW.regD (.st true 0 (.st true 1 (.st true 2 (.st true 3 (.st true 4 (.st true 5 (.st true 6 (.st true 8 (.st true 9 (.st true 10 (.st true 11 (.st true 12 (.st true 13 (.st false 7 (.st false 14 (.st true 15 .done)))))))))))))))) (Sto w [blk b 48 #[.pointer (some ⟨f, 0, none⟩)]]) mixed (by kernel_rfl) (fun _ h => h.drew) (fun _ hw => hw) ?_
    refine s_ldS 15 rfl rfl (v := .pointer (some ⟨f, 0, none⟩)) (fun _ hw => hw.blkCell (i := 0) rfl rfl) ?_
    refine s_mv 16 rfl rfl ?_
    refine s_mv 17 rfl rfl ?_
    refine s_mul 18 rfl rfl rfl (r := ((2 * k + 2 : Nat) : Int)) (by rw [show (2 : Int) * ((k + 1 : Nat) : Int) = ((2 * k + 2 : Nat) : Int) by omega]; exact w64 (by omega)) ?_
    refine s_sub 19 rfl rfl rfl (r := ((2 * k + 1 : Nat) : Int)) (by rw [show ((2 * k + 2 : Nat) : Int) - 1 = ((2 * k + 1 : Nat) : Int) by omega]; exact w64 (by omega)) ?_
    refine s_iaV 20 (2 * k + 1) (fun w hw => hw.old ha) rfl rfl rfl rfl (by omega) ?_
    refine s_ldVS 21 (fun w hw => hw.old ha) rfl rfl (by rw [Nat.mul_one]; exact intsAt (by omega)) (by omega) ?_
    refine s_mv 23 rfl rfl ?_
    refine s_mv 24 rfl rfl ?_
    refine s_mv 25 rfl rfl ?_
    refine s_sub 26 rfl rfl rfl (r := ((k : Nat) : Int)) (by rw [show ((k + 1 : Nat) : Int) - 1 = ((k : Nat) : Int) by omega]; exact w64 (by omega)) ?_
    refine s_iaV 27 k (fun w hw => hw.old ha) rfl rfl rfl rfl (by omega) ?_
    refine s_ldVS 28 (fun w hw => hw.old ha) rfl rfl (by rw [Nat.mul_one]; exact intsAt (by omega)) (by omega) ?_
    refine s_call1 22 rfl rfl rfl rfl (v := .int .i64 (lo m (l.getD (2 * k + 1) 0) : Nat)) (fun w hw => by have := add_spec f m (l.getD (2 * k + 1) 0) 0 w hm (hw.old hf); rw [show lo m 0 = 0 from lo_nat (x := 0) (Nat.two_pow_pos m), Nat.xor_zero] at this; exact this) (fun _ hw => hw) ?_
    refine s_call1 29 rfl rfl rfl rfl (fun w hw => fit1_spec f m b (l.getD k 0) w hm (hw.old hf) (hw.blkCell (i := 0) rfl rfl)) (fun _ hw => hw) ?_
    refine s_ne 30 rfl rfl rfl rfl ?_
    refine SX.next ?_
    refine CW.test rfl (fun hc2 => ?_) (fun hc2 => ?_)
    · skip
      have hne : ¬ fitP m l k := fun h => hc2 (by unfold fitP at h; rw [h])
      refine CW.seq ?_
      refine CW.reg [0] rfl ?_   -- 6, syndrome.go:81
      refine s_as 4 rfl rfl ?_
      refine SX.next ?_
      refine CW.ret ?_
      exact KN.ret (rs := [.tmp 4]) Tryd.results58 rfl (fun w hw => ⟨by rw [fits_false (i := k) (by omega) hne]; rfl, hw.nothing⟩)
    · skip
      have heq : fitP m l k := by unfold fitP; exact Classical.byContradiction fun h => hc2 (by omega)
      refine CW.skip ?_
      refine KN.blk ?_
      refine KN.code ?_
      refine CW.reg [0, 1, 2] rfl ?_   -- 4, syndrome.go:79
      refine s_mv 13 rfl rfl ?_
      refine s_add 14 rfl rfl rfl (r := ((k + 1 + 1 : Nat) : Int)) (w64 (by omega)) ?_
      refine s_as 6 rfl rfl ?_
      refine SX.end_ ?_
      exact KN.back (k + 1) ⟨rfl, rfl, rfl, rfl, trivial⟩ (fun _ hw => hw) ⟨by omega, fun i hi => by
  by_cases hik : i = k
  · subst hik; exact heq
  · exact hz i (by omega)⟩ (by omega)
  · skip
    refine CW.exit rfl ?_
    refine KN.code ?_
    refine CW.seq ?_
    refine CW.reg [0] rfl ?_   -- 7, syndrome.go:84
    refine s_as 4 rfl rfl ?_
    refine SX.next ?_
    refine CW.ret ?_
    exact KN.ret (rs := [.tmp 4]) Tryd.results58 rfl (fun w hw => ⟨by rw [fits_true (fun i hi => hz i (by omega))]; rfl, hw.nothing⟩)

theorem shalelaw7_made_ok (m t bytes : Int) (w : World) (hC : COk (md 4 6 m) (md 5 1 t) (md 12 1 bytes)) : SpecX Tryd.prog 44 [.int .i64 m, .int .i64 t, .int .i64 bytes] w MadeG.val (MadeG.Fine 9 5 12) MadeG.mem := by
  have hbm := md_bd (k := 4) (by omega) 6 m
  have hbt := md_bd (k := 5) (by omega) 1 t
  have hbd := md_bd (k := 12) (by omega) 1 bytes
  have hMT : MT (md 4 6 m) (md 5 1 t) := ⟨⟨by omega, by omega⟩, by omega, by omega⟩
  refine spec_of Tryd.func44 rfl Tryd.ntmps44 rfl ?_
  refine CW.seq ?_
  refine CW.reg [0, 1, 2] rfl ?_   -- 0, law.go:13
  refine s_as 6 rfl rfl ?_
  refine s_alloc 7 rfl (fun _ _ => trivial) (fun rs => ?_)
  refine s_as 8 rfl rfl ?_
  refine SX.next ?_
  refine CW.seq ?_
  refine CW.reg [0, 1, 2, 3, 4, 5] rfl ?_   -- 1, law.go:14
  refine s_mv 13 rfl rfl ?_
  refine s_rem 14 rfl rfl rfl (by omega) rfl ?_
  refine s_add 15 rfl rfl rfl (r := m.tmod 4 + 4) (w64 (by have := tmod_lt2 (k := 4) (by omega) m; omega)) ?_
  refine s_rem 16 rfl rfl rfl (by omega) (mkm_val (k := 4) (by omega) m) ?_
  refine s_add 17 rfl rfl rfl (r := ((md 4 6 m : Nat) : Int)) (by rw [show (((m % 4).toNat : Nat) : Int) + 6 = ((md 4 6 m : Nat) : Int) by unfold md; push_cast; rfl]; have := md_bd (k := 4) (by omega) 6 m; exact w64 (by omega)) ?_
  refine s_as 0 rfl rfl ?_
  refine SX.next ?_
  refine CW.seq ?_
  refine CW.reg [0, 1, 2, 3, 4, 5] rfl ?_   -- 2, law.go:15
  refine s_mv 18 rfl rfl ?_
  refine s_rem 19 rfl rfl rfl (by omega) rfl ?_
  refine s_add 20 rfl rfl rfl (r := t.tmod 5 + 5) (w64 (by have := tmod_lt2 (k := 5) (by omega) t; omega)) ?_
  refine s_rem 21 rfl rfl rfl (by omega) (mkm_val (k := 5) (by omega) t) ?_
  refine s_add 22 rfl rfl rfl (r := ((md 5 1 t : Nat) : Int)) (by rw [show (((t % 5).toNat : Nat) : Int) + 1 = ((md 5 1 t : Nat) : Int) by unfold md; push_cast; rfl]; have := md_bd (k := 5) (by omega) 1 t; exact w64 (by omega)) ?_
  refine s_as 1 rfl rfl ?_
  refine SX.next ?_
  refine CW.seq ?_
  refine CW.reg [0, 1, 2, 3, 4, 5] rfl ?_   -- 3, law.go:16
  refine s_mv 23 rfl rfl ?_
  refine s_rem 24 rfl rfl rfl (by omega) rfl ?_
  refine s_add 25 rfl rfl rfl (r := bytes.tmod 12 + 12) (w64 (by have := tmod_lt2 (k := 12) (by omega) bytes; omega)) ?_
  refine s_rem 26 rfl rfl rfl (by omega) (mkm_val (k := 12) (by omega) bytes) ?_
  refine s_add 27 rfl rfl rfl (r := ((md 12 1 bytes : Nat) : Int)) (by rw [show (((bytes % 12).toNat : Nat) : Int) + 1 = ((md 12 1 bytes : Nat) : Int) by unfold md; push_cast; rfl]; have := md_bd (k := 12) (by omega) 1 bytes; exact w64 (by omega)) ?_
  refine s_as 2 rfl rfl ?_
  refine SX.next ?_
  refine CW.seq ?_
  refine CW.reg [0, 1, 2, 3, 4, 5, 6, 7, 8, 9] rfl ?_   -- 4, law.go:17
  refine s_mv 29 rfl rfl ?_
  refine s_mv 30 rfl rfl ?_
  refine s_mv 31 rfl rfl ?_
  refine s_call 32 rfl rfl rfl rfl (fun w hw => rNew_ok (md 4 6 m) (md 5 1 t) (md 12 1 bytes) w hC) (fun _ _ => trivial) (fun g hg => ?_)
  refine s_mv 28 rfl rfl ?_
  refine s_ext 33 rfl rfl rfl ?_
  refine s_ext 34 rfl rfl rfl ?_
  refine s_alloc 9 rfl (fun _ _ => trivial) (fun rx => ?_)
  refine s_stAll 0 rfl rfl (by kernel_rfl) rfl rfl rfl rfl (fun _ _ => trivial) ?_
  refine s_as 10 rfl rfl ?_
  refine SX.next ?_
  refine CW.seq ?_
  refine CW.seq ?_
  refine CW.reg [0, 1] rfl ?_   -- 5, law.go:18
  refine s_mv 35 rfl rfl ?_
  refine s_ne 36 rfl rfl rfl (decide_eq_false (fun h => h rfl)) ?_
  refine SX.next ?_
  refine CW.condF rfl ?_
  refine CW.skip ?_
  refine KN.code ?_
  refine CW.seq ?_
  refine CW.reg [0, 1, 2, 3, 4, 5, 6, 7, 8, 9, 10, 11] rfl ?_   -- 7, law.go:21
  refine s_fa 42 rfl rfl ?_
  refine s_ldB 43 0 rfl rfl rfl rfl ?_
  refine s_fa 44 rfl rfl ?_
  refine s_ldB 45 0 rfl rfl rfl rfl ?_
  refine s_fa 46 rfl rfl ?_
  refine s_ldB 47 0 rfl rfl rfl rfl ?_
  refine s_call 48 rfl rfl rfl rfl (fun w hw => new_ok (md 4 6 m) (md 5 1 t) (md 12 1 bytes) (fun _ => default) w hC.mt hC.d1 hC.dm hC.fit) (fun _ _ => trivial) (fun z hz => ?_)
  refine s_mv 41 rfl rfl ?_
  refine s_ext 49 rfl rfl rfl ?_
  refine s_ext 50 rfl rfl rfl ?_
  refine s_as 11 rfl rfl ?_
  refine s_as 12 rfl rfl ?_
  refine SX.next ?_
  refine CW.seq ?_
  refine CW.regD (.st true 0 (.st true 2 (.st true 3 (.st true 4 (.st true 5 (.st true 6 (.st true 7 (.st true 8 (.st false 1 (.st false 9 (.st true 10 .done))))))))))) (Sto w []) mixed (by kernel_rfl) (fun _ h => h.drew) (fun _ h => h.pick [] rfl) ?_
  refine s_mv 51 rfl rfl ?_
  refine s_mv 53 rfl rfl ?_
  refine s_nePN 54 rfl rfl ?_
  refine s_mv 55 rfl rfl ?_
  refine s_mv 56 rfl rfl ?_
  refine s_eqNN 57 rfl rfl ?_
  refine s_pickT 58 rfl rfl rfl ?_
  refine s_as 6 rfl rfl ?_
  refine s_ldW 52 1 rfl rfl rfl ?_
  refine s_stAll 3 rfl rfl (by kernel_rfl) rfl rfl rfl rfl (fun _ h => h.pick [] rfl) ?_
  refine s_as 8 rfl rfl ?_
  refine SX.next ?_
  refine CW.ret ?_
  exact KN.retC (rs := [.tmp 6, .cell 7 27, .tmp 8]) Tryd.results44 (fun w hw => ⟨[_, _, _], ⟨rfl, ⟨_, rfl, hw.ldRow (q := 3) rfl (by rfl)⟩, rfl, trivial⟩, ⟨⟨z.1, z.2, (md 4 6 m), (md 5 1 t), (md 12 1 bytes), g⟩, rfl, ⟨hC, hz, hg, by show (md 4 6 m) ≤ 9; omega, by show (md 5 1 t) ≤ 5; omega, by show (md 12 1 bytes) ≤ 12; omega, by show 6 ≤ (md 4 6 m); omega⟩, hw.pick [0, 1] rfl⟩⟩)

theorem shalelaw7_made_else (m t bytes : Int) (w : World) (hbad : N (md 4 6 m) < 8 * (md 12 1 bytes) + dg (md 4 6 m) (md 5 1 t)) : SpecX Tryd.prog 44 [.int .i64 m, .int .i64 t, .int .i64 bytes] w MadeG.val (MadeG.Fine 9 5 12) MadeG.mem := by
  have hbm := md_bd (k := 4) (by omega) 6 m
  have hbt := md_bd (k := 5) (by omega) 1 t
  have hbd := md_bd (k := 12) (by omega) 1 bytes
  have hMT : MT (md 4 6 m) (md 5 1 t) := ⟨⟨by omega, by omega⟩, by omega, by omega⟩
  refine spec_of Tryd.func44 rfl Tryd.ntmps44 rfl ?_
  refine CW.seq ?_
  refine CW.reg [0, 1, 2] rfl ?_   -- 0, law.go:13
  refine s_as 6 rfl rfl ?_
  refine s_alloc 7 rfl (fun _ _ => trivial) (fun rs => ?_)
  refine s_as 8 rfl rfl ?_
  refine SX.next ?_
  refine CW.seq ?_
  refine CW.reg [0, 1, 2, 3, 4, 5] rfl ?_   -- 1, law.go:14
  refine s_mv 13 rfl rfl ?_
  refine s_rem 14 rfl rfl rfl (by omega) rfl ?_
  refine s_add 15 rfl rfl rfl (r := m.tmod 4 + 4) (w64 (by have := tmod_lt2 (k := 4) (by omega) m; omega)) ?_
  refine s_rem 16 rfl rfl rfl (by omega) (mkm_val (k := 4) (by omega) m) ?_
  refine s_add 17 rfl rfl rfl (r := ((md 4 6 m : Nat) : Int)) (by rw [show (((m % 4).toNat : Nat) : Int) + 6 = ((md 4 6 m : Nat) : Int) by unfold md; push_cast; rfl]; have := md_bd (k := 4) (by omega) 6 m; exact w64 (by omega)) ?_
  refine s_as 0 rfl rfl ?_
  refine SX.next ?_
  refine CW.seq ?_
  refine CW.reg [0, 1, 2, 3, 4, 5] rfl ?_   -- 2, law.go:15
  refine s_mv 18 rfl rfl ?_
  refine s_rem 19 rfl rfl rfl (by omega) rfl ?_
  refine s_add 20 rfl rfl rfl (r := t.tmod 5 + 5) (w64 (by have := tmod_lt2 (k := 5) (by omega) t; omega)) ?_
  refine s_rem 21 rfl rfl rfl (by omega) (mkm_val (k := 5) (by omega) t) ?_
  refine s_add 22 rfl rfl rfl (r := ((md 5 1 t : Nat) : Int)) (by rw [show (((t % 5).toNat : Nat) : Int) + 1 = ((md 5 1 t : Nat) : Int) by unfold md; push_cast; rfl]; have := md_bd (k := 5) (by omega) 1 t; exact w64 (by omega)) ?_
  refine s_as 1 rfl rfl ?_
  refine SX.next ?_
  refine CW.seq ?_
  refine CW.reg [0, 1, 2, 3, 4, 5] rfl ?_   -- 3, law.go:16
  refine s_mv 23 rfl rfl ?_
  refine s_rem 24 rfl rfl rfl (by omega) rfl ?_
  refine s_add 25 rfl rfl rfl (r := bytes.tmod 12 + 12) (w64 (by have := tmod_lt2 (k := 12) (by omega) bytes; omega)) ?_
  refine s_rem 26 rfl rfl rfl (by omega) (mkm_val (k := 12) (by omega) bytes) ?_
  refine s_add 27 rfl rfl rfl (r := ((md 12 1 bytes : Nat) : Int)) (by rw [show (((bytes % 12).toNat : Nat) : Int) + 1 = ((md 12 1 bytes : Nat) : Int) by unfold md; push_cast; rfl]; have := md_bd (k := 12) (by omega) 1 bytes; exact w64 (by omega)) ?_
  refine s_as 2 rfl rfl ?_
  refine SX.next ?_
  refine CW.seq ?_
  refine CW.reg [0, 1, 2, 3, 4, 5, 6, 7, 8, 9] rfl ?_   -- 4, law.go:17
  refine s_mv 29 rfl rfl ?_
  refine s_mv 30 rfl rfl ?_
  refine s_mv 31 rfl rfl ?_
  refine s_call1 32 rfl rfl rfl rfl (fun w hw => rNew_bad (md 4 6 m) (md 5 1 t) (md 12 1 bytes) w hMT (by omega) (by omega) hbad) (fun _ _ => trivial) ?_
  refine s_mv 28 rfl rfl ?_
  refine s_ext 33 rfl rfl rfl ?_
  refine s_ext 34 rfl rfl rfl ?_
  refine s_alloc 9 rfl (fun _ _ => trivial) (fun rx => ?_)
  refine s_stAll 0 rfl rfl (by kernel_rfl) rfl rfl rfl rfl (fun _ _ => trivial) ?_
  refine s_as 10 rfl rfl ?_
  refine SX.next ?_
  refine CW.seq ?_
  refine CW.seq ?_
  refine CW.reg [0, 1] rfl ?_   -- 5, law.go:18
  refine s_mv 35 rfl rfl ?_
  refine s_ne 36 rfl rfl rfl (decide_eq_true (by omega)) ?_
  refine SX.next ?_
  refine CW.condT rfl ?_
  refine CW.reg [0, 1, 2, 3, 4] rfl ?_   -- 6, law.go:19
  refine s_call 38 rfl rfl rfl rfl (fun w hw => rNew_ok 7 2 5 w cok72) (fun _ _ => trivial) (fun g hg => ?_)
  refine s_mv 37 rfl rfl ?_
  refine s_ext 39 rfl rfl rfl ?_
  refine s_ext 40 rfl rfl rfl ?_
  refine s_stAll 1 rfl rfl (by kernel_rfl) rfl rfl rfl rfl (fun _ _ => trivial) ?_
  refine SX.next ?_
  refine CW.seq ?_
  refine CW.pre (C' := Sto w [blk rx 27 (refC 7 2 5 g), genOf 7 2 g, blk rs 27 refZ]) (fun _ hw => hw.pick [1, 0, 0] rfl) ?_
  refine CW.reg [0, 1, 2, 3, 4, 5, 6, 7, 8, 9, 10, 11] rfl ?_   -- 7, law.go:21
  refine s_fa 42 rfl rfl ?_
  refine s_ldB 43 0 rfl rfl rfl rfl ?_
  refine s_fa 44 rfl rfl ?_
  refine s_ldB 45 0 rfl rfl rfl rfl ?_
  refine s_fa 46 rfl rfl ?_
  refine s_ldB 47 0 rfl rfl rfl rfl ?_
  refine s_call 48 rfl rfl rfl rfl (fun w hw => new_ok 7 2 5 (fun _ => default) w cok72.mt cok72.d1 cok72.dm cok72.fit) (fun _ _ => trivial) (fun z hz => ?_)
  refine s_mv 41 rfl rfl ?_
  refine s_ext 49 rfl rfl rfl ?_
  refine s_ext 50 rfl rfl rfl ?_
  refine s_as 11 rfl rfl ?_
  refine s_as 12 rfl rfl ?_
  refine SX.next ?_
  refine CW.seq ?_
  refine CW.regD (.st true 0 (.st true 2 (.st true 3 (.st true 4 (.st true 5 (.st true 6 (.st true 7 (.st true 8 (.st false 1 (.st false 9 (.st true 10 .done))))))))))) (Sto w []) mixed (by kernel_rfl) (fun _ h => h.drew) (fun _ h => h.pick [] rfl) ?_
  refine s_mv 51 rfl rfl ?_
  refine s_mv 53 rfl rfl ?_
  refine s_nePN 54 rfl rfl ?_
  refine s_mv 55 rfl rfl ?_
  refine s_mv 56 rfl rfl ?_
  refine s_eqNN 57 rfl rfl ?_
  refine s_pickT 58 rfl rfl rfl ?_
  refine s_as 6 rfl rfl ?_
  refine s_ldW 52 1 rfl rfl rfl ?_
  refine s_stAll 3 rfl rfl (by kernel_rfl) rfl rfl rfl rfl (fun _ h => h.pick [] rfl) ?_
  refine s_as 8 rfl rfl ?_
  refine SX.next ?_
  refine CW.ret ?_
  exact KN.retC (rs := [.tmp 6, .cell 7 27, .tmp 8]) Tryd.results44 (fun w hw => ⟨[_, _, _], ⟨rfl, ⟨_, rfl, hw.ldRow (q := 3) rfl (by rfl)⟩, rfl, trivial⟩, ⟨⟨z.1, z.2, 7, 2, 5, g⟩, rfl, ⟨cok72, hz, hg, by show 7 ≤ 9; decide, by show 2 ≤ 5; decide, by show 5 ≤ 12; decide, by show 6 ≤ 7; decide⟩, hw.pick [0, 1] rfl⟩⟩)

theorem shalelaw7_made (m t bytes : Int) (w : World) : SpecX Tryd.prog 44 [.int .i64 m, .int .i64 t, .int .i64 bytes] w MadeG.val (MadeG.Fine 9 5 12) MadeG.mem := by
  have hbm := md_bd (k := 4) (by omega) 6 m
  have hbt := md_bd (k := 5) (by omega) 1 t
  have hbd := md_bd (k := 12) (by omega) 1 bytes
  have hMT : MT (md 4 6 m) (md 5 1 t) := ⟨⟨by omega, by omega⟩, by omega, by omega⟩
  by_cases h : 8 * (md 12 1 bytes) + dg (md 4 6 m) (md 5 1 t) ≤ N (md 4 6 m)
  · exact shalelaw7_made_ok m t bytes w ⟨hMT, by omega, by omega, h⟩
  · exact shalelaw7_made_else m t bytes w (by omega)

theorem first7_spec (e : Nat → Addr) (w : World) (heN : Er e w 1) : Spec1 Tryd.prog 43 [] w (.bool true) := by
  refine spec_of Tryd.func43 rfl Tryd.ntmps43 rfl ?_
  refine CW.seq ?_
  refine CW.reg [0] rfl ?_   -- 0, law.go:33
  refine s_as 0 rfl rfl ?_
  refine SX.next ?_
  refine CW.seq ?_
  refine CW.reg [0, 1, 2, 3, 4, 5] rfl ?_   -- 1, law.go:34
  refine s_call 12 rfl rfl rfl rfl (fun w hw => new_ok 5 2 2 e w cok52.mt cok52.d1 cok52.dm cok52.fit) (fun _ _ => trivial) (fun z hz => ?_)
  refine s_mv 11 rfl rfl ?_
  refine s_ext 13 rfl rfl rfl ?_
  refine s_ext 14 rfl rfl rfl ?_
  refine s_as 1 rfl rfl ?_
  refine s_as 2 rfl rfl ?_
  refine SX.next ?_
  refine CW.seq ?_
  refine CW.seq ?_
  refine CW.reg [0, 1, 2, 3, 4, 5] rfl ?_   -- 2, law.go:35
  refine s_mv 15 rfl rfl ?_
  refine s_eqPN 16 rfl rfl ?_
  refine s_mv 17 rfl rfl ?_
  refine s_mv 18 rfl rfl ?_
  refine s_neNN 19 rfl rfl ?_
  refine s_pickF 20 rfl rfl rfl ?_
  refine SX.next ?_
  refine CW.condF rfl ?_
  refine CW.skip ?_
  refine KN.code ?_
  refine CW.seq ?_
  refine CW.reg [0, 1, 2, 3, 4, 5, 6] rfl ?_   -- 4, law.go:38
  refine s_mv 22 rfl rfl ?_
  refine s_call 23 rfl rfl rfl rfl (fun w hw => by have := bits7_ok z.1 5 2 2 z.2 none 0 [] w mt52 (by decide) (hw.has (i := 0) rfl) (Has.sl_nil _ 1 none) (by decide) (by rw [dg52]; decide); exact this) (fun _ _ => trivial) (fun q23 hq23 => ?_)
  refine s_mv 21 rfl rfl ?_
  refine s_ext 24 rfl rfl rfl ?_
  refine s_ext 25 rfl rfl rfl ?_
  refine s_as 3 rfl rfl ?_
  refine s_as 4 rfl rfl ?_
  refine SX.next ?_
  refine CW.seq ?_
  refine CW.reg [0, 1, 2, 3, 4, 5, 6, 7] rfl ?_   -- 5, law.go:39
  refine s_mv 27 rfl rfl ?_
  refine s_bsl 28 rfl rfl (cells := #[.int .i64 0]) (by kernel_rfl) rfl (fun _ _ => trivial) (fun b28 => ?_)
  refine s_call 29 rfl rfl rfl rfl (fun w hw => by have := bits7_ok z.1 5 2 2 z.2 (some ⟨b28, 0, none⟩) 1 [0] w mt52 (by decide) (hw.has (i := 2) rfl) (Has.cong ((hw.has (i := 0) rfl).blk_sl (m := 1) rfl) rfl) (by decide) (by rw [dg52]; decide); rw [syn_0] at this; exact this) (fun _ _ => trivial) (fun q29 hq29 => ?_)
  refine s_mv 26 rfl rfl ?_
  refine s_ext 30 rfl rfl rfl ?_
  refine s_ext 31 rfl rfl rfl ?_
  refine s_as 5 rfl rfl ?_
  refine s_as 6 rfl rfl ?_
  refine SX.next ?_
  refine CW.seq ?_
  refine CW.reg [0, 1, 2, 3, 4, 5, 6, 7] rfl ?_   -- 6, law.go:40
  refine s_mv 33 rfl rfl ?_
  refine s_bsl 34 rfl rfl (cells := #[.int .i64 1]) (by kernel_rfl) rfl (fun _ _ => trivial) (fun b34 => ?_)
  refine s_call 35 rfl rfl rfl rfl (fun w hw => by have := bits7_ok z.1 5 2 2 z.2 (some ⟨b34, 0, none⟩) 1 [1] w mt52 (by decide) (hw.has (i := 4) rfl) (Has.cong ((hw.has (i := 0) rfl).blk_sl (m := 1) rfl) rfl) (by decide) (by rw [dg52]; decide); rw [syn_1] at this; exact this) (fun _ _ => trivial) (fun q35 hq35 => ?_)
  refine s_mv 32 rfl rfl ?_
  refine s_ext 36 rfl rfl rfl ?_
  refine s_ext 37 rfl rfl rfl ?_
  refine s_as 7 rfl rfl ?_
  refine s_as 8 rfl rfl ?_
  refine SX.next ?_
  refine CW.seq ?_
  refine CW.reg [0, 1, 2, 3, 4, 5, 6, 7] rfl ?_   -- 7, law.go:41
  refine s_mv 39 rfl rfl ?_
  refine s_bsl 40 rfl rfl (cells := #[.int .i64 26]) (by kernel_rfl) rfl (fun _ _ => trivial) (fun b40 => ?_)
  refine s_call1 41 rfl rfl rfl rfl (fun w hw => bits7_num z.1 5 2 2 z.2 (some ⟨b40, 0, none⟩) 1 1 [26] 0 e w mt52 (by decide) (hw.has (i := 6) rfl) (Has.cong ((hw.has (i := 0) rfl).blk_sl (m := 1) rfl) rfl) (by decide) (hw.er heN) (by decide) (fun i hi => by omega) (.inr (by rw [dg52]; decide))) (fun _ _ => trivial) ?_
  refine s_mv 38 rfl rfl ?_
  refine s_ext 42 rfl rfl rfl ?_
  refine s_ext 43 rfl rfl rfl ?_
  refine s_as 9 rfl rfl ?_
  refine s_as 10 rfl rfl ?_
  refine SX.next ?_
  refine CW.seq ?_
  refine CW.reg [0, 1, 2, 3, 4, 5, 6, 7, 8, 9, 10, 11, 12, 13, 14, 15, 16, 17, 18, 19, 20, 21, 22, 23, 24, 25, 26, 27, 28, 29, 30, 31, 32, 33, 34] rfl ?_   -- 8, law.go:42
  refine s_mv 44 rfl rfl ?_
  refine s_eqNN 45 rfl rfl ?_
  refine s_mv 46 rfl rfl ?_
  refine s_mv 47 rfl rfl ?_
  refine s_eqNN 48 rfl rfl ?_
  refine s_pickT 49 rfl rfl rfl ?_
  refine s_mv 50 rfl rfl ?_
  refine s_mv 51 rfl rfl ?_
  refine s_eqNN 52 rfl rfl ?_
  refine s_pickT 53 rfl rfl rfl ?_
  refine s_mv 54 rfl rfl ?_
  refine s_mv 55 rfl rfl ?_
  refine s_call1 56 rfl rfl rfl rfl (v := .bool true) (fun w hw => by have := clean7_spec q23.1 (synL 5 2 []).length q23.2 ((synL 5 2 []).map Int.ofNat) w (by rw [← nats_ints]; exact (hw.has (i := 5) rfl).of_own) (by decide); rw [syn_n] at this; exact this) (fun _ _ => trivial) ?_
  refine s_pickT 57 rfl rfl rfl ?_
  refine s_mv 58 rfl rfl ?_
  refine s_mv 59 rfl rfl ?_
  refine s_len 60 rfl rfl ?_
  refine s_eq 61 rfl rfl rfl (decide_eq_true (by rw [synL_len]; rfl)) ?_
  refine s_pickT 62 rfl rfl rfl ?_
  refine s_mv 63 rfl rfl ?_
  refine s_mv 64 rfl rfl ?_
  refine s_bsl 65 rfl rfl (cells := #[.int .i64 1, .int .i64 1, .int .i64 1, .int .i64 1]) (by kernel_rfl) rfl (fun _ _ => trivial) (fun b65 => ?_)
  refine s_call1 66 rfl rfl rfl rfl (v := .bool true) (fun w hw => by have := sameInts_spec q29.1 (some ⟨b65, 0, none⟩) 4 q29.2 4 4 ([1, 1, 1, 1].map Int.ofNat) [1, 1, 1, 1] _ (by rw [← nats_ints]; exact (hw.has (i := 4) rfl).of_own) (Has.cong ((hw.has (i := 0) rfl).blk_sl (m := 4) rfl) rfl) (by decide); exact this) (fun _ _ => trivial) ?_
  refine s_pickT 67 rfl rfl rfl ?_
  refine s_mv 68 rfl rfl ?_
  refine s_mv 69 rfl rfl ?_
  refine s_bsl 70 rfl rfl (cells := #[.int .i64 2, .int .i64 4, .int .i64 8, .int .i64 16]) (by kernel_rfl) rfl (fun _ _ => trivial) (fun b70 => ?_)
  refine s_call1 71 rfl rfl rfl rfl (v := .bool true) (fun w hw => by have := sameInts_spec q35.1 (some ⟨b70, 0, none⟩) 4 q35.2 4 4 ([2, 4, 8, 16].map Int.ofNat) [2, 4, 8, 16] _ (by rw [← nats_ints]; exact (hw.has (i := 3) rfl).of_own) (Has.cong ((hw.has (i := 0) rfl).blk_sl (m := 4) rfl) rfl) (by decide); exact this) (fun _ _ => trivial) ?_
  refine s_pickT 72 rfl rfl rfl ?_
  refine s_mv 73 rfl rfl ?_
  refine s_mv 74 rfl rfl ?_
  refine s_ld 75 rfl rfl (fun _ h => h.cell heN) ?_
  refine s_eqE 76 rfl rfl rfl ?_
  refine s_pickT 77 rfl rfl rfl ?_
  refine s_as 0 rfl rfl ?_
  refine SX.next ?_
  refine CW.ret ?_
  exact KN.ret (rs := [.tmp 0]) Tryd.results43 rfl (fun w hw => ⟨rfl, hw.nothing⟩)
end Go.Proofs.YtompcfingkoldaaDoor
end
