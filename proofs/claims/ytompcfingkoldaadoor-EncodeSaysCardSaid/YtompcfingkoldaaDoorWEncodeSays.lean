/- The walk of the statement EncodeSays. Conditions: each theorem tells its own. -/
import Derived.Test.YtompcfingkoldaaDoorGB
import Derived.Test.YtompcfingkoldaaDoorRows
import Derived.LaidLaws
import Derived.WalkKit
import Derived.ProofKit
import Derived.OpenShut
import Derived.Deep.DeepHandedRow
import Derived.Deep.DeepWitnessRowRef
import Derived.Test.YtompcfingkoldaaDoorGF
import Derived.Test.YtompcfingkoldaaDoorGE
section
/- What a row's list of error variables gives a walk: each holds a pointer of its own. No condition. -/
namespace Go.Proofs.YtompcfingkoldaaDoor
open Go.Sx Go.ChangeShapes Go.WideShapes Go.RowKit

theorem laidOutT : laidOutB Tryd.prog = true := by kernel_rfl
theorem errStar : "*" ++ "errors.errorString" = "*errors.errorString" := by decide
theorem errRow (u : TypeId) (h : Tryd.prog.typeName? 3 u = some "*errors.errorString") : u = 262 :=
  typeName_ptr_named (nm := "errors.errorString") (by rw [errStar]; kernel_rfl) (by kernel_rfl) (by decide) u (by rw [errStar]; exact h)
theorem errCells : Tryd.prog.cellsOf 279 = 1 := by kernel_rfl
theorem strCells : Tryd.prog.cellsOf 9 = 1 := by kernel_rfl
theorem noKnob : ownKnob Tryd.prog.godebug = none := by kernel_rfl

/-- The pointer that error variable k holds. -/
noncomputable def eOf (W : World) (k : Nat) : Addr := open Classical in if h : ∃ a, W.cell? ⟨k, 0, none⟩ = some (.iface 262 (.pointer (some a))) then Classical.choose h else default

theorem er_of {W : World} {k : Nat} (h : ∃ a, W.cell? ⟨k, 0, none⟩ = some (.iface 262 (.pointer (some a)))) : Er (eOf W) W k := by
  unfold Er errV eOf
  rw [dif_pos h]
  exact Classical.choose_spec h

set_option maxRecDepth 100000 in
theorem er_laid {W : World} : ∀ {l : List (String × DataW Unit)} {ps : List MemPlace}, DataW.LaidVars Tryd.prog W l ps →
    (∀ b off, MemPlace.cell b off ∈ ps → (∃ c t, W.heap[b]? = some (.cells c t (0, 0))) ∧ ∀ u v, W.cell? ⟨b, off, none⟩ = some (.iface u v) → Value.okWide Tryd.prog W .any 0 u v) →
    ∀ n d, (n, d) ∈ l → ∀ text k, d = .iface "*errors.errorString" (.ptr (.agg [.lit (.string text)])) → Tryd.prog.globalNamed n = some k → (Tryd.prog.globals[k]?).map (·.type) = some 34 → Er (eOf W) W k
  | [], _, _, _, _, _, h, _, _, _, _, _ => by cases h
  | (n0, d0) :: r, ps, hl, hrows, n, d, hm, text, k, hd, hk, ht => by
    obtain ⟨g, t, cs, fuel, p, q, hg, htg, hv, htr, hr, hps⟩ := hl
    rcases List.mem_cons.1 hm with he | hm
    · simp only [Prod.mk.injEq] at he
      obtain ⟨rfl, rfl⟩ := he
      subst hd
      obtain rfl := Option.some.inj (hk.symm.trans hg)
      obtain rfl := Option.some.inj (ht.symm.trans htg)
      obtain ⟨l0⟩ := cs
      have ok0 : ∀ u v, l0 = [.iface u v] → Value.okWide Tryd.prog W .any 0 u v := fun u v e => by
        subst e
        exact (hrows k 0 (by rw [hps]; simp [MemPlace.row])).2 u v (by simpa using World.var?_cell hg hv 0)
      obtain ⟨a, s, rfl, _⟩ := errorString_of_trod Tryd.underlying34 errRow Tryd.underlying262 Tryd.underlying279 rfl rfl Tryd.underlying9 errCells strCells htr ok0
      exact er_of ⟨a, by simpa using World.var?_cell hg hv 0⟩
    · exact er_laid hr (fun b off hb => hrows b off (by rw [hps]; exact List.mem_append_right _ hb)) n d hm text k hd hk ht

theorem er_met {W : World} {l : List (String × DataW Unit)} (h : laidMet Tryd.prog l W) (n : String) (d : DataW Unit) (hm : (n, d) ∈ l) (text : List UInt8) (k : Nat) (hd : d = .iface "*errors.errorString" (.ptr (.agg [.lit (.string text)])))
    (hk : Tryd.prog.globalNamed n = some k) (ht : (Tryd.prog.globals[k]?).map (·.type) = some 34) : Er (eOf W) W k :=
  let ⟨_, h1, _, h3⟩ := h
  er_laid h1 h3 n d hm text k hd hk ht

theorem fr_below {w w' : World} (h : Sto w [] w') : Below w.heap.size w w' := h.fr.below
end Go.Proofs.YtompcfingkoldaaDoor
end
section
/- How many places differ, walked; places turned. Conditions: the lists are read where they lie. -/
namespace Go.Proofs.YtompcfingkoldaaDoor
open Go Go.Sx Go.Fm Nb
set_option maxRecDepth 100000
theorem dif_step (a b : List Nat) (i : Nat) : dif a b (i + 1) = dif a b i + (if bitN a i ≠ bitN b i then 1 else 0) := by
  show nzc _ i + (if bitN a i ^^^ bitN b i = 0 then 0 else 1) = _
  by_cases h : bitN a i = bitN b i
  · rw [h, Nat.xor_self, if_pos rfl, if_neg (fun e => e rfl)]
    rfl
  · rw [if_neg (fun e => h (xor_eq e)), if_pos h]
    rfl
theorem dif_le (a b : List Nat) : ∀ i, dif a b i ≤ i
  | 0 => Nat.le_refl _
  | i + 1 => by
    have := dif_le a b i
    rw [dif_step]
    split <;> omega
section
variable {m t D : Nat} (h : MT m t)
include h
/-- A place turned makes a right word wrong. -/
theorem flip_wrong {d : List Nat} (hd : d.length = D) (hN : 8 * D + dg m t ≤ N m) (h2 : 2 * t < N m) {k : Nat} (hk : k < 8 * D + dg m t) : encB m t (fpD m t k d) ≠ fpP m t k (encB m t d) := by
  have hp := prB_dg m t
  have hl := encB_len m t d
  unfold fpD fpP
  by_cases hkd : k < dg m t
  · rw [if_pos hkd, if_pos hkd]
    exact fun e => flB_ne (by omega) e.symm
  · rw [if_neg hkd, if_neg hkd]
    exact turned h hd hN h2 (by omega)
omit h
theorem fp_backD {d : List Nat} (hd : d.length = D) (hlt : ∀ x ∈ d, x < 256) {k : Nat} (hk : k < 8 * D + dg m t) : fpD m t k (fpD m t k d) = d := by
  unfold fpD
  by_cases hkd : k < dg m t
  · rw [if_pos hkd, if_pos hkd]
  · rw [if_neg hkd, if_neg hkd]
    exact flB_flB hlt (by omega)
theorem fp_backP {p : List Nat} (hp : p.length = prB m t) (hlt : ∀ x ∈ p, x < 256) (k : Nat) : fpP m t k (fpP m t k p) = p := by
  have := prB_dg m t
  unfold fpP
  by_cases hkd : k < dg m t
  · rw [if_pos hkd, if_pos hkd]
    exact flB_flB hlt (by omega)
  · rw [if_neg hkd, if_neg hkd]
theorem fp_one {d p : List Nat} (hd : d.length = D) (hp : p.length = prB m t) {k : Nat} (hk : k < 8 * D + dg m t) : dif (fpD m t k d) d (8 * (fpD m t k d).length) + dif (fpP m t k p) p (8 * (fpP m t k p).length) = 1 := by
  have := prB_dg m t
  rw [fpD_len, fpP_len]
  unfold fpD fpP
  by_cases hkd : k < dg m t
  · rw [if_pos hkd, if_pos hkd, dif_self, dif_flip (by omega)]
  · rw [if_neg hkd, if_neg hkd, dif_self, dif_flip (by omega)]
/-- Unlike places make unlike words. -/
theorem fp_apart {d p : List Nat} (hd : d.length = D) (hp : p.length = prB m t) {i j : Nat} (hi : i < 8 * D + dg m t) (hj : j < 8 * D + dg m t) (hij : i ≠ j) (he : fpD m t i d = fpD m t j d) : fpP m t i p ≠ fpP m t j p := by
  have := prB_dg m t
  unfold fpD at he
  unfold fpP
  by_cases h1 : i < dg m t
  · rw [if_pos h1] at he ⊢
    by_cases h2 : j < dg m t
    · rw [if_pos h2]
      exact fun e => hij (flB_inj (by omega) (by omega) e)
    · rw [if_neg h2] at he
      exact absurd he.symm (flB_ne (by omega))
  · rw [if_neg h1] at he ⊢
    by_cases h2 : j < dg m t
    · rw [if_pos h2] at he
      exact absurd he (flB_ne (by omega))
    · rw [if_neg h2] at he
      have := flB_inj (by omega) (by omega) he
      omega
end

theorem dist_spec (A : Option Addr) (n c : Nat) (p : List Nat) (A2 : Option Addr) (n2 c2 : Nat) (p2 : List Nat) (w : World) (ha : Has (sl 1 A n (nats .u8 p)) w) (hp : ∀ x ∈ p, x < 256) (hn : n ≤ 1073741824) (hcp : n ≤ c) (ha2 : Has (sl 1 A2 n2 (nats .u8 p2)) w) (hp2 : ∀ x ∈ p2, x < 256) (hn2 : n2 ≤ 1073741824) (hcp2 : n2 ≤ c2) (hl : n = n2) : Spec1 Tryd.prog 26 [.slice A n c, .slice A2 n2 c2] w (.int .i64 ((dif p p2 (8 * n) : Nat) : Int)) := by
  have hla := nats_len ha
  subst hla
  have hla2 := nats_len ha2
  subst hla2
  refine spec_of Tryd.func26 rfl Tryd.ntmps26 rfl ?_
  refine CW.seq ?_
  refine CW.reg [0] rfl ?_   -- 0, code.go:231
  refine s_as 4 rfl rfl ?_
  refine SX.next ?_
  refine CW.seq ?_
  refine CW.reg [0] rfl ?_   -- 1, code.go:232
  refine s_as 5 rfl rfl ?_
  refine SX.next ?_
  refine CW.seq ?_
  refine CW.seq ?_
  refine CW.reg [0] rfl ?_   -- 2, code.go:233
  refine s_as 6 rfl rfl ?_
  refine SX.next ?_
  refine CW.block ?_
  refine CW.loop (G := Nat) (fun i => [(0, .slice A p.length c), (1, .slice A2 p2.length c2), (5, .int .i64 (dif p p2 i : Nat)), (6, .int .i64 (i : Nat))]) (fun _ => Sto w []) (fun i => i ≤ 8 * p.length) (fun i => 8 * p.length - i) 0 ⟨rfl, rfl, rfl, rfl, trivial⟩ (fun _ hw => hw) (Nat.zero_le _) ?_
  intro i hi
  have hdl := dif_le p p2 i
  have hds := dif_step p p2 i
  refine CW.seq ?_
  refine CW.seq ?_
  refine CW.reg [0, 1, 2, 3, 4, 5, 6, 7] rfl ?_   -- 3, code.go:233
  refine s_mv 7 rfl rfl ?_
  refine s_mv 8 rfl rfl ?_
  refine s_len 9 rfl rfl ?_
  refine s_mv 10 rfl rfl ?_
  refine s_len 11 rfl rfl ?_
  refine s_min 12 rfl rfl rfl (r := ((p.length : Nat) : Int)) (by split <;> omega) ?_
  refine s_mul 13 rfl rfl rfl (r := ((8 * p.length : Nat) : Int)) (by rw [show (8 : Int) * ((p.length : Nat) : Int) = ((8 * p.length : Nat) : Int) by omega]; exact w64 (by omega)) ?_
  refine s_lt 14 rfl rfl rfl rfl ?_
  refine SX.next ?_
  refine CW.test rfl (fun hc => ?_) (fun hc => ?_)
  · skip
    refine CW.skip ?_
    refine KN.code ?_
    refine CW.seq ?_
    refine CW.block ?_
    refine CW.seq ?_
    refine CW.reg [0, 1, 2, 3, 4, 5, 6] rfl ?_   -- 5, code.go:234
    refine s_mv 17 rfl rfl ?_
    refine s_mv 18 rfl rfl ?_
    refine s_call1 19 rfl rfl rfl rfl (v := .int .i64 (bitN p i : Nat)) (fun w hw => by have := rBit_spec A p.length c p (i : Nat) w (hw.old ha) hp hn hcp (by omega); rw [bitI_nat] at this; exact this) (fun _ _ => trivial) ?_
    refine s_mv 20 rfl rfl ?_
    refine s_mv 21 rfl rfl ?_
    refine s_call1 22 rfl rfl rfl rfl (v := .int .i64 (bitN p2 i : Nat)) (fun w hw => by have := rBit_spec A2 p2.length c2 p2 (i : Nat) w (hw.old ha2) hp2 hn2 hcp2 (by omega); rw [bitI_nat] at this; exact this) (fun _ _ => trivial) ?_
    refine s_ne 23 rfl rfl rfl rfl ?_
    refine SX.next ?_
    refine CW.test rfl (fun hc => ?_) (fun hc => ?_)
    · skip
      have hnx : dif p p2 (i + 1) = dif p p2 i + 1 := by rw [hds, if_pos (by omega)]
      refine CW.reg [0, 1, 2] rfl ?_   -- 6, code.go:235
      refine s_mv 24 rfl rfl ?_
      refine s_add 25 rfl rfl rfl (r := ((dif p p2 i + 1 : Nat) : Int)) (w64 (by omega)) ?_
      refine s_as 5 rfl rfl ?_
      refine SX.end_ ?_
      refine KN.blk ?_
      refine KN.code ?_
      refine CW.reg [0, 1, 2] rfl ?_   -- 4, code.go:233
      refine s_mv 15 rfl rfl ?_
      refine s_add 16 rfl rfl rfl (r := ((i + 1 : Nat) : Int)) (w64 (by omega)) ?_
      refine s_as 6 rfl rfl ?_
      refine SX.end_ ?_
      exact KN.back (i + 1) ⟨rfl, rfl, by rw [hnx]; rfl, rfl, trivial⟩ (fun _ hw => hw) (by omega) (by omega)
    · skip
      have hnx : dif p p2 (i + 1) = dif p p2 i := by rw [hds, if_neg (by omega)]; rfl
      refine CW.skip ?_
      refine KN.blk ?_
      refine KN.code ?_
      refine CW.reg [0, 1, 2] rfl ?_   -- 4, code.go:233
      refine s_mv 15 rfl rfl ?_
      refine s_add 16 rfl rfl rfl (r := ((i + 1 : Nat) : Int)) (w64 (by omega)) ?_
      refine s_as 6 rfl rfl ?_
      refine SX.end_ ?_
      exact KN.back (i + 1) ⟨rfl, rfl, by rw [hnx]; rfl, rfl, trivial⟩ (fun _ hw => hw) (by omega) (by omega)
  · skip
    obtain rfl : i = 8 * p.length := by omega
    refine CW.exit rfl ?_
    refine KN.code ?_
    refine CW.seq ?_
    refine CW.reg [0, 1, 2, 3, 4, 5, 6, 7, 8, 9, 10, 11, 12, 13, 14] rfl ?_   -- 7, code.go:238
    refine s_mv 26 rfl rfl ?_
    refine s_mv 27 rfl rfl ?_
    refine s_len 28 rfl rfl ?_
    refine s_mv 29 rfl rfl ?_
    refine s_len 30 rfl rfl ?_
    refine s_max 31 rfl rfl rfl (r := ((p.length : Nat) : Int)) (by split <;> omega) ?_
    refine s_mv 32 rfl rfl ?_
    refine s_len 33 rfl rfl ?_
    refine s_mv 34 rfl rfl ?_
    refine s_len 35 rfl rfl ?_
    refine s_min 36 rfl rfl rfl (r := ((p.length : Nat) : Int)) (by split <;> omega) ?_
    refine s_sub 37 rfl rfl rfl (r := 0) (by rw [Int.sub_self]; rfl) ?_
    refine s_mul 38 rfl rfl rfl (r := 0) (by rw [Int.mul_zero]; rfl) ?_
    refine s_add 39 rfl rfl rfl (r := ((dif p p2 (8 * p.length) : Nat) : Int)) (by rw [Int.add_zero]; exact w64 (by omega)) ?_
    refine s_as 4 rfl rfl ?_
    refine SX.next ?_
    refine CW.ret ?_
    exact KN.ret (rs := [.tmp 4]) Tryd.results26 rfl (fun w hw => ⟨rfl, hw.nothing⟩)
end Go.Proofs.YtompcfingkoldaaDoor
end
section
/- The chapter's parity, bit by bit, and its turning of a place, walked. Conditions: the code may be; the lists are read where they lie. -/
namespace Go.Proofs.YtompcfingkoldaaDoor
open Go Go.Sx Go.Fm Nb
set_option maxRecDepth 100000
/-- Numbers in memory. -/
def rI (n : Nat) (f : Nat → Nat) : Array Value := (nats .i64 (tb n f)).toArray
theorem rI_at {n i : Nat} {f : Nat → Nat} (h : i < n) : (rI n f)[i]? = some (.int .i64 (f i : Nat)) := by
  unfold rI
  rw [List.getElem?_toArray, nats, List.getElem?_map, tb_get h]
  rfl
theorem rI_set (n : Nat) (f : Nat → Nat) (i v : Nat) : (rI n f).setIfInBounds i (.int .i64 (v : Nat)) = rI n (fun j => if j = i then v else f j) := by
  unfold rI
  rw [List.setIfInBounds_toArray, nats_set, tb_set]
theorem rI_size (n : Nat) (f : Nat → Nat) : (rI n f).size = n := by simp [rI, nats, tb_len]
theorem rI_congr {n : Nat} {f g : Nat → Nat} (h : ∀ i, i < n → f i = g i) : rI n f = rI n g := by
  unfold rI
  rw [tb_congr h]
theorem rI_zero (n : Nat) : (List.replicate n (Value.int .i64 0)).toArray = rI n (cf []) := by
  have h : rI n (cf []) = rI n (fun _ => 0) := rI_congr (fun i _ => cf_nil i)
  rw [h]
  unfold rI tb nats
  rw [List.map_map]
  show _ = ((List.range n).map (fun _ => Value.int .i64 0)).toArray
  rw [List.map_const', List.length_range]
/-- A step of one bit, from the top down to i. -/
def nw (E G : List Nat) (tp i x : Nat) : Nat := if i < x then cf E (x - 1) ^^^ tp * cf G x else cf E x
theorem nw_top {n : Nat} (E G : List Nat) (tp : Nat) : rI n (nw E G tp (n - 1)) = rI n (cf E) := rI_congr (fun i hi => by unfold nw; rw [if_neg (by omega)])
theorem nw_cf {E G : List Nat} {tp i x : Nat} (h : x ≤ i) : nw E G tp i x = cf E x := by unfold nw; rw [if_neg (by omega)]
theorem nw_next (E G : List Nat) (tp k : Nat) : (fun j => if j = k + 1 then cf E k ^^^ tp * cf G (k + 1) else nw E G tp (k + 1) j) = nw E G tp k := by
  funext j
  unfold nw
  by_cases h : j = k + 1
  · subst h; rw [if_pos rfl, if_pos (by omega), Nat.add_sub_cancel]
  · rw [if_neg h]
    by_cases h2 : k + 1 < j
    · rw [if_pos h2, if_pos (by omega)]
    · rw [if_neg h2, if_neg (by omega)]
theorem nw_all {m t : Nat} (h : MT m t) {A : List Nat} (hA : B1 A) {b : Nat} (hb : b < 2) : rI (dg m t) (fun j => if j = 0 then (cf (encE (genL m (ldr m t).1) A) (dg m t - 1) ^^^ b) * cf (genL m (ldr m t).1) 0 else nw (encE (genL m (ldr m t).1) A) (genL m (ldr m t).1) (cf (encE (genL m (ldr m t).1) A) (dg m t - 1) ^^^ b) 0 j) = rI (dg m t) (cf (encE (genL m (ldr m t).1) (consP b A))) := rI_congr (fun i hi => by
  have e := encE_step h.gb h.g2 hA hb i
  have hd : (genL m (ldr m t).1).length - 1 = dg m t := rfl
  rw [hd, if_pos hi, Nat.xor_comm b] at e
  rw [e]
  by_cases h0 : i = 0
  · subst h0; rw [if_pos rfl, if_pos rfl, Nat.zero_xor]
  · rw [if_neg h0, if_neg h0]
    unfold nw
    rw [if_pos (by omega)])
theorem pl_b1' {E : List Nat} (hE : B1 E) (i : Nat) : B1 (pl i (cf E)) := pl_b1 hE.le
/-- One bit more. -/
theorem pb_more {E : List Nat} (hE : B1 E) {k i : Nat} : (fun x => if x = i / 8 then cf (pb k (pl i (cf E))) (i / 8) ||| cf E i * 2 ^ (i % 8) else cf (pb k (pl i (cf E))) x) = fun x => if x < k then cf (pb k (pl (i + 1) (cf E))) x else if x = i / 8 then cf (pb k (pl i (cf E))) (i / 8) ||| cf E i * 2 ^ (i % 8) else cf (pb k (pl i (cf E))) x := by
  funext x
  by_cases hx : x < k
  · rw [if_pos hx]
    have hb := hE.le i
    have hp1 := pb_lt (pl_b1' hE i) k
    have hp2 := pb_lt (pl_b1' hE (i + 1)) k
    have h2 := pow8_lt' i
    have hE2 : cf E i * 2 ^ (i % 8) < 256 := Nat.lt_of_le_of_lt (Nat.mul_le_mul_right _ (show cf E i ≤ 1 by omega)) (by omega)
    by_cases he : x = i / 8
    · rw [if_pos he]
      subst he
      refine test_ext (Nat.or_lt_two_pow (n := 8) (cf_lt8 hp1 _) hE2) (cf_lt8 hp2 _) (fun s hs => ?_)
      apply toNat_inj
      rw [pb_test (pl_b1' hE (i + 1)) hx hs, Nat.testBit_or]
      have e1 := pb_test (pl_b1' hE i) hx hs
      rw [cf_pl] at e1 ⊢
      have e2 : (cf E i * 2 ^ (i % 8)).testBit s = (decide (s = i % 8) && decide (cf E i = 1)) := by
        rcases (show cf E i = 0 ∨ cf E i = 1 by omega) with h0 | h0
        · rw [h0, Nat.zero_mul, Nat.zero_testBit]; simp
        · rw [h0, Nat.one_mul, Nat.testBit_two_pow]
          by_cases h3 : i % 8 = s
          · simp [h3]
          · rw [decide_eq_false h3, decide_eq_false (fun e => h3 e.symm)]; rfl
      rw [e2]
      by_cases h3 : s = i % 8
      · rw [if_neg (by omega)] at e1
        rw [if_pos (by omega), decide_eq_true h3]
        have h4 : (cf (pb k (pl i (cf E))) (i / 8)).testBit s = false := by
          cases hc : (cf (pb k (pl i (cf E))) (i / 8)).testBit s
          · rfl
          · rw [hc] at e1; cases e1
        rw [h4, Bool.false_or, Bool.true_and, show 8 * (i / 8) + s = i by omega]
        rcases (show cf E i = 0 ∨ cf E i = 1 by omega) with h0 | h0 <;> rw [h0] <;> rfl
      · rw [decide_eq_false h3, Bool.false_and, Bool.or_false, e1]
        by_cases h5 : 8 * (i / 8) + s < i
        · rw [if_pos h5, if_pos (by omega)]
        · rw [if_neg h5, if_neg (by omega)]
    · rw [if_neg he]
      refine test_ext (cf_lt8 hp1 _) (cf_lt8 hp2 _) (fun s hs => ?_)
      apply toNat_inj
      rw [pb_test (pl_b1' hE (i + 1)) hx hs, pb_test (pl_b1' hE i) hx hs, cf_pl, cf_pl]
      by_cases h5 : 8 * x + s < i
      · rw [if_pos h5, if_pos (by omega)]
      · rw [if_neg h5, if_neg (by omega)]
  · rw [if_neg hx]
theorem pb_moreB {E : List Nat} (hE : B1 E) {k i : Nat} : rB k (fun x => if x = i / 8 then cf (pb k (pl i (cf E))) (i / 8) ||| cf E i * 2 ^ (i % 8) else cf (pb k (pl i (cf E))) x) = rB k (cf (pb k (pl (i + 1) (cf E)))) := by
  rw [pb_more hE]
  exact rB_congr (fun x hx => if_pos hx)
theorem pl_full {E : List Nat} (hE : B1 E) {n : Nat} (h : E.length ≤ n) : pl n (cf E) = E := b1_ext (pl_b1' hE n) hE (fun j => by
  rw [cf_pl]
  split
  · rfl
  · rw [cf_out (by omega)])
theorem gn_bit {m t : Nat} (h : MT m t) (x : Nat) : bitN (gnB m t) x = cf (genL m (ldr m t).1) x := bitN_bys h.gb.le x
theorem xor63 {a b : Nat} (ha : a < 2) (hb : b < 2) : a ^^^ b < 2 := Nat.xor_lt_two_pow (n := 1) ha hb

theorem rSerial_spec (m t D : Nat) (g : Option Addr × Nat) (A : Option Addr) (n c : Nat) (p : List Nat) (w : World) (hMT : MT m t) (hDm : D ≤ 2048) (hg : (gnB m t).length ≤ g.2) (hG : Has (sl 1 g.1 (gnB m t).length (nats .u8 (gnB m t))) w) (ha : Has (sl 1 A n (nats .u8 p)) w) (hp : ∀ x ∈ p, x < 256) (hn : n ≤ 1073741824) (hcp : n ≤ c) (hnD : n = D) : SpecB Tryd.prog 50 [.agg (refC m t D g), .slice A n c] w (encB m t p) := by
  have hla := nats_len ha
  subst hla
  subst hnD
  have hd1 := hMT.d1
  have hd5 := hMT.d560
  have hp1 := hMT.p1
  have hp7 := hMT.p70
  have hgl := gn_len hMT
  have hpd := prB_dg m t
  have hbl := bl_len p
  have hEB : ∀ k, B1 (encE (genL m (ldr m t).1) (dnP k (bl p))) := fun k => hMT.eb (dnP_b1 (bl_b1 p) k)
  refine spec_of Tryd.func50 rfl Tryd.ntmps50 rfl ?_
  refine CW.seq ?_
  refine CW.reg [0, 1] rfl ?_   -- 0, code.go:39
  refine s_box 2 rfl rfl (fun _ _ => trivial) (fun b2 => ?_)
  refine s_as 4 rfl rfl ?_
  refine SX.next ?_
  refine CW.seq ?_
  refine CW.reg [0, 1, 2, 3] rfl ?_   -- 1, code.go:40
  refine s_fa 11 rfl rfl ?_
  refine s_ldB 12 0 rfl rfl rfl rfl ?_
  refine s_make 13 (dg m t) rfl rfl rfl rfl rfl (by omega) (fun _ _ => trivial) (fun r => ?_)
  refine s_as 5 rfl rfl ?_
  refine SX.next ?_
  refine CW.seq ?_
  refine CW.seq ?_
  refine CW.reg [0, 1, 2, 3, 4] rfl ?_   -- 2, code.go:41
  refine s_fa 14 rfl rfl ?_
  refine s_ldB 15 1 rfl rfl rfl rfl ?_
  refine s_mul 16 rfl rfl rfl (r := ((8 * p.length : Nat) : Int)) (by rw [show (8 : Int) * ((p.length : Nat) : Int) = ((8 * p.length : Nat) : Int) by omega]; exact w64 (by omega)) ?_
  refine s_sub 17 rfl rfl rfl (r := ((8 * p.length : Nat) : Int) - 1) (w64 (by omega)) ?_
  refine s_as 6 rfl rfl ?_
  refine SX.next ?_
  refine CW.block ?_
  refine CW.loop (G := Nat) (fun k => [(1, .slice A p.length c), (2, .pointer (some ⟨b2, 0, none⟩)), (5, .slice (some ⟨r, 0, none⟩) (dg m t) (dg m t)), (6, .int .i64 (((k : Nat) : Int) - 1))]) (fun k => Sto w [blk r 3 (rI (dg m t) (cf (encE (genL m (ldr m t).1) (dnP k (bl p))))), blk b2 27 (refC m t p.length g)]) (fun k => k ≤ 8 * p.length) (fun k => k) (8 * p.length) ⟨rfl, rfl, rfl, rfl, trivial⟩ (fun _ hw => by rw [dnP_out (bl_b1 p) hbl, encE_zero hMT.gb hMT.g2, ← rI_zero]; exact hw) (Nat.le_refl _) ?_
  intro k0 hk0
  refine CW.seq ?_
  refine CW.seq ?_
  refine CW.reg [0, 1] rfl ?_   -- 3, code.go:41
  refine s_mv 18 rfl rfl ?_
  refine s_ge 19 rfl rfl rfl rfl ?_
  refine SX.next ?_
  refine CW.test rfl (fun hc => ?_) (fun hc => ?_)
  · skip
    obtain ⟨j, rfl⟩ : ∃ j, k0 = j + 1 := ⟨k0 - 1, by omega⟩
    have hE1 := (hEB (j + 1)).le
    have hbj := bitN_lt p j
    have htp := xor63 (hE1 (dg m t - 1)) hbj
    refine CW.skip ?_
    refine KN.code ?_
    refine CW.seq ?_
    refine CW.block ?_
    refine CW.seq ?_
    refine CW.regD (.st true 0 (.st true 1 (.st true 2 (.st true 3 (.st true 4 (.st true 5 (.st true 6 (.st true 7 (.st false 8 (.st true 9 (.st true 10 .done))))))))))) (Sto w [blk r 3 (rI (dg m t) (cf (encE (genL m (ldr m t).1) (dnP (j + 1) (bl p))))), blk b2 27 (refC m t p.length g)]) mixed (by kernel_rfl) (fun _ h => h.drew) (fun _ hw => hw) ?_
    refine s_mv 22 rfl rfl ?_
    refine s_fa 23 rfl rfl ?_
    refine s_ldS 24 rfl rfl (v := .int .i64 (dg m t : Nat)) (fun _ hw => hw.blkCell (i := 1) rfl rfl) ?_
    refine s_sub 25 rfl rfl rfl (r := ((dg m t - 1 : Nat) : Int)) (by rw [show ((dg m t : Nat) : Int) - 1 = ((dg m t - 1 : Nat) : Int) by omega]; exact w64 (by omega)) ?_
    refine s_ia0 26 (dg m t - 1) rfl rfl rfl rfl (by omega) ?_
    refine s_ldS 27 rfl rfl (v := .int .i64 (cf (encE (genL m (ldr m t).1) (dnP (j + 1) (bl p))) (dg m t - 1) : Nat)) (fun _ hw => hw.blkCell (i := 0) rfl (rI_at (by omega))) ?_
    refine s_mv 28 rfl rfl ?_
    refine s_mv 29 rfl rfl ?_
    refine s_call1 30 rfl rfl rfl rfl (v := .int .i64 (bitN p j : Nat)) (fun w hw => by have := rBit_spec A p.length c p (((j + 1 : Nat) : Int) - 1) w (hw.old ha) hp hn hcp (by omega); rw [show ((j + 1 : Nat) : Int) - 1 = ((j : Nat) : Int) by omega, bitI_nat] at this; rw [show ((j + 1 : Nat) : Int) - 1 = ((j : Nat) : Int) by omega]; exact this) (fun _ hw => hw) ?_
    refine s_bit 31 rfl rfl rfl rfl (r := (((cf (encE (genL m (ldr m t).1) (dnP (j + 1) (bl p))) (dg m t - 1) ^^^ bitN p j) : Nat) : Int)) (ibit_xor_nat (by have := hE1 (dg m t - 1); omega) (by omega)) ?_
    refine s_as 7 rfl rfl ?_
    refine SX.next ?_
    refine CW.seq ?_
    refine CW.seq ?_
    refine CW.reg [0, 1, 2, 3] rfl ?_   -- 6, code.go:43
    refine s_fa 32 rfl rfl ?_
    refine s_ldB 33 1 rfl rfl rfl rfl ?_
    refine s_sub 34 rfl rfl rfl (r := ((dg m t - 1 : Nat) : Int)) (by rw [show ((dg m t : Nat) : Int) - 1 = ((dg m t - 1 : Nat) : Int) by omega]; exact w64 (by omega)) ?_
    refine s_as 8 rfl rfl ?_
    refine SX.next ?_
    refine CW.block ?_
    refine CW.loop (G := Nat) (fun i => [(1, .slice A p.length c), (2, .pointer (some ⟨b2, 0, none⟩)), (5, .slice (some ⟨r, 0, none⟩) (dg m t) (dg m t)), (6, .int .i64 (((j + 1 : Nat) : Int) - 1)), (7, .int .i64 ((cf (encE (genL m (ldr m t).1) (dnP (j + 1) (bl p))) (dg m t - 1) ^^^ bitN p j) : Nat)), (8, .int .i64 (i : Nat))]) (fun i => Sto w [blk r 3 (rI (dg m t) (nw (encE (genL m (ldr m t).1) (dnP (j + 1) (bl p))) (genL m (ldr m t).1) (cf (encE (genL m (ldr m t).1) (dnP (j + 1) (bl p))) (dg m t - 1) ^^^ bitN p j) i)), blk b2 27 (refC m t p.length g)]) (fun i => i ≤ dg m t - 1) (fun i => i) (dg m t - 1) ⟨rfl, rfl, rfl, rfl, rfl, rfl, trivial⟩ (fun _ hw => by rw [nw_top]; exact hw) (Nat.le_refl _) ?_
    intro i hi
    refine CW.seq ?_
    refine CW.seq ?_
    refine CW.reg [0, 1] rfl ?_   -- 7, code.go:43
    refine s_mv 35 rfl rfl ?_
    refine s_gt 36 rfl rfl rfl rfl ?_
    refine SX.next ?_
    refine CW.test rfl (fun hc => ?_) (fun hc => ?_)
    · skip
      obtain ⟨k, rfl⟩ : ∃ k, i = k + 1 := ⟨i - 1, by omega⟩
      have hgk := hMT.gb.le (k + 1)
      have hmg := Nat.mul_le_mul (show (cf (encE (genL m (ldr m t).1) (dnP (j + 1) (bl p))) (dg m t - 1) ^^^ bitN p j) ≤ 1 by omega) (show cf (genL m (ldr m t).1) (k + 1) ≤ 1 by omega)
      have hek := hE1 k
      refine CW.skip ?_
      refine KN.code ?_
      refine CW.seq ?_
      refine CW.block ?_
      refine CW.regD (.st true 0 (.st true 1 (.st true 2 (.st true 3 (.st true 4 (.st true 5 (.st true 6 (.st true 7 (.st true 8 (.st true 9 (.st true 10 (.st false 11 (.st true 12 (.st true 13 (.st true 14 (.st false 15 .done)))))))))))))))) (fun w2 => w2.cell? ⟨r, k, none⟩ = some (.int .i64 (cf (encE (genL m (ldr m t).1) (dnP (j + 1) (bl p))) k : Nat)) ∧ w2.cell? ⟨b2, 3, none⟩ = some (.slice g.1 (gnB m t).length g.2)) mixed (by kernel_rfl) (fun _ h => h.drew) (fun _ hw => ⟨hw.blkCell (i := 0) rfl (by rw [rI_at (by omega), nw_cf (by omega)]), hw.blkCell (i := 1) rfl rfl⟩) ?_
      refine s_mv 39 rfl rfl ?_
      refine s_mv 40 rfl rfl ?_
      refine s_mv 41 rfl rfl ?_
      refine s_mv 42 rfl rfl ?_
      refine s_sub 43 rfl rfl rfl (r := ((k : Nat) : Int)) (by rw [show ((k + 1 : Nat) : Int) - 1 = ((k : Nat) : Int) by omega]; exact w64 (by omega)) ?_
      refine s_ia0 44 k rfl rfl rfl rfl (by omega) ?_
      refine s_ldS 45 rfl rfl (fun _ hw => hw.1) ?_
      refine s_mv 46 rfl rfl ?_
      refine s_fa 47 rfl rfl ?_
      refine s_ldS 48 rfl rfl (fun _ hw => hw.2) ?_
      refine s_mv 49 rfl rfl ?_
      refine s_call1 50 rfl rfl rfl rfl (v := .int .i64 (cf (genL m (ldr m t).1) (k + 1) : Nat)) (fun w hw => by have := rBit_spec g.1 (gnB m t).length g.2 (gnB m t) (((k + 1) : Nat) : Int) w (hw.old hG) (gn_lt hMT) (by omega) hg (by omega); rw [bitI_nat, gn_bit hMT] at this; exact this) (fun _ hw => ⟨hw.blkCell (i := 0) rfl (by rw [rI_at (by omega), nw_cf (by omega)]), hw.blkCell (i := 1) rfl rfl⟩) ?_
      refine s_mul 51 rfl rfl rfl (r := (((cf (encE (genL m (ldr m t).1) (dnP (j + 1) (bl p))) (dg m t - 1) ^^^ bitN p j) * cf (genL m (ldr m t).1) (k + 1) : Nat) : Int)) (by rw [← Int.natCast_mul]; exact w64 (by omega)) ?_
      refine s_bit 52 rfl rfl rfl rfl (r := ((cf (encE (genL m (ldr m t).1) (dnP (j + 1) (bl p))) k ^^^ (cf (encE (genL m (ldr m t).1) (dnP (j + 1) (bl p))) (dg m t - 1) ^^^ bitN p j) * cf (genL m (ldr m t).1) (k + 1) : Nat) : Int)) (ibit_xor_nat (by omega) (by omega)) ?_
      refine s_ia0 53 (k + 1) rfl rfl rfl rfl (by omega) ?_
      refine s_stB 0 rfl rfl rfl rfl rfl (by rw [rI_size]; omega) (fun _ hw => ⟨hw.blkCell (i := 0) rfl (by rw [rI_set, rI_at (by omega), if_neg (by omega), nw_cf (by omega)]), hw.blkCell (i := 1) rfl rfl⟩) ?_
      refine SX.end_ ?_
      refine KN.blk ?_
      refine KN.code ?_
      refine CW.reg [0, 1, 2] rfl ?_   -- 8, code.go:43
      refine s_mv 37 rfl rfl ?_
      refine s_sub 38 rfl rfl rfl (r := ((k : Nat) : Int)) (by rw [show ((k + 1 : Nat) : Int) - 1 = ((k : Nat) : Int) by omega]; exact w64 (by omega)) ?_
      refine s_as 8 rfl rfl ?_
      refine SX.end_ ?_
      exact KN.back k ⟨rfl, rfl, rfl, rfl, rfl, rfl, trivial⟩ (fun _ hw => by rw [← nw_next, ← rI_set]; exact hw) (by omega) (by omega)
    · skip
      obtain rfl : i = 0 := by omega
      have hgk := hMT.gb.le 0
      have hmg := Nat.mul_le_mul (show (cf (encE (genL m (ldr m t).1) (dnP (j + 1) (bl p))) (dg m t - 1) ^^^ bitN p j) ≤ 1 by omega) (show cf (genL m (ldr m t).1) 0 ≤ 1 by omega)
      refine CW.exit rfl ?_
      refine KN.code ?_
      refine CW.reg [0, 1, 2, 3, 4, 5, 6, 7] rfl ?_   -- 10, code.go:46
      refine s_mv 54 rfl rfl ?_
      refine s_mv 55 rfl rfl ?_
      refine s_fa 56 rfl rfl ?_
      refine s_ldB 57 1 rfl rfl rfl rfl ?_
      refine s_call1 58 rfl rfl rfl rfl (v := .int .i64 (cf (genL m (ldr m t).1) 0 : Nat)) (fun w hw => by have := rBit_spec g.1 (gnB m t).length g.2 (gnB m t) ((0 : Nat) : Int) w (hw.old hG) (gn_lt hMT) (by omega) hg (by omega); rw [bitI_nat, gn_bit hMT] at this; exact this) (fun _ _ => trivial) ?_
      refine s_mul 59 rfl rfl rfl (r := (((cf (encE (genL m (ldr m t).1) (dnP (j + 1) (bl p))) (dg m t - 1) ^^^ bitN p j) * cf (genL m (ldr m t).1) 0 : Nat) : Int)) (by rw [← Int.natCast_mul]; exact w64 (by omega)) ?_
      refine s_ia0 60 0 rfl rfl rfl rfl (by omega) ?_
      refine s_stB 0 rfl rfl rfl rfl rfl (by rw [rI_size]; omega) (fun _ _ => trivial) ?_
      refine SX.end_ ?_
      refine KN.blk ?_
      refine KN.code ?_
      refine CW.reg [0, 1, 2] rfl ?_   -- 4, code.go:41
      refine s_mv 20 rfl rfl ?_
      refine s_sub 21 rfl rfl rfl (r := ((j : Nat) : Int) - 1) (by rw [show ((j + 1 : Nat) : Int) - 1 - 1 = ((j : Nat) : Int) - 1 by omega]; exact w64 (by omega)) ?_
      refine s_as 6 rfl rfl ?_
      refine SX.end_ ?_
      exact KN.back j ⟨rfl, rfl, rfl, rfl, trivial⟩ (fun _ hw => by rw [dnP_cons (bl_b1 p) j, cf_bl, ← nw_all hMT (dnP_b1 (bl_b1 p) _) hbj, ← rI_set]; exact hw) (by omega) (by omega)
  · skip
    obtain rfl : k0 = 0 := by omega
    refine CW.exit rfl ?_
    refine KN.code ?_
    refine CW.seq ?_
    refine CW.reg [0, 1, 2, 3] rfl ?_   -- 11, code.go:48
    have hE0 := (hEB 0).le
    refine s_ldW 61 1 rfl rfl rfl ?_
    refine s_call1 62 rfl rfl rfl rfl (fun w hw => rPar_spec m t p.length g w hMT) (fun _ _ => trivial) ?_
    refine s_make 63 (prB m t) rfl rfl rfl rfl rfl (by omega) (fun _ _ => trivial) (fun ot => ?_)
    refine s_as 9 rfl rfl ?_
    refine SX.next ?_
    refine CW.seq ?_
    refine CW.seq ?_
    refine CW.reg [0] rfl ?_   -- 12, code.go:49
    refine s_as 10 rfl rfl ?_
    refine SX.next ?_
    refine CW.block ?_
    refine CW.loop (G := Nat) (fun i => [(2, .pointer (some ⟨b2, 0, none⟩)), (5, .slice (some ⟨r, 0, none⟩) (dg m t) (dg m t)), (9, .slice (some ⟨ot, 0, none⟩) (prB m t) (prB m t)), (10, .int .i64 (i : Nat))]) (fun i => Sto w [blk ot 5 (rB (prB m t) (cf (pb (prB m t) (pl i (cf (encE (genL m (ldr m t).1) (dnP 0 (bl p)))))))), blk r 3 (rI (dg m t) (cf (encE (genL m (ldr m t).1) (dnP 0 (bl p))))), blk b2 27 (refC m t p.length g)]) (fun i => i ≤ dg m t) (fun i => dg m t - i) 0 ⟨rfl, rfl, rfl, rfl, trivial⟩ (fun _ hw => by rw [show pl 0 (cf (encE (genL m (ldr m t).1) (dnP 0 (bl p)))) = [] from rfl, ← rB_zero]; exact hw) (Nat.zero_le _) ?_
    intro i hi
    refine CW.seq ?_
    refine CW.seq ?_
    refine CW.reg [0, 1, 2, 3] rfl ?_   -- 13, code.go:49
    refine s_mv 64 rfl rfl ?_
    refine s_fa 65 rfl rfl ?_
    refine s_ldB 66 2 rfl rfl rfl rfl ?_
    refine s_lt 67 rfl rfl rfl rfl ?_
    refine SX.next ?_
    refine CW.test rfl (fun hc => ?_) (fun hc => ?_)
    · skip
      have hei := hE0 i
      have hpl8 := cf_lt8 (pb_lt (pl_b1' (hEB 0) i) (prB m t)) (i / 8)
      have hpw := pow8_lt' i
      have hmw : cf (encE (genL m (ldr m t).1) (dnP 0 (bl p))) i * 2 ^ (i % 8) < 256 := Nat.lt_of_le_of_lt (Nat.mul_le_mul_right _ (show cf (encE (genL m (ldr m t).1) (dnP 0 (bl p))) i ≤ 1 by omega)) (by omega)
      refine CW.skip ?_
      refine KN.code ?_
      refine CW.seq ?_
      refine CW.block ?_
      refine CW.regD (.st true 0 (.st true 1 (.st true 2 (.st true 3 (.st true 4 (.st true 5 (.st true 6 (.st true 8 (.st true 9 (.st true 10 (.st true 11 (.st true 12 (.st true 13 (.st true 14 (.st true 15 (.st true 16 (.st false 7 (.st true 17 (.st true 18 (.st false 19 .done)))))))))))))))))))) (fun w2 => w2.cell? ⟨r, i, none⟩ = some (.int .i64 (cf (encE (genL m (ldr m t).1) (dnP 0 (bl p))) i : Nat))) mixed (by kernel_rfl) (fun _ h => h.drew) (fun _ hw => hw.blkCell (i := 1) rfl (rI_at (by omega))) ?_
      refine s_mv 70 rfl rfl ?_
      refine s_mv 71 rfl rfl ?_
      refine s_quo 72 rfl rfl rfl (by omega) (quo8 i (by omega)) ?_
      refine s_mv 73 rfl rfl ?_
      refine s_mv 74 rfl rfl ?_
      refine s_quo 75 rfl rfl rfl (by omega) (quo8 i (by omega)) ?_
      refine s_ia0 76 (i / 8) rfl rfl rfl rfl (by omega) ?_
      refine s_mv 78 rfl rfl ?_
      refine s_mv 79 rfl rfl ?_
      refine s_ia0 80 i rfl rfl rfl rfl (by omega) ?_
      refine s_ldS 81 rfl rfl (fun _ hw => hw) ?_
      refine s_conv 82 rfl rfl (r := ((cf (encE (genL m (ldr m t).1) (dnP 0 (bl p))) i : Nat) : Int)) (w8 (by omega)) ?_
      refine s_mv 83 rfl rfl ?_
      refine s_rem 84 rfl rfl rfl (by omega) (tmod8 i) ?_
      refine s_conv 85 rfl rfl (r := ((i % 8 : Nat) : Int)) (wu64 (by omega)) ?_
      refine s_shl 86 rfl rfl rfl (by omega) (r := ((cf (encE (genL m (ldr m t).1) (dnP 0 (bl p))) i * 2 ^ (i % 8) : Nat) : Int)) (by rw [shl_u8 (by omega), Nat.mod_eq_of_lt hmw]) ?_
      refine s_ldB 77 0 rfl rfl rfl (v := .int .u8 (cf (pb (prB m t) (pl i (cf (encE (genL m (ldr m t).1) (dnP 0 (bl p)))))) (i / 8) : Nat)) (rB_at (by omega)) ?_
      refine s_bit 87 rfl rfl rfl rfl (ibit_or_u8 hpl8 hmw) ?_
      refine s_ia0 88 (i / 8) rfl rfl rfl rfl (by omega) ?_
      refine s_stB 0 rfl rfl rfl rfl rfl (by rw [rB_size]; omega) (fun _ hw => hw.blkCell (i := 1) rfl (rI_at (by omega))) ?_
      refine SX.end_ ?_
      refine KN.blk ?_
      refine KN.code ?_
      refine CW.reg [0, 1, 2] rfl ?_   -- 14, code.go:49
      refine s_mv 68 rfl rfl ?_
      refine s_add 69 rfl rfl rfl (r := ((i + 1 : Nat) : Int)) (w64 (by omega)) ?_
      refine s_as 10 rfl rfl ?_
      refine SX.end_ ?_
      exact KN.back (i + 1) ⟨rfl, rfl, rfl, rfl, trivial⟩ (fun _ hw => by rw [← pb_moreB (hEB 0), ← rB_set]; exact hw) (by omega) (by omega)
    · skip
      obtain rfl : i = dg m t := by omega
      refine CW.exit rfl ?_
      refine KN.code ?_
      refine CW.seq ?_
      refine CW.reg [0, 1] rfl ?_   -- 16, code.go:52
      refine s_mv 89 rfl rfl ?_
      refine s_as 4 rfl rfl ?_
      refine SX.next ?_
      refine CW.ret ?_
      exact KN.ret (rs := [.tmp 4]) Tryd.results50 rfl (fun w hw => ⟨(some ⟨ot, 0, none⟩, prB m t), by rw [encB_len]; rfl, by rw [encB_len]; exact Nat.le_refl _, by
  rw [pl_full (n := dg m t) (hEB 0) (encE_len hMT.gb hMT.g2 (dnP_b1 (bl_b1 p) 0)), dnP_zero (bl_b1 p), rB_pb] at hw
  rw [encB_len]
  exact (hw.pick [0] rfl).blkOwn (q := 0) (c := prB m t) (sz := 1) rfl (by simp [nats, pb_len]) (by unfold maxLen; omega)⟩)

theorem rFlip_spec (F : Nat → Prop) (w₀ w : World) (R : List Atom) (m t D : Nat) (g : Option Addr × Nat) (A : Option Addr) (c : Nat) (p : List Nat) (A2 : Option Addr) (c2 : Nat) (p2 : List Nat) (k : Nat) (hMT : MT m t) (hDm : D ≤ 2048) (hp : ∀ x ∈ p, x < 256) (hp2 : ∀ x ∈ p2, x < 256) (hpl : p.length = D) (hpl2 : p2.length = prB m t) (hk : k < 8 * D + dg m t) (hw : St F w₀ (own 5 1 A p.length c (nats .u8 p) :: own 5 1 A2 p2.length c2 (nats .u8 p2) :: R) w) : Calls Tryd.prog 52 ([.agg (refC m t D g), .slice A p.length c, .slice A2 p2.length c2, .int .i64 (k : Nat)] : List Value).toArray w (fun e w' => ∃ _ : Unit, e = .returned (oneOf []) ∧ True ∧ St F w₀ (own 5 1 A p.length c (nats .u8 (fpD m t k p)) :: own 5 1 A2 p2.length c2 (nats .u8 (fpP m t k p2)) :: R) w') := by
  have hd5 := hMT.d560
  have hpd := prB_dg m t
  refine spec_ofC Tryd.func52 rfl Tryd.ntmps52 rfl hw ?_
  refine CW.seq ?_
  refine CW.reg [0] rfl ?_   -- 0, code.go:56
  refine s_box 4 rfl rfl (fun _ _ => trivial) (fun b => ?_)
  refine SX.next ?_
  refine CW.seq ?_
  refine CW.seq ?_
  refine CW.reg [0, 1, 2, 3] rfl ?_   -- 1, code.go:57
  refine s_mv 8 rfl rfl ?_
  refine s_fa 9 rfl rfl ?_
  refine s_ldB 10 0 rfl rfl rfl rfl ?_
  refine s_lt 11 rfl rfl rfl rfl ?_
  refine SX.next ?_
  refine CW.test rfl (fun hc => ?_) (fun hc => ?_)
  · skip
    have hkd : k < dg m t := by omega
    have hfD : fpD m t k p = p := if_pos hkd
    have hfP : fpP m t k p2 = flB p2 k := if_pos hkd
    refine CW.seq ?_
    refine CW.reg [0, 1, 2, 3, 4, 5, 6, 7, 8, 9, 10, 11, 12, 13, 14] rfl ?_   -- 2, code.go:58
    refine s_mv 12 rfl rfl ?_
    refine s_mv 13 rfl rfl ?_
    refine s_quo 14 rfl rfl rfl (by omega) (quo8 k (by omega)) ?_
    refine s_mv 15 rfl rfl ?_
    refine s_mv 16 rfl rfl ?_
    refine s_quo 17 rfl rfl rfl (by omega) (quo8 k (by omega)) ?_
    refine s_iaO 18 2 (k / 8) rfl rfl rfl rfl rfl (by omega) ?_
    refine s_ldO 19 2 rfl rfl rfl (natsAt8 (by omega)) ?_
    refine s_mv 20 rfl rfl ?_
    refine s_rem 21 rfl rfl rfl (by omega) (tmod8 k) ?_
    refine s_conv 22 rfl rfl (r := ((k % 8 : Nat) : Int)) (wu64 (by omega)) ?_
    refine s_shl 23 rfl rfl rfl (by omega) (r := ((2 ^ (k % 8) : Nat) : Int)) (by rw [show (1 : Int) = ((1 : Nat) : Int) from rfl, shl_u8 (by omega), Nat.one_mul, Nat.mod_eq_of_lt (pow8_lt _)]) ?_
    refine s_bit 24 rfl rfl rfl rfl (ibit_xor_u8 (cf_lt8 hp2 _) (pow8_lt _)) ?_
    refine s_iaO 25 2 (k / 8) rfl rfl rfl rfl rfl (by omega) ?_
    refine s_stO 2 rfl rfl rfl rfl rfl (by omega) (fun _ _ => trivial) ?_
    refine SX.next ?_
    refine CW.ret ?_
    exact KN.ret (rs := []) Tryd.results52 rfl (fun w hw => ⟨(), rfl, trivial, by
  rw [hfD, hfP]
  simp only [List.set_cons_zero, List.set_cons_succ, nats_set] at hw
  exact hw.tail⟩)
  · skip
    have hkd : ¬ k < dg m t := by omega
    have hfD : fpD m t k p = flB p (k - dg m t) := if_neg hkd
    have hfP : fpP m t k p2 = p2 := if_neg hkd
    refine CW.skip ?_
    refine KN.code ?_
    refine CW.seq ?_
    refine CW.reg [0, 1, 2, 3, 4] rfl ?_   -- 3, code.go:61
    refine s_mv 26 rfl rfl ?_
    refine s_fa 27 rfl rfl ?_
    refine s_ldB 28 0 rfl rfl rfl rfl ?_
    refine s_sub 29 rfl rfl rfl (r := ((k - dg m t : Nat) : Int)) (by rw [show ((k : Nat) : Int) - ((dg m t : Nat) : Int) = ((k - dg m t : Nat) : Int) by omega]; exact w64 (by omega)) ?_
    refine s_as 3 rfl rfl ?_
    refine SX.next ?_
    refine CW.reg [0, 1, 2, 3, 4, 5, 6, 7, 8, 9, 10, 11, 12, 13, 14] rfl ?_   -- 4, code.go:62
    refine s_mv 30 rfl rfl ?_
    refine s_mv 31 rfl rfl ?_
    refine s_quo 32 rfl rfl rfl (by omega) (quo8 (k - dg m t) (by omega)) ?_
    refine s_mv 33 rfl rfl ?_
    refine s_mv 34 rfl rfl ?_
    refine s_quo 35 rfl rfl rfl (by omega) (quo8 (k - dg m t) (by omega)) ?_
    refine s_iaO 36 1 ((k - dg m t) / 8) rfl rfl rfl rfl rfl (by omega) ?_
    refine s_ldO 37 1 rfl rfl rfl (natsAt8 (by omega)) ?_
    refine s_mv 38 rfl rfl ?_
    refine s_rem 39 rfl rfl rfl (by omega) (tmod8 (k - dg m t)) ?_
    refine s_conv 40 rfl rfl (r := (((k - dg m t) % 8 : Nat) : Int)) (wu64 (by omega)) ?_
    refine s_shl 41 rfl rfl rfl (by omega) (r := ((2 ^ ((k - dg m t) % 8) : Nat) : Int)) (by rw [show (1 : Int) = ((1 : Nat) : Int) from rfl, shl_u8 (by omega), Nat.one_mul, Nat.mod_eq_of_lt (pow8_lt _)]) ?_
    refine s_bit 42 rfl rfl rfl rfl (ibit_xor_u8 (cf_lt8 hp _) (pow8_lt _)) ?_
    refine s_iaO 43 1 ((k - dg m t) / 8) rfl rfl rfl rfl rfl (by omega) ?_
    refine s_stO 1 rfl rfl rfl rfl rfl (by omega) (fun _ _ => trivial) ?_
    refine SX.end_ ?_
    exact KN.ret (rs := []) Tryd.results52 rfl (fun w hw => ⟨(), rfl, trivial, by
  rw [hfD, hfP]
  simp only [List.set_cons_zero, List.set_cons_succ, nats_set] at hw
  exact hw.tail⟩)
end Go.Proofs.YtompcfingkoldaaDoor
end
section
/- The statement EncodeSays, walked. Conditions: the errors' variables. -/
namespace Go.Proofs.YtompcfingkoldaaDoor
open Go Go.Sx Go.Fm Nb
set_option maxRecDepth 100000

/-- The parity of data of any length, or the error. -/
noncomputable def encV (m t D : Nat) (p : List Nat) : List Nat := if p.length = D then encB m t p else []
noncomputable def encE_ (e : Nat → Addr) (D : Nat) (p : List Nat) : Value := if p.length = D then .nilIface else errV e 0

theorem cSerial_any (cc m t D : Nat) (q : CodeG) (A : Option Addr) (n c : Nat) (p : List Nat) (e : Nat → Addr) (w : World) (hMT : MT m t) (hq : q.Fine m t) (hcd : Has (codeA cc m t D q) w) (ha : Has (sl 1 A n (nats .u8 p)) w) (hp : ∀ x ∈ p, x < 256) (hn : n ≤ 1073741824) (hcp : n ≤ c) (heL : Er e w 0) : SpecX Tryd.prog 41 [.pointer (some ⟨cc, 0, none⟩), .slice A n c] w (X := Option Addr × Nat) (fun z => two (.slice z.1 (encV m t D p).length z.2) (encE_ e D p)) (fun z => (encV m t D p).length ≤ z.2) (fun z => [own 5 1 z.1 (encV m t D p).length z.2 (nats .u8 (encV m t D p))]) := by
  have hl := nats_len ha
  subst hl
  unfold encV encE_
  by_cases h : p.length = D
  · rw [if_pos h, if_pos h]; exact cSerial_ok cc m t D q A p.length c p w hMT hq hcd ha hp hn hcp h
  · rw [if_neg h, if_neg h]; exact spec_nil 5 .u8 (cSerial_long cc m t D q A p.length c p e w hcd heL h) rfl
theorem cFast_any (cc m t D : Nat) (q : CodeG) (A : Option Addr) (n c : Nat) (p : List Nat) (e : Nat → Addr) (w : World) (hMT : MT m t) (hq : q.Fine m t) (hcd : Has (codeA cc m t D q) w) (ha : Has (sl 1 A n (nats .u8 p)) w) (hp : ∀ x ∈ p, x < 256) (hn : n ≤ 1073741824) (hcp : n ≤ c) (heL : Er e w 0) : SpecX Tryd.prog 25 [.pointer (some ⟨cc, 0, none⟩), .slice A n c] w (X := Option Addr × Nat) (fun z => two (.slice z.1 (encV m t D p).length z.2) (encE_ e D p)) (fun z => (encV m t D p).length ≤ z.2) (fun z => [own 5 1 z.1 (encV m t D p).length z.2 (nats .u8 (encV m t D p))]) := by
  have hl := nats_len ha
  subst hl
  unfold encV encE_
  by_cases h : p.length = D
  · rw [if_pos h, if_pos h]; exact cFast_ok cc m t D q A p.length c p w hMT hq hcd ha hp hn hcp h
  · rw [if_neg h, if_neg h]; exact spec_nil 5 .u8 (cFast_long cc m t D q A p.length c p e w hcd heL h) rfl

def okAt (m t D : Nat) (a : Int) : Prop := 0 ≤ a ∧ a < ((8 * D + dg m t : Nat) : Int)
instance (m t D : Nat) (a : Int) : Decidable (okAt m t D a) := by unfold okAt; infer_instance
/-- A place turned, where it may be. -/
def faD (m t D : Nat) (a : Int) (d : List Nat) : List Nat := if okAt m t D a then fpD m t a.toNat d else []
def faP (m t D : Nat) (a : Int) (p : List Nat) : List Nat := if okAt m t D a then fpP m t a.toNat p else []
def faE (e : Nat → Addr) (m t D : Nat) (a : Int) : Value := if okAt m t D a then .nilIface else errV e 1
theorem cFlip_any (cc m t D : Nat) (q : CodeG) (A : Option Addr) (n c : Nat) (p : List Nat) (A2 : Option Addr) (n2 c2 : Nat) (p2 : List Nat) (a : Int) (e : Nat → Addr) (w : World) (hMT : MT m t) (hDm : D ≤ 2048) (hcd : Has (codeA cc m t D q) w) (ha : Has (sl 1 A n (nats .u8 p)) w) (hp : ∀ x ∈ p, x < 256) (hn : n ≤ 1073741824) (hcp : n ≤ c) (ha2 : Has (sl 1 A2 n2 (nats .u8 p2)) w) (hp2 : ∀ x ∈ p2, x < 256) (hn2 : n2 ≤ 1073741824) (hcp2 : n2 ≤ c2) (hnD : n = D) (hn2D : n2 = prB m t) (heN : Er e w 1) :
    SpecX Tryd.prog 51 [.pointer (some ⟨cc, 0, none⟩), .slice A n c, .slice A2 n2 c2, .int .i64 a] w (X := (Option Addr × Nat) × (Option Addr × Nat)) (fun z => tri (.slice z.1.1 (faD m t D a p).length z.1.2) (.slice z.2.1 (faP m t D a p2).length z.2.2) (faE e m t D a)) (fun z => (faD m t D a p).length ≤ z.1.2 ∧ (faP m t D a p2).length ≤ z.2.2) (fun z => [own 5 1 z.1.1 (faD m t D a p).length z.1.2 (nats .u8 (faD m t D a p)), own 5 1 z.2.1 (faP m t D a p2).length z.2.2 (nats .u8 (faP m t D a p2))]) := by
  unfold faD faP faE
  by_cases h : okAt m t D a
  · rw [if_pos h, if_pos h, if_pos h]
    obtain ⟨h1, h2⟩ := h
    obtain ⟨k, rfl⟩ : ∃ k : Nat, a = (k : Nat) := ⟨a.toNat, by omega⟩
    exact cFlip_ok cc m t D q A n c p A2 n2 c2 p2 k w hMT hDm hcd ha hp hn hcp ha2 hp2 hn2 hcp2 hnD hn2D (by omega)
  · rw [if_neg h, if_neg h, if_neg h]
    have hb : a < 0 ∨ ((8 * D + dg m t : Nat) : Int) ≤ a := by unfold okAt at h; omega
    exact Calls.mono (cFlip_num cc m t D q A n c p A2 n2 c2 p2 a e w hMT hDm hcd heN hnD hn2D hb) (fun _ _ ⟨h1, h2⟩ => ⟨((none, 0), (none, 0)), h1, ⟨Nat.le_refl _, Nat.le_refl _⟩, (h2.begin_ 5 1).begin_ 5 1⟩)

set_option maxHeartbeats 3200000 in

theorem walk_EncodeSays (a0 a1 a2 : Int) (A3 : Option Addr) (n3 c3 : Nat) (p3 : List Nat) (A4 : Option Addr) (n4 c4 : Nat) (p4 : List Nat) (a5 : Int) (e : Nat → Addr) (w : World) (ha3 : Has (sl 1 A3 n3 (nats .u8 p3)) w) (hp3 : ∀ x ∈ p3, x < 256) (hn3 : n3 ≤ 9223372036854775807) (hcp3 : n3 ≤ c3) (ha4 : Has (sl 1 A4 n4 (nats .u8 p4)) w) (hp4 : ∀ x ∈ p4, x < 256) (hn4 : n4 ≤ 9223372036854775807) (hcp4 : n4 ≤ c4) (he : Er e w 2) (heL : Er e w 0) (heN : Er e w 1) : Spec1 Tryd.prog 7 [.int .i64 a0, .int .i64 a1, .int .i64 a2, .slice A3 n3 c3, .slice A4 n4 c4, .int .i64 a5] w (.bool true) := by
  have hla3 := nats_len ha3
  subst hla3
  have hla4 := nats_len ha4
  subst hla4
  refine spec_of Tryd.func7 rfl Tryd.ntmps7 rfl ?_
  refine CW.seq ?_
  refine CW.reg [0] rfl ?_   -- 0, law.go:67
  refine s_as 12 rfl rfl ?_
  refine SX.next ?_
  refine CW.seq ?_
  refine CW.reg [0, 1] rfl ?_   -- 1, law.go:68
  refine s_call1 37 rfl rfl rfl rfl (fun w hw => first6_spec e w (hw.er he)) (fun _ _ => trivial) ?_
  refine s_as 13 rfl rfl ?_
  refine SX.next ?_
  refine CW.seq ?_
  refine CW.reg [0, 1, 2, 3, 4, 5, 6, 7, 8, 9, 10, 11] rfl ?_   -- 2, law.go:69
  refine s_mv 39 rfl rfl ?_
  refine s_mv 40 rfl rfl ?_
  refine s_mv 41 rfl rfl ?_
  refine s_call 42 rfl rfl rfl rfl (fun w hw => shalelaw6_made a0 a1 a2 w) (fun _ _ => trivial) (fun z hz => ?_)
  obtain ⟨c, q, m, t, D, g⟩ := z
  obtain ⟨hC, hq, hg, hmM, htT, hdB, hm6⟩ := hz
  simp only at hC hq hg hmM htT hdB hm6
  obtain ⟨hMT, h1D, hDm, hfit⟩ := hC
  have hm := hMT.ok
  have hd1 := hMT.d1
  have hd5 := hMT.d560
  have hp1 := hMT.p1
  have hp7 := hMT.p70
  refine SX.pre (C' := Sto w [codeA c m t D q, genOf m t g]) (fun _ hw => hw) ?_
  refine s_mv 38 rfl rfl ?_
  refine s_ext 43 rfl rfl rfl ?_
  refine s_ext 44 rfl rfl rfl ?_
  refine s_ext 45 rfl rfl rfl ?_
  refine s_alloc 15 rfl (fun _ _ => trivial) (fun b15 => ?_)
  refine s_as 14 rfl rfl ?_
  refine s_stAll 0 rfl rfl (by kernel_rfl) rfl rfl rfl rfl (fun _ _ => trivial) ?_
  refine s_as 16 rfl rfl ?_
  refine SX.next ?_
  refine CW.seq ?_
  refine CW.seq ?_
  refine CW.reg [0, 1, 2, 3, 4, 5, 6, 7, 8, 9, 10, 11, 12, 13, 14, 15] rfl ?_   -- 3, law.go:70
  refine s_mv 46 rfl rfl ?_
  refine s_not 47 rfl rfl ?_
  refine s_mv 48 rfl rfl ?_
  refine s_mv 49 rfl rfl ?_
  refine s_len 50 rfl rfl ?_
  refine s_gt 51 rfl rfl rfl rfl ?_
  refine s_pickF 52 rfl rfl rfl ?_
  refine s_mv 53 rfl rfl ?_
  refine SX.bool 53 rfl (fun hb => ?_) (fun hb => ?_)
  · skip
    skip
    refine SX.skip rfl ?_
    refine SX.skip rfl ?_
    refine SX.skip rfl ?_
    refine s_pickT 57 rfl rfl rfl ?_
    refine s_mv 58 rfl rfl ?_
    refine SX.skip rfl ?_
    refine SX.skip rfl ?_
    refine s_pickT 61 rfl rfl rfl ?_
    refine SX.next ?_
    refine CW.condT rfl ?_
    refine CW.seq ?_
    refine CW.reg [0, 1, 2, 3, 4] rfl ?_   -- 4, law.go:71
    refine s_mv 62 rfl rfl ?_
    refine s_mv 63 rfl rfl ?_
    refine s_mv 64 rfl rfl ?_
    refine s_pickT 65 rfl rfl rfl ?_
    refine s_as 12 rfl rfl ?_
    refine SX.next ?_
    refine CW.ret ?_
    exact KN.ret (rs := [.tmp 12]) Tryd.results7 rfl (fun w hw => ⟨rfl, hw.nothing⟩)
  · skip
    have h100 := of_decide_eq_false hb
    refine s_mv 54 rfl rfl ?_
    refine s_len 55 rfl rfl ?_
    refine s_gt 56 rfl rfl rfl rfl ?_
    refine s_pickF 57 rfl rfl rfl ?_
    refine s_mv 58 rfl rfl ?_
    refine SX.bool 58 rfl (fun hb => ?_) (fun hb => ?_)
    · skip
      skip
      refine SX.skip rfl ?_
      refine SX.skip rfl ?_
      refine s_pickT 61 rfl rfl rfl ?_
      refine SX.next ?_
      refine CW.condT rfl ?_
      refine CW.seq ?_
      refine CW.reg [0, 1, 2, 3, 4] rfl ?_   -- 4, law.go:71
      refine s_mv 62 rfl rfl ?_
      refine s_mv 63 rfl rfl ?_
      refine s_mv 64 rfl rfl ?_
      refine s_pickT 65 rfl rfl rfl ?_
      refine s_as 12 rfl rfl ?_
      refine SX.next ?_
      refine CW.ret ?_
      exact KN.ret (rs := [.tmp 12]) Tryd.results7 rfl (fun w hw => ⟨rfl, hw.nothing⟩)
    · skip
      have h100b := of_decide_eq_false hb
      refine s_mv 59 rfl rfl ?_
      refine s_not 60 rfl rfl ?_
      refine s_pickF 61 rfl rfl rfl ?_
      refine SX.next ?_
      refine CW.condF rfl ?_
      refine CW.skip ?_
      refine KN.code ?_
      refine CW.seq ?_
      refine CW.reg [0, 1, 2, 3, 4, 5, 6, 7] rfl ?_   -- 5, law.go:73
      refine s_mv 67 rfl rfl ?_
      refine s_mv 68 rfl rfl ?_
      refine s_call 69 rfl rfl rfl rfl (fun w hw => cSerial_any c m t D q A3 p3.length c3 p3 e w hMT hq (hw.has (i := 1) rfl) (hw.old ha3) hp3 (by omega) hcp3 (hw.er heL)) (fun _ _ => trivial) (fun q69 hq69 => ?_)
      refine s_mv 66 rfl rfl ?_
      refine s_ext 70 rfl rfl rfl ?_
      refine s_ext 71 rfl rfl rfl ?_
      refine s_as 17 rfl rfl ?_
      refine s_as 18 rfl rfl ?_
      refine SX.next ?_
      refine CW.seq ?_
      refine CW.reg [0, 1, 2, 3, 4, 5, 6, 7] rfl ?_   -- 6, law.go:74
      refine s_mv 73 rfl rfl ?_
      refine s_mv 74 rfl rfl ?_
      refine s_call 75 rfl rfl rfl rfl (fun w hw => cFast_any c m t D q A3 p3.length c3 p3 e w hMT hq (hw.has (i := 2) rfl) (hw.old ha3) hp3 (by omega) hcp3 (hw.er heL)) (fun _ _ => trivial) (fun q75 hq75 => ?_)
      refine s_mv 72 rfl rfl ?_
      refine s_ext 76 rfl rfl rfl ?_
      refine s_ext 77 rfl rfl rfl ?_
      refine s_as 19 rfl rfl ?_
      refine s_as 20 rfl rfl ?_
      refine SX.next ?_
      refine CW.cut (G := Unit) (fun _ => [(3, .slice A3 p3.length c3), (4, .slice A4 p4.length c4), (5, .int .i64 a5), (14, .pointer (some ⟨c, 0, none⟩)), (15, .pointer (some ⟨b15, 0, none⟩))]) (fun _ => Sto w [blk b15 27 (refC m t D g), codeA c m t D q, genOf m t g]) (fun _ => True) ?_ ?_
      · skip
        refine CW.seq ?_
        refine CW.reg [0, 1, 2, 3, 4, 5, 6, 7, 8, 9, 10, 11, 12, 13, 14, 15, 16, 17, 18, 19, 20] rfl ?_   -- 7, law.go:75
        refine s_mv 78 rfl rfl ?_
        refine s_len 79 rfl rfl ?_
        refine s_fa 80 rfl rfl ?_
        refine s_ldB 81 2 rfl rfl rfl (v := .int .i64 (D : Nat)) rfl ?_
        refine s_ne 82 rfl rfl rfl rfl ?_
        refine s_mv 83 rfl rfl ?_
        refine SX.bool 83 rfl (fun hb => ?_) (fun hb => ?_)
        · skip
          replace hb := of_decide_eq_true hb
          have hne : p3.length ≠ D := by omega
          have hEE : encE_ e D p3 = errV e 0 := if_neg hne
          rw [hEE]
          refine s_mv 84 rfl rfl ?_
          refine s_ld 85 rfl rfl (fun _ h => h.cell heL) ?_
          refine s_neE 86 rfl rfl rfl ?_
          refine s_mv 87 rfl rfl ?_
          refine s_mv 88 rfl rfl ?_
          refine s_ld 89 rfl rfl (fun _ h => h.cell heL) ?_
          refine s_neE 90 rfl rfl rfl ?_
          refine s_pickF 91 rfl rfl rfl ?_
          refine s_mv 92 rfl rfl ?_
          refine s_mv 93 rfl rfl ?_
          refine s_mv 94 rfl rfl ?_
          refine s_mv 95 rfl rfl ?_
          refine s_call1 96 rfl rfl rfl rfl (fun w hw => cRight_long c m t D q A3 p3.length c3 p3 A4 p4.length c4 p4 e w (hw.has (i := 3) rfl) (hw.er heL) hne) (fun _ _ => trivial) ?_
          refine s_pickF 97 rfl rfl rfl ?_
          refine s_pickT 98 rfl rfl rfl ?_
          refine SX.next ?_
          refine CW.condF rfl ?_
          refine CW.skip ?_
          exact KN.join () ⟨rfl, rfl, rfl, rfl, rfl, trivial⟩ (fun _ hw => hw.pick [2, 2, 2] rfl) trivial
        · skip
          skip
          refine SX.skip rfl ?_
          refine SX.skip rfl ?_
          refine SX.skip rfl ?_
          refine SX.skip rfl ?_
          refine SX.skipU rfl ?_
          refine SX.skipU rfl ?_
          refine SX.skipU rfl ?_
          refine SX.skip rfl ?_
          refine SX.skip rfl ?_
          refine SX.skipU rfl ?_
          refine SX.skipU rfl ?_
          refine SX.skipU rfl ?_
          refine SX.skipU rfl ?_
          refine SX.skip rfl ?_
          refine s_pickF 98 rfl rfl rfl ?_
          refine SX.next ?_
          refine CW.condF rfl ?_
          refine CW.skip ?_
          exact KN.join () ⟨rfl, rfl, rfl, rfl, rfl, trivial⟩ (fun _ hw => hw.pick [2, 2, 2] rfl) trivial
      · skip
        intro _ _
        refine CW.seq ?_
        refine CW.reg [0, 1, 2, 3, 4] rfl ?_   -- 9, law.go:78
        refine s_mv 99 rfl rfl ?_
        refine s_fa 100 rfl rfl ?_
        refine s_ldB 101 0 rfl rfl rfl (v := .int .i64 (D : Nat)) rfl ?_
        refine s_call 102 rfl rfl rfl rfl (fun w hw => shalelaw6_fit A3 p3.length c3 p3 D w (hw.old ha3) hp3 (by omega) hcp3 (by omega)) (fun _ _ => trivial) (fun q102 hq102 => ?_)
        refine s_as 21 rfl rfl ?_
        refine SX.next ?_
        refine CW.seq ?_
        refine CW.reg [0, 1, 2, 3] rfl ?_   -- 10, law.go:79
        have hfl := fitL_len p3 D
        have hflt := fitL_lt hp3 D
        have hpl := encB_len m t (fitL p3 D)
        have hplt := enc_lt hMT (fitL p3 D)
        have hrl := fitL_len p4 (prB m t)
        have hrlt := fitL_lt hp4 (prB m t)
        refine s_ldW 103 1 rfl rfl rfl ?_
        refine s_mv 104 rfl rfl ?_
        refine s_call 105 rfl rfl rfl rfl (fun w hw => by have := rSerial_spec m t D g q102.1 (fitL p3 D).length q102.2 (fitL p3 D) w hMT hDm hg (hw.has (i := 3) rfl).of_own ((hw.has (i := 0) rfl).of_own) hflt (by omega) hq102 hfl; exact this) (fun _ _ => trivial) (fun q105 hq105 => ?_)
        refine s_as 22 rfl rfl ?_
        refine SX.next ?_
        refine CW.seq ?_
        refine CW.reg [0, 1, 2, 3, 4, 5, 6, 7] rfl ?_   -- 11, law.go:80
        refine s_mv 107 rfl rfl ?_
        refine s_mv 108 rfl rfl ?_
        refine s_call 109 rfl rfl rfl rfl (fun w hw => cSerial_ok c m t D q q102.1 (fitL p3 D).length q102.2 (fitL p3 D) w hMT hq (hw.has (i := 3) rfl) ((hw.has (i := 1) rfl).of_own) (fitL_lt hp3 D) (by have := (fitL_len p3 D); omega) hq102 (fitL_len p3 D)) (fun _ _ => trivial) (fun q109 hq109 => ?_)
        refine s_mv 106 rfl rfl ?_
        refine s_ext 110 rfl rfl rfl ?_
        refine s_ext 111 rfl rfl rfl ?_
        refine s_as 23 rfl rfl ?_
        refine s_as 24 rfl rfl ?_
        refine SX.next ?_
        refine CW.seq ?_
        refine CW.reg [0, 1, 2, 3, 4, 5, 6, 7] rfl ?_   -- 12, law.go:81
        refine s_mv 113 rfl rfl ?_
        refine s_mv 114 rfl rfl ?_
        refine s_call 115 rfl rfl rfl rfl (fun w hw => cFast_ok c m t D q q102.1 (fitL p3 D).length q102.2 (fitL p3 D) w hMT hq (hw.has (i := 4) rfl) ((hw.has (i := 2) rfl).of_own) (fitL_lt hp3 D) (by have := (fitL_len p3 D); omega) hq102 (fitL_len p3 D)) (fun _ _ => trivial) (fun q115 hq115 => ?_)
        refine s_mv 112 rfl rfl ?_
        refine s_ext 116 rfl rfl rfl ?_
        refine s_ext 117 rfl rfl rfl ?_
        refine s_as 25 rfl rfl ?_
        refine s_as 26 rfl rfl ?_
        refine SX.next ?_
        refine CW.seq ?_
        refine CW.reg [0, 1, 2, 3, 4] rfl ?_   -- 13, law.go:82
        refine s_mv 118 rfl rfl ?_
        refine s_ldW 119 4 rfl rfl rfl ?_
        refine s_call1 120 rfl rfl rfl rfl (fun w hw => rPar_spec m t D g w hMT) (fun _ _ => trivial) ?_
        refine s_call 121 rfl rfl rfl rfl (fun w hw => shalelaw6_fit A4 p4.length c4 p4 (prB m t) w (hw.old ha4) hp4 (by omega) hcp4 (by omega)) (fun _ _ => trivial) (fun q121 hq121 => ?_)
        refine s_as 27 rfl rfl ?_
        refine SX.next ?_
        refine CW.seq ?_
        refine CW.reg [0, 1, 2, 3] rfl ?_   -- 14, law.go:83
        refine s_mv 122 rfl rfl ?_
        refine s_mv 123 rfl rfl ?_
        refine s_call1 124 rfl rfl rfl rfl (v := .bool (decide ((fitL p4 (prB m t)) = (encB m t (fitL p3 D))))) (fun w hw => by have := sameBytes_spec q121.1 (fitL p4 (prB m t)).length q121.2 (fitL p4 (prB m t)) q105.1 (encB m t (fitL p3 D)).length q105.2 (encB m t (fitL p3 D)) w ((hw.has (i := 0) rfl).of_own) (fitL_lt hp4 (prB m t)) ((hw.has (i := 3) rfl).of_own) hplt; exact this) (fun _ _ => trivial) ?_
        refine s_as 28 rfl rfl ?_
        refine SX.next ?_
        refine CW.seq ?_
        refine CW.seq ?_
        refine CW.reg [0, 1, 2, 3, 4, 5, 6, 7, 8, 9, 10, 11, 12, 13, 14, 15, 16, 17, 18, 19, 20, 21, 22, 23, 24, 25, 26, 27, 28, 29, 30, 31, 32] rfl ?_   -- 15, law.go:84
        refine s_mv 125 rfl rfl ?_
        refine s_neNN 126 rfl rfl ?_
        refine s_mv 127 rfl rfl ?_
        refine s_mv 128 rfl rfl ?_
        refine s_neNN 129 rfl rfl ?_
        refine s_pickF 130 rfl rfl rfl ?_
        refine s_mv 131 rfl rfl ?_
        refine s_mv 132 rfl rfl ?_
        refine s_mv 133 rfl rfl ?_
        refine s_call1 134 rfl rfl rfl rfl (v := .bool true) (fun w hw => by have := sameBytes_spec q109.1 (encB m t (fitL p3 D)).length q109.2 (encB m t (fitL p3 D)) q105.1 (encB m t (fitL p3 D)).length q105.2 (encB m t (fitL p3 D)) w ((hw.has (i := 2) rfl).of_own) (enc_lt hMT (fitL p3 D)) ((hw.has (i := 3) rfl).of_own) hplt; rw [decide_eq_true rfl] at this; exact this) (fun _ _ => trivial) ?_
        refine s_not 135 rfl rfl ?_
        refine s_pickF 136 rfl rfl rfl ?_
        refine s_mv 137 rfl rfl ?_
        refine s_mv 138 rfl rfl ?_
        refine s_mv 139 rfl rfl ?_
        refine s_call1 140 rfl rfl rfl rfl (v := .bool true) (fun w hw => by have := sameBytes_spec q115.1 (encB m t (fitL p3 D)).length q115.2 (encB m t (fitL p3 D)) q105.1 (encB m t (fitL p3 D)).length q105.2 (encB m t (fitL p3 D)) w ((hw.has (i := 1) rfl).of_own) (enc_lt hMT (fitL p3 D)) ((hw.has (i := 3) rfl).of_own) hplt; rw [decide_eq_true rfl] at this; exact this) (fun _ _ => trivial) ?_
        refine s_not 141 rfl rfl ?_
        refine s_pickF 142 rfl rfl rfl ?_
        refine s_mv 143 rfl rfl ?_
        refine s_mv 144 rfl rfl ?_
        refine s_mv 145 rfl rfl ?_
        refine s_mv 146 rfl rfl ?_
        refine s_call1 147 rfl rfl rfl rfl (v := .bool true) (fun w hw => by have := cRight_ok c m t D q q102.1 (fitL p3 D).length q102.2 (fitL p3 D) q105.1 (encB m t (fitL p3 D)).length q105.2 (encB m t (fitL p3 D)) w hMT hq (hw.has (i := 6) rfl) ((hw.has (i := 4) rfl).of_own) (fitL_lt hp3 D) (by have := (fitL_len p3 D); omega) hq102 (fitL_len p3 D) ((hw.has (i := 3) rfl).of_own) hplt; rw [decide_eq_true rfl] at this; exact this) (fun _ _ => trivial) ?_
        refine s_not 148 rfl rfl ?_
        refine s_pickF 149 rfl rfl rfl ?_
        refine s_mv 150 rfl rfl ?_
        refine s_mv 151 rfl rfl ?_
        refine s_mv 152 rfl rfl ?_
        refine s_mv 153 rfl rfl ?_
        refine s_call1 154 rfl rfl rfl rfl (v := .bool (decide ((encB m t (fitL p3 D)) = (fitL p4 (prB m t))))) (fun w hw => by have := cRight_ok c m t D q q102.1 (fitL p3 D).length q102.2 (fitL p3 D) q121.1 (fitL p4 (prB m t)).length q121.2 (fitL p4 (prB m t)) w hMT hq (hw.has (i := 6) rfl) ((hw.has (i := 4) rfl).of_own) (fitL_lt hp3 D) (by have := (fitL_len p3 D); omega) hq102 (fitL_len p3 D) ((hw.has (i := 0) rfl).of_own) (fitL_lt hp4 (prB m t)); exact this) (fun _ _ => trivial) ?_
        refine s_mv 155 rfl rfl ?_
        refine s_neB 156 rfl rfl rfl (r := false) (by have e1 : decide ((encB m t (fitL p3 D)) = (fitL p4 (prB m t))) = decide ((fitL p4 (prB m t)) = (encB m t (fitL p3 D))) := decide_eq_decide.2 ⟨Eq.symm, Eq.symm⟩; rw [e1]; cases decide ((fitL p4 (prB m t)) = (encB m t (fitL p3 D))) <;> rfl) ?_
        refine s_pickF 157 rfl rfl rfl ?_
        refine SX.next ?_
        refine CW.condF rfl ?_
        refine CW.skip ?_
        refine KN.code ?_
        refine CW.seq ?_
        refine CW.reg [0, 1, 2, 3, 4, 5, 6, 7, 8, 9, 10, 11] rfl ?_   -- 17, law.go:87
        refine s_mv 159 rfl rfl ?_
        refine s_mv 160 rfl rfl ?_
        refine s_mv 161 rfl rfl ?_
        refine s_mv 162 rfl rfl ?_
        refine s_call 163 rfl rfl rfl rfl (fun w hw => cFlip_any c m t D q q102.1 (fitL p3 D).length q102.2 (fitL p3 D) q121.1 (fitL p4 (prB m t)).length q121.2 (fitL p4 (prB m t)) a5 e w hMT hDm (hw.has (i := 6) rfl) ((hw.has (i := 4) rfl).of_own) (fitL_lt hp3 D) (by omega) hq102 ((hw.has (i := 0) rfl).of_own) (fitL_lt hp4 (prB m t)) (by omega) hq121 hfl hrl (hw.er heN)) (fun _ _ => trivial) (fun q163 hq163 => ?_)
        refine s_mv 158 rfl rfl ?_
        refine s_ext 164 rfl rfl rfl ?_
        refine s_ext 165 rfl rfl rfl ?_
        refine s_ext 166 rfl rfl rfl ?_
        refine s_as 29 rfl rfl ?_
        refine s_as 30 rfl rfl ?_
        refine s_as 31 rfl rfl ?_
        refine SX.next ?_
        refine CW.seq ?_
        refine CW.seq ?_
        refine CW.reg [0, 1, 2, 3, 4, 5, 6, 7] rfl ?_   -- 18, law.go:88
        refine s_mv 167 rfl rfl ?_
        refine s_lt 168 rfl rfl rfl rfl ?_
        refine s_mv 169 rfl rfl ?_
        refine SX.bool 169 rfl (fun hb => ?_) (fun hb => ?_)
        · skip
          replace hb := of_decide_eq_true hb
          have hbad : ¬ okAt m t D a5 := fun h => by unfold okAt at h; omega
          have hfaD : (faD m t D a5 (fitL p3 D)) = [] := if_neg hbad
          have hfaP : (faP m t D a5 (fitL p4 (prB m t))) = [] := if_neg hbad
          have hfaE : faE e m t D a5 = errV e 1 := if_neg hbad
          rw [hfaD, hfaP, hfaE]
          refine SX.skip rfl ?_
          refine SX.skip rfl ?_
          refine SX.skip rfl ?_
          refine SX.skip rfl ?_
          refine s_pickT 174 rfl rfl rfl ?_
          refine SX.next ?_
          refine CW.condT rfl ?_
          refine CW.seq ?_
          refine CW.reg [0, 1, 2, 3, 4, 5, 6, 7, 8, 9, 10, 11] rfl ?_   -- 19, law.go:89
          refine s_mv 175 rfl rfl ?_
          refine s_ld 176 rfl rfl (fun _ h => h.cell heN) ?_
          refine s_eqE 177 rfl rfl rfl ?_
          refine s_mv 178 rfl rfl ?_
          refine s_mv 179 rfl rfl ?_
          refine s_len 180 rfl rfl ?_
          refine s_mv 181 rfl rfl ?_
          refine s_len 182 rfl rfl ?_
          refine s_add 183 rfl rfl rfl (r := 0) rfl ?_
          refine s_eq 184 rfl rfl rfl (decide_eq_true rfl) ?_
          refine s_pickT 185 rfl rfl rfl ?_
          refine s_as 12 rfl rfl ?_
          refine SX.next ?_
          refine CW.ret ?_
          exact KN.ret (rs := [.tmp 12]) Tryd.results7 rfl (fun w hw => ⟨rfl, hw.nothing⟩)
        · skip
          have hx := of_decide_eq_false hb
          refine s_mv 170 rfl rfl ?_
          refine s_ldW 171 7 rfl rfl rfl ?_
          refine s_call1 172 rfl rfl rfl rfl (fun w hw => rBits_spec m t D g w hMT hDm) (fun _ _ => trivial) ?_
          refine s_ge 173 rfl rfl rfl rfl ?_
          refine s_pickF 174 rfl rfl rfl ?_
          refine SX.next ?_
          refine CW.test rfl (fun hc => ?_) (fun hc => ?_)
          · skip
            have hbad : ¬ okAt m t D a5 := fun h => by unfold okAt at h; omega
            have hfaD : (faD m t D a5 (fitL p3 D)) = [] := if_neg hbad
            have hfaP : (faP m t D a5 (fitL p4 (prB m t))) = [] := if_neg hbad
            have hfaE : faE e m t D a5 = errV e 1 := if_neg hbad
            rw [hfaD, hfaP, hfaE]
            refine CW.seq ?_
            refine CW.reg [0, 1, 2, 3, 4, 5, 6, 7, 8, 9, 10, 11] rfl ?_   -- 19, law.go:89
            refine s_mv 175 rfl rfl ?_
            refine s_ld 176 rfl rfl (fun _ h => h.cell heN) ?_
            refine s_eqE 177 rfl rfl rfl ?_
            refine s_mv 178 rfl rfl ?_
            refine s_mv 179 rfl rfl ?_
            refine s_len 180 rfl rfl ?_
            refine s_mv 181 rfl rfl ?_
            refine s_len 182 rfl rfl ?_
            refine s_add 183 rfl rfl rfl (r := 0) rfl ?_
            refine s_eq 184 rfl rfl rfl (decide_eq_true rfl) ?_
            refine s_pickT 185 rfl rfl rfl ?_
            refine s_as 12 rfl rfl ?_
            refine SX.next ?_
            refine CW.ret ?_
            exact KN.ret (rs := [.tmp 12]) Tryd.results7 rfl (fun w hw => ⟨rfl, hw.nothing⟩)
          · skip
            obtain ⟨k, rfl⟩ : ∃ k : Nat, a5 = (k : Nat) := ⟨a5.toNat, by omega⟩
            have hk : k < 8 * D + dg m t := by omega
            have hok : okAt m t D (k : Nat) := ⟨by omega, by omega⟩
            have hfaD : (faD m t D (k : Nat) (fitL p3 D)) = fpD m t k (fitL p3 D) := if_pos hok
            have hfaP : (faP m t D (k : Nat) (fitL p4 (prB m t))) = fpP m t k (fitL p4 (prB m t)) := if_pos hok
            have hfaE : faE e m t D (k : Nat) = .nilIface := if_pos hok
            rw [hfaD, hfaP] at hq163
            rw [hfaD, hfaP, hfaE]
            refine CW.skip ?_
            refine KN.code ?_
            refine CW.seq ?_
            refine CW.reg [0, 1, 2] rfl ?_   -- 20, law.go:91
            refine s_mv 186 rfl rfl ?_
            refine s_call 187 rfl rfl rfl rfl (fun w hw => by have := rbytes_spec q102.1 (fitL p3 D).length q102.2 (fitL p3 D) w ((hw.has (i := 6) rfl).of_own) (by omega); exact this) (fun _ _ => trivial) (fun q187 hq187 => ?_)
            refine s_as 32 rfl rfl ?_
            refine SX.next ?_
            refine CW.seq ?_
            refine CW.reg [0, 1, 2] rfl ?_   -- 21, law.go:92
            refine s_mv 188 rfl rfl ?_
            refine s_call 189 rfl rfl rfl rfl (fun w hw => by have := rbytes_spec q121.1 (fitL p4 (prB m t)).length q121.2 (fitL p4 (prB m t)) w ((hw.has (i := 3) rfl).of_own) (by omega); exact this) (fun _ _ => trivial) (fun q189 hq189 => ?_)
            refine s_as 33 rfl rfl ?_
            refine SX.next ?_
            refine CW.seq ?_
            refine CW.reg [0, 1, 2, 3, 4] rfl ?_   -- 22, law.go:93
            refine s_ldW 190 9 rfl rfl rfl ?_
            refine s_mv 191 rfl rfl ?_
            refine s_mv 192 rfl rfl ?_
            refine s_mv 193 rfl rfl ?_
            refine SX.pre (C' := Sto w [own 5 1 q187.1 (fitL p3 D).length q187.2 (nats .u8 (fitL p3 D)), own 5 1 q189.1 (fitL p4 (prB m t)).length q189.2 (nats .u8 (fitL p4 (prB m t))), own 5 1 q163.1.1 (fpD m t k (fitL p3 D)).length q163.1.2 (nats .u8 (fpD m t k (fitL p3 D))), own 5 1 q163.2.1 (fpP m t k (fitL p4 (prB m t))).length q163.2.2 (nats .u8 (fpP m t k (fitL p4 (prB m t)))), own 5 1 q121.1 (fitL p4 (prB m t)).length q121.2 (nats .u8 (fitL p4 (prB m t))), own 5 1 q115.1 (encB m t (fitL p3 D)).length q115.2 (nats .u8 (encB m t (fitL p3 D))), own 5 1 q109.1 (encB m t (fitL p3 D)).length q109.2 (nats .u8 (encB m t (fitL p3 D))), own 5 1 q105.1 (encB m t (fitL p3 D)).length q105.2 (nats .u8 (encB m t (fitL p3 D))), own 5 1 q102.1 (fitL p3 D).length q102.2 (nats .u8 (fitL p3 D)), blk b15 27 (refC m t D g), codeA c m t D q, genOf m t g]) (fun _ hw => hw.pick [1, 0, 0, 0, 0, 0, 0, 0, 0, 0, 0, 0] rfl) ?_
            refine s_callM 194 (v := fun _ => oneOf []) (pf := fun _ => True) (L' := fun _ : Unit => [own 5 1 q187.1 (fitL p3 D).length q187.2 (nats .u8 (fpD m t k (fitL p3 D))), own 5 1 q189.1 (fitL p4 (prB m t)).length q189.2 (nats .u8 (fpP m t k (fitL p4 (prB m t)))), own 5 1 q163.1.1 (fpD m t k (fitL p3 D)).length q163.1.2 (nats .u8 (fpD m t k (fitL p3 D))), own 5 1 q163.2.1 (fpP m t k (fitL p4 (prB m t))).length q163.2.2 (nats .u8 (fpP m t k (fitL p4 (prB m t)))), own 5 1 q121.1 (fitL p4 (prB m t)).length q121.2 (nats .u8 (fitL p4 (prB m t))), own 5 1 q115.1 (encB m t (fitL p3 D)).length q115.2 (nats .u8 (encB m t (fitL p3 D))), own 5 1 q109.1 (encB m t (fitL p3 D)).length q109.2 (nats .u8 (encB m t (fitL p3 D))), own 5 1 q105.1 (encB m t (fitL p3 D)).length q105.2 (nats .u8 (encB m t (fitL p3 D))), own 5 1 q102.1 (fitL p3 D).length q102.2 (nats .u8 (fitL p3 D)), blk b15 27 (refC m t D g), codeA c m t D q, genOf m t g]) rfl rfl rfl rfl (fun w2 hw => rFlip_spec _ _ w2 [own 5 1 q163.1.1 (fpD m t k (fitL p3 D)).length q163.1.2 (nats .u8 (fpD m t k (fitL p3 D))), own 5 1 q163.2.1 (fpP m t k (fitL p4 (prB m t))).length q163.2.2 (nats .u8 (fpP m t k (fitL p4 (prB m t)))), own 5 1 q121.1 (fitL p4 (prB m t)).length q121.2 (nats .u8 (fitL p4 (prB m t))), own 5 1 q115.1 (encB m t (fitL p3 D)).length q115.2 (nats .u8 (encB m t (fitL p3 D))), own 5 1 q109.1 (encB m t (fitL p3 D)).length q109.2 (nats .u8 (encB m t (fitL p3 D))), own 5 1 q105.1 (encB m t (fitL p3 D)).length q105.2 (nats .u8 (encB m t (fitL p3 D))), own 5 1 q102.1 (fitL p3 D).length q102.2 (nats .u8 (fitL p3 D)), blk b15 27 (refC m t D g), codeA c m t D q, genOf m t g] m t D g q187.1 q187.2 (fitL p3 D) q189.1 q189.2 (fitL p4 (prB m t)) k hMT hDm hflt hrlt hfl hrl hk hw) (fun _ _ _ => trivial) (fun _ _ => ?_)
            have hfDl := fpD_len m t k (fitL p3 D)
            have hfPl := fpP_len m t k (fitL p4 (prB m t))
            refine SX.next ?_
            refine CW.seq ?_
            refine CW.reg [0, 1, 2, 3, 4, 5, 6, 7, 8, 9, 10, 11, 12, 13, 14] rfl ?_   -- 23, law.go:94
            refine s_mv 196 rfl rfl ?_
            refine s_mv 197 rfl rfl ?_
            refine s_mv 198 rfl rfl ?_
            refine s_call 199 rfl rfl rfl rfl (fun w hw => by have := rbytes_spec q121.1 (fitL p4 (prB m t)).length q121.2 (fitL p4 (prB m t)) w ((hw.has (i := 4) rfl).of_own) (by omega); exact this) (fun _ _ => trivial) (fun q199 hq199 => ?_)
            refine s_bsl 200 rfl rfl (cells := #[.int .u8 1]) (by kernel_rfl) rfl (fun _ _ => trivial) (fun gb => ?_)
            refine s_app 201 1 rfl rfl rfl rfl (ys := [.int .u8 1]) (fun w hw => Has.cong ((hw.has (i := 0) rfl).blk_sl (m := 1) rfl) rfl) rfl rfl (by omega) (by unfold maxLen; omega) (by omega) (fun _ _ _ _ => trivial) (fun A9 c9 hc9 => ?_)
            refine s_mv 202 rfl rfl ?_
            refine s_call1 203 rfl rfl rfl rfl (fun w hw => cFlip_long c m t D q q102.1 (fitL p3 D).length q102.2 (fitL p3 D) A9 ((fitL p4 (prB m t)).length + 1) c9 [] (k : Nat) e w (hw.has (i := 12) rfl) (hw.er heL) (.inr (by omega))) (fun _ _ => trivial) ?_
            refine s_mv 195 rfl rfl ?_
            refine s_ext 204 rfl rfl rfl ?_
            refine s_ext 205 rfl rfl rfl ?_
            refine s_ext 206 rfl rfl rfl ?_
            refine s_as 34 rfl rfl ?_
            refine s_as 35 rfl rfl ?_
            refine s_as 36 rfl rfl ?_
            refine SX.next ?_
            refine CW.seq ?_
            refine CW.reg [0, 1, 2, 3, 4, 5, 6, 7, 8, 9, 10, 11, 12, 13, 14, 15, 16, 17, 18, 19, 20, 21, 22, 23, 24, 25] rfl ?_   -- 24, law.go:95
            refine s_mv 207 rfl rfl ?_
            refine s_eqNN 208 rfl rfl ?_
            refine s_mv 209 rfl rfl ?_
            refine s_mv 210 rfl rfl ?_
            refine s_mv 211 rfl rfl ?_
            refine s_call1 212 rfl rfl rfl rfl (v := .bool true) (fun w hw => by have := sameBytes_spec q163.1.1 (fpD m t k (fitL p3 D)).length q163.1.2 (fpD m t k (fitL p3 D)) q187.1 (fitL p3 D).length q187.2 (fpD m t k (fitL p3 D)) w ((hw.has (i := 4) rfl).of_own) (fpD_lt hflt m t k) ((hw.has (i := 2) rfl).of_own) (fpD_lt hflt m t k); rw [decide_eq_true rfl] at this; exact this) (fun _ _ => trivial) ?_
            refine s_pickT 213 rfl rfl rfl ?_
            refine s_mv 214 rfl rfl ?_
            refine s_mv 215 rfl rfl ?_
            refine s_mv 216 rfl rfl ?_
            refine s_call1 217 rfl rfl rfl rfl (v := .bool true) (fun w hw => by have := sameBytes_spec q163.2.1 (fpP m t k (fitL p4 (prB m t))).length q163.2.2 (fpP m t k (fitL p4 (prB m t))) q189.1 (fitL p4 (prB m t)).length q189.2 (fpP m t k (fitL p4 (prB m t))) w ((hw.has (i := 5) rfl).of_own) (fpP_lt hrlt m t k) ((hw.has (i := 3) rfl).of_own) (fpP_lt hrlt m t k); rw [decide_eq_true rfl] at this; exact this) (fun _ _ => trivial) ?_
            refine s_pickT 218 rfl rfl rfl ?_
            refine s_mv 219 rfl rfl ?_
            refine s_mv 220 rfl rfl ?_
            refine s_ld 221 rfl rfl (fun _ h => h.cell heL) ?_
            refine s_eqE 222 rfl rfl rfl ?_
            refine s_pickT 223 rfl rfl rfl ?_
            refine s_mv 224 rfl rfl ?_
            refine s_mv 225 rfl rfl ?_
            refine s_mv 226 rfl rfl ?_
            refine s_fa 227 rfl rfl ?_
            refine s_ldB 228 11 rfl rfl rfl (v := .int .i64 (D : Nat)) rfl ?_
            refine s_call 229 rfl rfl rfl rfl (fun w hw => shalelaw6_fit A3 p3.length c3 p3 D w (hw.old ha3) hp3 (by omega) hcp3 (by omega)) (fun _ _ => trivial) (fun q229 hq229 => ?_)
            refine s_call1 230 rfl rfl rfl rfl (v := .bool true) (fun w hw => by have := sameBytes_spec q102.1 (fitL p3 D).length q102.2 (fitL p3 D) q229.1 (fitL p3 D).length q229.2 (fitL p3 D) w ((hw.has (i := 11) rfl).of_own) (fitL_lt hp3 D) ((hw.has (i := 0) rfl).of_own) (fitL_lt hp3 D); rw [decide_eq_true rfl] at this; exact this) (fun _ _ => trivial) ?_
            refine s_pickT 231 rfl rfl rfl ?_
            refine s_as 12 rfl rfl ?_
            refine SX.next ?_
            refine CW.ret ?_
            exact KN.ret (rs := [.tmp 12]) Tryd.results7 rfl (fun w hw => ⟨rfl, hw.nothing⟩)
end Go.Proofs.YtompcfingkoldaaDoor
end
