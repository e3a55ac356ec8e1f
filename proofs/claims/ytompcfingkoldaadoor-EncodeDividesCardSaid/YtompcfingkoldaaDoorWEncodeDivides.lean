/- The walk of the statement EncodeDivides. Conditions: each theorem tells its own. -/
import Derived.Test.YtompcfingkoldaaDoorGB
import Derived.Test.YtompcfingkoldaaDoorRows
import Derived.LaidLaws
import Derived.WalkKit
import Derived.ProofKit
import Derived.OpenShut
import Derived.Deep.DeepHandedRow
import Derived.Deep.DeepWitnessRowRef
import Derived.Test.YtompcfingkoldaaDoorGC
import Derived.Test.YtompcfingkoldaaDoorGF
section
/- What a row's list of error variables gives a walk: each holds a pointer of its own. No condition. -/
namespace Go.Proofs.YtompcfingkoldaaDoor
open Go.Sx Go.ChangeShapes Go.WideShapes Go.RowKit

theorem laidOutT : laidOutB Tryd.prog = true := by kernel_rfl
theorem errStar : "*" ++ "errors.errorString" = "*errors.errorString" := by decide
theorem errRow (u : TypeId) (h : Tryd.prog.typeName? 3 u = some "*errors.errorString") : u = 262 :=
  typeName_ptr_named (nm := "errors.errorString") (by rw [errStar]; kernel_rfl) (by kernel_rfl) (by decide) u (by rw [errStar]; exact h)
theorem errCells : Tryd.prog.cellsOf 279 = 1 := by kernel_rfl
theorem strCells : Tryd.prog.cellsOf 9 = 1 := by kernel_rfl
theorem noKnob : ownKnob Tryd.prog.godebug = none := by kernel_rfl

/-- The pointer that error variable k holds. -/
noncomputable def eOf (W : World) (k : Nat) : Addr := open Classical in if h : ∃ a, W.cell? ⟨k, 0, none⟩ = some (.iface 262 (.pointer (some a))) then Classical.choose h else default

theorem er_of {W : World} {k : Nat} (h : ∃ a, W.cell? ⟨k, 0, none⟩ = some (.iface 262 (.pointer (some a)))) : Er (eOf W) W k := by
  unfold Er errV eOf
  rw [dif_pos h]
  exact Classical.choose_spec h

set_option maxRecDepth 100000 in
theorem er_laid {W : World} : ∀ {l : List (String × DataW Unit)} {ps : List MemPlace}, DataW.LaidVars Tryd.prog W l ps →
    (∀ b off, MemPlace.cell b off ∈ ps → (∃ c t, W.heap[b]? = some (.cells c t (0, 0))) ∧ ∀ u v, W.cell? ⟨b, off, none⟩ = some (.iface u v) → Value.okWide Tryd.prog W .any 0 u v) →
    ∀ n d, (n, d) ∈ l → ∀ text k, d = .iface "*errors.errorString" (.ptr (.agg [.lit (.string text)])) → Tryd.prog.globalNamed n = some k → (Tryd.prog.globals[k]?).map (·.type) = some 34 → Er (eOf W) W k
  | [], _, _, _, _, _, h, _, _, _, _, _ => by cases h
  | (n0, d0) :: r, ps, hl, hrows, n, d, hm, text, k, hd, hk, ht => by
    obtain ⟨g, t, cs, fuel, p, q, hg, htg, hv, htr, hr, hps⟩ := hl
    rcases List.mem_cons.1 hm with he | hm
    · simp only [Prod.mk.injEq] at he
      obtain ⟨rfl, rfl⟩ := he
      subst hd
      obtain rfl := Option.some.inj (hk.symm.trans hg)
      obtain rfl := Option.some.inj (ht.symm.trans htg)
      obtain ⟨l0⟩ := cs
      have ok0 : ∀ u v, l0 = [.iface u v] → Value.okWide Tryd.prog W .any 0 u v := fun u v e => by
        subst e
        exact (hrows k 0 (by rw [hps]; simp [MemPlace.row])).2 u v (by simpa using World.var?_cell hg hv 0)
      obtain ⟨a, s, rfl, _⟩ := errorString_of_trod Tryd.underlying34 errRow Tryd.underlying262 Tryd.underlying279 rfl rfl Tryd.underlying9 errCells strCells htr ok0
      exact er_of ⟨a, by simpa using World.var?_cell hg hv 0⟩
    · exact er_laid hr (fun b off hb => hrows b off (by rw [hps]; exact List.mem_append_right _ hb)) n d hm text k hd hk ht

theorem er_met {W : World} {l : List (String × DataW Unit)} (h : laidMet Tryd.prog l W) (n : String) (d : DataW Unit) (hm : (n, d) ∈ l) (text : List UInt8) (k : Nat) (hd : d = .iface "*errors.errorString" (.ptr (.agg [.lit (.string text)])))
    (hk : Tryd.prog.globalNamed n = some k) (ht : (Tryd.prog.globals[k]?).map (·.type) = some 34) : Er (eOf W) W k :=
  let ⟨_, h1, _, h3⟩ := h
  er_laid h1 h3 n d hm text k hd hk ht

theorem fr_below {w w' : World} (h : Sto w [] w') : Below w.heap.size w w' := h.fr.below
end Go.Proofs.YtompcfingkoldaaDoor
end
section
/- The contracts of binpoly.Shift. Conditions: the list is bytes, read where it lies. -/
namespace Go.Proofs.YtompcfingkoldaaDoor
open Go Go.Lib Go.Sx Go.Fm
set_option maxRecDepth 100000
/-- 1 of what is in the list. -/
def mm (l : List Nat) (x : Nat) : Nat := if x ∈ l then 1 else 0
theorem mm_snoc (l : List Nat) (e x : Nat) : mm (l ++ [e]) x = if x = e then 1 else mm l x := by
  unfold mm
  by_cases h : x = e
  · subst h; simp
  · simp [h]
theorem mem_exU {a : List Nat} {x : Nat} : ∀ {d : Nat}, d ≤ a.length → (x ∈ exU a a.length d ↔ a.length ≤ x + d ∧ x < a.length ∧ cf a x ≠ 0)
  | 0, _ => by
    unfold exU
    simp
    omega
  | d + 1, hd => by
    have ih := mem_exU (a := a) (x := x) (d := d) (by omega)
    unfold exU
    split
    · rename_i h0
      rw [ih]
      constructor
      · rintro ⟨h1, h2, h3⟩; exact ⟨by omega, h2, h3⟩
      · rintro ⟨h1, h2, h3⟩
        refine ⟨?_, h2, h3⟩
        by_cases he : x = a.length - 1 - d
        · subst he; exact absurd h0 h3
        · omega
    · rename_i h0
      rw [List.mem_append, ih, List.mem_singleton]
      constructor
      · rintro (⟨h1, h2, h3⟩ | rfl)
        · exact ⟨by omega, h2, h3⟩
        · exact ⟨by omega, by omega, h0⟩
      · rintro ⟨h1, h2, h3⟩
        by_cases he : x = a.length - 1 - d
        · exact .inr he
        · exact .inl ⟨by omega, h2, h3⟩
theorem mm_exL {a : List Nat} (ha : B1 a) (x : Nat) : mm (exL a) x = cf a x := by
  unfold mm exL
  have h := mem_exU (a := a) (x := x) (Nat.le_refl _)
  have h2 := ha.le x
  by_cases hx : x < a.length
  · by_cases h0 : cf a x = 0
    · rw [if_neg (fun hm => (h.1 hm).2.2 h0), h0]
    · rw [if_pos (h.2 ⟨by omega, hx, h0⟩)]; omega
  · rw [if_neg (fun hm => hx (h.1 hm).2.1), cf_out (by omega)]
/-- The places, n up, or n down. -/
def shB : Bool → Nat → List Nat → Nat → Nat
  | true, n, l, j => if n ≤ j then mm l (j - n) else 0
  | false, n, l, j => mm l (j + n)
/-- What the shift's loop keeps: up, or down. -/
structure ShG (p : List Nat) (up : Bool) (n N : Nat) (z : Nat × List Nat) : Prop where
  le : z.1 ≤ (exL (bl p)).length
  len : z.2.length = N
  lt : ∀ x ∈ z.2, x < 256
  bit : ∀ j, bitN z.2 j = shB up n ((exL (bl p)).take z.1) j
theorem ShG.start (p : List Nat) (up : Bool) (n N : Nat) : ShG p up n N (0, List.replicate N 0) := ⟨Nat.zero_le _, by simp, zeros_lt N, fun j => by
  simp only [List.take_zero]
  rw [zeros_bit]
  cases up
  · exact (show mm [] (j + n) = 0 by simp [mm]).symm
  · exact (show (if n ≤ j then mm [] (j - n) else 0) = 0 by simp [mm]).symm⟩
theorem ShG.nextU {p L : List Nat} {n N i : Nat} (h : ShG p true n N (i, L)) (hi : i < (exL (bl p)).length) (hN : (cf (exL (bl p)) i + n) / 8 < N) : ShG p true n N (i + 1, L.set ((cf (exL (bl p)) i + n) / 8) (cf L ((cf (exL (bl p)) i + n) / 8) ||| 2 ^ ((cf (exL (bl p)) i + n) % 8))) := by
  obtain ⟨h1, h2, h3, h4⟩ := h
  simp only at h1 h2 h3 h4
  refine ⟨hi, by simp only; rw [List.length_set, h2], set_lt h3 (or8 (cf_lt8 h3 _) (Nat.mod_lt _ (by omega))), fun j => ?_⟩
  simp only
  rw [bitN_or (by omega), h4, take_cf hi]
  show (if j = cf (exL (bl p)) i + n then 1 else if n ≤ j then mm ((exL (bl p)).take i) (j - n) else 0) = if n ≤ j then mm ((exL (bl p)).take i ++ [cf (exL (bl p)) i]) (j - n) else 0
  rw [mm_snoc]
  by_cases hj : j = cf (exL (bl p)) i + n
  · rw [if_pos hj, if_pos (by omega), if_pos (by omega)]
  · rw [if_neg hj]
    by_cases hn : n ≤ j
    · rw [if_pos hn, if_pos hn, if_neg (by omega)]
    · rw [if_neg hn, if_neg hn]
theorem ShG.nextD {p L : List Nat} {n N i : Nat} (h : ShG p false n N (i, L)) (hi : i < (exL (bl p)).length) (hk : n ≤ cf (exL (bl p)) i) (hN : (cf (exL (bl p)) i - n) / 8 < N) : ShG p false n N (i + 1, L.set ((cf (exL (bl p)) i - n) / 8) (cf L ((cf (exL (bl p)) i - n) / 8) ||| 2 ^ ((cf (exL (bl p)) i - n) % 8))) := by
  obtain ⟨h1, h2, h3, h4⟩ := h
  simp only at h1 h2 h3 h4
  refine ⟨hi, by simp only; rw [List.length_set, h2], set_lt h3 (or8 (cf_lt8 h3 _) (Nat.mod_lt _ (by omega))), fun j => ?_⟩
  simp only
  rw [bitN_or (by omega), h4, take_cf hi]
  show (if j = cf (exL (bl p)) i - n then 1 else mm ((exL (bl p)).take i) (j + n)) = mm ((exL (bl p)).take i ++ [cf (exL (bl p)) i]) (j + n)
  rw [mm_snoc]
  by_cases hj : j = cf (exL (bl p)) i - n
  · rw [if_pos hj, if_pos (by omega)]
  · rw [if_neg hj, if_neg (by omega)]
theorem ShG.skipD {p L : List Nat} {n N i : Nat} (h : ShG p false n N (i, L)) (hi : i < (exL (bl p)).length) (hk : cf (exL (bl p)) i < n) : ShG p false n N (i + 1, L) := by
  obtain ⟨h1, h2, h3, h4⟩ := h
  simp only at h1 h2 h3 h4
  refine ⟨hi, h2, h3, fun j => ?_⟩
  simp only
  rw [h4, take_cf hi]
  show mm ((exL (bl p)).take i) (j + n) = mm ((exL (bl p)).take i ++ [cf (exL (bl p)) i]) (j + n)
  rw [mm_snoc, if_neg (by omega)]
theorem ShG.doneU {p L : List Nat} {n N : Nat} (h : ShG p true n N ((exL (bl p)).length, L)) : trim L = bys (upP n (bl p)) := bys_of h.lt (upP_b1 (bl_b1 p) n) (fun j => by
  rw [h.bit]
  simp only
  rw [List.take_length, cf_upP]
  show (if n ≤ j then mm (exL (bl p)) (j - n) else 0) = _
  split
  · exact mm_exL (bl_b1 p) _
  · rfl)
theorem ShG.doneD {p L : List Nat} {n N : Nat} (h : ShG p false n N ((exL (bl p)).length, L)) : trim L = bys (dnP n (bl p)) := bys_of h.lt (dnP_b1 (bl_b1 p) n) (fun j => by
  rw [h.bit]
  simp only
  rw [List.take_length, cf_dnP]
  exact mm_exL (bl_b1 p) _)
theorem upP_nil (n : Nat) : upP n [] = [] := (upP_b1 nil_b1 n).tr.nil_of (fun j => by rw [cf_upP, cf_nil]; split <;> rfl)
theorem dnP_outB {a : List Nat} (ha : B1 a) {n : Nat} (h : a.length ≤ n) : dnP n a = [] := (dnP_b1 ha n).tr.nil_of (fun j => by rw [cf_dnP]; exact cf_out (by omega))
theorem addn (a b : Nat) (h : a + b ≤ 9223372036854775807) : IntKind.i64.wrap (((a : Nat) : Int) + (b : Nat)) = ((a + b : Nat) : Int) := by
  rw [← Int.natCast_add]
  exact w64 (by omega)
theorem subn {a b : Nat} (h : b ≤ a) (h2 : a ≤ 9223372036854775807) : IntKind.i64.wrap (((a : Nat) : Int) + -((b : Nat) : Int)) = ((a - b : Nat) : Int) := by
  rw [show ((a : Nat) : Int) + -((b : Nat) : Int) = ((a - b : Nat) : Int) by omega]
  exact w64 (by omega)

theorem bshu_spec (A : Option Addr) (n c : Nat) (p : List Nat) (sh : Nat) (w : World) (ha : Has (sl 1 A n (nats .u8 p)) w) (hp : ∀ x ∈ p, x < 256) (hn : n ≤ 1073741824) (hcp : n ≤ c) (hnl : sh + (bl p).length ≤ 4097) : SpecBE Tryd.prog 60 [.slice A n c, .int .i64 (sh : Nat)] w (bys (upP sh (bl p))) := by
  have hla := nats_len ha
  subst hla
  have hbl := bl_len p
  refine spec_of Tryd.func60 rfl Tryd.ntmps60 rfl ?_
  refine CW.seq ?_
  refine CW.reg [0, 1] rfl ?_   -- 0, binpoly.go:149
  refine s_as 4 rfl rfl ?_
  refine s_as 5 rfl rfl ?_
  refine SX.next ?_
  refine CW.seq ?_
  refine CW.reg [0, 1, 2] rfl ?_   -- 1, binpoly.go:150
  refine s_mv 10 rfl rfl ?_
  refine s_call1 11 rfl rfl rfl rfl (fun w hw => bdeg_spec A p.length c p w (hw.old ha) hp hn hcp) (fun _ _ => trivial) ?_
  refine s_as 6 rfl rfl ?_
  refine SX.next ?_
  refine CW.seq ?_
  refine CW.block ?_
  refine CW.seq ?_
  refine CW.reg [0, 1, 2, 3, 4, 5, 6, 7, 8] rfl ?_   -- 2, binpoly.go:152
  refine s_mv 13 rfl rfl ?_
  refine s_lt 14 rfl rfl rfl rfl ?_
  refine s_mv 15 rfl rfl ?_
  refine SX.bool 15 rfl (fun hb => ?_) (fun hb => ?_)
  · skip
    replace hb := of_decide_eq_true hb
    have hz : (bys (upP sh (bl p))) = [] := by rw [List.eq_nil_of_length_eq_zero (show (bl p).length = 0 by omega)]; rw [upP_nil]; rfl
    refine SX.skip rfl ?_
    refine SX.skip rfl ?_
    refine SX.skip rfl ?_
    refine SX.skip rfl ?_
    refine s_pickT 20 rfl rfl rfl ?_
    refine s_as 12 rfl rfl ?_
    refine SX.next ?_
    refine CW.condT rfl ?_
    refine CW.seq ?_
    refine CW.reg [0, 1] rfl ?_   -- 3, binpoly.go:153
    refine s_as 4 rfl rfl ?_
    refine s_as 5 rfl rfl ?_
    refine SX.next ?_
    refine CW.ret ?_
    exact KN.ret (rs := [.tmp 4, .tmp 5]) Tryd.results60 rfl (fun w hw => ⟨(none, 0), by rw [hz]; rfl, by rw [hz]; exact Nat.le_refl _, by rw [hz]; exact hw.dropR.begin_ _ 1⟩)
  · skip
    replace hb := of_decide_eq_false hb
    refine s_mv 16 rfl rfl ?_
    refine s_mv 17 rfl rfl ?_
    refine s_neg 18 rfl rfl (r := 1 - ((bl p).length : Nat)) (by rw [show (0 : Int) - (((bl p).length : Nat) - 1) = 1 - ((bl p).length : Nat) by omega]; exact w64 (by omega)) ?_
    refine s_lt 19 rfl rfl rfl rfl ?_
    refine s_pickF 20 rfl rfl rfl ?_
    refine s_as 12 rfl rfl ?_
    refine SX.next ?_
    refine CW.test rfl (fun hc2 => ?_) (fun hc2 => ?_)
    · skip
      have hz : (bys (upP sh (bl p))) = [] := by omega
      refine CW.seq ?_
      refine CW.reg [0, 1] rfl ?_   -- 3, binpoly.go:153
      refine s_as 4 rfl rfl ?_
      refine s_as 5 rfl rfl ?_
      refine SX.next ?_
      refine CW.ret ?_
      exact KN.ret (rs := [.tmp 4, .tmp 5]) Tryd.results60 rfl (fun w hw => ⟨(none, 0), by rw [hz]; rfl, by rw [hz]; exact Nat.le_refl _, by rw [hz]; exact hw.dropR.begin_ _ 1⟩)
    · skip
      refine CW.seq ?_
      refine CW.reg [0, 1, 2, 3, 4] rfl ?_   -- 4, binpoly.go:154
      refine s_mv 22 rfl rfl ?_
      refine s_mv 23 rfl rfl ?_
      refine s_sub 24 rfl rfl rfl (r := 4097 - ((bl p).length : Nat)) (by rw [show (4096 : Int) - (((bl p).length : Nat) - 1) = 4097 - ((bl p).length : Nat) by omega]; exact w64 (by omega)) ?_
      refine s_gt 25 rfl rfl rfl (decide_eq_false (by omega)) ?_
      refine s_as 21 rfl rfl ?_
      refine SX.next ?_
      refine CW.condF rfl ?_
      refine CW.skip ?_
      refine KN.blk ?_
      refine KN.code ?_
      refine CW.seq ?_
      refine CW.reg [0, 1, 2, 3, 4, 5, 6] rfl ?_   -- 6, binpoly.go:157
      refine s_mv 27 rfl rfl ?_
      refine s_mv 28 rfl rfl ?_
      refine s_add 29 rfl rfl rfl (r := (((bl p).length - 1 + sh : Nat) : Int)) (by rw [show ((bl p).length : Int) - 1 + (sh : Nat) = (((bl p).length - 1 + sh : Nat) : Int) by omega]; exact w64 (by omega)) ?_
      refine s_quo 30 rfl rfl rfl (by omega) (quo8 _ (by omega)) ?_
      refine s_add 31 rfl rfl rfl (r := (((((bl p).length - 1 + sh) / 8 + 1) : Nat) : Int)) (w64 (by omega)) ?_
      refine s_make 32 (((bl p).length - 1 + sh) / 8 + 1) rfl rfl rfl rfl rfl (by omega) (fun _ _ => trivial) (fun go => ?_)
      refine s_as 7 rfl rfl ?_
      refine SX.next ?_
      refine CW.seq ?_
      refine CW.seq ?_
      refine CW.reg [0, 1, 2, 3] rfl ?_   -- 7, binpoly.go:158
      refine s_mv 33 rfl rfl ?_
      refine s_call 34 rfl rfl rfl rfl (fun w hw => bexp_spec A p.length c p w (hw.old ha) hp hn hcp) (fun _ _ => trivial) (fun q3 hq3 => ?_)
      refine SX.pre (C' := Sto w [own 5 1 (some ⟨go, 0, none⟩) (((bl p).length - 1 + sh) / 8 + 1) (((bl p).length - 1 + sh) / 8 + 1) (nats .u8 (List.replicate (((bl p).length - 1 + sh) / 8 + 1) 0)), own 3 1 q3.1 (exL (bl p)).length q3.2 (nats .i64 (exL (bl p)))]) (fun _ h => by
        have := h.blkOwnM (q := 1) (m := (((bl p).length - 1 + sh) / 8 + 1)) (c := (((bl p).length - 1 + sh) / 8 + 1)) (sz := 1) rfl (by simp) (Nat.le_refl _) (by unfold maxLen; omega)
        rw [zeros8] at this
        exact this.pick [1, 0] rfl) ?_
      refine s_len 35 rfl rfl ?_
      refine s_mv 36 rfl rfl ?_
      refine SX.next ?_
      refine CW.block ?_
      refine CW.loop (G := Nat × List Nat) (fun z => [(1, .int .i64 (sh : Nat)), (7, .slice (some ⟨go, 0, none⟩) (((bl p).length - 1 + sh) / 8 + 1) (((bl p).length - 1 + sh) / 8 + 1)), (34, .slice q3.1 (exL (bl p)).length q3.2), (35, .int .i64 ((exL (bl p)).length : Nat)), (36, .int .i64 (z.1 : Nat))]) (fun z => Sto w [own 5 1 (some ⟨go, 0, none⟩) (((bl p).length - 1 + sh) / 8 + 1) (((bl p).length - 1 + sh) / 8 + 1) (nats .u8 z.2), own 3 1 q3.1 (exL (bl p)).length q3.2 (nats .i64 (exL (bl p)))]) (ShG p true sh (((bl p).length - 1 + sh) / 8 + 1)) (fun z => (exL (bl p)).length - z.1) (0, List.replicate (((bl p).length - 1 + sh) / 8 + 1) 0) ⟨rfl, rfl, rfl, rfl, rfl, trivial⟩ (fun _ h => h) (ShG.start p true sh _) ?_
      rintro ⟨i, L⟩ hz2
      have hle := hz2.le
      have hlen := hz2.len
      have hlt := hz2.lt
      simp only at hle hlen hlt
      dsimp only
      have hexl : (exL (bl p)).length ≤ (bl p).length := exU_len (bl p) (bl p).length (bl p).length
      refine CW.seq ?_
      refine CW.reg [0] rfl ?_   -- 8, binpoly.go:158
      refine s_lt 37 rfl rfl rfl rfl ?_
      refine SX.next ?_
      refine CW.seq ?_
      refine CW.test rfl (fun hc => ?_) (fun hc => ?_)
      · skip
        have hi : i < (exL (bl p)).length := by omega
        have hcl : cf (exL (bl p)) i < (bl p).length := exU_lt (by omega) (cf_mem hi)
        refine CW.skip ?_
        refine KN.code ?_
        refine CW.seq ?_
        refine CW.block ?_
        refine CW.seq ?_
        refine CW.reg [0, 1, 2] rfl ?_   -- 9, binpoly.go:158
        refine s_iaO 38 1 i rfl rfl rfl rfl rfl (by omega) ?_
        refine s_ldO 39 1 rfl rfl rfl (natsAtC hi) ?_
        refine s_as 9 rfl rfl ?_
        refine SX.next ?_
        refine CW.seq ?_
        refine CW.reg [0, 1, 2, 3] rfl ?_   -- 10, binpoly.go:159
        refine s_mv 40 rfl rfl ?_
        refine s_mv 41 rfl rfl ?_
        refine s_add 42 rfl rfl rfl (r := (((cf (exL (bl p)) i + sh) : Nat) : Int)) (addn _ _ (by omega)) ?_
        refine s_ge 43 rfl rfl rfl (decide_eq_true (by omega)) ?_
        refine SX.next ?_
        refine CW.condT rfl ?_
        refine CW.regD (.st true 0 (.st true 1 (.st true 2 (.st true 3 (.st true 4 (.st true 5 (.st true 7 (.st true 8 (.st true 9 (.st true 10 (.st true 11 (.st false 6 (.st true 12 (.st true 13 (.st false 14 .done))))))))))))))) (Sto w []) mixed (by kernel_rfl) (fun _ h => h.drew) (fun _ h => h.dropR) ?_
        refine s_mv 44 rfl rfl ?_
        refine s_mv 45 rfl rfl ?_
        refine s_mv 46 rfl rfl ?_
        refine s_add 47 rfl rfl rfl (r := (((cf (exL (bl p)) i + sh) : Nat) : Int)) (addn _ _ (by omega)) ?_
        refine s_quo 48 rfl rfl rfl (by omega) (quo8 _ (by omega)) ?_
        refine s_iaO 49 0 ((cf (exL (bl p)) i + sh) / 8) rfl rfl rfl rfl rfl (by omega) ?_
        refine s_mv 51 rfl rfl ?_
        refine s_mv 52 rfl rfl ?_
        refine s_add 53 rfl rfl rfl (r := (((cf (exL (bl p)) i + sh) : Nat) : Int)) (addn _ _ (by omega)) ?_
        refine s_rem 54 rfl rfl rfl (by omega) (tmod8 _) ?_
        refine s_shl 55 rfl rfl rfl (by omega) (r := ((2 ^ ((cf (exL (bl p)) i + sh) % 8) : Nat) : Int)) (by rw [show (1 : Int) = ((1 : Nat) : Int) from rfl, shl_u8 (by omega), Nat.one_mul, Nat.mod_eq_of_lt (Nat.pow_lt_pow_right (n := 8) (by omega) (Nat.mod_lt _ (by omega)))]) ?_
        refine s_ldO 50 0 rfl rfl rfl (natsAt8 (by omega)) ?_
        refine s_bit 56 rfl rfl rfl rfl (ibit_or_u8 (cf_lt8 hlt _) (Nat.pow_lt_pow_right (n := 8) (by omega) (Nat.mod_lt _ (by omega)))) ?_
        refine s_iaO 57 0 ((cf (exL (bl p)) i + sh) / 8) rfl rfl rfl rfl rfl (by omega) ?_
        refine s_stO 0 rfl rfl rfl rfl rfl (by omega) (fun _ h => h.dropR) ?_
        refine SX.end_ ?_
        refine KN.blk ?_
        refine KN.code ?_
        refine CW.reg [0, 1] rfl ?_   -- 12, binpoly.go:158
        refine s_add 58 rfl rfl rfl (r := ((i + 1 : Nat) : Int)) (w64 (by omega)) ?_
        refine s_mv 36 rfl rfl ?_
        refine SX.end_ ?_
        exact KN.back (i + 1, (L.set ((cf (exL (bl p)) i + sh) / 8) (cf L ((cf (exL (bl p)) i + sh) / 8) ||| 2 ^ ((cf (exL (bl p)) i + sh) % 8)))) ⟨rfl, rfl, rfl, rfl, rfl, trivial⟩ (fun _ h => by simp only; rw [← nats_set]; exact h) (hz2.nextU hi (by omega)) (by simp only; omega)
      · skip
        obtain rfl : i = (exL (bl p)).length := by omega
        have hdn := hz2.doneU
        refine CW.exit rfl ?_
        refine KN.code ?_
        refine CW.seq ?_
        refine CW.reg [0, 1, 2, 3] rfl ?_   -- 13, binpoly.go:163
        refine s_mv 59 rfl rfl ?_
        refine s_call 60 rfl rfl rfl rfl (fun w hw => by have := trimmed_spec (some ⟨go, 0, none⟩) (((bl p).length - 1 + sh) / 8 + 1) (((bl p).length - 1 + sh) / 8 + 1) L w ((hw.has (i := 0) rfl).of_own) hlt (by omega) (Nat.le_refl _); rw [hdn] at this; exact this) (fun _ _ => trivial) (fun q4 hq4 => ?_)
        refine s_as 4 rfl rfl ?_
        refine s_as 5 rfl rfl ?_
        refine SX.next ?_
        refine CW.ret ?_
        exact KN.ret (rs := [.tmp 4, .tmp 5]) Tryd.results60 rfl (fun w hw => ⟨q4, rfl, hq4, hw.pick [0] rfl⟩)

theorem bshd_spec (A : Option Addr) (n c : Nat) (p : List Nat) (sh : Nat) (w : World) (ha : Has (sl 1 A n (nats .u8 p)) w) (hp : ∀ x ∈ p, x < 256) (hn : n ≤ 1073741824) (hcp : n ≤ c) (hnl : sh ≤ 1000000) (hbl4 : (bl p).length ≤ 4097) : SpecBE Tryd.prog 60 [.slice A n c, .int .i64 (-((sh : Nat) : Int))] w (bys (dnP sh (bl p))) := by
  have hla := nats_len ha
  subst hla
  have hbl := bl_len p
  refine spec_of Tryd.func60 rfl Tryd.ntmps60 rfl ?_
  refine CW.seq ?_
  refine CW.reg [0, 1] rfl ?_   -- 0, binpoly.go:149
  refine s_as 4 rfl rfl ?_
  refine s_as 5 rfl rfl ?_
  refine SX.next ?_
  refine CW.seq ?_
  refine CW.reg [0, 1, 2] rfl ?_   -- 1, binpoly.go:150
  refine s_mv 10 rfl rfl ?_
  refine s_call1 11 rfl rfl rfl rfl (fun w hw => bdeg_spec A p.length c p w (hw.old ha) hp hn hcp) (fun _ _ => trivial) ?_
  refine s_as 6 rfl rfl ?_
  refine SX.next ?_
  refine CW.seq ?_
  refine CW.block ?_
  refine CW.seq ?_
  refine CW.reg [0, 1, 2, 3, 4, 5, 6, 7, 8] rfl ?_   -- 2, binpoly.go:152
  refine s_mv 13 rfl rfl ?_
  refine s_lt 14 rfl rfl rfl rfl ?_
  refine s_mv 15 rfl rfl ?_
  refine SX.bool 15 rfl (fun hb => ?_) (fun hb => ?_)
  · skip
    replace hb := of_decide_eq_true hb
    have hz : (bys (dnP sh (bl p))) = [] := by rw [List.eq_nil_of_length_eq_zero (show (bl p).length = 0 by omega)]; rw [dnP_outB nil_b1 (Nat.zero_le _)]; rfl
    refine SX.skip rfl ?_
    refine SX.skip rfl ?_
    refine SX.skip rfl ?_
    refine SX.skip rfl ?_
    refine s_pickT 20 rfl rfl rfl ?_
    refine s_as 12 rfl rfl ?_
    refine SX.next ?_
    refine CW.condT rfl ?_
    refine CW.seq ?_
    refine CW.reg [0, 1] rfl ?_   -- 3, binpoly.go:153
    refine s_as 4 rfl rfl ?_
    refine s_as 5 rfl rfl ?_
    refine SX.next ?_
    refine CW.ret ?_
    exact KN.ret (rs := [.tmp 4, .tmp 5]) Tryd.results60 rfl (fun w hw => ⟨(none, 0), by rw [hz]; rfl, by rw [hz]; exact Nat.le_refl _, by rw [hz]; exact hw.dropR.begin_ _ 1⟩)
  · skip
    replace hb := of_decide_eq_false hb
    refine s_mv 16 rfl rfl ?_
    refine s_mv 17 rfl rfl ?_
    refine s_neg 18 rfl rfl (r := 1 - ((bl p).length : Nat)) (by rw [show (0 : Int) - (((bl p).length : Nat) - 1) = 1 - ((bl p).length : Nat) by omega]; exact w64 (by omega)) ?_
    refine s_lt 19 rfl rfl rfl rfl ?_
    refine s_pickF 20 rfl rfl rfl ?_
    refine s_as 12 rfl rfl ?_
    refine SX.next ?_
    refine CW.test rfl (fun hc2 => ?_) (fun hc2 => ?_)
    · skip
      have hz : (bys (dnP sh (bl p))) = [] := by rw [dnP_outB (bl_b1 p) (by omega)]; rfl
      refine CW.seq ?_
      refine CW.reg [0, 1] rfl ?_   -- 3, binpoly.go:153
      refine s_as 4 rfl rfl ?_
      refine s_as 5 rfl rfl ?_
      refine SX.next ?_
      refine CW.ret ?_
      exact KN.ret (rs := [.tmp 4, .tmp 5]) Tryd.results60 rfl (fun w hw => ⟨(none, 0), by rw [hz]; rfl, by rw [hz]; exact Nat.le_refl _, by rw [hz]; exact hw.dropR.begin_ _ 1⟩)
    · skip
      refine CW.seq ?_
      refine CW.reg [0, 1, 2, 3, 4] rfl ?_   -- 4, binpoly.go:154
      refine s_mv 22 rfl rfl ?_
      refine s_mv 23 rfl rfl ?_
      refine s_sub 24 rfl rfl rfl (r := 4097 - ((bl p).length : Nat)) (by rw [show (4096 : Int) - (((bl p).length : Nat) - 1) = 4097 - ((bl p).length : Nat) by omega]; exact w64 (by omega)) ?_
      refine s_gt 25 rfl rfl rfl (decide_eq_false (by omega)) ?_
      refine s_as 21 rfl rfl ?_
      refine SX.next ?_
      refine CW.condF rfl ?_
      refine CW.skip ?_
      refine KN.blk ?_
      refine KN.code ?_
      refine CW.seq ?_
      refine CW.reg [0, 1, 2, 3, 4, 5, 6] rfl ?_   -- 6, binpoly.go:157
      refine s_mv 27 rfl rfl ?_
      refine s_mv 28 rfl rfl ?_
      refine s_add 29 rfl rfl rfl (r := (((bl p).length - 1 - sh : Nat) : Int)) (by rw [show ((bl p).length : Int) - 1 + -((sh : Nat) : Int) = (((bl p).length - 1 - sh : Nat) : Int) by omega]; exact w64 (by omega)) ?_
      refine s_quo 30 rfl rfl rfl (by omega) (quo8 _ (by omega)) ?_
      refine s_add 31 rfl rfl rfl (r := (((((bl p).length - 1 - sh) / 8 + 1) : Nat) : Int)) (w64 (by omega)) ?_
      refine s_make 32 (((bl p).length - 1 - sh) / 8 + 1) rfl rfl rfl rfl rfl (by omega) (fun _ _ => trivial) (fun go => ?_)
      refine s_as 7 rfl rfl ?_
      refine SX.next ?_
      refine CW.seq ?_
      refine CW.seq ?_
      refine CW.reg [0, 1, 2, 3] rfl ?_   -- 7, binpoly.go:158
      refine s_mv 33 rfl rfl ?_
      refine s_call 34 rfl rfl rfl rfl (fun w hw => bexp_spec A p.length c p w (hw.old ha) hp hn hcp) (fun _ _ => trivial) (fun q3 hq3 => ?_)
      refine SX.pre (C' := Sto w [own 5 1 (some ⟨go, 0, none⟩) (((bl p).length - 1 - sh) / 8 + 1) (((bl p).length - 1 - sh) / 8 + 1) (nats .u8 (List.replicate (((bl p).length - 1 - sh) / 8 + 1) 0)), own 3 1 q3.1 (exL (bl p)).length q3.2 (nats .i64 (exL (bl p)))]) (fun _ h => by
        have := h.blkOwnM (q := 1) (m := (((bl p).length - 1 - sh) / 8 + 1)) (c := (((bl p).length - 1 - sh) / 8 + 1)) (sz := 1) rfl (by simp) (Nat.le_refl _) (by unfold maxLen; omega)
        rw [zeros8] at this
        exact this.pick [1, 0] rfl) ?_
      refine s_len 35 rfl rfl ?_
      refine s_mv 36 rfl rfl ?_
      refine SX.next ?_
      refine CW.block ?_
      refine CW.loop (G := Nat × List Nat) (fun z => [(1, .int .i64 (-((sh : Nat) : Int))), (7, .slice (some ⟨go, 0, none⟩) (((bl p).length - 1 - sh) / 8 + 1) (((bl p).length - 1 - sh) / 8 + 1)), (34, .slice q3.1 (exL (bl p)).length q3.2), (35, .int .i64 ((exL (bl p)).length : Nat)), (36, .int .i64 (z.1 : Nat))]) (fun z => Sto w [own 5 1 (some ⟨go, 0, none⟩) (((bl p).length - 1 - sh) / 8 + 1) (((bl p).length - 1 - sh) / 8 + 1) (nats .u8 z.2), own 3 1 q3.1 (exL (bl p)).length q3.2 (nats .i64 (exL (bl p)))]) (ShG p false sh (((bl p).length - 1 - sh) / 8 + 1)) (fun z => (exL (bl p)).length - z.1) (0, List.replicate (((bl p).length - 1 - sh) / 8 + 1) 0) ⟨rfl, rfl, rfl, rfl, rfl, trivial⟩ (fun _ h => h) (ShG.start p false sh _) ?_
      rintro ⟨i, L⟩ hz2
      have hle := hz2.le
      have hlen := hz2.len
      have hlt := hz2.lt
      simp only at hle hlen hlt
      dsimp only
      have hexl : (exL (bl p)).length ≤ (bl p).length := exU_len (bl p) (bl p).length (bl p).length
      refine CW.seq ?_
      refine CW.reg [0] rfl ?_   -- 8, binpoly.go:158
      refine s_lt 37 rfl rfl rfl rfl ?_
      refine SX.next ?_
      refine CW.seq ?_
      refine CW.test rfl (fun hc => ?_) (fun hc => ?_)
      · skip
        have hi : i < (exL (bl p)).length := by omega
        have hcl : cf (exL (bl p)) i < (bl p).length := exU_lt (by omega) (cf_mem hi)
        refine CW.skip ?_
        refine KN.code ?_
        refine CW.seq ?_
        refine CW.block ?_
        refine CW.seq ?_
        refine CW.reg [0, 1, 2] rfl ?_   -- 9, binpoly.go:158
        refine s_iaO 38 1 i rfl rfl rfl rfl rfl (by omega) ?_
        refine s_ldO 39 1 rfl rfl rfl (natsAtC hi) ?_
        refine s_as 9 rfl rfl ?_
        refine SX.next ?_
        refine CW.seq ?_
        refine CW.reg [0, 1, 2, 3] rfl ?_   -- 10, binpoly.go:159
        refine s_mv 40 rfl rfl ?_
        refine s_mv 41 rfl rfl ?_
        refine s_add 42 rfl rfl rfl (r := (cf (exL (bl p)) i : Nat) + -((sh : Nat) : Int)) (w64 (by omega)) ?_
        refine s_ge 43 rfl rfl rfl rfl ?_
        refine SX.next ?_
        refine CW.test rfl (fun hc => ?_) (fun hc => ?_)
        · skip
          have hk : sh ≤ cf (exL (bl p)) i := by omega
          refine CW.regD (.st true 0 (.st true 1 (.st true 2 (.st true 3 (.st true 4 (.st true 5 (.st true 7 (.st true 8 (.st true 9 (.st true 10 (.st true 11 (.st false 6 (.st true 12 (.st true 13 (.st false 14 .done))))))))))))))) (Sto w []) mixed (by kernel_rfl) (fun _ h => h.drew) (fun _ h => h.dropR) ?_
          refine s_mv 44 rfl rfl ?_
          refine s_mv 45 rfl rfl ?_
          refine s_mv 46 rfl rfl ?_
          refine s_add 47 rfl rfl rfl (r := (((cf (exL (bl p)) i - sh) : Nat) : Int)) (subn hk (by omega)) ?_
          refine s_quo 48 rfl rfl rfl (by omega) (quo8 _ (by omega)) ?_
          refine s_iaO 49 0 ((cf (exL (bl p)) i - sh) / 8) rfl rfl rfl rfl rfl (by omega) ?_
          refine s_mv 51 rfl rfl ?_
          refine s_mv 52 rfl rfl ?_
          refine s_add 53 rfl rfl rfl (r := (((cf (exL (bl p)) i - sh) : Nat) : Int)) (subn hk (by omega)) ?_
          refine s_rem 54 rfl rfl rfl (by omega) (tmod8 _) ?_
          refine s_shl 55 rfl rfl rfl (by omega) (r := ((2 ^ ((cf (exL (bl p)) i - sh) % 8) : Nat) : Int)) (by rw [show (1 : Int) = ((1 : Nat) : Int) from rfl, shl_u8 (by omega), Nat.one_mul, Nat.mod_eq_of_lt (Nat.pow_lt_pow_right (n := 8) (by omega) (Nat.mod_lt _ (by omega)))]) ?_
          refine s_ldO 50 0 rfl rfl rfl (natsAt8 (by omega)) ?_
          refine s_bit 56 rfl rfl rfl rfl (ibit_or_u8 (cf_lt8 hlt _) (Nat.pow_lt_pow_right (n := 8) (by omega) (Nat.mod_lt _ (by omega)))) ?_
          refine s_iaO 57 0 ((cf (exL (bl p)) i - sh) / 8) rfl rfl rfl rfl rfl (by omega) ?_
          refine s_stO 0 rfl rfl rfl rfl rfl (by omega) (fun _ h => h.dropR) ?_
          refine SX.end_ ?_
          refine KN.blk ?_
          refine KN.code ?_
          refine CW.reg [0, 1] rfl ?_   -- 12, binpoly.go:158
          refine s_add 58 rfl rfl rfl (r := ((i + 1 : Nat) : Int)) (w64 (by omega)) ?_
          refine s_mv 36 rfl rfl ?_
          refine SX.end_ ?_
          exact KN.back (i + 1, (L.set ((cf (exL (bl p)) i - sh) / 8) (cf L ((cf (exL (bl p)) i - sh) / 8) ||| 2 ^ ((cf (exL (bl p)) i - sh) % 8)))) ⟨rfl, rfl, rfl, rfl, rfl, trivial⟩ (fun _ h => by simp only; rw [← nats_set]; exact h) (hz2.nextD hi hk (by omega)) (by simp only; omega)
        · skip
          have hk : cf (exL (bl p)) i < (sh) := by omega
          refine CW.skip ?_
          refine KN.blk ?_
          refine KN.code ?_
          refine CW.reg [0, 1] rfl ?_   -- 12, binpoly.go:158
          refine s_add 58 rfl rfl rfl (r := ((i + 1 : Nat) : Int)) (w64 (by omega)) ?_
          refine s_mv 36 rfl rfl ?_
          refine SX.end_ ?_
          exact KN.back (i + 1, L) ⟨rfl, rfl, rfl, rfl, rfl, trivial⟩ (fun _ h => h) (hz2.skipD hi hk) (by simp only; omega)
      · skip
        obtain rfl : i = (exL (bl p)).length := by omega
        have hdn := hz2.doneD
        refine CW.exit rfl ?_
        refine KN.code ?_
        refine CW.seq ?_
        refine CW.reg [0, 1, 2, 3] rfl ?_   -- 13, binpoly.go:163
        refine s_mv 59 rfl rfl ?_
        refine s_call 60 rfl rfl rfl rfl (fun w hw => by have := trimmed_spec (some ⟨go, 0, none⟩) (((bl p).length - 1 - sh) / 8 + 1) (((bl p).length - 1 - sh) / 8 + 1) L w ((hw.has (i := 0) rfl).of_own) hlt (by omega) (Nat.le_refl _); rw [hdn] at this; exact this) (fun _ _ => trivial) (fun q4 hq4 => ?_)
        refine s_as 4 rfl rfl ?_
        refine s_as 5 rfl rfl ?_
        refine SX.next ?_
        refine CW.ret ?_
        exact KN.ret (rs := [.tmp 4, .tmp 5]) Tryd.results60 rfl (fun w hw => ⟨q4, rfl, hq4, hw.pick [0] rfl⟩)
end Go.Proofs.YtompcfingkoldaaDoor
end
section
/- The statement EncodeDivides, walked. Conditions: the errors' variables. -/
namespace Go.Proofs.YtompcfingkoldaaDoor
open Go Go.Sx Go.Fm Nb
set_option maxRecDepth 100000
theorem bys_nil' : bys [] = [] := by decide +kernel
theorem bl_gn {m t : Nat} (h : MT m t) : bl (gnB m t) = genL m (ldr m t).1 := bl_bys h.gb

theorem walk_EncodeDivides (a0 a1 a2 : Int) (A3 : Option Addr) (n3 c3 : Nat) (p3 : List Nat) (e : Nat → Addr) (w : World) (ha3 : Has (sl 1 A3 n3 (nats .u8 p3)) w) (hp3 : ∀ x ∈ p3, x < 256) (hn3 : n3 ≤ 9223372036854775807) (hcp3 : n3 ≤ c3) (he : Er e w 2) : Spec1 Tryd.prog 12 [.int .i64 a0, .int .i64 a1, .int .i64 a2, .slice A3 n3 c3] w (.bool true) := by
  have hla3 := nats_len ha3
  subst hla3
  refine spec_of Tryd.func12 rfl Tryd.ntmps12 rfl ?_
  refine CW.seq ?_
  refine CW.reg [0] rfl ?_   -- 0, more.go:11
  refine s_as 8 rfl rfl ?_
  refine SX.next ?_
  refine CW.seq ?_
  refine CW.reg [0, 1] rfl ?_   -- 1, more.go:12
  refine s_call1 21 rfl rfl rfl rfl (fun w hw => first6_spec e w (hw.er he)) (fun _ _ => trivial) ?_
  refine s_as 9 rfl rfl ?_
  refine SX.next ?_
  refine CW.seq ?_
  refine CW.reg [0, 1, 2, 3, 4, 5, 6, 7, 8, 9, 10, 11] rfl ?_   -- 2, more.go:13
  refine s_mv 23 rfl rfl ?_
  refine s_mv 24 rfl rfl ?_
  refine s_mv 25 rfl rfl ?_
  refine s_call 26 rfl rfl rfl rfl (fun w hw => shalelaw6_made a0 a1 a2 w) (fun _ _ => trivial) (fun z hz => ?_)
  obtain ⟨c, q, m, t, D, g⟩ := z
  obtain ⟨hC, hq, hg, hmM, htT, hdB, hm6⟩ := hz
  simp only at hC hq hg hmM htT hdB hm6
  obtain ⟨hMT, h1D, hDm, hfit⟩ := hC
  have hm := hMT.ok
  have hd1 := hMT.d1
  have hd5 := hMT.d560
  have hp1 := hMT.p1
  have hp7 := hMT.p70
  refine SX.pre (C' := Sto w [codeA c m t D q, genOf m t g]) (fun _ hw => hw) ?_
  refine s_mv 22 rfl rfl ?_
  refine s_ext 27 rfl rfl rfl ?_
  refine s_ext 28 rfl rfl rfl ?_
  refine s_ext 29 rfl rfl rfl ?_
  refine s_alloc 11 rfl (fun _ _ => trivial) (fun b11 => ?_)
  refine s_as 10 rfl rfl ?_
  refine s_stAll 0 rfl rfl (by kernel_rfl) rfl rfl rfl rfl (fun _ _ => trivial) ?_
  refine s_as 12 rfl rfl ?_
  refine SX.next ?_
  refine CW.seq ?_
  refine CW.seq ?_
  refine CW.reg [0, 1, 2, 3, 4, 5] rfl ?_   -- 3, more.go:14
  refine s_mv 30 rfl rfl ?_
  refine s_not 31 rfl rfl ?_
  refine s_mv 32 rfl rfl ?_
  refine s_mv 33 rfl rfl ?_
  refine s_not 34 rfl rfl ?_
  refine s_pickF 35 rfl rfl rfl ?_
  refine SX.next ?_
  refine CW.condF rfl ?_
  refine CW.skip ?_
  refine KN.code ?_
  refine CW.seq ?_
  refine CW.reg [0, 1, 2, 3, 4] rfl ?_   -- 5, more.go:17
  refine s_mv 36 rfl rfl ?_
  refine s_fa 37 rfl rfl ?_
  refine s_ldB 38 0 rfl rfl rfl (v := .int .i64 (D : Nat)) rfl ?_
  refine s_call 39 rfl rfl rfl rfl (fun w hw => shalelaw6_fit A3 p3.length c3 p3 D w (hw.old ha3) hp3 (by omega) hcp3 (by omega)) (fun _ _ => trivial) (fun q39 hq39 => ?_)
  refine s_as 13 rfl rfl ?_
  refine SX.next ?_
  refine CW.seq ?_
  refine CW.reg [0, 1, 2, 3, 4, 5, 6, 7] rfl ?_   -- 6, more.go:18
  refine s_mv 41 rfl rfl ?_
  refine s_mv 42 rfl rfl ?_
  refine s_call 43 rfl rfl rfl rfl (fun w hw => cFast_ok c m t D q q39.1 (fitL p3 D).length q39.2 (fitL p3 D) w hMT hq (hw.has (i := 2) rfl) ((hw.has (i := 0) rfl).of_own) (fitL_lt hp3 D) (by have := (fitL_len p3 D); omega) hq39 (fitL_len p3 D)) (fun _ _ => trivial) (fun q43 hq43 => ?_)
  refine s_mv 40 rfl rfl ?_
  refine s_ext 44 rfl rfl rfl ?_
  refine s_ext 45 rfl rfl rfl ?_
  refine s_as 14 rfl rfl ?_
  refine s_as 15 rfl rfl ?_
  refine SX.next ?_
  refine CW.seq ?_
  refine CW.reg [0, 1, 2, 3, 4, 5, 6, 7, 8] rfl ?_   -- 7, more.go:19
  refine s_mv 47 rfl rfl ?_
  refine s_mv 48 rfl rfl ?_
  have hfl := fitL_len p3 D
  have hbl := bl_len (fitL p3 D)
  have hXB := upP_b1 (bl_b1 (fitL p3 D)) (dg m t)
  have hEB := hMT.eb (bl_b1 (fitL p3 D))
  have hWB := addP_b1 hXB hEB
  have hXl : (upP (dg m t) (bl (fitL p3 D))).length ≤ dg m t + (bl (fitL p3 D)).length := pl_le _ _
  have hEl := encE_len hMT.gb hMT.g2 (bl_b1 (fitL p3 D))
  have hEl2 : (encE (genL m (ldr m t).1) (bl (fitL p3 D))).length ≤ dg m t := hEl
  have hWl := addP_le8 (upP (dg m t) (bl (fitL p3 D))) (encE (genL m (ldr m t).1) (bl (fitL p3 D)))
  have hwr : restP 3 (addP (upP (dg m t) (bl (fitL p3 D))) (encE (genL m (ldr m t).1) (bl (fitL p3 D)))) (genL m (ldr m t).1) = [] := word_rest hMT.gb hMT.g2 (bl_b1 _)
  have hby1 := bys_len (upP (dg m t) (bl (fitL p3 D)))
  have hby2 := bys_len (addP (upP (dg m t) (bl (fitL p3 D))) (encE (genL m (ldr m t).1) (bl (fitL p3 D))))
  have hpl := encB_len m t (fitL p3 D)
  have hgl := gn_len hMT
  have hbg := bl_gn hMT
  have hg2 := hMT.g2
  have hglt := gn_lt hMT
  refine s_call1 49 rfl rfl rfl rfl (fun w hw => cDeg_spec c m t D q w (hw.has (i := 3) rfl)) (fun _ _ => trivial) ?_
  refine s_call 50 rfl rfl rfl rfl (fun w hw => by have := bshu_spec q39.1 (fitL p3 D).length q39.2 (fitL p3 D) (dg m t) w ((hw.has (i := 1) rfl).of_own) (fitL_lt hp3 D) (by omega) hq39 (by omega); exact this) (fun _ _ => trivial) (fun q50 hq50 => ?_)
  refine s_mv 46 rfl rfl ?_
  refine s_ext 51 rfl rfl rfl ?_
  refine s_ext 52 rfl rfl rfl ?_
  refine s_as 16 rfl rfl ?_
  refine s_as 17 rfl rfl ?_
  refine SX.next ?_
  refine CW.seq ?_
  refine CW.reg [0, 1, 2, 3, 4, 5, 6, 7, 8, 9, 10, 11, 12] rfl ?_   -- 8, more.go:20
  refine s_mv 54 rfl rfl ?_
  refine s_mv 55 rfl rfl ?_
  refine s_call 56 rfl rfl rfl rfl (fun w hw => by have := badd_spec q50.1 (bys (upP (dg m t) (bl (fitL p3 D)))).length q50.2 (bys (upP (dg m t) (bl (fitL p3 D)))) q43.1 (encB m t (fitL p3 D)).length q43.2 (encB m t (fitL p3 D)) w ((hw.has (i := 0) rfl).of_own) (bys_lt hXB) (by omega) hq50 ((hw.has (i := 1) rfl).of_own) (enc_lt hMT (fitL p3 D)) (by omega) hq43; rw [bl_bys hXB, bl_enc hMT] at this; exact this) (fun _ _ => trivial) (fun q56 hq56 => ?_)
  refine s_mv 57 rfl rfl ?_
  refine s_call 58 rfl rfl rfl rfl (fun w hw => by have := cGen_spec c m t D q w hMT (hw.has (i := 5) rfl); exact this) (fun _ _ => trivial) (fun q58 hq58 => ?_)
  refine s_call 59 rfl rfl rfl rfl (fun w hw => by have := bdiv_spec q56.1 (bys (addP (upP (dg m t) (bl (fitL p3 D))) (encE (genL m (ldr m t).1) (bl (fitL p3 D))))).length q56.2 (bys (addP (upP (dg m t) (bl (fitL p3 D))) (encE (genL m (ldr m t).1) (bl (fitL p3 D))))) q58.1 (gnB m t).length q58.2 (gnB m t) w ((hw.has (i := 1) rfl).of_own) (bys_lt hWB) (by omega) hq56 ((hw.has (i := 0) rfl).of_own) hglt (by omega) hq58 (by rw [hbg]; omega) (by omega); rw [bl_bys hWB, hbg, hwr, bys_nil'] at this; exact this) (fun _ _ => trivial) (fun q59 hq59 => ?_)
  refine s_mv 53 rfl rfl ?_
  refine s_ext 60 rfl rfl rfl ?_
  refine s_ext 61 rfl rfl rfl ?_
  refine s_ext 62 rfl rfl rfl ?_
  refine s_as 18 rfl rfl ?_
  refine s_as 19 rfl rfl ?_
  refine s_as 20 rfl rfl ?_
  refine SX.next ?_
  refine CW.seq ?_
  refine CW.reg [0, 1, 2, 3, 4, 5, 6, 7, 8, 9, 10, 11, 12, 13, 14, 15, 16, 17, 18, 19, 20, 21, 22, 23] rfl ?_   -- 9, more.go:21
  refine s_mv 63 rfl rfl ?_
  refine s_eqNN 64 rfl rfl ?_
  refine s_mv 65 rfl rfl ?_
  refine s_mv 66 rfl rfl ?_
  refine s_eqNN 67 rfl rfl ?_
  refine s_pickT 68 rfl rfl rfl ?_
  refine s_mv 69 rfl rfl ?_
  refine s_mv 70 rfl rfl ?_
  refine s_eqNN 71 rfl rfl ?_
  refine s_pickT 72 rfl rfl rfl ?_
  refine s_mv 73 rfl rfl ?_
  refine s_mv 74 rfl rfl ?_
  refine s_call1 75 rfl rfl rfl rfl (v := .int .i64 (-1)) (fun w hw => by have := bdeg_spec q59.2.1 ([] : List Nat).length q59.2.2 [] w ((hw.has (i := 0) rfl).of_own) (fun x h => by cases h) (Nat.zero_le _) hq59.2; exact this) (fun _ _ => trivial) ?_
  refine s_eq 76 rfl rfl rfl (decide_eq_true rfl) ?_
  refine s_pickT 77 rfl rfl rfl ?_
  refine s_mv 78 rfl rfl ?_
  refine s_mv 79 rfl rfl ?_
  refine s_call 80 rfl rfl rfl rfl (fun w hw => by have := cGen_spec c m t D q w hMT (hw.has (i := 8) rfl); exact this) (fun _ _ => trivial) (fun q80 hq80 => ?_)
  refine s_call1 81 rfl rfl rfl rfl (v := .int .i64 ((dg m t : Nat) : Int)) (fun w hw => by have := bdeg_spec q80.1 (gnB m t).length q80.2 (gnB m t) w ((hw.has (i := 0) rfl).of_own) hglt (by omega) hq80; rw [hbg, show (((genL m (ldr m t).1).length : Nat) : Int) - 1 = ((dg m t : Nat) : Int) by unfold dg; omega] at this; exact this) (fun _ _ => trivial) ?_
  refine s_mv 82 rfl rfl ?_
  refine s_call1 83 rfl rfl rfl rfl (fun w hw => cDeg_spec c m t D q w (hw.has (i := 9) rfl)) (fun _ _ => trivial) ?_
  refine s_eq 84 rfl rfl rfl (decide_eq_true rfl) ?_
  refine s_pickT 85 rfl rfl rfl ?_
  refine s_as 8 rfl rfl ?_
  refine SX.next ?_
  refine CW.ret ?_
  exact KN.ret (rs := [.tmp 8]) Tryd.results12 rfl (fun w hw => ⟨rfl, hw.nothing⟩)
end Go.Proofs.YtompcfingkoldaaDoor
end
