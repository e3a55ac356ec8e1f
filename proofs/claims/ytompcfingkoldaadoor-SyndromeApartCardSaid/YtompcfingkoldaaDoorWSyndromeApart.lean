/- The walk of the statement SyndromeApart. Conditions: each theorem tells its own. -/
import Derived.Test.YtompcfingkoldaaDoorGB
import Derived.Test.YtompcfingkoldaaDoorRows
import Derived.LaidLaws
import Derived.WalkKit
import Derived.ProofKit
import Derived.OpenShut
import Derived.Deep.DeepHandedRow
import Derived.Deep.DeepWitnessRowRef
import Derived.Test.YtompcfingkoldaaDoorGG
import Derived.Test.YtompcfingkoldaaDoorGD
section
/- What a row's list of error variables gives a walk: each holds a pointer of its own. No condition. -/
namespace Go.Proofs.YtompcfingkoldaaDoor
open Go.Sx Go.ChangeShapes Go.WideShapes Go.RowKit

theorem laidOutT : laidOutB Tryd.prog = true := by kernel_rfl
theorem errStar : "*" ++ "errors.errorString" = "*errors.errorString" := by decide
theorem errRow (u : TypeId) (h : Tryd.prog.typeName? 3 u = some "*errors.errorString") : u = 262 :=
  typeName_ptr_named (nm := "errors.errorString") (by rw [errStar]; kernel_rfl) (by kernel_rfl) (by decide) u (by rw [errStar]; exact h)
theorem errCells : Tryd.prog.cellsOf 279 = 1 := by kernel_rfl
theorem strCells : Tryd.prog.cellsOf 9 = 1 := by kernel_rfl
theorem noKnob : ownKnob Tryd.prog.godebug = none := by kernel_rfl

/-- The pointer that error variable k holds. -/
noncomputable def eOf (W : World) (k : Nat) : Addr := open Classical in if h : ∃ a, W.cell? ⟨k, 0, none⟩ = some (.iface 262 (.pointer (some a))) then Classical.choose h else default

theorem er_of {W : World} {k : Nat} (h : ∃ a, W.cell? ⟨k, 0, none⟩ = some (.iface 262 (.pointer (some a)))) : Er (eOf W) W k := by
  unfold Er errV eOf
  rw [dif_pos h]
  exact Classical.choose_spec h

set_option maxRecDepth 100000 in
theorem er_laid {W : World} : ∀ {l : List (String × DataW Unit)} {ps : List MemPlace}, DataW.LaidVars Tryd.prog W l ps →
    (∀ b off, MemPlace.cell b off ∈ ps → (∃ c t, W.heap[b]? = some (.cells c t (0, 0))) ∧ ∀ u v, W.cell? ⟨b, off, none⟩ = some (.iface u v) → Value.okWide Tryd.prog W .any 0 u v) →
    ∀ n d, (n, d) ∈ l → ∀ text k, d = .iface "*errors.errorString" (.ptr (.agg [.lit (.string text)])) → Tryd.prog.globalNamed n = some k → (Tryd.prog.globals[k]?).map (·.type) = some 34 → Er (eOf W) W k
  | [], _, _, _, _, _, h, _, _, _, _, _ => by cases h
  | (n0, d0) :: r, ps, hl, hrows, n, d, hm, text, k, hd, hk, ht => by
    obtain ⟨g, t, cs, fuel, p, q, hg, htg, hv, htr, hr, hps⟩ := hl
    rcases List.mem_cons.1 hm with he | hm
    · simp only [Prod.mk.injEq] at he
      obtain ⟨rfl, rfl⟩ := he
      subst hd
      obtain rfl := Option.some.inj (hk.symm.trans hg)
      obtain rfl := Option.some.inj (ht.symm.trans htg)
      obtain ⟨l0⟩ := cs
      have ok0 : ∀ u v, l0 = [.iface u v] → Value.okWide Tryd.prog W .any 0 u v := fun u v e => by
        subst e
        exact (hrows k 0 (by rw [hps]; simp [MemPlace.row])).2 u v (by simpa using World.var?_cell hg hv 0)
      obtain ⟨a, s, rfl, _⟩ := errorString_of_trod Tryd.underlying34 errRow Tryd.underlying262 Tryd.underlying279 rfl rfl Tryd.underlying9 errCells strCells htr ok0
      exact er_of ⟨a, by simpa using World.var?_cell hg hv 0⟩
    · exact er_laid hr (fun b off hb => hrows b off (by rw [hps]; exact List.mem_append_right _ hb)) n d hm text k hd hk ht

theorem er_met {W : World} {l : List (String × DataW Unit)} (h : laidMet Tryd.prog l W) (n : String) (d : DataW Unit) (hm : (n, d) ∈ l) (text : List UInt8) (k : Nat) (hd : d = .iface "*errors.errorString" (.ptr (.agg [.lit (.string text)])))
    (hk : Tryd.prog.globalNamed n = some k) (ht : (Tryd.prog.globals[k]?).map (·.type) = some 34) : Er (eOf W) W k :=
  let ⟨_, h1, _, h3⟩ := h
  er_laid h1 h3 n d hm text k hd hk ht

theorem fr_below {w w' : World} (h : Sto w [] w') : Below w.heap.size w w' := h.fr.below
end Go.Proofs.YtompcfingkoldaaDoor
end
section
/- The statement SyndromeApart, walked. Conditions: the errors' variables. -/
namespace Go.Proofs.YtompcfingkoldaaDoor
open Go Go.Sx Go.Fm Nb
set_option maxRecDepth 100000
theorem getD_ofNat (l : List Nat) (i : Nat) : (l.map Int.ofNat).getD i 0 = ((cf l i : Nat) : Int) := by
  unfold cf
  rw [List.getD_eq_getElem?_getD, List.getElem?_map, List.getD_eq_getElem?_getD]
  cases l[i]? <;> rfl
theorem cf_syn {m t : Nat} (P : List Nat) {i : Nat} (h : i < 2 * t) : cf (synL m t P) i = sv m P (i + 1) := cf_tb h
theorem syn_fits {m t : Nat} (h : MT m t) (P : List Nat) : fitsB m ((synL m t P).map Int.ofNat) = true := fits_true (fun i hi => by
  rw [List.length_map, synL_len] at hi
  have hm := h.ok
  unfold fitP
  rw [getD_ofNat, getD_ofNat, cf_syn P hi, cf_syn P (by omega), lo_nat (sv_lt hm _ _), lo_nat (sv_lt hm _ _), sv_sq hm, show 2 * i + 1 + 1 = 2 * (i + 1) by omega])
theorem ints_ext {a b : List Int} (hl : a.length = b.length) (h : ∀ i, i < a.length → a.getD i 0 = b.getD i 0) : a = b := by
  apply List.ext_getElem?
  intro i
  by_cases hi : i < a.length
  · have := h i hi
    rw [List.getD_eq_getElem?_getD, List.getD_eq_getElem?_getD, List.getElem?_eq_getElem hi, List.getElem?_eq_getElem (by omega)] at this
    rw [List.getElem?_eq_getElem hi, List.getElem?_eq_getElem (by omega)]
    simpa using this
  · rw [List.getElem?_eq_none (by omega), List.getElem?_eq_none (by omega)]
theorem syn_add {m t : Nat} (h : MT m t) {P Q R : List Nat} (hs : ∀ i, sv m R i = sv m P i ^^^ sv m Q i) : addL ((synL m t P).map Int.ofNat) ((synL m t Q).map Int.ofNat) = (synL m t R).map Int.ofNat := by
  have hm := h.ok
  refine ints_ext (by rw [addL_len]; simp only [List.length_map, synL_len]; omega) (fun i hi => ?_)
  rw [addL_len] at hi
  simp only [List.length_map, synL_len] at hi
  have e : addL ((synL m t P).map Int.ofNat) ((synL m t Q).map Int.ofNat) = aqL ((synL m t P).map Int.ofNat) ((synL m t Q).map Int.ofNat) ((synL m t Q).map Int.ofNat).length := if_neg (by simp only [List.length_map, synL_len]; omega)
  rw [e, aqL_at _ _ _ (by simp only [List.length_map, synL_len]; omega), if_pos (by simp only [List.length_map, synL_len]; omega), getD_ofNat, getD_ofNat, getD_ofNat, cf_syn _ (by omega), cf_syn _ (by omega), cf_syn _ (by omega), hs]
  exact ibit_xor_nat (pow63 hm (sv_lt hm _ _)) (pow63 hm (sv_lt hm _ _))

theorem syn_inj {m t : Nat} {P Q : List Nat} (h : (synL m t P).map Int.ofNat = (synL m t Q).map Int.ofNat) {i : Nat} (hi : i < 2 * t) : sv m P (i + 1) = sv m Q (i + 1) := by
  have := congrArg (fun l => l.getD i 0) h
  simp only [getD_ofNat] at this
  rw [cf_syn P hi, cf_syn Q hi] at this
  exact Int.ofNat_inj.1 this
theorem map_inj {a b : List Nat} : a.map Int.ofNat = b.map Int.ofNat ↔ a = b := List.map_inj_right (fun _ _ h => Int.ofNat_inj.1 h)
/-- Few unlike places have values of their own. -/
theorem sel_apart {m t : Nat} (h : MT m t) {f g : Nat → Bool} {n : Nat} (hn : n ≤ N m) (hf : (selL f n).length ≤ t) (hg : (selL g n).length ≤ t) : ((synL m t (selL f n)).map Int.ofNat = (synL m t (selL g n)).map Int.ofNat) ↔ ((selL f n).map Int.ofNat = (selL g n).map Int.ofNat) := by
  constructor
  · intro he
    rw [map_inj]
    have hx := selL_xor f g n
    have hz := sel_far (m := m) h.ok (f := fun k => f k != g k) (n := n) (T := 2 * t) hn (by omega) (fun i hi => by rw [sv_xor, syn_inj he hi, Nat.xor_self])
    refine selL_congr (fun k hk => ?_)
    have hm := selL_mem (fun k => f k != g k) (k := k) (n := n)
    rw [hz] at hm
    cases hfk : f k <;> cases hgk : g k <;> simp_all
  · intro he
    rw [map_inj] at he
    rw [he]
theorem syn_clean {m t : Nat} (h : MT m t) (P : List Nat) : cleanB (addL ((synL m t P).map Int.ofNat) ((synL m t P).map Int.ofNat)) = true := by
  rw [syn_add h (R := []) (fun i => by rw [Nat.xor_self]; rfl)]
  exact clean_true (fun i hi => by
    rw [List.length_map, synL_len] at hi
    rw [getD_ofNat, cf_syn [] hi]
    rfl)
theorem sel_add {f : Nat → Bool} {k : Nat} (hk : f k = false) : ∀ {n : Nat}, (selL (fun j => if j = k then true else f j) n).length = (selL f n).length + (if k < n then 1 else 0)
  | 0 => rfl
  | n + 1 => by
    have ih := sel_add hk (n := n)
    have e1 : selL (fun j => if j = k then true else f j) (n + 1) = selL (fun j => if j = k then true else f j) n ++ (if (if n = k then true else f n) then [n] else []) := rfl
    have e2 : selL f (n + 1) = selL f n ++ (if f n then [n] else []) := rfl
    rw [e1, e2, List.length_append, List.length_append, ih]
    by_cases h : n = k
    · subst h
      simp [hk]
    · by_cases h2 : k < n
      · rw [if_neg h, if_pos h2, if_pos (show k < n + 1 by omega)]
        omega
      · rw [if_neg h, if_neg h2, if_neg (show ¬ k < n + 1 by omega)]
        omega
def plc7 (m t D : Nat) (x : Int) : Nat := (x % ((8 * D + dg m t : Nat) : Int)).toNat
theorem plc7_lt {m t D : Nat} (h : 1 ≤ D) (x : Int) : plc7 m t D x < 8 * D + dg m t := by
  have h1 := Int.emod_nonneg x (b := ((8 * D + dg m t : Nat) : Int)) (by omega)
  have h2 := Int.emod_lt_of_pos x (b := ((8 * D + dg m t : Nat) : Int)) (by omega)
  unfold plc7
  omega
theorem selL_len (f : Nat → Bool) : ∀ n, (selL f n).length ≤ n
  | 0 => Nat.le_refl _
  | n + 1 => by
    have := selL_len f n
    unfold selL
    rw [List.length_append]
    split
    · rw [List.length_singleton]; omega
    · rw [List.length_nil]; omega

theorem places7_spec (A : Option Addr) (n c : Nat) (l : List Int) (m t D : Nat) (g : Option Addr × Nat) (w : World) (hMT : MT m t) (h1D : 1 ≤ D) (hDm : D ≤ 2048) (ha : Has (sl 1 A n (ints .i64 l)) w) (hn : n ≤ 9223372036854775807) : SpecX Tryd.prog 45 [.slice A n c, .agg (refC m t D g)] w (X := (Nat → Bool) × Option Addr × Nat) (fun z => .slice z.2.1 (selL z.1 (8 * D + dg m t)).length z.2.2) (fun z => (selL z.1 (8 * D + dg m t)).length ≤ z.2.2 ∧ (selL z.1 (8 * D + dg m t)).length ≤ t) (fun z => [own 3 1 z.2.1 (selL z.1 (8 * D + dg m t)).length z.2.2 (nats .i64 (selL z.1 (8 * D + dg m t)))]) := by
  have hla := ints_len ha
  subst hla
  have hd5 := hMT.d560
  have h40 := hMT.t40
  refine spec_of Tryd.func45 rfl Tryd.ntmps45 rfl ?_
  refine CW.seq ?_
  refine CW.reg [0, 1] rfl ?_   -- 0, law.go:140
  refine s_box 3 rfl rfl (fun _ _ => trivial) (fun b3 => ?_)
  refine s_as 4 rfl rfl ?_
  refine SX.next ?_
  refine CW.seq ?_
  refine CW.reg [0, 1, 2, 3] rfl ?_   -- 1, law.go:141
  refine s_ldW 11 0 rfl rfl rfl ?_
  refine s_call1 12 rfl rfl rfl rfl (fun w hw => rBits_spec m t D g w hMT hDm) (fun _ _ => trivial) ?_
  refine s_make 13 (8 * D + dg m t) rfl rfl rfl rfl rfl (by omega) (fun _ _ => trivial) (fun hs => ?_)
  refine s_as 5 rfl rfl ?_
  refine SX.next ?_
  refine CW.seq ?_
  refine CW.reg [0] rfl ?_   -- 2, law.go:142
  refine s_as 6 rfl rfl ?_
  refine SX.next ?_
  refine CW.seq ?_
  refine CW.seq ?_
  refine CW.reg [0] rfl ?_   -- 3, law.go:143
  refine s_as 7 rfl rfl ?_
  refine SX.next ?_
  refine CW.block ?_
  refine CW.loop (G := Nat × Nat × (Nat → Bool)) (fun y => [(0, .slice A l.length c), (3, .pointer (some ⟨b3, 0, none⟩)), (5, .slice (some ⟨hs, 0, none⟩) (8 * D + dg m t) (8 * D + dg m t)), (6, .int .i64 (y.2.1 : Nat)), (7, .int .i64 (y.1 : Nat))]) (fun y => Sto w [blk hs 4 (btab (8 * D + dg m t) y.2.2), blk b3 27 (refC m t D g)]) (fun y => y.1 ≤ l.length ∧ y.2.1 ≤ t ∧ (selL y.2.2 (8 * D + dg m t)).length = y.2.1) (fun y => l.length - y.1) (0, 0, fun _ => false) ⟨rfl, rfl, rfl, rfl, rfl, trivial⟩ (fun _ hw => by rw [← btab_zero]; exact hw) ⟨Nat.zero_le _, Nat.zero_le _, by simp only; rw [selL_none (fun _ _ => rfl)]; rfl⟩ ?_
  rintro ⟨i, nn, f⟩ ⟨hi, hnn, hfl⟩
  simp only at hi hnn hfl
  dsimp only
  refine CW.seq ?_
  refine CW.seq ?_
  refine CW.reg [0, 1, 2, 3, 4, 5, 6, 7, 8, 9] rfl ?_   -- 4, law.go:143
  refine s_mv 14 rfl rfl ?_
  refine s_mv 15 rfl rfl ?_
  refine s_len 16 rfl rfl ?_
  refine s_lt 17 rfl rfl rfl rfl ?_
  refine s_mv 18 rfl rfl ?_
  refine SX.bool 18 rfl (fun hb => ?_) (fun hb => ?_)
  · skip
    replace hb := of_decide_eq_true hb
    have hpk := plc7_lt (m := m) (t := t) h1D (l.getD i 0)
    refine s_mv 19 rfl rfl ?_
    refine s_fa 20 rfl rfl ?_
    refine s_ldB 21 1 rfl rfl rfl (v := .int .i64 (t : Nat)) rfl ?_
    refine s_lt 22 rfl rfl rfl rfl ?_
    refine s_pickT 23 rfl rfl rfl ?_
    refine SX.next ?_
    refine CW.test rfl (fun hc => ?_) (fun hc => ?_)
    · skip
      refine CW.skip ?_
      refine KN.code ?_
      refine CW.seq ?_
      refine CW.block ?_
      refine CW.seq ?_
      refine CW.regD (.st true 0 (.st true 1 (.st true 2 (.st true 3 (.st true 4 (.st true 7 (.st true 10 (.st false 5 (.st true 6 (.st false 8 (.st true 9 (.st false 11 (.st true 12 (.st true 13 .done)))))))))))))) (Sto w [blk hs 4 (btab (8 * D + dg m t) f), blk b3 27 (refC m t D g)]) mixed (by kernel_rfl) (fun _ h => h.drew) (fun _ hw => hw) ?_
      refine s_mv 26 rfl rfl ?_
      refine s_mv 27 rfl rfl ?_
      refine s_iaV 28 i (fun w hw => hw.old ha) rfl rfl rfl rfl (by omega) ?_
      refine s_ldVS 29 (fun w hw => hw.old ha) rfl rfl (by rw [Nat.mul_one]; exact intsAt (by omega)) (by omega) ?_
      refine s_ldRS 30 (cs := (refC m t D g).toList) rfl rfl rfl (fun _ hw => hw.blkRow (i := 1) rfl) ?_
      refine s_ldRS 33 (cs := (refC m t D g).toList) rfl rfl rfl (fun _ hw => hw.blkRow (i := 1) rfl) ?_
      refine s_ldRS 36 (cs := (refC m t D g).toList) rfl rfl rfl (fun _ hw => hw.blkRow (i := 1) rfl) ?_
      refine s_call1 31 rfl rfl rfl rfl (fun w hw => rBits_spec m t D g w hMT hDm) (fun _ hw => hw) ?_
      refine s_rem 32 rfl rfl rfl (by omega) rfl ?_
      refine s_call1 34 rfl rfl rfl rfl (fun w hw => rBits_spec m t D g w hMT hDm) (fun _ hw => hw) ?_
      refine s_add 35 rfl rfl rfl (r := (l.getD i 0).tmod ((8 * D + dg m t : Nat) : Int) + ((8 * D + dg m t : Nat) : Int)) (w64 (by have := tmod_lt2 (k := ((8 * D + dg m t : Nat) : Int)) (by omega) (l.getD i 0); omega)) ?_
      refine s_call1 37 rfl rfl rfl rfl (fun w hw => rBits_spec m t D g w hMT hDm) (fun _ hw => hw) ?_
      refine s_rem 38 rfl rfl rfl (by omega) (r := (((plc7 m t D (l.getD i 0)) : Nat) : Int)) (mkm_val (by omega) _) ?_
      refine s_as 8 rfl rfl ?_
      refine SX.next ?_
      refine CW.seq ?_
      refine CW.reg [0, 1, 2, 3, 4] rfl ?_   -- 7, law.go:145
      refine s_mv 39 rfl rfl ?_
      refine s_mv 40 rfl rfl ?_
      refine s_ia0 41 (plc7 m t D (l.getD i 0)) rfl rfl rfl rfl hpk ?_
      refine s_ldB 42 0 rfl rfl rfl (btab_at hpk) ?_
      refine s_not 43 rfl rfl ?_
      refine SX.next ?_
      refine CW.cond rfl (fun hc3 => ?_) (fun hc3 => ?_)
      · skip
        have hfk : f (plc7 m t D (l.getD i 0)) = false := by simpa using hc3
        have hsa := sel_add hfk (n := (8 * D + dg m t))
        rw [if_pos hpk] at hsa
        refine CW.seq ?_
        refine CW.reg [0, 1, 2, 3] rfl ?_   -- 8, law.go:146
        refine s_mv 44 rfl rfl ?_
        refine s_mv 45 rfl rfl ?_
        refine s_ia0 46 (plc7 m t D (l.getD i 0)) rfl rfl rfl rfl hpk ?_
        refine s_stB 0 rfl rfl rfl rfl rfl (by rw [btab_size]; exact hpk) (fun _ _ => trivial) ?_
        refine SX.next ?_
        refine CW.reg [0, 1, 2] rfl ?_   -- 9, law.go:147
        refine s_mv 47 rfl rfl ?_
        refine s_add 48 rfl rfl rfl (r := ((nn + 1 : Nat) : Int)) (w64 (by omega)) ?_
        refine s_as 6 rfl rfl ?_
        refine SX.end_ ?_
        refine KN.blk ?_
        refine KN.code ?_
        refine CW.reg [0, 1, 2] rfl ?_   -- 5, law.go:143
        refine s_mv 24 rfl rfl ?_
        refine s_add 25 rfl rfl rfl (r := ((i + 1 : Nat) : Int)) (w64 (by omega)) ?_
        refine s_as 7 rfl rfl ?_
        refine SX.end_ ?_
        exact KN.back (i + 1, nn + 1, fun j => if j = (plc7 m t D (l.getD i 0)) then true else f j) ⟨rfl, rfl, rfl, rfl, rfl, trivial⟩ (fun _ hw => by simp only; rw [← btab_set]; exact hw) ⟨by simp only; omega, by simp only; omega, by simp only; omega⟩ (by simp only; omega)
      · skip
        refine CW.skip ?_
        refine KN.blk ?_
        refine KN.code ?_
        refine CW.reg [0, 1, 2] rfl ?_   -- 5, law.go:143
        refine s_mv 24 rfl rfl ?_
        refine s_add 25 rfl rfl rfl (r := ((i + 1 : Nat) : Int)) (w64 (by omega)) ?_
        refine s_as 7 rfl rfl ?_
        refine SX.end_ ?_
        exact KN.back (i + 1, nn, f) ⟨rfl, rfl, rfl, rfl, rfl, trivial⟩ (fun _ hw => hw) ⟨by simp only; omega, hnn, hfl⟩ (by simp only; omega)
    · skip
      refine CW.exit rfl ?_
      refine KN.code ?_
      refine CW.seq ?_
      refine CW.reg [0] rfl ?_   -- 10, law.go:150
      refine s_as 9 rfl rfl ?_
      refine SX.next ?_
      refine CW.seq ?_
      refine CW.seq ?_
      refine CW.reg [0] rfl ?_   -- 11, law.go:151
      refine s_as 10 rfl rfl ?_
      refine SX.next ?_
      refine CW.block ?_
      refine CW.loop (G := Nat × Option Addr × Nat) (fun y => [(5, .slice (some ⟨hs, 0, none⟩) (8 * D + dg m t) (8 * D + dg m t)), (9, .slice y.2.1 (selL f y.1).length y.2.2), (10, .int .i64 (y.1 : Nat))]) (fun y => Sto w [own 3 1 y.2.1 (selL f y.1).length y.2.2 (nats .i64 (selL f y.1)), blk hs 4 (btab (8 * D + dg m t) f), blk b3 27 (refC m t D g)]) (fun y => y.1 ≤ (8 * D + dg m t) ∧ (selL f y.1).length ≤ y.2.2) (fun y => (8 * D + dg m t) - y.1) (0, none, 0) ⟨rfl, rfl, rfl, trivial⟩ (fun _ hw => hw.begin_ 3 1) ⟨Nat.zero_le _, Nat.le_refl _⟩ ?_
      rintro ⟨k, ya, yc⟩ ⟨hk, hyc⟩
      simp only at hk hyc
      dsimp only
      have hsl := selL_len f k
      refine CW.seq ?_
      refine CW.seq ?_
      refine CW.reg [0, 1, 2, 3] rfl ?_   -- 12, law.go:151
      refine s_mv 49 rfl rfl ?_
      refine s_mv 50 rfl rfl ?_
      refine s_len 51 rfl rfl ?_
      refine s_lt 52 rfl rfl rfl rfl ?_
      refine SX.next ?_
      refine CW.test rfl (fun hc => ?_) (fun hc => ?_)
      · skip
        refine CW.skip ?_
        refine KN.code ?_
        refine CW.seq ?_
        refine CW.block ?_
        refine CW.seq ?_
        refine CW.reg [0, 1, 2, 3] rfl ?_   -- 14, law.go:152
        refine s_mv 55 rfl rfl ?_
        refine s_mv 56 rfl rfl ?_
        refine s_ia0 57 k rfl rfl rfl rfl (by omega) ?_
        refine s_ldB 58 1 rfl rfl rfl (btab_at (by omega)) ?_
        refine SX.next ?_
        refine CW.cond rfl (fun hc4 => ?_) (fun hc4 => ?_)
        · skip
          have hnx : selL f (k + 1) = selL f k ++ [k] := by show selL f k ++ _ = _; rw [if_pos hc4]
          refine CW.reg [0, 1, 2, 3, 4] rfl ?_   -- 15, law.go:153
          refine s_mv 59 rfl rfl ?_
          refine s_mv 60 rfl rfl ?_
          refine s_bsl 61 rfl rfl (cells := #[.int .i64 ((k : Nat) : Int)]) (by kernel_rfl) rfl (fun _ _ => trivial) (fun gb => ?_)
          refine s_app 62 1 rfl rfl rfl rfl (ys := [.int .i64 ((k : Nat) : Int)]) (fun w hw => Has.cong ((hw.has (i := 0) rfl).blk_sl (m := 1) rfl) rfl) rfl rfl (by omega) (by unfold maxLen; omega) (by omega) (fun _ _ _ _ => trivial) (fun A2 c2 hc2 => ?_)
          refine s_as 9 rfl rfl ?_
          refine SX.end_ ?_
          refine KN.blk ?_
          refine KN.code ?_
          refine CW.reg [0, 1, 2] rfl ?_   -- 13, law.go:151
          refine s_mv 53 rfl rfl ?_
          refine s_add 54 rfl rfl rfl (r := ((k + 1 : Nat) : Int)) (w64 (by omega)) ?_
          refine s_as 10 rfl rfl ?_
          refine SX.end_ ?_
          exact KN.back (k + 1, A2, c2) ⟨rfl, by simp only [hnx, List.length_append, List.length_singleton]; rfl, rfl, trivial⟩ (fun _ hw => by
            simp only [hnx, List.length_append, List.length_singleton]
            rw [← nats_snoc]
            exact hw.pick [1, 1, 1] rfl) ⟨by simp only; omega, by simp only [hnx, List.length_append, List.length_singleton]; exact hc2⟩ (by simp only; omega)
        · skip
          have hnx : selL f (k + 1) = selL f k := by show selL f k ++ _ = _; rw [if_neg (by rw [hc4]; decide), List.append_nil]
          refine CW.skip ?_
          refine KN.blk ?_
          refine KN.code ?_
          refine CW.reg [0, 1, 2] rfl ?_   -- 13, law.go:151
          refine s_mv 53 rfl rfl ?_
          refine s_add 54 rfl rfl rfl (r := ((k + 1 : Nat) : Int)) (w64 (by omega)) ?_
          refine s_as 10 rfl rfl ?_
          refine SX.end_ ?_
          exact KN.back (k + 1, ya, yc) ⟨rfl, by simp only [hnx]; rfl, rfl, trivial⟩ (fun _ hw => by simp only [hnx]; exact hw) ⟨by simp only; omega, by simp only [hnx]; exact hyc⟩ (by simp only; omega)
      · skip
        obtain rfl : k = (8 * D + dg m t) := by omega
        refine CW.exit rfl ?_
        refine KN.code ?_
        refine CW.seq ?_
        refine CW.reg [0, 1] rfl ?_   -- 16, law.go:156
        refine s_mv 63 rfl rfl ?_
        refine s_as 4 rfl rfl ?_
        refine SX.next ?_
        refine CW.ret ?_
        exact KN.ret (rs := [.tmp 4]) Tryd.results45 rfl (fun w hw => ⟨(f, ya, yc), rfl, ⟨hyc, by simp only; omega⟩, hw.pick [0] rfl⟩)
  · skip
    replace hb := of_decide_eq_false hb
    refine SX.skip rfl ?_
    refine SX.skip rfl ?_
    refine SX.skip rfl ?_
    refine SX.skip rfl ?_
    refine s_pickF 23 rfl rfl rfl ?_
    refine SX.next ?_
    refine CW.condF rfl ?_
    refine CW.exit rfl ?_
    refine KN.code ?_
    refine CW.seq ?_
    refine CW.reg [0] rfl ?_   -- 10, law.go:150
    refine s_as 9 rfl rfl ?_
    refine SX.next ?_
    refine CW.seq ?_
    refine CW.seq ?_
    refine CW.reg [0] rfl ?_   -- 11, law.go:151
    refine s_as 10 rfl rfl ?_
    refine SX.next ?_
    refine CW.block ?_
    refine CW.loop (G := Nat × Option Addr × Nat) (fun y => [(5, .slice (some ⟨hs, 0, none⟩) (8 * D + dg m t) (8 * D + dg m t)), (9, .slice y.2.1 (selL f y.1).length y.2.2), (10, .int .i64 (y.1 : Nat))]) (fun y => Sto w [own 3 1 y.2.1 (selL f y.1).length y.2.2 (nats .i64 (selL f y.1)), blk hs 4 (btab (8 * D + dg m t) f), blk b3 27 (refC m t D g)]) (fun y => y.1 ≤ (8 * D + dg m t) ∧ (selL f y.1).length ≤ y.2.2) (fun y => (8 * D + dg m t) - y.1) (0, none, 0) ⟨rfl, rfl, rfl, trivial⟩ (fun _ hw => hw.begin_ 3 1) ⟨Nat.zero_le _, Nat.le_refl _⟩ ?_
    rintro ⟨k, ya, yc⟩ ⟨hk, hyc⟩
    simp only at hk hyc
    dsimp only
    have hsl := selL_len f k
    refine CW.seq ?_
    refine CW.seq ?_
    refine CW.reg [0, 1, 2, 3] rfl ?_   -- 12, law.go:151
    refine s_mv 49 rfl rfl ?_
    refine s_mv 50 rfl rfl ?_
    refine s_len 51 rfl rfl ?_
    refine s_lt 52 rfl rfl rfl rfl ?_
    refine SX.next ?_
    refine CW.test rfl (fun hc => ?_) (fun hc => ?_)
    · skip
      refine CW.skip ?_
      refine KN.code ?_
      refine CW.seq ?_
      refine CW.block ?_
      refine CW.seq ?_
      refine CW.reg [0, 1, 2, 3] rfl ?_   -- 14, law.go:152
      refine s_mv 55 rfl rfl ?_
      refine s_mv 56 rfl rfl ?_
      refine s_ia0 57 k rfl rfl rfl rfl (by omega) ?_
      refine s_ldB 58 1 rfl rfl rfl (btab_at (by omega)) ?_
      refine SX.next ?_
      refine CW.cond rfl (fun hc4 => ?_) (fun hc4 => ?_)
      · skip
        have hnx : selL f (k + 1) = selL f k ++ [k] := by show selL f k ++ _ = _; rw [if_pos hc4]
        refine CW.reg [0, 1, 2, 3, 4] rfl ?_   -- 15, law.go:153
        refine s_mv 59 rfl rfl ?_
        refine s_mv 60 rfl rfl ?_
        refine s_bsl 61 rfl rfl (cells := #[.int .i64 ((k : Nat) : Int)]) (by kernel_rfl) rfl (fun _ _ => trivial) (fun gb => ?_)
        refine s_app 62 1 rfl rfl rfl rfl (ys := [.int .i64 ((k : Nat) : Int)]) (fun w hw => Has.cong ((hw.has (i := 0) rfl).blk_sl (m := 1) rfl) rfl) rfl rfl (by omega) (by unfold maxLen; omega) (by omega) (fun _ _ _ _ => trivial) (fun A2 c2 hc2 => ?_)
        refine s_as 9 rfl rfl ?_
        refine SX.end_ ?_
        refine KN.blk ?_
        refine KN.code ?_
        refine CW.reg [0, 1, 2] rfl ?_   -- 13, law.go:151
        refine s_mv 53 rfl rfl ?_
        refine s_add 54 rfl rfl rfl (r := ((k + 1 : Nat) : Int)) (w64 (by omega)) ?_
        refine s_as 10 rfl rfl ?_
        refine SX.end_ ?_
        exact KN.back (k + 1, A2, c2) ⟨rfl, by simp only [hnx, List.length_append, List.length_singleton]; rfl, rfl, trivial⟩ (fun _ hw => by
          simp only [hnx, List.length_append, List.length_singleton]
          rw [← nats_snoc]
          exact hw.pick [1, 1, 1] rfl) ⟨by simp only; omega, by simp only [hnx, List.length_append, List.length_singleton]; exact hc2⟩ (by simp only; omega)
      · skip
        have hnx : selL f (k + 1) = selL f k := by show selL f k ++ _ = _; rw [if_neg (by rw [hc4]; decide), List.append_nil]
        refine CW.skip ?_
        refine KN.blk ?_
        refine KN.code ?_
        refine CW.reg [0, 1, 2] rfl ?_   -- 13, law.go:151
        refine s_mv 53 rfl rfl ?_
        refine s_add 54 rfl rfl rfl (r := ((k + 1 : Nat) : Int)) (w64 (by omega)) ?_
        refine s_as 10 rfl rfl ?_
        refine SX.end_ ?_
        exact KN.back (k + 1, ya, yc) ⟨rfl, by simp only [hnx]; rfl, rfl, trivial⟩ (fun _ hw => by simp only [hnx]; exact hw) ⟨by simp only; omega, by simp only [hnx]; exact hyc⟩ (by simp only; omega)
    · skip
      obtain rfl : k = (8 * D + dg m t) := by omega
      refine CW.exit rfl ?_
      refine KN.code ?_
      refine CW.seq ?_
      refine CW.reg [0, 1] rfl ?_   -- 16, law.go:156
      refine s_mv 63 rfl rfl ?_
      refine s_as 4 rfl rfl ?_
      refine SX.next ?_
      refine CW.ret ?_
      exact KN.ret (rs := [.tmp 4]) Tryd.results45 rfl (fun w hw => ⟨(f, ya, yc), rfl, ⟨hyc, by simp only; omega⟩, hw.pick [0] rfl⟩)

set_option maxHeartbeats 1600000 in

theorem walk_SyndromeApart (a0 a1 a2 : Int) (A3 : Option Addr) (n3 c3 : Nat) (l3 : List Int) (A4 : Option Addr) (n4 c4 : Nat) (l4 : List Int) (e : Nat → Addr) (w : World) (hs3 : Has (sl 1 A3 n3 (ints .i64 l3)) w) (hn3 : n3 ≤ 9223372036854775807) (hs4 : Has (sl 1 A4 n4 (ints .i64 l4)) w) (hn4 : n4 ≤ 9223372036854775807) (he : Er e w 1) : Spec1 Tryd.prog 6 [.int .i64 a0, .int .i64 a1, .int .i64 a2, .slice A3 n3 c3, .slice A4 n4 c4] w (.bool true) := by
  have hla3 := ints_len hs3
  subst hla3
  have hla4 := ints_len hs4
  subst hla4
  refine spec_of Tryd.func6 rfl Tryd.ntmps6 rfl ?_
  refine CW.seq ?_
  refine CW.reg [0] rfl ?_   -- 0, law.go:126
  refine s_as 10 rfl rfl ?_
  refine SX.next ?_
  refine CW.seq ?_
  refine CW.reg [0, 1] rfl ?_   -- 1, law.go:127
  refine s_call1 21 rfl rfl rfl rfl (fun w hw => first7_spec e w (hw.er he)) (fun _ _ => trivial) ?_
  refine s_as 11 rfl rfl ?_
  refine SX.next ?_
  refine CW.seq ?_
  refine CW.reg [0, 1, 2, 3, 4, 5, 6, 7, 8, 9, 10, 11] rfl ?_   -- 2, law.go:128
  refine s_mv 23 rfl rfl ?_
  refine s_mv 24 rfl rfl ?_
  refine s_mv 25 rfl rfl ?_
  refine s_call 26 rfl rfl rfl rfl (fun w hw => shalelaw7_made a0 a1 a2 w) (fun _ _ => trivial) (fun z hz => ?_)
  obtain ⟨c, q, m, t, D, g⟩ := z
  obtain ⟨hC, hq, hg, hmM, htT, hdB, hm6⟩ := hz
  simp only at hC hq hg hmM htT hdB hm6
  obtain ⟨hMT, h1D, hDm, hfit⟩ := hC
  have hm := hMT.ok
  have hd1 := hMT.d1
  have hd5 := hMT.d560
  have hp1 := hMT.p1
  have hp7 := hMT.p70
  refine SX.pre (C' := Sto w [codeA c m t D q, genOf m t g]) (fun _ hw => hw) ?_
  refine s_mv 22 rfl rfl ?_
  refine s_ext 27 rfl rfl rfl ?_
  refine s_ext 28 rfl rfl rfl ?_
  refine s_ext 29 rfl rfl rfl ?_
  refine s_alloc 13 rfl (fun _ _ => trivial) (fun b13 => ?_)
  refine s_as 12 rfl rfl ?_
  refine s_stAll 0 rfl rfl (by kernel_rfl) rfl rfl rfl rfl (fun _ _ => trivial) ?_
  refine s_as 14 rfl rfl ?_
  refine SX.next ?_
  refine CW.seq ?_
  refine CW.seq ?_
  refine CW.reg [0, 1, 2, 3, 4, 5] rfl ?_   -- 3, law.go:129
  refine s_mv 30 rfl rfl ?_
  refine s_not 31 rfl rfl ?_
  refine s_mv 32 rfl rfl ?_
  refine s_mv 33 rfl rfl ?_
  refine s_not 34 rfl rfl ?_
  refine s_pickF 35 rfl rfl rfl ?_
  refine SX.next ?_
  refine CW.condF rfl ?_
  refine CW.skip ?_
  refine KN.code ?_
  refine CW.seq ?_
  refine CW.reg [0, 1, 2, 3] rfl ?_   -- 5, law.go:132
  refine s_mv 36 rfl rfl ?_
  refine s_ldW 37 0 rfl rfl rfl ?_
  refine s_call 38 rfl rfl rfl rfl (fun w hw => places7_spec A3 l3.length c3 l3 m t D g w hMT h1D hDm (hw.old hs3) (by omega)) (fun _ _ => trivial) (fun z3 hz3 => ?_)
  refine s_as 15 rfl rfl ?_
  refine SX.next ?_
  refine CW.seq ?_
  refine CW.reg [0, 1, 2, 3] rfl ?_   -- 6, law.go:133
  refine s_mv 39 rfl rfl ?_
  refine s_ldW 40 1 rfl rfl rfl ?_
  refine s_call 41 rfl rfl rfl rfl (fun w hw => places7_spec A4 l4.length c4 l4 m t D g w hMT h1D hDm (hw.old hs4) (by omega)) (fun _ _ => trivial) (fun z4 hz4 => ?_)
  refine s_as 16 rfl rfl ?_
  refine SX.next ?_
  refine CW.seq ?_
  refine CW.reg [0, 1, 2, 3, 4, 5, 6, 7] rfl ?_   -- 7, law.go:134
  refine s_mv 43 rfl rfl ?_
  refine s_mv 44 rfl rfl ?_
  refine s_call 45 rfl rfl rfl rfl (fun w hw => bits7_ok c m t D q z3.2.1 z3.2.2 (selL z3.1 (8 * D + dg m t)) w hMT hDm (hw.has (i := 3) rfl) ((hw.has (i := 1) rfl).of_own) (by have := selL_len z3.1 (8 * D + dg m t); omega) (fun x hx => ((selL_mem z3.1).1 hx).1)) (fun _ _ => trivial) (fun q45 hq45 => ?_)
  refine s_mv 42 rfl rfl ?_
  refine s_ext 46 rfl rfl rfl ?_
  refine s_ext 47 rfl rfl rfl ?_
  refine s_as 17 rfl rfl ?_
  refine s_as 18 rfl rfl ?_
  refine SX.next ?_
  refine CW.seq ?_
  refine CW.reg [0, 1, 2, 3, 4, 5, 6, 7] rfl ?_   -- 8, law.go:135
  refine s_mv 49 rfl rfl ?_
  refine s_mv 50 rfl rfl ?_
  refine s_call 51 rfl rfl rfl rfl (fun w hw => bits7_ok c m t D q z4.2.1 z4.2.2 (selL z4.1 (8 * D + dg m t)) w hMT hDm (hw.has (i := 4) rfl) ((hw.has (i := 1) rfl).of_own) (by have := selL_len z4.1 (8 * D + dg m t); omega) (fun x hx => ((selL_mem z4.1).1 hx).1)) (fun _ _ => trivial) (fun q51 hq51 => ?_)
  refine s_mv 48 rfl rfl ?_
  refine s_ext 52 rfl rfl rfl ?_
  refine s_ext 53 rfl rfl rfl ?_
  refine s_as 19 rfl rfl ?_
  refine s_as 20 rfl rfl ?_
  refine SX.next ?_
  refine CW.seq ?_
  refine CW.reg [0, 1, 2, 3, 4, 5, 6, 7, 8, 9, 10, 11, 12, 13, 14, 15, 16, 17, 18, 19, 20, 21] rfl ?_   -- 9, law.go:136
  refine s_mv 54 rfl rfl ?_
  refine s_eqNN 55 rfl rfl ?_
  refine s_mv 56 rfl rfl ?_
  refine s_mv 57 rfl rfl ?_
  refine s_eqNN 58 rfl rfl ?_
  refine s_pickT 59 rfl rfl rfl ?_
  refine s_mv 60 rfl rfl ?_
  refine s_mv 61 rfl rfl ?_
  refine s_mv 62 rfl rfl ?_
  have hsa := sel_apart hMT hfit hz3.2 hz4.2
  have hsl1 := synL_len m t (selL z3.1 (8 * D + dg m t))
  have hsl2 := synL_len m t (selL z4.1 (8 * D + dg m t))
  have h40 := hMT.t40
  have hscl := syn_clean hMT (selL z3.1 (8 * D + dg m t))
  have hadl := addL_len ((synL m t (selL z3.1 (8 * D + dg m t))).map Int.ofNat) ((synL m t (selL z3.1 (8 * D + dg m t))).map Int.ofNat)
  rw [List.length_map] at hadl
  refine s_call1 63 rfl rfl rfl rfl (fun w hw => sameInts_spec q45.1 q51.1 (synL m t (selL z3.1 (8 * D + dg m t))).length q45.2 (synL m t (selL z4.1 (8 * D + dg m t))).length q51.2 ((synL m t (selL z3.1 (8 * D + dg m t))).map Int.ofNat) ((synL m t (selL z4.1 (8 * D + dg m t))).map Int.ofNat) w (by rw [← nats_ints]; exact (hw.has (i := 1) rfl).of_own) (by rw [← nats_ints]; exact (hw.has (i := 0) rfl).of_own) (by have := hz3.2; omega)) (fun _ _ => trivial) ?_
  refine s_mv 64 rfl rfl ?_
  refine s_mv 65 rfl rfl ?_
  refine s_call1 66 rfl rfl rfl rfl (fun w hw => sameInts_spec z3.2.1 z4.2.1 (selL z3.1 (8 * D + dg m t)).length z3.2.2 (selL z4.1 (8 * D + dg m t)).length z4.2.2 ((selL z3.1 (8 * D + dg m t)).map Int.ofNat) ((selL z4.1 (8 * D + dg m t)).map Int.ofNat) w (by rw [← nats_ints]; exact (hw.has (i := 3) rfl).of_own) (by rw [← nats_ints]; exact (hw.has (i := 2) rfl).of_own) (by have := hz3.2; omega)) (fun _ _ => trivial) ?_
  refine s_eqB 67 rfl rfl rfl (r := true) (by rw [decide_eq_decide.2 hsa]; exact beq_self_eq_true _) ?_
  refine s_pickT 68 rfl rfl rfl ?_
  refine s_mv 69 rfl rfl ?_
  refine s_mv 70 rfl rfl ?_
  refine s_mv 71 rfl rfl ?_
  refine s_call 72 rfl rfl rfl rfl (fun w hw => add7_spec q45.1 (synL m t (selL z3.1 (8 * D + dg m t))).length q45.2 ((synL m t (selL z3.1 (8 * D + dg m t))).map Int.ofNat) q45.1 (synL m t (selL z3.1 (8 * D + dg m t))).length q45.2 ((synL m t (selL z3.1 (8 * D + dg m t))).map Int.ofNat) w (by rw [← nats_ints]; exact (hw.has (i := 1) rfl).of_own) (by omega) (by rw [← nats_ints]; exact (hw.has (i := 1) rfl).of_own) (by omega)) (fun _ _ => trivial) (fun q72 hq72 => ?_)
  refine s_call1 73 rfl rfl rfl rfl (v := .bool true) (fun w hw => by have := clean7_spec q72.1 (addL ((synL m t (selL z3.1 (8 * D + dg m t))).map Int.ofNat) ((synL m t (selL z3.1 (8 * D + dg m t))).map Int.ofNat)).length q72.2 (addL ((synL m t (selL z3.1 (8 * D + dg m t))).map Int.ofNat) ((synL m t (selL z3.1 (8 * D + dg m t))).map Int.ofNat)) w ((hw.has (i := 0) rfl).of_own) (by rw [hadl]; omega); rw [hscl] at this; exact this) (fun _ _ => trivial) ?_
  refine s_pickT 74 rfl rfl rfl ?_
  refine s_as 10 rfl rfl ?_
  refine SX.next ?_
  refine CW.ret ?_
  exact KN.ret (rs := [.tmp 10]) Tryd.results6 rfl (fun w hw => ⟨rfl, hw.nothing⟩)
end Go.Proofs.YtompcfingkoldaaDoor
end
