/- The walk of the statement SyndromeAdds. Conditions: each theorem tells its own. -/
import Derived.Test.YtompcfingkoldaaDoorGB
import Derived.Test.YtompcfingkoldaaDoorRows
import Derived.LaidLaws
import Derived.WalkKit
import Derived.ProofKit
import Derived.OpenShut
import Derived.Deep.DeepHandedRow
import Derived.Deep.DeepWitnessRowRef
import Derived.Test.YtompcfingkoldaaDoorGG
section
/- What a row's list of error variables gives a walk: each holds a pointer of its own. No condition. -/
namespace Go.Proofs.YtompcfingkoldaaDoor
open Go.Sx Go.ChangeShapes Go.WideShapes Go.RowKit

theorem laidOutT : laidOutB Tryd.prog = true := by kernel_rfl
theorem errStar : "*" ++ "errors.errorString" = "*errors.errorString" := by decide
theorem errRow (u : TypeId) (h : Tryd.prog.typeName? 3 u = some "*errors.errorString") : u = 262 :=
  typeName_ptr_named (nm := "errors.errorString") (by rw [errStar]; kernel_rfl) (by kernel_rfl) (by decide) u (by rw [errStar]; exact h)
theorem errCells : Tryd.prog.cellsOf 279 = 1 := by kernel_rfl
theorem strCells : Tryd.prog.cellsOf 9 = 1 := by kernel_rfl
theorem noKnob : ownKnob Tryd.prog.godebug = none := by kernel_rfl

/-- The pointer that error variable k holds. -/
noncomputable def eOf (W : World) (k : Nat) : Addr := open Classical in if h : ∃ a, W.cell? ⟨k, 0, none⟩ = some (.iface 262 (.pointer (some a))) then Classical.choose h else default

theorem er_of {W : World} {k : Nat} (h : ∃ a, W.cell? ⟨k, 0, none⟩ = some (.iface 262 (.pointer (some a)))) : Er (eOf W) W k := by
  unfold Er errV eOf
  rw [dif_pos h]
  exact Classical.choose_spec h

set_option maxRecDepth 100000 in
theorem er_laid {W : World} : ∀ {l : List (String × DataW Unit)} {ps : List MemPlace}, DataW.LaidVars Tryd.prog W l ps →
    (∀ b off, MemPlace.cell b off ∈ ps → (∃ c t, W.heap[b]? = some (.cells c t (0, 0))) ∧ ∀ u v, W.cell? ⟨b, off, none⟩ = some (.iface u v) → Value.okWide Tryd.prog W .any 0 u v) →
    ∀ n d, (n, d) ∈ l → ∀ text k, d = .iface "*errors.errorString" (.ptr (.agg [.lit (.string text)])) → Tryd.prog.globalNamed n = some k → (Tryd.prog.globals[k]?).map (·.type) = some 34 → Er (eOf W) W k
  | [], _, _, _, _, _, h, _, _, _, _, _ => by cases h
  | (n0, d0) :: r, ps, hl, hrows, n, d, hm, text, k, hd, hk, ht => by
    obtain ⟨g, t, cs, fuel, p, q, hg, htg, hv, htr, hr, hps⟩ := hl
    rcases List.mem_cons.1 hm with he | hm
    · simp only [Prod.mk.injEq] at he
      obtain ⟨rfl, rfl⟩ := he
      subst hd
      obtain rfl := Option.some.inj (hk.symm.trans hg)
      obtain rfl := Option.some.inj (ht.symm.trans htg)
      obtain ⟨l0⟩ := cs
      have ok0 : ∀ u v, l0 = [.iface u v] → Value.okWide Tryd.prog W .any 0 u v := fun u v e => by
        subst e
        exact (hrows k 0 (by rw [hps]; simp [MemPlace.row])).2 u v (by simpa using World.var?_cell hg hv 0)
      obtain ⟨a, s, rfl, _⟩ := errorString_of_trod Tryd.underlying34 errRow Tryd.underlying262 Tryd.underlying279 rfl rfl Tryd.underlying9 errCells strCells htr ok0
      exact er_of ⟨a, by simpa using World.var?_cell hg hv 0⟩
    · exact er_laid hr (fun b off hb => hrows b off (by rw [hps]; exact List.mem_append_right _ hb)) n d hm text k hd hk ht

theorem er_met {W : World} {l : List (String × DataW Unit)} (h : laidMet Tryd.prog l W) (n : String) (d : DataW Unit) (hm : (n, d) ∈ l) (text : List UInt8) (k : Nat) (hd : d = .iface "*errors.errorString" (.ptr (.agg [.lit (.string text)])))
    (hk : Tryd.prog.globalNamed n = some k) (ht : (Tryd.prog.globals[k]?).map (·.type) = some 34) : Er (eOf W) W k :=
  let ⟨_, h1, _, h3⟩ := h
  er_laid h1 h3 n d hm text k hd hk ht

theorem fr_below {w w' : World} (h : Sto w [] w') : Below w.heap.size w w' := h.fr.below
end Go.Proofs.YtompcfingkoldaaDoor
end
section
/- The statement SyndromeAdds, walked. Conditions: the errors' variables. -/
namespace Go.Proofs.YtompcfingkoldaaDoor
open Go Go.Sx Go.Fm Nb
set_option maxRecDepth 100000
theorem getD_ofNat (l : List Nat) (i : Nat) : (l.map Int.ofNat).getD i 0 = ((cf l i : Nat) : Int) := by
  unfold cf
  rw [List.getD_eq_getElem?_getD, List.getElem?_map, List.getD_eq_getElem?_getD]
  cases l[i]? <;> rfl
theorem cf_syn {m t : Nat} (P : List Nat) {i : Nat} (h : i < 2 * t) : cf (synL m t P) i = sv m P (i + 1) := cf_tb h
theorem syn_fits {m t : Nat} (h : MT m t) (P : List Nat) : fitsB m ((synL m t P).map Int.ofNat) = true := fits_true (fun i hi => by
  rw [List.length_map, synL_len] at hi
  have hm := h.ok
  unfold fitP
  rw [getD_ofNat, getD_ofNat, cf_syn P hi, cf_syn P (by omega), lo_nat (sv_lt hm _ _), lo_nat (sv_lt hm _ _), sv_sq hm, show 2 * i + 1 + 1 = 2 * (i + 1) by omega])
theorem ints_ext {a b : List Int} (hl : a.length = b.length) (h : ∀ i, i < a.length → a.getD i 0 = b.getD i 0) : a = b := by
  apply List.ext_getElem?
  intro i
  by_cases hi : i < a.length
  · have := h i hi
    rw [List.getD_eq_getElem?_getD, List.getD_eq_getElem?_getD, List.getElem?_eq_getElem hi, List.getElem?_eq_getElem (by omega)] at this
    rw [List.getElem?_eq_getElem hi, List.getElem?_eq_getElem (by omega)]
    simpa using this
  · rw [List.getElem?_eq_none (by omega), List.getElem?_eq_none (by omega)]
theorem syn_add {m t : Nat} (h : MT m t) {P Q R : List Nat} (hs : ∀ i, sv m R i = sv m P i ^^^ sv m Q i) : addL ((synL m t P).map Int.ofNat) ((synL m t Q).map Int.ofNat) = (synL m t R).map Int.ofNat := by
  have hm := h.ok
  refine ints_ext (by rw [addL_len]; simp only [List.length_map, synL_len]; omega) (fun i hi => ?_)
  rw [addL_len] at hi
  simp only [List.length_map, synL_len] at hi
  have e : addL ((synL m t P).map Int.ofNat) ((synL m t Q).map Int.ofNat) = aqL ((synL m t P).map Int.ofNat) ((synL m t Q).map Int.ofNat) ((synL m t Q).map Int.ofNat).length := if_neg (by simp only [List.length_map, synL_len]; omega)
  rw [e, aqL_at _ _ _ (by simp only [List.length_map, synL_len]; omega), if_pos (by simp only [List.length_map, synL_len]; omega), getD_ofNat, getD_ofNat, getD_ofNat, cf_syn _ (by omega), cf_syn _ (by omega), cf_syn _ (by omega), hs]
  exact ibit_xor_nat (pow63 hm (sv_lt hm _ _)) (pow63 hm (sv_lt hm _ _))
theorem sv_words {m t : Nat} {d e u v : List Nat} (hd : d.length = e.length) (hu : u.length = v.length) (n i : Nat) : sv m (posL m t (xorL d e) (xorL u v) n) i = sv m (posL m t d u n) i ^^^ sv m (posL m t e v n) i := by
  have e1 : posL m t (xorL d e) (xorL u v) n = selL (fun k => wf m t d u k != wf m t e v k) n := selL_congr (fun k _ => wf_xor hd hu k)
  rw [e1, sv_xor]
  rfl

set_option maxHeartbeats 1600000 in

theorem walk_SyndromeAdds (a0 a1 a2 : Int) (A3 : Option Addr) (n3 c3 : Nat) (p3 : List Nat) (A4 : Option Addr) (n4 c4 : Nat) (p4 : List Nat) (A5 : Option Addr) (n5 c5 : Nat) (p5 : List Nat) (A6 : Option Addr) (n6 c6 : Nat) (p6 : List Nat) (e : Nat → Addr) (w : World) (ha3 : Has (sl 1 A3 n3 (nats .u8 p3)) w) (hp3 : ∀ x ∈ p3, x < 256) (hn3 : n3 ≤ 9223372036854775807) (hcp3 : n3 ≤ c3) (ha4 : Has (sl 1 A4 n4 (nats .u8 p4)) w) (hp4 : ∀ x ∈ p4, x < 256) (hn4 : n4 ≤ 9223372036854775807) (hcp4 : n4 ≤ c4) (ha5 : Has (sl 1 A5 n5 (nats .u8 p5)) w) (hp5 : ∀ x ∈ p5, x < 256) (hn5 : n5 ≤ 9223372036854775807) (hcp5 : n5 ≤ c5) (ha6 : Has (sl 1 A6 n6 (nats .u8 p6)) w) (hp6 : ∀ x ∈ p6, x < 256) (hn6 : n6 ≤ 9223372036854775807) (hcp6 : n6 ≤ c6) (he : Er e w 1) : Spec1 Tryd.prog 11 [.int .i64 a0, .int .i64 a1, .int .i64 a2, .slice A3 n3 c3, .slice A4 n4 c4, .slice A5 n5 c5, .slice A6 n6 c6] w (.bool true) := by
  have hla3 := nats_len ha3
  subst hla3
  have hla4 := nats_len ha4
  subst hla4
  have hla5 := nats_len ha5
  subst hla5
  have hla6 := nats_len ha6
  subst hla6
  refine spec_of Tryd.func11 rfl Tryd.ntmps11 rfl ?_
  refine CW.seq ?_
  refine CW.reg [0] rfl ?_   -- 0, more.go:9
  refine s_as 14 rfl rfl ?_
  refine SX.next ?_
  refine CW.seq ?_
  refine CW.reg [0, 1] rfl ?_   -- 1, more.go:10
  refine s_call1 33 rfl rfl rfl rfl (fun w hw => first7_spec e w (hw.er he)) (fun _ _ => trivial) ?_
  refine s_as 15 rfl rfl ?_
  refine SX.next ?_
  refine CW.seq ?_
  refine CW.reg [0, 1, 2, 3, 4, 5, 6, 7, 8, 9, 10, 11] rfl ?_   -- 2, more.go:11
  refine s_mv 35 rfl rfl ?_
  refine s_mv 36 rfl rfl ?_
  refine s_mv 37 rfl rfl ?_
  refine s_call 38 rfl rfl rfl rfl (fun w hw => shalelaw7_made a0 a1 a2 w) (fun _ _ => trivial) (fun z hz => ?_)
  obtain ⟨c, q, m, t, D, g⟩ := z
  obtain ⟨hC, hq, hg, hmM, htT, hdB, hm6⟩ := hz
  simp only at hC hq hg hmM htT hdB hm6
  obtain ⟨hMT, h1D, hDm, hfit⟩ := hC
  have hm := hMT.ok
  have hd1 := hMT.d1
  have hd5 := hMT.d560
  have hp1 := hMT.p1
  have hp7 := hMT.p70
  refine SX.pre (C' := Sto w [codeA c m t D q, genOf m t g]) (fun _ hw => hw) ?_
  refine s_mv 34 rfl rfl ?_
  refine s_ext 39 rfl rfl rfl ?_
  refine s_ext 40 rfl rfl rfl ?_
  refine s_ext 41 rfl rfl rfl ?_
  refine s_alloc 17 rfl (fun _ _ => trivial) (fun b17 => ?_)
  refine s_as 16 rfl rfl ?_
  refine s_stAll 0 rfl rfl (by kernel_rfl) rfl rfl rfl rfl (fun _ _ => trivial) ?_
  refine s_as 18 rfl rfl ?_
  refine SX.next ?_
  refine CW.seq ?_
  refine CW.seq ?_
  refine CW.reg [0, 1, 2, 3, 4, 5] rfl ?_   -- 3, more.go:12
  refine s_mv 42 rfl rfl ?_
  refine s_not 43 rfl rfl ?_
  refine s_mv 44 rfl rfl ?_
  refine s_mv 45 rfl rfl ?_
  refine s_not 46 rfl rfl ?_
  refine s_pickF 47 rfl rfl rfl ?_
  refine SX.next ?_
  refine CW.condF rfl ?_
  refine CW.skip ?_
  refine KN.code ?_
  refine CW.seq ?_
  refine CW.reg [0, 1, 2, 3, 4] rfl ?_   -- 5, more.go:15
  refine s_mv 48 rfl rfl ?_
  refine s_fa 49 rfl rfl ?_
  refine s_ldB 50 0 rfl rfl rfl (v := .int .i64 (D : Nat)) rfl ?_
  refine s_call 51 rfl rfl rfl rfl (fun w hw => shalelaw7_fit A3 p3.length c3 p3 D w (hw.old ha3) hp3 (by omega) hcp3 (by omega)) (fun _ _ => trivial) (fun q51 hq51 => ?_)
  refine s_as 19 rfl rfl ?_
  refine SX.next ?_
  refine CW.seq ?_
  refine CW.reg [0, 1, 2, 3, 4] rfl ?_   -- 6, more.go:16
  refine s_mv 52 rfl rfl ?_
  refine s_fa 53 rfl rfl ?_
  refine s_ldB 54 1 rfl rfl rfl (v := .int .i64 (D : Nat)) rfl ?_
  refine s_call 55 rfl rfl rfl rfl (fun w hw => shalelaw7_fit A4 p4.length c4 p4 D w (hw.old ha4) hp4 (by omega) hcp4 (by omega)) (fun _ _ => trivial) (fun q55 hq55 => ?_)
  refine s_as 20 rfl rfl ?_
  refine SX.next ?_
  refine CW.seq ?_
  refine CW.reg [0, 1, 2, 3, 4] rfl ?_   -- 7, more.go:17
  refine s_mv 56 rfl rfl ?_
  refine s_ldW 57 2 rfl rfl rfl ?_
  refine s_call1 58 rfl rfl rfl rfl (fun w hw => rPar_spec m t D g w hMT) (fun _ _ => trivial) ?_
  refine s_call 59 rfl rfl rfl rfl (fun w hw => shalelaw7_fit A5 p5.length c5 p5 (prB m t) w (hw.old ha5) hp5 (by omega) hcp5 (by omega)) (fun _ _ => trivial) (fun q59 hq59 => ?_)
  refine s_as 21 rfl rfl ?_
  refine SX.next ?_
  refine CW.seq ?_
  refine CW.reg [0, 1, 2, 3, 4] rfl ?_   -- 8, more.go:18
  refine s_mv 60 rfl rfl ?_
  refine s_ldW 61 3 rfl rfl rfl ?_
  refine s_call1 62 rfl rfl rfl rfl (fun w hw => rPar_spec m t D g w hMT) (fun _ _ => trivial) ?_
  refine s_call 63 rfl rfl rfl rfl (fun w hw => shalelaw7_fit A6 p6.length c6 p6 (prB m t) w (hw.old ha6) hp6 (by omega) hcp6 (by omega)) (fun _ _ => trivial) (fun q63 hq63 => ?_)
  refine s_as 22 rfl rfl ?_
  refine SX.next ?_
  refine CW.seq ?_
  refine CW.reg [0, 1, 2, 3] rfl ?_   -- 9, more.go:19
  refine s_fa 64 rfl rfl ?_
  refine s_ldB 65 4 rfl rfl rfl (v := .int .i64 (D : Nat)) rfl ?_
  refine s_make 66 D rfl rfl rfl rfl rfl (by omega) (fun _ _ => trivial) (fun b66 => ?_)
  refine s_as 23 rfl rfl ?_
  refine SX.next ?_
  refine CW.seq ?_
  refine CW.reg [0, 1, 2, 3] rfl ?_   -- 10, more.go:20
  refine s_ldW 67 5 rfl rfl rfl ?_
  refine s_call1 68 rfl rfl rfl rfl (fun w hw => rPar_spec m t D g w hMT) (fun _ _ => trivial) ?_
  refine s_make 69 (prB m t) rfl rfl rfl rfl rfl (by omega) (fun _ _ => trivial) (fun b69 => ?_)
  refine s_as 24 rfl rfl ?_
  refine SX.next ?_
  refine CW.seq ?_
  refine CW.seq ?_
  refine CW.pre (C' := Sto w [blk b69 5 (rB (prB m t) (fx (fitL p5 (prB m t)) (fitL p6 (prB m t)) 0)), blk b66 5 (rB D (fx (fitL p3 D) (fitL p4 D) 0)), own 5 1 q63.1 (fitL p6 (prB m t)).length q63.2 (nats .u8 (fitL p6 (prB m t))), own 5 1 q59.1 (fitL p5 (prB m t)).length q59.2 (nats .u8 (fitL p5 (prB m t))), own 5 1 q55.1 (fitL p4 D).length q55.2 (nats .u8 (fitL p4 D)), own 5 1 q51.1 (fitL p3 D).length q51.2 (nats .u8 (fitL p3 D)), blk b17 27 (refC m t D g), codeA c m t D q, genOf m t g]) (fun _ hw => by rw [← fx_zero, ← fx_zero]; exact hw) ?_
  refine CW.reg [0] rfl ?_   -- 11, more.go:21
  refine s_as 25 rfl rfl ?_
  refine SX.next ?_
  refine CW.block ?_
  refine CW.loop (G := Nat) (fun i => [(16, .pointer (some ⟨c, 0, none⟩)), (19, .slice q51.1 (fitL p3 D).length q51.2), (20, .slice q55.1 (fitL p4 D).length q55.2), (21, .slice q59.1 (fitL p5 (prB m t)).length q59.2), (22, .slice q63.1 (fitL p6 (prB m t)).length q63.2), (23, .slice (some ⟨b66, 0, none⟩) D D), (24, .slice (some ⟨b69, 0, none⟩) (prB m t) (prB m t)), (25, .int .i64 (i : Nat))]) (fun i => Sto w [blk b69 5 (rB (prB m t) (fx (fitL p5 (prB m t)) (fitL p6 (prB m t)) 0)), blk b66 5 (rB D (fx (fitL p3 D) (fitL p4 D) i)), own 5 1 q63.1 (fitL p6 (prB m t)).length q63.2 (nats .u8 (fitL p6 (prB m t))), own 5 1 q59.1 (fitL p5 (prB m t)).length q59.2 (nats .u8 (fitL p5 (prB m t))), own 5 1 q55.1 (fitL p4 D).length q55.2 (nats .u8 (fitL p4 D)), own 5 1 q51.1 (fitL p3 D).length q51.2 (nats .u8 (fitL p3 D)), blk b17 27 (refC m t D g), codeA c m t D q, genOf m t g]) (fun i => i ≤ D) (fun i => D - i) 0 ⟨rfl, rfl, rfl, rfl, rfl, rfl, rfl, rfl, trivial⟩ (fun _ hw => hw) (Nat.zero_le _) ?_
  intro i hi
  have hl3 := fitL_len p3 D
  have hl4 := fitL_len p4 D
  have hl5 := fitL_len p5 (prB m t)
  have hl6 := fitL_len p6 (prB m t)
  refine CW.seq ?_
  refine CW.seq ?_
  refine CW.reg [0, 1, 2, 3] rfl ?_   -- 12, more.go:21
  refine s_mv 70 rfl rfl ?_
  refine s_mv 71 rfl rfl ?_
  refine s_len 72 rfl rfl ?_
  refine s_lt 73 rfl rfl rfl rfl ?_
  refine SX.next ?_
  refine CW.test rfl (fun hc => ?_) (fun hc => ?_)
  · skip
    refine CW.skip ?_
    refine KN.code ?_
    refine CW.seq ?_
    refine CW.block ?_
    refine CW.regD (.st true 0 (.st true 1 (.st true 2 (.st true 3 (.st true 4 (.st true 5 (.st true 6 (.st true 7 (.st true 8 (.st true 9 (.st true 10 (.st true 11 (.st false 12 .done))))))))))))) (Sto w [blk b69 5 (rB (prB m t) (fx (fitL p5 (prB m t)) (fitL p6 (prB m t)) 0)), own 5 1 q63.1 (fitL p6 (prB m t)).length q63.2 (nats .u8 (fitL p6 (prB m t))), own 5 1 q59.1 (fitL p5 (prB m t)).length q59.2 (nats .u8 (fitL p5 (prB m t))), own 5 1 q55.1 (fitL p4 D).length q55.2 (nats .u8 (fitL p4 D)), own 5 1 q51.1 (fitL p3 D).length q51.2 (nats .u8 (fitL p3 D)), blk b17 27 (refC m t D g), codeA c m t D q, genOf m t g]) mixed (by kernel_rfl) (fun _ h => h.drew) (fun _ hw => hw.pick [0, 1, 1, 1, 1, 1, 1, 1] rfl) ?_
    refine s_mv 76 rfl rfl ?_
    refine s_mv 77 rfl rfl ?_
    refine s_mv 78 rfl rfl ?_
    refine s_mv 79 rfl rfl ?_
    refine s_iaO 80 5 i rfl rfl rfl rfl rfl (by omega) ?_
    refine s_ldS 81 rfl rfl (fun _ hw => hw.ownCell (q := 4) rfl (natsAt8 (by omega))) ?_
    refine s_mv 82 rfl rfl ?_
    refine s_mv 83 rfl rfl ?_
    refine s_iaO 84 4 i rfl rfl rfl rfl rfl (by omega) ?_
    refine s_ldS 85 rfl rfl (fun _ hw => hw.ownCell (q := 3) rfl (natsAt8 (by omega))) ?_
    refine s_bit 86 rfl rfl rfl rfl (ibit_xor_u8 (cf_lt8 (fitL_lt hp3 D) _) (cf_lt8 (fitL_lt hp4 D) _)) ?_
    refine s_ia0 87 i rfl rfl rfl rfl (by omega) ?_
    refine s_stB 1 rfl rfl rfl rfl rfl (by rw [rB_size]; omega) (fun _ hw => hw.pick [0, 1, 1, 1, 1, 1, 1, 1] rfl) ?_
    refine SX.end_ ?_
    refine KN.blk ?_
    refine KN.code ?_
    refine CW.reg [0, 1, 2] rfl ?_   -- 13, more.go:21
    refine s_mv 74 rfl rfl ?_
    refine s_add 75 rfl rfl rfl (r := ((i + 1 : Nat) : Int)) (w64 (by omega)) ?_
    refine s_as 25 rfl rfl ?_
    refine SX.end_ ?_
    exact KN.back (i + 1) ⟨rfl, rfl, rfl, rfl, rfl, rfl, rfl, rfl, trivial⟩ (fun _ hw => by rw [← fx_next, ← rB_set]; exact hw) (by omega) (by omega)
  · skip
    obtain rfl : D = i := by omega
    refine CW.exit rfl ?_
    refine KN.code ?_
    refine CW.seq ?_
    refine CW.seq ?_
    refine CW.reg [0] rfl ?_   -- 15, more.go:24
    refine s_as 26 rfl rfl ?_
    refine SX.next ?_
    refine CW.block ?_
    refine CW.loop (G := Nat) (fun i => [(16, .pointer (some ⟨c, 0, none⟩)), (19, .slice q51.1 (fitL p3 D).length q51.2), (20, .slice q55.1 (fitL p4 D).length q55.2), (21, .slice q59.1 (fitL p5 (prB m t)).length q59.2), (22, .slice q63.1 (fitL p6 (prB m t)).length q63.2), (23, .slice (some ⟨b66, 0, none⟩) D D), (24, .slice (some ⟨b69, 0, none⟩) (prB m t) (prB m t)), (26, .int .i64 (i : Nat))]) (fun i => Sto w [blk b69 5 (rB (prB m t) (fx (fitL p5 (prB m t)) (fitL p6 (prB m t)) i)), blk b66 5 (rB D (fx (fitL p3 D) (fitL p4 D) D)), own 5 1 q63.1 (fitL p6 (prB m t)).length q63.2 (nats .u8 (fitL p6 (prB m t))), own 5 1 q59.1 (fitL p5 (prB m t)).length q59.2 (nats .u8 (fitL p5 (prB m t))), own 5 1 q55.1 (fitL p4 D).length q55.2 (nats .u8 (fitL p4 D)), own 5 1 q51.1 (fitL p3 D).length q51.2 (nats .u8 (fitL p3 D)), blk b17 27 (refC m t D g), codeA c m t D q, genOf m t g]) (fun i => i ≤ (prB m t)) (fun i => (prB m t) - i) 0 ⟨rfl, rfl, rfl, rfl, rfl, rfl, rfl, rfl, trivial⟩ (fun _ hw => hw) (Nat.zero_le _) ?_
    intro i hi
    have hl3 := fitL_len p3 D
    have hl4 := fitL_len p4 D
    have hl5 := fitL_len p5 (prB m t)
    have hl6 := fitL_len p6 (prB m t)
    refine CW.seq ?_
    refine CW.seq ?_
    refine CW.reg [0, 1, 2, 3] rfl ?_   -- 16, more.go:24
    refine s_mv 88 rfl rfl ?_
    refine s_mv 89 rfl rfl ?_
    refine s_len 90 rfl rfl ?_
    refine s_lt 91 rfl rfl rfl rfl ?_
    refine SX.next ?_
    refine CW.test rfl (fun hc => ?_) (fun hc => ?_)
    · skip
      refine CW.skip ?_
      refine KN.code ?_
      refine CW.seq ?_
      refine CW.block ?_
      refine CW.regD (.st true 0 (.st true 1 (.st true 2 (.st true 3 (.st true 4 (.st true 5 (.st true 6 (.st true 7 (.st true 8 (.st true 9 (.st true 10 (.st true 11 (.st false 12 .done))))))))))))) (Sto w [blk b66 5 (rB D (fx (fitL p3 D) (fitL p4 D) D)), own 5 1 q63.1 (fitL p6 (prB m t)).length q63.2 (nats .u8 (fitL p6 (prB m t))), own 5 1 q59.1 (fitL p5 (prB m t)).length q59.2 (nats .u8 (fitL p5 (prB m t))), own 5 1 q55.1 (fitL p4 D).length q55.2 (nats .u8 (fitL p4 D)), own 5 1 q51.1 (fitL p3 D).length q51.2 (nats .u8 (fitL p3 D)), blk b17 27 (refC m t D g), codeA c m t D q, genOf m t g]) mixed (by kernel_rfl) (fun _ h => h.drew) (fun _ hw => hw.tail) ?_
      refine s_mv 94 rfl rfl ?_
      refine s_mv 95 rfl rfl ?_
      refine s_mv 96 rfl rfl ?_
      refine s_mv 97 rfl rfl ?_
      refine s_iaO 98 3 i rfl rfl rfl rfl rfl (by omega) ?_
      refine s_ldS 99 rfl rfl (fun _ hw => hw.ownCell (q := 2) rfl (natsAt8 (by omega))) ?_
      refine s_mv 100 rfl rfl ?_
      refine s_mv 101 rfl rfl ?_
      refine s_iaO 102 2 i rfl rfl rfl rfl rfl (by omega) ?_
      refine s_ldS 103 rfl rfl (fun _ hw => hw.ownCell (q := 1) rfl (natsAt8 (by omega))) ?_
      refine s_bit 104 rfl rfl rfl rfl (ibit_xor_u8 (cf_lt8 (fitL_lt hp5 (prB m t)) _) (cf_lt8 (fitL_lt hp6 (prB m t)) _)) ?_
      refine s_ia0 105 i rfl rfl rfl rfl (by omega) ?_
      refine s_stB 0 rfl rfl rfl rfl rfl (by rw [rB_size]; omega) (fun _ hw => hw.tail) ?_
      refine SX.end_ ?_
      refine KN.blk ?_
      refine KN.code ?_
      refine CW.reg [0, 1, 2] rfl ?_   -- 17, more.go:24
      refine s_mv 92 rfl rfl ?_
      refine s_add 93 rfl rfl rfl (r := ((i + 1 : Nat) : Int)) (w64 (by omega)) ?_
      refine s_as 26 rfl rfl ?_
      refine SX.end_ ?_
      exact KN.back (i + 1) ⟨rfl, rfl, rfl, rfl, rfl, rfl, rfl, rfl, trivial⟩ (fun _ hw => by rw [← fx_next, ← rB_set]; exact hw) (by omega) (by omega)
    · skip
      have hie : i = prB m t := by omega
      refine CW.exit rfl ?_
      refine KN.code ?_
      refine CW.seq ?_
      have hl3 := fitL_len p3 D
      have hl4 := fitL_len p4 D
      have hl5 := fitL_len p5 (prB m t)
      have hl6 := fitL_len p6 (prB m t)
      have hxl := xorL_len (fitL p3 D) (fitL p4 D)
      have hyl := xorL_len (fitL p5 (prB m t)) (fitL p6 (prB m t))
      have hxt := xorL_lt (fitL_lt hp3 D) (fitL_lt hp4 D)
      have hyt := xorL_lt (fitL_lt hp5 (prB m t)) (fitL_lt hp6 (prB m t))
      have hsw := fun i => sv_words (m := m) (t := t) (show (fitL p3 D).length = (fitL p4 D).length by omega) (show (fitL p5 (prB m t)).length = (fitL p6 (prB m t)).length by omega) (8 * D + dg m t) i
      refine CW.pre (C' := Sto w [own 5 1 (some ⟨b69, 0, none⟩) (prB m t) (prB m t) (nats .u8 (xorL (fitL p5 (prB m t)) (fitL p6 (prB m t)))), own 5 1 (some ⟨b66, 0, none⟩) D D (nats .u8 (xorL (fitL p3 D) (fitL p4 D))), own 5 1 q63.1 (fitL p6 (prB m t)).length q63.2 (nats .u8 (fitL p6 (prB m t))), own 5 1 q59.1 (fitL p5 (prB m t)).length q59.2 (nats .u8 (fitL p5 (prB m t))), own 5 1 q55.1 (fitL p4 D).length q55.2 (nats .u8 (fitL p4 D)), own 5 1 q51.1 (fitL p3 D).length q51.2 (nats .u8 (fitL p3 D)), blk b17 27 (refC m t D g), codeA c m t D q, genOf m t g]) (fun _ hw => by
        have e1 := fx_all (fitL p3 D) (fitL p4 D)
        have e2 := fx_all (fitL p5 (prB m t)) (fitL p6 (prB m t))
        rw [hl3] at e1
        rw [hl5] at e2
        rw [hie, e1, e2] at hw
        exact St.blkOwn (q := 0) (c := prB m t) (sz := 1) rfl (by simp [hyl, hl5]) (by unfold maxLen; omega) (St.blkOwn (q := 1) (c := D) (sz := 1) rfl (by simp [hxl, hl3]) (by unfold maxLen; omega) hw)) ?_
      refine CW.reg [0, 1, 2, 3, 4, 5, 6, 7, 8] rfl ?_   -- 19, more.go:27
      refine s_mv 107 rfl rfl ?_
      refine s_mv 108 rfl rfl ?_
      refine s_mv 109 rfl rfl ?_
      refine s_call 110 rfl rfl rfl rfl (fun w hw => of7_ok c m t D q q51.1 (fitL p3 D).length q51.2 (fitL p3 D) q59.1 (fitL p5 (prB m t)).length q59.2 (fitL p5 (prB m t)) w hMT hDm (hw.has (i := 7) rfl) ((hw.has (i := 5) rfl).of_own) (fitL_lt hp3 D) (by omega) hq51 ((hw.has (i := 3) rfl).of_own) (fitL_lt hp5 (prB m t)) (by omega) hq59 hl3 hl5) (fun _ _ => trivial) (fun q110 hq110 => ?_)
      refine s_mv 106 rfl rfl ?_
      refine s_ext 111 rfl rfl rfl ?_
      refine s_ext 112 rfl rfl rfl ?_
      refine s_as 27 rfl rfl ?_
      refine s_as 28 rfl rfl ?_
      refine SX.next ?_
      refine CW.seq ?_
      refine CW.reg [0, 1, 2, 3, 4, 5, 6, 7, 8] rfl ?_   -- 20, more.go:28
      refine s_mv 114 rfl rfl ?_
      refine s_mv 115 rfl rfl ?_
      refine s_mv 116 rfl rfl ?_
      refine s_call 117 rfl rfl rfl rfl (fun w hw => of7_ok c m t D q q55.1 (fitL p4 D).length q55.2 (fitL p4 D) q63.1 (fitL p6 (prB m t)).length q63.2 (fitL p6 (prB m t)) w hMT hDm (hw.has (i := 8) rfl) ((hw.has (i := 5) rfl).of_own) (fitL_lt hp4 D) (by omega) hq55 ((hw.has (i := 3) rfl).of_own) (fitL_lt hp6 (prB m t)) (by omega) hq63 hl4 hl6) (fun _ _ => trivial) (fun q117 hq117 => ?_)
      refine s_mv 113 rfl rfl ?_
      refine s_ext 118 rfl rfl rfl ?_
      refine s_ext 119 rfl rfl rfl ?_
      refine s_as 29 rfl rfl ?_
      refine s_as 30 rfl rfl ?_
      refine SX.next ?_
      refine CW.seq ?_
      refine CW.reg [0, 1, 2, 3, 4, 5, 6, 7, 8] rfl ?_   -- 21, more.go:29
      refine s_mv 121 rfl rfl ?_
      refine s_mv 122 rfl rfl ?_
      refine s_mv 123 rfl rfl ?_
      refine s_call 124 rfl rfl rfl rfl (fun w hw => of7_ok c m t D q (some ⟨b66, 0, none⟩) D D (xorL (fitL p3 D) (fitL p4 D)) (some ⟨b69, 0, none⟩) (prB m t) (prB m t) (xorL (fitL p5 (prB m t)) (fitL p6 (prB m t))) w hMT hDm (hw.has (i := 9) rfl) ((hw.has (i := 3) rfl).of_own) hxt (by omega) (Nat.le_refl _) ((hw.has (i := 2) rfl).of_own) hyt (by omega) (Nat.le_refl _) rfl rfl) (fun _ _ => trivial) (fun q124 hq124 => ?_)
      refine s_mv 120 rfl rfl ?_
      refine s_ext 125 rfl rfl rfl ?_
      refine s_ext 126 rfl rfl rfl ?_
      refine s_as 31 rfl rfl ?_
      refine s_as 32 rfl rfl ?_
      refine SX.next ?_
      refine CW.seq ?_
      refine CW.reg [0, 1, 2, 3, 4, 5, 6, 7, 8, 9, 10, 11, 12, 13, 14, 15, 16, 17, 18, 19, 20, 21, 22, 23] rfl ?_   -- 22, more.go:30
      refine s_mv 127 rfl rfl ?_
      refine s_eqNN 128 rfl rfl ?_
      refine s_mv 129 rfl rfl ?_
      refine s_mv 130 rfl rfl ?_
      refine s_eqNN 131 rfl rfl ?_
      refine s_pickT 132 rfl rfl rfl ?_
      refine s_mv 133 rfl rfl ?_
      refine s_mv 134 rfl rfl ?_
      refine s_eqNN 135 rfl rfl ?_
      refine s_pickT 136 rfl rfl rfl ?_
      refine s_mv 137 rfl rfl ?_
      refine s_mv 138 rfl rfl ?_
      refine s_mv 139 rfl rfl ?_
      have h80 := hMT.t40
      have hsl1 := synL_len m t (posL m t (fitL p3 D) (fitL p5 (prB m t)) (8 * D + dg m t))
      have hsl2 := synL_len m t (posL m t (fitL p4 D) (fitL p6 (prB m t)) (8 * D + dg m t))
      have hsl3 := synL_len m t (posL m t (xorL (fitL p3 D) (fitL p4 D)) (xorL (fitL p5 (prB m t)) (fitL p6 (prB m t))) (8 * D + dg m t))
      have hsa := syn_add hMT hsw
      refine s_call 140 rfl rfl rfl rfl (fun w hw => by have := add7_spec q110.1 (synL m t (posL m t (fitL p3 D) (fitL p5 (prB m t)) (8 * D + dg m t))).length q110.2 ((synL m t (posL m t (fitL p3 D) (fitL p5 (prB m t)) (8 * D + dg m t))).map Int.ofNat) q117.1 (synL m t (posL m t (fitL p4 D) (fitL p6 (prB m t)) (8 * D + dg m t))).length q117.2 ((synL m t (posL m t (fitL p4 D) (fitL p6 (prB m t)) (8 * D + dg m t))).map Int.ofNat) w (by rw [← nats_ints]; exact (hw.has (i := 2) rfl).of_own) (by omega) (by rw [← nats_ints]; exact (hw.has (i := 1) rfl).of_own) (by omega); rw [hsa] at this; exact this) (fun _ _ => trivial) (fun q140 hq140 => ?_)
      refine s_mv 141 rfl rfl ?_
      refine s_call1 142 rfl rfl rfl rfl (v := .bool true) (fun w hw => by have := sameInts_spec q140.1 q124.1 ((synL m t (posL m t (xorL (fitL p3 D) (fitL p4 D)) (xorL (fitL p5 (prB m t)) (fitL p6 (prB m t))) (8 * D + dg m t))).map Int.ofNat).length q140.2 (synL m t (posL m t (xorL (fitL p3 D) (fitL p4 D)) (xorL (fitL p5 (prB m t)) (fitL p6 (prB m t))) (8 * D + dg m t))).length q124.2 ((synL m t (posL m t (xorL (fitL p3 D) (fitL p4 D)) (xorL (fitL p5 (prB m t)) (fitL p6 (prB m t))) (8 * D + dg m t))).map Int.ofNat) ((synL m t (posL m t (xorL (fitL p3 D) (fitL p4 D)) (xorL (fitL p5 (prB m t)) (fitL p6 (prB m t))) (8 * D + dg m t))).map Int.ofNat) w ((hw.has (i := 0) rfl).of_own) (by rw [← nats_ints]; exact (hw.has (i := 1) rfl).of_own) (by rw [List.length_map]; omega); rw [decide_eq_true rfl] at this; exact this) (fun _ _ => trivial) ?_
      refine s_pickT 143 rfl rfl rfl ?_
      refine s_mv 144 rfl rfl ?_
      refine s_mv 145 rfl rfl ?_
      refine s_call1 146 rfl rfl rfl rfl (fun w hw => cField_spec c m t D q w (hw.has (i := 11) rfl)) (fun _ _ => trivial) ?_
      refine s_mv 147 rfl rfl ?_
      refine s_call1 148 rfl rfl rfl rfl (v := .bool true) (fun w hw => by have := fits7_spec q.f m q124.1 (synL m t (posL m t (xorL (fitL p3 D) (fitL p4 D)) (xorL (fitL p5 (prB m t)) (fitL p6 (prB m t))) (8 * D + dg m t))).length q124.2 ((synL m t (posL m t (xorL (fitL p3 D) (fitL p4 D)) (xorL (fitL p5 (prB m t)) (fitL p6 (prB m t))) (8 * D + dg m t))).map Int.ofNat) w hm (code_at (hw.has (i := 11) rfl)).2.2.2.1 (by rw [← nats_ints]; exact (hw.has (i := 1) rfl).of_own) (by omega); rw [syn_fits hMT] at this; exact this) (fun _ _ => trivial) ?_
      refine s_pickT 149 rfl rfl rfl ?_
      refine s_as 14 rfl rfl ?_
      refine SX.next ?_
      refine CW.ret ?_
      exact KN.ret (rs := [.tmp 14]) Tryd.results11 rfl (fun w hw => ⟨rfl, hw.nothing⟩)
end Go.Proofs.YtompcfingkoldaaDoor
end
