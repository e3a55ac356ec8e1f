/- The walk of the statement EncodeLinear. Conditions: each theorem tells its own. -/
import Derived.Test.YtompcfingkoldaaDoorGB
import Derived.Test.YtompcfingkoldaaDoorRows
import Derived.LaidLaws
import Derived.WalkKit
import Derived.ProofKit
import Derived.OpenShut
import Derived.Deep.DeepHandedRow
import Derived.Deep.DeepWitnessRowRef
import Derived.Test.YtompcfingkoldaaDoorGF
section
/- What a row's list of error variables gives a walk: each holds a pointer of its own. No condition. -/
namespace Go.Proofs.YtompcfingkoldaaDoor
open Go.Sx Go.ChangeShapes Go.WideShapes Go.RowKit

theorem laidOutT : laidOutB Tryd.prog = true := by kernel_rfl
theorem errStar : "*" ++ "errors.errorString" = "*errors.errorString" := by decide
theorem errRow (u : TypeId) (h : Tryd.prog.typeName? 3 u = some "*errors.errorString") : u = 262 :=
  typeName_ptr_named (nm := "errors.errorString") (by rw [errStar]; kernel_rfl) (by kernel_rfl) (by decide) u (by rw [errStar]; exact h)
theorem errCells : Tryd.prog.cellsOf 279 = 1 := by kernel_rfl
theorem strCells : Tryd.prog.cellsOf 9 = 1 := by kernel_rfl
theorem noKnob : ownKnob Tryd.prog.godebug = none := by kernel_rfl

/-- The pointer that error variable k holds. -/
noncomputable def eOf (W : World) (k : Nat) : Addr := open Classical in if h : ∃ a, W.cell? ⟨k, 0, none⟩ = some (.iface 262 (.pointer (some a))) then Classical.choose h else default

theorem er_of {W : World} {k : Nat} (h : ∃ a, W.cell? ⟨k, 0, none⟩ = some (.iface 262 (.pointer (some a)))) : Er (eOf W) W k := by
  unfold Er errV eOf
  rw [dif_pos h]
  exact Classical.choose_spec h

set_option maxRecDepth 100000 in
theorem er_laid {W : World} : ∀ {l : List (String × DataW Unit)} {ps : List MemPlace}, DataW.LaidVars Tryd.prog W l ps →
    (∀ b off, MemPlace.cell b off ∈ ps → (∃ c t, W.heap[b]? = some (.cells c t (0, 0))) ∧ ∀ u v, W.cell? ⟨b, off, none⟩ = some (.iface u v) → Value.okWide Tryd.prog W .any 0 u v) →
    ∀ n d, (n, d) ∈ l → ∀ text k, d = .iface "*errors.errorString" (.ptr (.agg [.lit (.string text)])) → Tryd.prog.globalNamed n = some k → (Tryd.prog.globals[k]?).map (·.type) = some 34 → Er (eOf W) W k
  | [], _, _, _, _, _, h, _, _, _, _, _ => by cases h
  | (n0, d0) :: r, ps, hl, hrows, n, d, hm, text, k, hd, hk, ht => by
    obtain ⟨g, t, cs, fuel, p, q, hg, htg, hv, htr, hr, hps⟩ := hl
    rcases List.mem_cons.1 hm with he | hm
    · simp only [Prod.mk.injEq] at he
      obtain ⟨rfl, rfl⟩ := he
      subst hd
      obtain rfl := Option.some.inj (hk.symm.trans hg)
      obtain rfl := Option.some.inj (ht.symm.trans htg)
      obtain ⟨l0⟩ := cs
      have ok0 : ∀ u v, l0 = [.iface u v] → Value.okWide Tryd.prog W .any 0 u v := fun u v e => by
        subst e
        exact (hrows k 0 (by rw [hps]; simp [MemPlace.row])).2 u v (by simpa using World.var?_cell hg hv 0)
      obtain ⟨a, s, rfl, _⟩ := errorString_of_trod Tryd.underlying34 errRow Tryd.underlying262 Tryd.underlying279 rfl rfl Tryd.underlying9 errCells strCells htr ok0
      exact er_of ⟨a, by simpa using World.var?_cell hg hv 0⟩
    · exact er_laid hr (fun b off hb => hrows b off (by rw [hps]; exact List.mem_append_right _ hb)) n d hm text k hd hk ht

theorem er_met {W : World} {l : List (String × DataW Unit)} (h : laidMet Tryd.prog l W) (n : String) (d : DataW Unit) (hm : (n, d) ∈ l) (text : List UInt8) (k : Nat) (hd : d = .iface "*errors.errorString" (.ptr (.agg [.lit (.string text)])))
    (hk : Tryd.prog.globalNamed n = some k) (ht : (Tryd.prog.globals[k]?).map (·.type) = some 34) : Er (eOf W) W k :=
  let ⟨_, h1, _, h3⟩ := h
  er_laid h1 h3 n d hm text k hd hk ht

theorem fr_below {w w' : World} (h : Sto w [] w') : Below w.heap.size w w' := h.fr.below
end Go.Proofs.YtompcfingkoldaaDoor
end
section
/- The statement EncodeLinear, walked. Conditions: the errors' variables. -/
namespace Go.Proofs.YtompcfingkoldaaDoor
open Go Go.Sx Go.Fm Nb
set_option maxRecDepth 100000

theorem walk_EncodeLinear (a0 a1 a2 : Int) (A3 : Option Addr) (n3 c3 : Nat) (p3 : List Nat) (A4 : Option Addr) (n4 c4 : Nat) (p4 : List Nat) (e : Nat → Addr) (w : World) (ha3 : Has (sl 1 A3 n3 (nats .u8 p3)) w) (hp3 : ∀ x ∈ p3, x < 256) (hn3 : n3 ≤ 9223372036854775807) (hcp3 : n3 ≤ c3) (ha4 : Has (sl 1 A4 n4 (nats .u8 p4)) w) (hp4 : ∀ x ∈ p4, x < 256) (hn4 : n4 ≤ 9223372036854775807) (hcp4 : n4 ≤ c4) (he : Er e w 2) : Spec1 Tryd.prog 5 [.int .i64 a0, .int .i64 a1, .int .i64 a2, .slice A3 n3 c3, .slice A4 n4 c4] w (.bool true) := by
  have hla3 := nats_len ha3
  subst hla3
  have hla4 := nats_len ha4
  subst hla4
  refine spec_of Tryd.func5 rfl Tryd.ntmps5 rfl ?_
  refine CW.seq ?_
  refine CW.reg [0] rfl ?_   -- 0, law.go:99
  refine s_as 10 rfl rfl ?_
  refine SX.next ?_
  refine CW.seq ?_
  refine CW.reg [0, 1] rfl ?_   -- 1, law.go:100
  refine s_call1 26 rfl rfl rfl rfl (fun w hw => first6_spec e w (hw.er he)) (fun _ _ => trivial) ?_
  refine s_as 11 rfl rfl ?_
  refine SX.next ?_
  refine CW.seq ?_
  refine CW.reg [0, 1, 2, 3, 4, 5, 6, 7, 8, 9, 10, 11] rfl ?_   -- 2, law.go:101
  refine s_mv 28 rfl rfl ?_
  refine s_mv 29 rfl rfl ?_
  refine s_mv 30 rfl rfl ?_
  refine s_call 31 rfl rfl rfl rfl (fun w hw => shalelaw6_made a0 a1 a2 w) (fun _ _ => trivial) (fun z hz => ?_)
  obtain ⟨c, q, m, t, D, g⟩ := z
  obtain ⟨hC, hq, hg, hmM, htT, hdB, hm6⟩ := hz
  simp only at hC hq hg hmM htT hdB hm6
  obtain ⟨hMT, h1D, hDm, hfit⟩ := hC
  have hm := hMT.ok
  have hd1 := hMT.d1
  have hd5 := hMT.d560
  have hp1 := hMT.p1
  have hp7 := hMT.p70
  refine SX.pre (C' := Sto w [codeA c m t D q, genOf m t g]) (fun _ hw => hw) ?_
  refine s_mv 27 rfl rfl ?_
  refine s_ext 32 rfl rfl rfl ?_
  refine s_ext 33 rfl rfl rfl ?_
  refine s_ext 34 rfl rfl rfl ?_
  refine s_alloc 13 rfl (fun _ _ => trivial) (fun b13 => ?_)
  refine s_as 12 rfl rfl ?_
  refine s_stAll 0 rfl rfl (by kernel_rfl) rfl rfl rfl rfl (fun _ _ => trivial) ?_
  refine s_as 14 rfl rfl ?_
  refine SX.next ?_
  refine CW.seq ?_
  refine CW.seq ?_
  refine CW.reg [0, 1, 2, 3, 4, 5] rfl ?_   -- 3, law.go:102
  refine s_mv 35 rfl rfl ?_
  refine s_not 36 rfl rfl ?_
  refine s_mv 37 rfl rfl ?_
  refine s_mv 38 rfl rfl ?_
  refine s_not 39 rfl rfl ?_
  refine s_pickF 40 rfl rfl rfl ?_
  refine SX.next ?_
  refine CW.condF rfl ?_
  refine CW.skip ?_
  refine KN.code ?_
  refine CW.seq ?_
  refine CW.reg [0, 1, 2, 3, 4] rfl ?_   -- 5, law.go:105
  refine s_mv 41 rfl rfl ?_
  refine s_fa 42 rfl rfl ?_
  refine s_ldB 43 0 rfl rfl rfl rfl ?_
  refine s_call 44 rfl rfl rfl rfl (fun w hw => shalelaw6_fit A3 p3.length c3 p3 D w (hw.old ha3) hp3 (by omega) hcp3 (by omega)) (fun _ _ => trivial) (fun q44 hq44 => ?_)
  refine s_as 15 rfl rfl ?_
  refine SX.next ?_
  refine CW.seq ?_
  refine CW.reg [0, 1, 2, 3, 4] rfl ?_   -- 6, law.go:106
  refine s_mv 45 rfl rfl ?_
  refine s_fa 46 rfl rfl ?_
  refine s_ldB 47 1 rfl rfl rfl rfl ?_
  refine s_call 48 rfl rfl rfl rfl (fun w hw => shalelaw6_fit A4 p4.length c4 p4 D w (hw.old ha4) hp4 (by omega) hcp4 (by omega)) (fun _ _ => trivial) (fun q48 hq48 => ?_)
  refine s_as 16 rfl rfl ?_
  refine SX.next ?_
  refine CW.seq ?_
  refine CW.reg [0, 1, 2, 3] rfl ?_   -- 7, law.go:107
  refine s_fa 49 rfl rfl ?_
  refine s_ldB 50 2 rfl rfl rfl rfl ?_
  refine s_make 51 D rfl rfl rfl rfl rfl (by omega) (fun _ _ => trivial) (fun b51 => ?_)
  refine s_as 17 rfl rfl ?_
  refine SX.next ?_
  refine CW.seq ?_
  refine CW.seq ?_
  refine CW.reg [0] rfl ?_   -- 8, law.go:108
  refine s_as 18 rfl rfl ?_
  refine SX.next ?_
  refine CW.block ?_
  refine CW.loop (G := Nat) (fun i => [(12, .pointer (some ⟨c, 0, none⟩)), (13, .pointer (some ⟨b13, 0, none⟩)), (15, .slice q44.1 (fitL p3 D).length q44.2), (16, .slice q48.1 (fitL p4 D).length q48.2), (17, .slice (some ⟨b51, 0, none⟩) D D), (18, .int .i64 (i : Nat))]) (fun i => Sto w [blk b51 5 (rB D (fx (fitL p3 D) (fitL p4 D) i)), own 5 1 q48.1 (fitL p4 D).length q48.2 (nats .u8 (fitL p4 D)), own 5 1 q44.1 (fitL p3 D).length q44.2 (nats .u8 (fitL p3 D)), blk b13 27 (refC m t D g), codeA c m t D q, genOf m t g]) (fun i => i ≤ D) (fun i => D - i) 0 ⟨rfl, rfl, rfl, rfl, rfl, rfl, trivial⟩ (fun _ hw => by rw [← fx_zero]; exact hw) (Nat.zero_le _) ?_
  intro i hi
  have hl1 := fitL_len p3 D
  have hl2 := fitL_len p4 D
  refine CW.seq ?_
  refine CW.seq ?_
  refine CW.reg [0, 1, 2, 3] rfl ?_   -- 9, law.go:108
  refine s_mv 52 rfl rfl ?_
  refine s_mv 53 rfl rfl ?_
  refine s_len 54 rfl rfl ?_
  refine s_lt 55 rfl rfl rfl rfl ?_
  refine SX.next ?_
  refine CW.test rfl (fun hc => ?_) (fun hc => ?_)
  · skip
    refine CW.skip ?_
    refine KN.code ?_
    refine CW.seq ?_
    refine CW.block ?_
    refine CW.regD (.st true 0 (.st true 1 (.st true 2 (.st true 3 (.st true 4 (.st true 5 (.st true 6 (.st true 7 (.st true 8 (.st true 9 (.st true 10 (.st true 11 (.st false 12 .done))))))))))))) (Sto w [own 5 1 q48.1 (fitL p4 D).length q48.2 (nats .u8 (fitL p4 D)), own 5 1 q44.1 (fitL p3 D).length q44.2 (nats .u8 (fitL p3 D)), blk b13 27 (refC m t D g), codeA c m t D q, genOf m t g]) mixed (by kernel_rfl) (fun _ h => h.drew) (fun _ hw => hw.tail) ?_
    refine s_mv 58 rfl rfl ?_
    refine s_mv 59 rfl rfl ?_
    refine s_mv 60 rfl rfl ?_
    refine s_mv 61 rfl rfl ?_
    refine s_iaO 62 2 i rfl rfl rfl rfl rfl (by omega) ?_
    refine s_ldS 63 rfl rfl (fun _ hw => hw.ownCell (q := 1) rfl (natsAt8 (by omega))) ?_
    refine s_mv 64 rfl rfl ?_
    refine s_mv 65 rfl rfl ?_
    refine s_iaO 66 1 i rfl rfl rfl rfl rfl (by omega) ?_
    refine s_ldS 67 rfl rfl (fun _ hw => hw.ownCell (q := 0) rfl (natsAt8 (by omega))) ?_
    refine s_bit 68 rfl rfl rfl rfl (ibit_xor_u8 (cf_lt8 (fitL_lt hp3 D) _) (cf_lt8 (fitL_lt hp4 D) _)) ?_
    refine s_ia0 69 i rfl rfl rfl rfl (by omega) ?_
    refine s_stB 0 rfl rfl rfl rfl rfl (by rw [rB_size]; omega) (fun _ hw => hw.tail) ?_
    refine SX.end_ ?_
    refine KN.blk ?_
    refine KN.code ?_
    refine CW.reg [0, 1, 2] rfl ?_   -- 10, law.go:108
    refine s_mv 56 rfl rfl ?_
    refine s_add 57 rfl rfl rfl (r := ((i + 1 : Nat) : Int)) (w64 (by omega)) ?_
    refine s_as 18 rfl rfl ?_
    refine SX.end_ ?_
    exact KN.back (i + 1) ⟨rfl, rfl, rfl, rfl, rfl, rfl, trivial⟩ (fun _ hw => by rw [← fx_next, ← rB_set]; exact hw) (by omega) (by omega)
  · skip
    obtain rfl : D = i := by omega
    refine CW.exit rfl ?_
    refine KN.code ?_
    refine CW.seq ?_
    have hl1 := fitL_len p3 D
    have hl2 := fitL_len p4 D
    have hxl := xorL_len (fitL p3 D) (fitL p4 D)
    have hxt := xorL_lt (fitL_lt hp3 D) (fitL_lt hp4 D)
    refine CW.pre (C' := Sto w [blk b51 5 (nats .u8 (xorL (fitL p3 D) (fitL p4 D))).toArray, own 5 1 q48.1 (fitL p4 D).length q48.2 (nats .u8 (fitL p4 D)), own 5 1 q44.1 (fitL p3 D).length q44.2 (nats .u8 (fitL p3 D)), blk b13 27 (refC m t D g), codeA c m t D q, genOf m t g]) (fun _ hw => by have e := fx_all (fitL p3 D) (fitL p4 D); rw [hl1] at e; rw [← e]; exact hw) ?_
    refine CW.reg [0, 1, 2, 3, 4, 5, 6, 7] rfl ?_   -- 12, law.go:111
    refine s_mv 71 rfl rfl ?_
    refine s_mv 72 rfl rfl ?_
    refine s_call 73 rfl rfl rfl rfl (fun w hw => cFast_ok c m t D q q44.1 (fitL p3 D).length q44.2 (fitL p3 D) w hMT hq (hw.has (i := 4) rfl) ((hw.has (i := 2) rfl).of_own) (fitL_lt hp3 D) (by omega) hq44 (by omega)) (fun _ _ => trivial) (fun q73 hq73 => ?_)
    refine s_mv 70 rfl rfl ?_
    refine s_ext 74 rfl rfl rfl ?_
    refine s_ext 75 rfl rfl rfl ?_
    refine s_as 19 rfl rfl ?_
    refine s_as 20 rfl rfl ?_
    refine SX.next ?_
    refine CW.seq ?_
    refine CW.reg [0, 1, 2, 3, 4, 5, 6, 7] rfl ?_   -- 13, law.go:112
    refine s_mv 77 rfl rfl ?_
    refine s_mv 78 rfl rfl ?_
    refine s_call 79 rfl rfl rfl rfl (fun w hw => cSerial_ok c m t D q q48.1 (fitL p4 D).length q48.2 (fitL p4 D) w hMT hq (hw.has (i := 5) rfl) ((hw.has (i := 2) rfl).of_own) (fitL_lt hp4 D) (by omega) hq48 (by omega)) (fun _ _ => trivial) (fun q79 hq79 => ?_)
    refine s_mv 76 rfl rfl ?_
    refine s_ext 80 rfl rfl rfl ?_
    refine s_ext 81 rfl rfl rfl ?_
    refine s_as 21 rfl rfl ?_
    refine s_as 22 rfl rfl ?_
    refine SX.next ?_
    refine CW.seq ?_
    refine CW.reg [0, 1, 2, 3, 4, 5, 6, 7] rfl ?_   -- 14, law.go:113
    refine s_mv 83 rfl rfl ?_
    refine s_mv 84 rfl rfl ?_
    refine s_call 85 rfl rfl rfl rfl (fun w hw => by have := cFast_ok c m t D q (some ⟨b51, 0, none⟩) D D (xorL (fitL p3 D) (fitL p4 D)) w hMT hq (hw.has (i := 6) rfl) (Has.cong ((hw.has (i := 2) rfl).blk_sl (m := D) (sz := 1) (by simp [hxl, hl1])) rfl) hxt (by omega) (Nat.le_refl _) rfl; exact this) (fun _ _ => trivial) (fun q85 hq85 => ?_)
    refine s_mv 82 rfl rfl ?_
    refine s_ext 86 rfl rfl rfl ?_
    refine s_ext 87 rfl rfl rfl ?_
    refine s_as 23 rfl rfl ?_
    refine s_as 24 rfl rfl ?_
    refine SX.next ?_
    refine CW.seq ?_
    refine CW.seq ?_
    refine CW.reg [0, 1, 2, 3, 4, 5, 6, 7, 8, 9, 10, 11, 12, 13, 14, 15, 16, 17, 18] rfl ?_   -- 15, law.go:114
    refine s_mv 88 rfl rfl ?_
    refine s_len 89 rfl rfl ?_
    refine s_mv 90 rfl rfl ?_
    refine s_len 91 rfl rfl ?_
    refine s_ne 92 rfl rfl rfl (decide_eq_false (fun h => h (by rw [encB_len, encB_len]))) ?_
    refine s_mv 93 rfl rfl ?_
    refine s_mv 94 rfl rfl ?_
    refine s_len 95 rfl rfl ?_
    refine s_mv 96 rfl rfl ?_
    refine s_len 97 rfl rfl ?_
    refine s_ne 98 rfl rfl rfl (decide_eq_false (fun h => h (by rw [encB_len, encB_len]))) ?_
    refine s_pickF 99 rfl rfl rfl ?_
    refine s_mv 100 rfl rfl ?_
    refine s_mv 101 rfl rfl ?_
    refine s_len 102 rfl rfl ?_
    refine s_ldW 103 6 rfl rfl rfl ?_
    refine s_call1 104 rfl rfl rfl rfl (fun w hw => rPar_spec m t D g w hMT) (fun _ _ => trivial) ?_
    refine s_ne 105 rfl rfl rfl (decide_eq_false (fun h => h (by rw [encB_len]))) ?_
    refine s_pickF 106 rfl rfl rfl ?_
    refine SX.next ?_
    refine CW.condF rfl ?_
    refine CW.skip ?_
    refine KN.code ?_
    refine CW.seq ?_
    refine CW.seq ?_
    refine CW.reg [0] rfl ?_   -- 17, law.go:117
    refine s_as 25 rfl rfl ?_
    refine SX.next ?_
    refine CW.block ?_
    refine CW.loop (G := Nat) (fun i => [(12, .pointer (some ⟨c, 0, none⟩)), (17, .slice (some ⟨b51, 0, none⟩) D D), (19, .slice q73.1 (encB m t (fitL p3 D)).length q73.2), (21, .slice q79.1 (encB m t (fitL p4 D)).length q79.2), (23, .slice q85.1 (encB m t (xorL (fitL p3 D) (fitL p4 D))).length q85.2), (25, .int .i64 (i : Nat))]) (fun i => Sto w [own 5 1 q85.1 (encB m t (xorL (fitL p3 D) (fitL p4 D))).length q85.2 (nats .u8 (encB m t (xorL (fitL p3 D) (fitL p4 D)))), own 5 1 q79.1 (encB m t (fitL p4 D)).length q79.2 (nats .u8 (encB m t (fitL p4 D))), own 5 1 q73.1 (encB m t (fitL p3 D)).length q73.2 (nats .u8 (encB m t (fitL p3 D))), blk b51 5 (nats .u8 (xorL (fitL p3 D) (fitL p4 D))).toArray, own 5 1 q48.1 (fitL p4 D).length q48.2 (nats .u8 (fitL p4 D)), own 5 1 q44.1 (fitL p3 D).length q44.2 (nats .u8 (fitL p3 D)), blk b13 27 (refC m t D g), codeA c m t D q, genOf m t g]) (fun i => i ≤ prB m t) (fun i => prB m t - i) 0 ⟨rfl, rfl, rfl, rfl, rfl, rfl, trivial⟩ (fun _ hw => hw) (Nat.zero_le _) ?_
    intro i hi
    have hb1 := encB_len m t (fitL p3 D)
    have hb2 := encB_len m t (fitL p4 D)
    have hb3 := encB_len m t (xorL (fitL p3 D) (fitL p4 D))
    refine CW.seq ?_
    refine CW.seq ?_
    refine CW.reg [0, 1, 2, 3] rfl ?_   -- 18, law.go:117
    refine s_mv 107 rfl rfl ?_
    refine s_mv 108 rfl rfl ?_
    refine s_len 109 rfl rfl ?_
    refine s_lt 110 rfl rfl rfl rfl ?_
    refine SX.next ?_
    refine CW.test rfl (fun hc => ?_) (fun hc => ?_)
    · skip
      refine CW.skip ?_
      refine KN.code ?_
      refine CW.seq ?_
      refine CW.block ?_
      refine CW.seq ?_
      refine CW.regD (.st true 0 (.st true 1 (.st true 2 (.st true 3 (.st true 4 (.st true 5 (.st true 6 (.st true 7 (.st true 8 (.st true 9 (.st true 10 (.st true 11 (.st true 12 (.st true 13 .done)))))))))))))) (Sto w [own 5 1 q85.1 (encB m t (xorL (fitL p3 D) (fitL p4 D))).length q85.2 (nats .u8 (encB m t (xorL (fitL p3 D) (fitL p4 D)))), own 5 1 q79.1 (encB m t (fitL p4 D)).length q79.2 (nats .u8 (encB m t (fitL p4 D))), own 5 1 q73.1 (encB m t (fitL p3 D)).length q73.2 (nats .u8 (encB m t (fitL p3 D))), blk b51 5 (nats .u8 (xorL (fitL p3 D) (fitL p4 D))).toArray, own 5 1 q48.1 (fitL p4 D).length q48.2 (nats .u8 (fitL p4 D)), own 5 1 q44.1 (fitL p3 D).length q44.2 (nats .u8 (fitL p3 D)), blk b13 27 (refC m t D g), codeA c m t D q, genOf m t g]) mixed (by kernel_rfl) (fun _ h => h.drew) (fun _ hw => hw) ?_
      refine s_mv 113 rfl rfl ?_
      refine s_mv 114 rfl rfl ?_
      refine s_iaO 115 2 i rfl rfl rfl rfl rfl (by omega) ?_
      refine s_ldS 116 rfl rfl (fun _ hw => hw.ownCell (q := 2) rfl (natsAt8 (by omega))) ?_
      refine s_mv 117 rfl rfl ?_
      refine s_mv 118 rfl rfl ?_
      refine s_iaO 119 1 i rfl rfl rfl rfl rfl (by omega) ?_
      refine s_ldS 120 rfl rfl (fun _ hw => hw.ownCell (q := 1) rfl (natsAt8 (by omega))) ?_
      refine s_bit 121 rfl rfl rfl rfl (ibit_xor_u8 (cf_lt8 (enc_lt hMT _) _) (cf_lt8 (enc_lt hMT _) _)) ?_
      refine s_mv 122 rfl rfl ?_
      refine s_mv 123 rfl rfl ?_
      refine s_iaO 124 0 i rfl rfl rfl rfl rfl (by omega) ?_
      refine s_ldS 125 rfl rfl (fun _ hw => hw.ownCell (q := 0) rfl (natsAt8 (by omega))) ?_
      refine s_ne 126 rfl rfl rfl (decide_eq_false (fun h => h (by rw [enc_xor8 hMT (by omega) (by omega)]))) ?_
      refine SX.next ?_
      refine CW.condF rfl ?_
      refine CW.skip ?_
      refine KN.blk ?_
      refine KN.code ?_
      refine CW.reg [0, 1, 2] rfl ?_   -- 19, law.go:117
      refine s_mv 111 rfl rfl ?_
      refine s_add 112 rfl rfl rfl (r := ((i + 1 : Nat) : Int)) (w64 (by omega)) ?_
      refine s_as 25 rfl rfl ?_
      refine SX.end_ ?_
      exact KN.back (i + 1) ⟨rfl, rfl, rfl, rfl, rfl, rfl, trivial⟩ (fun _ hw => hw) (by omega) (by omega)
    · skip
      refine CW.exit rfl ?_
      refine KN.code ?_
      refine CW.seq ?_
      refine CW.reg [0, 1, 2, 3, 4] rfl ?_   -- 22, law.go:122
      refine s_mv 127 rfl rfl ?_
      refine s_mv 128 rfl rfl ?_
      refine s_mv 129 rfl rfl ?_
      refine s_call1 130 rfl rfl rfl rfl (v := .bool true) (fun w hw => by have := cRight_ok c m t D q (some ⟨b51, 0, none⟩) D D (xorL (fitL p3 D) (fitL p4 D)) q85.1 (encB m t (xorL (fitL p3 D) (fitL p4 D))).length q85.2 (encB m t (xorL (fitL p3 D) (fitL p4 D))) w hMT hq (hw.has (i := 7) rfl) (Has.cong ((hw.has (i := 3) rfl).blk_sl (m := D) (sz := 1) (by simp [hxl, hl1])) rfl) hxt (by omega) (Nat.le_refl _) rfl ((hw.has (i := 0) rfl).of_own) (enc_lt hMT _); rw [decide_eq_true rfl] at this; exact this) (fun _ _ => trivial) ?_
      refine s_as 10 rfl rfl ?_
      refine SX.next ?_
      refine CW.ret ?_
      exact KN.ret (rs := [.tmp 10]) Tryd.results5 rfl (fun w hw => ⟨rfl, hw.nothing⟩)
end Go.Proofs.YtompcfingkoldaaDoor
end
