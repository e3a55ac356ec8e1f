/- The walk of the statement EncodeFlips. Conditions: each theorem tells its own. -/
import Derived.Test.YtompcfingkoldaaDoorGB
import Derived.Test.YtompcfingkoldaaDoorRows
import Derived.LaidLaws
import Derived.WalkKit
import Derived.ProofKit
import Derived.OpenShut
import Derived.Deep.DeepHandedRow
import Derived.Deep.DeepWitnessRowRef
import Derived.Test.YtompcfingkoldaaDoorGG
section
/- What a row's list of error variables gives a walk: each holds a pointer of its own. No condition. -/
namespace Go.Proofs.YtompcfingkoldaaDoor
open Go.Sx Go.ChangeShapes Go.WideShapes Go.RowKit

theorem laidOutT : laidOutB Tryd.prog = true := by kernel_rfl
theorem errStar : "*" ++ "errors.errorString" = "*errors.errorString" := by decide
theorem errRow (u : TypeId) (h : Tryd.prog.typeName? 3 u = some "*errors.errorString") : u = 262 :=
  typeName_ptr_named (nm := "errors.errorString") (by rw [errStar]; kernel_rfl) (by kernel_rfl) (by decide) u (by rw [errStar]; exact h)
theorem errCells : Tryd.prog.cellsOf 279 = 1 := by kernel_rfl
theorem strCells : Tryd.prog.cellsOf 9 = 1 := by kernel_rfl
theorem noKnob : ownKnob Tryd.prog.godebug = none := by kernel_rfl

/-- The pointer that error variable k holds. -/
noncomputable def eOf (W : World) (k : Nat) : Addr := open Classical in if h : ∃ a, W.cell? ⟨k, 0, none⟩ = some (.iface 262 (.pointer (some a))) then Classical.choose h else default

theorem er_of {W : World} {k : Nat} (h : ∃ a, W.cell? ⟨k, 0, none⟩ = some (.iface 262 (.pointer (some a)))) : Er (eOf W) W k := by
  unfold Er errV eOf
  rw [dif_pos h]
  exact Classical.choose_spec h

set_option maxRecDepth 100000 in
theorem er_laid {W : World} : ∀ {l : List (String × DataW Unit)} {ps : List MemPlace}, DataW.LaidVars Tryd.prog W l ps →
    (∀ b off, MemPlace.cell b off ∈ ps → (∃ c t, W.heap[b]? = some (.cells c t (0, 0))) ∧ ∀ u v, W.cell? ⟨b, off, none⟩ = some (.iface u v) → Value.okWide Tryd.prog W .any 0 u v) →
    ∀ n d, (n, d) ∈ l → ∀ text k, d = .iface "*errors.errorString" (.ptr (.agg [.lit (.string text)])) → Tryd.prog.globalNamed n = some k → (Tryd.prog.globals[k]?).map (·.type) = some 34 → Er (eOf W) W k
  | [], _, _, _, _, _, h, _, _, _, _, _ => by cases h
  | (n0, d0) :: r, ps, hl, hrows, n, d, hm, text, k, hd, hk, ht => by
    obtain ⟨g, t, cs, fuel, p, q, hg, htg, hv, htr, hr, hps⟩ := hl
    rcases List.mem_cons.1 hm with he | hm
    · simp only [Prod.mk.injEq] at he
      obtain ⟨rfl, rfl⟩ := he
      subst hd
      obtain rfl := Option.some.inj (hk.symm.trans hg)
      obtain rfl := Option.some.inj (ht.symm.trans htg)
      obtain ⟨l0⟩ := cs
      have ok0 : ∀ u v, l0 = [.iface u v] → Value.okWide Tryd.prog W .any 0 u v := fun u v e => by
        subst e
        exact (hrows k 0 (by rw [hps]; simp [MemPlace.row])).2 u v (by simpa using World.var?_cell hg hv 0)
      obtain ⟨a, s, rfl, _⟩ := errorString_of_trod Tryd.underlying34 errRow Tryd.underlying262 Tryd.underlying279 rfl rfl Tryd.underlying9 errCells strCells htr ok0
      exact er_of ⟨a, by simpa using World.var?_cell hg hv 0⟩
    · exact er_laid hr (fun b off hb => hrows b off (by rw [hps]; exact List.mem_append_right _ hb)) n d hm text k hd hk ht

theorem er_met {W : World} {l : List (String × DataW Unit)} (h : laidMet Tryd.prog l W) (n : String) (d : DataW Unit) (hm : (n, d) ∈ l) (text : List UInt8) (k : Nat) (hd : d = .iface "*errors.errorString" (.ptr (.agg [.lit (.string text)])))
    (hk : Tryd.prog.globalNamed n = some k) (ht : (Tryd.prog.globals[k]?).map (·.type) = some 34) : Er (eOf W) W k :=
  let ⟨_, h1, _, h3⟩ := h
  er_laid h1 h3 n d hm text k hd hk ht

theorem fr_below {w w' : World} (h : Sto w [] w') : Below w.heap.size w w' := h.fr.below
end Go.Proofs.YtompcfingkoldaaDoor
end
section
/- The statement EncodeFlips, walked. Conditions: the errors' variables. -/
namespace Go.Proofs.YtompcfingkoldaaDoor
open Go Go.Sx Go.Fm Nb
set_option maxRecDepth 100000
/-- A place of any number. -/
def plc (m t D : Nat) (x : Int) : Nat := (x % ((8 * D + dg m t : Nat) : Int)).toNat
theorem plc_lt {m t D : Nat} (h : 1 ≤ D) (x : Int) : plc m t D x < 8 * D + dg m t := by
  have h1 := Int.emod_nonneg x (b := ((8 * D + dg m t : Nat) : Int)) (by omega)
  have h2 := Int.emod_lt_of_pos x (b := ((8 * D + dg m t : Nat) : Int)) (by omega)
  unfold plc
  omega

set_option maxHeartbeats 1600000 in

theorem walk_EncodeFlips (a0 a1 a2 : Int) (A3 : Option Addr) (n3 c3 : Nat) (p3 : List Nat) (a4 a5 : Int) (e : Nat → Addr) (w : World) (ha3 : Has (sl 1 A3 n3 (nats .u8 p3)) w) (hp3 : ∀ x ∈ p3, x < 256) (hn3 : n3 ≤ 9223372036854775807) (hcp3 : n3 ≤ c3) (he : Er e w 2) (heN : Er e w 1) : Spec1 Tryd.prog 9 [.int .i64 a0, .int .i64 a1, .int .i64 a2, .slice A3 n3 c3, .int .i64 a4, .int .i64 a5] w (.bool true) := by
  have hla3 := nats_len ha3
  subst hla3
  refine spec_of Tryd.func9 rfl Tryd.ntmps9 rfl ?_
  refine CW.seq ?_
  refine CW.reg [0] rfl ?_   -- 0, more.go:25
  refine s_as 12 rfl rfl ?_
  refine SX.next ?_
  refine CW.seq ?_
  refine CW.reg [0, 1] rfl ?_   -- 1, more.go:26
  refine s_call1 33 rfl rfl rfl rfl (fun w hw => first6_spec e w (hw.er he)) (fun _ _ => trivial) ?_
  refine s_as 13 rfl rfl ?_
  refine SX.next ?_
  refine CW.seq ?_
  refine CW.reg [0, 1, 2, 3, 4, 5, 6, 7, 8, 9, 10, 11] rfl ?_   -- 2, more.go:27
  refine s_mv 35 rfl rfl ?_
  refine s_mv 36 rfl rfl ?_
  refine s_mv 37 rfl rfl ?_
  refine s_call 38 rfl rfl rfl rfl (fun w hw => shalelaw6_made a0 a1 a2 w) (fun _ _ => trivial) (fun z hz => ?_)
  obtain ⟨c, q, m, t, D, g⟩ := z
  obtain ⟨hC, hq, hg, hmM, htT, hdB, hm6⟩ := hz
  simp only at hC hq hg hmM htT hdB hm6
  obtain ⟨hMT, h1D, hDm, hfit⟩ := hC
  have hm := hMT.ok
  have hd1 := hMT.d1
  have hd5 := hMT.d560
  have hp1 := hMT.p1
  have hp7 := hMT.p70
  refine SX.pre (C' := Sto w [codeA c m t D q, genOf m t g]) (fun _ hw => hw) ?_
  refine s_mv 34 rfl rfl ?_
  refine s_ext 39 rfl rfl rfl ?_
  refine s_ext 40 rfl rfl rfl ?_
  refine s_ext 41 rfl rfl rfl ?_
  refine s_alloc 15 rfl (fun _ _ => trivial) (fun b15 => ?_)
  refine s_as 14 rfl rfl ?_
  refine s_stAll 0 rfl rfl (by kernel_rfl) rfl rfl rfl rfl (fun _ _ => trivial) ?_
  refine s_as 16 rfl rfl ?_
  refine SX.next ?_
  refine CW.seq ?_
  refine CW.seq ?_
  refine CW.reg [0, 1, 2, 3, 4, 5] rfl ?_   -- 3, more.go:28
  refine s_mv 42 rfl rfl ?_
  refine s_not 43 rfl rfl ?_
  refine s_mv 44 rfl rfl ?_
  refine s_mv 45 rfl rfl ?_
  refine s_not 46 rfl rfl ?_
  refine s_pickF 47 rfl rfl rfl ?_
  refine SX.next ?_
  refine CW.condF rfl ?_
  refine CW.skip ?_
  refine KN.code ?_
  refine CW.seq ?_
  refine CW.reg [0, 1, 2, 3, 4] rfl ?_   -- 5, more.go:31
  refine s_mv 48 rfl rfl ?_
  refine s_fa 49 rfl rfl ?_
  refine s_ldB 50 0 rfl rfl rfl rfl ?_
  refine s_call 51 rfl rfl rfl rfl (fun w hw => shalelaw6_fit A3 p3.length c3 p3 D w (hw.old ha3) hp3 (by omega) hcp3 (by omega)) (fun _ _ => trivial) (fun q51 hq51 => ?_)
  refine s_as 17 rfl rfl ?_
  refine SX.next ?_
  refine CW.seq ?_
  refine CW.reg [0, 1, 2, 3, 4, 5, 6, 7] rfl ?_   -- 6, more.go:32
  refine s_mv 53 rfl rfl ?_
  refine s_mv 54 rfl rfl ?_
  refine s_call 55 rfl rfl rfl rfl (fun w hw => cSerial_ok c m t D q q51.1 (fitL p3 D).length q51.2 (fitL p3 D) w hMT hq (hw.has (i := 2) rfl) ((hw.has (i := 0) rfl).of_own) (fitL_lt hp3 D) (by have := (fitL_len p3 D); omega) hq51 (fitL_len p3 D)) (fun _ _ => trivial) (fun q55 hq55 => ?_)
  refine s_mv 52 rfl rfl ?_
  refine s_ext 56 rfl rfl rfl ?_
  refine s_ext 57 rfl rfl rfl ?_
  refine s_as 18 rfl rfl ?_
  refine s_as 19 rfl rfl ?_
  refine SX.next ?_
  refine CW.seq ?_
  refine CW.regD (.st true 0 (.st true 1 (.st true 4 (.st true 7 (.st false 2 (.st true 3 (.st false 5 (.st true 6 (.st false 8 (.st true 9 (.st true 10 .done))))))))))) (Sto w [own 5 1 q55.1 (encB m t (fitL p3 D)).length q55.2 (nats .u8 (encB m t (fitL p3 D))), own 5 1 q51.1 (fitL p3 D).length q51.2 (nats .u8 (fitL p3 D)), blk b15 27 (refC m t D g), codeA c m t D q, genOf m t g]) mixed (by kernel_rfl) (fun _ h => h.drew) (fun _ hw => hw) ?_
  refine s_mv 58 rfl rfl ?_
  refine s_ldRS 59 (cs := (refC m t D g).toList) rfl rfl rfl (fun _ hw => hw.blkRow (i := 2) rfl) ?_
  refine s_ldRS 62 (cs := (refC m t D g).toList) rfl rfl rfl (fun _ hw => hw.blkRow (i := 2) rfl) ?_
  refine s_ldRS 65 (cs := (refC m t D g).toList) rfl rfl rfl (fun _ hw => hw.blkRow (i := 2) rfl) ?_
  refine s_call1 60 rfl rfl rfl rfl (fun w hw => rBits_spec m t D g w hMT hDm) (fun _ hw => hw) ?_
  refine s_rem 61 rfl rfl rfl (by omega) rfl ?_
  refine s_call1 63 rfl rfl rfl rfl (fun w hw => rBits_spec m t D g w hMT hDm) (fun _ hw => hw) ?_
  refine s_add 64 rfl rfl rfl (r := a4.tmod ((8 * D + dg m t : Nat) : Int) + ((8 * D + dg m t : Nat) : Int)) (w64 (by have := tmod_lt2 (k := ((8 * D + dg m t : Nat) : Int)) (by omega) a4; omega)) ?_
  refine s_call1 66 rfl rfl rfl rfl (fun w hw => rBits_spec m t D g w hMT hDm) (fun _ hw => hw) ?_
  refine s_rem 67 rfl rfl rfl (by omega) (r := (((plc m t D a4) : Nat) : Int)) (mkm_val (by omega) _) ?_
  refine s_as 4 rfl rfl ?_
  refine SX.next ?_
  refine CW.seq ?_
  refine CW.regD (.st true 0 (.st true 1 (.st true 4 (.st true 7 (.st false 2 (.st true 3 (.st false 5 (.st true 6 (.st false 8 (.st true 9 (.st true 10 .done))))))))))) (Sto w [own 5 1 q55.1 (encB m t (fitL p3 D)).length q55.2 (nats .u8 (encB m t (fitL p3 D))), own 5 1 q51.1 (fitL p3 D).length q51.2 (nats .u8 (fitL p3 D)), blk b15 27 (refC m t D g), codeA c m t D q, genOf m t g]) mixed (by kernel_rfl) (fun _ h => h.drew) (fun _ hw => hw) ?_
  refine s_mv 68 rfl rfl ?_
  refine s_ldRS 69 (cs := (refC m t D g).toList) rfl rfl rfl (fun _ hw => hw.blkRow (i := 2) rfl) ?_
  refine s_ldRS 72 (cs := (refC m t D g).toList) rfl rfl rfl (fun _ hw => hw.blkRow (i := 2) rfl) ?_
  refine s_ldRS 75 (cs := (refC m t D g).toList) rfl rfl rfl (fun _ hw => hw.blkRow (i := 2) rfl) ?_
  refine s_call1 70 rfl rfl rfl rfl (fun w hw => rBits_spec m t D g w hMT hDm) (fun _ hw => hw) ?_
  refine s_rem 71 rfl rfl rfl (by omega) rfl ?_
  refine s_call1 73 rfl rfl rfl rfl (fun w hw => rBits_spec m t D g w hMT hDm) (fun _ hw => hw) ?_
  refine s_add 74 rfl rfl rfl (r := a5.tmod ((8 * D + dg m t : Nat) : Int) + ((8 * D + dg m t : Nat) : Int)) (w64 (by have := tmod_lt2 (k := ((8 * D + dg m t : Nat) : Int)) (by omega) a5; omega)) ?_
  refine s_call1 76 rfl rfl rfl rfl (fun w hw => rBits_spec m t D g w hMT hDm) (fun _ hw => hw) ?_
  refine s_rem 77 rfl rfl rfl (by omega) (r := (((plc m t D a5) : Nat) : Int)) (mkm_val (by omega) _) ?_
  refine s_as 5 rfl rfl ?_
  refine SX.next ?_
  refine CW.seq ?_
  have hfl := fitL_len p3 D
  have hflt := fitL_lt hp3 D
  have hpi := plc_lt (m := m) (t := t) h1D a4
  have hpj := plc_lt (m := m) (t := t) h1D a5
  have hpl := encB_len m t (fitL p3 D)
  have hplt := enc_lt hMT (fitL p3 D)
  have h2N : 2 * t < N m := by have := N_succ m; have : 2 ^ 6 ≤ 2 ^ m := Nat.pow_le_pow_right (by omega) hm6; omega
  refine CW.reg [0, 1, 2, 3, 4, 5, 6, 7, 8, 9, 10, 11] rfl ?_   -- 9, more.go:35
  refine s_mv 79 rfl rfl ?_
  refine s_mv 80 rfl rfl ?_
  refine s_mv 81 rfl rfl ?_
  refine s_mv 82 rfl rfl ?_
  refine s_call 83 rfl rfl rfl rfl (fun w hw => cFlip_ok c m t D q q51.1 (fitL p3 D).length q51.2 (fitL p3 D) q55.1 (encB m t (fitL p3 D)).length q55.2 (encB m t (fitL p3 D)) (plc m t D a4) w hMT hDm (hw.has (i := 3) rfl) ((hw.has (i := 1) rfl).of_own) (fitL_lt hp3 D) (by have := (show (fitL p3 D).length = D by first | exact fitL_len _ _ | (rw [fpD_len]; exact fitL_len _ _) | (rw [fpD_len, fpD_len]; exact fitL_len _ _)); omega) hq51 ((hw.has (i := 0) rfl).of_own) (enc_lt hMT (fitL p3 D)) (by have := (show (encB m t (fitL p3 D)).length = prB m t by first | exact encB_len _ _ _ | (rw [fpP_len]; exact encB_len _ _ _) | (rw [fpP_len, fpP_len]; exact encB_len _ _ _)); omega) hq55 (show (fitL p3 D).length = D by first | exact fitL_len _ _ | (rw [fpD_len]; exact fitL_len _ _) | (rw [fpD_len, fpD_len]; exact fitL_len _ _)) (show (encB m t (fitL p3 D)).length = prB m t by first | exact encB_len _ _ _ | (rw [fpP_len]; exact encB_len _ _ _) | (rw [fpP_len, fpP_len]; exact encB_len _ _ _)) hpi) (fun _ _ => trivial) (fun q83 hq83 => ?_)
  refine s_mv 78 rfl rfl ?_
  refine s_ext 84 rfl rfl rfl ?_
  refine s_ext 85 rfl rfl rfl ?_
  refine s_ext 86 rfl rfl rfl ?_
  refine s_as 20 rfl rfl ?_
  refine s_as 21 rfl rfl ?_
  refine s_as 22 rfl rfl ?_
  refine SX.next ?_
  refine CW.seq ?_
  refine CW.reg [0, 1, 2, 3, 4, 5, 6, 7, 8, 9, 10, 11] rfl ?_   -- 10, more.go:36
  refine s_mv 88 rfl rfl ?_
  refine s_mv 89 rfl rfl ?_
  refine s_mv 90 rfl rfl ?_
  refine s_mv 91 rfl rfl ?_
  refine s_call 92 rfl rfl rfl rfl (fun w hw => cFlip_ok c m t D q q83.1.1 (fpD m t (plc m t D a4) (fitL p3 D)).length q83.1.2 (fpD m t (plc m t D a4) (fitL p3 D)) q83.2.1 (fpP m t (plc m t D a4) (encB m t (fitL p3 D))).length q83.2.2 (fpP m t (plc m t D a4) (encB m t (fitL p3 D))) (plc m t D a4) w hMT hDm (hw.has (i := 5) rfl) ((hw.has (i := 0) rfl).of_own) (fpD_lt (fitL_lt hp3 D) m t (plc m t D a4)) (by have := (show (fpD m t (plc m t D a4) (fitL p3 D)).length = D by first | exact fitL_len _ _ | (rw [fpD_len]; exact fitL_len _ _) | (rw [fpD_len, fpD_len]; exact fitL_len _ _)); omega) hq83.1 ((hw.has (i := 1) rfl).of_own) (fpP_lt (enc_lt hMT (fitL p3 D)) m t (plc m t D a4)) (by have := (show (fpP m t (plc m t D a4) (encB m t (fitL p3 D))).length = prB m t by first | exact encB_len _ _ _ | (rw [fpP_len]; exact encB_len _ _ _) | (rw [fpP_len, fpP_len]; exact encB_len _ _ _)); omega) hq83.2 (show (fpD m t (plc m t D a4) (fitL p3 D)).length = D by first | exact fitL_len _ _ | (rw [fpD_len]; exact fitL_len _ _) | (rw [fpD_len, fpD_len]; exact fitL_len _ _)) (show (fpP m t (plc m t D a4) (encB m t (fitL p3 D))).length = prB m t by first | exact encB_len _ _ _ | (rw [fpP_len]; exact encB_len _ _ _) | (rw [fpP_len, fpP_len]; exact encB_len _ _ _)) hpi) (fun _ _ => trivial) (fun q92 hq92 => ?_)
  refine s_mv 87 rfl rfl ?_
  refine s_ext 93 rfl rfl rfl ?_
  refine s_ext 94 rfl rfl rfl ?_
  refine s_ext 95 rfl rfl rfl ?_
  refine s_as 23 rfl rfl ?_
  refine s_as 24 rfl rfl ?_
  refine s_as 25 rfl rfl ?_
  refine SX.next ?_
  refine CW.seq ?_
  refine CW.reg [0, 1, 2, 3, 4, 5, 6, 7, 8, 9, 10, 11] rfl ?_   -- 11, more.go:37
  refine s_mv 97 rfl rfl ?_
  refine s_mv 98 rfl rfl ?_
  refine s_mv 99 rfl rfl ?_
  refine s_mv 100 rfl rfl ?_
  refine s_call 101 rfl rfl rfl rfl (fun w hw => cFlip_ok c m t D q q51.1 (fitL p3 D).length q51.2 (fitL p3 D) q55.1 (encB m t (fitL p3 D)).length q55.2 (encB m t (fitL p3 D)) (plc m t D a5) w hMT hDm (hw.has (i := 7) rfl) ((hw.has (i := 5) rfl).of_own) (fitL_lt hp3 D) (by have := (show (fitL p3 D).length = D by first | exact fitL_len _ _ | (rw [fpD_len]; exact fitL_len _ _) | (rw [fpD_len, fpD_len]; exact fitL_len _ _)); omega) hq51 ((hw.has (i := 4) rfl).of_own) (enc_lt hMT (fitL p3 D)) (by have := (show (encB m t (fitL p3 D)).length = prB m t by first | exact encB_len _ _ _ | (rw [fpP_len]; exact encB_len _ _ _) | (rw [fpP_len, fpP_len]; exact encB_len _ _ _)); omega) hq55 (show (fitL p3 D).length = D by first | exact fitL_len _ _ | (rw [fpD_len]; exact fitL_len _ _) | (rw [fpD_len, fpD_len]; exact fitL_len _ _)) (show (encB m t (fitL p3 D)).length = prB m t by first | exact encB_len _ _ _ | (rw [fpP_len]; exact encB_len _ _ _) | (rw [fpP_len, fpP_len]; exact encB_len _ _ _)) hpj) (fun _ _ => trivial) (fun q101 hq101 => ?_)
  refine s_mv 96 rfl rfl ?_
  refine s_ext 102 rfl rfl rfl ?_
  refine s_ext 103 rfl rfl rfl ?_
  refine s_ext 104 rfl rfl rfl ?_
  refine s_as 26 rfl rfl ?_
  refine s_as 27 rfl rfl ?_
  refine s_as 28 rfl rfl ?_
  refine SX.next ?_
  refine CW.seq ?_
  refine CW.reg [0, 1, 2, 3, 4, 5, 6, 7, 8, 9, 10, 11, 12] rfl ?_   -- 12, more.go:38
  refine s_mv 106 rfl rfl ?_
  refine s_mv 107 rfl rfl ?_
  refine s_mv 108 rfl rfl ?_
  refine s_ldW 109 8 rfl rfl rfl ?_
  refine s_call1 110 rfl rfl rfl rfl (fun w hw => rBits_spec m t D g w hMT hDm) (fun _ _ => trivial) ?_
  refine s_call1 111 rfl rfl rfl rfl (fun w hw => cFlip_num c m t D q q51.1 (fitL p3 D).length q51.2 (fitL p3 D) q55.1 (encB m t (fitL p3 D)).length q55.2 (encB m t (fitL p3 D)) ((8 * D + dg m t : Nat) : Int) e w hMT hDm (hw.has (i := 9) rfl) (hw.er heN) (by have := hfl; omega) (by have := hpl; omega) (.inr (Int.le_refl _))) (fun _ _ => trivial) ?_
  refine s_mv 105 rfl rfl ?_
  refine s_ext 112 rfl rfl rfl ?_
  refine s_ext 113 rfl rfl rfl ?_
  refine s_ext 114 rfl rfl rfl ?_
  refine s_as 29 rfl rfl ?_
  refine s_as 30 rfl rfl ?_
  refine s_as 31 rfl rfl ?_
  refine SX.next ?_
  refine CW.seq ?_
  refine CW.reg [0, 1, 2, 3, 4, 5, 6, 7, 8] rfl ?_   -- 13, more.go:39
  refine s_mv 115 rfl rfl ?_
  refine s_mv 116 rfl rfl ?_
  have hbD := fp_backD (m := m) (t := t) hfl hflt hpi
  have hbP := fp_backP (m := m) (t := t) hpl hplt (plc m t D a4)
  have hone := fp_one (m := m) (t := t) hfl hpl hpi
  refine s_call1 117 rfl rfl rfl rfl (v := .bool (decide ((fpD m t (plc m t D a4) (fitL p3 D)) = (fpD m t (plc m t D a5) (fitL p3 D))))) (fun w hw => by have := sameBytes_spec q83.1.1 (fpD m t (plc m t D a4) (fitL p3 D)).length q83.1.2 (fpD m t (plc m t D a4) (fitL p3 D)) q101.1.1 (fpD m t (plc m t D a5) (fitL p3 D)).length q101.1.2 (fpD m t (plc m t D a5) (fitL p3 D)) w ((hw.has (i := 4) rfl).of_own) (fpD_lt (fitL_lt hp3 D) m t (plc m t D a4)) ((hw.has (i := 0) rfl).of_own) (fpD_lt (fitL_lt hp3 D) m t (plc m t D a5)); exact this) (fun _ _ => trivial) ?_
  refine s_mv 118 rfl rfl ?_
  refine SX.bool 118 rfl (fun hb => ?_) (fun hb => ?_)
  · skip
    replace hb := of_decide_eq_true hb
    have hiff : ((fpP m t (plc m t D a4) (encB m t (fitL p3 D))) = (fpP m t (plc m t D a5) (encB m t (fitL p3 D)))) ↔ ((plc m t D a4) = (plc m t D a5)) := ⟨fun h => Classical.byContradiction fun hne => fp_apart hfl hpl hpi hpj hne hb h, fun h => by rw [h]⟩
    refine s_mv 119 rfl rfl ?_
    refine s_mv 120 rfl rfl ?_
    refine s_call1 121 rfl rfl rfl rfl (v := .bool (decide ((fpP m t (plc m t D a4) (encB m t (fitL p3 D))) = (fpP m t (plc m t D a5) (encB m t (fitL p3 D)))))) (fun w hw => by have := sameBytes_spec q83.2.1 (fpP m t (plc m t D a4) (encB m t (fitL p3 D))).length q83.2.2 (fpP m t (plc m t D a4) (encB m t (fitL p3 D))) q101.2.1 (fpP m t (plc m t D a5) (encB m t (fitL p3 D))).length q101.2.2 (fpP m t (plc m t D a5) (encB m t (fitL p3 D))) w ((hw.has (i := 5) rfl).of_own) (fpP_lt (enc_lt hMT (fitL p3 D)) m t (plc m t D a4)) ((hw.has (i := 1) rfl).of_own) (fpP_lt (enc_lt hMT (fitL p3 D)) m t (plc m t D a5)); exact this) (fun _ _ => trivial) ?_
    refine s_pickT 122 rfl rfl rfl ?_
    refine s_as 32 rfl rfl ?_
    refine SX.next ?_
    refine CW.seq ?_
    refine CW.reg [0, 1, 2, 3, 4, 5, 6, 7, 8, 9, 10, 11, 12, 13, 14, 15, 16, 17, 18, 19, 20, 21, 22, 23, 24, 25, 26, 27, 28, 29, 30, 31, 32, 33, 34, 35, 36, 37, 38, 39, 40, 41, 42, 43, 44, 45, 46, 47, 48, 49, 50, 51, 52, 53, 54, 55] rfl ?_   -- 14, more.go:40
    refine s_mv 123 rfl rfl ?_
    refine s_eqNN 124 rfl rfl ?_
    refine s_mv 125 rfl rfl ?_
    refine s_mv 126 rfl rfl ?_
    refine s_eqNN 127 rfl rfl ?_
    refine s_pickT 128 rfl rfl rfl ?_
    refine s_mv 129 rfl rfl ?_
    refine s_mv 130 rfl rfl ?_
    refine s_eqNN 131 rfl rfl ?_
    refine s_pickT 132 rfl rfl rfl ?_
    refine s_mv 133 rfl rfl ?_
    refine s_mv 134 rfl rfl ?_
    refine s_ld 135 rfl rfl (fun _ h => h.cell heN) ?_
    refine s_eqE 136 rfl rfl rfl ?_
    refine s_pickT 137 rfl rfl rfl ?_
    refine s_mv 138 rfl rfl ?_
    refine s_mv 139 rfl rfl ?_
    refine s_mv 140 rfl rfl ?_
    refine s_mv 141 rfl rfl ?_
    refine s_call1 142 rfl rfl rfl rfl (v := .bool false) (fun w hw => by have := cRight_ok c m t D q q83.1.1 (fpD m t (plc m t D a4) (fitL p3 D)).length q83.1.2 (fpD m t (plc m t D a4) (fitL p3 D)) q83.2.1 (fpP m t (plc m t D a4) (encB m t (fitL p3 D))).length q83.2.2 (fpP m t (plc m t D a4) (encB m t (fitL p3 D))) w hMT hq (hw.has (i := 9) rfl) ((hw.has (i := 4) rfl).of_own) (fpD_lt (fitL_lt hp3 D) m t (plc m t D a4)) (by have := (show (fpD m t (plc m t D a4) (fitL p3 D)).length = D by first | exact fitL_len _ _ | (rw [fpD_len]; exact fitL_len _ _) | (rw [fpD_len, fpD_len]; exact fitL_len _ _)); omega) hq83.1 (show (fpD m t (plc m t D a4) (fitL p3 D)).length = D by first | exact fitL_len _ _ | (rw [fpD_len]; exact fitL_len _ _) | (rw [fpD_len, fpD_len]; exact fitL_len _ _)) ((hw.has (i := 5) rfl).of_own) (fpP_lt (enc_lt hMT (fitL p3 D)) m t (plc m t D a4)); rw [decide_eq_false (flip_wrong hMT hfl hfit h2N hpi)] at this; exact this) (fun _ _ => trivial) ?_
    refine s_not 143 rfl rfl ?_
    refine s_pickT 144 rfl rfl rfl ?_
    refine s_mv 145 rfl rfl ?_
    refine s_mv 146 rfl rfl ?_
    refine s_mv 147 rfl rfl ?_
    refine s_mv 148 rfl rfl ?_
    refine s_call1 149 rfl rfl rfl rfl (v := .bool true) (fun w hw => by have := cRight_ok c m t D q q92.1.1 (fpD m t (plc m t D a4) (fpD m t (plc m t D a4) (fitL p3 D))).length q92.1.2 (fpD m t (plc m t D a4) (fpD m t (plc m t D a4) (fitL p3 D))) q92.2.1 (fpP m t (plc m t D a4) (fpP m t (plc m t D a4) (encB m t (fitL p3 D)))).length q92.2.2 (fpP m t (plc m t D a4) (fpP m t (plc m t D a4) (encB m t (fitL p3 D)))) w hMT hq (hw.has (i := 9) rfl) ((hw.has (i := 2) rfl).of_own) (fpD_lt (fpD_lt (fitL_lt hp3 D) m t (plc m t D a4)) m t (plc m t D a4)) (by have := (show (fpD m t (plc m t D a4) (fpD m t (plc m t D a4) (fitL p3 D))).length = D by first | exact fitL_len _ _ | (rw [fpD_len]; exact fitL_len _ _) | (rw [fpD_len, fpD_len]; exact fitL_len _ _)); omega) hq92.1 (show (fpD m t (plc m t D a4) (fpD m t (plc m t D a4) (fitL p3 D))).length = D by first | exact fitL_len _ _ | (rw [fpD_len]; exact fitL_len _ _) | (rw [fpD_len, fpD_len]; exact fitL_len _ _)) ((hw.has (i := 3) rfl).of_own) (fpP_lt (fpP_lt (enc_lt hMT (fitL p3 D)) m t (plc m t D a4)) m t (plc m t D a4)); rw [decide_eq_true (by rw [hbD, hbP])] at this; exact this) (fun _ _ => trivial) ?_
    refine s_pickT 150 rfl rfl rfl ?_
    refine s_mv 151 rfl rfl ?_
    refine s_mv 152 rfl rfl ?_
    refine s_mv 153 rfl rfl ?_
    refine s_call1 154 rfl rfl rfl rfl (v := .bool true) (fun w hw => by have := sameBytes_spec q92.1.1 (fpD m t (plc m t D a4) (fpD m t (plc m t D a4) (fitL p3 D))).length q92.1.2 (fpD m t (plc m t D a4) (fpD m t (plc m t D a4) (fitL p3 D))) q51.1 (fitL p3 D).length q51.2 (fitL p3 D) w ((hw.has (i := 2) rfl).of_own) (fpD_lt (fpD_lt (fitL_lt hp3 D) m t (plc m t D a4)) m t (plc m t D a4)) ((hw.has (i := 7) rfl).of_own) (fitL_lt hp3 D); rw [decide_eq_true hbD] at this; exact this) (fun _ _ => trivial) ?_
    refine s_pickT 155 rfl rfl rfl ?_
    refine s_mv 156 rfl rfl ?_
    refine s_mv 157 rfl rfl ?_
    refine s_mv 158 rfl rfl ?_
    refine s_call1 159 rfl rfl rfl rfl (v := .bool true) (fun w hw => by have := sameBytes_spec q92.2.1 (fpP m t (plc m t D a4) (fpP m t (plc m t D a4) (encB m t (fitL p3 D)))).length q92.2.2 (fpP m t (plc m t D a4) (fpP m t (plc m t D a4) (encB m t (fitL p3 D)))) q55.1 (encB m t (fitL p3 D)).length q55.2 (encB m t (fitL p3 D)) w ((hw.has (i := 3) rfl).of_own) (fpP_lt (fpP_lt (enc_lt hMT (fitL p3 D)) m t (plc m t D a4)) m t (plc m t D a4)) ((hw.has (i := 6) rfl).of_own) (enc_lt hMT (fitL p3 D)); rw [decide_eq_true hbP] at this; exact this) (fun _ _ => trivial) ?_
    refine s_pickT 160 rfl rfl rfl ?_
    refine s_mv 161 rfl rfl ?_
    refine s_mv 162 rfl rfl ?_
    refine s_mv 163 rfl rfl ?_
    refine s_mv 164 rfl rfl ?_
    refine s_eq 165 rfl rfl rfl (r := decide ((plc m t D a4) = (plc m t D a5))) (decide_eq_decide.2 (by omega)) ?_
    refine s_eqB 166 rfl rfl rfl (r := true) (by rw [decide_eq_decide.2 hiff]; exact beq_self_eq_true _) ?_
    refine s_pickT 167 rfl rfl rfl ?_
    refine s_mv 168 rfl rfl ?_
    refine s_mv 169 rfl rfl ?_
    refine s_mv 170 rfl rfl ?_
    refine s_call1 171 rfl rfl rfl rfl (fun w hw => dist_spec q83.1.1 (fpD m t (plc m t D a4) (fitL p3 D)).length q83.1.2 (fpD m t (plc m t D a4) (fitL p3 D)) q51.1 (fitL p3 D).length q51.2 (fitL p3 D) w ((hw.has (i := 4) rfl).of_own) (fpD_lt (fitL_lt hp3 D) m t (plc m t D a4)) (by have := (show (fpD m t (plc m t D a4) (fitL p3 D)).length = D by first | exact fitL_len _ _ | (rw [fpD_len]; exact fitL_len _ _) | (rw [fpD_len, fpD_len]; exact fitL_len _ _)); omega) hq83.1 ((hw.has (i := 7) rfl).of_own) (fitL_lt hp3 D) (by have := (show (fitL p3 D).length = D by first | exact fitL_len _ _ | (rw [fpD_len]; exact fitL_len _ _) | (rw [fpD_len, fpD_len]; exact fitL_len _ _)); omega) hq51 (by have h1 := (show (fpD m t (plc m t D a4) (fitL p3 D)).length = D by first | exact fitL_len _ _ | (rw [fpD_len]; exact fitL_len _ _) | (rw [fpD_len, fpD_len]; exact fitL_len _ _)); have h2 := (show (fitL p3 D).length = D by first | exact fitL_len _ _ | (rw [fpD_len]; exact fitL_len _ _) | (rw [fpD_len, fpD_len]; exact fitL_len _ _)); omega)) (fun _ _ => trivial) ?_
    refine s_mv 172 rfl rfl ?_
    refine s_mv 173 rfl rfl ?_
    refine s_call1 174 rfl rfl rfl rfl (fun w hw => dist_spec q83.2.1 (fpP m t (plc m t D a4) (encB m t (fitL p3 D))).length q83.2.2 (fpP m t (plc m t D a4) (encB m t (fitL p3 D))) q55.1 (encB m t (fitL p3 D)).length q55.2 (encB m t (fitL p3 D)) w ((hw.has (i := 5) rfl).of_own) (fpP_lt (enc_lt hMT (fitL p3 D)) m t (plc m t D a4)) (by have := (show (fpP m t (plc m t D a4) (encB m t (fitL p3 D))).length = prB m t by first | exact encB_len _ _ _ | (rw [fpP_len]; exact encB_len _ _ _) | (rw [fpP_len, fpP_len]; exact encB_len _ _ _)); omega) hq83.2 ((hw.has (i := 6) rfl).of_own) (enc_lt hMT (fitL p3 D)) (by have := (show (encB m t (fitL p3 D)).length = prB m t by first | exact encB_len _ _ _ | (rw [fpP_len]; exact encB_len _ _ _) | (rw [fpP_len, fpP_len]; exact encB_len _ _ _)); omega) hq55 (by have h1 := (show (fpP m t (plc m t D a4) (encB m t (fitL p3 D))).length = prB m t by first | exact encB_len _ _ _ | (rw [fpP_len]; exact encB_len _ _ _) | (rw [fpP_len, fpP_len]; exact encB_len _ _ _)); have h2 := (show (encB m t (fitL p3 D)).length = prB m t by first | exact encB_len _ _ _ | (rw [fpP_len]; exact encB_len _ _ _) | (rw [fpP_len, fpP_len]; exact encB_len _ _ _)); omega)) (fun _ _ => trivial) ?_
    refine s_add 175 rfl rfl rfl (r := 1) (by rw [← Int.natCast_add, hone]; rfl) ?_
    refine s_eq 176 rfl rfl rfl (decide_eq_true rfl) ?_
    refine s_pickT 177 rfl rfl rfl ?_
    refine s_as 12 rfl rfl ?_
    refine SX.next ?_
    refine CW.ret ?_
    exact KN.ret (rs := [.tmp 12]) Tryd.results9 rfl (fun w hw => ⟨rfl, hw.nothing⟩)
  · skip
    have hne : ¬ (plc m t D a4) = (plc m t D a5) := fun h => of_decide_eq_false hb (by rw [h])
    refine SX.skip rfl ?_
    refine SX.skip rfl ?_
    refine SX.skip rfl ?_
    refine s_pickF 122 rfl rfl rfl ?_
    refine s_as 32 rfl rfl ?_
    refine SX.next ?_
    refine CW.seq ?_
    refine CW.reg [0, 1, 2, 3, 4, 5, 6, 7, 8, 9, 10, 11, 12, 13, 14, 15, 16, 17, 18, 19, 20, 21, 22, 23, 24, 25, 26, 27, 28, 29, 30, 31, 32, 33, 34, 35, 36, 37, 38, 39, 40, 41, 42, 43, 44, 45, 46, 47, 48, 49, 50, 51, 52, 53, 54, 55] rfl ?_   -- 14, more.go:40
    refine s_mv 123 rfl rfl ?_
    refine s_eqNN 124 rfl rfl ?_
    refine s_mv 125 rfl rfl ?_
    refine s_mv 126 rfl rfl ?_
    refine s_eqNN 127 rfl rfl ?_
    refine s_pickT 128 rfl rfl rfl ?_
    refine s_mv 129 rfl rfl ?_
    refine s_mv 130 rfl rfl ?_
    refine s_eqNN 131 rfl rfl ?_
    refine s_pickT 132 rfl rfl rfl ?_
    refine s_mv 133 rfl rfl ?_
    refine s_mv 134 rfl rfl ?_
    refine s_ld 135 rfl rfl (fun _ h => h.cell heN) ?_
    refine s_eqE 136 rfl rfl rfl ?_
    refine s_pickT 137 rfl rfl rfl ?_
    refine s_mv 138 rfl rfl ?_
    refine s_mv 139 rfl rfl ?_
    refine s_mv 140 rfl rfl ?_
    refine s_mv 141 rfl rfl ?_
    refine s_call1 142 rfl rfl rfl rfl (v := .bool false) (fun w hw => by have := cRight_ok c m t D q q83.1.1 (fpD m t (plc m t D a4) (fitL p3 D)).length q83.1.2 (fpD m t (plc m t D a4) (fitL p3 D)) q83.2.1 (fpP m t (plc m t D a4) (encB m t (fitL p3 D))).length q83.2.2 (fpP m t (plc m t D a4) (encB m t (fitL p3 D))) w hMT hq (hw.has (i := 9) rfl) ((hw.has (i := 4) rfl).of_own) (fpD_lt (fitL_lt hp3 D) m t (plc m t D a4)) (by have := (show (fpD m t (plc m t D a4) (fitL p3 D)).length = D by first | exact fitL_len _ _ | (rw [fpD_len]; exact fitL_len _ _) | (rw [fpD_len, fpD_len]; exact fitL_len _ _)); omega) hq83.1 (show (fpD m t (plc m t D a4) (fitL p3 D)).length = D by first | exact fitL_len _ _ | (rw [fpD_len]; exact fitL_len _ _) | (rw [fpD_len, fpD_len]; exact fitL_len _ _)) ((hw.has (i := 5) rfl).of_own) (fpP_lt (enc_lt hMT (fitL p3 D)) m t (plc m t D a4)); rw [decide_eq_false (flip_wrong hMT hfl hfit h2N hpi)] at this; exact this) (fun _ _ => trivial) ?_
    refine s_not 143 rfl rfl ?_
    refine s_pickT 144 rfl rfl rfl ?_
    refine s_mv 145 rfl rfl ?_
    refine s_mv 146 rfl rfl ?_
    refine s_mv 147 rfl rfl ?_
    refine s_mv 148 rfl rfl ?_
    refine s_call1 149 rfl rfl rfl rfl (v := .bool true) (fun w hw => by have := cRight_ok c m t D q q92.1.1 (fpD m t (plc m t D a4) (fpD m t (plc m t D a4) (fitL p3 D))).length q92.1.2 (fpD m t (plc m t D a4) (fpD m t (plc m t D a4) (fitL p3 D))) q92.2.1 (fpP m t (plc m t D a4) (fpP m t (plc m t D a4) (encB m t (fitL p3 D)))).length q92.2.2 (fpP m t (plc m t D a4) (fpP m t (plc m t D a4) (encB m t (fitL p3 D)))) w hMT hq (hw.has (i := 9) rfl) ((hw.has (i := 2) rfl).of_own) (fpD_lt (fpD_lt (fitL_lt hp3 D) m t (plc m t D a4)) m t (plc m t D a4)) (by have := (show (fpD m t (plc m t D a4) (fpD m t (plc m t D a4) (fitL p3 D))).length = D by first | exact fitL_len _ _ | (rw [fpD_len]; exact fitL_len _ _) | (rw [fpD_len, fpD_len]; exact fitL_len _ _)); omega) hq92.1 (show (fpD m t (plc m t D a4) (fpD m t (plc m t D a4) (fitL p3 D))).length = D by first | exact fitL_len _ _ | (rw [fpD_len]; exact fitL_len _ _) | (rw [fpD_len, fpD_len]; exact fitL_len _ _)) ((hw.has (i := 3) rfl).of_own) (fpP_lt (fpP_lt (enc_lt hMT (fitL p3 D)) m t (plc m t D a4)) m t (plc m t D a4)); rw [decide_eq_true (by rw [hbD, hbP])] at this; exact this) (fun _ _ => trivial) ?_
    refine s_pickT 150 rfl rfl rfl ?_
    refine s_mv 151 rfl rfl ?_
    refine s_mv 152 rfl rfl ?_
    refine s_mv 153 rfl rfl ?_
    refine s_call1 154 rfl rfl rfl rfl (v := .bool true) (fun w hw => by have := sameBytes_spec q92.1.1 (fpD m t (plc m t D a4) (fpD m t (plc m t D a4) (fitL p3 D))).length q92.1.2 (fpD m t (plc m t D a4) (fpD m t (plc m t D a4) (fitL p3 D))) q51.1 (fitL p3 D).length q51.2 (fitL p3 D) w ((hw.has (i := 2) rfl).of_own) (fpD_lt (fpD_lt (fitL_lt hp3 D) m t (plc m t D a4)) m t (plc m t D a4)) ((hw.has (i := 7) rfl).of_own) (fitL_lt hp3 D); rw [decide_eq_true hbD] at this; exact this) (fun _ _ => trivial) ?_
    refine s_pickT 155 rfl rfl rfl ?_
    refine s_mv 156 rfl rfl ?_
    refine s_mv 157 rfl rfl ?_
    refine s_mv 158 rfl rfl ?_
    refine s_call1 159 rfl rfl rfl rfl (v := .bool true) (fun w hw => by have := sameBytes_spec q92.2.1 (fpP m t (plc m t D a4) (fpP m t (plc m t D a4) (encB m t (fitL p3 D)))).length q92.2.2 (fpP m t (plc m t D a4) (fpP m t (plc m t D a4) (encB m t (fitL p3 D)))) q55.1 (encB m t (fitL p3 D)).length q55.2 (encB m t (fitL p3 D)) w ((hw.has (i := 3) rfl).of_own) (fpP_lt (fpP_lt (enc_lt hMT (fitL p3 D)) m t (plc m t D a4)) m t (plc m t D a4)) ((hw.has (i := 6) rfl).of_own) (enc_lt hMT (fitL p3 D)); rw [decide_eq_true hbP] at this; exact this) (fun _ _ => trivial) ?_
    refine s_pickT 160 rfl rfl rfl ?_
    refine s_mv 161 rfl rfl ?_
    refine s_mv 162 rfl rfl ?_
    refine s_mv 163 rfl rfl ?_
    refine s_mv 164 rfl rfl ?_
    refine s_eq 165 rfl rfl rfl (r := decide ((plc m t D a4) = (plc m t D a5))) (decide_eq_decide.2 (by omega)) ?_
    refine s_eqB 166 rfl rfl rfl (r := true) (by rw [decide_eq_false hne]; rfl) ?_
    refine s_pickT 167 rfl rfl rfl ?_
    refine s_mv 168 rfl rfl ?_
    refine s_mv 169 rfl rfl ?_
    refine s_mv 170 rfl rfl ?_
    refine s_call1 171 rfl rfl rfl rfl (fun w hw => dist_spec q83.1.1 (fpD m t (plc m t D a4) (fitL p3 D)).length q83.1.2 (fpD m t (plc m t D a4) (fitL p3 D)) q51.1 (fitL p3 D).length q51.2 (fitL p3 D) w ((hw.has (i := 4) rfl).of_own) (fpD_lt (fitL_lt hp3 D) m t (plc m t D a4)) (by have := (show (fpD m t (plc m t D a4) (fitL p3 D)).length = D by first | exact fitL_len _ _ | (rw [fpD_len]; exact fitL_len _ _) | (rw [fpD_len, fpD_len]; exact fitL_len _ _)); omega) hq83.1 ((hw.has (i := 7) rfl).of_own) (fitL_lt hp3 D) (by have := (show (fitL p3 D).length = D by first | exact fitL_len _ _ | (rw [fpD_len]; exact fitL_len _ _) | (rw [fpD_len, fpD_len]; exact fitL_len _ _)); omega) hq51 (by have h1 := (show (fpD m t (plc m t D a4) (fitL p3 D)).length = D by first | exact fitL_len _ _ | (rw [fpD_len]; exact fitL_len _ _) | (rw [fpD_len, fpD_len]; exact fitL_len _ _)); have h2 := (show (fitL p3 D).length = D by first | exact fitL_len _ _ | (rw [fpD_len]; exact fitL_len _ _) | (rw [fpD_len, fpD_len]; exact fitL_len _ _)); omega)) (fun _ _ => trivial) ?_
    refine s_mv 172 rfl rfl ?_
    refine s_mv 173 rfl rfl ?_
    refine s_call1 174 rfl rfl rfl rfl (fun w hw => dist_spec q83.2.1 (fpP m t (plc m t D a4) (encB m t (fitL p3 D))).length q83.2.2 (fpP m t (plc m t D a4) (encB m t (fitL p3 D))) q55.1 (encB m t (fitL p3 D)).length q55.2 (encB m t (fitL p3 D)) w ((hw.has (i := 5) rfl).of_own) (fpP_lt (enc_lt hMT (fitL p3 D)) m t (plc m t D a4)) (by have := (show (fpP m t (plc m t D a4) (encB m t (fitL p3 D))).length = prB m t by first | exact encB_len _ _ _ | (rw [fpP_len]; exact encB_len _ _ _) | (rw [fpP_len, fpP_len]; exact encB_len _ _ _)); omega) hq83.2 ((hw.has (i := 6) rfl).of_own) (enc_lt hMT (fitL p3 D)) (by have := (show (encB m t (fitL p3 D)).length = prB m t by first | exact encB_len _ _ _ | (rw [fpP_len]; exact encB_len _ _ _) | (rw [fpP_len, fpP_len]; exact encB_len _ _ _)); omega) hq55 (by have h1 := (show (fpP m t (plc m t D a4) (encB m t (fitL p3 D))).length = prB m t by first | exact encB_len _ _ _ | (rw [fpP_len]; exact encB_len _ _ _) | (rw [fpP_len, fpP_len]; exact encB_len _ _ _)); have h2 := (show (encB m t (fitL p3 D)).length = prB m t by first | exact encB_len _ _ _ | (rw [fpP_len]; exact encB_len _ _ _) | (rw [fpP_len, fpP_len]; exact encB_len _ _ _)); omega)) (fun _ _ => trivial) ?_
    refine s_add 175 rfl rfl rfl (r := 1) (by rw [← Int.natCast_add, hone]; rfl) ?_
    refine s_eq 176 rfl rfl rfl (decide_eq_true rfl) ?_
    refine s_pickT 177 rfl rfl rfl ?_
    refine s_as 12 rfl rfl ?_
    refine SX.next ?_
    refine CW.ret ?_
    exact KN.ret (rs := [.tmp 12]) Tryd.results9 rfl (fun w hw => ⟨rfl, hw.nothing⟩)
end Go.Proofs.YtompcfingkoldaaDoor
end
