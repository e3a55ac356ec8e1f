/- The walk of the statement EncodeWide. Conditions: each theorem tells its own. -/
import Derived.Test.YtompcfingkoldaaDoorGB
import Derived.Test.YtompcfingkoldaaDoorRows
import Derived.LaidLaws
import Derived.WalkKit
import Derived.ProofKit
import Derived.OpenShut
import Derived.Deep.DeepHandedRow
import Derived.Deep.DeepWitnessRowRef
import Derived.Test.YtompcfingkoldaaDoorGG
section
/- What a row's list of error variables gives a walk: each holds a pointer of its own. No condition. -/
namespace Go.Proofs.YtompcfingkoldaaDoor
open Go.Sx Go.ChangeShapes Go.WideShapes Go.RowKit

theorem laidOutT : laidOutB Tryd.prog = true := by kernel_rfl
theorem errStar : "*" ++ "errors.errorString" = "*errors.errorString" := by decide
theorem errRow (u : TypeId) (h : Tryd.prog.typeName? 3 u = some "*errors.errorString") : u = 262 :=
  typeName_ptr_named (nm := "errors.errorString") (by rw [errStar]; kernel_rfl) (by kernel_rfl) (by decide) u (by rw [errStar]; exact h)
theorem errCells : Tryd.prog.cellsOf 279 = 1 := by kernel_rfl
theorem strCells : Tryd.prog.cellsOf 9 = 1 := by kernel_rfl
theorem noKnob : ownKnob Tryd.prog.godebug = none := by kernel_rfl

/-- The pointer that error variable k holds. -/
noncomputable def eOf (W : World) (k : Nat) : Addr := open Classical in if h : ∃ a, W.cell? ⟨k, 0, none⟩ = some (.iface 262 (.pointer (some a))) then Classical.choose h else default

theorem er_of {W : World} {k : Nat} (h : ∃ a, W.cell? ⟨k, 0, none⟩ = some (.iface 262 (.pointer (some a)))) : Er (eOf W) W k := by
  unfold Er errV eOf
  rw [dif_pos h]
  exact Classical.choose_spec h

set_option maxRecDepth 100000 in
theorem er_laid {W : World} : ∀ {l : List (String × DataW Unit)} {ps : List MemPlace}, DataW.LaidVars Tryd.prog W l ps →
    (∀ b off, MemPlace.cell b off ∈ ps → (∃ c t, W.heap[b]? = some (.cells c t (0, 0))) ∧ ∀ u v, W.cell? ⟨b, off, none⟩ = some (.iface u v) → Value.okWide Tryd.prog W .any 0 u v) →
    ∀ n d, (n, d) ∈ l → ∀ text k, d = .iface "*errors.errorString" (.ptr (.agg [.lit (.string text)])) → Tryd.prog.globalNamed n = some k → (Tryd.prog.globals[k]?).map (·.type) = some 34 → Er (eOf W) W k
  | [], _, _, _, _, _, h, _, _, _, _, _ => by cases h
  | (n0, d0) :: r, ps, hl, hrows, n, d, hm, text, k, hd, hk, ht => by
    obtain ⟨g, t, cs, fuel, p, q, hg, htg, hv, htr, hr, hps⟩ := hl
    rcases List.mem_cons.1 hm with he | hm
    · simp only [Prod.mk.injEq] at he
      obtain ⟨rfl, rfl⟩ := he
      subst hd
      obtain rfl := Option.some.inj (hk.symm.trans hg)
      obtain rfl := Option.some.inj (ht.symm.trans htg)
      obtain ⟨l0⟩ := cs
      have ok0 : ∀ u v, l0 = [.iface u v] → Value.okWide Tryd.prog W .any 0 u v := fun u v e => by
        subst e
        exact (hrows k 0 (by rw [hps]; simp [MemPlace.row])).2 u v (by simpa using World.var?_cell hg hv 0)
      obtain ⟨a, s, rfl, _⟩ := errorString_of_trod Tryd.underlying34 errRow Tryd.underlying262 Tryd.underlying279 rfl rfl Tryd.underlying9 errCells strCells htr ok0
      exact er_of ⟨a, by simpa using World.var?_cell hg hv 0⟩
    · exact er_laid hr (fun b off hb => hrows b off (by rw [hps]; exact List.mem_append_right _ hb)) n d hm text k hd hk ht

theorem er_met {W : World} {l : List (String × DataW Unit)} (h : laidMet Tryd.prog l W) (n : String) (d : DataW Unit) (hm : (n, d) ∈ l) (text : List UInt8) (k : Nat) (hd : d = .iface "*errors.errorString" (.ptr (.agg [.lit (.string text)])))
    (hk : Tryd.prog.globalNamed n = some k) (ht : (Tryd.prog.globals[k]?).map (·.type) = some 34) : Er (eOf W) W k :=
  let ⟨_, h1, _, h3⟩ := h
  er_laid h1 h3 n d hm text k hd hk ht

theorem fr_below {w w' : World} (h : Sto w [] w') : Below w.heap.size w w' := h.fr.below
end Go.Proofs.YtompcfingkoldaaDoor
end
section
/- The statement EncodeWide, walked. Conditions: the errors' variables; the byte is one. -/
namespace Go.Proofs.YtompcfingkoldaaDoor
open Go Go.Sx Go.Fm Nb
set_option maxRecDepth 100000
theorem u8_wf {a : Int} (h : (Lit.int .u8 a).wf = true) : 0 ≤ a ∧ a < 256 := by
  simp only [Lit.wf, Bool.and_eq_true, decide_eq_true_eq] at h
  have e1 : IntKind.u8.min = 0 := by decide
  have e2 : IntKind.u8.max = 255 := by decide
  omega
/-- A place of any number. -/
def plc (m t D : Nat) (x : Int) : Nat := (x % ((8 * D + dg m t : Nat) : Int)).toNat
theorem plc_lt {m t D : Nat} (h : 1 ≤ D) (x : Int) : plc m t D x < 8 * D + dg m t := by
  have h1 := Int.emod_nonneg x (b := ((8 * D + dg m t : Nat) : Int)) (by omega)
  have h2 := Int.emod_lt_of_pos x (b := ((8 * D + dg m t : Nat) : Int)) (by omega)
  unfold plc
  omega
def wB (s i : Nat) : Nat := (s * ((i + 3) % 256) % 256 + i % 256) % 256
def gx (f : Nat → Nat) (i j : Nat) : Nat := if j < i then f j else 0
theorem gx_next (f : Nat → Nat) (i : Nat) : (fun j => if j = i then f i else gx f i j) = gx f (i + 1) := by
  funext j
  unfold gx
  by_cases h : j = i
  · subst h; rw [if_pos rfl, if_pos (by omega)]
  · rw [if_neg h]
    by_cases h2 : j < i
    · rw [if_pos h2, if_pos (by omega)]
    · rw [if_neg h2, if_neg (by omega)]
theorem gx_zero (f : Nat → Nat) (n : Nat) : (List.replicate n (Value.int .u8 0)).toArray = rB n (gx f 0) := by
  have h : rB n (gx f 0) = rB n (fun _ => 0) := rB_congr (fun i _ => by unfold gx; rw [if_neg (by omega)])
  rw [h]
  unfold rB tb nats
  rw [List.map_map]
  show _ = ((List.range n).map (fun _ => Value.int .u8 0)).toArray
  rw [List.map_const', List.length_range]
theorem gx_all (f : Nat → Nat) (n : Nat) : rB n (gx f n) = (nats .u8 (tb n f)).toArray := rB_congr (fun i hi => by unfold gx; rw [if_pos hi])
theorem wB_lt (s i : Nat) : wB s i < 256 := Nat.mod_lt _ (by decide)
theorem wide_ok {m t D : Nat} (h10 : 10 ≤ m) (h12 : m ≤ 12) (h1 : 1 ≤ t) (h20 : t ≤ 20) (hD : 1 ≤ D) (h60 : D ≤ 60) : COk m t D := by
  have hMT : MT m t := ⟨⟨by omega, by omega⟩, h1, by omega⟩
  have h2 := ldr_le hMT.ok t
  rw [hMT.deg] at h2
  have h3 := Nat.mul_le_mul h12 h20
  have h4 : 2 ^ 10 ≤ 2 ^ m := Nat.pow_le_pow_right (by omega) h10
  have h5 := N_succ m
  exact ⟨hMT, hD, by omega, by omega⟩

set_option maxHeartbeats 1600000 in

theorem walk_EncodeWide (a0 a1 a2 a3 a4 : Int) (e : Nat → Addr) (w : World) (hb3 : 0 ≤ a3 ∧ a3 < 256) (he : Er e w 2) : Spec1 Tryd.prog 8 [.int .i64 a0, .int .i64 a1, .int .i64 a2, .int .u8 a3, .int .i64 a4] w (.bool true) := by
  obtain ⟨s, hs3⟩ : ∃ s : Nat, a3 = (s : Nat) := ⟨a3.toNat, by omega⟩
  obtain ⟨m, hm0⟩ : ∃ m : Nat, m = md 3 10 a0 := ⟨_, rfl⟩
  obtain ⟨t, ht0⟩ : ∃ t : Nat, t = md 20 1 a1 := ⟨_, rfl⟩
  obtain ⟨D, hD0⟩ : ∃ D : Nat, D = md 60 1 a2 := ⟨_, rfl⟩
  have hbm := md_bd (k := 3) (by omega) 10 a0
  have hbt := md_bd (k := 20) (by omega) 1 a1
  have hbd := md_bd (k := 60) (by omega) 1 a2
  rw [← hm0] at hbm
  rw [← ht0] at hbt
  rw [← hD0] at hbd
  obtain ⟨hMT, h1D, hDm, hfit⟩ := wide_ok (m := m) (t := t) (D := D) (by omega) (by omega) (by omega) (by omega) (by omega) (by omega)
  have hd1 := hMT.d1
  have hd5 := hMT.d560
  have hp1 := hMT.p1
  have hp7 := hMT.p70
  have h2N : 2 * t < N m := by have := N_succ m; have : 2 ^ 10 ≤ 2 ^ m := Nat.pow_le_pow_right (by omega) (by omega); omega
  refine spec_of Tryd.func8 rfl Tryd.ntmps8 rfl ?_
  refine CW.seq ?_
  refine CW.reg [0] rfl ?_   -- 0, law.go:145
  refine s_as 10 rfl rfl ?_
  refine SX.next ?_
  refine CW.seq ?_
  refine CW.reg [0, 1] rfl ?_   -- 1, law.go:146
  refine s_call1 23 rfl rfl rfl rfl (fun w hw => first6_spec e w (hw.er he)) (fun _ _ => trivial) ?_
  refine s_as 11 rfl rfl ?_
  refine SX.next ?_
  refine CW.seq ?_
  refine CW.reg [0, 1, 2, 3, 4, 5] rfl ?_   -- 2, law.go:147
  refine s_mv 24 rfl rfl ?_
  refine s_rem 25 rfl rfl rfl (by omega) rfl ?_
  refine s_add 26 rfl rfl rfl (r := a0.tmod 3 + 3) (w64 (by have := tmod_lt2 (k := 3) (by omega) a0; omega)) ?_
  refine s_rem 27 rfl rfl rfl (by omega) (mkm_val (k := 3) (by omega) a0) ?_
  refine s_add 28 rfl rfl rfl (r := ((m : Nat) : Int)) (by rw [show (((a0 % 3).toNat : Nat) : Int) + 10 = ((m : Nat) : Int) by rw [hm0]; unfold md; push_cast; rfl]; exact w64 (by omega)) ?_
  refine s_as 0 rfl rfl ?_
  refine SX.next ?_
  refine CW.seq ?_
  refine CW.reg [0, 1, 2, 3, 4, 5] rfl ?_   -- 3, law.go:148
  refine s_mv 29 rfl rfl ?_
  refine s_rem 30 rfl rfl rfl (by omega) rfl ?_
  refine s_add 31 rfl rfl rfl (r := a1.tmod 20 + 20) (w64 (by have := tmod_lt2 (k := 20) (by omega) a1; omega)) ?_
  refine s_rem 32 rfl rfl rfl (by omega) (mkm_val (k := 20) (by omega) a1) ?_
  refine s_add 33 rfl rfl rfl (r := ((t : Nat) : Int)) (by rw [show (((a1 % 20).toNat : Nat) : Int) + 1 = ((t : Nat) : Int) by rw [ht0]; unfold md; push_cast; rfl]; exact w64 (by omega)) ?_
  refine s_as 1 rfl rfl ?_
  refine SX.next ?_
  refine CW.seq ?_
  refine CW.reg [0, 1, 2, 3, 4, 5] rfl ?_   -- 4, law.go:149
  refine s_mv 34 rfl rfl ?_
  refine s_rem 35 rfl rfl rfl (by omega) rfl ?_
  refine s_add 36 rfl rfl rfl (r := a2.tmod 60 + 60) (w64 (by have := tmod_lt2 (k := 60) (by omega) a2; omega)) ?_
  refine s_rem 37 rfl rfl rfl (by omega) (mkm_val (k := 60) (by omega) a2) ?_
  refine s_add 38 rfl rfl rfl (r := ((D : Nat) : Int)) (by rw [show (((a2 % 60).toNat : Nat) : Int) + 1 = ((D : Nat) : Int) by rw [hD0]; unfold md; push_cast; rfl]; exact w64 (by omega)) ?_
  refine s_as 2 rfl rfl ?_
  refine SX.next ?_
  refine CW.seq ?_
  refine CW.reg [0, 1, 2, 3, 4, 5, 6, 7, 8] rfl ?_   -- 5, law.go:150
  refine s_mv 40 rfl rfl ?_
  refine s_mv 41 rfl rfl ?_
  refine s_mv 42 rfl rfl ?_
  refine s_call 43 rfl rfl rfl rfl (fun w hw => new_ok m t D e w hMT h1D hDm hfit) (fun _ _ => trivial) (fun z hq => ?_)
  obtain ⟨c, q⟩ := z
  simp only at hq
  refine SX.pre (C' := Sto w [codeA c m t D q]) (fun _ hw => hw) ?_
  refine s_mv 39 rfl rfl ?_
  refine s_ext 44 rfl rfl rfl ?_
  refine s_ext 45 rfl rfl rfl ?_
  refine s_as 12 rfl rfl ?_
  refine s_as 13 rfl rfl ?_
  refine SX.next ?_
  refine CW.seq ?_
  refine CW.seq ?_
  refine CW.reg [0, 1, 2, 3, 4, 5, 6, 7, 8, 9] rfl ?_   -- 6, law.go:151
  refine s_mv 46 rfl rfl ?_
  refine s_eqPN 47 rfl rfl ?_
  refine s_mv 48 rfl rfl ?_
  refine s_mv 49 rfl rfl ?_
  refine s_neNN 50 rfl rfl ?_
  refine s_pickF 51 rfl rfl rfl ?_
  refine s_mv 52 rfl rfl ?_
  refine s_mv 53 rfl rfl ?_
  refine s_not 54 rfl rfl ?_
  refine s_pickF 55 rfl rfl rfl ?_
  refine SX.next ?_
  refine CW.condF rfl ?_
  refine CW.skip ?_
  refine KN.code ?_
  refine CW.seq ?_
  refine CW.reg [0, 1, 2] rfl ?_   -- 8, law.go:154
  refine s_mv 62 rfl rfl ?_
  refine s_make 63 D rfl rfl rfl rfl rfl (by omega) (fun _ _ => trivial) (fun b63 => ?_)
  refine s_as 14 rfl rfl ?_
  refine SX.next ?_
  refine CW.seq ?_
  refine CW.seq ?_
  refine CW.reg [0] rfl ?_   -- 9, law.go:155
  refine s_as 15 rfl rfl ?_
  refine SX.next ?_
  refine CW.block ?_
  refine CW.loop (G := Nat) (fun i => [(2, .int .i64 (D : Nat)), (3, .int .u8 a3), (4, .int .i64 a4), (12, .pointer (some ⟨c, 0, none⟩)), (14, .slice (some ⟨b63, 0, none⟩) D D), (15, .int .i64 (i : Nat))]) (fun i => Sto w [blk b63 5 (rB D (gx (wB s) i)), codeA c m t D q]) (fun i => i ≤ D) (fun i => D - i) 0 ⟨rfl, rfl, rfl, rfl, rfl, rfl, trivial⟩ (fun _ hw => by rw [← gx_zero]; exact hw) (Nat.zero_le _) ?_
  intro i hi
  refine CW.seq ?_
  refine CW.seq ?_
  refine CW.reg [0, 1, 2] rfl ?_   -- 10, law.go:155
  refine s_mv 64 rfl rfl ?_
  refine s_mv 65 rfl rfl ?_
  refine s_lt 66 rfl rfl rfl rfl ?_
  refine SX.next ?_
  refine CW.test rfl (fun hc => ?_) (fun hc => ?_)
  · skip
    refine CW.skip ?_
    refine KN.code ?_
    refine CW.seq ?_
    refine CW.block ?_
    refine CW.reg [0, 1, 2, 3, 4, 5, 6, 7, 8, 9, 10, 11] rfl ?_   -- 12, law.go:156
    refine s_mv 69 rfl rfl ?_
    refine s_mv 70 rfl rfl ?_
    refine s_mv 71 rfl rfl ?_
    refine s_mv 72 rfl rfl ?_
    refine s_add 73 rfl rfl rfl (r := ((i + 3 : Nat) : Int)) (w64 (by omega)) ?_
    refine s_conv 74 rfl rfl (r := (((i + 3) % 256 : Nat) : Int)) (w8_mod _) ?_
    refine s_mul 75 rfl rfl rfl (r := ((s * ((i + 3) % 256) % 256 : Nat) : Int)) (by rw [hs3, ← Int.natCast_mul]; exact w8_mod _) ?_
    refine s_mv 76 rfl rfl ?_
    refine s_conv 77 rfl rfl (r := ((i % 256 : Nat) : Int)) (w8_mod _) ?_
    refine s_add 78 rfl rfl rfl (r := ((wB s i : Nat) : Int)) (by rw [← Int.natCast_add]; exact w8_mod _) ?_
    refine s_ia0 79 i rfl rfl rfl rfl (by omega) ?_
    refine s_stB 0 rfl rfl rfl rfl rfl (by rw [rB_size]; omega) (fun _ _ => trivial) ?_
    refine SX.end_ ?_
    refine KN.blk ?_
    refine KN.code ?_
    refine CW.reg [0, 1, 2] rfl ?_   -- 11, law.go:155
    refine s_mv 67 rfl rfl ?_
    refine s_add 68 rfl rfl rfl (r := ((i + 1 : Nat) : Int)) (w64 (by omega)) ?_
    refine s_as 15 rfl rfl ?_
    refine SX.end_ ?_
    exact KN.back (i + 1) ⟨rfl, rfl, rfl, rfl, rfl, rfl, trivial⟩ (fun _ hw => by rw [← gx_next, ← rB_set]; exact hw) (by omega) (by omega)
  · skip
    obtain rfl : D = i := by omega
    refine CW.exit rfl ?_
    refine KN.code ?_
    refine CW.seq ?_
    have hdl : (tb D (wB s)).length = D := tb_len _ _
    have hdt : ∀ x ∈ tb D (wB s), x < 256 := tb_lt (fun i _ => wB_lt s i)
    have hpl := encB_len m t (tb D (wB s))
    have hplt := enc_lt hMT (tb D (wB s))
    have hpp := plc_lt (m := m) (t := t) h1D a4
    refine CW.pre (C' := Sto w [own 5 1 (some ⟨b63, 0, none⟩) D D (nats .u8 (tb D (wB s))), codeA c m t D q]) (fun _ hw => by rw [gx_all] at hw; exact hw.blkOwn (q := 0) (c := D) (sz := 1) rfl (by simp [hdl]) (by unfold maxLen; omega)) ?_
    refine CW.reg [0, 1, 2, 3, 4, 5, 6, 7] rfl ?_   -- 13, law.go:158
    refine s_mv 81 rfl rfl ?_
    refine s_mv 82 rfl rfl ?_
    refine s_call 83 rfl rfl rfl rfl (fun w hw => cFast_ok c m t D q (some ⟨b63, 0, none⟩) D D (tb D (wB s)) w hMT hq (hw.has (i := 1) rfl) ((hw.has (i := 0) rfl).of_own) hdt (by omega) (Nat.le_refl _) rfl) (fun _ _ => trivial) (fun q83 hq83 => ?_)
    refine s_mv 80 rfl rfl ?_
    refine s_ext 84 rfl rfl rfl ?_
    refine s_ext 85 rfl rfl rfl ?_
    refine s_as 16 rfl rfl ?_
    refine s_as 17 rfl rfl ?_
    refine SX.next ?_
    refine CW.seq ?_
    refine CW.reg [0, 1, 2, 3, 4, 5, 6, 7] rfl ?_   -- 14, law.go:159
    refine s_mv 87 rfl rfl ?_
    refine s_mv 88 rfl rfl ?_
    refine s_call 89 rfl rfl rfl rfl (fun w hw => cSerial_ok c m t D q (some ⟨b63, 0, none⟩) D D (tb D (wB s)) w hMT hq (hw.has (i := 2) rfl) ((hw.has (i := 1) rfl).of_own) hdt (by omega) (Nat.le_refl _) rfl) (fun _ _ => trivial) (fun q89 hq89 => ?_)
    refine s_mv 86 rfl rfl ?_
    refine s_ext 90 rfl rfl rfl ?_
    refine s_ext 91 rfl rfl rfl ?_
    refine s_as 18 rfl rfl ?_
    refine s_as 19 rfl rfl ?_
    refine SX.next ?_
    refine CW.seq ?_
    refine CW.regD (.st true 0 (.st true 1 (.st true 4 (.st true 7 (.st false 2 (.st true 3 (.st false 5 (.st true 6 (.st false 8 (.st true 9 (.st true 10 .done))))))))))) (Sto w [own 5 1 q89.1 (encB m t (tb D (wB s))).length q89.2 (nats .u8 (encB m t (tb D (wB s)))), own 5 1 q83.1 (encB m t (tb D (wB s))).length q83.2 (nats .u8 (encB m t (tb D (wB s)))), own 5 1 (some ⟨b63, 0, none⟩) D D (nats .u8 (tb D (wB s))), codeA c m t D q]) mixed (by kernel_rfl) (fun _ h => h.drew) (fun _ hw => hw) ?_
    refine s_mv 92 rfl rfl ?_
    refine s_mv 93 rfl rfl ?_
    refine s_mv 96 rfl rfl ?_
    refine s_mv 99 rfl rfl ?_
    refine s_call1 94 rfl rfl rfl rfl (fun w hw => cBits_spec c m t D q w hMT hDm (hw.has (i := 3) rfl)) (fun _ hw => hw) ?_
    refine s_rem 95 rfl rfl rfl (by omega) rfl ?_
    refine s_call1 97 rfl rfl rfl rfl (fun w hw => cBits_spec c m t D q w hMT hDm (hw.has (i := 3) rfl)) (fun _ hw => hw) ?_
    refine s_add 98 rfl rfl rfl (r := a4.tmod ((8 * D + dg m t : Nat) : Int) + ((8 * D + dg m t : Nat) : Int)) (w64 (by have := tmod_lt2 (k := ((8 * D + dg m t : Nat) : Int)) (by omega) a4; omega)) ?_
    refine s_call1 100 rfl rfl rfl rfl (fun w hw => cBits_spec c m t D q w hMT hDm (hw.has (i := 3) rfl)) (fun _ hw => hw) ?_
    refine s_rem 101 rfl rfl rfl (by omega) (r := (((plc m t D a4) : Nat) : Int)) (mkm_val (by omega) _) ?_
    refine s_as 4 rfl rfl ?_
    refine SX.next ?_
    refine CW.seq ?_
    refine CW.reg [0, 1, 2, 3, 4, 5, 6, 7, 8, 9, 10, 11] rfl ?_   -- 16, law.go:161
    refine s_mv 103 rfl rfl ?_
    refine s_mv 104 rfl rfl ?_
    refine s_mv 105 rfl rfl ?_
    refine s_mv 106 rfl rfl ?_
    refine s_call 107 rfl rfl rfl rfl (fun w hw => cFlip_ok c m t D q (some ⟨b63, 0, none⟩) D D (tb D (wB s)) q83.1 (encB m t (tb D (wB s))).length q83.2 (encB m t (tb D (wB s))) (plc m t D a4) w hMT hDm (hw.has (i := 3) rfl) ((hw.has (i := 2) rfl).of_own) hdt (by omega) (Nat.le_refl _) ((hw.has (i := 1) rfl).of_own) hplt (by omega) hq83 rfl hpl hpp) (fun _ _ => trivial) (fun q107 hq107 => ?_)
    refine s_mv 102 rfl rfl ?_
    refine s_ext 108 rfl rfl rfl ?_
    refine s_ext 109 rfl rfl rfl ?_
    refine s_ext 110 rfl rfl rfl ?_
    refine s_as 20 rfl rfl ?_
    refine s_as 21 rfl rfl ?_
    refine s_as 22 rfl rfl ?_
    refine SX.next ?_
    refine CW.seq ?_
    refine CW.reg [0, 1, 2, 3, 4, 5, 6, 7, 8, 9, 10, 11, 12, 13, 14, 15, 16, 17, 18, 19, 20, 21, 22, 23, 24, 25, 26, 27, 28] rfl ?_   -- 17, law.go:162
    refine s_mv 111 rfl rfl ?_
    refine s_eqNN 112 rfl rfl ?_
    refine s_mv 113 rfl rfl ?_
    refine s_mv 114 rfl rfl ?_
    refine s_eqNN 115 rfl rfl ?_
    refine s_pickT 116 rfl rfl rfl ?_
    refine s_mv 117 rfl rfl ?_
    refine s_mv 118 rfl rfl ?_
    refine s_eqNN 119 rfl rfl ?_
    refine s_pickT 120 rfl rfl rfl ?_
    refine s_mv 121 rfl rfl ?_
    refine s_mv 122 rfl rfl ?_
    refine s_mv 123 rfl rfl ?_
    refine s_call1 124 rfl rfl rfl rfl (v := .bool true) (fun w hw => by have := sameBytes_spec q83.1 (encB m t (tb D (wB s))).length q83.2 (encB m t (tb D (wB s))) q89.1 (encB m t (tb D (wB s))).length q89.2 (encB m t (tb D (wB s))) w ((hw.has (i := 3) rfl).of_own) (enc_lt hMT (tb D (wB s))) ((hw.has (i := 2) rfl).of_own) (enc_lt hMT (tb D (wB s))); rw [decide_eq_true rfl] at this; exact this) (fun _ _ => trivial) ?_
    refine s_pickT 125 rfl rfl rfl ?_
    refine s_mv 126 rfl rfl ?_
    refine s_mv 127 rfl rfl ?_
    refine s_mv 128 rfl rfl ?_
    refine s_mv 129 rfl rfl ?_
    refine s_call1 130 rfl rfl rfl rfl (v := .bool true) (fun w hw => by have := cRight_ok c m t D q (some ⟨b63, 0, none⟩) D D (tb D (wB s)) q83.1 (encB m t (tb D (wB s))).length q83.2 (encB m t (tb D (wB s))) w hMT hq (hw.has (i := 5) rfl) ((hw.has (i := 4) rfl).of_own) hdt (by omega) (Nat.le_refl _) rfl ((hw.has (i := 3) rfl).of_own) (enc_lt hMT (tb D (wB s))); rw [decide_eq_true rfl] at this; exact this) (fun _ _ => trivial) ?_
    refine s_pickT 131 rfl rfl rfl ?_
    refine s_mv 132 rfl rfl ?_
    refine s_mv 133 rfl rfl ?_
    refine s_mv 134 rfl rfl ?_
    refine s_mv 135 rfl rfl ?_
    refine s_call1 136 rfl rfl rfl rfl (v := .bool false) (fun w hw => by have := cRight_ok c m t D q q107.1.1 (fpD m t (plc m t D a4) (tb D (wB s))).length q107.1.2 (fpD m t (plc m t D a4) (tb D (wB s))) q107.2.1 (fpP m t (plc m t D a4) (encB m t (tb D (wB s)))).length q107.2.2 (fpP m t (plc m t D a4) (encB m t (tb D (wB s)))) w hMT hq (hw.has (i := 5) rfl) ((hw.has (i := 0) rfl).of_own) (fpD_lt hdt m t (plc m t D a4)) (by have := (show (fpD m t (plc m t D a4) (tb D (wB s))).length = D by rw [fpD_len]; exact hdl); omega) hq107.1 (show (fpD m t (plc m t D a4) (tb D (wB s))).length = D by rw [fpD_len]; exact hdl) ((hw.has (i := 1) rfl).of_own) (fpP_lt hplt m t (plc m t D a4)); rw [decide_eq_false (flip_wrong hMT hdl hfit h2N hpp)] at this; exact this) (fun _ _ => trivial) ?_
    refine s_not 137 rfl rfl ?_
    refine s_pickT 138 rfl rfl rfl ?_
    refine s_as 10 rfl rfl ?_
    refine SX.next ?_
    refine CW.ret ?_
    exact KN.ret (rs := [.tmp 10]) Tryd.results8 rfl (fun w hw => ⟨rfl, hw.nothing⟩)
end Go.Proofs.YtompcfingkoldaaDoor
end
