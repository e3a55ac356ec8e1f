/- The walk of the statement EncodeApart. Conditions: each theorem tells its own. -/
import Derived.Test.YtompcfingkoldaaDoorGB
import Derived.Test.YtompcfingkoldaaDoorRows
import Derived.LaidLaws
import Derived.WalkKit
import Derived.ProofKit
import Derived.OpenShut
import Derived.Deep.DeepHandedRow
import Derived.Deep.DeepWitnessRowRef
import Derived.Test.YtompcfingkoldaaDoorGG
section
/- What a row's list of error variables gives a walk: each holds a pointer of its own. No condition. -/
namespace Go.Proofs.YtompcfingkoldaaDoor
open Go.Sx Go.ChangeShapes Go.WideShapes Go.RowKit

theorem laidOutT : laidOutB Tryd.prog = true := by kernel_rfl
theorem errStar : "*" ++ "errors.errorString" = "*errors.errorString" := by decide
theorem errRow (u : TypeId) (h : Tryd.prog.typeName? 3 u = some "*errors.errorString") : u = 262 :=
  typeName_ptr_named (nm := "errors.errorString") (by rw [errStar]; kernel_rfl) (by kernel_rfl) (by decide) u (by rw [errStar]; exact h)
theorem errCells : Tryd.prog.cellsOf 279 = 1 := by kernel_rfl
theorem strCells : Tryd.prog.cellsOf 9 = 1 := by kernel_rfl
theorem noKnob : ownKnob Tryd.prog.godebug = none := by kernel_rfl

/-- The pointer that error variable k holds. -/
noncomputable def eOf (W : World) (k : Nat) : Addr := open Classical in if h : ∃ a, W.cell? ⟨k, 0, none⟩ = some (.iface 262 (.pointer (some a))) then Classical.choose h else default

theorem er_of {W : World} {k : Nat} (h : ∃ a, W.cell? ⟨k, 0, none⟩ = some (.iface 262 (.pointer (some a)))) : Er (eOf W) W k := by
  unfold Er errV eOf
  rw [dif_pos h]
  exact Classical.choose_spec h

set_option maxRecDepth 100000 in
theorem er_laid {W : World} : ∀ {l : List (String × DataW Unit)} {ps : List MemPlace}, DataW.LaidVars Tryd.prog W l ps →
    (∀ b off, MemPlace.cell b off ∈ ps → (∃ c t, W.heap[b]? = some (.cells c t (0, 0))) ∧ ∀ u v, W.cell? ⟨b, off, none⟩ = some (.iface u v) → Value.okWide Tryd.prog W .any 0 u v) →
    ∀ n d, (n, d) ∈ l → ∀ text k, d = .iface "*errors.errorString" (.ptr (.agg [.lit (.string text)])) → Tryd.prog.globalNamed n = some k → (Tryd.prog.globals[k]?).map (·.type) = some 34 → Er (eOf W) W k
  | [], _, _, _, _, _, h, _, _, _, _, _ => by cases h
  | (n0, d0) :: r, ps, hl, hrows, n, d, hm, text, k, hd, hk, ht => by
    obtain ⟨g, t, cs, fuel, p, q, hg, htg, hv, htr, hr, hps⟩ := hl
    rcases List.mem_cons.1 hm with he | hm
    · simp only [Prod.mk.injEq] at he
      obtain ⟨rfl, rfl⟩ := he
      subst hd
      obtain rfl := Option.some.inj (hk.symm.trans hg)
      obtain rfl := Option.some.inj (ht.symm.trans htg)
      obtain ⟨l0⟩ := cs
      have ok0 : ∀ u v, l0 = [.iface u v] → Value.okWide Tryd.prog W .any 0 u v := fun u v e => by
        subst e
        exact (hrows k 0 (by rw [hps]; simp [MemPlace.row])).2 u v (by simpa using World.var?_cell hg hv 0)
      obtain ⟨a, s, rfl, _⟩ := errorString_of_trod Tryd.underlying34 errRow Tryd.underlying262 Tryd.underlying279 rfl rfl Tryd.underlying9 errCells strCells htr ok0
      exact er_of ⟨a, by simpa using World.var?_cell hg hv 0⟩
    · exact er_laid hr (fun b off hb => hrows b off (by rw [hps]; exact List.mem_append_right _ hb)) n d hm text k hd hk ht

theorem er_met {W : World} {l : List (String × DataW Unit)} (h : laidMet Tryd.prog l W) (n : String) (d : DataW Unit) (hm : (n, d) ∈ l) (text : List UInt8) (k : Nat) (hd : d = .iface "*errors.errorString" (.ptr (.agg [.lit (.string text)])))
    (hk : Tryd.prog.globalNamed n = some k) (ht : (Tryd.prog.globals[k]?).map (·.type) = some 34) : Er (eOf W) W k :=
  let ⟨_, h1, _, h3⟩ := h
  er_laid h1 h3 n d hm text k hd hk ht

theorem fr_below {w w' : World} (h : Sto w [] w') : Below w.heap.size w w' := h.fr.below
end Go.Proofs.YtompcfingkoldaaDoor
end
section
/- The statement EncodeApart, walked. Conditions: the errors' variables. -/
namespace Go.Proofs.YtompcfingkoldaaDoor
open Go Go.Sx Go.Fm Nb
set_option maxRecDepth 100000
def kAt (l : List Int) (D i : Nat) : Nat := (l.getD i 0 % ((8 * D : Nat) : Int)).toNat
def flsL (d : List Nat) (l : List Int) (D : Nat) : Nat → List Nat
  | 0 => d
  | i + 1 => flB (flsL d l D i) (kAt l D i)
theorem flsL_len (d : List Nat) (l : List Int) (D : Nat) : ∀ i, (flsL d l D i).length = d.length
  | 0 => rfl
  | i + 1 => by show (flB (flsL d l D i) (kAt l D i)).length = _; rw [flB_len, flsL_len d l D i]
theorem flsL_lt {d : List Nat} (hd : ∀ x ∈ d, x < 256) (l : List Int) (D : Nat) : ∀ i, ∀ x ∈ flsL d l D i, x < 256
  | 0 => hd
  | i + 1 => flB_lt (flsL_lt hd l D i) _
theorem kAt_lt {D : Nat} (h : 1 ≤ D) (l : List Int) (i : Nat) : kAt l D i < 8 * D := by
  have h1 := Int.emod_nonneg (l.getD i 0) (b := ((8 * D : Nat) : Int)) (by omega)
  have h2 := Int.emod_lt_of_pos (l.getD i 0) (b := ((8 * D : Nat) : Int)) (by omega)
  unfold kAt
  omega

theorem apart_long (a0 a1 a2 : Int) (A3 : Option Addr) (n3 c3 : Nat) (p3 : List Nat) (A4 : Option Addr) (n4 c4 : Nat) (l4 : List Int) (e : Nat → Addr) (w : World) (ha3 : Has (sl 1 A3 n3 (nats .u8 p3)) w) (_hp3 : ∀ x ∈ p3, x < 256) (hn3 : n3 ≤ 9223372036854775807) (hcp3 : n3 ≤ c3) (hs4 : Has (sl 1 A4 n4 (ints .i64 l4)) w) (hn4 : n4 ≤ 9223372036854775807) (he : Er e w 2) (h40 : 40 < n4) : Spec1 Tryd.prog 3 [.int .i64 a0, .int .i64 a1, .int .i64 a2, .slice A3 n3 c3, .slice A4 n4 c4] w (.bool true) := by
  have hla3 := nats_len ha3
  subst hla3
  have hla4 := ints_len hs4
  subst hla4
  refine spec_of Tryd.func3 rfl Tryd.ntmps3 rfl ?_
  refine CW.seq ?_
  refine CW.reg [0] rfl ?_   -- 0, law.go:126
  refine s_as 10 rfl rfl ?_
  refine SX.next ?_
  refine CW.seq ?_
  refine CW.reg [0, 1] rfl ?_   -- 1, law.go:127
  refine s_call1 23 rfl rfl rfl rfl (fun w hw => first6_spec e w (hw.er he)) (fun _ _ => trivial) ?_
  refine s_as 11 rfl rfl ?_
  refine SX.next ?_
  refine CW.seq ?_
  refine CW.reg [0, 1, 2, 3, 4, 5, 6, 7, 8, 9, 10, 11] rfl ?_   -- 2, law.go:128
  refine s_mv 25 rfl rfl ?_
  refine s_mv 26 rfl rfl ?_
  refine s_mv 27 rfl rfl ?_
  refine s_call 28 rfl rfl rfl rfl (fun w hw => shalelaw6_made a0 a1 a2 w) (fun _ _ => trivial) (fun z hz => ?_)
  obtain ⟨c, q, m, t, D, g⟩ := z
  obtain ⟨hC, hq, hg, hmM, htT, hdB, hm6⟩ := hz
  simp only at hC hq hg hmM htT hdB hm6
  obtain ⟨hMT, h1D, hDm, hfit⟩ := hC
  have hm := hMT.ok
  have hd1 := hMT.d1
  have hd5 := hMT.d560
  have hp1 := hMT.p1
  have hp7 := hMT.p70
  refine SX.pre (C' := Sto w [codeA c m t D q, genOf m t g]) (fun _ hw => hw) ?_
  refine s_mv 24 rfl rfl ?_
  refine s_ext 29 rfl rfl rfl ?_
  refine s_ext 30 rfl rfl rfl ?_
  refine s_ext 31 rfl rfl rfl ?_
  refine s_alloc 13 rfl (fun _ _ => trivial) (fun b13 => ?_)
  refine s_as 12 rfl rfl ?_
  refine s_stAll 0 rfl rfl (by kernel_rfl) rfl rfl rfl rfl (fun _ _ => trivial) ?_
  refine s_as 14 rfl rfl ?_
  refine SX.next ?_
  refine CW.seq ?_
  refine CW.seq ?_
  refine CW.reg [0, 1, 2, 3, 4, 5, 6, 7, 8, 9, 10] rfl ?_   -- 3, law.go:129
  refine s_mv 32 rfl rfl ?_
  refine s_not 33 rfl rfl ?_
  refine s_mv 34 rfl rfl ?_
  refine s_mv 35 rfl rfl ?_
  refine s_len 36 rfl rfl ?_
  refine s_gt 37 rfl rfl rfl (decide_eq_true (by omega)) ?_
  refine s_pickF 38 rfl rfl rfl ?_
  refine s_mv 39 rfl rfl ?_
  refine SX.skip rfl ?_
  refine SX.skip rfl ?_
  refine s_pickT 42 rfl rfl rfl ?_
  refine SX.next ?_
  refine CW.condT rfl ?_
  refine CW.seq ?_
  refine CW.reg [0, 1, 2, 3, 4] rfl ?_   -- 4, law.go:130
  refine s_mv 43 rfl rfl ?_
  refine s_mv 44 rfl rfl ?_
  refine s_mv 45 rfl rfl ?_
  refine s_pickT 46 rfl rfl rfl ?_
  refine s_as 10 rfl rfl ?_
  refine SX.next ?_
  refine CW.ret ?_
  exact KN.ret (rs := [.tmp 10]) Tryd.results3 rfl (fun w hw => ⟨rfl, hw.nothing⟩)

set_option maxHeartbeats 1600000 in

theorem apart_ok (a0 a1 a2 : Int) (A3 : Option Addr) (n3 c3 : Nat) (p3 : List Nat) (A4 : Option Addr) (n4 c4 : Nat) (l4 : List Int) (e : Nat → Addr) (w : World) (ha3 : Has (sl 1 A3 n3 (nats .u8 p3)) w) (hp3 : ∀ x ∈ p3, x < 256) (hn3 : n3 ≤ 9223372036854775807) (hcp3 : n3 ≤ c3) (hs4 : Has (sl 1 A4 n4 (ints .i64 l4)) w) (hn4 : n4 ≤ 9223372036854775807) (he : Er e w 2) (h40 : n4 ≤ 40) : Spec1 Tryd.prog 3 [.int .i64 a0, .int .i64 a1, .int .i64 a2, .slice A3 n3 c3, .slice A4 n4 c4] w (.bool true) := by
  have hla3 := nats_len ha3
  subst hla3
  have hla4 := ints_len hs4
  subst hla4
  refine spec_of Tryd.func3 rfl Tryd.ntmps3 rfl ?_
  refine CW.seq ?_
  refine CW.reg [0] rfl ?_   -- 0, law.go:126
  refine s_as 10 rfl rfl ?_
  refine SX.next ?_
  refine CW.seq ?_
  refine CW.reg [0, 1] rfl ?_   -- 1, law.go:127
  refine s_call1 23 rfl rfl rfl rfl (fun w hw => first6_spec e w (hw.er he)) (fun _ _ => trivial) ?_
  refine s_as 11 rfl rfl ?_
  refine SX.next ?_
  refine CW.seq ?_
  refine CW.reg [0, 1, 2, 3, 4, 5, 6, 7, 8, 9, 10, 11] rfl ?_   -- 2, law.go:128
  refine s_mv 25 rfl rfl ?_
  refine s_mv 26 rfl rfl ?_
  refine s_mv 27 rfl rfl ?_
  refine s_call 28 rfl rfl rfl rfl (fun w hw => shalelaw6_made a0 a1 a2 w) (fun _ _ => trivial) (fun z hz => ?_)
  obtain ⟨c, q, m, t, D, g⟩ := z
  obtain ⟨hC, hq, hg, hmM, htT, hdB, hm6⟩ := hz
  simp only at hC hq hg hmM htT hdB hm6
  obtain ⟨hMT, h1D, hDm, hfit⟩ := hC
  have hm := hMT.ok
  have hd1 := hMT.d1
  have hd5 := hMT.d560
  have hp1 := hMT.p1
  have hp7 := hMT.p70
  refine SX.pre (C' := Sto w [codeA c m t D q, genOf m t g]) (fun _ hw => hw) ?_
  refine s_mv 24 rfl rfl ?_
  refine s_ext 29 rfl rfl rfl ?_
  refine s_ext 30 rfl rfl rfl ?_
  refine s_ext 31 rfl rfl rfl ?_
  refine s_alloc 13 rfl (fun _ _ => trivial) (fun b13 => ?_)
  refine s_as 12 rfl rfl ?_
  refine s_stAll 0 rfl rfl (by kernel_rfl) rfl rfl rfl rfl (fun _ _ => trivial) ?_
  refine s_as 14 rfl rfl ?_
  refine SX.next ?_
  refine CW.seq ?_
  refine CW.seq ?_
  refine CW.reg [0, 1, 2, 3, 4, 5, 6, 7, 8, 9, 10] rfl ?_   -- 3, law.go:129
  refine s_mv 32 rfl rfl ?_
  refine s_not 33 rfl rfl ?_
  refine s_mv 34 rfl rfl ?_
  refine s_mv 35 rfl rfl ?_
  refine s_len 36 rfl rfl ?_
  refine s_gt 37 rfl rfl rfl (decide_eq_false (by omega)) ?_
  refine s_pickF 38 rfl rfl rfl ?_
  refine s_mv 39 rfl rfl ?_
  refine s_mv 40 rfl rfl ?_
  refine s_not 41 rfl rfl ?_
  refine s_pickF 42 rfl rfl rfl ?_
  refine SX.next ?_
  refine CW.condF rfl ?_
  refine CW.skip ?_
  refine KN.code ?_
  refine CW.seq ?_
  refine CW.reg [0, 1, 2, 3, 4] rfl ?_   -- 5, law.go:132
  refine s_mv 47 rfl rfl ?_
  refine s_fa 48 rfl rfl ?_
  refine s_ldB 49 0 rfl rfl rfl rfl ?_
  refine s_call 50 rfl rfl rfl rfl (fun w hw => shalelaw6_fit A3 p3.length c3 p3 D w (hw.old ha3) hp3 (by omega) hcp3 (by omega)) (fun _ _ => trivial) (fun q50 hq50 => ?_)
  refine s_as 15 rfl rfl ?_
  refine SX.next ?_
  refine CW.seq ?_
  refine CW.reg [0, 1, 2] rfl ?_   -- 6, law.go:133
  refine s_mv 51 rfl rfl ?_
  have hfl := fitL_len p3 D
  have hflt := fitL_lt hp3 D
  refine s_call 52 rfl rfl rfl rfl (fun w hw => by have := rbytes_spec q50.1 (fitL p3 D).length q50.2 (fitL p3 D) w ((hw.has (i := 0) rfl).of_own) (by omega); exact this) (fun _ _ => trivial) (fun q52 hq52 => ?_)
  refine s_as 16 rfl rfl ?_
  refine SX.next ?_
  refine CW.seq ?_
  refine CW.seq ?_
  refine CW.reg [0] rfl ?_   -- 7, law.go:134
  refine s_as 17 rfl rfl ?_
  refine SX.next ?_
  refine CW.block ?_
  refine CW.loop (G := Nat) (fun i => [(4, .slice A4 l4.length c4), (12, .pointer (some ⟨c, 0, none⟩)), (13, .pointer (some ⟨b13, 0, none⟩)), (15, .slice q50.1 (fitL p3 D).length q50.2), (16, .slice q52.1 (fitL p3 D).length q52.2), (17, .int .i64 (i : Nat))]) (fun i => (Sto w [own 5 1 q52.1 (fitL p3 D).length q52.2 (nats .u8 (flsL (fitL p3 D) l4 D i)), own 5 1 q50.1 (fitL p3 D).length q50.2 (nats .u8 (fitL p3 D)), blk b13 27 (refC m t D g), codeA c m t D q, genOf m t g])) (fun i => i ≤ l4.length) (fun i => l4.length - i) 0 ⟨rfl, rfl, rfl, rfl, rfl, rfl, trivial⟩ (fun _ hw => hw) (Nat.zero_le _) ?_
  intro i hi
  have hfi := flsL_len (fitL p3 D) l4 D i
  have hfit2 := flsL_lt hflt l4 D i
  refine CW.seq ?_
  refine CW.seq ?_
  refine CW.reg [0, 1, 2, 3] rfl ?_   -- 8, law.go:134
  refine s_mv 53 rfl rfl ?_
  refine s_mv 54 rfl rfl ?_
  refine s_len 55 rfl rfl ?_
  refine s_lt 56 rfl rfl rfl rfl ?_
  refine SX.next ?_
  refine CW.test rfl (fun hc => ?_) (fun hc => ?_)
  · skip
    have hk := kAt_lt h1D l4 i
    have htb := tmod_lt2 (k := ((8 * D : Nat) : Int)) (by omega) (l4.getD i 0)
    refine CW.skip ?_
    refine KN.code ?_
    refine CW.seq ?_
    refine CW.block ?_
    refine CW.seq ?_
    refine CW.regD (.st true 0 (.st true 1 (.st true 2 (.st true 3 (.st true 4 (.st true 5 (.st true 6 (.st true 7 (.st true 8 (.st true 9 (.st true 10 (.st true 11 (.st true 12 (.st true 13 (.st true 14 (.st true 15 (.st true 16 .done))))))))))))))))) (Sto w [own 5 1 q52.1 (fitL p3 D).length q52.2 (nats .u8 (flsL (fitL p3 D) l4 D i)), own 5 1 q50.1 (fitL p3 D).length q50.2 (nats .u8 (fitL p3 D)), blk b13 27 (refC m t D g), codeA c m t D q, genOf m t g]) mixed (by kernel_rfl) (fun _ h => h.drew) (fun _ hw => hw) ?_
    refine s_mv 59 rfl rfl ?_
    refine s_mv 60 rfl rfl ?_
    refine s_iaV 61 i (fun w hw => hw.old hs4) rfl rfl rfl rfl (by omega) ?_
    refine s_ldVS 62 (fun w hw => hw.old hs4) rfl rfl (by rw [Nat.mul_one]; exact intsAt (by omega)) (by omega) ?_
    refine s_fa 63 rfl rfl ?_
    refine s_ldS 64 rfl rfl (v := .int .i64 (D : Nat)) (fun _ hw => hw.blkCell (i := 2) rfl rfl) ?_
    refine s_mul 65 rfl rfl rfl (r := ((8 * D : Nat) : Int)) (by rw [show (8 : Int) * ((D : Nat) : Int) = ((8 * D : Nat) : Int) by omega]; exact w64 (by omega)) ?_
    refine s_rem 66 rfl rfl rfl (by omega) rfl ?_
    refine s_fa 67 rfl rfl ?_
    refine s_ldS 68 rfl rfl (v := .int .i64 (D : Nat)) (fun _ hw => hw.blkCell (i := 2) rfl rfl) ?_
    refine s_mul 69 rfl rfl rfl (r := ((8 * D : Nat) : Int)) (by rw [show (8 : Int) * ((D : Nat) : Int) = ((8 * D : Nat) : Int) by omega]; exact w64 (by omega)) ?_
    refine s_add 70 rfl rfl rfl (r := (l4.getD i 0).tmod ((8 * D : Nat) : Int) + ((8 * D : Nat) : Int)) (w64 (by omega)) ?_
    refine s_fa 71 rfl rfl ?_
    refine s_ldS 72 rfl rfl (v := .int .i64 (D : Nat)) (fun _ hw => hw.blkCell (i := 2) rfl rfl) ?_
    refine s_mul 73 rfl rfl rfl (r := ((8 * D : Nat) : Int)) (by rw [show (8 : Int) * ((D : Nat) : Int) = ((8 * D : Nat) : Int) by omega]; exact w64 (by omega)) ?_
    refine s_rem 74 rfl rfl rfl (by omega) (r := (((kAt l4 D i) : Nat) : Int)) (mkm_val (by omega) _) ?_
    refine s_as 18 rfl rfl ?_
    refine SX.next ?_
    refine CW.reg [0, 1, 2, 3, 4, 5, 6, 7, 8, 9, 10, 11, 12, 13, 14] rfl ?_   -- 11, law.go:136
    refine s_mv 75 rfl rfl ?_
    refine s_mv 76 rfl rfl ?_
    refine s_quo 77 rfl rfl rfl (by omega) (quo8 (kAt l4 D i) (by omega)) ?_
    refine s_mv 78 rfl rfl ?_
    refine s_mv 79 rfl rfl ?_
    refine s_quo 80 rfl rfl rfl (by omega) (quo8 (kAt l4 D i) (by omega)) ?_
    refine s_iaO 81 0 ((kAt l4 D i) / 8) rfl rfl rfl rfl rfl (by omega) ?_
    refine s_ldO 82 0 rfl rfl rfl (natsAt8 (by omega)) ?_
    refine s_mv 83 rfl rfl ?_
    refine s_rem 84 rfl rfl rfl (by omega) (tmod8 (kAt l4 D i)) ?_
    refine s_conv 85 rfl rfl (r := (((kAt l4 D i) % 8 : Nat) : Int)) (wu64 (by omega)) ?_
    refine s_shl 86 rfl rfl rfl (by omega) (r := ((2 ^ ((kAt l4 D i) % 8) : Nat) : Int)) (by rw [show (1 : Int) = ((1 : Nat) : Int) from rfl, shl_u8 (by omega), Nat.one_mul, Nat.mod_eq_of_lt (pow8_lt _)]) ?_
    refine s_bit 87 rfl rfl rfl rfl (ibit_xor_u8 (cf_lt8 hfit2 _) (pow8_lt _)) ?_
    refine s_iaO 88 0 ((kAt l4 D i) / 8) rfl rfl rfl rfl rfl (by omega) ?_
    refine s_stO 0 rfl rfl rfl rfl rfl (by omega) (fun _ _ => trivial) ?_
    refine SX.end_ ?_
    refine KN.blk ?_
    refine KN.code ?_
    refine CW.reg [0, 1, 2] rfl ?_   -- 9, law.go:134
    refine s_mv 57 rfl rfl ?_
    refine s_add 58 rfl rfl rfl (r := ((i + 1 : Nat) : Int)) (w64 (by omega)) ?_
    refine s_as 17 rfl rfl ?_
    refine SX.end_ ?_
    exact KN.back (i + 1) ⟨rfl, rfl, rfl, rfl, rfl, rfl, trivial⟩ (fun _ hw => by rw [nats_set] at hw; exact hw) (by omega) (by omega)
  · skip
    have hie : i = l4.length := by omega
    have hpl1 := encB_len m t (fitL p3 D)
    have hpl2 := encB_len m t (flsL (fitL p3 D) l4 D i)
    refine CW.exit rfl ?_
    refine KN.code ?_
    refine CW.seq ?_
    refine CW.reg [0, 1, 2, 3, 4, 5, 6, 7] rfl ?_   -- 12, law.go:138
    refine s_mv 90 rfl rfl ?_
    refine s_mv 91 rfl rfl ?_
    refine s_call 92 rfl rfl rfl rfl (fun w hw => cFast_ok c m t D q q50.1 (fitL p3 D).length q50.2 (fitL p3 D) w hMT hq (hw.has (i := 3) rfl) ((hw.has (i := 1) rfl).of_own) (fitL_lt hp3 D) (by have := (fitL_len p3 D); omega) hq50 (fitL_len p3 D)) (fun _ _ => trivial) (fun q92 hq92 => ?_)
    refine s_mv 89 rfl rfl ?_
    refine s_ext 93 rfl rfl rfl ?_
    refine s_ext 94 rfl rfl rfl ?_
    refine s_as 19 rfl rfl ?_
    refine s_as 20 rfl rfl ?_
    refine SX.next ?_
    refine CW.seq ?_
    refine CW.reg [0, 1, 2, 3, 4, 5, 6, 7] rfl ?_   -- 13, law.go:139
    refine s_mv 96 rfl rfl ?_
    refine s_mv 97 rfl rfl ?_
    refine s_call 98 rfl rfl rfl rfl (fun w hw => by have := cFast_ok c m t D q q52.1 (fitL p3 D).length q52.2 (flsL (fitL p3 D) l4 D i) w hMT hq (hw.has (i := 4) rfl) ((hw.has (i := 1) rfl).of_own) hfit2 (by omega) hq52 hfl; exact this) (fun _ _ => trivial) (fun q98 hq98 => ?_)
    refine s_mv 95 rfl rfl ?_
    refine s_ext 99 rfl rfl rfl ?_
    refine s_ext 100 rfl rfl rfl ?_
    refine s_as 21 rfl rfl ?_
    refine s_as 22 rfl rfl ?_
    refine SX.next ?_
    refine CW.seq ?_
    refine CW.reg [0, 1, 2, 3, 4, 5, 6, 7] rfl ?_   -- 14, law.go:140
    refine s_mv 101 rfl rfl ?_
    refine s_mv 102 rfl rfl ?_
    refine s_call1 103 rfl rfl rfl rfl (v := .int .i64 ((dif (fitL p3 D) (flsL (fitL p3 D) l4 D i) (8 * D)) : Nat)) (fun w hw => by have := dist_spec q50.1 (fitL p3 D).length q50.2 (fitL p3 D) q52.1 (fitL p3 D).length q52.2 (flsL (fitL p3 D) l4 D i) w ((hw.has (i := 3) rfl).of_own) hflt (by omega) hq50 ((hw.has (i := 2) rfl).of_own) hfit2 (by omega) hq52 rfl; rw [show 8 * (fitL p3 D).length = 8 * D by omega] at this; exact this) (fun _ _ => trivial) ?_
    refine s_mv 104 rfl rfl ?_
    refine s_mv 105 rfl rfl ?_
    refine s_call1 106 rfl rfl rfl rfl (v := .int .i64 ((dif (encB m t (fitL p3 D)) (encB m t (flsL (fitL p3 D) l4 D i)) (8 * prB m t)) : Nat)) (fun w hw => by have := dist_spec q92.1 (encB m t (fitL p3 D)).length q92.2 (encB m t (fitL p3 D)) q98.1 (encB m t (flsL (fitL p3 D) l4 D i)).length q98.2 (encB m t (flsL (fitL p3 D) l4 D i)) w ((hw.has (i := 1) rfl).of_own) (enc_lt hMT (fitL p3 D)) (by omega) hq92 ((hw.has (i := 0) rfl).of_own) (enc_lt hMT (flsL (fitL p3 D) l4 D i)) (by omega) hq98 (by omega); rw [show 8 * (encB m t (fitL p3 D)).length = 8 * prB m t by rw [hpl1]] at this; exact this) (fun _ _ => trivial) ?_
    have hdl1 := dif_le (fitL p3 D) (flsL (fitL p3 D) l4 D i) (8 * D)
    have hdl2 := dif_le (encB m t (fitL p3 D)) (encB m t (flsL (fitL p3 D) l4 D i)) (8 * prB m t)
    have h2N : 2 * t < N m := by have := N_succ m; have : 2 ^ 6 ≤ 2 ^ m := Nat.pow_le_pow_right (by omega) hm6; omega
    have hap := apart hMT hfl (show (flsL (fitL p3 D) l4 D i).length = D by omega) hfit h2N
    have hiff : ((dif (fitL p3 D) (flsL (fitL p3 D) l4 D i) (8 * D)) + (dif (encB m t (fitL p3 D)) (encB m t (flsL (fitL p3 D) l4 D i)) (8 * prB m t)) = 0) ↔ (fitL p3 D = (flsL (fitL p3 D) l4 D i)) := ⟨fun h => dif_zero (by omega) hflt hfit2 (by rw [hfl]; omega), fun h => by rw [← h, dif_self, dif_self]⟩
    refine s_add 107 rfl rfl rfl (r := (((dif (fitL p3 D) (flsL (fitL p3 D) l4 D i) (8 * D)) + (dif (encB m t (fitL p3 D)) (encB m t (flsL (fitL p3 D) l4 D i)) (8 * prB m t)) : Nat) : Int)) (w64 (by omega)) ?_
    refine s_as 2 rfl rfl ?_
    refine SX.next ?_
    refine CW.seq ?_
    refine CW.reg [0, 1, 2, 3, 4, 5, 6, 7, 8, 9, 10, 11, 12, 13, 14, 15, 16, 17, 18, 19, 20, 21, 22, 23, 24, 25] rfl ?_   -- 15, law.go:141
    refine s_mv 108 rfl rfl ?_
    refine s_len 109 rfl rfl ?_
    refine s_ldW 110 4 rfl rfl rfl ?_
    refine s_call1 111 rfl rfl rfl rfl (fun w hw => rPar_spec m t D g w hMT) (fun _ _ => trivial) ?_
    refine s_eq 112 rfl rfl rfl (decide_eq_true (by omega)) ?_
    refine s_mv 113 rfl rfl ?_
    refine s_mv 114 rfl rfl ?_
    refine s_eq 115 rfl rfl rfl (r := decide ((dif (fitL p3 D) (flsL (fitL p3 D) l4 D i) (8 * D)) + (dif (encB m t (fitL p3 D)) (encB m t (flsL (fitL p3 D) l4 D i)) (8 * prB m t)) = 0)) (decide_eq_decide.2 (by omega)) ?_
    refine s_mv 116 rfl rfl ?_
    refine s_mv 117 rfl rfl ?_
    refine s_call1 118 rfl rfl rfl rfl (fun w hw => sameBytes_spec q50.1 (fitL p3 D).length q50.2 (fitL p3 D) q52.1 (fitL p3 D).length q52.2 (flsL (fitL p3 D) l4 D i) w ((hw.has (i := 3) rfl).of_own) hflt ((hw.has (i := 2) rfl).of_own) hfit2) (fun _ _ => trivial) ?_
    refine s_eqB 119 rfl rfl rfl (r := true) (by rw [decide_eq_decide.2 hiff]; exact beq_self_eq_true _) ?_
    refine s_pickT 120 rfl rfl rfl ?_
    refine s_mv 121 rfl rfl ?_
    refine s_mv 122 rfl rfl ?_
    refine s_eq 123 rfl rfl rfl (r := decide ((dif (fitL p3 D) (flsL (fitL p3 D) l4 D i) (8 * D)) + (dif (encB m t (fitL p3 D)) (encB m t (flsL (fitL p3 D) l4 D i)) (8 * prB m t)) = 0)) (decide_eq_decide.2 (by omega)) ?_
    refine s_mv 124 rfl rfl ?_
    refine SX.bool 124 rfl (fun hb => ?_) (fun hb => ?_)
    · skip
      skip
      refine SX.skip rfl ?_
      refine SX.skip rfl ?_
      refine SX.skip rfl ?_
      refine SX.skip rfl ?_
      refine SX.skip rfl ?_
      refine SX.skip rfl ?_
      refine s_pickT 131 rfl rfl rfl ?_
      refine s_pickT 132 rfl rfl rfl ?_
      refine s_as 10 rfl rfl ?_
      refine SX.next ?_
      refine CW.ret ?_
      exact KN.ret (rs := [.tmp 10]) Tryd.results3 rfl (fun w hw => ⟨rfl, hw.nothing⟩)
    · skip
      replace hb := of_decide_eq_false hb
      refine s_mv 125 rfl rfl ?_
      refine s_fa 126 rfl rfl ?_
      refine s_ldB 127 4 rfl rfl rfl rfl ?_
      refine s_mul 128 rfl rfl rfl (r := ((2 * t : Nat) : Int)) (by rw [show (2 : Int) * ((t : Nat) : Int) = ((2 * t : Nat) : Int) by omega]; exact w64 (by omega)) ?_
      refine s_add 129 rfl rfl rfl (r := ((2 * t + 1 : Nat) : Int)) (w64 (by omega)) ?_
      refine s_ge 130 rfl rfl rfl (decide_eq_true (by omega)) ?_
      refine s_pickF 131 rfl rfl rfl ?_
      refine s_pickT 132 rfl rfl rfl ?_
      refine s_as 10 rfl rfl ?_
      refine SX.next ?_
      refine CW.ret ?_
      exact KN.ret (rs := [.tmp 10]) Tryd.results3 rfl (fun w hw => ⟨rfl, hw.nothing⟩)

theorem walk_EncodeApart (a0 a1 a2 : Int) (A3 : Option Addr) (n3 c3 : Nat) (p3 : List Nat) (A4 : Option Addr) (n4 c4 : Nat) (l4 : List Int) (e : Nat → Addr) (w : World) (ha3 : Has (sl 1 A3 n3 (nats .u8 p3)) w) (hp3 : ∀ x ∈ p3, x < 256) (hn3 : n3 ≤ 9223372036854775807) (hcp3 : n3 ≤ c3) (hs4 : Has (sl 1 A4 n4 (ints .i64 l4)) w) (hn4 : n4 ≤ 9223372036854775807) (he : Er e w 2) : Spec1 Tryd.prog 3 [.int .i64 a0, .int .i64 a1, .int .i64 a2, .slice A3 n3 c3, .slice A4 n4 c4] w (.bool true) := by
  by_cases h : n4 ≤ 40
  · exact apart_ok a0 a1 a2 A3 n3 c3 p3 A4 n4 c4 l4 e w ha3 hp3 hn3 hcp3 hs4 hn4 he h
  · exact apart_long a0 a1 a2 A3 n3 c3 p3 A4 n4 c4 l4 e w ha3 hp3 hn3 hcp3 hs4 hn4 he (by omega)
end Go.Proofs.YtompcfingkoldaaDoor
end
