/- The walk of the statement MinimalZeros. Conditions: each theorem tells its own. -/
import Derived.Test.YtcjddlcinaedaaaDoorGB
import Derived.Test.YtcjddlcinaedaaaDoorRows
import Derived.LaidLaws
import Derived.WalkKit
import Derived.ProofKit
import Derived.OpenShut
import Derived.Deep.DeepHandedRow
import Derived.Deep.DeepWitnessRowRef
import Derived.Test.YtcjddlcinaedaaaDoorGD
import Derived.Test.YtcjddlcinaedaaaDoorGC
section
/- What a row's list of error variables gives a walk: each holds a pointer of its own. No condition. -/
namespace Go.Proofs.YtcjddlcinaedaaaDoor
open Go.Sx Go.ChangeShapes Go.WideShapes Go.RowKit

theorem laidOutT : laidOutB Tryd.prog = true := by kernel_rfl
theorem errStar : "*" ++ "errors.errorString" = "*errors.errorString" := by decide
theorem errRow (u : TypeId) (h : Tryd.prog.typeName? 3 u = some "*errors.errorString") : u = 213 :=
  typeName_ptr_named (nm := "errors.errorString") (by rw [errStar]; kernel_rfl) (by kernel_rfl) (by decide) u (by rw [errStar]; exact h)
theorem errCells : Tryd.prog.cellsOf 230 = 1 := by kernel_rfl
theorem strCells : Tryd.prog.cellsOf 9 = 1 := by kernel_rfl
theorem noKnob : ownKnob Tryd.prog.godebug = none := by kernel_rfl

/-- The pointer that error variable k holds. -/
noncomputable def eOf (W : World) (k : Nat) : Addr := open Classical in if h : ∃ a, W.cell? ⟨k, 0, none⟩ = some (.iface 213 (.pointer (some a))) then Classical.choose h else default

theorem er_of {W : World} {k : Nat} (h : ∃ a, W.cell? ⟨k, 0, none⟩ = some (.iface 213 (.pointer (some a)))) : Er (eOf W) W k := by
  unfold Er errV eOf
  rw [dif_pos h]
  exact Classical.choose_spec h

set_option maxRecDepth 100000 in
theorem er_laid {W : World} : ∀ {l : List (String × DataW Unit)} {ps : List MemPlace}, DataW.LaidVars Tryd.prog W l ps →
    (∀ b off, MemPlace.cell b off ∈ ps → (∃ c t, W.heap[b]? = some (.cells c t (0, 0))) ∧ ∀ u v, W.cell? ⟨b, off, none⟩ = some (.iface u v) → Value.okWide Tryd.prog W .any 0 u v) →
    ∀ n d, (n, d) ∈ l → ∀ text k, d = .iface "*errors.errorString" (.ptr (.agg [.lit (.string text)])) → Tryd.prog.globalNamed n = some k → (Tryd.prog.globals[k]?).map (·.type) = some 26 → Er (eOf W) W k
  | [], _, _, _, _, _, h, _, _, _, _, _ => by cases h
  | (n0, d0) :: r, ps, hl, hrows, n, d, hm, text, k, hd, hk, ht => by
    obtain ⟨g, t, cs, fuel, p, q, hg, htg, hv, htr, hr, hps⟩ := hl
    rcases List.mem_cons.1 hm with he | hm
    · simp only [Prod.mk.injEq] at he
      obtain ⟨rfl, rfl⟩ := he
      subst hd
      obtain rfl := Option.some.inj (hk.symm.trans hg)
      obtain rfl := Option.some.inj (ht.symm.trans htg)
      obtain ⟨l0⟩ := cs
      have ok0 : ∀ u v, l0 = [.iface u v] → Value.okWide Tryd.prog W .any 0 u v := fun u v e => by
        subst e
        exact (hrows k 0 (by rw [hps]; simp [MemPlace.row])).2 u v (by simpa using World.var?_cell hg hv 0)
      obtain ⟨a, s, rfl, _⟩ := errorString_of_trod Tryd.underlying26 errRow Tryd.underlying213 Tryd.underlying230 rfl rfl Tryd.underlying9 errCells strCells htr ok0
      exact er_of ⟨a, by simpa using World.var?_cell hg hv 0⟩
    · exact er_laid hr (fun b off hb => hrows b off (by rw [hps]; exact List.mem_append_right _ hb)) n d hm text k hd hk ht

theorem er_met {W : World} {l : List (String × DataW Unit)} (h : laidMet Tryd.prog l W) (n : String) (d : DataW Unit) (hm : (n, d) ∈ l) (text : List UInt8) (k : Nat) (hd : d = .iface "*errors.errorString" (.ptr (.agg [.lit (.string text)])))
    (hk : Tryd.prog.globalNamed n = some k) (ht : (Tryd.prog.globals[k]?).map (·.type) = some 26) : Er (eOf W) W k :=
  let ⟨_, h1, _, h3⟩ := h
  er_laid h1 h3 n d hm text k hd hk ht

theorem fr_below {w w' : World} (h : Sto w [] w') : Below w.heap.size w w' := h.fr.below
end Go.Proofs.YtcjddlcinaedaaaDoor
end
section
/- A polynomial's zeros, and the statements MinimalDivides and MinimalZeros, walked. Conditions: the field was made by New; the errors' variables. -/
namespace Go.Proofs.YtcjddlcinaedaaaDoor
open Go Go.Sx Go.Fm Nb
set_option maxRecDepth 100000
theorem exE (g m : Nat) (n : Int) (w : World) (hm : Ok m) (hf : Has (fieldA g m) w) : Spec1 Tryd.prog 85 [.pointer (some ⟨g, 0, none⟩), .int .i64 n] w (.int .i64 (exz m n : Nat)) := exp_spec g m n w hm hf

theorem zeros_spec (g m : Nat) (A : Option Addr) (n c : Nat) (p : List Nat) (most : Int) (w : World) (hm : Ok m) (hf : Has (fieldA g m) w) (ha : Has (sl 1 A n (nats .u8 p)) w) (hp : ∀ x ∈ p, x < 256) (hn : n ≤ 1073741824) (hcp : n ≤ c) : SpecL Tryd.prog 43 [.pointer (some ⟨g, 0, none⟩), .slice A n c, .int .i64 most] w (zrs m (bl p) (min most (((N m : Nat) : Int) - 1)).toNat) := by
  have hla := nats_len ha
  subst hla
  have hmh := hm.hi
  have hNs := N_succ m
  have hNp := N_pos hm
  have h14 := pow_le14 hm
  have hbl := bl_len p
  have hexl : (exL (bl p)).length ≤ (bl p).length := exU_len (bl p) (bl p).length (bl p).length
  have hbp := bl_b1 p
  refine spec_of Tryd.func43 rfl Tryd.ntmps43 rfl ?_
  refine CW.seq ?_
  refine CW.reg [0] rfl ?_   -- 0, minimal.go:127
  refine s_as 6 rfl rfl ?_
  refine SX.next ?_
  refine CW.seq ?_
  refine CW.reg [0, 1, 2] rfl ?_   -- 1, minimal.go:128
  refine s_mv 13 rfl rfl ?_
  refine s_call 14 rfl rfl rfl rfl (fun w hw => bexp_spec A p.length c p w (hw.old ha) hp hn hcp) (fun _ _ => trivial) (fun q14 hq14 => ?_)
  refine s_as 7 rfl rfl ?_
  refine SX.next ?_
  refine CW.seq ?_
  refine CW.reg [0] rfl ?_   -- 2, minimal.go:129
  refine s_as 8 rfl rfl ?_
  refine SX.next ?_
  refine CW.seq ?_
  refine CW.seq ?_
  refine CW.reg [0] rfl ?_   -- 3, minimal.go:130
  refine s_as 9 rfl rfl ?_
  refine SX.next ?_
  refine CW.block ?_
  refine CW.loop (G := Nat × Option Addr × Nat) (fun q => [(0, .pointer (some ⟨g, 0, none⟩)), (2, .int .i64 most), (7, .slice q14.1 (exL (bl p)).length q14.2), (8, .slice q.2.1 (zrs m (bl p) q.1).length q.2.2), (9, .int .i64 ((q.1 + 1 : Nat) : Int))]) (fun q => Sto w [own 3 1 q.2.1 (zrs m (bl p) q.1).length q.2.2 (nats .i64 (zrs m (bl p) q.1)), own 3 1 q14.1 (exL (bl p)).length q14.2 (nats .i64 (exL (bl p)))]) (fun q => q.1 ≤ (min most (((N m : Nat) : Int) - 1)).toNat ∧ (zrs m (bl p) q.1).length ≤ q.2.2) (fun q => (min most (((N m : Nat) : Int) - 1)).toNat - q.1) (0, none, 0) ⟨rfl, rfl, rfl, rfl, rfl, trivial⟩ (fun _ h => h.begin_ 3 1) ⟨Nat.zero_le _, Nat.le_refl _⟩ ?_
  rintro ⟨k, qa, qc⟩ ⟨hk, hqc⟩
  simp only at hk hqc
  dsimp only
  have hzl := zrs_len m (bl p) k
  have hkN : k ≤ N m := by omega
  refine CW.seq ?_
  refine CW.seq ?_
  refine CW.reg [0, 1, 2, 3, 4, 5, 6] rfl ?_   -- 4, minimal.go:130
  refine s_mv 15 rfl rfl ?_
  refine s_mv 16 rfl rfl ?_
  refine s_mv 17 rfl rfl ?_
  refine s_call1 18 rfl rfl rfl rfl (fun w hw => size_spec g m w hm (hw.old hf)) (fun _ _ => trivial) ?_
  refine s_sub 19 rfl rfl rfl (r := ((N m : Nat) : Int) - 1) (by rw [show ((N m + 1 : Nat) : Int) - 2 = ((N m : Nat) : Int) - 1 by omega]; exact w64 (by omega)) ?_
  refine s_min 20 rfl rfl rfl (r := min most (((N m : Nat) : Int) - 1)) (by split <;> omega) ?_
  refine s_le 21 rfl rfl rfl rfl ?_
  refine SX.next ?_
  refine CW.test rfl (fun hc => ?_) (fun hc => ?_)
  · skip
    have hkK : k < (min most (((N m : Nat) : Int) - 1)).toNat := by omega
    refine CW.skip ?_
    refine KN.code ?_
    refine CW.seq ?_
    refine CW.block ?_
    refine CW.seq ?_
    refine CW.reg [0] rfl ?_   -- 6, minimal.go:131
    refine s_as 10 rfl rfl ?_
    refine SX.next ?_
    refine CW.seq ?_
    refine CW.seq ?_
    refine CW.reg [0, 1, 2] rfl ?_   -- 7, minimal.go:132
    refine s_mv 24 rfl rfl ?_
    refine s_len 25 rfl rfl ?_
    refine s_mv 26 rfl rfl ?_
    refine SX.next ?_
    refine CW.block ?_
    refine CW.loop (G := Nat) (fun j => [(0, .pointer (some ⟨g, 0, none⟩)), (2, .int .i64 most), (7, .slice q14.1 (exL (bl p)).length q14.2), (8, .slice qa (zrs m (bl p) k).length qc), (9, .int .i64 ((k + 1 : Nat) : Int)), (10, .int .i64 (xorE m (k + 1) ((exL (bl p)).take j) : Nat)), (24, .slice q14.1 (exL (bl p)).length q14.2), (25, .int .i64 ((exL (bl p)).length : Nat)), (26, .int .i64 (j : Nat))]) (fun _ => Sto w [own 3 1 qa (zrs m (bl p) k).length qc (nats .i64 (zrs m (bl p) k)), own 3 1 q14.1 (exL (bl p)).length q14.2 (nats .i64 (exL (bl p)))]) (fun j => j ≤ (exL (bl p)).length) (fun j => (exL (bl p)).length - j) 0 ⟨rfl, rfl, rfl, rfl, rfl, rfl, rfl, rfl, rfl, trivial⟩ (fun _ h => h) (Nat.zero_le _) ?_
    intro j hj
    have hxl := xorE_lt hm (k + 1) ((exL (bl p)).take j)
    refine CW.seq ?_
    refine CW.reg [0] rfl ?_   -- 8, minimal.go:132
    refine s_lt 27 rfl rfl rfl rfl ?_
    refine SX.next ?_
    refine CW.seq ?_
    refine CW.test rfl (fun hc => ?_) (fun hc => ?_)
    · skip
      have hj2 : j < (exL (bl p)).length := by omega
      have hxn := xorE_next (m := m) (i := k + 1) hj2
      have hcl : cf (exL (bl p)) j < (bl p).length := exU_lt (by omega) (cf_mem hj2)
      have hmul := Nat.mul_le_mul (show cf (exL (bl p)) j ≤ 8589934592 by omega) (show k + 1 ≤ 16384 by omega)
      have hxe := exz_lt hm ((cf (exL (bl p)) j * (k + 1) : Nat) : Int)
      refine CW.skip ?_
      refine KN.code ?_
      refine CW.seq ?_
      refine CW.block ?_
      refine CW.seq ?_
      refine CW.reg [0, 1, 2] rfl ?_   -- 9, minimal.go:132
      refine s_iaO 28 1 j rfl rfl rfl rfl rfl (by omega) ?_
      refine s_ldO 29 1 rfl rfl rfl (natsAtC hj2) ?_
      refine s_as 12 rfl rfl ?_
      refine SX.next ?_
      refine CW.reg [0, 1, 2, 3, 4, 5, 6, 7] rfl ?_   -- 10, minimal.go:133
      refine s_mv 30 rfl rfl ?_
      refine s_mv 31 rfl rfl ?_
      refine s_mv 32 rfl rfl ?_
      refine s_mv 33 rfl rfl ?_
      refine s_mul 34 rfl rfl rfl (r := ((cf (exL (bl p)) j * (k + 1) : Nat) : Int)) (by rw [← Int.natCast_mul]; exact w64 (by omega)) ?_
      refine s_call1 35 rfl rfl rfl rfl (fun w hw => exE g m _ w hm (hw.old hf)) (fun _ _ => trivial) ?_
      refine s_bit 36 rfl rfl rfl rfl (r := ((xorE m (k + 1) ((exL (bl p)).take (j + 1)) : Nat) : Int)) (by rw [hxn]; exact ibit_xor_nat (by omega) (by omega)) ?_
      refine s_as 10 rfl rfl ?_
      refine SX.end_ ?_
      refine KN.blk ?_
      refine KN.code ?_
      refine CW.reg [0, 1] rfl ?_   -- 11, minimal.go:132
      refine s_add 37 rfl rfl rfl (r := ((j + 1 : Nat) : Int)) (w64 (by omega)) ?_
      refine s_mv 26 rfl rfl ?_
      refine SX.end_ ?_
      exact KN.back (j + 1) ⟨rfl, rfl, rfl, rfl, rfl, rfl, rfl, rfl, rfl, trivial⟩ (fun _ h => h) (by omega) (by omega)
    · skip
      obtain rfl : j = (exL (bl p)).length := by omega
      have hval : xorE m (k + 1) ((exL (bl p)).take (exL (bl p)).length) = evL m (bl p) (exz m ((k + 1 : Nat) : Int)) := by rw [List.take_length]; exact xs_exL hm hbp (k + 1)
      refine CW.exit rfl ?_
      refine KN.code ?_
      refine CW.seq ?_
      refine CW.reg [0, 1] rfl ?_   -- 12, minimal.go:135
      refine s_mv 38 rfl rfl ?_
      refine s_eq 39 rfl rfl rfl (r := decide (evL m (bl p) (exz m ((k + 1 : Nat) : Int)) = 0)) (by rw [hval]; exact decide_eq_decide.2 (by omega)) ?_
      refine SX.next ?_
      refine CW.cond rfl (fun hc => ?_) (fun hc => ?_)
      · skip
        have hnx : zrs m (bl p) (k + 1) = (zrs m (bl p) k) ++ [k + 1] := if_pos (by simpa using hc)
        refine CW.reg [0, 1, 2, 3, 4] rfl ?_   -- 13, minimal.go:136
        refine s_mv 40 rfl rfl ?_
        refine s_mv 41 rfl rfl ?_
        refine s_bsl 42 rfl rfl (cells := #[.int .i64 ((k + 1 : Nat) : Int)]) (by kernel_rfl) rfl (fun _ _ => trivial) (fun gb => ?_)
        refine s_app 43 1 rfl rfl rfl rfl (ys := [.int .i64 ((k + 1 : Nat) : Int)]) (fun w hw => Has.cong ((hw.has (i := 0) rfl).blk_sl (m := 1) rfl) rfl) rfl rfl (by omega) (by unfold maxLen; omega) (by omega) (fun _ _ _ _ => trivial) (fun A2 c2 hc2 => ?_)
        refine s_as 8 rfl rfl ?_
        refine SX.end_ ?_
        refine KN.blk ?_
        refine KN.code ?_
        refine CW.reg [0, 1, 2] rfl ?_   -- 5, minimal.go:130
        refine s_mv 22 rfl rfl ?_
        refine s_add 23 rfl rfl rfl (r := ((k + 1 + 1 : Nat) : Int)) (w64 (by omega)) ?_
        refine s_as 9 rfl rfl ?_
        refine SX.end_ ?_
        exact KN.back (k + 1, A2, c2) ⟨rfl, rfl, rfl, by simp only [hnx, List.length_append]; rfl, rfl, trivial⟩ (fun _ h => by
          have h1 := h.pick [1, 1] rfl
          simp only [hnx, List.length_append, List.length_singleton]
          rw [nats_snoc] at h1
          exact h1) ⟨by simp only; omega, by simp only [hnx, List.length_append, List.length_singleton]; exact hc2⟩ (by simp only; omega)
      · skip
        have hnx : zrs m (bl p) (k + 1) = (zrs m (bl p) k) := if_neg (by simpa using hc)
        refine CW.skip ?_
        refine KN.blk ?_
        refine KN.code ?_
        refine CW.reg [0, 1, 2] rfl ?_   -- 5, minimal.go:130
        refine s_mv 22 rfl rfl ?_
        refine s_add 23 rfl rfl rfl (r := ((k + 1 + 1 : Nat) : Int)) (w64 (by omega)) ?_
        refine s_as 9 rfl rfl ?_
        refine SX.end_ ?_
        exact KN.back (k + 1, qa, qc) ⟨rfl, rfl, rfl, by simp only [hnx]; rfl, rfl, trivial⟩ (fun _ h => by simp only [hnx]; exact h) ⟨by simp only; omega, by simp only [hnx]; exact hqc⟩ (by simp only; omega)
  · skip
    have hke : k = (min most (((N m : Nat) : Int) - 1)).toNat := by omega
    refine CW.exit rfl ?_
    refine KN.code ?_
    refine CW.seq ?_
    refine CW.reg [0, 1] rfl ?_   -- 14, minimal.go:139
    refine s_mv 44 rfl rfl ?_
    refine s_as 6 rfl rfl ?_
    refine SX.next ?_
    refine CW.ret ?_
    exact KN.ret (rs := [.tmp 6]) Tryd.results43 rfl (fun w hw => ⟨(qa, qc), by rw [← hke]; rfl, by rw [← hke]; exact hqc, by rw [← hke]; exact hw.pick [0] rfl⟩)

theorem tr_len_le {m : Nat} {a : List Nat} (h : Tr m a) {n : Nat} (hz : ∀ j, n ≤ j → cf a j = 0) : a.length ≤ n := Nat.le_of_not_lt fun hl => h.top (by omega) (hz _ (by omega))
theorem xP_lenN (n : Nat) : (xP n).length ≤ n + 1 := tr_len_le (xP_b1 n).tr (fun j hj => by rw [cf_xP, if_neg (by omega)])
theorem xn_len {n : Nat} (h : n ≤ 511) : (addP (xP n) (xP 0)).length ≤ 512 := tr_len_le (addP_b1 (xP_b1 n) (xP_b1 0)).tr (fun j hj => by rw [cf_addP, cf_xP, cf_xP, if_neg (by omega), if_neg (by omega)]; rfl)
theorem xn_root {m : Nat} (hm : Ok m) (k : Nat) : evL m (addP (xP (N m)) (xP 0)) (exz m (k : Nat)) = 0 := by
  rw [evL_xs hm (exz_lt hm _) (b1_tr hm (addP_b1 (xP_b1 _) (xP_b1 0))).lt]
  have hNp := N_pos hm
  have hl : (addP (xP (N m)) (xP 0)).length ≤ N m + 1 := tr_len_le (addP_b1 (xP_b1 _) (xP_b1 0)).tr (fun j hj => by rw [cf_addP, cf_xP, cf_xP, if_neg (by omega), if_neg (by omega)]; rfl)
  rw [xs_any (k := N m + 1) (fun i hi => by rw [cf_out hi, gm_zero_left]) (fun i hi => by rw [cf_out (by omega), gm_zero_left])]
  have e : xs (fun i => gm m (cf (addP (xP (N m)) (xP 0)) i) (fpw m (exz m (k : Nat)) i)) (N m + 1) = xs (fun i => (if i = N m then 1 else 0) ^^^ (if i = 0 then 1 else 0)) (N m + 1) := xs_congr (fun i hi => by
    rw [cf_addP, cf_xP, cf_xP]
    by_cases h1 : i = N m
    · rw [if_pos h1, if_neg (by omega)]
      show gm m 1 _ = 1
      rw [h1, exz_fpw hm, gm_one_left hm (exz_lt hm _), ← exz_zero hm]
      exact exz_congr (by rw [Int.mul_emod_left, Int.zero_emod])
    · by_cases h2 : i = 0
      · rw [if_neg h1, if_pos h2]
        show gm m 1 _ = 1
        rw [h2, exz_fpw hm, gm_one_left hm (exz_lt hm _), ← exz_zero hm]
        exact exz_congr (by simp)
      · rw [if_neg h1, if_neg h2]
        exact gm_zero_left m _)
  rw [e, xs_xor, xs_one (k := N m) (by omega) (fun i _ hi => if_neg hi), xs_one (k := 0) (by omega) (fun i _ hi => if_neg hi)]
  simp
theorem xn_dvd {m : Nat} (hm : Ok m) (i : Nat) : restP 3 (addP (xP (N m)) (xP 0)) (minP m i) = [] := min_dvd hm (addP_b1 (xP_b1 _) (xP_b1 0)) (fun k _ => xn_root hm k)
theorem sumY_two {n : Nat} : sumY (eX [(n : Int), 0]) 2 = bys (addP (xP n) (xP 0)) := by
  rw [sumY_eq]
  show bys (addP (addP [] (xP n)) (xP 0)) = _
  rw [nil_addP ok3 (xP_b1 n).tr]

theorem walk_MinimalDivides (a0 a1 : Int) (e : Nat → Addr) (w : World) (he : Er e w 3) : Spec1 Tryd.prog 11 [.int .i64 a0, .int .i64 a1] w (.bool true) := by
  have hm := mkm_ok (k := 7) (by omega) (by omega) a0
  have hmb := mkm_bd (k := 7) (by omega) a0
  have h14 := pow_le14 hm
  have hNs := N_succ (mkm 7 a0)
  have hNp := N_pos hm
  have hmh := hm.hi
  refine spec_of Tryd.func11 rfl Tryd.ntmps11 rfl ?_
  refine CW.seq ?_
  refine CW.reg [0] rfl ?_   -- 0, law.go:108
  refine s_as 4 rfl rfl ?_
  refine SX.next ?_
  refine CW.seq ?_
  refine CW.reg [0, 1] rfl ?_   -- 1, law.go:109
  refine s_call1 18 rfl rfl rfl rfl (fun w hw => first5_spec e w (hw.er he)) (fun _ _ => trivial) ?_
  refine s_as 5 rfl rfl ?_
  refine SX.next ?_
  refine CW.seq ?_
  refine CW.reg [0, 1, 2, 3, 4, 5, 6] rfl ?_   -- 2, law.go:110
  refine s_mv 20 rfl rfl ?_
  refine s_call 21 rfl rfl rfl rfl (fun w hw => made5_spec a0 w) (fun _ _ => trivial) (fun g _ => ?_)
  refine s_mv 19 rfl rfl ?_
  refine s_ext 22 rfl rfl rfl ?_
  refine s_ext 23 rfl rfl rfl ?_
  refine s_as 6 rfl rfl ?_
  refine s_as 7 rfl rfl ?_
  refine SX.next ?_
  refine CW.seq ?_
  refine CW.seq ?_
  refine CW.reg [0, 1, 2, 3, 4, 5] rfl ?_   -- 3, law.go:111
  refine s_mv 24 rfl rfl ?_
  refine s_eqPN 25 rfl rfl ?_
  refine s_mv 26 rfl rfl ?_
  refine s_mv 27 rfl rfl ?_
  refine s_not 28 rfl rfl ?_
  refine s_pickF 29 rfl rfl rfl ?_
  refine SX.next ?_
  refine CW.condF rfl ?_
  refine CW.skip ?_
  refine KN.code ?_
  refine CW.seq ?_
  refine CW.reg [0, 1, 2, 3] rfl ?_   -- 5, law.go:114
  refine s_mv 30 rfl rfl ?_
  refine s_mv 31 rfl rfl ?_
  have hPB := minP_b1 hm (em (mkm 7 a0) a1)
  have hPl := minP_len hm (em (mkm 7 a0) a1)
  have hcl := cos_len_pos hm (em (mkm 7 a0) a1)
  have hbn : (bys []).length = 0 := rfl
  have hXB := addP_b1 (xP_b1 (N (mkm 7 a0))) (xP_b1 0)
  have hN511 : N (mkm 7 a0) ≤ 511 := by have : 2 ^ (mkm 7 a0) ≤ 2 ^ 9 := Nat.pow_le_pow_right (by omega) (by omega); omega
  have hbl1 := bys_len (minP (mkm 7 a0) (em (mkm 7 a0) a1))
  have hbl2 := bys_len (addP (xP (N (mkm 7 a0))) (xP 0))
  have hXl : (addP (xP (N (mkm 7 a0))) (xP 0)).length ≤ 512 := xn_len hN511
  have hdvd : restP 3 (addP (xP (N (mkm 7 a0))) (xP 0)) (minP (mkm 7 a0) (em (mkm 7 a0) a1)) = [] := xn_dvd hm _
  refine s_call 32 rfl rfl rfl rfl (fun w hw => mof_spec g (mkm 7 a0) a1 w hm (hw.has (i := 0) rfl)) (fun _ _ => trivial) (fun q32 hq32 => ?_)
  refine s_as 8 rfl rfl ?_
  refine SX.next ?_
  refine CW.seq ?_
  refine CW.reg [0, 1, 2, 3, 4, 5, 6, 7] rfl ?_   -- 6, law.go:115
  refine s_mv 34 rfl rfl ?_
  refine s_mv 35 rfl rfl ?_
  refine s_call 36 rfl rfl rfl rfl (fun w hw => coset_spec (mkm 7 a0) a1 w hm) (fun _ _ => trivial) (fun q36 hq36 => ?_)
  refine s_mv 33 rfl rfl ?_
  refine s_ext 37 rfl rfl rfl ?_
  refine s_ext 38 rfl rfl rfl ?_
  refine s_as 9 rfl rfl ?_
  refine s_as 10 rfl rfl ?_
  refine SX.next ?_
  refine CW.seq ?_
  refine CW.reg [0, 1, 2, 3, 4] rfl ?_   -- 7, law.go:116
  refine s_mv 39 rfl rfl ?_
  refine s_conv 40 rfl rfl (u64_nat hm) ?_
  refine s_shl 41 rfl rfl rfl (by omega) (shl_one hm) ?_
  refine s_sub 42 rfl rfl rfl (r := ((N (mkm 7 a0) : Nat) : Int)) (by rw [show ((N (mkm 7 a0) + 1 : Nat) : Int) - 1 = ((N (mkm 7 a0) : Nat) : Int) by omega]; exact w64 (by omega)) ?_
  refine s_as 11 rfl rfl ?_
  refine SX.next ?_
  refine CW.seq ?_
  refine CW.reg [0, 1, 2, 3, 4, 5, 6, 7] rfl ?_   -- 8, law.go:117
  refine s_mv 44 rfl rfl ?_
  refine s_bsl 45 rfl rfl (cells := #[.int .i64 ((N (mkm 7 a0) : Nat) : Int), .int .i64 0]) (by kernel_rfl) rfl (fun _ _ => trivial) (fun b45 => ?_)
  refine s_call 46 rfl rfl rfl rfl (fun w hw => by have := of_spec (some ⟨b45, 0, none⟩) 2 2 [((N (mkm 7 a0) : Nat) : Int), 0] w (Has.cong ((hw.has (i := 0) rfl).blk_sl (m := 2) rfl) rfl) (by omega) (fun j hj => by match j, hj with | 0, _ => (show 0 ≤ ((N (mkm 7 a0) : Nat) : Int) ∧ ((N (mkm 7 a0) : Nat) : Int) ≤ 2048; omega) | 1, _ => (show 0 ≤ (0 : Int) ∧ (0 : Int) ≤ 2048; omega)); rw [show ([((N (mkm 7 a0) : Nat) : Int), 0] : List Int).length = 2 from rfl, sumY_two] at this; exact this) (fun _ _ => trivial) (fun q46 hq46 => ?_)
  refine s_mv 43 rfl rfl ?_
  refine s_ext 47 rfl rfl rfl ?_
  refine s_ext 48 rfl rfl rfl ?_
  refine s_as 12 rfl rfl ?_
  refine s_as 13 rfl rfl ?_
  refine SX.next ?_
  refine CW.seq ?_
  refine CW.seq ?_
  refine CW.reg [0, 1, 2, 3, 4, 5, 6, 7, 8, 9, 10, 11, 12, 13, 14, 15, 16, 17] rfl ?_   -- 9, law.go:118
  refine s_mv 49 rfl rfl ?_
  refine s_neNN 50 rfl rfl ?_
  refine s_mv 51 rfl rfl ?_
  refine s_mv 52 rfl rfl ?_
  refine s_neNN 53 rfl rfl ?_
  refine s_pickF 54 rfl rfl rfl ?_
  refine s_mv 55 rfl rfl ?_
  refine s_mv 56 rfl rfl ?_
  refine s_call1 57 rfl rfl rfl rfl (v := .int .i64 (((minP (mkm 7 a0) (em (mkm 7 a0) a1)).length : Nat) - 1 : Int)) (fun w hw => by have := bdeg_spec q32.1 (bys (minP (mkm 7 a0) (em (mkm 7 a0) a1))).length q32.2 (bys (minP (mkm 7 a0) (em (mkm 7 a0) a1))) w ((hw.has (i := 3) rfl).of_own) (bys_lt hPB) (by omega) hq32; rw [bl_bys hPB] at this; exact this) (fun _ _ => trivial) ?_
  refine s_mv 58 rfl rfl ?_
  refine s_len 59 rfl rfl ?_
  refine s_ne 60 rfl rfl rfl (decide_eq_false (by omega)) ?_
  refine s_pickF 61 rfl rfl rfl ?_
  refine s_mv 62 rfl rfl ?_
  refine s_mv 63 rfl rfl ?_
  refine s_call1 64 rfl rfl rfl rfl (v := .bool true) (fun w hw => by have := birr_spec q32.1 (bys (minP (mkm 7 a0) (em (mkm 7 a0) a1))).length q32.2 (bys (minP (mkm 7 a0) (em (mkm 7 a0) a1))) w ((hw.has (i := 3) rfl).of_own) (bys_lt hPB) (by omega) hq32; rw [bl_bys hPB, min_irrP hm] at this; exact this) (fun _ _ => trivial) ?_
  refine s_not 65 rfl rfl ?_
  refine s_pickF 66 rfl rfl rfl ?_
  refine SX.next ?_
  refine CW.condF rfl ?_
  refine CW.skip ?_
  refine KN.code ?_
  refine CW.seq ?_
  refine CW.reg [0, 1, 2, 3, 4, 5, 6, 7, 8, 9] rfl ?_   -- 11, law.go:121
  refine s_mv 68 rfl rfl ?_
  refine s_mv 69 rfl rfl ?_
  have hQB := quotP_b1 hXB hPB (by omega)
  refine s_call 70 rfl rfl rfl rfl (fun w hw => by have := bdiv_spec q46.1 (bys (addP (xP (N (mkm 7 a0))) (xP 0))).length q46.2 (bys (addP (xP (N (mkm 7 a0))) (xP 0))) q32.1 (bys (minP (mkm 7 a0) (em (mkm 7 a0) a1))).length q32.2 (bys (minP (mkm 7 a0) (em (mkm 7 a0) a1))) w ((hw.has (i := 0) rfl).of_own) (bys_lt hXB) (by omega) hq46 ((hw.has (i := 3) rfl).of_own) (bys_lt hPB) (by omega) hq32 (by rw [bl_bys hPB]; omega) (by omega); rw [bl_bys hXB, bl_bys hPB, hdvd] at this; exact this) (fun _ _ => trivial) (fun q70 hq70 => ?_)
  refine s_mv 67 rfl rfl ?_
  refine s_ext 71 rfl rfl rfl ?_
  refine s_ext 72 rfl rfl rfl ?_
  refine s_ext 73 rfl rfl rfl ?_
  refine s_as 14 rfl rfl ?_
  refine s_as 15 rfl rfl ?_
  refine s_as 16 rfl rfl ?_
  refine SX.next ?_
  refine CW.seq ?_
  refine CW.seq ?_
  refine CW.reg [0] rfl ?_   -- 12, law.go:122
  refine s_as 17 rfl rfl ?_
  refine SX.next ?_
  refine CW.block ?_
  refine CW.loop (G := Nat) (fun j => [(4, .bool false), (6, .pointer (some ⟨g, 0, none⟩)), (8, .slice q32.1 (bys (minP (mkm 7 a0) (em (mkm 7 a0) a1))).length q32.2), (9, .slice q36.1 (cosP (mkm 7 a0) (em (mkm 7 a0) a1)).length q36.2), (15, .slice q70.2.1 (bys []).length q70.2.2), (16, .nilIface), (17, .int .i64 (j : Nat))]) (fun _ => Sto w [own 5 1 q70.2.1 (bys []).length q70.2.2 (nats .u8 (bys [])), own 3 1 q36.1 (cosP (mkm 7 a0) (em (mkm 7 a0) a1)).length q36.2 (nats .i64 (cosP (mkm 7 a0) (em (mkm 7 a0) a1))), own 5 1 q32.1 (bys (minP (mkm 7 a0) (em (mkm 7 a0) a1))).length q32.2 (nats .u8 (bys (minP (mkm 7 a0) (em (mkm 7 a0) a1)))), fieldA g (mkm 7 a0)]) (fun j => j ≤ (cosP (mkm 7 a0) (em (mkm 7 a0) a1)).length) (fun j => (cosP (mkm 7 a0) (em (mkm 7 a0) a1)).length - j) 0 ⟨rfl, rfl, rfl, rfl, rfl, rfl, rfl, trivial⟩ (fun _ h => h.pick [0, 3, 3, 3] rfl) (Nat.zero_le _) ?_
  intro j hj
  refine CW.seq ?_
  refine CW.seq ?_
  refine CW.reg [0, 1, 2, 3] rfl ?_   -- 13, law.go:122
  refine s_mv 74 rfl rfl ?_
  refine s_mv 75 rfl rfl ?_
  refine s_len 76 rfl rfl ?_
  refine s_lt 77 rfl rfl rfl rfl ?_
  refine SX.next ?_
  refine CW.test rfl (fun hc => ?_) (fun hc => ?_)
  · skip
    have hj2 : j < (cosP (mkm 7 a0) (em (mkm 7 a0) a1)).length := by omega
    have hjm := cf_mem hj2
    have hjN := cos_lt hm hjm
    have hje := em_small hjN
    have hjs : minP (mkm 7 a0) (em (mkm 7 a0) ((cf (cosP (mkm 7 a0) (em (mkm 7 a0) a1)) j : Nat) : Int)) = (minP (mkm 7 a0) (em (mkm 7 a0) a1)) := by rw [hje]; exact minP_same hm hjm
    refine CW.skip ?_
    refine KN.code ?_
    refine CW.seq ?_
    refine CW.block ?_
    refine CW.seq ?_
    refine CW.reg [0, 1, 2, 3, 4, 5, 6, 7, 8] rfl ?_   -- 15, law.go:123
    refine s_mv 80 rfl rfl ?_
    refine s_mv 81 rfl rfl ?_
    refine s_mv 82 rfl rfl ?_
    refine s_iaO 83 1 j rfl rfl rfl rfl rfl (by omega) ?_
    refine s_ldO 84 1 rfl rfl rfl (natsAtC hj2) ?_
    refine s_call 85 rfl rfl rfl rfl (fun w hw => by have := mof_spec g (mkm 7 a0) ((cf (cosP (mkm 7 a0) (em (mkm 7 a0) a1)) j : Nat) : Int) w hm (hw.has (i := 3) rfl); rw [hjs] at this; exact this) (fun _ _ => trivial) (fun q85 hq85 => ?_)
    refine s_mv 86 rfl rfl ?_
    refine s_call1 87 rfl rfl rfl rfl (v := .bool true) (fun w hw => by have := sameBytes_spec q85.1 (bys (minP (mkm 7 a0) (em (mkm 7 a0) a1))).length q85.2 (bys (minP (mkm 7 a0) (em (mkm 7 a0) a1))) q32.1 (bys (minP (mkm 7 a0) (em (mkm 7 a0) a1))).length q32.2 (bys (minP (mkm 7 a0) (em (mkm 7 a0) a1))) w ((hw.has (i := 0) rfl).of_own) (bys_lt hPB) ((hw.has (i := 3) rfl).of_own) (bys_lt hPB); rw [decide_eq_true rfl] at this; exact this) (fun _ _ => trivial) ?_
    refine s_not 88 rfl rfl ?_
    refine SX.next ?_
    refine CW.condF rfl ?_
    refine CW.skip ?_
    refine KN.blk ?_
    refine KN.code ?_
    refine CW.reg [0, 1, 2] rfl ?_   -- 14, law.go:122
    refine s_mv 78 rfl rfl ?_
    refine s_add 79 rfl rfl rfl (r := ((j + 1 : Nat) : Int)) (w64 (by omega)) ?_
    refine s_as 17 rfl rfl ?_
    refine SX.end_ ?_
    exact KN.back (j + 1) ⟨rfl, rfl, rfl, rfl, rfl, rfl, rfl, trivial⟩ (fun _ h => h.pick [1, 1, 1, 1] rfl) (by omega) (by omega)
  · skip
    obtain rfl : j = (cosP (mkm 7 a0) (em (mkm 7 a0) a1)).length := by omega
    refine CW.exit rfl ?_
    refine KN.code ?_
    refine CW.seq ?_
    refine CW.reg [0, 1, 2, 3, 4, 5, 6, 7] rfl ?_   -- 17, law.go:127
    refine s_mv 89 rfl rfl ?_
    refine s_eqNN 90 rfl rfl ?_
    refine s_mv 91 rfl rfl ?_
    refine s_mv 92 rfl rfl ?_
    refine s_call1 93 rfl rfl rfl rfl (v := .int .i64 (-1)) (fun w hw => by have := bdeg_spec q70.2.1 (bys []).length q70.2.2 (bys []) w ((hw.has (i := 0) rfl).of_own) (bys_lt nil_b1) (by omega) hq70.2; rw [bl_bys nil_b1] at this; exact this) (fun _ _ => trivial) ?_
    refine s_eq 94 rfl rfl rfl (decide_eq_true (by decide)) ?_
    refine s_pickT 95 rfl rfl rfl ?_
    refine s_as 4 rfl rfl ?_
    refine SX.next ?_
    refine CW.ret ?_
    exact KN.ret (rs := [.tmp 4]) Tryd.results11 rfl (fun w hw => ⟨rfl, hw.nothing⟩)
end Go.Proofs.YtcjddlcinaedaaaDoor
end
section
/- The statement MinimalZeros, walked. Conditions: the errors' variables. -/
namespace Go.Proofs.YtcjddlcinaedaaaDoor
open Go Go.Sx Go.Fm Nb
set_option maxRecDepth 100000
theorem bit0_bys {a : List Nat} (h : B1 a) : bitI (bys a) 0 = cf a 0 := bitN_bys h.le 0
def tz (z : Int) : Nat := (z % 8).toNat + 1
theorem tz_bd (z : Int) : 1 ≤ tz z ∧ tz z ≤ 8 := by
  have h1 := Int.emod_nonneg z (b := 8) (by omega)
  have h2 := Int.emod_lt_of_pos z (b := 8) (by omega)
  unfold tz
  omega
theorem tz_val (z : Int) : z % ((2 ^ 3 : Nat) : Int) + 1 = ((tz z : Nat) : Int) := by
  have h1 := Int.emod_nonneg z (b := 8) (by omega)
  show z % 8 + 1 = _
  unfold tz
  omega

theorem zeros_yes (a0 a1 : Int) (e : Nat → Addr) (w : World) (he : Er e w 3) (hd : (ldr (mkm 7 a0) (tz a1)).2 < N (mkm 7 a0)) : Spec1 Tryd.prog 9 [.int .i64 a0, .int .i64 a1] w (.bool true) := by
  have hm := mkm_ok (k := 7) (by omega) (by omega) a0
  have hmb := mkm_bd (k := 7) (by omega) a0
  have h14 := pow_le14 hm
  have hNs := N_succ (mkm 7 a0)
  have hNp := N_pos hm
  have hmh := hm.hi
  have htb := tz_bd a1
  refine spec_of Tryd.func9 rfl Tryd.ntmps9 rfl ?_
  refine CW.seq ?_
  refine CW.reg [0] rfl ?_   -- 0, law.go:131
  refine s_as 4 rfl rfl ?_
  refine SX.next ?_
  refine CW.seq ?_
  refine CW.reg [0, 1] rfl ?_   -- 1, law.go:132
  refine s_call1 18 rfl rfl rfl rfl (fun w hw => first5_spec e w (hw.er he)) (fun _ _ => trivial) ?_
  refine s_as 5 rfl rfl ?_
  refine SX.next ?_
  refine CW.seq ?_
  refine CW.reg [0, 1, 2, 3, 4, 5, 6] rfl ?_   -- 2, law.go:133
  refine s_mv 20 rfl rfl ?_
  refine s_call 21 rfl rfl rfl rfl (fun w hw => made5_spec a0 w) (fun _ _ => trivial) (fun g _ => ?_)
  refine s_mv 19 rfl rfl ?_
  refine s_ext 22 rfl rfl rfl ?_
  refine s_ext 23 rfl rfl rfl ?_
  refine s_as 6 rfl rfl ?_
  refine s_as 7 rfl rfl ?_
  refine SX.next ?_
  refine CW.seq ?_
  refine CW.seq ?_
  refine CW.reg [0, 1, 2, 3, 4, 5] rfl ?_   -- 3, law.go:134
  refine s_mv 24 rfl rfl ?_
  refine s_eqPN 25 rfl rfl ?_
  refine s_mv 26 rfl rfl ?_
  refine s_mv 27 rfl rfl ?_
  refine s_not 28 rfl rfl ?_
  refine s_pickF 29 rfl rfl rfl ?_
  refine SX.next ?_
  refine CW.condF rfl ?_
  refine CW.skip ?_
  refine KN.code ?_
  refine CW.seq ?_
  refine CW.reg [0, 1, 2, 3] rfl ?_   -- 5, law.go:137
  refine s_mv 30 rfl rfl ?_
  refine s_bit 31 rfl rfl rfl rfl (r := a1 % ((2 ^ 3 : Nat) : Int)) (ibit_and_mask a1 (m := 3) (by omega) (by decide)) ?_
  refine s_add 32 rfl rfl rfl (r := ((tz a1) : Nat)) (by rw [tz_val]; exact w64 (by omega)) ?_
  refine s_as 1 rfl rfl ?_
  refine SX.next ?_
  refine CW.seq ?_
  refine CW.reg [0, 1, 2, 3, 4, 5, 6, 7] rfl ?_   -- 6, law.go:138
  refine s_mv 34 rfl rfl ?_
  refine s_mv 35 rfl rfl ?_
  have hGB := gen_b1 hm (ldr (mkm 7 a0) (tz a1)).1
  have hGl := gen_lenL hm (tz a1)
  have hle := ldr_le hm (tz a1)
  have hsm := ldr_small hm hd
  have hbl1 := bys_len (genL (mkm 7 a0) (ldr (mkm 7 a0) (tz a1)).1)
  have hbn : (bys []).length = 0 := rfl
  have hmt := Nat.mul_le_mul (show (mkm 7 a0) ≤ 9 by omega) (show (tz a1) ≤ 8 by omega)
  have hza := zrs_all (m := (mkm 7 a0)) (a := (genL (mkm 7 a0) (ldr (mkm 7 a0) (tz a1)).1)) (T := 2 * (tz a1)) (K := (min ((N (mkm 7 a0) + 1 : Nat) : Int) (((N (mkm 7 a0) : Nat) : Int) - 1)).toNat) (fun x h1 h2 => gen_zero hm h1 h2 (by omega)) (by omega)
  have hzl := zrs_len (mkm 7 a0) (genL (mkm 7 a0) (ldr (mkm 7 a0) (tz a1)).1) (min ((N (mkm 7 a0) + 1 : Nat) : Int) (((N (mkm 7 a0) : Nat) : Int) - 1)).toNat
  refine s_call 36 rfl rfl rfl rfl (fun w hw => gen_ok g (mkm 7 a0) (tz a1) e w hm (hw.has (i := 0) rfl) (by omega) (by omega) hd) (fun _ _ => trivial) (fun q36 hq36 => ?_)
  refine s_mv 33 rfl rfl ?_
  refine s_ext 37 rfl rfl rfl ?_
  refine s_ext 38 rfl rfl rfl ?_
  refine s_as 8 rfl rfl ?_
  refine s_as 9 rfl rfl ?_
  refine SX.next ?_
  refine CW.seq ?_
  refine CW.reg [0, 1, 2, 3, 4, 5, 6, 7] rfl ?_   -- 7, law.go:139
  refine s_mv 40 rfl rfl ?_
  refine s_mv 41 rfl rfl ?_
  refine s_call1 42 rfl rfl rfl rfl (fun w hw => least_ok (mkm 7 a0) (tz a1) e w hm (by omega) (by omega) hd) (fun _ _ => trivial) ?_
  refine s_mv 39 rfl rfl ?_
  refine s_ext 43 rfl rfl rfl ?_
  refine s_ext 44 rfl rfl rfl ?_
  refine s_as 10 rfl rfl ?_
  refine s_as 11 rfl rfl ?_
  refine SX.next ?_
  refine CW.seq ?_
  refine CW.seq ?_
  refine CW.reg [0, 1] rfl ?_   -- 8, law.go:140
  refine s_mv 45 rfl rfl ?_
  refine s_neNN 46 rfl rfl ?_
  refine SX.next ?_
  refine CW.condF rfl ?_
  refine CW.skip ?_
  refine KN.code ?_
  refine CW.seq ?_
  refine CW.reg [0, 1, 2, 3, 4, 5, 6] rfl ?_   -- 10, law.go:143
  refine s_mv 60 rfl rfl ?_
  refine s_mv 61 rfl rfl ?_
  refine s_mv 62 rfl rfl ?_
  refine s_conv 63 rfl rfl (u64_nat hm) ?_
  refine s_shl 64 rfl rfl rfl (by omega) (shl_one hm) ?_
  refine s_call 65 rfl rfl rfl rfl (fun w hw => by have := zeros_spec g (mkm 7 a0) q36.1 (bys (genL (mkm 7 a0) (ldr (mkm 7 a0) (tz a1)).1)).length q36.2 (bys (genL (mkm 7 a0) (ldr (mkm 7 a0) (tz a1)).1)) ((N (mkm 7 a0) + 1 : Nat) : Int) w hm (hw.has (i := 1) rfl) ((hw.has (i := 0) rfl).of_own) (bys_lt hGB) (by omega) hq36; rw [bl_bys hGB] at this; exact this) (fun _ _ => trivial) (fun q65 hq65 => ?_)
  refine s_as 12 rfl rfl ?_
  refine SX.next ?_
  refine CW.seq ?_
  refine CW.seq ?_
  refine CW.reg [0, 1, 2, 3, 4, 5, 6, 7, 8, 9, 10, 11, 12, 13, 14, 15, 16, 17, 18, 19, 20, 21] rfl ?_   -- 11, law.go:144
  refine s_mv 66 rfl rfl ?_
  refine s_neNN 67 rfl rfl ?_
  refine s_mv 68 rfl rfl ?_
  refine s_mv 69 rfl rfl ?_
  refine s_call1 70 rfl rfl rfl rfl (v := .int .i64 (((genL (mkm 7 a0) (ldr (mkm 7 a0) (tz a1)).1).length : Nat) - 1 : Int)) (fun w hw => by have := bdeg_spec q36.1 (bys (genL (mkm 7 a0) (ldr (mkm 7 a0) (tz a1)).1)).length q36.2 (bys (genL (mkm 7 a0) (ldr (mkm 7 a0) (tz a1)).1)) w ((hw.has (i := 1) rfl).of_own) (bys_lt hGB) (by omega) hq36; rw [bl_bys hGB] at this; exact this) (fun _ _ => trivial) ?_
  refine s_mv 71 rfl rfl ?_
  refine s_ne 72 rfl rfl rfl (decide_eq_false (by omega)) ?_
  refine s_pickF 73 rfl rfl rfl ?_
  refine s_mv 74 rfl rfl ?_
  refine s_mv 75 rfl rfl ?_
  refine s_mv 76 rfl rfl ?_
  refine s_mv 77 rfl rfl ?_
  refine s_mul 78 rfl rfl rfl (r := (((mkm 7 a0) * (tz a1) : Nat) : Int)) (by rw [← Int.natCast_mul]; exact w64 (by omega)) ?_
  refine s_gt 79 rfl rfl rfl (decide_eq_false (by omega)) ?_
  refine s_pickF 80 rfl rfl rfl ?_
  refine s_mv 81 rfl rfl ?_
  refine s_mv 82 rfl rfl ?_
  refine s_len 83 rfl rfl ?_
  refine s_mv 84 rfl rfl ?_
  refine s_mul 85 rfl rfl rfl (r := ((2 * (tz a1) : Nat) : Int)) (by rw [show (2 : Int) * (((tz a1) : Nat) : Int) = ((2 * (tz a1) : Nat) : Int) by omega]; exact w64 (by omega)) ?_
  refine s_lt 86 rfl rfl rfl (decide_eq_false (by omega)) ?_
  refine s_pickF 87 rfl rfl rfl ?_
  refine SX.next ?_
  refine CW.condF rfl ?_
  refine CW.skip ?_
  refine KN.code ?_
  refine CW.seq ?_
  refine CW.seq ?_
  refine CW.reg [0] rfl ?_   -- 13, law.go:147
  refine s_as 13 rfl rfl ?_
  refine SX.next ?_
  refine CW.block ?_
  refine CW.loop (G := Nat) (fun i => [(1, .int .i64 ((tz a1) : Nat)), (4, .bool false), (6, .pointer (some ⟨g, 0, none⟩)), (8, .slice q36.1 (bys (genL (mkm 7 a0) (ldr (mkm 7 a0) (tz a1)).1)).length q36.2), (12, .slice q65.1 (zrs (mkm 7 a0) (genL (mkm 7 a0) (ldr (mkm 7 a0) (tz a1)).1) (min ((N (mkm 7 a0) + 1 : Nat) : Int) (((N (mkm 7 a0) : Nat) : Int) - 1)).toNat).length q65.2), (13, .int .i64 (i : Nat))]) (fun _ => Sto w [own 3 1 q65.1 (zrs (mkm 7 a0) (genL (mkm 7 a0) (ldr (mkm 7 a0) (tz a1)).1) (min ((N (mkm 7 a0) + 1 : Nat) : Int) (((N (mkm 7 a0) : Nat) : Int) - 1)).toNat).length q65.2 (nats .i64 (zrs (mkm 7 a0) (genL (mkm 7 a0) (ldr (mkm 7 a0) (tz a1)).1) (min ((N (mkm 7 a0) + 1 : Nat) : Int) (((N (mkm 7 a0) : Nat) : Int) - 1)).toNat)), own 5 1 q36.1 (bys (genL (mkm 7 a0) (ldr (mkm 7 a0) (tz a1)).1)).length q36.2 (nats .u8 (bys (genL (mkm 7 a0) (ldr (mkm 7 a0) (tz a1)).1))), fieldA g (mkm 7 a0)]) (fun i => i ≤ 2 * (tz a1)) (fun i => 2 * (tz a1) - i) 0 ⟨rfl, rfl, rfl, rfl, rfl, rfl, trivial⟩ (fun _ h => h) (Nat.zero_le _) ?_
  intro i hi
  refine CW.seq ?_
  refine CW.seq ?_
  refine CW.reg [0, 1, 2, 3] rfl ?_   -- 14, law.go:147
  refine s_mv 88 rfl rfl ?_
  refine s_mv 89 rfl rfl ?_
  refine s_mul 90 rfl rfl rfl (r := ((2 * (tz a1) : Nat) : Int)) (by rw [show (2 : Int) * (((tz a1) : Nat) : Int) = ((2 * (tz a1) : Nat) : Int) by omega]; exact w64 (by omega)) ?_
  refine s_lt 91 rfl rfl rfl rfl ?_
  refine SX.next ?_
  refine CW.test rfl (fun hc => ?_) (fun hc => ?_)
  · skip
    have hi2 : i < 2 * (tz a1) := by omega
    have hzi := hza.2 i hi2
    have hiz : i < (zrs (mkm 7 a0) (genL (mkm 7 a0) (ldr (mkm 7 a0) (tz a1)).1) (min ((N (mkm 7 a0) + 1 : Nat) : Int) (((N (mkm 7 a0) : Nat) : Int) - 1)).toNat).length := by omega
    have hcz : cf (zrs (mkm 7 a0) (genL (mkm 7 a0) (ldr (mkm 7 a0) (tz a1)).1) (min ((N (mkm 7 a0) + 1 : Nat) : Int) (((N (mkm 7 a0) : Nat) : Int) - 1)).toNat) i = i + 1 := by unfold cf; rw [List.getD_eq_getElem?_getD, hzi]; rfl
    refine CW.skip ?_
    refine KN.code ?_
    refine CW.seq ?_
    refine CW.block ?_
    refine CW.seq ?_
    refine CW.reg [0, 1, 2, 3, 4, 5, 6] rfl ?_   -- 16, law.go:148
    refine s_mv 94 rfl rfl ?_
    refine s_mv 95 rfl rfl ?_
    refine s_iaO 96 0 i rfl rfl rfl rfl rfl (by omega) ?_
    refine s_ldO 97 0 rfl rfl rfl (natsAtC hiz) ?_
    refine s_mv 98 rfl rfl ?_
    refine s_add 99 rfl rfl rfl (r := ((i + 1 : Nat) : Int)) (w64 (by omega)) ?_
    refine s_ne 100 rfl rfl rfl (decide_eq_false (by omega)) ?_
    refine SX.next ?_
    refine CW.condF rfl ?_
    refine CW.skip ?_
    refine KN.blk ?_
    refine KN.code ?_
    refine CW.reg [0, 1, 2] rfl ?_   -- 15, law.go:147
    refine s_mv 92 rfl rfl ?_
    refine s_add 93 rfl rfl rfl (r := ((i + 1 : Nat) : Int)) (w64 (by omega)) ?_
    refine s_as 13 rfl rfl ?_
    refine SX.end_ ?_
    exact KN.back (i + 1) ⟨rfl, rfl, rfl, rfl, rfl, rfl, trivial⟩ (fun _ h => h) (by omega) (by omega)
  · skip
    refine CW.exit rfl ?_
    refine KN.code ?_
    refine CW.seq ?_
    refine CW.seq ?_
    refine CW.reg [0] rfl ?_   -- 18, law.go:152
    refine s_as 14 rfl rfl ?_
    refine SX.next ?_
    refine CW.block ?_
    refine CW.loop (G := Nat) (fun k => [(1, .int .i64 ((tz a1) : Nat)), (4, .bool false), (6, .pointer (some ⟨g, 0, none⟩)), (8, .slice q36.1 (bys (genL (mkm 7 a0) (ldr (mkm 7 a0) (tz a1)).1)).length q36.2), (14, .int .i64 ((2 * k + 1 : Nat) : Int))]) (fun _ => Sto w [own 3 1 q65.1 (zrs (mkm 7 a0) (genL (mkm 7 a0) (ldr (mkm 7 a0) (tz a1)).1) (min ((N (mkm 7 a0) + 1 : Nat) : Int) (((N (mkm 7 a0) : Nat) : Int) - 1)).toNat).length q65.2 (nats .i64 (zrs (mkm 7 a0) (genL (mkm 7 a0) (ldr (mkm 7 a0) (tz a1)).1) (min ((N (mkm 7 a0) + 1 : Nat) : Int) (((N (mkm 7 a0) : Nat) : Int) - 1)).toNat)), own 5 1 q36.1 (bys (genL (mkm 7 a0) (ldr (mkm 7 a0) (tz a1)).1)).length q36.2 (nats .u8 (bys (genL (mkm 7 a0) (ldr (mkm 7 a0) (tz a1)).1))), fieldA g (mkm 7 a0)]) (fun k => k ≤ (tz a1)) (fun k => (tz a1) - k) 0 ⟨rfl, rfl, rfl, rfl, rfl, trivial⟩ (fun _ h => h) (Nat.zero_le _) ?_
    intro k hk
    refine CW.seq ?_
    refine CW.seq ?_
    refine CW.reg [0, 1, 2, 3] rfl ?_   -- 19, law.go:152
    refine s_mv 101 rfl rfl ?_
    refine s_mv 102 rfl rfl ?_
    refine s_mul 103 rfl rfl rfl (r := ((2 * (tz a1) : Nat) : Int)) (by rw [show (2 : Int) * (((tz a1) : Nat) : Int) = ((2 * (tz a1) : Nat) : Int) by omega]; exact w64 (by omega)) ?_
    refine s_lt 104 rfl rfl rfl rfl ?_
    refine SX.next ?_
    refine CW.test rfl (fun hc => ?_) (fun hc => ?_)
    · skip
      have hk2 : k < (tz a1) := by omega
      have hPB := minP_b1 hm (2 * k + 1)
      have hPl := minP_len hm (2 * k + 1)
      have hcl := cos_len_pos hm (2 * k + 1)
      have hbl2 := bys_len (minP (mkm 7 a0) (2 * k + 1))
      have hdv := gen_odd hm hk2
      have hQB := quotP_b1 hGB hPB (by omega)
      have hke := em_small (m := (mkm 7 a0)) (show 2 * k + 1 < N (mkm 7 a0) by omega)
      refine CW.skip ?_
      refine KN.code ?_
      refine CW.seq ?_
      refine CW.block ?_
      refine CW.seq ?_
      refine CW.reg [0, 1, 2, 3, 4, 5, 6, 7, 8, 9, 10, 11] rfl ?_   -- 21, law.go:153
      refine s_mv 108 rfl rfl ?_
      refine s_mv 109 rfl rfl ?_
      refine s_mv 110 rfl rfl ?_
      refine s_call 111 rfl rfl rfl rfl (fun w hw => by have := mof_spec g (mkm 7 a0) ((2 * k + 1 : Nat) : Int) w hm (hw.has (i := 2) rfl); rw [hke] at this; exact this) (fun _ _ => trivial) (fun q111 hq111 => ?_)
      refine s_call 112 rfl rfl rfl rfl (fun w hw => by have := bdiv_spec q36.1 (bys (genL (mkm 7 a0) (ldr (mkm 7 a0) (tz a1)).1)).length q36.2 (bys (genL (mkm 7 a0) (ldr (mkm 7 a0) (tz a1)).1)) q111.1 (bys (minP (mkm 7 a0) (2 * k + 1))).length q111.2 (bys (minP (mkm 7 a0) (2 * k + 1))) w ((hw.has (i := 2) rfl).of_own) (bys_lt hGB) (by omega) hq36 ((hw.has (i := 0) rfl).of_own) (bys_lt hPB) (by omega) hq111 (by rw [bl_bys hPB]; omega) (by omega); rw [bl_bys hGB, bl_bys hPB, hdv] at this; exact this) (fun _ _ => trivial) (fun q112 hq112 => ?_)
      refine s_mv 107 rfl rfl ?_
      refine s_ext 113 rfl rfl rfl ?_
      refine s_ext 114 rfl rfl rfl ?_
      refine s_ext 115 rfl rfl rfl ?_
      refine s_as 15 rfl rfl ?_
      refine s_as 16 rfl rfl ?_
      refine s_as 17 rfl rfl ?_
      refine SX.next ?_
      refine CW.seq ?_
      refine CW.reg [0, 1, 2, 3, 4, 5, 6] rfl ?_   -- 22, law.go:154
      refine s_mv 116 rfl rfl ?_
      refine s_neNN 117 rfl rfl ?_
      refine s_mv 118 rfl rfl ?_
      refine s_mv 119 rfl rfl ?_
      refine s_call1 120 rfl rfl rfl rfl (v := .int .i64 (-1)) (fun w hw => by have := bdeg_spec q112.2.1 (bys []).length q112.2.2 (bys []) w ((hw.has (i := 0) rfl).of_own) (bys_lt nil_b1) (by omega) hq112.2; rw [bl_bys nil_b1] at this; exact this) (fun _ _ => trivial) ?_
      refine s_ne 121 rfl rfl rfl (decide_eq_false (by decide)) ?_
      refine s_pickF 122 rfl rfl rfl ?_
      refine SX.next ?_
      refine CW.condF rfl ?_
      refine CW.skip ?_
      refine KN.blk ?_
      refine KN.code ?_
      refine CW.reg [0, 1, 2] rfl ?_   -- 20, law.go:152
      refine s_mv 105 rfl rfl ?_
      refine s_add 106 rfl rfl rfl (r := ((2 * (k + 1) + 1 : Nat) : Int)) (by rw [show ((2 * k + 1 : Nat) : Int) + 2 = ((2 * (k + 1) + 1 : Nat) : Int) by omega]; exact w64 (by omega)) ?_
      refine s_as 14 rfl rfl ?_
      refine SX.end_ ?_
      exact KN.back (k + 1) ⟨rfl, rfl, rfl, rfl, rfl, trivial⟩ (fun _ h => h.pick [3, 3, 3] rfl) (by omega) (by omega)
    · skip
      refine CW.exit rfl ?_
      refine KN.code ?_
      refine CW.seq ?_
      refine CW.reg [0, 1, 2, 3] rfl ?_   -- 24, law.go:158
      refine s_mv 123 rfl rfl ?_
      refine s_call1 124 rfl rfl rfl rfl (v := .int .i64 1) (fun w hw => by have := bbit_spec q36.1 (bys (genL (mkm 7 a0) (ldr (mkm 7 a0) (tz a1)).1)).length q36.2 (bys (genL (mkm 7 a0) (ldr (mkm 7 a0) (tz a1)).1)) 0 w ((hw.has (i := 1) rfl).of_own) (bys_lt hGB) (by omega) hq36 (by omega); rw [bit0_bys hGB, gen_low hm] at this; exact this) (fun _ _ => trivial) ?_
      refine s_eq 125 rfl rfl rfl (decide_eq_true (by rfl)) ?_
      refine s_as 4 rfl rfl ?_
      refine SX.next ?_
      refine CW.ret ?_
      exact KN.ret (rs := [.tmp 4]) Tryd.results9 rfl (fun w hw => ⟨rfl, hw.nothing⟩)

theorem zeros_no (a0 a1 : Int) (e : Nat → Addr) (w : World) (he : Er e w 3) (hd : ¬ ((ldr (mkm 7 a0) (tz a1)).2 < N (mkm 7 a0))) : Spec1 Tryd.prog 9 [.int .i64 a0, .int .i64 a1] w (.bool true) := by
  have hm := mkm_ok (k := 7) (by omega) (by omega) a0
  have hmb := mkm_bd (k := 7) (by omega) a0
  have h14 := pow_le14 hm
  have hNs := N_succ (mkm 7 a0)
  have hNp := N_pos hm
  have hmh := hm.hi
  have htb := tz_bd a1
  refine spec_of Tryd.func9 rfl Tryd.ntmps9 rfl ?_
  refine CW.seq ?_
  refine CW.reg [0] rfl ?_   -- 0, law.go:131
  refine s_as 4 rfl rfl ?_
  refine SX.next ?_
  refine CW.seq ?_
  refine CW.reg [0, 1] rfl ?_   -- 1, law.go:132
  refine s_call1 18 rfl rfl rfl rfl (fun w hw => first5_spec e w (hw.er he)) (fun _ _ => trivial) ?_
  refine s_as 5 rfl rfl ?_
  refine SX.next ?_
  refine CW.seq ?_
  refine CW.reg [0, 1, 2, 3, 4, 5, 6] rfl ?_   -- 2, law.go:133
  refine s_mv 20 rfl rfl ?_
  refine s_call 21 rfl rfl rfl rfl (fun w hw => made5_spec a0 w) (fun _ _ => trivial) (fun g _ => ?_)
  refine s_mv 19 rfl rfl ?_
  refine s_ext 22 rfl rfl rfl ?_
  refine s_ext 23 rfl rfl rfl ?_
  refine s_as 6 rfl rfl ?_
  refine s_as 7 rfl rfl ?_
  refine SX.next ?_
  refine CW.seq ?_
  refine CW.seq ?_
  refine CW.reg [0, 1, 2, 3, 4, 5] rfl ?_   -- 3, law.go:134
  refine s_mv 24 rfl rfl ?_
  refine s_eqPN 25 rfl rfl ?_
  refine s_mv 26 rfl rfl ?_
  refine s_mv 27 rfl rfl ?_
  refine s_not 28 rfl rfl ?_
  refine s_pickF 29 rfl rfl rfl ?_
  refine SX.next ?_
  refine CW.condF rfl ?_
  refine CW.skip ?_
  refine KN.code ?_
  refine CW.seq ?_
  refine CW.reg [0, 1, 2, 3] rfl ?_   -- 5, law.go:137
  refine s_mv 30 rfl rfl ?_
  refine s_bit 31 rfl rfl rfl rfl (r := a1 % ((2 ^ 3 : Nat) : Int)) (ibit_and_mask a1 (m := 3) (by omega) (by decide)) ?_
  refine s_add 32 rfl rfl rfl (r := ((tz a1) : Nat)) (by rw [tz_val]; exact w64 (by omega)) ?_
  refine s_as 1 rfl rfl ?_
  refine SX.next ?_
  refine CW.seq ?_
  refine CW.reg [0, 1, 2, 3, 4, 5, 6, 7] rfl ?_   -- 6, law.go:138
  refine s_mv 34 rfl rfl ?_
  refine s_mv 35 rfl rfl ?_
  refine s_call1 36 rfl rfl rfl rfl (fun w hw => gen_code g (mkm 7 a0) (tz a1) e w hm (hw.has (i := 0) rfl) (by omega) (by omega) (hw.er he) hd) (fun _ _ => trivial) ?_
  refine s_mv 33 rfl rfl ?_
  refine s_ext 37 rfl rfl rfl ?_
  refine s_ext 38 rfl rfl rfl ?_
  refine s_as 8 rfl rfl ?_
  refine s_as 9 rfl rfl ?_
  refine SX.next ?_
  refine CW.seq ?_
  refine CW.reg [0, 1, 2, 3, 4, 5, 6, 7] rfl ?_   -- 7, law.go:139
  refine s_mv 40 rfl rfl ?_
  refine s_mv 41 rfl rfl ?_
  refine s_call1 42 rfl rfl rfl rfl (fun w hw => least_code (mkm 7 a0) (tz a1) e w hm (by omega) (by omega) (hw.er he) hd) (fun _ _ => trivial) ?_
  refine s_mv 39 rfl rfl ?_
  refine s_ext 43 rfl rfl rfl ?_
  refine s_ext 44 rfl rfl rfl ?_
  refine s_as 10 rfl rfl ?_
  refine s_as 11 rfl rfl ?_
  refine SX.next ?_
  refine CW.seq ?_
  refine CW.seq ?_
  refine CW.reg [0, 1] rfl ?_   -- 8, law.go:140
  refine s_mv 45 rfl rfl ?_
  refine s_neHN 46 rfl rfl ?_
  refine SX.next ?_
  refine CW.condT rfl ?_
  refine CW.seq ?_
  refine CW.reg [0, 1, 2, 3, 4, 5, 6, 7, 8, 9, 10, 11, 12, 13] rfl ?_   -- 9, law.go:141
  refine s_mv 47 rfl rfl ?_
  refine s_ld 48 rfl rfl (fun _ h => h.cell he) ?_
  refine s_eqE 49 rfl rfl rfl ?_
  refine s_mv 50 rfl rfl ?_
  refine s_mv 51 rfl rfl ?_
  refine s_ld 52 rfl rfl (fun _ h => h.cell he) ?_
  refine s_eqE 53 rfl rfl rfl ?_
  refine s_pickT 54 rfl rfl rfl ?_
  refine s_mv 55 rfl rfl ?_
  refine s_mv 56 rfl rfl ?_
  refine s_len 57 rfl rfl ?_
  refine s_eq 58 rfl rfl rfl (decide_eq_true (by rfl)) ?_
  refine s_pickT 59 rfl rfl rfl ?_
  refine s_as 4 rfl rfl ?_
  refine SX.next ?_
  refine CW.ret ?_
  exact KN.ret (rs := [.tmp 4]) Tryd.results9 rfl (fun w hw => ⟨rfl, hw.nothing⟩)

theorem walk_MinimalZeros (a0 a1 : Int) (e : Nat → Addr) (w : World) (he : Er e w 3) : Spec1 Tryd.prog 9 [.int .i64 a0, .int .i64 a1] w (.bool true) := by
  by_cases hd : (ldr (mkm 7 a0) (tz a1)).2 < N (mkm 7 a0)
  · exact zeros_yes a0 a1 e w he hd
  · exact zeros_no a0 a1 e w he hd
end Go.Proofs.YtcjddlcinaedaaaDoor
end
