/- The document's sums of powers, the chapter's examples, and the statements BinOf and BinCounts. No condition but the errors' variables. -/
import Derived.Test.YtcjddlcinaedaaaDoorBin7
namespace Go.Proofs.YtcjddlcinaedaaaDoor
open Go Go.Lib Go.Sx Go.Fm
set_option maxRecDepth 100000
theorem eX_cf (l : List Int) (i j : Nat) : cf (sumF (eX l) (i + 1)) j = cf (sumF (eX l) i) j ^^^ (if j = (l.getD i 0).toNat then 1 else 0) := by
  show cf (addP (sumF (eX l) i) (eX l i)) j = _
  rw [cf_addP]
  unfold eX
  rw [cf_xP]
theorem toggle_next {l : List Int} {i k : Nat} (hk : l.getD i 0 = (k : Nat)) : (fun j => if j = k then cf (sumF (eX l) i) k ^^^ 1 else cf (sumF (eX l) i) j) = cf (sumF (eX l) (i + 1)) := by
  funext j
  rw [eX_cf, hk, Int.toNat_natCast]
  by_cases h : j = k
  · subst h; rw [if_pos rfl, if_pos rfl]
  · rw [if_neg h, if_neg h, Nat.xor_zero]
theorem sumF_hi {l : List Int} {M : Nat} : ∀ {i : Nat}, (∀ j, j < i → (l.getD j 0).toNat ≤ M) → ∀ j, M < j → cf (sumF (eX l) i) j = 0
  | 0, _, j, _ => cf_nil j
  | i + 1, h, j, hj => by
    rw [eX_cf, sumF_hi (i := i) (fun j hj => h j (by omega)) j hj, if_neg (by have := h i (by omega); omega)]
    rfl
theorem nzP_tab {l : List Int} {M i : Nat} (h : ∀ j, j < i → (l.getD j 0).toNat ≤ M) : nzP (tabN (M + 1) (cf (sumF (eX l) i))) (tabN (M + 1) (cf (sumF (eX l) i))).length = sumF (eX l) i := by
  have hb := sumF_b1 (eX_b1 l) i
  refine (nzP_b1 _ _).tr.ext hb.tr (fun j => ?_)
  rw [cf_nzP, tabN_len]
  split
  · rename_i hj
    have e : (tabN (M + 1) (cf (sumF (eX l) i))).getD j 0 = ((cf (sumF (eX l) i) j : Nat) : Int) := by
      unfold tabN
      rw [tab_getD, if_pos hj]
    unfold nzF
    rw [e]
    have := hb.le j
    split <;> omega
  · exact (sumF_hi h j (by omega)).symm

theorem rof_spec (A : Option Addr) (n c : Nat) (l : List Int) (w : World) (ha : Has (sl 1 A n (ints .i64 l)) w) (hn : n ≤ 1000000) (hr : ∀ j, j < l.length → 0 ≤ l.getD j 0 ∧ l.getD j 0 ≤ 2048) : SpecB Tryd.prog 90 [.slice A n c] w (bys (sumF (eX l) l.length)) := by
  have hla := ints_len ha
  subst hla
  refine spec_of Tryd.func90 rfl Tryd.ntmps90 rfl ?_
  refine CW.seq ?_
  refine CW.reg [0] rfl ?_   -- 0, binpoly.go:40
  refine s_as 2 rfl rfl ?_
  refine SX.next ?_
  refine CW.seq ?_
  refine CW.reg [0] rfl ?_   -- 1, binpoly.go:41
  refine s_as 3 rfl rfl ?_
  refine SX.next ?_
  refine CW.seq ?_
  refine CW.seq ?_
  refine CW.reg [0] rfl ?_   -- 2, binpoly.go:42
  refine s_as 4 rfl rfl ?_
  refine SX.next ?_
  refine CW.block ?_
  refine CW.loop (G := Nat × Nat) (fun q => [(0, .slice A l.length c), (3, .int .i64 (q.2 : Nat)), (4, .int .i64 (q.1 : Nat))]) (fun _ => Sto w []) (fun q => (q.1 ≤ l.length ∧ q.2 ≤ 2048) ∧ ∀ j, j < q.1 → (l.getD j 0).toNat ≤ q.2) (fun q => l.length - q.1) (0, 0) ⟨rfl, rfl, rfl, trivial⟩ (fun _ h => h) ⟨⟨Nat.zero_le _, Nat.zero_le _⟩, fun j hj => by simp at hj⟩ ?_
  rintro ⟨i, M⟩ ⟨⟨hi, hM⟩, hmx⟩
  simp only at hi hM hmx
  dsimp only
  refine CW.seq ?_
  refine CW.seq ?_
  refine CW.reg [0, 1, 2, 3] rfl ?_   -- 3, binpoly.go:42
  refine s_mv 7 rfl rfl ?_
  refine s_mv 8 rfl rfl ?_
  refine s_len 9 rfl rfl ?_
  refine s_lt 10 rfl rfl rfl rfl ?_
  refine SX.next ?_
  refine CW.test rfl (fun hc => ?_) (fun hc => ?_)
  · skip
    obtain ⟨k, hk⟩ := Int.eq_ofNat_of_zero_le (hr i (by omega)).1
    have hk2 : k ≤ 2048 := by have := (hr i (by omega)).2; omega
    refine CW.skip ?_
    refine KN.code ?_
    refine CW.seq ?_
    refine CW.block ?_
    refine CW.reg [0, 1, 2, 3, 4, 5, 6] rfl ?_   -- 5, binpoly.go:43
    refine s_mv 13 rfl rfl ?_
    refine s_mv 14 rfl rfl ?_
    refine s_mv 15 rfl rfl ?_
    refine s_iaV 16 i (fun w hw => hw.old ha) rfl rfl rfl rfl (by omega) ?_
    refine s_ldV 17 (v := .int .i64 (k : Nat)) (fun w hw => hw.old ha) rfl rfl (by rw [Nat.mul_one, intsAt (by omega), hk]) (by omega) ?_
    refine s_max 18 rfl rfl rfl (r := ((max M k : Nat) : Int)) (by split <;> omega) ?_
    refine s_as 3 rfl rfl ?_
    refine SX.end_ ?_
    refine KN.blk ?_
    refine KN.code ?_
    refine CW.reg [0, 1, 2] rfl ?_   -- 4, binpoly.go:42
    refine s_mv 11 rfl rfl ?_
    refine s_add 12 rfl rfl rfl (r := ((i + 1 : Nat) : Int)) (w64 (by omega)) ?_
    refine s_as 4 rfl rfl ?_
    refine SX.end_ ?_
    exact KN.back (i + 1, max M k) ⟨rfl, rfl, rfl, trivial⟩ (fun _ h => h) ⟨⟨by simp only; omega, by simp only; omega⟩, fun j hj => by
  simp only at hj ⊢
  by_cases h : j = i
  · subst h; rw [hk, Int.toNat_natCast]; omega
  · have := hmx j (by omega); omega⟩ (by simp only; omega)
  · skip
    obtain rfl : i = l.length := by omega
    refine CW.exit rfl ?_
    refine KN.code ?_
    refine CW.seq ?_
    refine CW.reg [0, 1, 2, 3] rfl ?_   -- 6, binpoly.go:45
    refine s_mv 19 rfl rfl ?_
    refine s_add 20 rfl rfl rfl (r := ((M + 1 : Nat) : Int)) (w64 (by omega)) ?_
    refine s_make 21 (M + 1) rfl rfl rfl rfl rfl (by omega) (fun _ _ => trivial) (fun go => ?_)
    refine s_as 5 rfl rfl ?_
    refine SX.next ?_
    refine CW.seq ?_
    refine CW.seq ?_
    refine CW.reg [0] rfl ?_   -- 7, binpoly.go:46
    refine s_as 6 rfl rfl ?_
    refine SX.next ?_
    refine CW.block ?_
    refine CW.loop (G := Nat) (fun i => [(0, .slice A l.length c), (5, .slice (some ⟨go, 0, none⟩) (M + 1) (M + 1)), (6, .int .i64 (i : Nat))]) (fun i => Sto w [blk go 3 (ints .i64 (tabN (M + 1) (cf (sumF (eX l) i)))).toArray]) (fun i => i ≤ l.length) (fun i => l.length - i) 0 ⟨rfl, rfl, rfl, trivial⟩ (fun _ h => by rw [show tabN (M + 1) (cf (sumF (eX l) 0)) = tab (M + 1) (fun _ => 0) from tab_cong (fun j _ => by rw [show sumF (eX l) 0 = [] from rfl, cf_nil]; rfl), ← tab_zero]; exact h) (Nat.zero_le _) ?_
    intro i hi
    refine CW.seq ?_
    refine CW.seq ?_
    refine CW.reg [0, 1, 2, 3] rfl ?_   -- 8, binpoly.go:46
    refine s_mv 22 rfl rfl ?_
    refine s_mv 23 rfl rfl ?_
    refine s_len 24 rfl rfl ?_
    refine s_lt 25 rfl rfl rfl rfl ?_
    refine SX.next ?_
    refine CW.test rfl (fun hc => ?_) (fun hc => ?_)
    · skip
      obtain ⟨k, hk⟩ := Int.eq_ofNat_of_zero_le (hr i (by omega)).1
      have hkM : k ≤ M := by have := hmx i (by omega); rw [hk, Int.toNat_natCast] at this; exact this
      have htw := (sumF_b1 (eX_b1 l) i).le k
      refine CW.skip ?_
      refine KN.code ?_
      refine CW.seq ?_
      refine CW.block ?_
      refine CW.regD (.st true 0 (.st true 1 (.st true 2 (.st true 3 (.st true 4 (.st true 5 (.st true 6 (.st true 7 (.st true 8 (.st true 9 (.st true 10 (.st false 11 (.st true 12 (.st true 13 (.st false 14 .done))))))))))))))) (Sto w []) mixed (by kernel_rfl) (fun _ h => h.drew) (fun _ h => h.pick [] rfl) ?_
      refine s_mv 28 rfl rfl ?_
      refine s_mv 29 rfl rfl ?_
      refine s_mv 30 rfl rfl ?_
      refine s_iaV 31 i (fun w hw => hw.old ha) rfl rfl rfl rfl (by omega) ?_
      refine s_ldVS 32 (v := .int .i64 (k : Nat)) (fun w hw => hw.old ha) rfl rfl (by rw [Nat.mul_one, intsAt (by omega), hk]) (by omega) ?_
      refine s_mv 33 rfl rfl ?_
      refine s_mv 34 rfl rfl ?_
      refine s_mv 35 rfl rfl ?_
      refine s_iaV 36 i (fun w hw => hw.old ha) rfl rfl rfl rfl (by omega) ?_
      refine s_ldVS 37 (v := .int .i64 (k : Nat)) (fun w hw => hw.old ha) rfl rfl (by rw [Nat.mul_one, intsAt (by omega), hk]) (by omega) ?_
      refine s_ia0 38 k rfl rfl rfl rfl (by omega) ?_
      refine s_ldB 39 0 rfl rfl rfl (v := .int .i64 (cf (sumF (eX l) i) k : Nat)) (by unfold tabN; exact tab_atA (by omega)) ?_
      refine s_bit 40 rfl rfl rfl rfl (ibit_xor_nat (y := 1) (by omega) (by omega)) ?_
      refine s_ia0 41 k rfl rfl rfl rfl (by omega) ?_
      refine s_stB 0 rfl rfl rfl rfl rfl (by rw [show (ints .i64 (tabN (M + 1) (cf (sumF (eX l) i)))).toArray.size = M + 1 from tab_size]; omega) (fun _ h => h.pick [] rfl) ?_
      refine SX.end_ ?_
      refine KN.blk ?_
      refine KN.code ?_
      refine CW.reg [0, 1, 2] rfl ?_   -- 9, binpoly.go:46
      refine s_mv 26 rfl rfl ?_
      refine s_add 27 rfl rfl rfl (r := ((i + 1 : Nat) : Int)) (w64 (by omega)) ?_
      refine s_as 6 rfl rfl ?_
      refine SX.end_ ?_
      exact KN.back (i + 1) ⟨rfl, rfl, rfl, trivial⟩ (fun _ h => by rw [← toggle_next hk, ← tabN_set]; exact h) (by omega) (by omega)
    · skip
      obtain rfl : i = l.length := by omega
      have hnt := nzP_tab hmx
      have htl := tabN_len (M + 1) (cf (sumF (eX l) l.length))
      refine CW.exit rfl ?_
      refine KN.code ?_
      refine CW.seq ?_
      refine CW.reg [0, 1, 2] rfl ?_   -- 11, binpoly.go:49
      refine s_mv 42 rfl rfl ?_
      refine s_call 43 rfl rfl rfl rfl (fun w hw => by have := rbits_spec (some ⟨go, 0, none⟩) (M + 1) (M + 1) (tabN (M + 1) (cf (sumF (eX l) l.length))) w (Has.cong ((hw.has (i := 0) rfl).blk_sl (m := M + 1) (by exact tab_size.trans (Nat.mul_one _).symm)) rfl) (by omega); rw [hnt] at this; exact this) (fun _ _ => trivial) (fun q hq => ?_)
      refine s_as 2 rfl rfl ?_
      refine SX.next ?_
      refine CW.ret ?_
      exact KN.ret (rs := [.tmp 2]) Tryd.results90 rfl (fun w hw => ⟨q, rfl, hq, hw.pick [0] rfl⟩)

/-! ### The chapter's examples -/
theorem ex_of1 : sumY (eX [4, 1, 0]) ([4, 1, 0] : List Int).length = [19] := by decide +kernel
theorem ex_of2 : sumY (eX [1, 0]) ([1, 0] : List Int).length = [3] := by decide +kernel
theorem ex_mulb : bys (mulP 3 (bl [3]) (bl [3])) = [5] := by decide +kernel
theorem ex_deg : (bl [19]).length = 5 := by decide +kernel
theorem ex_deg3 : (bl [3]).length = 2 := by decide +kernel
theorem ex_exp : exL (bl [19]) = [4, 1, 0] := by decide +kernel
theorem ex_irr : irrP (bl [19]) = true := by decide +kernel

theorem first3_spec (e : Nat → Addr) (w : World) (hnu : Er e w 4) : Spec1 Tryd.prog 68 [] w (.bool true) := by
  refine spec_of Tryd.func68 rfl Tryd.ntmps68 rfl ?_
  refine CW.seq ?_
  refine CW.reg [0] rfl ?_   -- 0, law.go:14
  refine s_as 0 rfl rfl ?_
  refine SX.next ?_
  refine CW.seq ?_
  refine CW.reg [0, 1, 2, 3, 4, 5, 6] rfl ?_   -- 1, law.go:15
  refine s_bsl 10 rfl rfl (cells := #[.int .i64 4, .int .i64 1, .int .i64 0]) (by kernel_rfl) rfl (fun _ _ => trivial) (fun b10 => ?_)
  refine s_call 11 rfl rfl rfl rfl (fun w hw => by have := of_spec (some ⟨b10, 0, none⟩) 3 3 [4, 1, 0] w (Has.cong ((hw.has (i := 0) rfl).blk_sl (m := 3) rfl) rfl) (by omega) (by decide); rw [ex_of1] at this; exact this) (fun _ _ => trivial) (fun q1 hq1 => ?_)
  refine s_mv 9 rfl rfl ?_
  refine s_ext 12 rfl rfl rfl ?_
  refine s_ext 13 rfl rfl rfl ?_
  refine s_as 1 rfl rfl ?_
  refine s_as 2 rfl rfl ?_
  refine SX.next ?_
  refine CW.seq ?_
  refine CW.reg [0, 1, 2, 3, 4, 5, 6] rfl ?_   -- 2, law.go:16
  refine s_bsl 15 rfl rfl (cells := #[.int .i64 1, .int .i64 0]) (by kernel_rfl) rfl (fun _ _ => trivial) (fun b15 => ?_)
  refine s_call 16 rfl rfl rfl rfl (fun w hw => by have := of_spec (some ⟨b15, 0, none⟩) 2 2 [1, 0] w (Has.cong ((hw.has (i := 0) rfl).blk_sl (m := 2) rfl) rfl) (by omega) (by decide); rw [ex_of2] at this; exact this) (fun _ _ => trivial) (fun q2 hq2 => ?_)
  refine s_mv 14 rfl rfl ?_
  refine s_ext 17 rfl rfl rfl ?_
  refine s_ext 18 rfl rfl rfl ?_
  refine s_as 3 rfl rfl ?_
  refine s_as 4 rfl rfl ?_
  refine SX.next ?_
  refine CW.seq ?_
  refine CW.reg [0, 1, 2, 3, 4, 5, 6, 7] rfl ?_   -- 3, law.go:17
  refine s_mv 20 rfl rfl ?_
  refine s_mv 21 rfl rfl ?_
  refine s_call 22 rfl rfl rfl rfl (fun w hw => by have := bmul_spec q2.1 1 q2.2 [3] q2.1 1 q2.2 [3] w ((hw.has (i := 0) rfl).of_own) (by decide) (by omega) hq2 ((hw.has (i := 0) rfl).of_own) (by decide) (by omega) hq2 (by rw [ex_deg3]; omega); rw [ex_mulb] at this; exact this) (fun _ _ => trivial) (fun q3 hq3 => ?_)
  refine s_mv 19 rfl rfl ?_
  refine s_ext 23 rfl rfl rfl ?_
  refine s_ext 24 rfl rfl rfl ?_
  refine s_as 5 rfl rfl ?_
  refine s_as 6 rfl rfl ?_
  refine SX.next ?_
  refine CW.seq ?_
  refine CW.reg [0, 1, 2, 3, 4, 5, 6] rfl ?_   -- 4, law.go:18
  refine s_bsl 26 rfl rfl (cells := #[.int .i64 (-1)]) (by kernel_rfl) rfl (fun _ _ => trivial) (fun b26 => ?_)
  refine s_call1 27 rfl rfl rfl rfl (fun w hw => of_bad (some ⟨b26, 0, none⟩) 1 1 [-1] e w (Has.cong ((hw.has (i := 0) rfl).blk_sl (m := 1) rfl) rfl) (by omega) (hw.er hnu) 0 (by decide) (by decide)) (fun _ _ => trivial) ?_
  refine s_mv 25 rfl rfl ?_
  refine s_ext 28 rfl rfl rfl ?_
  refine s_ext 29 rfl rfl rfl ?_
  refine s_as 7 rfl rfl ?_
  refine s_as 8 rfl rfl ?_
  refine SX.next ?_
  refine CW.seq ?_
  refine CW.reg [0, 1, 2, 3, 4, 5, 6, 7, 8, 9, 10, 11, 12, 13, 14, 15, 16, 17, 18, 19, 20, 21, 22, 23, 24, 25, 26, 27, 28, 29, 30, 31] rfl ?_   -- 5, law.go:19
  refine s_mv 30 rfl rfl ?_
  refine s_eqNN 31 rfl rfl ?_
  refine s_mv 32 rfl rfl ?_
  refine s_mv 33 rfl rfl ?_
  refine s_eqNN 34 rfl rfl ?_
  refine s_pickT 35 rfl rfl rfl ?_
  refine s_mv 36 rfl rfl ?_
  refine s_mv 37 rfl rfl ?_
  refine s_call1 38 rfl rfl rfl rfl (v := .int .i64 4) (fun w hw => by have := bdeg_spec q1.1 1 q1.2 [19] w ((hw.has (i := 4) rfl).of_own) (by decide) (by omega) hq1; rw [ex_deg] at this; exact this) (fun _ _ => trivial) ?_
  refine s_eq 39 rfl rfl rfl (decide_eq_true rfl) ?_
  refine s_pickT 40 rfl rfl rfl ?_
  refine s_mv 41 rfl rfl ?_
  refine s_mv 42 rfl rfl ?_
  refine s_call 43 rfl rfl rfl rfl (fun w hw => by have := bexp_spec q1.1 1 q1.2 [19] w ((hw.has (i := 4) rfl).of_own) (by decide) (by omega) hq1; rw [ex_exp] at this; exact this) (fun _ _ => trivial) (fun q4 hq4 => ?_)
  refine s_bsl 44 rfl rfl (cells := #[.int .i64 4, .int .i64 1, .int .i64 0]) (by kernel_rfl) rfl (fun _ _ => trivial) (fun b44 => ?_)
  refine s_call1 45 rfl rfl rfl rfl (v := .bool true) (fun w hw => by have := sameInts_spec q4.1 (some ⟨b44, 0, none⟩) [4, 1, 0].length q4.2 3 3 ([4, 1, 0].map Int.ofNat) [4, 1, 0] _ (by rw [← nats_ints]; exact ((hw.has (i := 1) rfl).of_own)) (Has.cong ((hw.has (i := 0) rfl).blk_sl (m := 3) rfl) rfl) (by decide); rw [decide_eq_true (by decide)] at this; exact this) (fun _ _ => trivial) ?_
  refine s_pickT 46 rfl rfl rfl ?_
  refine s_mv 47 rfl rfl ?_
  refine s_mv 48 rfl rfl ?_
  refine s_call1 49 rfl rfl rfl rfl (v := .bool true) (fun w hw => by have := birr_spec q1.1 1 q1.2 [19] w ((hw.has (i := 6) rfl).of_own) (by decide) (by omega) hq1; rw [ex_irr] at this; exact this) (fun _ _ => trivial) ?_
  refine s_pickT 50 rfl rfl rfl ?_
  refine s_mv 51 rfl rfl ?_
  refine s_mv 52 rfl rfl ?_
  refine s_bsl 53 rfl rfl (cells := #[.int .u8 5]) (by kernel_rfl) rfl (fun _ _ => trivial) (fun b53 => ?_)
  refine s_call1 54 rfl rfl rfl rfl (v := .bool true) (fun w hw => by have := sameBytes_spec q3.1 1 q3.2 [5] (some ⟨b53, 0, none⟩) 1 1 [5] w ((hw.has (i := 4) rfl).of_own) (by decide) (Has.cong ((hw.has (i := 0) rfl).blk_sl (m := 1) rfl) rfl) (by decide); rw [decide_eq_true rfl] at this; exact this) (fun _ _ => trivial) ?_
  refine s_pickT 55 rfl rfl rfl ?_
  refine s_mv 56 rfl rfl ?_
  refine s_mv 57 rfl rfl ?_
  refine s_ld 58 rfl rfl (fun _ h => h.cell hnu) ?_
  refine s_eqE 59 rfl rfl rfl ?_
  refine s_pickT 60 rfl rfl rfl ?_
  refine s_as 0 rfl rfl ?_
  refine SX.next ?_
  refine CW.ret ?_
  exact KN.ret (rs := [.tmp 0]) Tryd.results68 rfl (fun w hw => ⟨rfl, hw.nothing⟩)
