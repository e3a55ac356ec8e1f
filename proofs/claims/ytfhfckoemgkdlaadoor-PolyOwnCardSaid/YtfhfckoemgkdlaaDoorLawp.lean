/- The statements of chapter 4, walked: what they share. No condition. -/
import Derived.Test.YtfhfckoemgkdlaaDoorRpoly
import Derived.Test.YtfhfckoemgkdlaaDoorPr3
namespace Go.Proofs.YtfhfckoemgkdlaaDoor
open Go.Sx Go.Fm
set_option maxRecDepth 100000
theorem ok4 : Ok 4 := ⟨by decide, by decide⟩
/-- Which m a number makes, of those from 3 on. -/
def mkm (k : Int) (m : Int) : Nat := (m % k).toNat + 3
theorem tmod_lt {k : Int} (hk : 0 < k) (m : Int) : -k < m.tmod k ∧ m.tmod k < k := by
  have h1 := Int.emod_nonneg m (b := k) (by omega)
  have h2 := Int.emod_lt_of_pos m hk
  rw [Int.tmod_eq_emod]
  split <;> omega
theorem mkm_val {k : Int} (hk : 0 < k) (m : Int) : (m.tmod k + k).tmod k = (((m % k).toNat : Nat) : Int) := by
  have h1 := Int.emod_nonneg m (b := k) (by omega)
  have hb := tmod_lt hk m
  rw [Int.tmod_eq_emod_of_nonneg (by omega), Int.add_emod_right, tmod_emod]
  omega
theorem mkm_bd {k : Int} (hk : 0 < k) (m : Int) : 3 ≤ mkm k m ∧ ((mkm k m : Nat) : Int) < k + 3 := by
  have h1 := Int.emod_nonneg m (b := k) (by omega)
  have h2 := Int.emod_lt_of_pos m hk
  unfold mkm
  omega
theorem mkm_ok {k : Int} (hk : 0 < k) (hk2 : k ≤ 12) (m : Int) : Ok (mkm k m) := by
  have := mkm_bd hk m
  exact ⟨this.1, by omega⟩
/-! ### The chapter's examples -/
theorem tr_dec {m : Nat} {a : List Nat} (h1 : ∀ x ∈ a, x < 2 ^ m) (h2 : trim a = a) : Tr m a := ⟨h1, h2⟩
theorem ex_mul : mulP 4 (trim (lowL 4 [1, 1])) (trim (lowL 4 [1, 1])) = [1, 0, 1] := by decide +kernel
theorem ex_tr11 : Tr 4 [1, 1] := ⟨by decide, by decide +kernel⟩
theorem ex_tr001 : Tr 4 [0, 0, 1] := ⟨by decide, by decide +kernel⟩
theorem ex_tr1 : Tr 4 [1] := ⟨by decide, by decide +kernel⟩
theorem ex_tr31 : Tr 4 [3, 1] := ⟨by decide, by decide +kernel⟩
theorem ex_tr21 : Tr 4 [2, 1] := ⟨by decide, by decide +kernel⟩
theorem ex_tr51 : Tr 4 [5, 1] := ⟨by decide, by decide +kernel⟩
theorem ex_tr7 : Tr 4 [7] := ⟨by decide, by decide +kernel⟩
theorem ex_div : quotP 4 (trim (lowL 4 [0, 0, 1])) (trim (lowL 4 [1, 1])) = [1, 1] ∧ restP 4 (trim (lowL 4 [0, 0, 1])) (trim (lowL 4 [1, 1])) = [1] := by
  rw [show trim (lowL 4 [0, 0, 1]) = [0, 0, 1] by decide +kernel, show trim (lowL 4 [1, 1]) = [1, 1] by decide +kernel]
  have := div_uniq ok4 ex_tr001 ex_tr11 (by decide) ex_tr11 ex_tr1 (by decide) (by decide +kernel)
  exact ⟨this.1.symm, this.2.symm⟩
theorem ex_ndz : (trim (lowL 4 [1, 1])).length ≠ 0 := by decide +kernel
theorem ex_fr1 : trim (frP 4 [2, 3] ([2, 3] : List Int).length) = [6, 1, 1] := by decide +kernel
theorem ex_fr2 : trim (frP 4 [3, 5] ([3, 5] : List Int).length) = [15, 6, 1] := by decide +kernel
theorem ex_ev : evL 4 (lowL 4 [1, 1, 1]) (lo 4 2) = 7 := by decide +kernel
theorem ex_der : derP (lowL 4 [1, 2, 3, 4]) = [2, 0, 4] := by decide +kernel
theorem ex_gcd : monicP 4 (gcdE 4 (trim (lowL 4 ([6, 1, 1].map Int.ofNat))) (trim (lowL 4 ([15, 6, 1].map Int.ofNat)))) = [3, 1] := by
  rw [show trim (lowL 4 ([6, 1, 1].map Int.ofNat)) = mulP 4 [2, 1] [3, 1] by decide +kernel, show trim (lowL 4 ([15, 6, 1].map Int.ofNat)) = mulP 4 [5, 1] [3, 1] by decide +kernel]
  rw [gcdE_mul ok4 ex_tr21 ex_tr51 ex_tr31 (by decide)]
  have e1 : restP 4 [2, 1] [5, 1] = [7] := (div_uniq ok4 ex_tr21 ex_tr51 (by decide) ex_tr1 ex_tr7 (by decide) (by decide +kernel)).2.symm
  have e2 : restP 4 [5, 1] [7] = [] := by
    have := restP_len ok4 (a := [5, 1]) (b := [7]) ex_tr51.lt ex_tr7.lt (by decide) (by decide)
    exact List.eq_nil_of_length_eq_zero (by simp at this; simpa using this)
  rw [← gcdE_step ok4 ex_tr21 ex_tr51 (by decide), e1, ← gcdE_step ok4 ex_tr51 ex_tr7 (by decide), e2, gcdE_last (by rfl)]
  rw [show mulP 4 [7] [3, 1] = scaleP 4 [3, 1] 7 by decide +kernel, monicP_scale ok4 ex_tr31 (by decide) (by decide), monicP_of ok4 (by decide)]
  have h1 : inv 4 1 = 1 := by
    have := gm_inv ok4 (one_lt ok4) (by omega)
    rw [gm_one_left ok4 (inv_lt ok4 _)] at this
    exact this
  rw [show cf [3, 1] ([3, 1].length - 1) = 1 by rfl, h1, scaleP_one ok4 ex_tr31]

theorem ring4_spec (m : Int) (w : World) : SpecX Tryd.prog 41 [.int .i64 m] w (X := Nat × Nat) (fun q => two (.pointer (some ⟨q.1, 0, none⟩)) (.int .i64 (mkm 6 m : Nat))) (fun _ => True) (fun q => [blk q.1 90 #[.pointer (some ⟨q.2, 0, none⟩)], fieldA q.2 (mkm 6 m)]) := by
  have hm := mkm_ok (k := 6) (by omega) (by omega) m
  have hb := tmod_lt (k := 6) (by omega) m
  have hv := mkm_val (k := 6) (by omega) m
  have hmb := mkm_bd (k := 6) (by omega) m
  refine spec_of Tryd.func41 rfl Tryd.ntmps41 rfl ?_
  refine CW.seq ?_
  refine CW.reg [0, 1] rfl ?_   -- 0, law.go:15
  refine s_as 2 rfl rfl ?_
  refine s_as 3 rfl rfl ?_
  refine SX.next ?_
  refine CW.seq ?_
  refine CW.reg [0, 1, 2, 3, 4, 5] rfl ?_   -- 1, law.go:16
  refine s_mv 6 rfl rfl ?_
  refine s_rem 7 rfl rfl rfl (by omega) rfl ?_
  refine s_add 8 rfl rfl rfl (w64 (by omega)) ?_
  refine s_rem 9 rfl rfl rfl (by omega) hv ?_
  refine s_add 10 rfl rfl rfl (r := (mkm 6 m : Nat)) (by rw [show (((m % 6).toNat : Nat) : Int) + 3 = (mkm 6 m : Nat) by unfold mkm; omega]; exact w64 (by omega)) ?_
  refine s_as 0 rfl rfl ?_
  refine SX.next ?_
  refine CW.seq ?_
  refine CW.reg [0, 1, 2, 3, 4, 5, 6] rfl ?_   -- 2, law.go:17
  refine s_mv 12 rfl rfl ?_
  refine s_call 13 rfl rfl rfl rfl (fun w hw => new_spec _ w hm) (fun _ _ => trivial) (fun g _ => ?_)
  refine s_mv 11 rfl rfl ?_
  refine s_ext 14 rfl rfl rfl ?_
  refine s_ext 15 rfl rfl rfl ?_
  refine s_as 4 rfl rfl ?_
  refine s_as 5 rfl rfl ?_
  refine SX.next ?_
  refine CW.seq ?_
  refine CW.seq ?_
  refine CW.reg [0, 1, 2, 3, 4, 5] rfl ?_   -- 3, law.go:18
  refine s_mv 16 rfl rfl ?_
  refine s_eqPN 17 rfl rfl ?_
  refine s_mv 18 rfl rfl ?_
  refine s_mv 19 rfl rfl ?_
  refine s_neNN 20 rfl rfl ?_
  refine s_pickF 21 rfl rfl rfl ?_
  refine SX.next ?_
  refine CW.condF rfl ?_
  refine CW.skip ?_
  refine KN.code ?_
  refine CW.seq ?_
  refine CW.reg [0, 1, 2, 3, 4] rfl ?_   -- 5, law.go:21
  refine s_mv 23 rfl rfl ?_
  refine s_call 24 rfl rfl rfl rfl (fun w hw => ring_spec g w) (fun _ _ => trivial) (fun r _ => ?_)
  refine s_mv 25 rfl rfl ?_
  refine s_as 2 rfl rfl ?_
  refine s_as 3 rfl rfl ?_
  refine SX.next ?_
  refine CW.ret ?_
  exact KN.ret (rs := [.tmp 2, .tmp 3]) Tryd.results41 rfl (fun w hw => ⟨(r, g), rfl, trivial, hw⟩)

theorem first4_spec (w : World) : Spec1 Tryd.prog 40 [] w (.bool true) := by
  refine spec_of Tryd.func40 rfl Tryd.ntmps40 rfl ?_
  refine CW.seq ?_
  refine CW.reg [0] rfl ?_   -- 0, law.go:25
  refine s_as 0 rfl rfl ?_
  refine SX.next ?_
  refine CW.seq ?_
  refine CW.reg [0, 1, 2, 3, 4, 5] rfl ?_   -- 1, law.go:26
  refine s_call 13 rfl rfl rfl rfl (fun w hw => ring4_spec 1 w) (fun _ _ => trivial) (fun q0 _ => ?_)
  refine s_mv 12 rfl rfl ?_
  refine s_ext 14 rfl rfl rfl ?_
  refine s_ext 15 rfl rfl rfl ?_
  refine s_as 1 rfl rfl ?_
  refine s_as 2 rfl rfl ?_
  refine SX.next ?_
  refine CW.seq ?_
  refine CW.seq ?_
  refine CW.reg [0, 1, 2, 3, 4, 5] rfl ?_   -- 2, law.go:27
  refine s_mv 16 rfl rfl ?_
  refine s_eqPN 17 rfl rfl ?_
  refine s_mv 18 rfl rfl ?_
  refine s_mv 19 rfl rfl ?_
  refine s_ne 20 rfl rfl rfl (decide_eq_false (by decide)) ?_
  refine s_pickF 21 rfl rfl rfl ?_
  refine SX.next ?_
  refine CW.condF rfl ?_
  refine CW.skip ?_
  refine KN.code ?_
  refine CW.seq ?_
  refine CW.reg [0, 1, 2, 3, 4, 5, 6, 7, 8] rfl ?_   -- 4, law.go:30
  refine s_mv 23 rfl rfl ?_
  refine s_bsl 24 rfl rfl (cells := #[.int .i64 1, .int .i64 1]) (by kernel_rfl) rfl (fun _ _ => trivial) (fun b24 => ?_)
  refine s_bsl 25 rfl rfl (cells := #[.int .i64 1, .int .i64 1]) (by kernel_rfl) rfl (fun _ _ => trivial) (fun b25 => ?_)
  refine s_call 26 rfl rfl rfl rfl (fun w hw => by have := pmul_spec q0.1 q0.2 4 (some ⟨b24, 0, none⟩) 2 2 [1, 1] (some ⟨b25, 0, none⟩) 2 2 [1, 1] _ ok4 (ring_of (hw.has (i := 3) rfl) (hw.has (i := 2) rfl)) (Has.cong ((hw.has (i := 1) rfl).blk_sl (m := 2) rfl) rfl) (Has.cong ((hw.has (i := 0) rfl).blk_sl (m := 2) rfl) rfl) (by omega) (by omega) (by decide +kernel); rw [ex_mul] at this; exact this) (fun _ _ => trivial) (fun q26 hq26 => ?_)
  refine s_mv 22 rfl rfl ?_
  refine s_ext 27 rfl rfl rfl ?_
  refine s_ext 28 rfl rfl rfl ?_
  refine s_as 3 rfl rfl ?_
  refine s_as 4 rfl rfl ?_
  refine SX.next ?_
  refine CW.seq ?_
  refine CW.reg [0, 1, 2, 3, 4, 5, 6, 7, 8, 9, 10] rfl ?_   -- 5, law.go:31
  refine s_mv 30 rfl rfl ?_
  refine s_bsl 31 rfl rfl (cells := #[.int .i64 0, .int .i64 0, .int .i64 1]) (by kernel_rfl) rfl (fun _ _ => trivial) (fun b31 => ?_)
  refine s_bsl 32 rfl rfl (cells := #[.int .i64 1, .int .i64 1]) (by kernel_rfl) rfl (fun _ _ => trivial) (fun b32 => ?_)
  refine s_call 33 rfl rfl rfl rfl (fun w hw => by have := pdiv_spec q0.1 q0.2 4 (some ⟨b31, 0, none⟩) 3 3 [0, 0, 1] (some ⟨b32, 0, none⟩) 2 2 [1, 1] _ ok4 (ring_of (hw.has (i := 6) rfl) (hw.has (i := 5) rfl)) (Has.cong ((hw.has (i := 1) rfl).blk_sl (m := 3) rfl) rfl) (Has.cong ((hw.has (i := 0) rfl).blk_sl (m := 2) rfl) rfl) (by omega) (by omega) ex_ndz; rw [ex_div.1, ex_div.2] at this; exact this) (fun _ _ => trivial) (fun q33 hq33 => ?_)
  refine s_mv 29 rfl rfl ?_
  refine s_ext 34 rfl rfl rfl ?_
  refine s_ext 35 rfl rfl rfl ?_
  refine s_ext 36 rfl rfl rfl ?_
  refine s_as 5 rfl rfl ?_
  refine s_as 6 rfl rfl ?_
  refine s_as 7 rfl rfl ?_
  refine SX.next ?_
  refine CW.seq ?_
  refine CW.reg [0, 1, 2, 3, 4, 5, 6, 7] rfl ?_   -- 6, law.go:32
  refine s_mv 38 rfl rfl ?_
  refine s_bsl 39 rfl rfl (cells := #[.int .i64 2, .int .i64 3]) (by kernel_rfl) rfl (fun _ _ => trivial) (fun b39 => ?_)
  refine s_call 40 rfl rfl rfl rfl (fun w hw => by have := pfrom_spec q0.1 q0.2 4 (some ⟨b39, 0, none⟩) 2 2 [2, 3] _ ok4 (ring_of (hw.has (i := 9) rfl) (hw.has (i := 8) rfl)) (Has.cong ((hw.has (i := 0) rfl).blk_sl (m := 2) rfl) rfl) (by omega); rw [ex_fr1] at this; exact this) (fun _ _ => trivial) (fun q40 hq40 => ?_)
  refine s_mv 37 rfl rfl ?_
  refine s_ext 41 rfl rfl rfl ?_
  refine s_ext 42 rfl rfl rfl ?_
  refine s_as 8 rfl rfl ?_
  refine s_as 9 rfl rfl ?_
  refine SX.next ?_
  refine CW.seq ?_
  refine CW.reg [0, 1, 2, 3, 4, 5, 6, 7] rfl ?_   -- 7, law.go:33
  refine s_mv 44 rfl rfl ?_
  refine s_bsl 45 rfl rfl (cells := #[.int .i64 3, .int .i64 5]) (by kernel_rfl) rfl (fun _ _ => trivial) (fun b45 => ?_)
  refine s_call 46 rfl rfl rfl rfl (fun w hw => by have := pfrom_spec q0.1 q0.2 4 (some ⟨b45, 0, none⟩) 2 2 [3, 5] _ ok4 (ring_of (hw.has (i := 11) rfl) (hw.has (i := 10) rfl)) (Has.cong ((hw.has (i := 0) rfl).blk_sl (m := 2) rfl) rfl) (by omega); rw [ex_fr2] at this; exact this) (fun _ _ => trivial) (fun q46 hq46 => ?_)
  refine s_mv 43 rfl rfl ?_
  refine s_ext 47 rfl rfl rfl ?_
  refine s_ext 48 rfl rfl rfl ?_
  refine s_as 10 rfl rfl ?_
  refine s_as 11 rfl rfl ?_
  refine SX.next ?_
  refine CW.seq ?_
  refine CW.reg [0, 1, 2, 3, 4, 5, 6, 7, 8, 9, 10, 11, 12, 13, 14, 15, 16, 17, 18, 19, 20, 21, 22, 23, 24, 25, 26, 27, 28, 29, 30, 31, 32, 33, 34, 35, 36, 37, 38, 39, 40, 41, 42, 43, 44, 45, 46, 47, 48, 49, 50, 51] rfl ?_   -- 8, law.go:34
  refine s_mv 49 rfl rfl ?_
  refine s_eqNN 50 rfl rfl ?_
  refine s_mv 51 rfl rfl ?_
  refine s_mv 52 rfl rfl ?_
  refine s_bsl 53 rfl rfl (cells := #[.int .i64 1, .int .i64 0, .int .i64 1]) (by kernel_rfl) rfl (fun _ _ => trivial) (fun b53 => ?_)
  refine s_call1 54 rfl rfl rfl rfl (v := .bool true) (fun w hw => by have := sameInts_spec q26.1 (some ⟨b53, 0, none⟩) [1, 0, 1].length q26.2 3 3 ([1, 0, 1].map Int.ofNat) [1, 0, 1] _ (by rw [← nats_ints]; exact (hw.has (i := 9) rfl).of_own) (Has.cong ((hw.has (i := 0) rfl).blk_sl (m := 3) rfl) rfl) (Nat.lt_of_le_of_lt (show [1, 0, 1].length ≤ 4294967296 from (by simp)) (by decide)); rw [decide_eq_true (by decide)] at this; exact this) (fun _ _ => trivial) ?_
  refine s_pickT 55 rfl rfl rfl ?_
  refine s_mv 56 rfl rfl ?_
  refine s_mv 57 rfl rfl ?_
  refine s_bsl 58 rfl rfl (cells := #[.int .i64 1, .int .i64 1, .int .i64 1]) (by kernel_rfl) rfl (fun _ _ => trivial) (fun b58 => ?_)
  refine s_call1 59 rfl rfl rfl rfl (v := .int .i64 (7 : Nat)) (fun w hw => by have := peval_spec q0.1 q0.2 4 (some ⟨b58, 0, none⟩) 3 3 [1, 1, 1] 2 _ ok4 (ring_of (hw.has (i := 14) rfl) (hw.has (i := 13) rfl)) (Has.cong ((hw.has (i := 0) rfl).blk_sl (m := 3) rfl) rfl) (by omega); rw [ex_ev] at this; exact this) (fun _ _ => trivial) ?_
  refine s_eq 60 rfl rfl rfl (decide_eq_true (by decide)) ?_
  refine s_pickT 61 rfl rfl rfl ?_
  refine s_mv 62 rfl rfl ?_
  refine s_mv 63 rfl rfl ?_
  refine s_eqNN 64 rfl rfl ?_
  refine s_pickT 65 rfl rfl rfl ?_
  refine s_mv 66 rfl rfl ?_
  refine s_mv 67 rfl rfl ?_
  refine s_bsl 68 rfl rfl (cells := #[.int .i64 1, .int .i64 1]) (by kernel_rfl) rfl (fun _ _ => trivial) (fun b68 => ?_)
  refine s_call1 69 rfl rfl rfl rfl (v := .bool true) (fun w hw => by have := sameInts_spec q33.1.1 (some ⟨b68, 0, none⟩) [1, 1].length q33.1.2 2 2 ([1, 1].map Int.ofNat) [1, 1] _ (by rw [← nats_ints]; exact (hw.has (i := 8) rfl).of_own) (Has.cong ((hw.has (i := 0) rfl).blk_sl (m := 2) rfl) rfl) (Nat.lt_of_le_of_lt (show [1, 1].length ≤ 4294967296 from (by simp)) (by decide)); rw [decide_eq_true (by decide)] at this; exact this) (fun _ _ => trivial) ?_
  refine s_pickT 70 rfl rfl rfl ?_
  refine s_mv 71 rfl rfl ?_
  refine s_mv 72 rfl rfl ?_
  refine s_bsl 73 rfl rfl (cells := #[.int .i64 1]) (by kernel_rfl) rfl (fun _ _ => trivial) (fun b73 => ?_)
  refine s_call1 74 rfl rfl rfl rfl (v := .bool true) (fun w hw => by have := sameInts_spec q33.2.1 (some ⟨b73, 0, none⟩) [1].length q33.2.2 1 1 ([1].map Int.ofNat) [1] _ (by rw [← nats_ints]; exact (hw.has (i := 8) rfl).of_own) (Has.cong ((hw.has (i := 0) rfl).blk_sl (m := 1) rfl) rfl) (Nat.lt_of_le_of_lt (show [1].length ≤ 4294967296 from (by simp)) (by decide)); rw [decide_eq_true (by decide)] at this; exact this) (fun _ _ => trivial) ?_
  refine s_pickT 75 rfl rfl rfl ?_
  refine s_mv 76 rfl rfl ?_
  refine s_mv 77 rfl rfl ?_
  refine s_eqNN 78 rfl rfl ?_
  refine s_pickT 79 rfl rfl rfl ?_
  refine s_mv 80 rfl rfl ?_
  refine s_mv 81 rfl rfl ?_
  refine s_bsl 82 rfl rfl (cells := #[.int .i64 6, .int .i64 1, .int .i64 1]) (by kernel_rfl) rfl (fun _ _ => trivial) (fun b82 => ?_)
  refine s_call1 83 rfl rfl rfl rfl (v := .bool true) (fun w hw => by have := sameInts_spec q40.1 (some ⟨b82, 0, none⟩) [6, 1, 1].length q40.2 3 3 ([6, 1, 1].map Int.ofNat) [6, 1, 1] _ (by rw [← nats_ints]; exact (hw.has (i := 7) rfl).of_own) (Has.cong ((hw.has (i := 0) rfl).blk_sl (m := 3) rfl) rfl) (Nat.lt_of_le_of_lt (show [6, 1, 1].length ≤ 4294967296 from (by simp)) (by decide)); rw [decide_eq_true (by decide)] at this; exact this) (fun _ _ => trivial) ?_
  refine s_pickT 84 rfl rfl rfl ?_
  refine s_mv 85 rfl rfl ?_
  refine s_mv 86 rfl rfl ?_
  refine s_mv 87 rfl rfl ?_
  refine s_mv 88 rfl rfl ?_
  refine s_call 89 rfl rfl rfl rfl (fun w hw => by have := pgcd_spec q0.1 q0.2 4 q40.1 [6, 1, 1].length q40.2 ([6, 1, 1].map Int.ofNat) q46.1 [15, 6, 1].length q46.2 ([15, 6, 1].map Int.ofNat) _ ok4 (ring_of (hw.has (i := 17) rfl) (hw.has (i := 16) rfl)) (by rw [← nats_ints]; exact (hw.has (i := 7) rfl).of_own) (by rw [← nats_ints]; exact (hw.has (i := 5) rfl).of_own) (by simp) (by simp); rw [ex_gcd] at this; exact this) (fun _ _ => trivial) (fun q89 hq89 => ?_)
  refine s_bsl 90 rfl rfl (cells := #[.int .i64 3, .int .i64 1]) (by kernel_rfl) rfl (fun _ _ => trivial) (fun b90 => ?_)
  refine s_call1 91 rfl rfl rfl rfl (v := .bool true) (fun w hw => by have := sameInts_spec q89.1 (some ⟨b90, 0, none⟩) [3, 1].length q89.2 2 2 ([3, 1].map Int.ofNat) [3, 1] _ (by rw [← nats_ints]; exact (hw.has (i := 1) rfl).of_own) (Has.cong ((hw.has (i := 0) rfl).blk_sl (m := 2) rfl) rfl) (Nat.lt_of_le_of_lt (show [3, 1].length ≤ 4294967296 from (by simp)) (by decide)); rw [decide_eq_true (by decide)] at this; exact this) (fun _ _ => trivial) ?_
  refine s_pickT 92 rfl rfl rfl ?_
  refine s_mv 93 rfl rfl ?_
  refine s_mv 94 rfl rfl ?_
  refine s_bsl 95 rfl rfl (cells := #[.int .i64 1, .int .i64 2, .int .i64 3, .int .i64 4]) (by kernel_rfl) rfl (fun _ _ => trivial) (fun b95 => ?_)
  refine s_call 96 rfl rfl rfl rfl (fun w hw => by have := derive_spec q0.1 q0.2 4 (some ⟨b95, 0, none⟩) 4 4 [1, 2, 3, 4] _ ok4 (ring_of (hw.has (i := 20) rfl) (hw.has (i := 19) rfl)) (Has.cong ((hw.has (i := 0) rfl).blk_sl (m := 4) rfl) rfl) (by omega); rw [ex_der] at this; exact this) (fun _ _ => trivial) (fun q96 hq96 => ?_)
  refine s_bsl 97 rfl rfl (cells := #[.int .i64 2, .int .i64 0, .int .i64 4]) (by kernel_rfl) rfl (fun _ _ => trivial) (fun b97 => ?_)
  refine s_call1 98 rfl rfl rfl rfl (v := .bool true) (fun w hw => by have := sameInts_spec q96.1 (some ⟨b97, 0, none⟩) [2, 0, 4].length q96.2 3 3 ([2, 0, 4].map Int.ofNat) [2, 0, 4] _ (by rw [← nats_ints]; exact (hw.has (i := 1) rfl).of_own) (Has.cong ((hw.has (i := 0) rfl).blk_sl (m := 3) rfl) rfl) (Nat.lt_of_le_of_lt (show [2, 0, 4].length ≤ 4294967296 from (by simp)) (by decide)); rw [decide_eq_true (by decide)] at this; exact this) (fun _ _ => trivial) ?_
  refine s_pickT 99 rfl rfl rfl ?_
  refine s_as 0 rfl rfl ?_
  refine SX.next ?_
  refine CW.ret ?_
  exact KN.ret (rs := [.tmp 0]) Tryd.results40 rfl (fun w hw => ⟨rfl, hw.nothing⟩)
