/- The statements BinShifts and BinOwn, walked. No condition but the errors' variables. -/
import Derived.Test.YtppolffghjeifaaDoorBin13
import Derived.Test.YtppolffghjeifaaDoorBin12
namespace Go.Proofs.YtppolffghjeifaaDoor
open Go Go.Lib Go.Sx Go.Fm
set_option maxRecDepth 100000
/-- The lowest nine bits. -/
def m9 (n : Int) : Nat := (n % 512).toNat
theorem m9_lt (n : Int) : m9 n < 512 := by unfold m9; omega
theorem m9_eq (n : Int) : ibit .and .i64 n 511 = (m9 n : Nat) := by
  rw [ibit_and_mask n (m := 9) (by omega) (by decide)]
  unfold m9
  show n % 512 = _
  omega
theorem of_one (n : Nat) : sumY (eX [((n : Nat) : Int)]) [((n : Nat) : Int)].length = bys (xP n) := by
  show bys (addP [] (eX [((n : Nat) : Int)] 0)) = _
  rw [nil_addP ok3 (eX_b1 _ 0).tr]
  rfl
theorem rng_one {n : Nat} (h : n ≤ 2048) : ∀ j, j < [((n : Nat) : Int)].length → 0 ≤ [((n : Nat) : Int)].getD j 0 ∧ [((n : Nat) : Int)].getD j 0 ≤ 2048 := fun j hj => by
  obtain rfl : j = 0 := by simp at hj; omega
  show 0 ≤ ((n : Nat) : Int) ∧ ((n : Nat) : Int) ≤ 2048
  omega
theorem upP_le (n : Nat) (a : List Nat) : (upP n a).length ≤ n + a.length := pl_le _ _
theorem dnP_le (n : Nat) (a : List Nat) : (dnP n a).length ≤ a.length := pl_le _ _

theorem walk_BinShifts (A0 : Option Addr) (n0 c0 : Nat) (p0 : List Nat) (a1 : Int) (e : Nat → Addr) (w : World) (ha0 : Has (sl 1 A0 n0 (nats .u8 p0)) w) (hp0 : ∀ x ∈ p0, x < 256) (hn0 : n0 ≤ 9223372036854775807) (hcp0 : n0 ≤ c0) (hnu : Er e w 0) : Spec1 Tryd.prog 5 [.slice A0 n0 c0, .int .i64 a1] w (.bool true) := by
  have hla0 := nats_len ha0
  subst hla0
  refine spec_of Tryd.func5 rfl Tryd.ntmps5 rfl ?_
  refine CW.seq ?_
  refine CW.reg [0] rfl ?_   -- 0, more.go:10
  refine s_as 4 rfl rfl ?_
  refine SX.next ?_
  refine CW.seq ?_
  refine CW.reg [0, 1] rfl ?_   -- 1, more.go:11
  refine s_call1 15 rfl rfl rfl rfl (fun w hw => first3_spec e w (hw.er hnu)) (fun _ _ => trivial) ?_
  refine s_as 5 rfl rfl ?_
  refine SX.next ?_
  refine CW.seq ?_
  refine CW.seq ?_
  refine CW.reg [0, 1, 2, 3, 4, 5, 6] rfl ?_   -- 2, more.go:12
  refine s_mv 16 rfl rfl ?_
  refine s_len 17 rfl rfl ?_
  refine s_gt 18 rfl rfl rfl rfl ?_
  refine s_mv 19 rfl rfl ?_
  refine SX.bool 19 rfl (fun hb => ?_) (fun hb => ?_)
  · skip
    skip
    refine SX.skip rfl ?_
    refine SX.skip rfl ?_
    refine s_pickT 22 rfl rfl rfl ?_
    refine SX.next ?_
    refine CW.condT rfl ?_
    refine CW.seq ?_
    refine CW.reg [0, 1] rfl ?_   -- 3, more.go:13
    refine s_mv 23 rfl rfl ?_
    refine s_as 4 rfl rfl ?_
    refine SX.next ?_
    refine CW.ret ?_
    exact KN.ret (rs := [.tmp 4]) Tryd.results5 rfl (fun w hw => ⟨rfl, hw.nothing⟩)
  · skip
    have hlen := of_decide_eq_false hb
    have h140 : p0.length ≤ 40 := by omega
    have l1 := bl_len p0
    have hm9 := m9_lt a1
    have hA := bl_b1 p0
    have hU := upP_b1 hA (m9 a1)
    have hX := xP_b1 (m9 a1)
    have u1 := upP_le (m9 a1) (bl p0)
    have x1 := xP_le (k := m9 a1) (by omega)
    have y1 := bys_len (upP (m9 a1) (bl p0))
    have y2 := bys_len (bl p0)
    have y3 := bys_len (xP (m9 a1))
    have d1 := dn_up hA (m9 a1)
    have e1 := mul_xP hA (m9 a1)
    have hbb := bl_bys hU
    refine s_mv 20 rfl rfl ?_
    refine s_not 21 rfl rfl ?_
    refine s_pickF 22 rfl rfl rfl ?_
    refine SX.next ?_
    refine CW.condF rfl ?_
    refine CW.skip ?_
    refine KN.code ?_
    refine CW.seq ?_
    refine CW.reg [0, 1, 2] rfl ?_   -- 4, more.go:15
    refine s_mv 24 rfl rfl ?_
    refine s_bit 25 rfl rfl rfl rfl (m9_eq a1) ?_
    refine s_as 1 rfl rfl ?_
    refine SX.next ?_
    refine CW.seq ?_
    refine CW.reg [0, 1] rfl ?_   -- 5, more.go:16
    refine s_mv 26 rfl rfl ?_
    refine s_as 6 rfl rfl ?_
    refine SX.next ?_
    refine CW.seq ?_
    refine CW.reg [0, 1, 2, 3, 4, 5, 6, 7] rfl ?_   -- 6, more.go:17
    refine s_mv 28 rfl rfl ?_
    refine s_mv 29 rfl rfl ?_
    refine s_call 30 rfl rfl rfl rfl (fun w hw => bshu_spec A0 p0.length c0 p0 (m9 a1) w (hw.old ha0) hp0 (by omega) hcp0 (by omega)) (fun _ _ => trivial) (fun q30 hq30 => ?_)
    refine s_mv 27 rfl rfl ?_
    refine s_ext 31 rfl rfl rfl ?_
    refine s_ext 32 rfl rfl rfl ?_
    refine s_as 7 rfl rfl ?_
    refine s_as 8 rfl rfl ?_
    refine SX.next ?_
    refine CW.seq ?_
    refine CW.reg [0, 1, 2, 3, 4, 5, 6, 7, 8] rfl ?_   -- 7, more.go:18
    refine s_mv 34 rfl rfl ?_
    refine s_mv 35 rfl rfl ?_
    refine s_neg 36 rfl rfl (r := -((m9 a1 : Nat) : Int)) (by rw [show (0 : Int) - ((m9 a1 : Nat) : Int) = -((m9 a1 : Nat) : Int) by omega]; exact w64 (by omega)) ?_
    refine s_call 37 rfl rfl rfl rfl (fun w hw => by have := bshd_spec q30.1 (bys (upP (m9 a1) (bl p0))).length q30.2 (bys (upP (m9 a1) (bl p0))) (m9 a1) w ((hw.has (i := 0) rfl).of_own) (bys_lt hU) (by omega) hq30 (by omega) (by rw [hbb]; omega); rw [hbb, d1] at this; exact this) (fun _ _ => trivial) (fun q37 hq37 => ?_)
    refine s_mv 33 rfl rfl ?_
    refine s_ext 38 rfl rfl rfl ?_
    refine s_ext 39 rfl rfl rfl ?_
    refine s_as 9 rfl rfl ?_
    refine s_as 10 rfl rfl ?_
    refine SX.next ?_
    refine CW.seq ?_
    refine CW.reg [0, 1, 2, 3, 4, 5, 6, 7] rfl ?_   -- 8, more.go:19
    refine s_mv 41 rfl rfl ?_
    refine s_bsl 42 rfl rfl (cells := #[.int .i64 (m9 a1 : Nat)]) (by kernel_rfl) rfl (fun _ _ => trivial) (fun b42 => ?_)
    refine s_call 43 rfl rfl rfl rfl (fun w hw => by have := of_spec (some ⟨b42, 0, none⟩) 1 1 [((m9 a1 : Nat) : Int)] w (Has.cong ((hw.has (i := 0) rfl).blk_sl (m := 1) rfl) rfl) (by omega) (rng_one (by omega)); rw [of_one] at this; exact this) (fun _ _ => trivial) (fun q43 hq43 => ?_)
    refine s_mv 40 rfl rfl ?_
    refine s_ext 44 rfl rfl rfl ?_
    refine s_ext 45 rfl rfl rfl ?_
    refine s_as 11 rfl rfl ?_
    refine s_as 12 rfl rfl ?_
    refine SX.next ?_
    refine CW.seq ?_
    refine CW.reg [0, 1, 2, 3, 4, 5, 6, 7] rfl ?_   -- 9, more.go:20
    refine s_mv 47 rfl rfl ?_
    refine s_mv 48 rfl rfl ?_
    refine s_call 49 rfl rfl rfl rfl (fun w hw => by have := bmul_spec A0 p0.length c0 p0 q43.1 (bys (xP (m9 a1))).length q43.2 (bys (xP (m9 a1))) w (hw.old ha0) hp0 (by omega) hcp0 ((hw.has (i := 0) rfl).of_own) (bys_lt hX) (by omega) hq43 (by rw [bl_bys hX]; omega); rw [bl_bys hX, e1] at this; exact this) (fun _ _ => trivial) (fun q49 hq49 => ?_)
    refine s_mv 46 rfl rfl ?_
    refine s_ext 50 rfl rfl rfl ?_
    refine s_ext 51 rfl rfl rfl ?_
    refine s_as 13 rfl rfl ?_
    refine s_as 14 rfl rfl ?_
    refine SX.next ?_
    refine CW.seq ?_
    refine CW.reg [0, 1, 2, 3, 4, 5, 6, 7, 8, 9, 10, 11, 12, 13, 14, 15, 16, 17, 18, 19, 20, 21, 22, 23, 24] rfl ?_   -- 10, more.go:21
    refine s_mv 52 rfl rfl ?_
    refine s_eqNN 53 rfl rfl ?_
    refine s_mv 54 rfl rfl ?_
    refine s_mv 55 rfl rfl ?_
    refine s_eqNN 56 rfl rfl ?_
    refine s_pickT 57 rfl rfl rfl ?_
    refine s_mv 58 rfl rfl ?_
    refine s_mv 59 rfl rfl ?_
    refine s_eqNN 60 rfl rfl ?_
    refine s_pickT 61 rfl rfl rfl ?_
    refine s_mv 62 rfl rfl ?_
    refine s_mv 63 rfl rfl ?_
    refine s_eqNN 64 rfl rfl ?_
    refine s_pickT 65 rfl rfl rfl ?_
    refine s_mv 66 rfl rfl ?_
    refine s_mv 67 rfl rfl ?_
    refine s_mv 68 rfl rfl ?_
    refine s_call1 69 rfl rfl rfl rfl (v := .bool true) (fun w hw => by have := bsm_spec q37.1 (bys (bl p0)).length q37.2 (bys (bl p0)) A0 p0.length c0 p0 w ((hw.has (i := 3) rfl).of_own) (bys_lt hA) (by omega) hq37 (hw.old ha0) hp0 (by omega) hcp0; rw [bl_bys hA] at this; rw [decide_eq_true (rfl)] at this; exact this) (fun _ _ => trivial) ?_
    refine s_pickT 70 rfl rfl rfl ?_
    refine s_mv 71 rfl rfl ?_
    refine s_mv 72 rfl rfl ?_
    refine s_mv 73 rfl rfl ?_
    refine s_call1 74 rfl rfl rfl rfl (v := .bool true) (fun w hw => by have := bsm_spec q30.1 (bys (upP (m9 a1) (bl p0))).length q30.2 (bys (upP (m9 a1) (bl p0))) q49.1 (bys (upP (m9 a1) (bl p0))).length q49.2 (bys (upP (m9 a1) (bl p0))) w ((hw.has (i := 4) rfl).of_own) (bys_lt hU) (by omega) hq30 ((hw.has (i := 0) rfl).of_own) (bys_lt hU) (by omega) hq49; rw [bl_bys hU] at this; rw [decide_eq_true (rfl)] at this; exact this) (fun _ _ => trivial) ?_
    refine s_pickT 75 rfl rfl rfl ?_
    refine s_as 4 rfl rfl ?_
    refine SX.next ?_
    refine CW.ret ?_
    exact KN.ret (rs := [.tmp 4]) Tryd.results5 rfl (fun w hw => ⟨rfl, hw.nothing⟩)

set_option maxHeartbeats 1600000 in

theorem binOwn_z (A0 : Option Addr) (n0 c0 : Nat) (p0 : List Nat) (A1 : Option Addr) (n1 c1 : Nat) (p1 : List Nat) (e : Nat → Addr) (w : World) (ha0 : Has (sl 1 A0 n0 (nats .u8 p0)) w) (hp0 : ∀ x ∈ p0, x < 256) (hn0 : n0 ≤ 9223372036854775807) (hcp0 : n0 ≤ c0) (ha1 : Has (sl 1 A1 n1 (nats .u8 p1)) w) (hp1 : ∀ x ∈ p1, x < 256) (hn1 : n1 ≤ 9223372036854775807) (hcp1 : n1 ≤ c1) (hz : Er e w 1) (hnu : Er e w 0) (hb0 : (bl p1).length = 0) : Spec1 Tryd.prog 8 [.slice A0 n0 c0, .slice A1 n1 c1] w (.bool true) := by
  have hla0 := nats_len ha0
  subst hla0
  have hla1 := nats_len ha1
  subst hla1
  refine spec_of Tryd.func8 rfl Tryd.ntmps8 rfl ?_
  refine CW.seq ?_
  refine CW.reg [0] rfl ?_   -- 0, more.go:42
  refine s_as 4 rfl rfl ?_
  refine SX.next ?_
  refine CW.seq ?_
  refine CW.reg [0, 1] rfl ?_   -- 1, more.go:43
  refine s_call1 19 rfl rfl rfl rfl (fun w hw => first3_spec e w (hw.er hnu)) (fun _ _ => trivial) ?_
  refine s_as 5 rfl rfl ?_
  refine SX.next ?_
  refine CW.seq ?_
  refine CW.seq ?_
  refine CW.reg [0, 1, 2, 3, 4, 5, 6, 7, 8, 9, 10, 11] rfl ?_   -- 2, more.go:44
  refine s_mv 20 rfl rfl ?_
  refine s_len 21 rfl rfl ?_
  refine s_gt 22 rfl rfl rfl rfl ?_
  refine s_mv 23 rfl rfl ?_
  refine SX.bool 23 rfl (fun hb => ?_) (fun hb => ?_)
  · skip
    skip
    refine SX.skip rfl ?_
    refine SX.skip rfl ?_
    refine SX.skip rfl ?_
    refine s_pickT 27 rfl rfl rfl ?_
    refine s_mv 28 rfl rfl ?_
    refine SX.skip rfl ?_
    refine SX.skip rfl ?_
    refine s_pickT 31 rfl rfl rfl ?_
    refine SX.next ?_
    refine CW.condT rfl ?_
    refine CW.seq ?_
    refine CW.reg [0, 1] rfl ?_   -- 3, more.go:45
    refine s_mv 32 rfl rfl ?_
    refine s_as 4 rfl rfl ?_
    refine SX.next ?_
    refine CW.ret ?_
    exact KN.ret (rs := [.tmp 4]) Tryd.results8 rfl (fun w hw => ⟨rfl, hw.nothing⟩)
  · skip
    have hl1 := of_decide_eq_false hb
    refine s_mv 24 rfl rfl ?_
    refine s_len 25 rfl rfl ?_
    refine s_gt 26 rfl rfl rfl rfl ?_
    refine s_pickF 27 rfl rfl rfl ?_
    refine s_mv 28 rfl rfl ?_
    refine SX.bool 28 rfl (fun hb => ?_) (fun hb => ?_)
    · skip
      skip
      refine SX.skip rfl ?_
      refine SX.skip rfl ?_
      refine s_pickT 31 rfl rfl rfl ?_
      refine SX.next ?_
      refine CW.condT rfl ?_
      refine CW.seq ?_
      refine CW.reg [0, 1] rfl ?_   -- 3, more.go:45
      refine s_mv 32 rfl rfl ?_
      refine s_as 4 rfl rfl ?_
      refine SX.next ?_
      refine CW.ret ?_
      exact KN.ret (rs := [.tmp 4]) Tryd.results8 rfl (fun w hw => ⟨rfl, hw.nothing⟩)
    · skip
      have hlen := of_decide_eq_false hb
      have h140 : p0.length ≤ 40 := by omega
      have h240 : p1.length ≤ 40 := by omega
      have l1 := bl_len p0
      have l2 := bl_len p1
      have hA := bl_b1 p0
      have hB := bl_b1 p1
      refine s_mv 29 rfl rfl ?_
      refine s_not 30 rfl rfl ?_
      refine s_pickF 31 rfl rfl rfl ?_
      refine SX.next ?_
      refine CW.condF rfl ?_
      refine CW.skip ?_
      refine KN.code ?_
      refine CW.seq ?_
      refine CW.reg [0, 1, 2] rfl ?_   -- 4, more.go:47
      refine s_mv 33 rfl rfl ?_
      refine s_call 34 rfl rfl rfl rfl (fun w hw => rbytes_spec A0 p0.length c0 p0 _ (hw.old ha0) (by omega)) (fun _ _ => trivial) (fun qa hqa => ?_)
      refine s_as 6 rfl rfl ?_
      refine SX.next ?_
      refine CW.seq ?_
      refine CW.reg [0, 1, 2] rfl ?_   -- 5, more.go:48
      refine s_mv 35 rfl rfl ?_
      refine s_call 36 rfl rfl rfl rfl (fun w hw => rbytes_spec A1 p1.length c1 p1 _ (hw.old ha1) (by omega)) (fun _ _ => trivial) (fun qb hqb => ?_)
      refine s_as 7 rfl rfl ?_
      refine SX.next ?_
      refine CW.seq ?_
      refine CW.seq ?_
      refine CW.reg [0] rfl ?_   -- 6, more.go:49
      refine s_as 8 rfl rfl ?_
      refine SX.next ?_
      refine CW.block ?_
      refine CW.loop (G := Nat) (fun r => [(0, .slice A0 p0.length c0), (1, .slice A1 p1.length c1), (6, .slice qa.1 p0.length qa.2), (7, .slice qb.1 p1.length qb.2), (8, .int .i64 (r : Nat))]) (fun _ => Sto w [own 5 1 qb.1 p1.length qb.2 (nats .u8 p1), own 5 1 qa.1 p0.length qa.2 (nats .u8 p0)]) (fun r => r ≤ 2) (fun r => 2 - r) 0 ⟨rfl, rfl, rfl, rfl, rfl, trivial⟩ (fun _ h => h) (Nat.zero_le _) ?_
      intro r hr
      refine CW.seq ?_
      refine CW.seq ?_
      refine CW.reg [0, 1] rfl ?_   -- 7, more.go:49
      refine s_mv 37 rfl rfl ?_
      refine s_lt 38 rfl rfl rfl rfl ?_
      refine SX.next ?_
      refine CW.test rfl (fun hc => ?_) (fun hc => ?_)
      · skip
        refine CW.skip ?_
        refine KN.code ?_
        refine CW.seq ?_
        refine CW.block ?_
        refine CW.seq ?_
        refine CW.reg [0, 1, 2, 3, 4, 5, 6, 7] rfl ?_   -- 9, more.go:50
        refine s_mv 42 rfl rfl ?_
        refine s_mv 43 rfl rfl ?_
        refine s_call 44 rfl rfl rfl rfl (fun w hw => by have := bmul_spec qa.1 p0.length qa.2 p0 qb.1 p1.length qb.2 p1 w ((hw.has (i := 1) rfl).of_own) hp0 (by omega) hqa ((hw.has (i := 0) rfl).of_own) hp1 (by omega) hqb (by omega); exact this) (fun _ _ => trivial) (fun q44 hq44 => ?_)
        refine s_mv 41 rfl rfl ?_
        refine s_ext 45 rfl rfl rfl ?_
        refine s_ext 46 rfl rfl rfl ?_
        refine s_as 9 rfl rfl ?_
        refine s_as 10 rfl rfl ?_
        refine SX.next ?_
        refine CW.seq ?_
        refine CW.reg [0, 1, 2, 3, 4, 5, 6, 7, 8, 9] rfl ?_   -- 10, more.go:51
        refine s_mv 48 rfl rfl ?_
        refine s_mv 49 rfl rfl ?_
        refine s_call1 50 rfl rfl rfl rfl (fun w hw => bdiv_zero qa.1 p0.length qa.2 p0 qb.1 p1.length qb.2 p1 e w ((hw.has (i := 2) rfl).of_own) hp0 (by omega) hqa ((hw.has (i := 1) rfl).of_own) hp1 (by omega) hqb (hw.er hz) hb0) (fun _ _ => trivial) ?_
        refine SX.pre (fun _ h => (h.begin_ 5 1).begin_ 5 1) ?_
        refine s_mv 47 rfl rfl ?_
        refine s_ext 51 rfl rfl rfl ?_
        refine s_ext 52 rfl rfl rfl ?_
        refine s_ext 53 rfl rfl rfl ?_
        refine s_as 11 rfl rfl ?_
        refine s_as 12 rfl rfl ?_
        refine s_as 13 rfl rfl ?_
        refine SX.next ?_
        refine CW.seq ?_
        refine CW.reg [0, 1, 2, 3, 4, 5, 6] rfl ?_   -- 11, more.go:52
        refine s_mv 55 rfl rfl ?_
        refine s_call 56 rfl rfl rfl rfl (fun w hw => bshu_spec qa.1 p0.length qa.2 p0 3 w ((hw.has (i := 4) rfl).of_own) hp0 (by omega) hqa (by omega)) (fun _ _ => trivial) (fun q56 hq56 => ?_)
        refine s_mv 54 rfl rfl ?_
        refine s_ext 57 rfl rfl rfl ?_
        refine s_ext 58 rfl rfl rfl ?_
        refine s_as 14 rfl rfl ?_
        refine s_as 15 rfl rfl ?_
        refine SX.next ?_
        refine CW.seq ?_
        refine CW.seq ?_
        refine CW.reg [0, 1, 2, 3, 4, 5, 6, 7, 8, 9, 10, 11, 12, 13, 14] rfl ?_   -- 12, more.go:53
        refine s_mv 59 rfl rfl ?_
        refine s_mv 60 rfl rfl ?_
        refine s_mv 61 rfl rfl ?_
        refine s_mv 62 rfl rfl ?_
        refine s_mv 63 rfl rfl ?_
        refine s_mv 64 rfl rfl ?_
        refine s_call 65 rfl rfl rfl rfl (fun w hw => by have := badd_spec qa.1 p0.length qa.2 p0 qb.1 p1.length qb.2 p1 w ((hw.has (i := 5) rfl).of_own) hp0 (by omega) hqa ((hw.has (i := 4) rfl).of_own) hp1 (by omega) hqb; exact this) (fun _ _ => trivial) (fun q65 hq65 => ?_)
        refine s_mv 66 rfl rfl ?_
        refine s_mv 67 rfl rfl ?_
        refine s_call 68 rfl rfl rfl rfl (fun w hw => by have := bgcd_spec qa.1 p0.length qa.2 p0 qb.1 p1.length qb.2 p1 w ((hw.has (i := 6) rfl).of_own) hp0 (by omega) hqa ((hw.has (i := 5) rfl).of_own) hp1 (by omega) hqb (by omega) (by omega); exact this) (fun _ _ => trivial) (fun q68 hq68 => ?_)
        refine s_mv 69 rfl rfl ?_
        refine s_call 70 rfl rfl rfl rfl (fun w hw => by have := badd_spec qa.1 p0.length qa.2 p0 none 0 0 [] w ((hw.has (i := 7) rfl).of_own) hp0 (by omega) hqa (Has.sl_nil _ 1 none) (fun x h => by cases h) (by omega) (Nat.le_refl _); exact this) (fun _ _ => trivial) (fun q70 hq70 => ?_)
        refine s_bsl 71 rfl rfl (cells := #[.slice q44.1 (bys (mulP 3 (bl p0) (bl p1))).length q44.2, .slice none 0 0, .slice none 0 0, .slice q56.1 (bys (upP 3 (bl p0))).length q56.2, .slice q65.1 (bys (addP (bl p0) (bl p1))).length q65.2, .slice q68.1 (bys (gcdE 3 (bl p0) (bl p1))).length q68.2, .slice q70.1 (bys (addP (bl p0) (bl []))).length q70.2]) (by kernel_rfl) rfl (fun _ _ => trivial) (fun gt => ?_)
        refine s_len 72 rfl rfl ?_
        refine s_mv 73 rfl rfl ?_
        refine SX.next ?_
        refine CW.block ?_
        refine CW.loop (G := Nat × List Rw) (fun q => [(0, .slice A0 p0.length c0), (1, .slice A1 p1.length c1), (6, .slice qa.1 p0.length qa.2), (7, .slice qb.1 p1.length qb.2), (8, .int .i64 (r : Nat)), (71, .slice (some ⟨gt, 0, none⟩) 7 7), (72, .int .i64 7), (13, errV e 1), (73, .int .i64 (q.1 : Nat))]) (fun q => Sto w (blk gt 25 (([⟨q44.1, (bys (mulP 3 (bl p0) (bl p1))).length, q44.2, nats .u8 (bys (mulP 3 (bl p0) (bl p1)))⟩, ⟨none, 0, 0, []⟩, ⟨none, 0, 0, []⟩, ⟨q56.1, (bys (upP 3 (bl p0))).length, q56.2, nats .u8 (bys (upP 3 (bl p0)))⟩, ⟨q65.1, (bys (addP (bl p0) (bl p1))).length, q65.2, nats .u8 (bys (addP (bl p0) (bl p1)))⟩, ⟨q68.1, (bys (gcdE 3 (bl p0) (bl p1))).length, q68.2, nats .u8 (bys (gcdE 3 (bl p0) (bl p1)))⟩, ⟨q70.1, (bys (addP (bl p0) (bl []))).length, q70.2, nats .u8 (bys (addP (bl p0) (bl [])))⟩] : List Rw).map Rw.hdr).toArray :: (q.2.map (ownR 5) ++ [own 5 1 qb.1 p1.length qb.2 (nats .u8 p1), own 5 1 qa.1 p0.length qa.2 (nats .u8 p0)]))) (fun q => q.1 ≤ 7 ∧ q.2.map Rw.hdr = ([⟨q44.1, (bys (mulP 3 (bl p0) (bl p1))).length, q44.2, nats .u8 (bys (mulP 3 (bl p0) (bl p1)))⟩, ⟨none, 0, 0, []⟩, ⟨none, 0, 0, []⟩, ⟨q56.1, (bys (upP 3 (bl p0))).length, q56.2, nats .u8 (bys (upP 3 (bl p0)))⟩, ⟨q65.1, (bys (addP (bl p0) (bl p1))).length, q65.2, nats .u8 (bys (addP (bl p0) (bl p1)))⟩, ⟨q68.1, (bys (gcdE 3 (bl p0) (bl p1))).length, q68.2, nats .u8 (bys (gcdE 3 (bl p0) (bl p1)))⟩, ⟨q70.1, (bys (addP (bl p0) (bl []))).length, q70.2, nats .u8 (bys (addP (bl p0) (bl [])))⟩] : List Rw).map Rw.hdr) (fun q => 7 - q.1) (0, [⟨q44.1, (bys (mulP 3 (bl p0) (bl p1))).length, q44.2, nats .u8 (bys (mulP 3 (bl p0) (bl p1)))⟩, ⟨none, 0, 0, []⟩, ⟨none, 0, 0, []⟩, ⟨q56.1, (bys (upP 3 (bl p0))).length, q56.2, nats .u8 (bys (upP 3 (bl p0)))⟩, ⟨q65.1, (bys (addP (bl p0) (bl p1))).length, q65.2, nats .u8 (bys (addP (bl p0) (bl p1)))⟩, ⟨q68.1, (bys (gcdE 3 (bl p0) (bl p1))).length, q68.2, nats .u8 (bys (gcdE 3 (bl p0) (bl p1)))⟩, ⟨q70.1, (bys (addP (bl p0) (bl []))).length, q70.2, nats .u8 (bys (addP (bl p0) (bl [])))⟩]) ⟨rfl, rfl, rfl, rfl, rfl, rfl, rfl, rfl, rfl, trivial⟩ (fun _ h => h.pick [0, 6, 5, 4, 3, 2, 1, 0, 0, 0] rfl) ⟨Nat.zero_le _, rfl⟩ ?_
        rintro ⟨j, qs⟩ ⟨hj, hH⟩
        simp only at hj hH
        have hql : qs.length = 7 := by
          have := congrArg List.length hH
          simpa using this
        dsimp only
        refine CW.seq ?_
        refine CW.reg [0] rfl ?_   -- 13, more.go:53
        refine s_lt 74 rfl rfl rfl rfl ?_
        refine SX.next ?_
        refine CW.seq ?_
        refine CW.test rfl (fun hc => ?_) (fun hc => ?_)
        · skip
          obtain ⟨z, hzq⟩ : ∃ z, qs[j]? = some z := ⟨_, List.getElem?_eq_getElem (by omega)⟩
          have hcell : (([⟨q44.1, (bys (mulP 3 (bl p0) (bl p1))).length, q44.2, nats .u8 (bys (mulP 3 (bl p0) (bl p1)))⟩, ⟨none, 0, 0, []⟩, ⟨none, 0, 0, []⟩, ⟨q56.1, (bys (upP 3 (bl p0))).length, q56.2, nats .u8 (bys (upP 3 (bl p0)))⟩, ⟨q65.1, (bys (addP (bl p0) (bl p1))).length, q65.2, nats .u8 (bys (addP (bl p0) (bl p1)))⟩, ⟨q68.1, (bys (gcdE 3 (bl p0) (bl p1))).length, q68.2, nats .u8 (bys (gcdE 3 (bl p0) (bl p1)))⟩, ⟨q70.1, (bys (addP (bl p0) (bl []))).length, q70.2, nats .u8 (bys (addP (bl p0) (bl [])))⟩] : List Rw).map Rw.hdr).toArray[j]? = some (Rw.hdr z) := by rw [← hH, List.getElem?_toArray, List.getElem?_map, hzq]; rfl
          refine CW.skip ?_
          refine KN.code ?_
          refine CW.seq ?_
          refine CW.block ?_
          refine CW.seq ?_
          refine CW.reg [0, 1, 2] rfl ?_   -- 14, more.go:53
          refine s_ia0 75 j rfl rfl rfl rfl (by omega) ?_
          refine s_ldB 76 0 rfl rfl rfl (v := .slice z.A z.n z.c) hcell ?_
          refine s_as 17 rfl rfl ?_
          refine SX.next ?_
          refine CW.seq ?_
          refine CW.reg [0] rfl ?_   -- 15, more.go:54
          refine s_as 18 rfl rfl ?_
          refine SX.next ?_
          refine CW.block ?_
          refine CW.loop (G := Nat × List Rw) (fun q => [(0, .slice A0 p0.length c0), (1, .slice A1 p1.length c1), (6, .slice qa.1 p0.length qa.2), (7, .slice qb.1 p1.length qb.2), (8, .int .i64 (r : Nat)), (71, .slice (some ⟨gt, 0, none⟩) 7 7), (72, .int .i64 7), (13, errV e 1), (73, .int .i64 (j : Nat)), (17, .slice z.A z.n z.c), (18, .int .i64 (q.1 : Nat))]) (fun q => Sto w (blk gt 25 (([⟨q44.1, (bys (mulP 3 (bl p0) (bl p1))).length, q44.2, nats .u8 (bys (mulP 3 (bl p0) (bl p1)))⟩, ⟨none, 0, 0, []⟩, ⟨none, 0, 0, []⟩, ⟨q56.1, (bys (upP 3 (bl p0))).length, q56.2, nats .u8 (bys (upP 3 (bl p0)))⟩, ⟨q65.1, (bys (addP (bl p0) (bl p1))).length, q65.2, nats .u8 (bys (addP (bl p0) (bl p1)))⟩, ⟨q68.1, (bys (gcdE 3 (bl p0) (bl p1))).length, q68.2, nats .u8 (bys (gcdE 3 (bl p0) (bl p1)))⟩, ⟨q70.1, (bys (addP (bl p0) (bl []))).length, q70.2, nats .u8 (bys (addP (bl p0) (bl [])))⟩] : List Rw).map Rw.hdr).toArray :: (q.2.map (ownR 5) ++ [own 5 1 qb.1 p1.length qb.2 (nats .u8 p1), own 5 1 qa.1 p0.length qa.2 (nats .u8 p0)]))) (fun q => (q.1 ≤ z.n ∧ q.2.map Rw.hdr = ([⟨q44.1, (bys (mulP 3 (bl p0) (bl p1))).length, q44.2, nats .u8 (bys (mulP 3 (bl p0) (bl p1)))⟩, ⟨none, 0, 0, []⟩, ⟨none, 0, 0, []⟩, ⟨q56.1, (bys (upP 3 (bl p0))).length, q56.2, nats .u8 (bys (upP 3 (bl p0)))⟩, ⟨q65.1, (bys (addP (bl p0) (bl p1))).length, q65.2, nats .u8 (bys (addP (bl p0) (bl p1)))⟩, ⟨q68.1, (bys (gcdE 3 (bl p0) (bl p1))).length, q68.2, nats .u8 (bys (gcdE 3 (bl p0) (bl p1)))⟩, ⟨q70.1, (bys (addP (bl p0) (bl []))).length, q70.2, nats .u8 (bys (addP (bl p0) (bl [])))⟩] : List Rw).map Rw.hdr) ∧ (q.2[j]?).map Rw.hdr = some z.hdr) (fun q => z.n - q.1) (0, qs) ⟨rfl, rfl, rfl, rfl, rfl, rfl, rfl, rfl, rfl, rfl, rfl, trivial⟩ (fun _ h => h) ⟨⟨Nat.zero_le _, hH⟩, by rw [hzq]; rfl⟩ ?_
          rintro ⟨i, ps⟩ ⟨⟨hi, hP⟩, hz2⟩
          simp only at hi hP hz2
          dsimp only
          refine CW.seq ?_
          refine CW.seq ?_
          refine CW.reg [0, 1, 2, 3] rfl ?_   -- 16, more.go:54
          refine s_mv 77 rfl rfl ?_
          refine s_mv 78 rfl rfl ?_
          refine s_len 79 rfl rfl ?_
          refine s_lt 80 rfl rfl rfl rfl ?_
          refine SX.next ?_
          refine CW.test rfl (fun hc => ?_) (fun hc => ?_)
          · skip
            obtain ⟨y, hy⟩ : ∃ y, ps[j]? = some y := by
              cases hy : ps[j]? with
              | none => rw [hy] at hz2; cases hz2
              | some y => exact ⟨y, rfl⟩
            have hyz : y.A = z.A ∧ y.n = z.n ∧ y.c = z.c := by
              rw [hy] at hz2
              have := Option.some.inj hz2
              simp only [Rw.hdr, Value.slice.injEq] at this
              exact this
            obtain ⟨hy1, hy2, hy3⟩ := hyz
            have hat := rows_at (E := 5) (B := blk gt 25 (([⟨q44.1, (bys (mulP 3 (bl p0) (bl p1))).length, q44.2, nats .u8 (bys (mulP 3 (bl p0) (bl p1)))⟩, ⟨none, 0, 0, []⟩, ⟨none, 0, 0, []⟩, ⟨q56.1, (bys (upP 3 (bl p0))).length, q56.2, nats .u8 (bys (upP 3 (bl p0)))⟩, ⟨q65.1, (bys (addP (bl p0) (bl p1))).length, q65.2, nats .u8 (bys (addP (bl p0) (bl p1)))⟩, ⟨q68.1, (bys (gcdE 3 (bl p0) (bl p1))).length, q68.2, nats .u8 (bys (gcdE 3 (bl p0) (bl p1)))⟩, ⟨q70.1, (bys (addP (bl p0) (bl []))).length, q70.2, nats .u8 (bys (addP (bl p0) (bl [])))⟩] : List Rw).map Rw.hdr).toArray) (rest := [own 5 1 qb.1 p1.length qb.2 (nats .u8 p1), own 5 1 qa.1 p0.length qa.2 (nats .u8 p0)]) hy
            rw [hy1, hy2, hy3] at hat
            have hst := fun xs => rows_set (E := 5) (B := blk gt 25 (([⟨q44.1, (bys (mulP 3 (bl p0) (bl p1))).length, q44.2, nats .u8 (bys (mulP 3 (bl p0) (bl p1)))⟩, ⟨none, 0, 0, []⟩, ⟨none, 0, 0, []⟩, ⟨q56.1, (bys (upP 3 (bl p0))).length, q56.2, nats .u8 (bys (upP 3 (bl p0)))⟩, ⟨q65.1, (bys (addP (bl p0) (bl p1))).length, q65.2, nats .u8 (bys (addP (bl p0) (bl p1)))⟩, ⟨q68.1, (bys (gcdE 3 (bl p0) (bl p1))).length, q68.2, nats .u8 (bys (gcdE 3 (bl p0) (bl p1)))⟩, ⟨q70.1, (bys (addP (bl p0) (bl []))).length, q70.2, nats .u8 (bys (addP (bl p0) (bl [])))⟩] : List Rw).map Rw.hdr).toArray) (rest := [own 5 1 qb.1 p1.length qb.2 (nats .u8 p1), own 5 1 qa.1 p0.length qa.2 (nats .u8 p0)]) xs hy
            rw [hy1, hy2, hy3] at hst
            have hhd := fun xs => rows_hdr xs hy
            rw [hy1, hy2, hy3] at hhd
            refine CW.know (fun w hw => hw.ownMax hat) (fun hmx => ?_)
            unfold maxLen at hmx
            refine CW.skip ?_
            refine KN.code ?_
            refine CW.seq ?_
            refine CW.block ?_
            refine CW.reg [0, 1, 2, 3] rfl ?_   -- 18, more.go:55
            refine s_mv 83 rfl rfl ?_
            refine s_mv 84 rfl rfl ?_
            refine s_iaO 85 (j + 1) i hat rfl rfl rfl rfl (by omega) ?_
            refine s_stO (j + 1) hat rfl rfl rfl rfl (by omega) (fun _ _ => trivial) ?_
            refine SX.end_ ?_
            refine KN.blk ?_
            refine KN.code ?_
            refine CW.reg [0, 1, 2] rfl ?_   -- 17, more.go:54
            refine s_mv 81 rfl rfl ?_
            refine s_add 82 rfl rfl rfl (r := ((i + 1 : Nat) : Int)) (w64 (by omega)) ?_
            refine s_as 18 rfl rfl ?_
            refine SX.end_ ?_
            exact KN.back (i + 1, ps.set j ⟨z.A, z.n, z.c, y.xs.set i (.int .u8 238)⟩) ⟨rfl, rfl, rfl, rfl, rfl, rfl, rfl, rfl, rfl, rfl, rfl, trivial⟩ (fun _ h => by rw [hst] at h; exact h) ⟨⟨by simp only; omega, by simp only; rw [hhd]; exact hP⟩, by simp only; rw [List.getElem?_set_self (List.getElem?_eq_some_iff.1 hy).1]; rfl⟩ (by simp only; omega)
          · skip
            refine CW.exit rfl ?_
            refine KN.blk ?_
            refine KN.code ?_
            refine CW.reg [0, 1] rfl ?_   -- 19, more.go:53
            refine s_add 86 rfl rfl rfl (r := ((j + 1 : Nat) : Int)) (w64 (by omega)) ?_
            refine s_mv 73 rfl rfl ?_
            refine SX.end_ ?_
            exact KN.back (j + 1, ps) ⟨rfl, rfl, rfl, rfl, rfl, rfl, rfl, rfl, rfl, trivial⟩ (fun _ h => h) ⟨by simp only; omega, hP⟩ (by simp only; omega)
        · skip
          refine CW.exit rfl ?_
          refine KN.code ?_
          refine CW.seq ?_
          refine CW.reg [0, 1, 2, 3, 4, 5, 6] rfl ?_   -- 20, more.go:58
          refine s_mv 87 rfl rfl ?_
          refine s_neHN 88 rfl rfl ?_
          refine s_mv 89 rfl rfl ?_
          refine s_mv 90 rfl rfl ?_
          refine s_ld 91 rfl rfl (fun _ h => h.cell hz) ?_
          refine s_neE 92 rfl rfl rfl ?_
          refine s_pickT 93 rfl rfl rfl ?_
          refine SX.next ?_
          refine CW.condF rfl ?_
          refine CW.skip ?_
          refine KN.blk ?_
          refine KN.code ?_
          refine CW.reg [0, 1, 2] rfl ?_   -- 8, more.go:49
          refine s_mv 39 rfl rfl ?_
          refine s_add 40 rfl rfl rfl (r := ((r + 1 : Nat) : Int)) (w64 (by omega)) ?_
          refine s_as 8 rfl rfl ?_
          refine SX.end_ ?_
          exact KN.back (r + 1) ⟨rfl, rfl, rfl, rfl, rfl, trivial⟩ (fun _ h => St.dropL _ h.tail) (by omega) (by omega)
      · skip
        refine CW.exit rfl ?_
        refine KN.code ?_
        refine CW.seq ?_
        refine CW.reg [0, 1, 2, 3, 4, 5, 6, 7, 8] rfl ?_   -- 22, more.go:62
        refine s_mv 94 rfl rfl ?_
        refine s_mv 95 rfl rfl ?_
        refine s_call1 96 rfl rfl rfl rfl (v := .bool true) (fun w hw => by have := sameBytes_spec qa.1 p0.length qa.2 p0 A0 p0.length c0 p0 w ((hw.has (i := 1) rfl).of_own) hp0 (hw.old ha0) hp0; rw [decide_eq_true rfl] at this; exact this) (fun _ _ => trivial) ?_
        refine s_mv 97 rfl rfl ?_
        refine s_mv 98 rfl rfl ?_
        refine s_mv 99 rfl rfl ?_
        refine s_call1 100 rfl rfl rfl rfl (v := .bool true) (fun w hw => by have := sameBytes_spec qb.1 p1.length qb.2 p1 A1 p1.length c1 p1 w ((hw.has (i := 0) rfl).of_own) hp1 (hw.old ha1) hp1; rw [decide_eq_true rfl] at this; exact this) (fun _ _ => trivial) ?_
        refine s_pickT 101 rfl rfl rfl ?_
        refine s_as 4 rfl rfl ?_
        refine SX.next ?_
        refine CW.ret ?_
        exact KN.ret (rs := [.tmp 4]) Tryd.results8 rfl (fun w hw => ⟨rfl, hw.nothing⟩)

set_option maxHeartbeats 1600000 in

theorem binOwn_s (A0 : Option Addr) (n0 c0 : Nat) (p0 : List Nat) (A1 : Option Addr) (n1 c1 : Nat) (p1 : List Nat) (e : Nat → Addr) (w : World) (ha0 : Has (sl 1 A0 n0 (nats .u8 p0)) w) (hp0 : ∀ x ∈ p0, x < 256) (hn0 : n0 ≤ 9223372036854775807) (hcp0 : n0 ≤ c0) (ha1 : Has (sl 1 A1 n1 (nats .u8 p1)) w) (hp1 : ∀ x ∈ p1, x < 256) (hn1 : n1 ≤ 9223372036854775807) (hcp1 : n1 ≤ c1) (hz : Er e w 1) (hnu : Er e w 0) (hb0 : (bl p1).length ≠ 0) : Spec1 Tryd.prog 8 [.slice A0 n0 c0, .slice A1 n1 c1] w (.bool true) := by
  have hla0 := nats_len ha0
  subst hla0
  have hla1 := nats_len ha1
  subst hla1
  refine spec_of Tryd.func8 rfl Tryd.ntmps8 rfl ?_
  refine CW.seq ?_
  refine CW.reg [0] rfl ?_   -- 0, more.go:42
  refine s_as 4 rfl rfl ?_
  refine SX.next ?_
  refine CW.seq ?_
  refine CW.reg [0, 1] rfl ?_   -- 1, more.go:43
  refine s_call1 19 rfl rfl rfl rfl (fun w hw => first3_spec e w (hw.er hnu)) (fun _ _ => trivial) ?_
  refine s_as 5 rfl rfl ?_
  refine SX.next ?_
  refine CW.seq ?_
  refine CW.seq ?_
  refine CW.reg [0, 1, 2, 3, 4, 5, 6, 7, 8, 9, 10, 11] rfl ?_   -- 2, more.go:44
  refine s_mv 20 rfl rfl ?_
  refine s_len 21 rfl rfl ?_
  refine s_gt 22 rfl rfl rfl rfl ?_
  refine s_mv 23 rfl rfl ?_
  refine SX.bool 23 rfl (fun hb => ?_) (fun hb => ?_)
  · skip
    skip
    refine SX.skip rfl ?_
    refine SX.skip rfl ?_
    refine SX.skip rfl ?_
    refine s_pickT 27 rfl rfl rfl ?_
    refine s_mv 28 rfl rfl ?_
    refine SX.skip rfl ?_
    refine SX.skip rfl ?_
    refine s_pickT 31 rfl rfl rfl ?_
    refine SX.next ?_
    refine CW.condT rfl ?_
    refine CW.seq ?_
    refine CW.reg [0, 1] rfl ?_   -- 3, more.go:45
    refine s_mv 32 rfl rfl ?_
    refine s_as 4 rfl rfl ?_
    refine SX.next ?_
    refine CW.ret ?_
    exact KN.ret (rs := [.tmp 4]) Tryd.results8 rfl (fun w hw => ⟨rfl, hw.nothing⟩)
  · skip
    have hl1 := of_decide_eq_false hb
    refine s_mv 24 rfl rfl ?_
    refine s_len 25 rfl rfl ?_
    refine s_gt 26 rfl rfl rfl rfl ?_
    refine s_pickF 27 rfl rfl rfl ?_
    refine s_mv 28 rfl rfl ?_
    refine SX.bool 28 rfl (fun hb => ?_) (fun hb => ?_)
    · skip
      skip
      refine SX.skip rfl ?_
      refine SX.skip rfl ?_
      refine s_pickT 31 rfl rfl rfl ?_
      refine SX.next ?_
      refine CW.condT rfl ?_
      refine CW.seq ?_
      refine CW.reg [0, 1] rfl ?_   -- 3, more.go:45
      refine s_mv 32 rfl rfl ?_
      refine s_as 4 rfl rfl ?_
      refine SX.next ?_
      refine CW.ret ?_
      exact KN.ret (rs := [.tmp 4]) Tryd.results8 rfl (fun w hw => ⟨rfl, hw.nothing⟩)
    · skip
      have hlen := of_decide_eq_false hb
      have h140 : p0.length ≤ 40 := by omega
      have h240 : p1.length ≤ 40 := by omega
      have l1 := bl_len p0
      have l2 := bl_len p1
      have hA := bl_b1 p0
      have hB := bl_b1 p1
      refine s_mv 29 rfl rfl ?_
      refine s_not 30 rfl rfl ?_
      refine s_pickF 31 rfl rfl rfl ?_
      refine SX.next ?_
      refine CW.condF rfl ?_
      refine CW.skip ?_
      refine KN.code ?_
      refine CW.seq ?_
      refine CW.reg [0, 1, 2] rfl ?_   -- 4, more.go:47
      refine s_mv 33 rfl rfl ?_
      refine s_call 34 rfl rfl rfl rfl (fun w hw => rbytes_spec A0 p0.length c0 p0 _ (hw.old ha0) (by omega)) (fun _ _ => trivial) (fun qa hqa => ?_)
      refine s_as 6 rfl rfl ?_
      refine SX.next ?_
      refine CW.seq ?_
      refine CW.reg [0, 1, 2] rfl ?_   -- 5, more.go:48
      refine s_mv 35 rfl rfl ?_
      refine s_call 36 rfl rfl rfl rfl (fun w hw => rbytes_spec A1 p1.length c1 p1 _ (hw.old ha1) (by omega)) (fun _ _ => trivial) (fun qb hqb => ?_)
      refine s_as 7 rfl rfl ?_
      refine SX.next ?_
      refine CW.seq ?_
      refine CW.seq ?_
      refine CW.reg [0] rfl ?_   -- 6, more.go:49
      refine s_as 8 rfl rfl ?_
      refine SX.next ?_
      refine CW.block ?_
      refine CW.loop (G := Nat) (fun r => [(0, .slice A0 p0.length c0), (1, .slice A1 p1.length c1), (6, .slice qa.1 p0.length qa.2), (7, .slice qb.1 p1.length qb.2), (8, .int .i64 (r : Nat))]) (fun _ => Sto w [own 5 1 qb.1 p1.length qb.2 (nats .u8 p1), own 5 1 qa.1 p0.length qa.2 (nats .u8 p0)]) (fun r => r ≤ 2) (fun r => 2 - r) 0 ⟨rfl, rfl, rfl, rfl, rfl, trivial⟩ (fun _ h => h) (Nat.zero_le _) ?_
      intro r hr
      refine CW.seq ?_
      refine CW.seq ?_
      refine CW.reg [0, 1] rfl ?_   -- 7, more.go:49
      refine s_mv 37 rfl rfl ?_
      refine s_lt 38 rfl rfl rfl rfl ?_
      refine SX.next ?_
      refine CW.test rfl (fun hc => ?_) (fun hc => ?_)
      · skip
        refine CW.skip ?_
        refine KN.code ?_
        refine CW.seq ?_
        refine CW.block ?_
        refine CW.seq ?_
        refine CW.reg [0, 1, 2, 3, 4, 5, 6, 7] rfl ?_   -- 9, more.go:50
        refine s_mv 42 rfl rfl ?_
        refine s_mv 43 rfl rfl ?_
        refine s_call 44 rfl rfl rfl rfl (fun w hw => by have := bmul_spec qa.1 p0.length qa.2 p0 qb.1 p1.length qb.2 p1 w ((hw.has (i := 1) rfl).of_own) hp0 (by omega) hqa ((hw.has (i := 0) rfl).of_own) hp1 (by omega) hqb (by omega); exact this) (fun _ _ => trivial) (fun q44 hq44 => ?_)
        refine s_mv 41 rfl rfl ?_
        refine s_ext 45 rfl rfl rfl ?_
        refine s_ext 46 rfl rfl rfl ?_
        refine s_as 9 rfl rfl ?_
        refine s_as 10 rfl rfl ?_
        refine SX.next ?_
        refine CW.seq ?_
        refine CW.reg [0, 1, 2, 3, 4, 5, 6, 7, 8, 9] rfl ?_   -- 10, more.go:51
        refine s_mv 48 rfl rfl ?_
        refine s_mv 49 rfl rfl ?_
        refine s_call 50 rfl rfl rfl rfl (fun w hw => by have := bdiv_spec qa.1 p0.length qa.2 p0 qb.1 p1.length qb.2 p1 w ((hw.has (i := 2) rfl).of_own) hp0 (by omega) hqa ((hw.has (i := 1) rfl).of_own) hp1 (by omega) hqb hb0 (by omega); exact this) (fun _ _ => trivial) (fun q50 hq50 => ?_)
        refine s_mv 47 rfl rfl ?_
        refine s_ext 51 rfl rfl rfl ?_
        refine s_ext 52 rfl rfl rfl ?_
        refine s_ext 53 rfl rfl rfl ?_
        refine s_as 11 rfl rfl ?_
        refine s_as 12 rfl rfl ?_
        refine s_as 13 rfl rfl ?_
        refine SX.next ?_
        refine CW.seq ?_
        refine CW.reg [0, 1, 2, 3, 4, 5, 6] rfl ?_   -- 11, more.go:52
        refine s_mv 55 rfl rfl ?_
        refine s_call 56 rfl rfl rfl rfl (fun w hw => bshu_spec qa.1 p0.length qa.2 p0 3 w ((hw.has (i := 4) rfl).of_own) hp0 (by omega) hqa (by omega)) (fun _ _ => trivial) (fun q56 hq56 => ?_)
        refine s_mv 54 rfl rfl ?_
        refine s_ext 57 rfl rfl rfl ?_
        refine s_ext 58 rfl rfl rfl ?_
        refine s_as 14 rfl rfl ?_
        refine s_as 15 rfl rfl ?_
        refine SX.next ?_
        refine CW.seq ?_
        refine CW.seq ?_
        refine CW.reg [0, 1, 2, 3, 4, 5, 6, 7, 8, 9, 10, 11, 12, 13, 14] rfl ?_   -- 12, more.go:53
        refine s_mv 59 rfl rfl ?_
        refine s_mv 60 rfl rfl ?_
        refine s_mv 61 rfl rfl ?_
        refine s_mv 62 rfl rfl ?_
        refine s_mv 63 rfl rfl ?_
        refine s_mv 64 rfl rfl ?_
        refine s_call 65 rfl rfl rfl rfl (fun w hw => by have := badd_spec qa.1 p0.length qa.2 p0 qb.1 p1.length qb.2 p1 w ((hw.has (i := 5) rfl).of_own) hp0 (by omega) hqa ((hw.has (i := 4) rfl).of_own) hp1 (by omega) hqb; exact this) (fun _ _ => trivial) (fun q65 hq65 => ?_)
        refine s_mv 66 rfl rfl ?_
        refine s_mv 67 rfl rfl ?_
        refine s_call 68 rfl rfl rfl rfl (fun w hw => by have := bgcd_spec qa.1 p0.length qa.2 p0 qb.1 p1.length qb.2 p1 w ((hw.has (i := 6) rfl).of_own) hp0 (by omega) hqa ((hw.has (i := 5) rfl).of_own) hp1 (by omega) hqb (by omega) (by omega); exact this) (fun _ _ => trivial) (fun q68 hq68 => ?_)
        refine s_mv 69 rfl rfl ?_
        refine s_call 70 rfl rfl rfl rfl (fun w hw => by have := badd_spec qa.1 p0.length qa.2 p0 none 0 0 [] w ((hw.has (i := 7) rfl).of_own) hp0 (by omega) hqa (Has.sl_nil _ 1 none) (fun x h => by cases h) (by omega) (Nat.le_refl _); exact this) (fun _ _ => trivial) (fun q70 hq70 => ?_)
        refine s_bsl 71 rfl rfl (cells := #[.slice q44.1 (bys (mulP 3 (bl p0) (bl p1))).length q44.2, .slice q50.1.1 (bys (quotP 3 (bl p0) (bl p1))).length q50.1.2, .slice q50.2.1 (bys (restP 3 (bl p0) (bl p1))).length q50.2.2, .slice q56.1 (bys (upP 3 (bl p0))).length q56.2, .slice q65.1 (bys (addP (bl p0) (bl p1))).length q65.2, .slice q68.1 (bys (gcdE 3 (bl p0) (bl p1))).length q68.2, .slice q70.1 (bys (addP (bl p0) (bl []))).length q70.2]) (by kernel_rfl) rfl (fun _ _ => trivial) (fun gt => ?_)
        refine s_len 72 rfl rfl ?_
        refine s_mv 73 rfl rfl ?_
        refine SX.next ?_
        refine CW.block ?_
        refine CW.loop (G := Nat × List Rw) (fun q => [(0, .slice A0 p0.length c0), (1, .slice A1 p1.length c1), (6, .slice qa.1 p0.length qa.2), (7, .slice qb.1 p1.length qb.2), (8, .int .i64 (r : Nat)), (71, .slice (some ⟨gt, 0, none⟩) 7 7), (72, .int .i64 7), (13, .nilIface), (73, .int .i64 (q.1 : Nat))]) (fun q => Sto w (blk gt 25 (([⟨q44.1, (bys (mulP 3 (bl p0) (bl p1))).length, q44.2, nats .u8 (bys (mulP 3 (bl p0) (bl p1)))⟩, ⟨q50.1.1, (bys (quotP 3 (bl p0) (bl p1))).length, q50.1.2, nats .u8 (bys (quotP 3 (bl p0) (bl p1)))⟩, ⟨q50.2.1, (bys (restP 3 (bl p0) (bl p1))).length, q50.2.2, nats .u8 (bys (restP 3 (bl p0) (bl p1)))⟩, ⟨q56.1, (bys (upP 3 (bl p0))).length, q56.2, nats .u8 (bys (upP 3 (bl p0)))⟩, ⟨q65.1, (bys (addP (bl p0) (bl p1))).length, q65.2, nats .u8 (bys (addP (bl p0) (bl p1)))⟩, ⟨q68.1, (bys (gcdE 3 (bl p0) (bl p1))).length, q68.2, nats .u8 (bys (gcdE 3 (bl p0) (bl p1)))⟩, ⟨q70.1, (bys (addP (bl p0) (bl []))).length, q70.2, nats .u8 (bys (addP (bl p0) (bl [])))⟩] : List Rw).map Rw.hdr).toArray :: (q.2.map (ownR 5) ++ [own 5 1 qb.1 p1.length qb.2 (nats .u8 p1), own 5 1 qa.1 p0.length qa.2 (nats .u8 p0)]))) (fun q => q.1 ≤ 7 ∧ q.2.map Rw.hdr = ([⟨q44.1, (bys (mulP 3 (bl p0) (bl p1))).length, q44.2, nats .u8 (bys (mulP 3 (bl p0) (bl p1)))⟩, ⟨q50.1.1, (bys (quotP 3 (bl p0) (bl p1))).length, q50.1.2, nats .u8 (bys (quotP 3 (bl p0) (bl p1)))⟩, ⟨q50.2.1, (bys (restP 3 (bl p0) (bl p1))).length, q50.2.2, nats .u8 (bys (restP 3 (bl p0) (bl p1)))⟩, ⟨q56.1, (bys (upP 3 (bl p0))).length, q56.2, nats .u8 (bys (upP 3 (bl p0)))⟩, ⟨q65.1, (bys (addP (bl p0) (bl p1))).length, q65.2, nats .u8 (bys (addP (bl p0) (bl p1)))⟩, ⟨q68.1, (bys (gcdE 3 (bl p0) (bl p1))).length, q68.2, nats .u8 (bys (gcdE 3 (bl p0) (bl p1)))⟩, ⟨q70.1, (bys (addP (bl p0) (bl []))).length, q70.2, nats .u8 (bys (addP (bl p0) (bl [])))⟩] : List Rw).map Rw.hdr) (fun q => 7 - q.1) (0, [⟨q44.1, (bys (mulP 3 (bl p0) (bl p1))).length, q44.2, nats .u8 (bys (mulP 3 (bl p0) (bl p1)))⟩, ⟨q50.1.1, (bys (quotP 3 (bl p0) (bl p1))).length, q50.1.2, nats .u8 (bys (quotP 3 (bl p0) (bl p1)))⟩, ⟨q50.2.1, (bys (restP 3 (bl p0) (bl p1))).length, q50.2.2, nats .u8 (bys (restP 3 (bl p0) (bl p1)))⟩, ⟨q56.1, (bys (upP 3 (bl p0))).length, q56.2, nats .u8 (bys (upP 3 (bl p0)))⟩, ⟨q65.1, (bys (addP (bl p0) (bl p1))).length, q65.2, nats .u8 (bys (addP (bl p0) (bl p1)))⟩, ⟨q68.1, (bys (gcdE 3 (bl p0) (bl p1))).length, q68.2, nats .u8 (bys (gcdE 3 (bl p0) (bl p1)))⟩, ⟨q70.1, (bys (addP (bl p0) (bl []))).length, q70.2, nats .u8 (bys (addP (bl p0) (bl [])))⟩]) ⟨rfl, rfl, rfl, rfl, rfl, rfl, rfl, rfl, rfl, trivial⟩ (fun _ h => h.pick [0, 6, 5, 4, 3, 2, 1, 0, 0, 0] rfl) ⟨Nat.zero_le _, rfl⟩ ?_
        rintro ⟨j, qs⟩ ⟨hj, hH⟩
        simp only at hj hH
        have hql : qs.length = 7 := by
          have := congrArg List.length hH
          simpa using this
        dsimp only
        refine CW.seq ?_
        refine CW.reg [0] rfl ?_   -- 13, more.go:53
        refine s_lt 74 rfl rfl rfl rfl ?_
        refine SX.next ?_
        refine CW.seq ?_
        refine CW.test rfl (fun hc => ?_) (fun hc => ?_)
        · skip
          obtain ⟨z, hzq⟩ : ∃ z, qs[j]? = some z := ⟨_, List.getElem?_eq_getElem (by omega)⟩
          have hcell : (([⟨q44.1, (bys (mulP 3 (bl p0) (bl p1))).length, q44.2, nats .u8 (bys (mulP 3 (bl p0) (bl p1)))⟩, ⟨q50.1.1, (bys (quotP 3 (bl p0) (bl p1))).length, q50.1.2, nats .u8 (bys (quotP 3 (bl p0) (bl p1)))⟩, ⟨q50.2.1, (bys (restP 3 (bl p0) (bl p1))).length, q50.2.2, nats .u8 (bys (restP 3 (bl p0) (bl p1)))⟩, ⟨q56.1, (bys (upP 3 (bl p0))).length, q56.2, nats .u8 (bys (upP 3 (bl p0)))⟩, ⟨q65.1, (bys (addP (bl p0) (bl p1))).length, q65.2, nats .u8 (bys (addP (bl p0) (bl p1)))⟩, ⟨q68.1, (bys (gcdE 3 (bl p0) (bl p1))).length, q68.2, nats .u8 (bys (gcdE 3 (bl p0) (bl p1)))⟩, ⟨q70.1, (bys (addP (bl p0) (bl []))).length, q70.2, nats .u8 (bys (addP (bl p0) (bl [])))⟩] : List Rw).map Rw.hdr).toArray[j]? = some (Rw.hdr z) := by rw [← hH, List.getElem?_toArray, List.getElem?_map, hzq]; rfl
          refine CW.skip ?_
          refine KN.code ?_
          refine CW.seq ?_
          refine CW.block ?_
          refine CW.seq ?_
          refine CW.reg [0, 1, 2] rfl ?_   -- 14, more.go:53
          refine s_ia0 75 j rfl rfl rfl rfl (by omega) ?_
          refine s_ldB 76 0 rfl rfl rfl (v := .slice z.A z.n z.c) hcell ?_
          refine s_as 17 rfl rfl ?_
          refine SX.next ?_
          refine CW.seq ?_
          refine CW.reg [0] rfl ?_   -- 15, more.go:54
          refine s_as 18 rfl rfl ?_
          refine SX.next ?_
          refine CW.block ?_
          refine CW.loop (G := Nat × List Rw) (fun q => [(0, .slice A0 p0.length c0), (1, .slice A1 p1.length c1), (6, .slice qa.1 p0.length qa.2), (7, .slice qb.1 p1.length qb.2), (8, .int .i64 (r : Nat)), (71, .slice (some ⟨gt, 0, none⟩) 7 7), (72, .int .i64 7), (13, .nilIface), (73, .int .i64 (j : Nat)), (17, .slice z.A z.n z.c), (18, .int .i64 (q.1 : Nat))]) (fun q => Sto w (blk gt 25 (([⟨q44.1, (bys (mulP 3 (bl p0) (bl p1))).length, q44.2, nats .u8 (bys (mulP 3 (bl p0) (bl p1)))⟩, ⟨q50.1.1, (bys (quotP 3 (bl p0) (bl p1))).length, q50.1.2, nats .u8 (bys (quotP 3 (bl p0) (bl p1)))⟩, ⟨q50.2.1, (bys (restP 3 (bl p0) (bl p1))).length, q50.2.2, nats .u8 (bys (restP 3 (bl p0) (bl p1)))⟩, ⟨q56.1, (bys (upP 3 (bl p0))).length, q56.2, nats .u8 (bys (upP 3 (bl p0)))⟩, ⟨q65.1, (bys (addP (bl p0) (bl p1))).length, q65.2, nats .u8 (bys (addP (bl p0) (bl p1)))⟩, ⟨q68.1, (bys (gcdE 3 (bl p0) (bl p1))).length, q68.2, nats .u8 (bys (gcdE 3 (bl p0) (bl p1)))⟩, ⟨q70.1, (bys (addP (bl p0) (bl []))).length, q70.2, nats .u8 (bys (addP (bl p0) (bl [])))⟩] : List Rw).map Rw.hdr).toArray :: (q.2.map (ownR 5) ++ [own 5 1 qb.1 p1.length qb.2 (nats .u8 p1), own 5 1 qa.1 p0.length qa.2 (nats .u8 p0)]))) (fun q => (q.1 ≤ z.n ∧ q.2.map Rw.hdr = ([⟨q44.1, (bys (mulP 3 (bl p0) (bl p1))).length, q44.2, nats .u8 (bys (mulP 3 (bl p0) (bl p1)))⟩, ⟨q50.1.1, (bys (quotP 3 (bl p0) (bl p1))).length, q50.1.2, nats .u8 (bys (quotP 3 (bl p0) (bl p1)))⟩, ⟨q50.2.1, (bys (restP 3 (bl p0) (bl p1))).length, q50.2.2, nats .u8 (bys (restP 3 (bl p0) (bl p1)))⟩, ⟨q56.1, (bys (upP 3 (bl p0))).length, q56.2, nats .u8 (bys (upP 3 (bl p0)))⟩, ⟨q65.1, (bys (addP (bl p0) (bl p1))).length, q65.2, nats .u8 (bys (addP (bl p0) (bl p1)))⟩, ⟨q68.1, (bys (gcdE 3 (bl p0) (bl p1))).length, q68.2, nats .u8 (bys (gcdE 3 (bl p0) (bl p1)))⟩, ⟨q70.1, (bys (addP (bl p0) (bl []))).length, q70.2, nats .u8 (bys (addP (bl p0) (bl [])))⟩] : List Rw).map Rw.hdr) ∧ (q.2[j]?).map Rw.hdr = some z.hdr) (fun q => z.n - q.1) (0, qs) ⟨rfl, rfl, rfl, rfl, rfl, rfl, rfl, rfl, rfl, rfl, rfl, trivial⟩ (fun _ h => h) ⟨⟨Nat.zero_le _, hH⟩, by rw [hzq]; rfl⟩ ?_
          rintro ⟨i, ps⟩ ⟨⟨hi, hP⟩, hz2⟩
          simp only at hi hP hz2
          dsimp only
          refine CW.seq ?_
          refine CW.seq ?_
          refine CW.reg [0, 1, 2, 3] rfl ?_   -- 16, more.go:54
          refine s_mv 77 rfl rfl ?_
          refine s_mv 78 rfl rfl ?_
          refine s_len 79 rfl rfl ?_
          refine s_lt 80 rfl rfl rfl rfl ?_
          refine SX.next ?_
          refine CW.test rfl (fun hc => ?_) (fun hc => ?_)
          · skip
            obtain ⟨y, hy⟩ : ∃ y, ps[j]? = some y := by
              cases hy : ps[j]? with
              | none => rw [hy] at hz2; cases hz2
              | some y => exact ⟨y, rfl⟩
            have hyz : y.A = z.A ∧ y.n = z.n ∧ y.c = z.c := by
              rw [hy] at hz2
              have := Option.some.inj hz2
              simp only [Rw.hdr, Value.slice.injEq] at this
              exact this
            obtain ⟨hy1, hy2, hy3⟩ := hyz
            have hat := rows_at (E := 5) (B := blk gt 25 (([⟨q44.1, (bys (mulP 3 (bl p0) (bl p1))).length, q44.2, nats .u8 (bys (mulP 3 (bl p0) (bl p1)))⟩, ⟨q50.1.1, (bys (quotP 3 (bl p0) (bl p1))).length, q50.1.2, nats .u8 (bys (quotP 3 (bl p0) (bl p1)))⟩, ⟨q50.2.1, (bys (restP 3 (bl p0) (bl p1))).length, q50.2.2, nats .u8 (bys (restP 3 (bl p0) (bl p1)))⟩, ⟨q56.1, (bys (upP 3 (bl p0))).length, q56.2, nats .u8 (bys (upP 3 (bl p0)))⟩, ⟨q65.1, (bys (addP (bl p0) (bl p1))).length, q65.2, nats .u8 (bys (addP (bl p0) (bl p1)))⟩, ⟨q68.1, (bys (gcdE 3 (bl p0) (bl p1))).length, q68.2, nats .u8 (bys (gcdE 3 (bl p0) (bl p1)))⟩, ⟨q70.1, (bys (addP (bl p0) (bl []))).length, q70.2, nats .u8 (bys (addP (bl p0) (bl [])))⟩] : List Rw).map Rw.hdr).toArray) (rest := [own 5 1 qb.1 p1.length qb.2 (nats .u8 p1), own 5 1 qa.1 p0.length qa.2 (nats .u8 p0)]) hy
            rw [hy1, hy2, hy3] at hat
            have hst := fun xs => rows_set (E := 5) (B := blk gt 25 (([⟨q44.1, (bys (mulP 3 (bl p0) (bl p1))).length, q44.2, nats .u8 (bys (mulP 3 (bl p0) (bl p1)))⟩, ⟨q50.1.1, (bys (quotP 3 (bl p0) (bl p1))).length, q50.1.2, nats .u8 (bys (quotP 3 (bl p0) (bl p1)))⟩, ⟨q50.2.1, (bys (restP 3 (bl p0) (bl p1))).length, q50.2.2, nats .u8 (bys (restP 3 (bl p0) (bl p1)))⟩, ⟨q56.1, (bys (upP 3 (bl p0))).length, q56.2, nats .u8 (bys (upP 3 (bl p0)))⟩, ⟨q65.1, (bys (addP (bl p0) (bl p1))).length, q65.2, nats .u8 (bys (addP (bl p0) (bl p1)))⟩, ⟨q68.1, (bys (gcdE 3 (bl p0) (bl p1))).length, q68.2, nats .u8 (bys (gcdE 3 (bl p0) (bl p1)))⟩, ⟨q70.1, (bys (addP (bl p0) (bl []))).length, q70.2, nats .u8 (bys (addP (bl p0) (bl [])))⟩] : List Rw).map Rw.hdr).toArray) (rest := [own 5 1 qb.1 p1.length qb.2 (nats .u8 p1), own 5 1 qa.1 p0.length qa.2 (nats .u8 p0)]) xs hy
            rw [hy1, hy2, hy3] at hst
            have hhd := fun xs => rows_hdr xs hy
            rw [hy1, hy2, hy3] at hhd
            refine CW.know (fun w hw => hw.ownMax hat) (fun hmx => ?_)
            unfold maxLen at hmx
            refine CW.skip ?_
            refine KN.code ?_
            refine CW.seq ?_
            refine CW.block ?_
            refine CW.reg [0, 1, 2, 3] rfl ?_   -- 18, more.go:55
            refine s_mv 83 rfl rfl ?_
            refine s_mv 84 rfl rfl ?_
            refine s_iaO 85 (j + 1) i hat rfl rfl rfl rfl (by omega) ?_
            refine s_stO (j + 1) hat rfl rfl rfl rfl (by omega) (fun _ _ => trivial) ?_
            refine SX.end_ ?_
            refine KN.blk ?_
            refine KN.code ?_
            refine CW.reg [0, 1, 2] rfl ?_   -- 17, more.go:54
            refine s_mv 81 rfl rfl ?_
            refine s_add 82 rfl rfl rfl (r := ((i + 1 : Nat) : Int)) (w64 (by omega)) ?_
            refine s_as 18 rfl rfl ?_
            refine SX.end_ ?_
            exact KN.back (i + 1, ps.set j ⟨z.A, z.n, z.c, y.xs.set i (.int .u8 238)⟩) ⟨rfl, rfl, rfl, rfl, rfl, rfl, rfl, rfl, rfl, rfl, rfl, trivial⟩ (fun _ h => by rw [hst] at h; exact h) ⟨⟨by simp only; omega, by simp only; rw [hhd]; exact hP⟩, by simp only; rw [List.getElem?_set_self (List.getElem?_eq_some_iff.1 hy).1]; rfl⟩ (by simp only; omega)
          · skip
            refine CW.exit rfl ?_
            refine KN.blk ?_
            refine KN.code ?_
            refine CW.reg [0, 1] rfl ?_   -- 19, more.go:53
            refine s_add 86 rfl rfl rfl (r := ((j + 1 : Nat) : Int)) (w64 (by omega)) ?_
            refine s_mv 73 rfl rfl ?_
            refine SX.end_ ?_
            exact KN.back (j + 1, ps) ⟨rfl, rfl, rfl, rfl, rfl, rfl, rfl, rfl, rfl, trivial⟩ (fun _ h => h) ⟨by simp only; omega, hP⟩ (by simp only; omega)
        · skip
          refine CW.exit rfl ?_
          refine KN.code ?_
          refine CW.seq ?_
          refine CW.reg [0, 1, 2, 3, 4, 5, 6] rfl ?_   -- 20, more.go:58
          refine s_mv 87 rfl rfl ?_
          refine s_neNN 88 rfl rfl ?_
          refine s_mv 89 rfl rfl ?_
          refine SX.skip rfl ?_
          refine SX.skip rfl ?_
          refine SX.skip rfl ?_
          refine s_pickF 93 rfl rfl rfl ?_
          refine SX.next ?_
          refine CW.condF rfl ?_
          refine CW.skip ?_
          refine KN.blk ?_
          refine KN.code ?_
          refine CW.reg [0, 1, 2] rfl ?_   -- 8, more.go:49
          refine s_mv 39 rfl rfl ?_
          refine s_add 40 rfl rfl rfl (r := ((r + 1 : Nat) : Int)) (w64 (by omega)) ?_
          refine s_as 8 rfl rfl ?_
          refine SX.end_ ?_
          exact KN.back (r + 1) ⟨rfl, rfl, rfl, rfl, rfl, trivial⟩ (fun _ h => St.dropL _ h.tail) (by omega) (by omega)
      · skip
        refine CW.exit rfl ?_
        refine KN.code ?_
        refine CW.seq ?_
        refine CW.reg [0, 1, 2, 3, 4, 5, 6, 7, 8] rfl ?_   -- 22, more.go:62
        refine s_mv 94 rfl rfl ?_
        refine s_mv 95 rfl rfl ?_
        refine s_call1 96 rfl rfl rfl rfl (v := .bool true) (fun w hw => by have := sameBytes_spec qa.1 p0.length qa.2 p0 A0 p0.length c0 p0 w ((hw.has (i := 1) rfl).of_own) hp0 (hw.old ha0) hp0; rw [decide_eq_true rfl] at this; exact this) (fun _ _ => trivial) ?_
        refine s_mv 97 rfl rfl ?_
        refine s_mv 98 rfl rfl ?_
        refine s_mv 99 rfl rfl ?_
        refine s_call1 100 rfl rfl rfl rfl (v := .bool true) (fun w hw => by have := sameBytes_spec qb.1 p1.length qb.2 p1 A1 p1.length c1 p1 w ((hw.has (i := 0) rfl).of_own) hp1 (hw.old ha1) hp1; rw [decide_eq_true rfl] at this; exact this) (fun _ _ => trivial) ?_
        refine s_pickT 101 rfl rfl rfl ?_
        refine s_as 4 rfl rfl ?_
        refine SX.next ?_
        refine CW.ret ?_
        exact KN.ret (rs := [.tmp 4]) Tryd.results8 rfl (fun w hw => ⟨rfl, hw.nothing⟩)

theorem walk_BinOwn (A0 : Option Addr) (n0 c0 : Nat) (p0 : List Nat) (A1 : Option Addr) (n1 c1 : Nat) (p1 : List Nat) (e : Nat → Addr) (w : World) (ha0 : Has (sl 1 A0 n0 (nats .u8 p0)) w) (hp0 : ∀ x ∈ p0, x < 256) (hn0 : n0 ≤ 9223372036854775807) (hcp0 : n0 ≤ c0) (ha1 : Has (sl 1 A1 n1 (nats .u8 p1)) w) (hp1 : ∀ x ∈ p1, x < 256) (hn1 : n1 ≤ 9223372036854775807) (hcp1 : n1 ≤ c1) (hz : Er e w 1) (hnu : Er e w 0) : Spec1 Tryd.prog 8 [.slice A0 n0 c0, .slice A1 n1 c1] w (.bool true) := by
  by_cases h2 : (bl p1).length = 0
  · exact binOwn_z A0 n0 c0 p0 A1 n1 c1 p1 e w ha0 hp0 hn0 hcp0 ha1 hp1 hn1 hcp1 hz hnu h2
  · exact binOwn_s A0 n0 c0 p0 A1 n1 c1 p1 e w ha0 hp0 hn0 hcp0 ha1 hp1 hn1 hcp1 hz hnu h2
