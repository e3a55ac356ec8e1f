/- The walk of the statement BinSays, text 5. Conditions: each theorem tells its own. -/
import Derived.Test.YtcdmmfpgeagimaaDoorWBinSaysD
import Derived.Test.YtcdmmfpgeagimaaDoorWBinSaysB
section
/- The statement BinSays, walked. Conditions: the errors' variables; the numbers' range. -/
namespace Go.Proofs.YtcdmmfpgeagimaaDoor
open Go Go.Lib Go.Sx Go.Fm Nb
set_option maxRecDepth 100000
theorem i64_wf {a : Int} (h : (Lit.int .i64 a).wf = true) : -9223372036854775808 ≤ a ∧ a ≤ 9223372036854775807 := by
  simp only [Lit.wf, Bool.and_eq_true, decide_eq_true_eq] at h
  have e1 : IntKind.i64.min = -9223372036854775808 := by decide
  have e2 : IntKind.i64.max = 9223372036854775807 := by decide
  omega
/-- What a division answers, whatever the divisor. -/
noncomputable def dV (p q : List Nat) : List Nat := if (bl q).length = 0 then [] else bys (quotP 3 (bl p) (bl q))
noncomputable def rV (p q : List Nat) : List Nat := if (bl q).length = 0 then [] else bys (restP 3 (bl p) (bl q))
def dE (e : Nat → Addr) (q : List Nat) : Value := if (bl q).length = 0 then errV e 2 else .nilIface
theorem bdiv_any (A : Option Addr) (n c : Nat) (p : List Nat) (A2 : Option Addr) (n2 c2 : Nat) (p2 : List Nat) (e : Nat → Addr) (w : World) (ha : Has (sl 1 A n (nats .u8 p)) w) (hp : ∀ x ∈ p, x < 256) (hn : n ≤ 1073741824) (hcp : n ≤ c) (ha2 : Has (sl 1 A2 n2 (nats .u8 p2)) w) (hp2 : ∀ x ∈ p2, x < 256) (hn2 : n2 ≤ 1073741824) (hcp2 : n2 ≤ c2) (hsz : n ≤ 2000000) (hz : Er e w 2) :
    SpecX Tryd.prog 43 [.slice A n c, .slice A2 n2 c2] w (X := (Option Addr × Nat) × (Option Addr × Nat)) (fun z => tri (.slice z.1.1 (dV p p2).length z.1.2) (.slice z.2.1 (rV p p2).length z.2.2) (dE e p2)) (fun z => (dV p p2).length ≤ z.1.2 ∧ (rV p p2).length ≤ z.2.2) (fun z => [own 5 1 z.2.1 (rV p p2).length z.2.2 (nats .u8 (rV p p2)), own 5 1 z.1.1 (dV p p2).length z.1.2 (nats .u8 (dV p p2))]) := by
  unfold dV rV dE
  by_cases h : (bl p2).length = 0
  · rw [if_pos h, if_pos h, if_pos h]
    exact Calls.mono (bdiv_zero A n c p A2 n2 c2 p2 e w ha hp hn hcp ha2 hp2 hn2 hcp2 hz h) (fun _ _ ⟨h1, h2⟩ => ⟨((none, 0), (none, 0)), h1, ⟨Nat.le_refl _, Nat.le_refl _⟩, (h2.begin_ 5 1).begin_ 5 1⟩)
  · rw [if_neg h, if_neg h, if_neg h]
    exact bdiv_spec A n c p A2 n2 c2 p2 w ha hp hn hcp ha2 hp2 hn2 hcp2 h hsz
theorem bsh_ok (A : Option Addr) (n c : Nat) (p : List Nat) (m : Int) (w : World) (ha : Has (sl 1 A n (nats .u8 p)) w) (hp : ∀ x ∈ p, x < 256) (hn : n ≤ 1073741824) (hcp : n ≤ c) (hbl4 : (bl p).length ≤ 4097) (hm : m ≤ 4097 - ((bl p).length : Nat)) : SpecBE Tryd.prog 45 [.slice A n c, .int .i64 m] w (bys (shI m (bl p))) := by
  by_cases h : 0 ≤ m
  · obtain ⟨s, rfl⟩ := Int.eq_ofNat_of_zero_le h
    have e : shI (s : Nat) (bl p) = upP s (bl p) := if_pos (by omega)
    rw [e]
    exact bshu_spec A n c p s w ha hp hn hcp (by omega)
  · by_cases h2 : m + ((bl p).length : Nat) ≤ 0
    · rw [shI_out (bl_b1 p) (by omega)]
      exact Calls.mono (bsh_none A n c p m w ha hp hn hcp (.inr h2)) (fun _ _ ⟨h1, h2⟩ => ⟨(none, 0), h1, Nat.le_refl _, h2.begin_ 5 1⟩)
    · obtain ⟨s, hs⟩ := Int.eq_ofNat_of_zero_le (show 0 ≤ -m by omega)
      obtain rfl : m = -((s : Nat) : Int) := by omega
      have e : shI (-((s : Nat) : Int)) (bl p) = dnP s (bl p) := (if_neg h).trans (by rw [Int.neg_neg]; rfl)
      rw [e]
      exact bshd_spec A n c p s w ha hp hn hcp (by omega) hbl4
theorem shI_max {a : List Nat} (h : B1 a) (hl : a.length ≤ 10000) (m : Int) : shI (max m (-10000)) a = shI m a := by
  by_cases hm : -10000 ≤ m
  · rw [show max m (-10000) = m by omega]
  · rw [shI_out h (by omega), shI_out h (by omega)]
theorem bys_eq (a : List Nat) (h : B1 a) : trim (bys a) = bys a := (bys_tr h.le).eq
theorem add_own (p : List Nat) : addP (bl p) (bl []) = bl p := by rw [bl_nil, addP_nil ok3 (bl_b1 p).tr]
theorem same_bys (p q : List Nat) : decide (bys (bl p) = bys (bl q)) = decide (bl p = bl q) := decide_eq_decide.2 ⟨fun h => by rw [← bl_bys (bl_b1 p), h, bl_bys (bl_b1 q)], fun h => by rw [h]⟩
theorem ev_and (p : List Nat) (n : Int) : evX p (n % 2) = evX p n := by unfold evX; rw [Int.emod_emod_of_dvd n (Int.dvd_refl 2)]

theorem bsays_long (A0 : Option Addr) (n0 c0 : Nat) (p0 : List Nat) (A1 : Option Addr) (n1 c1 : Nat) (p1 : List Nat) (a2 a3 : Int) (e : Nat → Addr) (w : World) (ha0 : Has (sl 1 A0 n0 (nats .u8 p0)) w) (_hp0 : ∀ x ∈ p0, x < 256) (hn0 : n0 ≤ 9223372036854775807) (_hcp0 : n0 ≤ c0) (ha1 : Has (sl 1 A1 n1 (nats .u8 p1)) w) (_hp1 : ∀ x ∈ p1, x < 256) (hn1 : n1 ≤ 9223372036854775807) (_hcp1 : n1 ≤ c1) (_h2 : -9223372036854775808 ≤ a2 ∧ a2 ≤ 9223372036854775807) (_h3 : -9223372036854775808 ≤ a3 ∧ a3 ≤ 9223372036854775807) (he : Er e w 1) (_hz : Er e w 2) (_hl : Er e w 0) (h40 : 40 < n0 ∨ 40 < n1) : Spec1 Tryd.prog 4 [.slice A0 n0 c0, .slice A1 n1 c1, .int .i64 a2, .int .i64 a3] w (.bool true) := by
  have hla0 := nats_len ha0
  subst hla0
  have hla1 := nats_len ha1
  subst hla1
  refine spec_of Tryd.func4 rfl Tryd.ntmps4 rfl ?_
  refine CW.seq ?_
  refine CW.reg [0] rfl ?_
  refine s_as 8 rfl rfl ?_
  refine SX.next ?_
  refine CW.seq ?_
  refine CW.reg [0, 1] rfl ?_
  refine s_call1 26 rfl rfl rfl rfl (fun w hw => first3_spec e w (hw.er he)) (fun _ _ => trivial) ?_
  refine s_as 9 rfl rfl ?_
  refine SX.next ?_
  refine CW.seq ?_
  refine CW.seq ?_
  refine CW.reg [0, 1, 2, 3, 4, 5, 6, 7, 8, 9, 10, 11] rfl ?_
  refine s_mv 27 rfl rfl ?_
  refine s_len 28 rfl rfl ?_
  refine s_gt 29 rfl rfl rfl rfl ?_
  refine s_mv 30 rfl rfl ?_
  refine SX.bool 30 rfl (fun hb => ?_) (fun hb => ?_)
  · skip
    skip
    refine SX.skip rfl ?_
    refine SX.skip rfl ?_
    refine SX.skip rfl ?_
    refine s_pickT 34 rfl rfl rfl ?_
    refine s_mv 35 rfl rfl ?_
    refine SX.skip rfl ?_
    refine SX.skip rfl ?_
    refine s_pickT 38 rfl rfl rfl ?_
    refine SX.next ?_
    refine CW.condT rfl ?_
    refine CW.seq ?_
    refine CW.reg [0, 1] rfl ?_
    refine s_mv 39 rfl rfl ?_
    refine s_as 8 rfl rfl ?_
    refine SX.next ?_
    refine CW.ret ?_
    exact KN.ret (rs := [.tmp 8]) Tryd.results4 rfl (fun w hw => ⟨rfl, hw.nothing⟩)
  · skip
    have h5 := of_decide_eq_false hb
    refine s_mv 31 rfl rfl ?_
    refine s_len 32 rfl rfl ?_
    refine s_gt 33 rfl rfl rfl rfl ?_
    refine s_pickF 34 rfl rfl rfl ?_
    refine s_mv 35 rfl rfl ?_
    refine SX.bool 35 rfl (fun hb => ?_) (fun hb => ?_)
    · skip
      skip
      refine SX.skip rfl ?_
      refine SX.skip rfl ?_
      refine s_pickT 38 rfl rfl rfl ?_
      refine SX.next ?_
      refine CW.condT rfl ?_
      refine CW.seq ?_
      refine CW.reg [0, 1] rfl ?_
      refine s_mv 39 rfl rfl ?_
      refine s_as 8 rfl rfl ?_
      refine SX.next ?_
      refine CW.ret ?_
      exact KN.ret (rs := [.tmp 8]) Tryd.results4 rfl (fun w hw => ⟨rfl, hw.nothing⟩)
    · skip
      have h6 := of_decide_eq_false hb
      omega

theorem gcd_small {a b : List Nat} (ha : B1 a) (hb : B1 b) {n : Nat} (h1 : a.length ≤ n) (h2 : b.length ≤ n) : (gcdE 3 a b).length ≤ n := by
  obtain ⟨d1, d2⟩ := gcdE_dvd ok3 ha.tr hb.tr
  by_cases h : a = []
  · by_cases h' : b = []
    · rw [h, h']
      exact Nat.le_trans (by decide +kernel : (gcdE 3 [] []).length ≤ 0) (Nat.zero_le n)
    · exact Nat.le_trans (dvd_len (gcdE_b1 ha hb) d2 h').1 h2
  · exact Nat.le_trans (dvd_len (gcdE_b1 ha hb) d1 h).1 h1
theorem quot_small {a b : List Nat} (ha : B1 a) (hb : B1 b) (h0 : b.length ≠ 0) : (quotP 3 a b).length ≤ a.length := by
  have hq := quotP_b1 ha hb h0
  have hr := restP_b1 ha hb h0
  have hrl := restP_len ok3 ha.tr.lt hb.tr.lt h0 (hb.tr.top h0)
  have e := div_eq ok3 ha.tr hb.tr h0
  refine Classical.byContradiction fun hn => ?_
  have hq0 : (quotP 3 a b).length ≠ 0 := by omega
  have hl := mulP_len ok3 hq.tr hb.tr hq0 h0
  have ht := (mulP_b1 hq hb).top (by omega)
  have hc := congrArg (fun l => cf l ((mulP 3 (quotP 3 a b) b).length - 1)) e
  simp only [cf_addP] at hc
  rw [ht, cf_out (l := restP 3 a b) (by omega), cf_out (l := a) (by omega)] at hc
  cases hc

set_option maxHeartbeats 1600000 in

theorem bsays_ok (A0 : Option Addr) (n0 c0 : Nat) (p0 : List Nat) (A1 : Option Addr) (n1 c1 : Nat) (p1 : List Nat) (a2 a3 : Int) (e : Nat → Addr) (w : World) (ha0 : Has (sl 1 A0 n0 (nats .u8 p0)) w) (hp0 : ∀ x ∈ p0, x < 256) (hn0 : n0 ≤ 9223372036854775807) (hcp0 : n0 ≤ c0) (ha1 : Has (sl 1 A1 n1 (nats .u8 p1)) w) (hp1 : ∀ x ∈ p1, x < 256) (hn1 : n1 ≤ 9223372036854775807) (hcp1 : n1 ≤ c1) (h2 : -9223372036854775808 ≤ a2 ∧ a2 ≤ 9223372036854775807) (h3 : -9223372036854775808 ≤ a3 ∧ a3 ≤ 9223372036854775807) (he : Er e w 1) (hz : Er e w 2) (hl : Er e w 0) (h40 : n0 ≤ 40) (h41 : n1 ≤ 40) : Spec1 Tryd.prog 4 [.slice A0 n0 c0, .slice A1 n1 c1, .int .i64 a2, .int .i64 a3] w (.bool true) := by
  have hla0 := nats_len ha0
  subst hla0
  have hla1 := nats_len ha1
  subst hla1
  have hb0 := bl_len p0
  have hb1 := bl_len p1
  have hB0 := bl_b1 p0
  have hB1 := bl_b1 p1
  refine spec_of Tryd.func4 rfl Tryd.ntmps4 rfl ?_
  refine CW.seq ?_
  refine CW.reg [0] rfl ?_
  refine s_as 8 rfl rfl ?_
  refine SX.next ?_
  refine CW.seq ?_
  refine CW.reg [0, 1] rfl ?_
  refine s_call1 26 rfl rfl rfl rfl (fun w hw => first3_spec e w (hw.er he)) (fun _ _ => trivial) ?_
  refine s_as 9 rfl rfl ?_
  refine SX.next ?_
  refine CW.seq ?_
  refine CW.seq ?_
  refine CW.reg [0, 1, 2, 3, 4, 5, 6, 7, 8, 9, 10, 11] rfl ?_
  refine s_mv 27 rfl rfl ?_
  refine s_len 28 rfl rfl ?_
  refine s_gt 29 rfl rfl rfl (decide_eq_false (by omega)) ?_
  refine s_mv 30 rfl rfl ?_
  refine s_mv 31 rfl rfl ?_
  refine s_len 32 rfl rfl ?_
  refine s_gt 33 rfl rfl rfl (decide_eq_false (by omega)) ?_
  refine s_pickF 34 rfl rfl rfl ?_
  refine s_mv 35 rfl rfl ?_
  refine s_mv 36 rfl rfl ?_
  refine s_not 37 rfl rfl ?_
  refine s_pickF 38 rfl rfl rfl ?_
  refine SX.next ?_
  refine CW.condF rfl ?_
  refine CW.skip ?_
  refine KN.code ?_
  refine CW.seq ?_
  refine CW.reg [0, 1, 2] rfl ?_
  refine s_mv 40 rfl rfl ?_
  refine s_call 41 rfl rfl rfl rfl (fun w hw => by have := rbytes_spec A0 p0.length c0 p0 w (hw.old ha0) (by omega); exact this) (fun _ _ => trivial) (fun q41 hq41 => ?_)
  refine s_as 10 rfl rfl ?_
  refine SX.next ?_
  refine CW.seq ?_
  refine CW.reg [0, 1, 2] rfl ?_
  refine s_mv 42 rfl rfl ?_
  refine s_call 43 rfl rfl rfl rfl (fun w hw => by have := rbytes_spec A1 p1.length c1 p1 w (hw.old ha1) (by omega); exact this) (fun _ _ => trivial) (fun q43 hq43 => ?_)
  refine s_as 11 rfl rfl ?_
  refine SX.next ?_
  refine CW.seq ?_
  refine CW.reg [0, 1, 2, 3, 4, 5, 6, 7] rfl ?_
  refine s_mv 45 rfl rfl ?_
  refine s_mv 46 rfl rfl ?_
  have hM := mulP_b1 hB0 hB1
  have hAd := addP_b1 hB0 hB1
  have hG := gcdE_b1 hB0 hB1
  have hml := mulP_le3 (bl p0) (bl p1)
  have hal : (addP (bl p0) (bl p1)).length ≤ 320 := addP_len ok3 hB0.tr hB1.tr (by omega) (by omega)
  have hgl := gcd_small hB0 hB1 (n := 320) (by omega) (by omega)
  refine s_call 47 rfl rfl rfl rfl (fun w hw => by have := bmul_spec q41.1 p0.length q41.2 p0 q43.1 p1.length q43.2 p1 w ((hw.has (i := 1) rfl).of_own) hp0 (by omega) hq41 ((hw.has (i := 0) rfl).of_own) hp1 (by omega) hq43 (by omega); exact this) (fun _ _ => trivial) (fun q47 hq47 => ?_)
  refine s_mv 44 rfl rfl ?_
  refine s_ext 48 rfl rfl rfl ?_
  refine s_ext 49 rfl rfl rfl ?_
  refine s_as 12 rfl rfl ?_
  refine s_as 13 rfl rfl ?_
  refine SX.next ?_
  refine CW.seq ?_
  refine CW.reg [0, 1, 2, 3] rfl ?_
  refine s_mv 50 rfl rfl ?_
  refine s_mv 51 rfl rfl ?_
  refine s_call 52 rfl rfl rfl rfl (fun w hw => by have := badd_spec q41.1 p0.length q41.2 p0 q43.1 p1.length q43.2 p1 w ((hw.has (i := 2) rfl).of_own) hp0 (by omega) hq41 ((hw.has (i := 1) rfl).of_own) hp1 (by omega) hq43; exact this) (fun _ _ => trivial) (fun q52 hq52 => ?_)
  refine s_as 14 rfl rfl ?_
  refine SX.next ?_
  refine CW.seq ?_
  refine CW.reg [0, 1, 2, 3, 4, 5, 6, 7, 8, 9, 10, 11, 12, 13, 14, 15, 16, 17, 18, 19, 20, 21, 22, 23, 24, 25, 26, 27, 28, 29, 30, 31, 32, 33, 34, 35, 36, 37, 38, 39, 40, 41, 42, 43, 44, 45, 46, 47, 48, 49, 50, 51, 52, 53, 54, 55] rfl ?_
  refine s_mv 53 rfl rfl ?_
  refine s_call1 54 rfl rfl rfl rfl (fun w hw => bdeg_spec q41.1 p0.length q41.2 p0 w ((hw.has (i := 3) rfl).of_own) hp0 (by omega) hq41) (fun _ _ => trivial) ?_
  refine s_mv 55 rfl rfl ?_
  refine s_call1 56 rfl rfl rfl rfl (fun w hw => rdeg_spec A0 p0.length c0 p0 w (hw.old ha0) hp0 (by omega) hcp0) (fun _ _ => trivial) ?_
  refine s_eq 57 rfl rfl rfl (decide_eq_true rfl) ?_
  refine s_mv 58 rfl rfl ?_
  refine s_mv 59 rfl rfl ?_
  refine s_mv 60 rfl rfl ?_
  refine s_call1 61 rfl rfl rfl rfl (fun w hw => bbit_spec q41.1 p0.length q41.2 p0 a3 w ((hw.has (i := 3) rfl).of_own) hp0 (by omega) hq41 (by omega)) (fun _ _ => trivial) ?_
  refine s_mv 62 rfl rfl ?_
  refine s_mv 63 rfl rfl ?_
  refine s_call1 64 rfl rfl rfl rfl (fun w hw => rBit_spec A0 p0.length c0 p0 a3 w (hw.old ha0) hp0 (by omega) hcp0 (by omega)) (fun _ _ => trivial) ?_
  refine s_eq 65 rfl rfl rfl (decide_eq_true rfl) ?_
  refine s_pickT 66 rfl rfl rfl ?_
  refine s_mv 67 rfl rfl ?_
  refine s_mv 68 rfl rfl ?_
  refine s_call 69 rfl rfl rfl rfl (fun w hw => bexp_spec q41.1 p0.length q41.2 p0 w ((hw.has (i := 3) rfl).of_own) hp0 (by omega) hq41) (fun _ _ => trivial) (fun q69 hq69 => ?_)
  refine s_mv 70 rfl rfl ?_
  refine s_call 71 rfl rfl rfl rfl (fun w hw => rexps_spec A0 p0.length c0 p0 w (hw.old ha0) hp0 (by omega) hcp0) (fun _ _ => trivial) (fun q71 hq71 => ?_)
  have hel : (exL (bl p0)).length ≤ (bl p0).length := exU_len (bl p0) (bl p0).length (bl p0).length
  refine s_call1 72 rfl rfl rfl rfl (v := .bool true) (fun w hw => by have := sameInts_spec q69.1 q71.1 (exL (bl p0)).length q69.2 (exL (bl p0)).length q71.2 ((exL (bl p0)).map Int.ofNat) ((exL (bl p0)).map Int.ofNat) w (by rw [← nats_ints]; exact (hw.has (i := 1) rfl).of_own) (by rw [← nats_ints]; exact (hw.has (i := 0) rfl).of_own) (by omega); rw [decide_eq_true rfl] at this; exact this) (fun _ _ => trivial) ?_
  refine s_pickT 73 rfl rfl rfl ?_
  refine s_mv 74 rfl rfl ?_
  refine s_mv 75 rfl rfl ?_
  refine s_mv 76 rfl rfl ?_
  refine s_mv 77 rfl rfl ?_
  refine s_call 78 rfl rfl rfl rfl (fun w hw => by have := rbinadd_spec A0 p0.length c0 p0 A1 p1.length c1 p1 w (hw.old ha0) hp0 (by omega) hcp0 (hw.old ha1) hp1 (by omega) hcp1 (by omega) (by omega); exact this) (fun _ _ => trivial) (fun q78 hq78 => ?_)
  refine s_call1 79 rfl rfl rfl rfl (v := .bool true) (fun w hw => by have := bsame_spec q52.1 (bys (addP (bl p0) (bl p1))).length q52.2 (bys (addP (bl p0) (bl p1))) q78.1 (bys (addP (bl p0) (bl p1))).length q78.2 (bys (addP (bl p0) (bl p1))) w ((hw.has (i := 3) rfl).of_own) (bys_lt hAd) (by have := bys_len (addP (bl p0) (bl p1)); omega) hq52 (bys_eq _ hAd) ((hw.has (i := 0) rfl).of_own) (bys_lt hAd); rw [decide_eq_true rfl] at this; exact this) (fun _ _ => trivial) ?_
  refine s_pickT 80 rfl rfl rfl ?_
  refine s_mv 81 rfl rfl ?_
  refine s_mv 82 rfl rfl ?_
  refine s_eqNN 83 rfl rfl ?_
  refine s_pickT 84 rfl rfl rfl ?_
  refine s_mv 85 rfl rfl ?_
  refine s_mv 86 rfl rfl ?_
  refine s_mv 87 rfl rfl ?_
  refine s_mv 88 rfl rfl ?_
  refine s_call 89 rfl rfl rfl rfl (fun w hw => by have := rbinmul_spec A0 p0.length c0 p0 A1 p1.length c1 p1 w (hw.old ha0) hp0 (by omega) hcp0 (hw.old ha1) hp1 (by omega) hcp1 (by omega); exact this) (fun _ _ => trivial) (fun q89 hq89 => ?_)
  refine s_call1 90 rfl rfl rfl rfl (v := .bool true) (fun w hw => by have := bsame_spec q47.1 (bys (mulP 3 (bl p0) (bl p1))).length q47.2 (bys (mulP 3 (bl p0) (bl p1))) q89.1 (bys (mulP 3 (bl p0) (bl p1))).length q89.2 (bys (mulP 3 (bl p0) (bl p1))) w ((hw.has (i := 5) rfl).of_own) (bys_lt hM) (by have := bys_len (mulP 3 (bl p0) (bl p1)); omega) hq47 (bys_eq _ hM) ((hw.has (i := 0) rfl).of_own) (bys_lt hM); rw [decide_eq_true rfl] at this; exact this) (fun _ _ => trivial) ?_
  refine s_pickT 91 rfl rfl rfl ?_
  refine s_mv 92 rfl rfl ?_
  refine s_mv 93 rfl rfl ?_
  refine s_mv 94 rfl rfl ?_
  refine s_call 95 rfl rfl rfl rfl (fun w hw => by have := bgcd_spec q41.1 p0.length q41.2 p0 q43.1 p1.length q43.2 p1 w ((hw.has (i := 7) rfl).of_own) hp0 (by omega) hq41 ((hw.has (i := 6) rfl).of_own) hp1 (by omega) hq43 (by omega) (by omega); exact this) (fun _ _ => trivial) (fun q95 hq95 => ?_)
  refine s_mv 96 rfl rfl ?_
  refine s_mv 97 rfl rfl ?_
  refine s_call 98 rfl rfl rfl rfl (fun w hw => by have := rbingcd_spec A0 p0.length c0 p0 A1 p1.length c1 p1 w (hw.old ha0) hp0 (by omega) hcp0 (hw.old ha1) hp1 (by omega) hcp1 (by omega) (by omega); exact this) (fun _ _ => trivial) (fun q98 hq98 => ?_)
  refine s_call1 99 rfl rfl rfl rfl (v := .bool true) (fun w hw => by have := bsame_spec q95.1 (bys (gcdE 3 (bl p0) (bl p1))).length q95.2 (bys (gcdE 3 (bl p0) (bl p1))) q98.1 (bys (gcdE 3 (bl p0) (bl p1))).length q98.2 (bys (gcdE 3 (bl p0) (bl p1))) w ((hw.has (i := 1) rfl).of_own) (bys_lt hG) (by have := bys_len (gcdE 3 (bl p0) (bl p1)); omega) hq95 (bys_eq _ hG) ((hw.has (i := 0) rfl).of_own) (bys_lt hG); rw [decide_eq_true rfl] at this; exact this) (fun _ _ => trivial) ?_
  refine s_pickT 100 rfl rfl rfl ?_
  refine s_mv 101 rfl rfl ?_
  refine s_mv 102 rfl rfl ?_
  refine s_call1 103 rfl rfl rfl rfl (fun w hw => birr_spec q41.1 p0.length q41.2 p0 w ((hw.has (i := 9) rfl).of_own) hp0 (by omega) hq41) (fun _ _ => trivial) ?_
  refine s_mv 104 rfl rfl ?_
  refine s_call1 105 rfl rfl rfl rfl (fun w hw => rirr_spec A0 p0.length c0 p0 w (hw.old ha0) hp0 (by omega) hcp0 (by omega)) (fun _ _ => trivial) ?_
  refine s_eqB 106 rfl rfl rfl (r := true) (beq_self_eq_true _) ?_
  refine s_pickT 107 rfl rfl rfl ?_
  refine s_as 15 rfl rfl ?_
  refine SX.next ?_
  refine CW.seq ?_
  refine CW.reg [0, 1, 2, 3, 4, 5, 6, 7, 8, 9] rfl ?_
  refine s_mv 109 rfl rfl ?_
  refine s_mv 110 rfl rfl ?_
  refine s_call 111 rfl rfl rfl rfl (fun w hw => bdiv_any q41.1 p0.length q41.2 p0 q43.1 p1.length q43.2 p1 e w ((hw.has (i := 9) rfl).of_own) hp0 (by omega) hq41 ((hw.has (i := 8) rfl).of_own) hp1 (by omega) hq43 (by omega) (hw.er hz)) (fun _ _ => trivial) (fun q111 hq111 => ?_)
  refine s_mv 108 rfl rfl ?_
  refine s_ext 112 rfl rfl rfl ?_
  refine s_ext 113 rfl rfl rfl ?_
  refine s_ext 114 rfl rfl rfl ?_
  refine s_as 16 rfl rfl ?_
  refine s_as 17 rfl rfl ?_
  refine s_as 18 rfl rfl ?_
  refine SX.next ?_
  refine CW.cut (G := Unit) (fun _ => [(0, .slice A0 p0.length c0), (1, .slice A1 p1.length c1), (2, .int .i64 a2), (10, .slice q41.1 p0.length q41.2), (11, .slice q43.1 p1.length q43.2), (15, .bool true)]) (fun _ => Sto w [own 5 1 q43.1 p1.length q43.2 (nats .u8 p1), own 5 1 q41.1 p0.length q41.2 (nats .u8 p0)]) (fun _ => True) ?_ ?_
  · skip
    refine CW.seq ?_
    by_cases h0 : (bl p1).length = 0
    · skip
      have hdV : dV p0 p1 = [] := if_pos h0
      have hrV : rV p0 p1 = [] := if_pos h0
      have hdE : dE e p1 = errV e 2 := if_pos h0
      rw [hdV, hrV, hdE]
      refine CW.reg [0, 1, 2] rfl ?_
      refine s_mv 115 rfl rfl ?_
      refine s_call1 116 rfl rfl rfl rfl (fun w hw => rdeg_spec A1 p1.length c1 p1 w (hw.old ha1) hp1 (by omega) hcp1) (fun _ _ => trivial) ?_
      refine s_lt 117 rfl rfl rfl (decide_eq_true (by omega)) ?_
      refine SX.next ?_
      refine CW.condT rfl ?_
      refine CW.seq ?_
      refine CW.reg [0, 1, 2, 3, 4, 5, 6, 7, 8, 9, 10] rfl ?_
      refine s_mv 118 rfl rfl ?_
      refine s_ld 119 rfl rfl (fun _ h => h.cell hz) ?_
      refine s_neE 120 rfl rfl rfl ?_
      refine s_mv 121 rfl rfl ?_
      refine s_mv 122 rfl rfl ?_
      refine s_len 123 rfl rfl ?_
      refine s_mv 124 rfl rfl ?_
      refine s_len 125 rfl rfl ?_
      refine s_add 126 rfl rfl rfl (r := 0) rfl ?_
      refine s_ne 127 rfl rfl rfl (decide_eq_false (fun h => h rfl)) ?_
      refine s_pickF 128 rfl rfl rfl ?_
      refine SX.next ?_
      refine CW.condF rfl ?_
      refine CW.skip ?_
      exact KN.join () ⟨rfl, rfl, rfl, rfl, rfl, rfl, trivial⟩ (fun _ hw => hw.pick [10, 10] rfl) trivial
    · skip
      have hdV : dV p0 p1 = bys (quotP 3 (bl p0) (bl p1)) := if_neg h0
      have hrV : rV p0 p1 = bys (restP 3 (bl p0) (bl p1)) := if_neg h0
      have hdE : dE e p1 = .nilIface := if_neg h0
      rw [hdV, hrV] at hq111
      rw [hdV, hrV, hdE]
      have hQ := quotP_b1 hB0 hB1 h0
      have hR := restP_b1 hB0 hB1 h0
      have hrl := restP_len ok3 hB0.tr.lt hB1.tr.lt h0 (hB1.tr.top h0)
      have hql := quot_small hB0 hB1 h0
      refine CW.reg [0, 1, 2] rfl ?_
      refine s_mv 115 rfl rfl ?_
      refine s_call1 116 rfl rfl rfl rfl (fun w hw => rdeg_spec A1 p1.length c1 p1 w (hw.old ha1) hp1 (by omega) hcp1) (fun _ _ => trivial) ?_
      refine s_lt 117 rfl rfl rfl (decide_eq_false (by omega)) ?_
      refine SX.next ?_
      refine CW.condF rfl ?_
      refine CW.seq ?_
      refine CW.reg [0, 1, 2, 3, 4, 5, 6, 7] rfl ?_
      refine s_mv 130 rfl rfl ?_
      refine s_mv 131 rfl rfl ?_
      refine s_call 132 rfl rfl rfl rfl (fun w hw => rbindiv_spec A0 p0.length c0 p0 A1 p1.length c1 p1 w (hw.old ha0) hp0 (by omega) hcp0 (hw.old ha1) hp1 (by omega) hcp1 h0 (by omega) (by omega)) (fun _ _ => trivial) (fun q132 hq132 => ?_)
      refine s_mv 129 rfl rfl ?_
      refine s_ext 133 rfl rfl rfl ?_
      refine s_ext 134 rfl rfl rfl ?_
      refine s_as 19 rfl rfl ?_
      refine s_as 20 rfl rfl ?_
      refine SX.next ?_
      refine CW.seq ?_
      refine CW.reg [0, 1, 2, 3, 4, 5, 6, 7, 8, 9, 10, 11, 12, 13] rfl ?_
      refine s_mv 135 rfl rfl ?_
      refine s_neNN 136 rfl rfl ?_
      refine s_mv 137 rfl rfl ?_
      refine s_mv 138 rfl rfl ?_
      refine s_mv 139 rfl rfl ?_
      refine s_call1 140 rfl rfl rfl rfl (v := .bool true) (fun w hw => by have := bsame_spec q111.1.1 (bys (quotP 3 (bl p0) (bl p1))).length q111.1.2 (bys (quotP 3 (bl p0) (bl p1))) q132.1.1 (bys (quotP 3 (bl p0) (bl p1))).length q132.1.2 (bys (quotP 3 (bl p0) (bl p1))) w ((hw.has (i := 3) rfl).of_own) (bys_lt hQ) (by have := bys_len (quotP 3 (bl p0) (bl p1)); omega) hq111.1 (bys_eq _ hQ) ((hw.has (i := 1) rfl).of_own) (bys_lt hQ); rw [decide_eq_true rfl] at this; exact this) (fun _ _ => trivial) ?_
      refine s_not 141 rfl rfl ?_
      refine s_pickF 142 rfl rfl rfl ?_
      refine s_mv 143 rfl rfl ?_
      refine s_mv 144 rfl rfl ?_
      refine s_mv 145 rfl rfl ?_
      refine s_call1 146 rfl rfl rfl rfl (v := .bool true) (fun w hw => by have := bsame_spec q111.2.1 (bys (restP 3 (bl p0) (bl p1))).length q111.2.2 (bys (restP 3 (bl p0) (bl p1))) q132.2.1 (bys (restP 3 (bl p0) (bl p1))).length q132.2.2 (bys (restP 3 (bl p0) (bl p1))) w ((hw.has (i := 2) rfl).of_own) (bys_lt hR) (by have := bys_len (restP 3 (bl p0) (bl p1)); omega) hq111.2 (bys_eq _ hR) ((hw.has (i := 0) rfl).of_own) (bys_lt hR); rw [decide_eq_true rfl] at this; exact this) (fun _ _ => trivial) ?_
      refine s_not 147 rfl rfl ?_
      refine s_pickF 148 rfl rfl rfl ?_
      refine SX.next ?_
      refine CW.condF rfl ?_
      refine CW.skip ?_
      exact KN.join () ⟨rfl, rfl, rfl, rfl, rfl, rfl, trivial⟩ (fun _ hw => hw.pick [12, 12] rfl) trivial
  · skip
    intro _ _
    refine CW.seq ?_
    rcases (show (bl p0).length = 0 ∨ ((bl p0).length ≠ 0 ∧ 4097 - ((bl p0).length : Int) < a2) ∨ ((bl p0).length ≠ 0 ∧ a2 ≤ 4097 - ((bl p0).length : Int)) by omega) with hz0 | ⟨hz0, hlg⟩ | ⟨hz0, hlg⟩
    · skip
      have hbs : (bl p0).length ≤ 320 := by omega
      refine CW.reg [0, 1, 2, 3, 4, 5, 6, 7] rfl ?_
      refine s_mv 150 rfl rfl ?_
      refine s_mv 151 rfl rfl ?_
      refine s_call1 152 rfl rfl rfl rfl (fun w hw => bsh_none q41.1 p0.length q41.2 p0 a2 w ((hw.has (i := 1) rfl).of_own) hp0 (by omega) hq41 (.inl hz0)) (fun _ _ => trivial) ?_
      refine s_mv 149 rfl rfl ?_
      refine s_ext 153 rfl rfl rfl ?_
      refine s_ext 154 rfl rfl rfl ?_
      refine s_as 21 rfl rfl ?_
      refine s_as 22 rfl rfl ?_
      refine SX.next ?_
      refine CW.seq ?_
      refine CW.reg [0, 1, 2, 3, 4, 5, 6, 7, 8, 9, 10] rfl ?_
      refine s_mv 155 rfl rfl ?_
      refine s_call1 156 rfl rfl rfl rfl (fun w hw => rdeg_spec A0 p0.length c0 p0 w (hw.old ha0) hp0 (by omega) hcp0) (fun _ _ => trivial) ?_
      refine s_ge 157 rfl rfl rfl (decide_eq_false (by omega)) ?_
      refine s_mv 158 rfl rfl ?_
      refine SX.skip rfl ?_
      refine SX.skip rfl ?_
      refine SX.skip rfl ?_
      refine SX.skip rfl ?_
      refine SX.skip rfl ?_
      refine s_pickF 164 rfl rfl rfl ?_
      refine s_as 23 rfl rfl ?_
      refine SX.next ?_
      refine CW.seq ?_
      refine CW.seq ?_
      refine CW.reg [0] rfl ?_
      refine s_mv 165 rfl rfl ?_
      refine SX.next ?_
      refine CW.condF rfl ?_
      refine CW.seq ?_
      refine CW.reg [0, 1, 2, 3, 4, 5, 6, 7, 8, 9, 10] rfl ?_
      refine s_mv 174 rfl rfl ?_
      refine s_neNN 175 rfl rfl ?_
      refine s_mv 176 rfl rfl ?_
      refine s_mv 177 rfl rfl ?_
      refine s_mv 178 rfl rfl ?_
      refine s_mv 179 rfl rfl ?_
      refine s_max 180 rfl rfl rfl (r := max a2 (-10000)) (by split <;> omega) ?_
      refine s_call1 181 rfl rfl rfl rfl (fun w hw => rbinsh_zero A0 p0.length c0 p0 (max a2 (-10000)) w (hw.old ha0) hp0 (by omega) hcp0 hz0) (fun _ _ => trivial) ?_
      refine s_call1 182 rfl rfl rfl rfl (v := .bool true) (fun w hw => by have := bsame_spec none 0 0 [] none 0 0 [] w (Has.sl_nil _ 1 none) (by simp) (by omega) (Nat.le_refl _) rfl (Has.sl_nil _ 1 none) (by simp); rw [decide_eq_true rfl] at this; exact this) (fun _ _ => trivial) ?_
      refine s_not 183 rfl rfl ?_
      refine s_pickF 184 rfl rfl rfl ?_
      refine SX.next ?_
      refine CW.condF rfl ?_
      refine CW.skip ?_
      refine KN.code ?_
      refine CW.seq ?_
      refine CW.reg [0] rfl ?_
      refine s_as 24 rfl rfl ?_
      refine SX.next ?_
      refine CW.seq ?_
      refine CW.seq ?_
      refine CW.reg [0] rfl ?_
      refine s_as 25 rfl rfl ?_
      refine SX.next ?_
      refine CW.block ?_
      refine CW.loop (G := Nat) (fun k => [(0, .slice A0 p0.length c0), (1, .slice A1 p1.length c1), (2, .int .i64 a2), (10, .slice q41.1 p0.length q41.2), (11, .slice q43.1 p1.length q43.2), (15, .bool true), (24, .int .i64 (xs (bitN p0) k : Nat)), (25, .int .i64 (k : Nat))]) (fun _ => Sto w [own 5 1 q43.1 p1.length q43.2 (nats .u8 p1), own 5 1 q41.1 p0.length q41.2 (nats .u8 p0)]) (fun k => k ≤ 8 * p0.length) (fun k => 8 * p0.length - k) 0 ⟨rfl, rfl, rfl, rfl, rfl, rfl, rfl, rfl, trivial⟩ (fun _ hw => hw) (Nat.zero_le _) ?_
      intro k hk
      have hbk := bitN_lt p0 k
      have hxk : xs (bitN p0) k < 2 ^ 1 := xs_lt (fun i _ => bitN_lt p0 i)
      refine CW.seq ?_
      refine CW.seq ?_
      refine CW.reg [0, 1, 2, 3, 4] rfl ?_
      refine s_mv 185 rfl rfl ?_
      refine s_mv 186 rfl rfl ?_
      refine s_len 187 rfl rfl ?_
      refine s_mul 188 rfl rfl rfl (r := ((8 * p0.length : Nat) : Int)) (by rw [show (8 : Int) * ((p0.length : Nat) : Int) = ((8 * p0.length : Nat) : Int) by omega]; exact w64 (by omega)) ?_
      refine s_lt 189 rfl rfl rfl rfl ?_
      refine SX.next ?_
      refine CW.test rfl (fun hc => ?_) (fun hc => ?_)
      · skip
        refine CW.skip ?_
        refine KN.code ?_
        refine CW.seq ?_
        refine CW.block ?_
        refine CW.reg [0, 1, 2, 3, 4, 5] rfl ?_
        refine s_mv 192 rfl rfl ?_
        refine s_mv 193 rfl rfl ?_
        refine s_mv 194 rfl rfl ?_
        refine s_call1 195 rfl rfl rfl rfl (v := .int .i64 (bitN p0 k : Nat)) (fun w hw => by have := rBit_spec A0 p0.length c0 p0 (k : Nat) w (hw.old ha0) hp0 (by omega) hcp0 (by omega); rw [bitI_nat] at this; exact this) (fun _ _ => trivial) ?_
        refine s_bit 196 rfl rfl rfl rfl (r := ((xs (bitN p0) (k + 1) : Nat) : Int)) (by rw [ibit_xor_nat (by omega) (by omega)]; rfl) ?_
        refine s_as 24 rfl rfl ?_
        refine SX.end_ ?_
        refine KN.blk ?_
        refine KN.code ?_
        refine CW.reg [0, 1, 2] rfl ?_
        refine s_mv 190 rfl rfl ?_
        refine s_add 191 rfl rfl rfl (r := ((k + 1 : Nat) : Int)) (w64 (by omega)) ?_
        refine s_as 25 rfl rfl ?_
        refine SX.end_ ?_
        exact KN.back (k + 1) ⟨rfl, rfl, rfl, rfl, rfl, rfl, rfl, rfl, trivial⟩ (fun _ hw => hw) (by omega) (by omega)
      · skip
        obtain rfl : k = 8 * p0.length := by omega
        have hpar : xs (bitN p0) (8 * p0.length) = evX p0 1 := parB_ev p0
        have hand := ibit_and_mask a2 (m := 1) (by omega) (s := 1) rfl
        refine CW.exit rfl ?_
        refine KN.code ?_
        refine CW.seq ?_
        refine CW.reg [0, 1, 2, 3, 4, 5, 6, 7, 8, 9, 10, 11, 12, 13, 14, 15, 16, 17, 18, 19, 20, 21, 22, 23, 24, 25, 26, 27, 28, 29, 30, 31, 32, 33, 34, 35, 36, 37, 38, 39, 40, 41, 42, 43, 44, 45] rfl ?_
        refine s_mv 197 rfl rfl ?_
        refine s_mv 198 rfl rfl ?_
        refine s_mv 199 rfl rfl ?_
        refine s_call1 200 rfl rfl rfl rfl (fun w hw => beval_any q41.1 p0.length q41.2 p0 1 w ((hw.has (i := 1) rfl).of_own) hp0 (by omega) hq41) (fun _ _ => trivial) ?_
        refine s_mv 201 rfl rfl ?_
        refine s_eq 202 rfl rfl rfl (decide_eq_true (by rw [hpar])) ?_
        refine s_pickT 203 rfl rfl rfl ?_
        refine s_mv 204 rfl rfl ?_
        refine s_mv 205 rfl rfl ?_
        refine s_call1 206 rfl rfl rfl rfl (fun w hw => beval_any q41.1 p0.length q41.2 p0 0 w ((hw.has (i := 1) rfl).of_own) hp0 (by omega) hq41) (fun _ _ => trivial) ?_
        refine s_mv 207 rfl rfl ?_
        refine s_call1 208 rfl rfl rfl rfl (fun w hw => rBit_spec A0 p0.length c0 p0 0 w (hw.old ha0) hp0 (by omega) hcp0 (by omega)) (fun _ _ => trivial) ?_
        refine s_eq 209 rfl rfl rfl (decide_eq_true rfl) ?_
        refine s_pickT 210 rfl rfl rfl ?_
        refine s_mv 211 rfl rfl ?_
        refine s_mv 212 rfl rfl ?_
        refine s_mv 213 rfl rfl ?_
        refine s_call1 214 rfl rfl rfl rfl (fun w hw => beval_any q41.1 p0.length q41.2 p0 a2 w ((hw.has (i := 1) rfl).of_own) hp0 (by omega) hq41) (fun _ _ => trivial) ?_
        refine s_mv 215 rfl rfl ?_
        refine s_mv 216 rfl rfl ?_
        refine s_bit 217 rfl rfl rfl rfl (r := a2 % 2) hand ?_
        refine s_call1 218 rfl rfl rfl rfl (fun w hw => beval_any q41.1 p0.length q41.2 p0 (a2 % 2) w ((hw.has (i := 1) rfl).of_own) hp0 (by omega) hq41) (fun _ _ => trivial) ?_
        refine s_eq 219 rfl rfl rfl (decide_eq_true (by rw [ev_and])) ?_
        refine s_pickT 220 rfl rfl rfl ?_
        refine s_mv 221 rfl rfl ?_
        refine s_mv 222 rfl rfl ?_
        refine s_mv 223 rfl rfl ?_
        refine s_call1 224 rfl rfl rfl rfl (fun w hw => bsm_spec q41.1 p0.length q41.2 p0 q43.1 p1.length q43.2 p1 w ((hw.has (i := 1) rfl).of_own) hp0 (by omega) hq41 ((hw.has (i := 0) rfl).of_own) hp1 (by omega) hq43) (fun _ _ => trivial) ?_
        refine s_mv 225 rfl rfl ?_
        refine s_call 226 rfl rfl rfl rfl (fun w hw => by have := rbinadd_spec A0 p0.length c0 p0 none 0 0 [] w (hw.old ha0) hp0 (by omega) hcp0 (Has.sl_nil _ 1 none) (by simp) (by omega) (Nat.le_refl _) (by omega) (by omega); rw [add_own] at this; exact this) (fun _ _ => trivial) (fun q226 hq226 => ?_)
        refine s_mv 227 rfl rfl ?_
        refine s_call 228 rfl rfl rfl rfl (fun w hw => by have := rbinadd_spec A1 p1.length c1 p1 none 0 0 [] w (hw.old ha1) hp1 (by omega) hcp1 (Has.sl_nil _ 1 none) (by simp) (by omega) (Nat.le_refl _) (by omega) (by omega); rw [add_own] at this; exact this) (fun _ _ => trivial) (fun q228 hq228 => ?_)
        refine s_call1 229 rfl rfl rfl rfl (v := .bool (decide (bl p0 = bl p1))) (fun w hw => by have := sameBytes_spec q226.1 (bys (bl p0)).length q226.2 (bys (bl p0)) q228.1 (bys (bl p1)).length q228.2 (bys (bl p1)) w ((hw.has (i := 1) rfl).of_own) (bys_lt hB0) ((hw.has (i := 0) rfl).of_own) (bys_lt hB1); rw [same_bys] at this; exact this) (fun _ _ => trivial) ?_
        refine s_eqB 230 rfl rfl rfl (r := true) (beq_self_eq_true _) ?_
        refine s_pickT 231 rfl rfl rfl ?_
        refine s_mv 232 rfl rfl ?_
        refine s_mv 233 rfl rfl ?_
        refine s_mv 234 rfl rfl ?_
        refine s_call1 235 rfl rfl rfl rfl (v := .bool true) (fun w hw => by have := sameBytes_spec q41.1 p0.length q41.2 p0 A0 p0.length c0 p0 w ((hw.has (i := 3) rfl).of_own) hp0 (hw.old ha0) hp0; rw [decide_eq_true rfl] at this; exact this) (fun _ _ => trivial) ?_
        refine s_pickT 236 rfl rfl rfl ?_
        refine s_mv 237 rfl rfl ?_
        refine s_mv 238 rfl rfl ?_
        refine s_mv 239 rfl rfl ?_
        refine s_call1 240 rfl rfl rfl rfl (v := .bool true) (fun w hw => by have := sameBytes_spec q43.1 p1.length q43.2 p1 A1 p1.length c1 p1 w ((hw.has (i := 2) rfl).of_own) hp1 (hw.old ha1) hp1; rw [decide_eq_true rfl] at this; exact this) (fun _ _ => trivial) ?_
        refine s_pickT 241 rfl rfl rfl ?_
        refine s_as 8 rfl rfl ?_
        refine SX.next ?_
        refine CW.ret ?_
        exact KN.ret (rs := [.tmp 8]) Tryd.results4 rfl (fun w hw => ⟨rfl, hw.nothing⟩)
    · skip
      have hbs : (bl p0).length ≤ 320 := by omega
      refine CW.reg [0, 1, 2, 3, 4, 5, 6, 7] rfl ?_
      refine s_mv 150 rfl rfl ?_
      refine s_mv 151 rfl rfl ?_
      refine s_call1 152 rfl rfl rfl rfl (fun w hw => bsh_long q41.1 p0.length q41.2 p0 a2 e w ((hw.has (i := 1) rfl).of_own) hp0 (by omega) hq41 hz0 (by omega) hlg (hw.er hl)) (fun _ _ => trivial) ?_
      refine s_mv 149 rfl rfl ?_
      refine s_ext 153 rfl rfl rfl ?_
      refine s_ext 154 rfl rfl rfl ?_
      refine s_as 21 rfl rfl ?_
      refine s_as 22 rfl rfl ?_
      refine SX.next ?_
      refine CW.seq ?_
      refine CW.reg [0, 1, 2, 3, 4, 5, 6, 7, 8, 9, 10] rfl ?_
      refine s_mv 155 rfl rfl ?_
      refine s_call1 156 rfl rfl rfl rfl (fun w hw => rdeg_spec A0 p0.length c0 p0 w (hw.old ha0) hp0 (by omega) hcp0) (fun _ _ => trivial) ?_
      refine s_ge 157 rfl rfl rfl (decide_eq_true (by omega)) ?_
      refine s_mv 158 rfl rfl ?_
      refine s_mv 159 rfl rfl ?_
      refine s_mv 160 rfl rfl ?_
      refine s_call1 161 rfl rfl rfl rfl (fun w hw => rdeg_spec A0 p0.length c0 p0 w (hw.old ha0) hp0 (by omega) hcp0) (fun _ _ => trivial) ?_
      refine s_sub 162 rfl rfl rfl (r := 4097 - ((bl p0).length : Nat)) (by rw [show (4096 : Int) - (((bl p0).length : Nat) - 1) = 4097 - ((bl p0).length : Nat) by omega]; exact w64 (by omega)) ?_
      refine s_gt 163 rfl rfl rfl (decide_eq_true (by omega)) ?_
      refine s_pickT 164 rfl rfl rfl ?_
      refine s_as 23 rfl rfl ?_
      refine SX.next ?_
      refine CW.seq ?_
      refine CW.seq ?_
      refine CW.reg [0] rfl ?_
      refine s_mv 165 rfl rfl ?_
      refine SX.next ?_
      refine CW.condT rfl ?_
      refine CW.seq ?_
      refine CW.reg [0, 1, 2, 3, 4, 5, 6, 7] rfl ?_
      refine s_mv 166 rfl rfl ?_
      refine s_ld 167 rfl rfl (fun _ h => h.cell hl) ?_
      refine s_neE 168 rfl rfl rfl ?_
      refine s_mv 169 rfl rfl ?_
      refine s_mv 170 rfl rfl ?_
      refine s_len 171 rfl rfl ?_
      refine s_ne 172 rfl rfl rfl (decide_eq_false (fun h => h rfl)) ?_
      refine s_pickF 173 rfl rfl rfl ?_
      refine SX.next ?_
      refine CW.condF rfl ?_
      refine CW.skip ?_
      refine KN.code ?_
      refine CW.seq ?_
      refine CW.reg [0] rfl ?_
      refine s_as 24 rfl rfl ?_
      refine SX.next ?_
      refine CW.seq ?_
      refine CW.seq ?_
      refine CW.reg [0] rfl ?_
      refine s_as 25 rfl rfl ?_
      refine SX.next ?_
      refine CW.block ?_
      refine CW.loop (G := Nat) (fun k => [(0, .slice A0 p0.length c0), (1, .slice A1 p1.length c1), (2, .int .i64 a2), (10, .slice q41.1 p0.length q41.2), (11, .slice q43.1 p1.length q43.2), (15, .bool true), (24, .int .i64 (xs (bitN p0) k : Nat)), (25, .int .i64 (k : Nat))]) (fun _ => Sto w [own 5 1 q43.1 p1.length q43.2 (nats .u8 p1), own 5 1 q41.1 p0.length q41.2 (nats .u8 p0)]) (fun k => k ≤ 8 * p0.length) (fun k => 8 * p0.length - k) 0 ⟨rfl, rfl, rfl, rfl, rfl, rfl, rfl, rfl, trivial⟩ (fun _ hw => hw) (Nat.zero_le _) ?_
      intro k hk
      have hbk := bitN_lt p0 k
      have hxk : xs (bitN p0) k < 2 ^ 1 := xs_lt (fun i _ => bitN_lt p0 i)
      refine CW.seq ?_
      refine CW.seq ?_
      refine CW.reg [0, 1, 2, 3, 4] rfl ?_
      refine s_mv 185 rfl rfl ?_
      refine s_mv 186 rfl rfl ?_
      refine s_len 187 rfl rfl ?_
      refine s_mul 188 rfl rfl rfl (r := ((8 * p0.length : Nat) : Int)) (by rw [show (8 : Int) * ((p0.length : Nat) : Int) = ((8 * p0.length : Nat) : Int) by omega]; exact w64 (by omega)) ?_
      refine s_lt 189 rfl rfl rfl rfl ?_
      refine SX.next ?_
      refine CW.test rfl (fun hc => ?_) (fun hc => ?_)
      · skip
        refine CW.skip ?_
        refine KN.code ?_
        refine CW.seq ?_
        refine CW.block ?_
        refine CW.reg [0, 1, 2, 3, 4, 5] rfl ?_
        refine s_mv 192 rfl rfl ?_
        refine s_mv 193 rfl rfl ?_
        refine s_mv 194 rfl rfl ?_
        refine s_call1 195 rfl rfl rfl rfl (v := .int .i64 (bitN p0 k : Nat)) (fun w hw => by have := rBit_spec A0 p0.length c0 p0 (k : Nat) w (hw.old ha0) hp0 (by omega) hcp0 (by omega); rw [bitI_nat] at this; exact this) (fun _ _ => trivial) ?_
        refine s_bit 196 rfl rfl rfl rfl (r := ((xs (bitN p0) (k + 1) : Nat) : Int)) (by rw [ibit_xor_nat (by omega) (by omega)]; rfl) ?_
        refine s_as 24 rfl rfl ?_
        refine SX.end_ ?_
        refine KN.blk ?_
        refine KN.code ?_
        refine CW.reg [0, 1, 2] rfl ?_
        refine s_mv 190 rfl rfl ?_
        refine s_add 191 rfl rfl rfl (r := ((k + 1 : Nat) : Int)) (w64 (by omega)) ?_
        refine s_as 25 rfl rfl ?_
        refine SX.end_ ?_
        exact KN.back (k + 1) ⟨rfl, rfl, rfl, rfl, rfl, rfl, rfl, rfl, trivial⟩ (fun _ hw => hw) (by omega) (by omega)
      · skip
        obtain rfl : k = 8 * p0.length := by omega
        have hpar : xs (bitN p0) (8 * p0.length) = evX p0 1 := parB_ev p0
        have hand := ibit_and_mask a2 (m := 1) (by omega) (s := 1) rfl
        refine CW.exit rfl ?_
        refine KN.code ?_
        refine CW.seq ?_
        refine CW.reg [0, 1, 2, 3, 4, 5, 6, 7, 8, 9, 10, 11, 12, 13, 14, 15, 16, 17, 18, 19, 20, 21, 22, 23, 24, 25, 26, 27, 28, 29, 30, 31, 32, 33, 34, 35, 36, 37, 38, 39, 40, 41, 42, 43, 44, 45] rfl ?_
        refine s_mv 197 rfl rfl ?_
        refine s_mv 198 rfl rfl ?_
        refine s_mv 199 rfl rfl ?_
        refine s_call1 200 rfl rfl rfl rfl (fun w hw => beval_any q41.1 p0.length q41.2 p0 1 w ((hw.has (i := 1) rfl).of_own) hp0 (by omega) hq41) (fun _ _ => trivial) ?_
        refine s_mv 201 rfl rfl ?_
        refine s_eq 202 rfl rfl rfl (decide_eq_true (by rw [hpar])) ?_
        refine s_pickT 203 rfl rfl rfl ?_
        refine s_mv 204 rfl rfl ?_
        refine s_mv 205 rfl rfl ?_
        refine s_call1 206 rfl rfl rfl rfl (fun w hw => beval_any q41.1 p0.length q41.2 p0 0 w ((hw.has (i := 1) rfl).of_own) hp0 (by omega) hq41) (fun _ _ => trivial) ?_
        refine s_mv 207 rfl rfl ?_
        refine s_call1 208 rfl rfl rfl rfl (fun w hw => rBit_spec A0 p0.length c0 p0 0 w (hw.old ha0) hp0 (by omega) hcp0 (by omega)) (fun _ _ => trivial) ?_
        refine s_eq 209 rfl rfl rfl (decide_eq_true rfl) ?_
        refine s_pickT 210 rfl rfl rfl ?_
        refine s_mv 211 rfl rfl ?_
        refine s_mv 212 rfl rfl ?_
        refine s_mv 213 rfl rfl ?_
        refine s_call1 214 rfl rfl rfl rfl (fun w hw => beval_any q41.1 p0.length q41.2 p0 a2 w ((hw.has (i := 1) rfl).of_own) hp0 (by omega) hq41) (fun _ _ => trivial) ?_
        refine s_mv 215 rfl rfl ?_
        refine s_mv 216 rfl rfl ?_
        refine s_bit 217 rfl rfl rfl rfl (r := a2 % 2) hand ?_
        refine s_call1 218 rfl rfl rfl rfl (fun w hw => beval_any q41.1 p0.length q41.2 p0 (a2 % 2) w ((hw.has (i := 1) rfl).of_own) hp0 (by omega) hq41) (fun _ _ => trivial) ?_
        refine s_eq 219 rfl rfl rfl (decide_eq_true (by rw [ev_and])) ?_
        refine s_pickT 220 rfl rfl rfl ?_
        refine s_mv 221 rfl rfl ?_
        refine s_mv 222 rfl rfl ?_
        refine s_mv 223 rfl rfl ?_
        refine s_call1 224 rfl rfl rfl rfl (fun w hw => bsm_spec q41.1 p0.length q41.2 p0 q43.1 p1.length q43.2 p1 w ((hw.has (i := 1) rfl).of_own) hp0 (by omega) hq41 ((hw.has (i := 0) rfl).of_own) hp1 (by omega) hq43) (fun _ _ => trivial) ?_
        refine s_mv 225 rfl rfl ?_
        refine s_call 226 rfl rfl rfl rfl (fun w hw => by have := rbinadd_spec A0 p0.length c0 p0 none 0 0 [] w (hw.old ha0) hp0 (by omega) hcp0 (Has.sl_nil _ 1 none) (by simp) (by omega) (Nat.le_refl _) (by omega) (by omega); rw [add_own] at this; exact this) (fun _ _ => trivial) (fun q226 hq226 => ?_)
        refine s_mv 227 rfl rfl ?_
        refine s_call 228 rfl rfl rfl rfl (fun w hw => by have := rbinadd_spec A1 p1.length c1 p1 none 0 0 [] w (hw.old ha1) hp1 (by omega) hcp1 (Has.sl_nil _ 1 none) (by simp) (by omega) (Nat.le_refl _) (by omega) (by omega); rw [add_own] at this; exact this) (fun _ _ => trivial) (fun q228 hq228 => ?_)
        refine s_call1 229 rfl rfl rfl rfl (v := .bool (decide (bl p0 = bl p1))) (fun w hw => by have := sameBytes_spec q226.1 (bys (bl p0)).length q226.2 (bys (bl p0)) q228.1 (bys (bl p1)).length q228.2 (bys (bl p1)) w ((hw.has (i := 1) rfl).of_own) (bys_lt hB0) ((hw.has (i := 0) rfl).of_own) (bys_lt hB1); rw [same_bys] at this; exact this) (fun _ _ => trivial) ?_
        refine s_eqB 230 rfl rfl rfl (r := true) (beq_self_eq_true _) ?_
        refine s_pickT 231 rfl rfl rfl ?_
        refine s_mv 232 rfl rfl ?_
        refine s_mv 233 rfl rfl ?_
        refine s_mv 234 rfl rfl ?_
        refine s_call1 235 rfl rfl rfl rfl (v := .bool true) (fun w hw => by have := sameBytes_spec q41.1 p0.length q41.2 p0 A0 p0.length c0 p0 w ((hw.has (i := 3) rfl).of_own) hp0 (hw.old ha0) hp0; rw [decide_eq_true rfl] at this; exact this) (fun _ _ => trivial) ?_
        refine s_pickT 236 rfl rfl rfl ?_
        refine s_mv 237 rfl rfl ?_
        refine s_mv 238 rfl rfl ?_
        refine s_mv 239 rfl rfl ?_
        refine s_call1 240 rfl rfl rfl rfl (v := .bool true) (fun w hw => by have := sameBytes_spec q43.1 p1.length q43.2 p1 A1 p1.length c1 p1 w ((hw.has (i := 2) rfl).of_own) hp1 (hw.old ha1) hp1; rw [decide_eq_true rfl] at this; exact this) (fun _ _ => trivial) ?_
        refine s_pickT 241 rfl rfl rfl ?_
        refine s_as 8 rfl rfl ?_
        refine SX.next ?_
        refine CW.ret ?_
        exact KN.ret (rs := [.tmp 8]) Tryd.results4 rfl (fun w hw => ⟨rfl, hw.nothing⟩)
    · skip
      have hbs : (bl p0).length ≤ 320 := by omega
      refine CW.reg [0, 1, 2, 3, 4, 5, 6, 7] rfl ?_
      refine s_mv 150 rfl rfl ?_
      refine s_mv 151 rfl rfl ?_
      refine s_call 152 rfl rfl rfl rfl (fun w hw => by have := bsh_ok q41.1 p0.length q41.2 p0 a2 w ((hw.has (i := 1) rfl).of_own) hp0 (by omega) hq41 (by omega) hlg; exact this) (fun _ _ => trivial) (fun q152 hq152 => ?_)
      refine s_mv 149 rfl rfl ?_
      refine s_ext 153 rfl rfl rfl ?_
      refine s_ext 154 rfl rfl rfl ?_
      refine s_as 21 rfl rfl ?_
      refine s_as 22 rfl rfl ?_
      refine SX.next ?_
      refine CW.seq ?_
      refine CW.reg [0, 1, 2, 3, 4, 5, 6, 7, 8, 9, 10] rfl ?_
      refine s_mv 155 rfl rfl ?_
      refine s_call1 156 rfl rfl rfl rfl (fun w hw => rdeg_spec A0 p0.length c0 p0 w (hw.old ha0) hp0 (by omega) hcp0) (fun _ _ => trivial) ?_
      refine s_ge 157 rfl rfl rfl (decide_eq_true (by omega)) ?_
      refine s_mv 158 rfl rfl ?_
      refine s_mv 159 rfl rfl ?_
      refine s_mv 160 rfl rfl ?_
      refine s_call1 161 rfl rfl rfl rfl (fun w hw => rdeg_spec A0 p0.length c0 p0 w (hw.old ha0) hp0 (by omega) hcp0) (fun _ _ => trivial) ?_
      refine s_sub 162 rfl rfl rfl (r := 4097 - ((bl p0).length : Nat)) (by rw [show (4096 : Int) - (((bl p0).length : Nat) - 1) = 4097 - ((bl p0).length : Nat) by omega]; exact w64 (by omega)) ?_
      refine s_gt 163 rfl rfl rfl (decide_eq_false (by omega)) ?_
      refine s_pickT 164 rfl rfl rfl ?_
      refine s_as 23 rfl rfl ?_
      refine SX.next ?_
      refine CW.seq ?_
      refine CW.seq ?_
      refine CW.reg [0] rfl ?_
      refine s_mv 165 rfl rfl ?_
      refine SX.next ?_
      refine CW.condF rfl ?_
      refine CW.seq ?_
      refine CW.reg [0, 1, 2, 3, 4, 5, 6, 7, 8, 9, 10] rfl ?_
      refine s_mv 174 rfl rfl ?_
      refine s_neNN 175 rfl rfl ?_
      refine s_mv 176 rfl rfl ?_
      refine s_mv 177 rfl rfl ?_
      refine s_mv 178 rfl rfl ?_
      refine s_mv 179 rfl rfl ?_
      refine s_max 180 rfl rfl rfl (r := max a2 (-10000)) (by split <;> omega) ?_
      have hSb := shI_b1 hB0 a2
      have hsl : (shI a2 (bl p0)).length ≤ 5000 := b1_len hSb (fun j hj => by
        rw [cf_shI]
        split
        · rfl
        · exact cf_out (by omega))
      refine s_call 181 rfl rfl rfl rfl (fun w hw => by have := rbinsh_spec A0 p0.length c0 p0 (max a2 (-10000)) w (hw.old ha0) hp0 (by omega) hcp0 (by omega) (by omega) (by omega); rw [shI_max hB0 (by omega)] at this; exact this) (fun _ _ => trivial) (fun q181 hq181 => ?_)
      refine s_call1 182 rfl rfl rfl rfl (v := .bool true) (fun w hw => by have := bsame_spec q152.1 (bys (shI a2 (bl p0))).length q152.2 (bys (shI a2 (bl p0))) q181.1 (bys (shI a2 (bl p0))).length q181.2 (bys (shI a2 (bl p0))) w ((hw.has (i := 1) rfl).of_own) (bys_lt hSb) (by have := bys_len (shI a2 (bl p0)); omega) hq152 (bys_eq _ hSb) ((hw.has (i := 0) rfl).of_own) (bys_lt hSb); rw [decide_eq_true rfl] at this; exact this) (fun _ _ => trivial) ?_
      refine s_not 183 rfl rfl ?_
      refine s_pickF 184 rfl rfl rfl ?_
      refine SX.next ?_
      refine CW.condF rfl ?_
      refine CW.skip ?_
      refine KN.code ?_
      refine CW.seq ?_
      refine CW.reg [0] rfl ?_
      refine s_as 24 rfl rfl ?_
      refine SX.next ?_
      refine CW.seq ?_
      refine CW.seq ?_
      refine CW.reg [0] rfl ?_
      refine s_as 25 rfl rfl ?_
      refine SX.next ?_
      refine CW.block ?_
      refine CW.loop (G := Nat) (fun k => [(0, .slice A0 p0.length c0), (1, .slice A1 p1.length c1), (2, .int .i64 a2), (10, .slice q41.1 p0.length q41.2), (11, .slice q43.1 p1.length q43.2), (15, .bool true), (24, .int .i64 (xs (bitN p0) k : Nat)), (25, .int .i64 (k : Nat))]) (fun _ => Sto w [own 5 1 q181.1 (bys (shI a2 (bl p0))).length q181.2 (nats .u8 (bys (shI a2 (bl p0)))), own 5 1 q152.1 (bys (shI a2 (bl p0))).length q152.2 (nats .u8 (bys (shI a2 (bl p0)))), own 5 1 q43.1 p1.length q43.2 (nats .u8 p1), own 5 1 q41.1 p0.length q41.2 (nats .u8 p0)]) (fun k => k ≤ 8 * p0.length) (fun k => 8 * p0.length - k) 0 ⟨rfl, rfl, rfl, rfl, rfl, rfl, rfl, rfl, trivial⟩ (fun _ hw => hw) (Nat.zero_le _) ?_
      intro k hk
      have hbk := bitN_lt p0 k
      have hxk : xs (bitN p0) k < 2 ^ 1 := xs_lt (fun i _ => bitN_lt p0 i)
      refine CW.seq ?_
      refine CW.seq ?_
      refine CW.reg [0, 1, 2, 3, 4] rfl ?_
      refine s_mv 185 rfl rfl ?_
      refine s_mv 186 rfl rfl ?_
      refine s_len 187 rfl rfl ?_
      refine s_mul 188 rfl rfl rfl (r := ((8 * p0.length : Nat) : Int)) (by rw [show (8 : Int) * ((p0.length : Nat) : Int) = ((8 * p0.length : Nat) : Int) by omega]; exact w64 (by omega)) ?_
      refine s_lt 189 rfl rfl rfl rfl ?_
      refine SX.next ?_
      refine CW.test rfl (fun hc => ?_) (fun hc => ?_)
      · skip
        refine CW.skip ?_
        refine KN.code ?_
        refine CW.seq ?_
        refine CW.block ?_
        refine CW.reg [0, 1, 2, 3, 4, 5] rfl ?_
        refine s_mv 192 rfl rfl ?_
        refine s_mv 193 rfl rfl ?_
        refine s_mv 194 rfl rfl ?_
        refine s_call1 195 rfl rfl rfl rfl (v := .int .i64 (bitN p0 k : Nat)) (fun w hw => by have := rBit_spec A0 p0.length c0 p0 (k : Nat) w (hw.old ha0) hp0 (by omega) hcp0 (by omega); rw [bitI_nat] at this; exact this) (fun _ _ => trivial) ?_
        refine s_bit 196 rfl rfl rfl rfl (r := ((xs (bitN p0) (k + 1) : Nat) : Int)) (by rw [ibit_xor_nat (by omega) (by omega)]; rfl) ?_
        refine s_as 24 rfl rfl ?_
        refine SX.end_ ?_
        refine KN.blk ?_
        refine KN.code ?_
        refine CW.reg [0, 1, 2] rfl ?_
        refine s_mv 190 rfl rfl ?_
        refine s_add 191 rfl rfl rfl (r := ((k + 1 : Nat) : Int)) (w64 (by omega)) ?_
        refine s_as 25 rfl rfl ?_
        refine SX.end_ ?_
        exact KN.back (k + 1) ⟨rfl, rfl, rfl, rfl, rfl, rfl, rfl, rfl, trivial⟩ (fun _ hw => hw) (by omega) (by omega)
      · skip
        obtain rfl : k = 8 * p0.length := by omega
        have hpar : xs (bitN p0) (8 * p0.length) = evX p0 1 := parB_ev p0
        have hand := ibit_and_mask a2 (m := 1) (by omega) (s := 1) rfl
        refine CW.exit rfl ?_
        refine KN.code ?_
        refine CW.seq ?_
        refine CW.reg [0, 1, 2, 3, 4, 5, 6, 7, 8, 9, 10, 11, 12, 13, 14, 15, 16, 17, 18, 19, 20, 21, 22, 23, 24, 25, 26, 27, 28, 29, 30, 31, 32, 33, 34, 35, 36, 37, 38, 39, 40, 41, 42, 43, 44, 45] rfl ?_
        refine s_mv 197 rfl rfl ?_
        refine s_mv 198 rfl rfl ?_
        refine s_mv 199 rfl rfl ?_
        refine s_call1 200 rfl rfl rfl rfl (fun w hw => beval_any q41.1 p0.length q41.2 p0 1 w ((hw.has (i := 3) rfl).of_own) hp0 (by omega) hq41) (fun _ _ => trivial) ?_
        refine s_mv 201 rfl rfl ?_
        refine s_eq 202 rfl rfl rfl (decide_eq_true (by rw [hpar])) ?_
        refine s_pickT 203 rfl rfl rfl ?_
        refine s_mv 204 rfl rfl ?_
        refine s_mv 205 rfl rfl ?_
        refine s_call1 206 rfl rfl rfl rfl (fun w hw => beval_any q41.1 p0.length q41.2 p0 0 w ((hw.has (i := 3) rfl).of_own) hp0 (by omega) hq41) (fun _ _ => trivial) ?_
        refine s_mv 207 rfl rfl ?_
        refine s_call1 208 rfl rfl rfl rfl (fun w hw => rBit_spec A0 p0.length c0 p0 0 w (hw.old ha0) hp0 (by omega) hcp0 (by omega)) (fun _ _ => trivial) ?_
        refine s_eq 209 rfl rfl rfl (decide_eq_true rfl) ?_
        refine s_pickT 210 rfl rfl rfl ?_
        refine s_mv 211 rfl rfl ?_
        refine s_mv 212 rfl rfl ?_
        refine s_mv 213 rfl rfl ?_
        refine s_call1 214 rfl rfl rfl rfl (fun w hw => beval_any q41.1 p0.length q41.2 p0 a2 w ((hw.has (i := 3) rfl).of_own) hp0 (by omega) hq41) (fun _ _ => trivial) ?_
        refine s_mv 215 rfl rfl ?_
        refine s_mv 216 rfl rfl ?_
        refine s_bit 217 rfl rfl rfl rfl (r := a2 % 2) hand ?_
        refine s_call1 218 rfl rfl rfl rfl (fun w hw => beval_any q41.1 p0.length q41.2 p0 (a2 % 2) w ((hw.has (i := 3) rfl).of_own) hp0 (by omega) hq41) (fun _ _ => trivial) ?_
        refine s_eq 219 rfl rfl rfl (decide_eq_true (by rw [ev_and])) ?_
        refine s_pickT 220 rfl rfl rfl ?_
        refine s_mv 221 rfl rfl ?_
        refine s_mv 222 rfl rfl ?_
        refine s_mv 223 rfl rfl ?_
        refine s_call1 224 rfl rfl rfl rfl (fun w hw => bsm_spec q41.1 p0.length q41.2 p0 q43.1 p1.length q43.2 p1 w ((hw.has (i := 3) rfl).of_own) hp0 (by omega) hq41 ((hw.has (i := 2) rfl).of_own) hp1 (by omega) hq43) (fun _ _ => trivial) ?_
        refine s_mv 225 rfl rfl ?_
        refine s_call 226 rfl rfl rfl rfl (fun w hw => by have := rbinadd_spec A0 p0.length c0 p0 none 0 0 [] w (hw.old ha0) hp0 (by omega) hcp0 (Has.sl_nil _ 1 none) (by simp) (by omega) (Nat.le_refl _) (by omega) (by omega); rw [add_own] at this; exact this) (fun _ _ => trivial) (fun q226 hq226 => ?_)
        refine s_mv 227 rfl rfl ?_
        refine s_call 228 rfl rfl rfl rfl (fun w hw => by have := rbinadd_spec A1 p1.length c1 p1 none 0 0 [] w (hw.old ha1) hp1 (by omega) hcp1 (Has.sl_nil _ 1 none) (by simp) (by omega) (Nat.le_refl _) (by omega) (by omega); rw [add_own] at this; exact this) (fun _ _ => trivial) (fun q228 hq228 => ?_)
        refine s_call1 229 rfl rfl rfl rfl (v := .bool (decide (bl p0 = bl p1))) (fun w hw => by have := sameBytes_spec q226.1 (bys (bl p0)).length q226.2 (bys (bl p0)) q228.1 (bys (bl p1)).length q228.2 (bys (bl p1)) w ((hw.has (i := 1) rfl).of_own) (bys_lt hB0) ((hw.has (i := 0) rfl).of_own) (bys_lt hB1); rw [same_bys] at this; exact this) (fun _ _ => trivial) ?_
        refine s_eqB 230 rfl rfl rfl (r := true) (beq_self_eq_true _) ?_
        refine s_pickT 231 rfl rfl rfl ?_
        refine s_mv 232 rfl rfl ?_
        refine s_mv 233 rfl rfl ?_
        refine s_mv 234 rfl rfl ?_
        refine s_call1 235 rfl rfl rfl rfl (v := .bool true) (fun w hw => by have := sameBytes_spec q41.1 p0.length q41.2 p0 A0 p0.length c0 p0 w ((hw.has (i := 5) rfl).of_own) hp0 (hw.old ha0) hp0; rw [decide_eq_true rfl] at this; exact this) (fun _ _ => trivial) ?_
        refine s_pickT 236 rfl rfl rfl ?_
        refine s_mv 237 rfl rfl ?_
        refine s_mv 238 rfl rfl ?_
        refine s_mv 239 rfl rfl ?_
        refine s_call1 240 rfl rfl rfl rfl (v := .bool true) (fun w hw => by have := sameBytes_spec q43.1 p1.length q43.2 p1 A1 p1.length c1 p1 w ((hw.has (i := 4) rfl).of_own) hp1 (hw.old ha1) hp1; rw [decide_eq_true rfl] at this; exact this) (fun _ _ => trivial) ?_
        refine s_pickT 241 rfl rfl rfl ?_
        refine s_as 8 rfl rfl ?_
        refine SX.next ?_
        refine CW.ret ?_
        exact KN.ret (rs := [.tmp 8]) Tryd.results4 rfl (fun w hw => ⟨rfl, hw.nothing⟩)

theorem walk_BinSays (A0 : Option Addr) (n0 c0 : Nat) (p0 : List Nat) (A1 : Option Addr) (n1 c1 : Nat) (p1 : List Nat) (a2 a3 : Int) (e : Nat → Addr) (w : World) (ha0 : Has (sl 1 A0 n0 (nats .u8 p0)) w) (hp0 : ∀ x ∈ p0, x < 256) (hn0 : n0 ≤ 9223372036854775807) (hcp0 : n0 ≤ c0) (ha1 : Has (sl 1 A1 n1 (nats .u8 p1)) w) (hp1 : ∀ x ∈ p1, x < 256) (hn1 : n1 ≤ 9223372036854775807) (hcp1 : n1 ≤ c1) (h2 : -9223372036854775808 ≤ a2 ∧ a2 ≤ 9223372036854775807) (h3 : -9223372036854775808 ≤ a3 ∧ a3 ≤ 9223372036854775807) (he : Er e w 1) (hz : Er e w 2) (hl : Er e w 0) : Spec1 Tryd.prog 4 [.slice A0 n0 c0, .slice A1 n1 c1, .int .i64 a2, .int .i64 a3] w (.bool true) := by
  by_cases h : 40 < n0 ∨ 40 < n1
  · exact bsays_long A0 n0 c0 p0 A1 n1 c1 p1 a2 a3 e w ha0 hp0 hn0 hcp0 ha1 hp1 hn1 hcp1 h2 h3 he hz hl h
  · exact bsays_ok A0 n0 c0 p0 A1 n1 c1 p1 a2 a3 e w ha0 hp0 hn0 hcp0 ha1 hp1 hn1 hcp1 h2 h3 he hz hl (by omega) (by omega)
end Go.Proofs.YtcdmmfpgeagimaaDoor
end
section
/- What a slice of bytes that comes in gives a walk. No condition. -/
namespace Go.Sx
open Go Go.ChangeShapes Go.WideShapes
theorem open_slB {H : Type} {enc : TypeId × Value → H} {P : Program} {W : World} {base b0 : Nat} {spare : Nat → Bool} {held : Bool} {t e : TypeId} {v : Value} {d : DataW H} {ps : List MemPlace}
    (ht : P.underlying t = some (.slice e)) (he : P.underlying e = some (.int .u8)) (hc : P.cellsOf e = 1) (hval : Value.okWide P W .any b0 t v) (hd : DataW.Trod enc P W base spare held t v d ps) :
    ∃ A n c p, v = .slice A n c ∧ n ≤ c ∧ (c : Int) ≤ 9223372036854775807 ∧ p.length = n ∧ Has (sl 1 A n (nats .u8 p)) W ∧ ∀ x ∈ p, x < 256 := by
  obtain ⟨A, n, c, zs, hv, h1, h2, h3, h4, h5⟩ := open_slI ht he hc hval hd
  have hb : ∀ z ∈ zs, 0 ≤ z ∧ z < 256 := fun z hz => by
    have := h5 z hz
    simp only [Lit.wf, Bool.and_eq_true, decide_eq_true_eq] at this
    have e1 : IntKind.u8.min = 0 := by decide
    have e2 : IntKind.u8.max = 255 := by decide
    omega
  refine ⟨A, n, c, zs.map Int.toNat, hv, h1, h2, by simpa using h3, ?_, fun x hx => ?_⟩
  · have e2 : nats .u8 (zs.map Int.toNat) = ints .u8 zs := by
      unfold nats ints
      rw [List.map_map]
      exact List.map_congr_left (fun z hz => by
        show Value.int .u8 ((z.toNat : Nat) : Int) = Value.int .u8 z
        rw [Int.toNat_of_nonneg (hb z hz).1])
    rw [e2]
    exact h4
  · obtain ⟨z, hz, rfl⟩ := List.mem_map.1 hx
    have := hb z hz
    omega
end Go.Sx
end
