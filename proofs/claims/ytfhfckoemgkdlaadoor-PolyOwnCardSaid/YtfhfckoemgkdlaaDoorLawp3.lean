/- The statements PolySays and PolyRing, walked. No condition but the errors' variables. -/
import Derived.Test.YtfhfckoemgkdlaaDoorLawp
namespace Go.Proofs.YtfhfckoemgkdlaaDoor
open Go.Sx Go.Fm
set_option maxRecDepth 100000
/-! ### How long -/
theorem pl_len (n : Nat) (f : Nat → Nat) : (pl n f).length ≤ n := by
  unfold pl
  rw [trim_length]
  simpa using tl_le ((List.range n).map f)
theorem mulP_le (m : Nat) (a b : List Nat) : (mulP m a b).length ≤ a.length + b.length := Nat.le_trans (pl_len _ _) (by omega)
theorem addP_le (a b : List Nat) : (addP a b).length ≤ max a.length b.length := pl_len _ _
theorem scaleP_le (m : Nat) (a : List Nat) (x : Nat) : (scaleP m a x).length ≤ a.length := pl_len _ _
theorem derP_le (a : List Nat) : (derP a).length ≤ a.length := Nat.le_trans (pl_len _ _) (by omega)
theorem quotP_le (m : Nat) (a b : List Nat) : (quotP m a b).length ≤ a.length + 1 := Nat.le_trans (pl_len _ _) (by omega)
theorem restP_le (m : Nat) (a b : List Nat) : (restP m a b).length ≤ a.length := pl_len _ _
theorem gcdP_le (m : Nat) : ∀ (k : Nat) (a b : List Nat), (gcdP m k a b).length ≤ max a.length b.length
  | 0, a, _ => Nat.le_max_left _ _
  | k + 1, a, b => by
    unfold gcdP
    split
    · exact Nat.le_max_left _ _
    · have h1 := gcdP_le m k b (restP m a b)
      have h2 := restP_le m a b
      omega
theorem monicP_le (m : Nat) (a : List Nat) : (monicP m a).length ≤ a.length := by
  unfold monicP
  split
  · exact Nat.zero_le _
  · exact scaleP_le _ _ _
theorem gcdE_le (m : Nat) (a b : List Nat) : (monicP m (gcdE m a b)).length ≤ max a.length b.length := Nat.le_trans (monicP_le _ _) (gcdP_le _ _ _ _)
theorem rootsP_len {m : Nat} (hm : Ok m) (a : List Nat) : (rootsP m a).length ≤ 16384 := by
  have := pow_le14 hm
  have := rootsN_len m a (2 ^ m)
  unfold rootsP
  split
  · exact Nat.zero_le _
  · omega
theorem trimLow_len (m : Nat) (l : List Int) : (trim (lowL m l)).length ≤ l.length := by
  rw [trim_length, ← lowL_len m l]
  exact tl_le _
theorem times_scale {m : Nat} (hm : Ok m) (l : List Int) (x : Int) : mulP m (trim (lowL m l)) (trim (lowL m [x])) = scaleP m (lowL m l) (lo m x) := by
  rw [show lowL m [x] = [lo m x] from rfl, mulP_unit hm (trimLow_tr m l) (lo_lt m x)]
  refine (scaleP_tr hm (trimLow_tr m l) _).ext (pl_tr (fun j => gm_lt hm (cf_lt (lowL_lt m l) (Nat.two_pow_pos m) j) _)) (fun j => ?_)
  rw [cf_scaleP, cf_scaleP, cf_trim]
theorem low_of {m : Nat} {a : List Nat} (h : ∀ x ∈ a, x < 2 ^ m) (x : Int) : evL m (lowL m (a.map Int.ofNat)) (lo m x) = evL m a (lo m x) := by rw [lowL_ofNat h]
theorem cori {a b : Nat} (h : a = b) : decide (((a : Nat) : Int) = ((b : Nat) : Int)) = true := by rw [h]; exact decide_eq_true rfl

theorem PolySays_z (a0 : Int) (A1 : Option Addr) (n1 c1 : Nat) (l1 : List Int) (A2 : Option Addr) (n2 c2 : Nat) (l2 : List Int) (a3 : Int) (e : Nat → Addr) (w : World) (hs1 : Has (sl 1 A1 n1 (ints .i64 l1)) w) (hn1 : n1 ≤ 9223372036854775807) (hs2 : Has (sl 1 A2 n2 (ints .i64 l2)) w) (hn2 : n2 ≤ 9223372036854775807) (hz : Er e w 1) (hl : Er e w 0) (h0 : (trim (lowL (mkm 6 a0) l2)).length = 0) : Spec1 Tryd.prog 17 [.int .i64 a0, .slice A1 n1 c1, .slice A2 n2 c2, .int .i64 a3] w (.bool true) := by
  have hm := mkm_ok (k := 6) (by omega) (by omega) a0
  have hla := ints_len hs1
  subst hla
  have hlb := ints_len hs2
  subst hlb
  refine spec_of Tryd.func17 rfl Tryd.ntmps17 rfl ?_
  refine CW.seq ?_
  refine CW.reg [0] rfl ?_   -- 0, law.go:38
  refine s_as 8 rfl rfl ?_
  refine SX.next ?_
  refine CW.seq ?_
  refine CW.reg [0, 1] rfl ?_   -- 1, law.go:39
  refine s_call1 21 rfl rfl rfl rfl (fun w hw => first4_spec w) (fun _ _ => trivial) ?_
  refine s_as 9 rfl rfl ?_
  refine SX.next ?_
  refine CW.seq ?_
  refine CW.reg [0, 1, 2, 3, 4, 5, 6] rfl ?_   -- 2, law.go:40
  refine s_mv 23 rfl rfl ?_
  refine s_call 24 rfl rfl rfl rfl (fun w hw => ring4_spec a0 w) (fun _ _ => trivial) (fun q0 _ => ?_)
  refine s_mv 22 rfl rfl ?_
  refine s_ext 25 rfl rfl rfl ?_
  refine s_ext 26 rfl rfl rfl ?_
  refine s_as 10 rfl rfl ?_
  refine s_as 11 rfl rfl ?_
  refine SX.next ?_
  refine CW.seq ?_
  refine CW.seq ?_
  refine CW.reg [0, 1, 2, 3, 4, 5, 6, 7, 8, 9, 10, 11, 12, 13, 14, 15] rfl ?_   -- 3, law.go:41
  refine s_mv 27 rfl rfl ?_
  refine s_eqPN 28 rfl rfl ?_
  refine s_mv 29 rfl rfl ?_
  refine s_mv 30 rfl rfl ?_
  refine s_len 31 rfl rfl ?_
  refine s_gt 32 rfl rfl rfl rfl ?_
  refine s_pickF 33 rfl rfl rfl ?_
  refine s_mv 34 rfl rfl ?_
  refine SX.bool 34 rfl (fun hb => ?_) (fun hb => ?_)
  · skip
    skip
    refine SX.skip rfl ?_
    refine SX.skip rfl ?_
    refine SX.skip rfl ?_
    refine s_pickT 38 rfl rfl rfl ?_
    refine s_mv 39 rfl rfl ?_
    refine SX.skip rfl ?_
    refine SX.skip rfl ?_
    refine s_pickT 42 rfl rfl rfl ?_
    refine SX.next ?_
    refine CW.condT rfl ?_
    refine CW.seq ?_
    refine CW.reg [0, 1, 2, 3, 4, 5] rfl ?_   -- 4, law.go:42
    refine s_mv 43 rfl rfl ?_
    refine s_mv 44 rfl rfl ?_
    refine s_mv 45 rfl rfl ?_
    refine s_nePN 46 rfl rfl ?_
    refine s_pickT 47 rfl rfl rfl ?_
    refine s_as 8 rfl rfl ?_
    refine SX.next ?_
    refine CW.ret ?_
    exact KN.ret (rs := [.tmp 8]) Tryd.results17 rfl (fun w hw => ⟨rfl, hw.nothing⟩)
  · skip
    have hp1 := hb
    refine s_mv 35 rfl rfl ?_
    refine s_len 36 rfl rfl ?_
    refine s_gt 37 rfl rfl rfl rfl ?_
    refine s_pickF 38 rfl rfl rfl ?_
    refine s_mv 39 rfl rfl ?_
    refine SX.bool 39 rfl (fun hb => ?_) (fun hb => ?_)
    · skip
      skip
      refine SX.skip rfl ?_
      refine SX.skip rfl ?_
      refine s_pickT 42 rfl rfl rfl ?_
      refine SX.next ?_
      refine CW.condT rfl ?_
      refine CW.seq ?_
      refine CW.reg [0, 1, 2, 3, 4, 5] rfl ?_   -- 4, law.go:42
      refine s_mv 43 rfl rfl ?_
      refine s_mv 44 rfl rfl ?_
      refine s_mv 45 rfl rfl ?_
      refine s_nePN 46 rfl rfl ?_
      refine s_pickT 47 rfl rfl rfl ?_
      refine s_as 8 rfl rfl ?_
      refine SX.next ?_
      refine CW.ret ?_
      exact KN.ret (rs := [.tmp 8]) Tryd.results17 rfl (fun w hw => ⟨rfl, hw.nothing⟩)
    · skip
      have hp1 := of_decide_eq_false hp1
      have hp2 := of_decide_eq_false hb
      have hx1 : l1.length ≤ 24 := by omega
      have hx2 : l2.length ≤ 24 := by omega
      have hT1 := trimLow_len (mkm 6 a0) l1
      have hT2 := trimLow_len (mkm 6 a0) l2
      have hR1 := trimLow_tr (mkm 6 a0) l1
      have hR2 := trimLow_tr (mkm 6 a0) l2
      have hL1 := lowL_len (mkm 6 a0) l1
      have hL2 := lowL_len (mkm 6 a0) l2
      have bMUL := mulP_le (mkm 6 a0) (trim (lowL (mkm 6 a0) l1)) (trim (lowL (mkm 6 a0) l2))
      have bMUL2 := mulP_le (mkm 6 a0) (trim (lowL (mkm 6 a0) l2)) (trim (lowL (mkm 6 a0) l1))
      have bADD := addP_le (lowL (mkm 6 a0) l1) (lowL (mkm 6 a0) l2)
      have bSC := fun x => scaleP_le (mkm 6 a0) (lowL (mkm 6 a0) l1) x
      have bDER := derP_le (lowL (mkm 6 a0) l1)
      have bGCD := gcdE_le (mkm 6 a0) (trim (lowL (mkm 6 a0) l1)) (trim (lowL (mkm 6 a0) l2))
      have bROOT := rootsP_len hm (trim (lowL (mkm 6 a0) l1))
      have bQU := quotP_le (mkm 6 a0) (trim (lowL (mkm 6 a0) l1)) (trim (lowL (mkm 6 a0) l2))
      have bRE := restP_le (mkm 6 a0) (trim (lowL (mkm 6 a0) l1)) (trim (lowL (mkm 6 a0) l2))
      refine s_mv 40 rfl rfl ?_
      refine s_not 41 rfl rfl ?_
      refine s_pickF 42 rfl rfl rfl ?_
      refine SX.next ?_
      refine CW.condF rfl ?_
      refine CW.skip ?_
      refine KN.code ?_
      refine CW.seq ?_
      refine CW.reg [0, 1, 2, 3, 4, 5, 6, 7, 8] rfl ?_   -- 5, law.go:44
      refine s_mv 49 rfl rfl ?_
      refine s_mv 50 rfl rfl ?_
      refine s_mv 51 rfl rfl ?_
      refine s_call 52 rfl rfl rfl rfl (fun w hw => by have := pmul_spec q0.1 q0.2 (mkm 6 a0) A1 l1.length c1 l1 A2 l2.length c2 l2 _ hm (ring_of (hw.has (i := 1) rfl) (hw.has (i := 0) rfl)) (hw.old hs1) (hw.old hs2) (by omega) (by omega) (by omega); exact this) (fun _ _ => trivial) (fun q52 hq52 => ?_)
      refine s_mv 48 rfl rfl ?_
      refine s_ext 53 rfl rfl rfl ?_
      refine s_ext 54 rfl rfl rfl ?_
      refine s_as 12 rfl rfl ?_
      refine s_as 13 rfl rfl ?_
      refine SX.next ?_
      refine CW.seq ?_
      refine CW.reg [0, 1, 2, 3] rfl ?_   -- 6, law.go:45
      refine s_mv 55 rfl rfl ?_
      refine s_mv 56 rfl rfl ?_
      refine s_call 57 rfl rfl rfl rfl (fun w hw => by have := rtrim_spec (mkm 6 a0) A1 l1.length c1 l1 _ hm (hw.old hs1) (by omega); exact this) (fun _ _ => trivial) (fun q57 hq57 => ?_)
      refine s_as 14 rfl rfl ?_
      refine SX.next ?_
      refine CW.seq ?_
      refine CW.reg [0, 1, 2, 3, 4, 5, 6, 7, 8, 9, 10, 11, 12, 13, 14, 15, 16, 17, 18, 19, 20, 21, 22, 23, 24, 25, 26, 27, 28, 29, 30, 31, 32, 33, 34, 35, 36, 37, 38, 39, 40, 41, 42, 43, 44, 45, 46, 47, 48, 49, 50, 51, 52, 53, 54, 55, 56, 57, 58, 59, 60, 61, 62, 63, 64, 65, 66, 67, 68, 69, 70, 71, 72, 73, 74, 75, 76, 77, 78, 79, 80, 81, 82, 83, 84, 85, 86, 87, 88, 89] rfl ?_   -- 7, law.go:46
      refine s_mv 58 rfl rfl ?_
      refine s_mv 59 rfl rfl ?_
      refine s_call 60 rfl rfl rfl rfl (fun w hw => by have := trim_spec q0.1 q0.2 (mkm 6 a0) A1 l1.length c1 l1 _ hm (ring_of (hw.has (i := 3) rfl) (hw.has (i := 2) rfl)) (hw.old hs1) (by omega); exact this) (fun _ _ => trivial) (fun q60 hq60 => ?_)
      refine s_mv 61 rfl rfl ?_
      refine s_call1 62 rfl rfl rfl rfl (v := .bool true) (fun w hw => by have := sameInts_spec q60.1 q57.1 (trim (lowL (mkm 6 a0) l1)).length q60.2 (trim (lowL (mkm 6 a0) l1)).length q57.2 ((trim (lowL (mkm 6 a0) l1)).map Int.ofNat) ((trim (lowL (mkm 6 a0) l1)).map Int.ofNat) _ (by rw [← nats_ints]; exact (hw.has (i := 0) rfl).of_own) (by rw [← nats_ints]; exact (hw.has (i := 1) rfl).of_own) (Nat.lt_of_le_of_lt (show (trim (lowL (mkm 6 a0) l1)).length ≤ 4294967296 from (by omega)) (by decide)); rw [decide_eq_true (rfl)] at this; exact this) (fun _ _ => trivial) ?_
      refine s_mv 63 rfl rfl ?_
      refine s_mv 64 rfl rfl ?_
      refine s_mv 65 rfl rfl ?_
      refine s_call1 66 rfl rfl rfl rfl (fun w hw => degree_spec q0.1 q0.2 (mkm 6 a0) A1 l1.length c1 l1 _ hm (ring_of (hw.has (i := 4) rfl) (hw.has (i := 3) rfl)) (hw.old hs1) (by omega)) (fun _ _ => trivial) ?_
      refine s_mv 67 rfl rfl ?_
      refine s_len 68 rfl rfl ?_
      refine s_sub 69 rfl rfl rfl (r := ((tl (lowL (mkm 6 a0) l1) : Nat) : Int) - 1) (by rw [trim_length] at hT1; rw [trim_length]; exact w64 (by omega)) ?_
      refine s_eq 70 rfl rfl rfl (decide_eq_true rfl) ?_
      refine s_pickT 71 rfl rfl rfl ?_
      refine s_mv 72 rfl rfl ?_
      refine s_mv 73 rfl rfl ?_
      refine s_mv 74 rfl rfl ?_
      refine s_mv 75 rfl rfl ?_
      refine s_call 76 rfl rfl rfl rfl (fun w hw => by have := padd_spec q0.1 q0.2 (mkm 6 a0) A1 l1.length c1 l1 A2 l2.length c2 l2 _ hm (ring_of (hw.has (i := 4) rfl) (hw.has (i := 3) rfl)) (hw.old hs1) (hw.old hs2) (by omega) (by omega); exact this) (fun _ _ => trivial) (fun q76 hq76 => ?_)
      refine s_mv 77 rfl rfl ?_
      refine s_mv 78 rfl rfl ?_
      refine s_mv 79 rfl rfl ?_
      refine s_call 80 rfl rfl rfl rfl (fun w hw => by have := radd_spec (mkm 6 a0) A1 l1.length c1 l1 A2 l2.length c2 l2 _ hm (hw.old hs1) (hw.old hs2) (by omega) (by omega); exact this) (fun _ _ => trivial) (fun q80 hq80 => ?_)
      refine s_call1 81 rfl rfl rfl rfl (v := .bool true) (fun w hw => by have := sameInts_spec q76.1 q80.1 (addP (lowL (mkm 6 a0) l1) (lowL (mkm 6 a0) l2)).length q76.2 (addP (lowL (mkm 6 a0) l1) (lowL (mkm 6 a0) l2)).length q80.2 ((addP (lowL (mkm 6 a0) l1) (lowL (mkm 6 a0) l2)).map Int.ofNat) ((addP (lowL (mkm 6 a0) l1) (lowL (mkm 6 a0) l2)).map Int.ofNat) _ (by rw [← nats_ints]; exact (hw.has (i := 1) rfl).of_own) (by rw [← nats_ints]; exact (hw.has (i := 0) rfl).of_own) (Nat.lt_of_le_of_lt (show (addP (lowL (mkm 6 a0) l1) (lowL (mkm 6 a0) l2)).length ≤ 4294967296 from (by omega)) (by decide)); rw [decide_eq_true (rfl)] at this; exact this) (fun _ _ => trivial) ?_
      refine s_pickT 82 rfl rfl rfl ?_
      refine s_mv 83 rfl rfl ?_
      refine s_mv 84 rfl rfl ?_
      refine s_mv 85 rfl rfl ?_
      refine s_mv 86 rfl rfl ?_
      refine s_call 87 rfl rfl rfl rfl (fun w hw => by have := scale_spec q0.1 q0.2 (mkm 6 a0) A1 l1.length c1 l1 a3 _ hm (ring_of (hw.has (i := 6) rfl) (hw.has (i := 5) rfl)) (hw.old hs1) (by omega); exact this) (fun _ _ => trivial) (fun q87 hq87 => ?_)
      refine s_mv 88 rfl rfl ?_
      refine s_mv 89 rfl rfl ?_
      refine s_mv 90 rfl rfl ?_
      refine s_bsl 91 rfl rfl (cells := #[.int .i64 a3]) (by kernel_rfl) rfl (fun _ _ => trivial) (fun b91 => ?_)
      refine s_call 92 rfl rfl rfl rfl (fun w hw => by have := rtimes_spec (mkm 6 a0) A1 l1.length c1 l1 (some ⟨b91, 0, none⟩) 1 1 [a3] _ hm (hw.old hs1) (Has.cong ((hw.has (i := 0) rfl).blk_sl (m := 1) rfl) rfl) (by omega) (by omega); rw [times_scale hm] at this; exact this) (fun _ _ => trivial) (fun q92 hq92 => ?_)
      refine s_call1 93 rfl rfl rfl rfl (v := .bool true) (fun w hw => by have := sameInts_spec q87.1 q92.1 (scaleP (mkm 6 a0) (lowL (mkm 6 a0) l1) (lo (mkm 6 a0) a3)).length q87.2 (scaleP (mkm 6 a0) (lowL (mkm 6 a0) l1) (lo (mkm 6 a0) a3)).length q92.2 ((scaleP (mkm 6 a0) (lowL (mkm 6 a0) l1) (lo (mkm 6 a0) a3)).map Int.ofNat) ((scaleP (mkm 6 a0) (lowL (mkm 6 a0) l1) (lo (mkm 6 a0) a3)).map Int.ofNat) _ (by rw [← nats_ints]; exact (hw.has (i := 2) rfl).of_own) (by rw [← nats_ints]; exact (hw.has (i := 0) rfl).of_own) (Nat.lt_of_le_of_lt (show (scaleP (mkm 6 a0) (lowL (mkm 6 a0) l1) (lo (mkm 6 a0) a3)).length ≤ 4294967296 from (by have := bSC (lo (mkm 6 a0) a3); omega)) (by decide)); rw [decide_eq_true (rfl)] at this; exact this) (fun _ _ => trivial) ?_
      refine s_pickT 94 rfl rfl rfl ?_
      refine s_mv 95 rfl rfl ?_
      refine s_mv 96 rfl rfl ?_
      refine s_eqNN 97 rfl rfl ?_
      refine s_pickT 98 rfl rfl rfl ?_
      refine s_mv 99 rfl rfl ?_
      refine s_mv 100 rfl rfl ?_
      refine s_mv 101 rfl rfl ?_
      refine s_mv 102 rfl rfl ?_
      refine s_mv 103 rfl rfl ?_
      refine s_call 104 rfl rfl rfl rfl (fun w hw => by have := rtimes_spec (mkm 6 a0) A1 l1.length c1 l1 A2 l2.length c2 l2 _ hm (hw.old hs1) (hw.old hs2) (by omega) (by omega); exact this) (fun _ _ => trivial) (fun q104 hq104 => ?_)
      refine s_call1 105 rfl rfl rfl rfl (v := .bool true) (fun w hw => by have := sameInts_spec q52.1 q104.1 (mulP (mkm 6 a0) (trim (lowL (mkm 6 a0) l1)) (trim (lowL (mkm 6 a0) l2))).length q52.2 (mulP (mkm 6 a0) (trim (lowL (mkm 6 a0) l1)) (trim (lowL (mkm 6 a0) l2))).length q104.2 ((mulP (mkm 6 a0) (trim (lowL (mkm 6 a0) l1)) (trim (lowL (mkm 6 a0) l2))).map Int.ofNat) ((mulP (mkm 6 a0) (trim (lowL (mkm 6 a0) l1)) (trim (lowL (mkm 6 a0) l2))).map Int.ofNat) _ (by rw [← nats_ints]; exact (hw.has (i := 8) rfl).of_own) (by rw [← nats_ints]; exact (hw.has (i := 0) rfl).of_own) (Nat.lt_of_le_of_lt (show (mulP (mkm 6 a0) (trim (lowL (mkm 6 a0) l1)) (trim (lowL (mkm 6 a0) l2))).length ≤ 4294967296 from (by omega)) (by decide)); rw [decide_eq_true (rfl)] at this; exact this) (fun _ _ => trivial) ?_
      refine s_pickT 106 rfl rfl rfl ?_
      refine s_mv 107 rfl rfl ?_
      refine s_mv 108 rfl rfl ?_
      refine s_mv 109 rfl rfl ?_
      refine s_mv 110 rfl rfl ?_
      refine s_call1 111 rfl rfl rfl rfl (fun w hw => peval_spec q0.1 q0.2 (mkm 6 a0) A1 l1.length c1 l1 a3 _ hm (ring_of (hw.has (i := 10) rfl) (hw.has (i := 9) rfl)) (hw.old hs1) (by omega)) (fun _ _ => trivial) ?_
      refine s_mv 112 rfl rfl ?_
      refine s_mv 113 rfl rfl ?_
      refine s_mv 114 rfl rfl ?_
      refine s_call1 115 rfl rfl rfl rfl (fun w hw => reval_spec (mkm 6 a0) A1 l1.length c1 l1 a3 _ hm (hw.old hs1) (by omega)) (fun _ _ => trivial) ?_
      refine s_eq 116 rfl rfl rfl (decide_eq_true rfl) ?_
      refine s_pickT 117 rfl rfl rfl ?_
      refine s_mv 118 rfl rfl ?_
      refine s_mv 119 rfl rfl ?_
      refine s_mv 120 rfl rfl ?_
      refine s_call 121 rfl rfl rfl rfl (fun w hw => by have := derive_spec q0.1 q0.2 (mkm 6 a0) A1 l1.length c1 l1 _ hm (ring_of (hw.has (i := 10) rfl) (hw.has (i := 9) rfl)) (hw.old hs1) (by omega); exact this) (fun _ _ => trivial) (fun q121 hq121 => ?_)
      refine s_mv 122 rfl rfl ?_
      refine s_mv 123 rfl rfl ?_
      refine s_call 124 rfl rfl rfl rfl (fun w hw => by have := rderive_spec (mkm 6 a0) A1 l1.length c1 l1 _ hm (hw.old hs1) (by omega); exact this) (fun _ _ => trivial) (fun q124 hq124 => ?_)
      refine s_call1 125 rfl rfl rfl rfl (v := .bool true) (fun w hw => by have := sameInts_spec q121.1 q124.1 (derP (lowL (mkm 6 a0) l1)).length q121.2 (derP (lowL (mkm 6 a0) l1)).length q124.2 ((derP (lowL (mkm 6 a0) l1)).map Int.ofNat) ((derP (lowL (mkm 6 a0) l1)).map Int.ofNat) _ (by rw [← nats_ints]; exact (hw.has (i := 1) rfl).of_own) (by rw [← nats_ints]; exact (hw.has (i := 0) rfl).of_own) (Nat.lt_of_le_of_lt (show (derP (lowL (mkm 6 a0) l1)).length ≤ 4294967296 from (by omega)) (by decide)); rw [decide_eq_true (rfl)] at this; exact this) (fun _ _ => trivial) ?_
      refine s_pickT 126 rfl rfl rfl ?_
      refine s_mv 127 rfl rfl ?_
      refine s_mv 128 rfl rfl ?_
      refine s_mv 129 rfl rfl ?_
      refine s_mv 130 rfl rfl ?_
      refine s_call 131 rfl rfl rfl rfl (fun w hw => by have := pgcd_spec q0.1 q0.2 (mkm 6 a0) A1 l1.length c1 l1 A2 l2.length c2 l2 _ hm (ring_of (hw.has (i := 12) rfl) (hw.has (i := 11) rfl)) (hw.old hs1) (hw.old hs2) (by omega) (by omega); exact this) (fun _ _ => trivial) (fun q131 hq131 => ?_)
      refine s_mv 132 rfl rfl ?_
      refine s_mv 133 rfl rfl ?_
      refine s_mv 134 rfl rfl ?_
      refine s_call 135 rfl rfl rfl rfl (fun w hw => by have := rgcd_spec (mkm 6 a0) A1 l1.length c1 l1 A2 l2.length c2 l2 _ hm (hw.old hs1) (hw.old hs2) (by omega) (by omega); exact this) (fun _ _ => trivial) (fun q135 hq135 => ?_)
      refine s_call1 136 rfl rfl rfl rfl (v := .bool true) (fun w hw => by have := sameInts_spec q131.1 q135.1 (monicP (mkm 6 a0) (gcdE (mkm 6 a0) (trim (lowL (mkm 6 a0) l1)) (trim (lowL (mkm 6 a0) l2)))).length q131.2 (monicP (mkm 6 a0) (gcdE (mkm 6 a0) (trim (lowL (mkm 6 a0) l1)) (trim (lowL (mkm 6 a0) l2)))).length q135.2 ((monicP (mkm 6 a0) (gcdE (mkm 6 a0) (trim (lowL (mkm 6 a0) l1)) (trim (lowL (mkm 6 a0) l2)))).map Int.ofNat) ((monicP (mkm 6 a0) (gcdE (mkm 6 a0) (trim (lowL (mkm 6 a0) l1)) (trim (lowL (mkm 6 a0) l2)))).map Int.ofNat) _ (by rw [← nats_ints]; exact (hw.has (i := 1) rfl).of_own) (by rw [← nats_ints]; exact (hw.has (i := 0) rfl).of_own) (Nat.lt_of_le_of_lt (show (monicP (mkm 6 a0) (gcdE (mkm 6 a0) (trim (lowL (mkm 6 a0) l1)) (trim (lowL (mkm 6 a0) l2)))).length ≤ 4294967296 from (by omega)) (by decide)); rw [decide_eq_true (rfl)] at this; exact this) (fun _ _ => trivial) ?_
      refine s_pickT 137 rfl rfl rfl ?_
      refine s_mv 138 rfl rfl ?_
      refine s_mv 139 rfl rfl ?_
      refine s_mv 140 rfl rfl ?_
      refine s_call 141 rfl rfl rfl rfl (fun w hw => by have := proots_spec q0.1 q0.2 (mkm 6 a0) A1 l1.length c1 l1 _ hm (ring_of (hw.has (i := 14) rfl) (hw.has (i := 13) rfl)) (hw.old hs1) (by omega); exact this) (fun _ _ => trivial) (fun q141 hq141 => ?_)
      refine s_mv 142 rfl rfl ?_
      refine s_mv 143 rfl rfl ?_
      refine s_call 144 rfl rfl rfl rfl (fun w hw => by have := rroots_spec (mkm 6 a0) A1 l1.length c1 l1 _ hm (hw.old hs1) (by omega); exact this) (fun _ _ => trivial) (fun q144 hq144 => ?_)
      refine s_call1 145 rfl rfl rfl rfl (v := .bool true) (fun w hw => by have := sameInts_spec q141.1 q144.1 (rootsP (mkm 6 a0) (trim (lowL (mkm 6 a0) l1))).length q141.2 (rootsP (mkm 6 a0) (trim (lowL (mkm 6 a0) l1))).length q144.2 ((rootsP (mkm 6 a0) (trim (lowL (mkm 6 a0) l1))).map Int.ofNat) ((rootsP (mkm 6 a0) (trim (lowL (mkm 6 a0) l1))).map Int.ofNat) _ (by rw [← nats_ints]; exact (hw.has (i := 1) rfl).of_own) (by rw [← nats_ints]; exact (hw.has (i := 0) rfl).of_own) (Nat.lt_of_le_of_lt (show (rootsP (mkm 6 a0) (trim (lowL (mkm 6 a0) l1))).length ≤ 4294967296 from (by omega)) (by decide)); rw [decide_eq_true (rfl)] at this; exact this) (fun _ _ => trivial) ?_
      refine s_pickT 146 rfl rfl rfl ?_
      refine s_as 15 rfl rfl ?_
      refine SX.next ?_
      refine CW.seq ?_
      refine CW.reg [0, 1, 2, 3, 4, 5, 6, 7, 8, 9, 10] rfl ?_   -- 8, law.go:47
      refine s_mv 148 rfl rfl ?_
      refine s_mv 149 rfl rfl ?_
      refine s_mv 150 rfl rfl ?_
      refine s_call1 151 rfl rfl rfl rfl (fun w hw => pdiv_zero q0.1 q0.2 (mkm 6 a0) A1 l1.length c1 l1 A2 l2.length c2 l2 e _ hm (ring_of (hw.has (i := 16) rfl) (hw.has (i := 15) rfl)) (hw.old hs1) (hw.old hs2) (by omega) (by omega) (hw.er hz) h0) (fun _ _ => trivial) ?_
      refine s_mv 147 rfl rfl ?_
      refine s_ext 152 rfl rfl rfl ?_
      refine s_ext 153 rfl rfl rfl ?_
      refine s_ext 154 rfl rfl rfl ?_
      refine s_as 16 rfl rfl ?_
      refine s_as 17 rfl rfl ?_
      refine s_as 18 rfl rfl ?_
      refine SX.next ?_
      refine CW.seq ?_
      refine CW.seq ?_
      refine CW.reg [0, 1, 2, 3, 4] rfl ?_   -- 9, law.go:48
      refine s_mv 155 rfl rfl ?_
      refine s_mv 156 rfl rfl ?_
      refine s_call 157 rfl rfl rfl rfl (fun w hw => by have := rtrim_spec (mkm 6 a0) A2 l2.length c2 l2 _ hm (hw.old hs2) (by omega); exact this) (fun _ _ => trivial) (fun q157 hq157 => ?_)
      refine s_len 158 rfl rfl ?_
      refine s_eq 159 rfl rfl rfl (decide_eq_true (by omega)) ?_
      refine SX.next ?_
      refine CW.condT rfl ?_
      refine CW.seq ?_
      refine CW.reg [0, 1, 2, 3, 4, 5, 6, 7, 8, 9, 10, 11, 12, 13, 14] rfl ?_   -- 10, law.go:49
      refine s_mv 160 rfl rfl ?_
      refine s_mv 161 rfl rfl ?_
      refine s_mv 162 rfl rfl ?_
      refine s_ld 163 rfl rfl (fun _ h => h.cell hz) ?_
      refine s_eqE 164 rfl rfl rfl ?_
      refine s_pickT 165 rfl rfl rfl ?_
      refine s_mv 166 rfl rfl ?_
      refine s_mv 167 rfl rfl ?_
      refine s_len 168 rfl rfl ?_
      refine s_mv 169 rfl rfl ?_
      refine s_len 170 rfl rfl ?_
      refine s_add 171 rfl rfl rfl (w64 (by omega)) ?_
      refine s_eq 172 rfl rfl rfl (decide_eq_true rfl) ?_
      refine s_pickT 173 rfl rfl rfl ?_
      refine s_as 8 rfl rfl ?_
      refine SX.next ?_
      refine CW.ret ?_
      exact KN.ret (rs := [.tmp 8]) Tryd.results17 rfl (fun w hw => ⟨rfl, hw.nothing⟩)

theorem PolySays_s (a0 : Int) (A1 : Option Addr) (n1 c1 : Nat) (l1 : List Int) (A2 : Option Addr) (n2 c2 : Nat) (l2 : List Int) (a3 : Int) (e : Nat → Addr) (w : World) (hs1 : Has (sl 1 A1 n1 (ints .i64 l1)) w) (hn1 : n1 ≤ 9223372036854775807) (hs2 : Has (sl 1 A2 n2 (ints .i64 l2)) w) (hn2 : n2 ≤ 9223372036854775807) (hz : Er e w 1) (hl : Er e w 0) (h0 : (trim (lowL (mkm 6 a0) l2)).length ≠ 0) : Spec1 Tryd.prog 17 [.int .i64 a0, .slice A1 n1 c1, .slice A2 n2 c2, .int .i64 a3] w (.bool true) := by
  have hm := mkm_ok (k := 6) (by omega) (by omega) a0
  have hla := ints_len hs1
  subst hla
  have hlb := ints_len hs2
  subst hlb
  refine spec_of Tryd.func17 rfl Tryd.ntmps17 rfl ?_
  refine CW.seq ?_
  refine CW.reg [0] rfl ?_   -- 0, law.go:38
  refine s_as 8 rfl rfl ?_
  refine SX.next ?_
  refine CW.seq ?_
  refine CW.reg [0, 1] rfl ?_   -- 1, law.go:39
  refine s_call1 21 rfl rfl rfl rfl (fun w hw => first4_spec w) (fun _ _ => trivial) ?_
  refine s_as 9 rfl rfl ?_
  refine SX.next ?_
  refine CW.seq ?_
  refine CW.reg [0, 1, 2, 3, 4, 5, 6] rfl ?_   -- 2, law.go:40
  refine s_mv 23 rfl rfl ?_
  refine s_call 24 rfl rfl rfl rfl (fun w hw => ring4_spec a0 w) (fun _ _ => trivial) (fun q0 _ => ?_)
  refine s_mv 22 rfl rfl ?_
  refine s_ext 25 rfl rfl rfl ?_
  refine s_ext 26 rfl rfl rfl ?_
  refine s_as 10 rfl rfl ?_
  refine s_as 11 rfl rfl ?_
  refine SX.next ?_
  refine CW.seq ?_
  refine CW.seq ?_
  refine CW.reg [0, 1, 2, 3, 4, 5, 6, 7, 8, 9, 10, 11, 12, 13, 14, 15] rfl ?_   -- 3, law.go:41
  refine s_mv 27 rfl rfl ?_
  refine s_eqPN 28 rfl rfl ?_
  refine s_mv 29 rfl rfl ?_
  refine s_mv 30 rfl rfl ?_
  refine s_len 31 rfl rfl ?_
  refine s_gt 32 rfl rfl rfl rfl ?_
  refine s_pickF 33 rfl rfl rfl ?_
  refine s_mv 34 rfl rfl ?_
  refine SX.bool 34 rfl (fun hb => ?_) (fun hb => ?_)
  · skip
    skip
    refine SX.skip rfl ?_
    refine SX.skip rfl ?_
    refine SX.skip rfl ?_
    refine s_pickT 38 rfl rfl rfl ?_
    refine s_mv 39 rfl rfl ?_
    refine SX.skip rfl ?_
    refine SX.skip rfl ?_
    refine s_pickT 42 rfl rfl rfl ?_
    refine SX.next ?_
    refine CW.condT rfl ?_
    refine CW.seq ?_
    refine CW.reg [0, 1, 2, 3, 4, 5] rfl ?_   -- 4, law.go:42
    refine s_mv 43 rfl rfl ?_
    refine s_mv 44 rfl rfl ?_
    refine s_mv 45 rfl rfl ?_
    refine s_nePN 46 rfl rfl ?_
    refine s_pickT 47 rfl rfl rfl ?_
    refine s_as 8 rfl rfl ?_
    refine SX.next ?_
    refine CW.ret ?_
    exact KN.ret (rs := [.tmp 8]) Tryd.results17 rfl (fun w hw => ⟨rfl, hw.nothing⟩)
  · skip
    have hp1 := hb
    refine s_mv 35 rfl rfl ?_
    refine s_len 36 rfl rfl ?_
    refine s_gt 37 rfl rfl rfl rfl ?_
    refine s_pickF 38 rfl rfl rfl ?_
    refine s_mv 39 rfl rfl ?_
    refine SX.bool 39 rfl (fun hb => ?_) (fun hb => ?_)
    · skip
      skip
      refine SX.skip rfl ?_
      refine SX.skip rfl ?_
      refine s_pickT 42 rfl rfl rfl ?_
      refine SX.next ?_
      refine CW.condT rfl ?_
      refine CW.seq ?_
      refine CW.reg [0, 1, 2, 3, 4, 5] rfl ?_   -- 4, law.go:42
      refine s_mv 43 rfl rfl ?_
      refine s_mv 44 rfl rfl ?_
      refine s_mv 45 rfl rfl ?_
      refine s_nePN 46 rfl rfl ?_
      refine s_pickT 47 rfl rfl rfl ?_
      refine s_as 8 rfl rfl ?_
      refine SX.next ?_
      refine CW.ret ?_
      exact KN.ret (rs := [.tmp 8]) Tryd.results17 rfl (fun w hw => ⟨rfl, hw.nothing⟩)
    · skip
      have hp1 := of_decide_eq_false hp1
      have hp2 := of_decide_eq_false hb
      have hx1 : l1.length ≤ 24 := by omega
      have hx2 : l2.length ≤ 24 := by omega
      have hT1 := trimLow_len (mkm 6 a0) l1
      have hT2 := trimLow_len (mkm 6 a0) l2
      have hR1 := trimLow_tr (mkm 6 a0) l1
      have hR2 := trimLow_tr (mkm 6 a0) l2
      have hL1 := lowL_len (mkm 6 a0) l1
      have hL2 := lowL_len (mkm 6 a0) l2
      have bMUL := mulP_le (mkm 6 a0) (trim (lowL (mkm 6 a0) l1)) (trim (lowL (mkm 6 a0) l2))
      have bMUL2 := mulP_le (mkm 6 a0) (trim (lowL (mkm 6 a0) l2)) (trim (lowL (mkm 6 a0) l1))
      have bADD := addP_le (lowL (mkm 6 a0) l1) (lowL (mkm 6 a0) l2)
      have bSC := fun x => scaleP_le (mkm 6 a0) (lowL (mkm 6 a0) l1) x
      have bDER := derP_le (lowL (mkm 6 a0) l1)
      have bGCD := gcdE_le (mkm 6 a0) (trim (lowL (mkm 6 a0) l1)) (trim (lowL (mkm 6 a0) l2))
      have bROOT := rootsP_len hm (trim (lowL (mkm 6 a0) l1))
      have bQU := quotP_le (mkm 6 a0) (trim (lowL (mkm 6 a0) l1)) (trim (lowL (mkm 6 a0) l2))
      have bRE := restP_le (mkm 6 a0) (trim (lowL (mkm 6 a0) l1)) (trim (lowL (mkm 6 a0) l2))
      refine s_mv 40 rfl rfl ?_
      refine s_not 41 rfl rfl ?_
      refine s_pickF 42 rfl rfl rfl ?_
      refine SX.next ?_
      refine CW.condF rfl ?_
      refine CW.skip ?_
      refine KN.code ?_
      refine CW.seq ?_
      refine CW.reg [0, 1, 2, 3, 4, 5, 6, 7, 8] rfl ?_   -- 5, law.go:44
      refine s_mv 49 rfl rfl ?_
      refine s_mv 50 rfl rfl ?_
      refine s_mv 51 rfl rfl ?_
      refine s_call 52 rfl rfl rfl rfl (fun w hw => by have := pmul_spec q0.1 q0.2 (mkm 6 a0) A1 l1.length c1 l1 A2 l2.length c2 l2 _ hm (ring_of (hw.has (i := 1) rfl) (hw.has (i := 0) rfl)) (hw.old hs1) (hw.old hs2) (by omega) (by omega) (by omega); exact this) (fun _ _ => trivial) (fun q52 hq52 => ?_)
      refine s_mv 48 rfl rfl ?_
      refine s_ext 53 rfl rfl rfl ?_
      refine s_ext 54 rfl rfl rfl ?_
      refine s_as 12 rfl rfl ?_
      refine s_as 13 rfl rfl ?_
      refine SX.next ?_
      refine CW.seq ?_
      refine CW.reg [0, 1, 2, 3] rfl ?_   -- 6, law.go:45
      refine s_mv 55 rfl rfl ?_
      refine s_mv 56 rfl rfl ?_
      refine s_call 57 rfl rfl rfl rfl (fun w hw => by have := rtrim_spec (mkm 6 a0) A1 l1.length c1 l1 _ hm (hw.old hs1) (by omega); exact this) (fun _ _ => trivial) (fun q57 hq57 => ?_)
      refine s_as 14 rfl rfl ?_
      refine SX.next ?_
      refine CW.seq ?_
      refine CW.reg [0, 1, 2, 3, 4, 5, 6, 7, 8, 9, 10, 11, 12, 13, 14, 15, 16, 17, 18, 19, 20, 21, 22, 23, 24, 25, 26, 27, 28, 29, 30, 31, 32, 33, 34, 35, 36, 37, 38, 39, 40, 41, 42, 43, 44, 45, 46, 47, 48, 49, 50, 51, 52, 53, 54, 55, 56, 57, 58, 59, 60, 61, 62, 63, 64, 65, 66, 67, 68, 69, 70, 71, 72, 73, 74, 75, 76, 77, 78, 79, 80, 81, 82, 83, 84, 85, 86, 87, 88, 89] rfl ?_   -- 7, law.go:46
      refine s_mv 58 rfl rfl ?_
      refine s_mv 59 rfl rfl ?_
      refine s_call 60 rfl rfl rfl rfl (fun w hw => by have := trim_spec q0.1 q0.2 (mkm 6 a0) A1 l1.length c1 l1 _ hm (ring_of (hw.has (i := 3) rfl) (hw.has (i := 2) rfl)) (hw.old hs1) (by omega); exact this) (fun _ _ => trivial) (fun q60 hq60 => ?_)
      refine s_mv 61 rfl rfl ?_
      refine s_call1 62 rfl rfl rfl rfl (v := .bool true) (fun w hw => by have := sameInts_spec q60.1 q57.1 (trim (lowL (mkm 6 a0) l1)).length q60.2 (trim (lowL (mkm 6 a0) l1)).length q57.2 ((trim (lowL (mkm 6 a0) l1)).map Int.ofNat) ((trim (lowL (mkm 6 a0) l1)).map Int.ofNat) _ (by rw [← nats_ints]; exact (hw.has (i := 0) rfl).of_own) (by rw [← nats_ints]; exact (hw.has (i := 1) rfl).of_own) (Nat.lt_of_le_of_lt (show (trim (lowL (mkm 6 a0) l1)).length ≤ 4294967296 from (by omega)) (by decide)); rw [decide_eq_true (rfl)] at this; exact this) (fun _ _ => trivial) ?_
      refine s_mv 63 rfl rfl ?_
      refine s_mv 64 rfl rfl ?_
      refine s_mv 65 rfl rfl ?_
      refine s_call1 66 rfl rfl rfl rfl (fun w hw => degree_spec q0.1 q0.2 (mkm 6 a0) A1 l1.length c1 l1 _ hm (ring_of (hw.has (i := 4) rfl) (hw.has (i := 3) rfl)) (hw.old hs1) (by omega)) (fun _ _ => trivial) ?_
      refine s_mv 67 rfl rfl ?_
      refine s_len 68 rfl rfl ?_
      refine s_sub 69 rfl rfl rfl (r := ((tl (lowL (mkm 6 a0) l1) : Nat) : Int) - 1) (by rw [trim_length] at hT1; rw [trim_length]; exact w64 (by omega)) ?_
      refine s_eq 70 rfl rfl rfl (decide_eq_true rfl) ?_
      refine s_pickT 71 rfl rfl rfl ?_
      refine s_mv 72 rfl rfl ?_
      refine s_mv 73 rfl rfl ?_
      refine s_mv 74 rfl rfl ?_
      refine s_mv 75 rfl rfl ?_
      refine s_call 76 rfl rfl rfl rfl (fun w hw => by have := padd_spec q0.1 q0.2 (mkm 6 a0) A1 l1.length c1 l1 A2 l2.length c2 l2 _ hm (ring_of (hw.has (i := 4) rfl) (hw.has (i := 3) rfl)) (hw.old hs1) (hw.old hs2) (by omega) (by omega); exact this) (fun _ _ => trivial) (fun q76 hq76 => ?_)
      refine s_mv 77 rfl rfl ?_
      refine s_mv 78 rfl rfl ?_
      refine s_mv 79 rfl rfl ?_
      refine s_call 80 rfl rfl rfl rfl (fun w hw => by have := radd_spec (mkm 6 a0) A1 l1.length c1 l1 A2 l2.length c2 l2 _ hm (hw.old hs1) (hw.old hs2) (by omega) (by omega); exact this) (fun _ _ => trivial) (fun q80 hq80 => ?_)
      refine s_call1 81 rfl rfl rfl rfl (v := .bool true) (fun w hw => by have := sameInts_spec q76.1 q80.1 (addP (lowL (mkm 6 a0) l1) (lowL (mkm 6 a0) l2)).length q76.2 (addP (lowL (mkm 6 a0) l1) (lowL (mkm 6 a0) l2)).length q80.2 ((addP (lowL (mkm 6 a0) l1) (lowL (mkm 6 a0) l2)).map Int.ofNat) ((addP (lowL (mkm 6 a0) l1) (lowL (mkm 6 a0) l2)).map Int.ofNat) _ (by rw [← nats_ints]; exact (hw.has (i := 1) rfl).of_own) (by rw [← nats_ints]; exact (hw.has (i := 0) rfl).of_own) (Nat.lt_of_le_of_lt (show (addP (lowL (mkm 6 a0) l1) (lowL (mkm 6 a0) l2)).length ≤ 4294967296 from (by omega)) (by decide)); rw [decide_eq_true (rfl)] at this; exact this) (fun _ _ => trivial) ?_
      refine s_pickT 82 rfl rfl rfl ?_
      refine s_mv 83 rfl rfl ?_
      refine s_mv 84 rfl rfl ?_
      refine s_mv 85 rfl rfl ?_
      refine s_mv 86 rfl rfl ?_
      refine s_call 87 rfl rfl rfl rfl (fun w hw => by have := scale_spec q0.1 q0.2 (mkm 6 a0) A1 l1.length c1 l1 a3 _ hm (ring_of (hw.has (i := 6) rfl) (hw.has (i := 5) rfl)) (hw.old hs1) (by omega); exact this) (fun _ _ => trivial) (fun q87 hq87 => ?_)
      refine s_mv 88 rfl rfl ?_
      refine s_mv 89 rfl rfl ?_
      refine s_mv 90 rfl rfl ?_
      refine s_bsl 91 rfl rfl (cells := #[.int .i64 a3]) (by kernel_rfl) rfl (fun _ _ => trivial) (fun b91 => ?_)
      refine s_call 92 rfl rfl rfl rfl (fun w hw => by have := rtimes_spec (mkm 6 a0) A1 l1.length c1 l1 (some ⟨b91, 0, none⟩) 1 1 [a3] _ hm (hw.old hs1) (Has.cong ((hw.has (i := 0) rfl).blk_sl (m := 1) rfl) rfl) (by omega) (by omega); rw [times_scale hm] at this; exact this) (fun _ _ => trivial) (fun q92 hq92 => ?_)
      refine s_call1 93 rfl rfl rfl rfl (v := .bool true) (fun w hw => by have := sameInts_spec q87.1 q92.1 (scaleP (mkm 6 a0) (lowL (mkm 6 a0) l1) (lo (mkm 6 a0) a3)).length q87.2 (scaleP (mkm 6 a0) (lowL (mkm 6 a0) l1) (lo (mkm 6 a0) a3)).length q92.2 ((scaleP (mkm 6 a0) (lowL (mkm 6 a0) l1) (lo (mkm 6 a0) a3)).map Int.ofNat) ((scaleP (mkm 6 a0) (lowL (mkm 6 a0) l1) (lo (mkm 6 a0) a3)).map Int.ofNat) _ (by rw [← nats_ints]; exact (hw.has (i := 2) rfl).of_own) (by rw [← nats_ints]; exact (hw.has (i := 0) rfl).of_own) (Nat.lt_of_le_of_lt (show (scaleP (mkm 6 a0) (lowL (mkm 6 a0) l1) (lo (mkm 6 a0) a3)).length ≤ 4294967296 from (by have := bSC (lo (mkm 6 a0) a3); omega)) (by decide)); rw [decide_eq_true (rfl)] at this; exact this) (fun _ _ => trivial) ?_
      refine s_pickT 94 rfl rfl rfl ?_
      refine s_mv 95 rfl rfl ?_
      refine s_mv 96 rfl rfl ?_
      refine s_eqNN 97 rfl rfl ?_
      refine s_pickT 98 rfl rfl rfl ?_
      refine s_mv 99 rfl rfl ?_
      refine s_mv 100 rfl rfl ?_
      refine s_mv 101 rfl rfl ?_
      refine s_mv 102 rfl rfl ?_
      refine s_mv 103 rfl rfl ?_
      refine s_call 104 rfl rfl rfl rfl (fun w hw => by have := rtimes_spec (mkm 6 a0) A1 l1.length c1 l1 A2 l2.length c2 l2 _ hm (hw.old hs1) (hw.old hs2) (by omega) (by omega); exact this) (fun _ _ => trivial) (fun q104 hq104 => ?_)
      refine s_call1 105 rfl rfl rfl rfl (v := .bool true) (fun w hw => by have := sameInts_spec q52.1 q104.1 (mulP (mkm 6 a0) (trim (lowL (mkm 6 a0) l1)) (trim (lowL (mkm 6 a0) l2))).length q52.2 (mulP (mkm 6 a0) (trim (lowL (mkm 6 a0) l1)) (trim (lowL (mkm 6 a0) l2))).length q104.2 ((mulP (mkm 6 a0) (trim (lowL (mkm 6 a0) l1)) (trim (lowL (mkm 6 a0) l2))).map Int.ofNat) ((mulP (mkm 6 a0) (trim (lowL (mkm 6 a0) l1)) (trim (lowL (mkm 6 a0) l2))).map Int.ofNat) _ (by rw [← nats_ints]; exact (hw.has (i := 8) rfl).of_own) (by rw [← nats_ints]; exact (hw.has (i := 0) rfl).of_own) (Nat.lt_of_le_of_lt (show (mulP (mkm 6 a0) (trim (lowL (mkm 6 a0) l1)) (trim (lowL (mkm 6 a0) l2))).length ≤ 4294967296 from (by omega)) (by decide)); rw [decide_eq_true (rfl)] at this; exact this) (fun _ _ => trivial) ?_
      refine s_pickT 106 rfl rfl rfl ?_
      refine s_mv 107 rfl rfl ?_
      refine s_mv 108 rfl rfl ?_
      refine s_mv 109 rfl rfl ?_
      refine s_mv 110 rfl rfl ?_
      refine s_call1 111 rfl rfl rfl rfl (fun w hw => peval_spec q0.1 q0.2 (mkm 6 a0) A1 l1.length c1 l1 a3 _ hm (ring_of (hw.has (i := 10) rfl) (hw.has (i := 9) rfl)) (hw.old hs1) (by omega)) (fun _ _ => trivial) ?_
      refine s_mv 112 rfl rfl ?_
      refine s_mv 113 rfl rfl ?_
      refine s_mv 114 rfl rfl ?_
      refine s_call1 115 rfl rfl rfl rfl (fun w hw => reval_spec (mkm 6 a0) A1 l1.length c1 l1 a3 _ hm (hw.old hs1) (by omega)) (fun _ _ => trivial) ?_
      refine s_eq 116 rfl rfl rfl (decide_eq_true rfl) ?_
      refine s_pickT 117 rfl rfl rfl ?_
      refine s_mv 118 rfl rfl ?_
      refine s_mv 119 rfl rfl ?_
      refine s_mv 120 rfl rfl ?_
      refine s_call 121 rfl rfl rfl rfl (fun w hw => by have := derive_spec q0.1 q0.2 (mkm 6 a0) A1 l1.length c1 l1 _ hm (ring_of (hw.has (i := 10) rfl) (hw.has (i := 9) rfl)) (hw.old hs1) (by omega); exact this) (fun _ _ => trivial) (fun q121 hq121 => ?_)
      refine s_mv 122 rfl rfl ?_
      refine s_mv 123 rfl rfl ?_
      refine s_call 124 rfl rfl rfl rfl (fun w hw => by have := rderive_spec (mkm 6 a0) A1 l1.length c1 l1 _ hm (hw.old hs1) (by omega); exact this) (fun _ _ => trivial) (fun q124 hq124 => ?_)
      refine s_call1 125 rfl rfl rfl rfl (v := .bool true) (fun w hw => by have := sameInts_spec q121.1 q124.1 (derP (lowL (mkm 6 a0) l1)).length q121.2 (derP (lowL (mkm 6 a0) l1)).length q124.2 ((derP (lowL (mkm 6 a0) l1)).map Int.ofNat) ((derP (lowL (mkm 6 a0) l1)).map Int.ofNat) _ (by rw [← nats_ints]; exact (hw.has (i := 1) rfl).of_own) (by rw [← nats_ints]; exact (hw.has (i := 0) rfl).of_own) (Nat.lt_of_le_of_lt (show (derP (lowL (mkm 6 a0) l1)).length ≤ 4294967296 from (by omega)) (by decide)); rw [decide_eq_true (rfl)] at this; exact this) (fun _ _ => trivial) ?_
      refine s_pickT 126 rfl rfl rfl ?_
      refine s_mv 127 rfl rfl ?_
      refine s_mv 128 rfl rfl ?_
      refine s_mv 129 rfl rfl ?_
      refine s_mv 130 rfl rfl ?_
      refine s_call 131 rfl rfl rfl rfl (fun w hw => by have := pgcd_spec q0.1 q0.2 (mkm 6 a0) A1 l1.length c1 l1 A2 l2.length c2 l2 _ hm (ring_of (hw.has (i := 12) rfl) (hw.has (i := 11) rfl)) (hw.old hs1) (hw.old hs2) (by omega) (by omega); exact this) (fun _ _ => trivial) (fun q131 hq131 => ?_)
      refine s_mv 132 rfl rfl ?_
      refine s_mv 133 rfl rfl ?_
      refine s_mv 134 rfl rfl ?_
      refine s_call 135 rfl rfl rfl rfl (fun w hw => by have := rgcd_spec (mkm 6 a0) A1 l1.length c1 l1 A2 l2.length c2 l2 _ hm (hw.old hs1) (hw.old hs2) (by omega) (by omega); exact this) (fun _ _ => trivial) (fun q135 hq135 => ?_)
      refine s_call1 136 rfl rfl rfl rfl (v := .bool true) (fun w hw => by have := sameInts_spec q131.1 q135.1 (monicP (mkm 6 a0) (gcdE (mkm 6 a0) (trim (lowL (mkm 6 a0) l1)) (trim (lowL (mkm 6 a0) l2)))).length q131.2 (monicP (mkm 6 a0) (gcdE (mkm 6 a0) (trim (lowL (mkm 6 a0) l1)) (trim (lowL (mkm 6 a0) l2)))).length q135.2 ((monicP (mkm 6 a0) (gcdE (mkm 6 a0) (trim (lowL (mkm 6 a0) l1)) (trim (lowL (mkm 6 a0) l2)))).map Int.ofNat) ((monicP (mkm 6 a0) (gcdE (mkm 6 a0) (trim (lowL (mkm 6 a0) l1)) (trim (lowL (mkm 6 a0) l2)))).map Int.ofNat) _ (by rw [← nats_ints]; exact (hw.has (i := 1) rfl).of_own) (by rw [← nats_ints]; exact (hw.has (i := 0) rfl).of_own) (Nat.lt_of_le_of_lt (show (monicP (mkm 6 a0) (gcdE (mkm 6 a0) (trim (lowL (mkm 6 a0) l1)) (trim (lowL (mkm 6 a0) l2)))).length ≤ 4294967296 from (by omega)) (by decide)); rw [decide_eq_true (rfl)] at this; exact this) (fun _ _ => trivial) ?_
      refine s_pickT 137 rfl rfl rfl ?_
      refine s_mv 138 rfl rfl ?_
      refine s_mv 139 rfl rfl ?_
      refine s_mv 140 rfl rfl ?_
      refine s_call 141 rfl rfl rfl rfl (fun w hw => by have := proots_spec q0.1 q0.2 (mkm 6 a0) A1 l1.length c1 l1 _ hm (ring_of (hw.has (i := 14) rfl) (hw.has (i := 13) rfl)) (hw.old hs1) (by omega); exact this) (fun _ _ => trivial) (fun q141 hq141 => ?_)
      refine s_mv 142 rfl rfl ?_
      refine s_mv 143 rfl rfl ?_
      refine s_call 144 rfl rfl rfl rfl (fun w hw => by have := rroots_spec (mkm 6 a0) A1 l1.length c1 l1 _ hm (hw.old hs1) (by omega); exact this) (fun _ _ => trivial) (fun q144 hq144 => ?_)
      refine s_call1 145 rfl rfl rfl rfl (v := .bool true) (fun w hw => by have := sameInts_spec q141.1 q144.1 (rootsP (mkm 6 a0) (trim (lowL (mkm 6 a0) l1))).length q141.2 (rootsP (mkm 6 a0) (trim (lowL (mkm 6 a0) l1))).length q144.2 ((rootsP (mkm 6 a0) (trim (lowL (mkm 6 a0) l1))).map Int.ofNat) ((rootsP (mkm 6 a0) (trim (lowL (mkm 6 a0) l1))).map Int.ofNat) _ (by rw [← nats_ints]; exact (hw.has (i := 1) rfl).of_own) (by rw [← nats_ints]; exact (hw.has (i := 0) rfl).of_own) (Nat.lt_of_le_of_lt (show (rootsP (mkm 6 a0) (trim (lowL (mkm 6 a0) l1))).length ≤ 4294967296 from (by omega)) (by decide)); rw [decide_eq_true (rfl)] at this; exact this) (fun _ _ => trivial) ?_
      refine s_pickT 146 rfl rfl rfl ?_
      refine s_as 15 rfl rfl ?_
      refine SX.next ?_
      refine CW.seq ?_
      refine CW.reg [0, 1, 2, 3, 4, 5, 6, 7, 8, 9, 10] rfl ?_   -- 8, law.go:47
      refine s_mv 148 rfl rfl ?_
      refine s_mv 149 rfl rfl ?_
      refine s_mv 150 rfl rfl ?_
      refine s_call 151 rfl rfl rfl rfl (fun w hw => by have := pdiv_spec q0.1 q0.2 (mkm 6 a0) A1 l1.length c1 l1 A2 l2.length c2 l2 _ hm (ring_of (hw.has (i := 16) rfl) (hw.has (i := 15) rfl)) (hw.old hs1) (hw.old hs2) (by omega) (by omega) h0; exact this) (fun _ _ => trivial) (fun q151 hq151 => ?_)
      refine s_mv 147 rfl rfl ?_
      refine s_ext 152 rfl rfl rfl ?_
      refine s_ext 153 rfl rfl rfl ?_
      refine s_ext 154 rfl rfl rfl ?_
      refine s_as 16 rfl rfl ?_
      refine s_as 17 rfl rfl ?_
      refine s_as 18 rfl rfl ?_
      refine SX.next ?_
      refine CW.seq ?_
      refine CW.seq ?_
      refine CW.reg [0, 1, 2, 3, 4] rfl ?_   -- 9, law.go:48
      refine s_mv 155 rfl rfl ?_
      refine s_mv 156 rfl rfl ?_
      refine s_call 157 rfl rfl rfl rfl (fun w hw => by have := rtrim_spec (mkm 6 a0) A2 l2.length c2 l2 _ hm (hw.old hs2) (by omega); exact this) (fun _ _ => trivial) (fun q157 hq157 => ?_)
      refine s_len 158 rfl rfl ?_
      refine s_eq 159 rfl rfl rfl (decide_eq_false (by omega)) ?_
      refine SX.next ?_
      refine CW.condF rfl ?_
      refine CW.skip ?_
      refine KN.code ?_
      refine CW.seq ?_
      refine CW.reg [0, 1, 2, 3, 4, 5, 6, 7, 8] rfl ?_   -- 11, law.go:51
      refine s_mv 175 rfl rfl ?_
      refine s_mv 176 rfl rfl ?_
      refine s_mv 177 rfl rfl ?_
      refine s_call 178 rfl rfl rfl rfl (fun w hw => by have := rdiv_spec (mkm 6 a0) A1 l1.length c1 l1 A2 l2.length c2 l2 _ hm (hw.old hs1) (hw.old hs2) (by omega) (by omega) h0; exact this) (fun _ _ => trivial) (fun q178 hq178 => ?_)
      refine s_mv 174 rfl rfl ?_
      refine s_ext 179 rfl rfl rfl ?_
      refine s_ext 180 rfl rfl rfl ?_
      refine s_as 19 rfl rfl ?_
      refine s_as 20 rfl rfl ?_
      refine SX.next ?_
      refine CW.seq ?_
      refine CW.reg [0, 1, 2, 3, 4, 5, 6, 7, 8, 9, 10, 11, 12, 13, 14, 15] rfl ?_   -- 12, law.go:52
      refine s_mv 181 rfl rfl ?_
      refine s_mv 182 rfl rfl ?_
      refine s_mv 183 rfl rfl ?_
      refine s_eqNN 184 rfl rfl ?_
      refine s_pickT 185 rfl rfl rfl ?_
      refine s_mv 186 rfl rfl ?_
      refine s_mv 187 rfl rfl ?_
      refine s_mv 188 rfl rfl ?_
      refine s_call1 189 rfl rfl rfl rfl (v := .bool true) (fun w hw => by have := sameInts_spec q151.1.1 q178.1.1 (quotP (mkm 6 a0) (trim (lowL (mkm 6 a0) l1)) (trim (lowL (mkm 6 a0) l2))).length q151.1.2 (quotP (mkm 6 a0) (trim (lowL (mkm 6 a0) l1)) (trim (lowL (mkm 6 a0) l2))).length q178.1.2 ((quotP (mkm 6 a0) (trim (lowL (mkm 6 a0) l1)) (trim (lowL (mkm 6 a0) l2))).map Int.ofNat) ((quotP (mkm 6 a0) (trim (lowL (mkm 6 a0) l1)) (trim (lowL (mkm 6 a0) l2))).map Int.ofNat) _ (by rw [← nats_ints]; exact (hw.has (i := 4) rfl).of_own) (by rw [← nats_ints]; exact (hw.has (i := 0) rfl).of_own) (Nat.lt_of_le_of_lt (show (quotP (mkm 6 a0) (trim (lowL (mkm 6 a0) l1)) (trim (lowL (mkm 6 a0) l2))).length ≤ 4294967296 from (by omega)) (by decide)); rw [decide_eq_true (rfl)] at this; exact this) (fun _ _ => trivial) ?_
      refine s_pickT 190 rfl rfl rfl ?_
      refine s_mv 191 rfl rfl ?_
      refine s_mv 192 rfl rfl ?_
      refine s_mv 193 rfl rfl ?_
      refine s_call1 194 rfl rfl rfl rfl (v := .bool true) (fun w hw => by have := sameInts_spec q151.2.1 q178.2.1 (restP (mkm 6 a0) (trim (lowL (mkm 6 a0) l1)) (trim (lowL (mkm 6 a0) l2))).length q151.2.2 (restP (mkm 6 a0) (trim (lowL (mkm 6 a0) l1)) (trim (lowL (mkm 6 a0) l2))).length q178.2.2 ((restP (mkm 6 a0) (trim (lowL (mkm 6 a0) l1)) (trim (lowL (mkm 6 a0) l2))).map Int.ofNat) ((restP (mkm 6 a0) (trim (lowL (mkm 6 a0) l1)) (trim (lowL (mkm 6 a0) l2))).map Int.ofNat) _ (by rw [← nats_ints]; exact (hw.has (i := 3) rfl).of_own) (by rw [← nats_ints]; exact (hw.has (i := 1) rfl).of_own) (Nat.lt_of_le_of_lt (show (restP (mkm 6 a0) (trim (lowL (mkm 6 a0) l1)) (trim (lowL (mkm 6 a0) l2))).length ≤ 4294967296 from (by omega)) (by decide)); rw [decide_eq_true (rfl)] at this; exact this) (fun _ _ => trivial) ?_
      refine s_pickT 195 rfl rfl rfl ?_
      refine s_as 8 rfl rfl ?_
      refine SX.next ?_
      refine CW.ret ?_
      exact KN.ret (rs := [.tmp 8]) Tryd.results17 rfl (fun w hw => ⟨rfl, hw.nothing⟩)

theorem walk_PolySays (a0 : Int) (A1 : Option Addr) (n1 c1 : Nat) (l1 : List Int) (A2 : Option Addr) (n2 c2 : Nat) (l2 : List Int) (a3 : Int) (e : Nat → Addr) (w : World) (hs1 : Has (sl 1 A1 n1 (ints .i64 l1)) w) (hn1 : n1 ≤ 9223372036854775807) (hs2 : Has (sl 1 A2 n2 (ints .i64 l2)) w) (hn2 : n2 ≤ 9223372036854775807) (hz : Er e w 1) (hl : Er e w 0) : Spec1 Tryd.prog 17 [.int .i64 a0, .slice A1 n1 c1, .slice A2 n2 c2, .int .i64 a3] w (.bool true) := by
  by_cases h : (trim (lowL (mkm 6 a0) l2)).length = 0
  · exact PolySays_z a0 A1 n1 c1 l1 A2 n2 c2 l2 a3 e w hs1 hn1 hs2 hn2 hz hl h
  · exact PolySays_s a0 A1 n1 c1 l1 A2 n2 c2 l2 a3 e w hs1 hn1 hs2 hn2 hz hl h

theorem ev_add {m : Nat} (hm : Ok m) (l l2 : List Int) (x : Int) : evL m (lowL m ((addP (lowL m l) (lowL m l2)).map Int.ofNat)) (lo m x) = evL m (lowL m l) (lo m x) ^^^ evL m (lowL m l2) (lo m x) := by
  rw [lowL_ofNat (a := addP (lowL m l) (lowL m l2)) (pl_tr (fun j => xor_lt (cf_lt (lowL_lt m l) (Nat.two_pow_pos m) j) (cf_lt (lowL_lt m l2) (Nat.two_pow_pos m) j))).lt, evL_add hm (lowL_lt m l) (lowL_lt m l2)]
theorem ev_mul {m : Nat} (hm : Ok m) (l l2 : List Int) (x : Int) : evL m (lowL m ((mulP m (trim (lowL m l)) (trim (lowL m l2))).map Int.ofNat)) (lo m x) = gm m (evL m (lowL m l) (lo m x)) (evL m (lowL m l2) (lo m x)) := by
  rw [lowL_ofNat (mulP_tr hm (trimLow_tr m l) (trimLow_tr m l2)).lt, evL_mul hm (trimLow_lt m l) (trimLow_lt m l2) _ (lo_lt m x), evL_trim, evL_trim]
/-- What a greatest divisor leaves: nothing. -/
theorem gcd_rest {m : Nat} (hm : Ok m) {a b : List Nat} (ha : Tr m a) (hb : Tr m b) (h0 : b.length ≠ 0) : (monicP m (gcdE m a b)).length ≠ 0 ∧ restP m a (monicP m (gcdE m a b)) = [] ∧ restP m b (monicP m (gcdE m a b)) = [] ∧ cf (monicP m (gcdE m a b)) ((monicP m (gcdE m a b)).length - 1) = 1 := by
  have hg := gcdE_tr hm ha hb
  have hd := gcdE_dvd hm ha hb
  have hg0 : (gcdE m a b).length ≠ 0 := fun h => by
    obtain ⟨q, _, h2⟩ := hd.2
    rw [List.eq_nil_of_length_eq_zero h, mulP_nil_r] at h2
    rw [← h2] at h0
    exact h0 rfl
  have hl := monicP_len hm hg
  have hG := monicP_tr hm hg
  refine ⟨by omega, rest_of_dvd hm ha hG (by omega) (monicP_dvd hm hg hd.1), rest_of_dvd hm hb hG (by omega) (monicP_dvd hm hg hd.2), ?_⟩
  rw [hl]
  exact monicP_top hm hg hg0

theorem PolyRing_z (a0 : Int) (A1 : Option Addr) (n1 c1 : Nat) (l1 : List Int) (A2 : Option Addr) (n2 c2 : Nat) (l2 : List Int) (a3 : Int) (e : Nat → Addr) (w : World) (hs1 : Has (sl 1 A1 n1 (ints .i64 l1)) w) (hn1 : n1 ≤ 9223372036854775807) (hs2 : Has (sl 1 A2 n2 (ints .i64 l2)) w) (hn2 : n2 ≤ 9223372036854775807) (hz : Er e w 1) (hl : Er e w 0) (h0 : (trim (lowL (mkm 6 a0) l2)).length = 0) : Spec1 Tryd.prog 18 [.int .i64 a0, .slice A1 n1 c1, .slice A2 n2 c2, .int .i64 a3] w (.bool true) := by
  have hm := mkm_ok (k := 6) (by omega) (by omega) a0
  have hla := ints_len hs1
  subst hla
  have hlb := ints_len hs2
  subst hlb
  refine spec_of Tryd.func18 rfl Tryd.ntmps18 rfl ?_
  refine CW.seq ?_
  refine CW.reg [0] rfl ?_   -- 0, law.go:90
  refine s_as 8 rfl rfl ?_
  refine SX.next ?_
  refine CW.seq ?_
  refine CW.reg [0, 1] rfl ?_   -- 1, law.go:91
  refine s_call1 30 rfl rfl rfl rfl (fun w hw => first4_spec w) (fun _ _ => trivial) ?_
  refine s_as 9 rfl rfl ?_
  refine SX.next ?_
  refine CW.seq ?_
  refine CW.reg [0, 1, 2, 3, 4, 5, 6] rfl ?_   -- 2, law.go:92
  refine s_mv 32 rfl rfl ?_
  refine s_call 33 rfl rfl rfl rfl (fun w hw => ring4_spec a0 w) (fun _ _ => trivial) (fun q0 _ => ?_)
  refine s_mv 31 rfl rfl ?_
  refine s_ext 34 rfl rfl rfl ?_
  refine s_ext 35 rfl rfl rfl ?_
  refine s_as 10 rfl rfl ?_
  refine s_as 11 rfl rfl ?_
  refine SX.next ?_
  refine CW.seq ?_
  refine CW.seq ?_
  refine CW.reg [0, 1, 2, 3, 4, 5, 6, 7, 8, 9, 10, 11, 12, 13, 14, 15] rfl ?_   -- 3, law.go:93
  refine s_mv 36 rfl rfl ?_
  refine s_eqPN 37 rfl rfl ?_
  refine s_mv 38 rfl rfl ?_
  refine s_mv 39 rfl rfl ?_
  refine s_len 40 rfl rfl ?_
  refine s_gt 41 rfl rfl rfl rfl ?_
  refine s_pickF 42 rfl rfl rfl ?_
  refine s_mv 43 rfl rfl ?_
  refine SX.bool 43 rfl (fun hb => ?_) (fun hb => ?_)
  · skip
    skip
    refine SX.skip rfl ?_
    refine SX.skip rfl ?_
    refine SX.skip rfl ?_
    refine s_pickT 47 rfl rfl rfl ?_
    refine s_mv 48 rfl rfl ?_
    refine SX.skip rfl ?_
    refine SX.skip rfl ?_
    refine s_pickT 51 rfl rfl rfl ?_
    refine SX.next ?_
    refine CW.condT rfl ?_
    refine CW.seq ?_
    refine CW.reg [0, 1, 2, 3, 4, 5] rfl ?_   -- 4, law.go:94
    refine s_mv 52 rfl rfl ?_
    refine s_mv 53 rfl rfl ?_
    refine s_mv 54 rfl rfl ?_
    refine s_nePN 55 rfl rfl ?_
    refine s_pickT 56 rfl rfl rfl ?_
    refine s_as 8 rfl rfl ?_
    refine SX.next ?_
    refine CW.ret ?_
    exact KN.ret (rs := [.tmp 8]) Tryd.results18 rfl (fun w hw => ⟨rfl, hw.nothing⟩)
  · skip
    have hp1 := hb
    refine s_mv 44 rfl rfl ?_
    refine s_len 45 rfl rfl ?_
    refine s_gt 46 rfl rfl rfl rfl ?_
    refine s_pickF 47 rfl rfl rfl ?_
    refine s_mv 48 rfl rfl ?_
    refine SX.bool 48 rfl (fun hb => ?_) (fun hb => ?_)
    · skip
      skip
      refine SX.skip rfl ?_
      refine SX.skip rfl ?_
      refine s_pickT 51 rfl rfl rfl ?_
      refine SX.next ?_
      refine CW.condT rfl ?_
      refine CW.seq ?_
      refine CW.reg [0, 1, 2, 3, 4, 5] rfl ?_   -- 4, law.go:94
      refine s_mv 52 rfl rfl ?_
      refine s_mv 53 rfl rfl ?_
      refine s_mv 54 rfl rfl ?_
      refine s_nePN 55 rfl rfl ?_
      refine s_pickT 56 rfl rfl rfl ?_
      refine s_as 8 rfl rfl ?_
      refine SX.next ?_
      refine CW.ret ?_
      exact KN.ret (rs := [.tmp 8]) Tryd.results18 rfl (fun w hw => ⟨rfl, hw.nothing⟩)
    · skip
      have hp1 := of_decide_eq_false hp1
      have hp2 := of_decide_eq_false hb
      have hx1 : l1.length ≤ 24 := by omega
      have hx2 : l2.length ≤ 24 := by omega
      have hT1 := trimLow_len (mkm 6 a0) l1
      have hT2 := trimLow_len (mkm 6 a0) l2
      have hR1 := trimLow_tr (mkm 6 a0) l1
      have hR2 := trimLow_tr (mkm 6 a0) l2
      have hL1 := lowL_len (mkm 6 a0) l1
      have hL2 := lowL_len (mkm 6 a0) l2
      have bMUL := mulP_le (mkm 6 a0) (trim (lowL (mkm 6 a0) l1)) (trim (lowL (mkm 6 a0) l2))
      have bMUL2 := mulP_le (mkm 6 a0) (trim (lowL (mkm 6 a0) l2)) (trim (lowL (mkm 6 a0) l1))
      have bADD := addP_le (lowL (mkm 6 a0) l1) (lowL (mkm 6 a0) l2)
      have bSC := fun x => scaleP_le (mkm 6 a0) (lowL (mkm 6 a0) l1) x
      have bDER := derP_le (lowL (mkm 6 a0) l1)
      have bGCD := gcdE_le (mkm 6 a0) (trim (lowL (mkm 6 a0) l1)) (trim (lowL (mkm 6 a0) l2))
      have bROOT := rootsP_len hm (trim (lowL (mkm 6 a0) l1))
      have bQU := quotP_le (mkm 6 a0) (trim (lowL (mkm 6 a0) l1)) (trim (lowL (mkm 6 a0) l2))
      have bRE := restP_le (mkm 6 a0) (trim (lowL (mkm 6 a0) l1)) (trim (lowL (mkm 6 a0) l2))
      refine s_mv 49 rfl rfl ?_
      refine s_not 50 rfl rfl ?_
      refine s_pickF 51 rfl rfl rfl ?_
      refine SX.next ?_
      refine CW.condF rfl ?_
      refine CW.skip ?_
      refine KN.code ?_
      refine CW.seq ?_
      refine CW.reg [0, 1, 2, 3, 4, 5, 6, 7, 8] rfl ?_   -- 5, law.go:96
      refine s_mv 58 rfl rfl ?_
      refine s_mv 59 rfl rfl ?_
      refine s_mv 60 rfl rfl ?_
      refine s_call 61 rfl rfl rfl rfl (fun w hw => by have := pmul_spec q0.1 q0.2 (mkm 6 a0) A1 l1.length c1 l1 A2 l2.length c2 l2 _ hm (ring_of (hw.has (i := 1) rfl) (hw.has (i := 0) rfl)) (hw.old hs1) (hw.old hs2) (by omega) (by omega) (by omega); exact this) (fun _ _ => trivial) (fun q61 hq61 => ?_)
      refine s_mv 57 rfl rfl ?_
      refine s_ext 62 rfl rfl rfl ?_
      refine s_ext 63 rfl rfl rfl ?_
      refine s_as 12 rfl rfl ?_
      refine s_as 13 rfl rfl ?_
      refine SX.next ?_
      refine CW.seq ?_
      refine CW.reg [0, 1, 2, 3, 4, 5, 6, 7, 8] rfl ?_   -- 6, law.go:97
      refine s_mv 65 rfl rfl ?_
      refine s_mv 66 rfl rfl ?_
      refine s_mv 67 rfl rfl ?_
      refine s_call 68 rfl rfl rfl rfl (fun w hw => by have := pmul_spec q0.1 q0.2 (mkm 6 a0) A2 l2.length c2 l2 A1 l1.length c1 l1 _ hm (ring_of (hw.has (i := 2) rfl) (hw.has (i := 1) rfl)) (hw.old hs2) (hw.old hs1) (by omega) (by omega) (by omega); exact this) (fun _ _ => trivial) (fun q68 hq68 => ?_)
      refine s_mv 64 rfl rfl ?_
      refine s_ext 69 rfl rfl rfl ?_
      refine s_ext 70 rfl rfl rfl ?_
      refine s_as 14 rfl rfl ?_
      refine s_as 15 rfl rfl ?_
      refine SX.next ?_
      refine CW.seq ?_
      refine CW.reg [0, 1, 2, 3, 4, 5, 6, 7, 8, 9, 10, 11, 12, 13, 14, 15, 16, 17] rfl ?_   -- 7, law.go:98
      refine s_mv 71 rfl rfl ?_
      refine s_mv 72 rfl rfl ?_
      refine s_mv 73 rfl rfl ?_
      refine s_mv 74 rfl rfl ?_
      refine s_call 75 rfl rfl rfl rfl (fun w hw => by have := padd_spec q0.1 q0.2 (mkm 6 a0) A1 l1.length c1 l1 A2 l2.length c2 l2 _ hm (ring_of (hw.has (i := 3) rfl) (hw.has (i := 2) rfl)) (hw.old hs1) (hw.old hs2) (by omega) (by omega); exact this) (fun _ _ => trivial) (fun q75 hq75 => ?_)
      refine s_mv 76 rfl rfl ?_
      refine s_call1 77 rfl rfl rfl rfl (v := .int .i64 (evL (mkm 6 a0) (lowL (mkm 6 a0) l1) (lo (mkm 6 a0) a3) ^^^ evL (mkm 6 a0) (lowL (mkm 6 a0) l2) (lo (mkm 6 a0) a3) : Nat)) (fun w hw => by have := peval_spec q0.1 q0.2 (mkm 6 a0) q75.1 (addP (lowL (mkm 6 a0) l1) (lowL (mkm 6 a0) l2)).length q75.2 ((addP (lowL (mkm 6 a0) l1) (lowL (mkm 6 a0) l2)).map Int.ofNat) a3 _ hm (ring_of (hw.has (i := 4) rfl) (hw.has (i := 3) rfl)) (by rw [← nats_ints]; exact (hw.has (i := 0) rfl).of_own) (by omega); rw [ev_add hm] at this; exact this) (fun _ _ => trivial) ?_
      refine s_mv 78 rfl rfl ?_
      refine s_mv 79 rfl rfl ?_
      refine s_mv 80 rfl rfl ?_
      refine s_call1 81 rfl rfl rfl rfl (v := .int .i64 (evL (mkm 6 a0) (lowL (mkm 6 a0) l1) (lo (mkm 6 a0) a3) : Nat)) (fun w hw => by have := peval_spec q0.1 q0.2 (mkm 6 a0) A1 l1.length c1 l1 a3 _ hm (ring_of (hw.has (i := 4) rfl) (hw.has (i := 3) rfl)) (hw.old hs1) (by omega); exact this) (fun _ _ => trivial) ?_
      refine s_mv 82 rfl rfl ?_
      refine s_mv 83 rfl rfl ?_
      refine s_mv 84 rfl rfl ?_
      refine s_call1 85 rfl rfl rfl rfl (v := .int .i64 (evL (mkm 6 a0) (lowL (mkm 6 a0) l2) (lo (mkm 6 a0) a3) : Nat)) (fun w hw => by have := peval_spec q0.1 q0.2 (mkm 6 a0) A2 l2.length c2 l2 a3 _ hm (ring_of (hw.has (i := 4) rfl) (hw.has (i := 3) rfl)) (hw.old hs2) (by omega); exact this) (fun _ _ => trivial) ?_
      refine s_bit 86 rfl rfl rfl rfl (r := ((evL (mkm 6 a0) (lowL (mkm 6 a0) l1) (lo (mkm 6 a0) a3) ^^^ evL (mkm 6 a0) (lowL (mkm 6 a0) l2) (lo (mkm 6 a0) a3) : Nat) : Int)) (ibit_xor_nat (pow63 hm (evL_lt hm _ (lowL_lt _ _))) (pow63 hm (evL_lt hm _ (lowL_lt _ _)))) ?_
      refine s_eq 87 rfl rfl rfl (decide_eq_true rfl) ?_
      refine s_as 16 rfl rfl ?_
      refine SX.next ?_
      refine CW.seq ?_
      refine CW.reg [0, 1, 2, 3, 4, 5, 6, 7, 8, 9, 10, 11, 12, 13, 14, 15] rfl ?_   -- 8, law.go:99
      refine s_mv 88 rfl rfl ?_
      refine s_mv 89 rfl rfl ?_
      refine s_mv 90 rfl rfl ?_
      refine s_call1 91 rfl rfl rfl rfl (v := .int .i64 (gm (mkm 6 a0) (evL (mkm 6 a0) (lowL (mkm 6 a0) l1) (lo (mkm 6 a0) a3)) (evL (mkm 6 a0) (lowL (mkm 6 a0) l2) (lo (mkm 6 a0) a3)) : Nat)) (fun w hw => by have := peval_spec q0.1 q0.2 (mkm 6 a0) q61.1 (mulP (mkm 6 a0) (trim (lowL (mkm 6 a0) l1)) (trim (lowL (mkm 6 a0) l2))).length q61.2 ((mulP (mkm 6 a0) (trim (lowL (mkm 6 a0) l1)) (trim (lowL (mkm 6 a0) l2))).map Int.ofNat) a3 _ hm (ring_of (hw.has (i := 4) rfl) (hw.has (i := 3) rfl)) (by rw [← nats_ints]; exact (hw.has (i := 2) rfl).of_own) (by omega); rw [ev_mul hm] at this; exact this) (fun _ _ => trivial) ?_
      refine s_mv 92 rfl rfl ?_
      refine s_mv 93 rfl rfl ?_
      refine s_mv 94 rfl rfl ?_
      refine s_mv 95 rfl rfl ?_
      refine s_call1 96 rfl rfl rfl rfl (v := .int .i64 (evL (mkm 6 a0) (lowL (mkm 6 a0) l1) (lo (mkm 6 a0) a3) : Nat)) (fun w hw => by have := peval_spec q0.1 q0.2 (mkm 6 a0) A1 l1.length c1 l1 a3 _ hm (ring_of (hw.has (i := 4) rfl) (hw.has (i := 3) rfl)) (hw.old hs1) (by omega); exact this) (fun _ _ => trivial) ?_
      refine s_mv 97 rfl rfl ?_
      refine s_mv 98 rfl rfl ?_
      refine s_mv 99 rfl rfl ?_
      refine s_call1 100 rfl rfl rfl rfl (v := .int .i64 (evL (mkm 6 a0) (lowL (mkm 6 a0) l2) (lo (mkm 6 a0) a3) : Nat)) (fun w hw => by have := peval_spec q0.1 q0.2 (mkm 6 a0) A2 l2.length c2 l2 a3 _ hm (ring_of (hw.has (i := 4) rfl) (hw.has (i := 3) rfl)) (hw.old hs2) (by omega); exact this) (fun _ _ => trivial) ?_
      refine s_call1 101 rfl rfl rfl rfl (fun w hw => rmulN hm (evL_lt hm _ (lowL_lt _ _)) (evL_lt hm _ (lowL_lt _ _))) (fun _ _ => trivial) ?_
      refine s_eq 102 rfl rfl rfl (decide_eq_true rfl) ?_
      refine s_as 17 rfl rfl ?_
      refine SX.next ?_
      refine CW.seq ?_
      refine CW.seq ?_
      refine CW.reg [0, 1, 2, 3, 4, 5, 6, 7, 8, 9, 10, 11, 12, 13, 14, 15, 16, 17, 18, 19, 20, 21, 22, 23, 24, 25, 26] rfl ?_   -- 9, law.go:100
      refine s_mv 103 rfl rfl ?_
      refine s_neNN 104 rfl rfl ?_
      refine s_mv 105 rfl rfl ?_
      refine s_mv 106 rfl rfl ?_
      refine s_mv 107 rfl rfl ?_
      refine s_call1 108 rfl rfl rfl rfl (v := .bool true) (fun w hw => by have := sameInts_spec q61.1 q68.1 (mulP (mkm 6 a0) (trim (lowL (mkm 6 a0) l1)) (trim (lowL (mkm 6 a0) l2))).length q61.2 (mulP (mkm 6 a0) (trim (lowL (mkm 6 a0) l2)) (trim (lowL (mkm 6 a0) l1))).length q68.2 ((mulP (mkm 6 a0) (trim (lowL (mkm 6 a0) l1)) (trim (lowL (mkm 6 a0) l2))).map Int.ofNat) ((mulP (mkm 6 a0) (trim (lowL (mkm 6 a0) l2)) (trim (lowL (mkm 6 a0) l1))).map Int.ofNat) _ (by rw [← nats_ints]; exact (hw.has (i := 2) rfl).of_own) (by rw [← nats_ints]; exact (hw.has (i := 1) rfl).of_own) (Nat.lt_of_le_of_lt (show (mulP (mkm 6 a0) (trim (lowL (mkm 6 a0) l1)) (trim (lowL (mkm 6 a0) l2))).length ≤ 4294967296 from (by omega)) (by decide)); rw [decide_eq_true (congrArg (List.map Int.ofNat) (mulP_comm hm hR1 hR2))] at this; exact this) (fun _ _ => trivial) ?_
      refine s_not 109 rfl rfl ?_
      refine s_pickF 110 rfl rfl rfl ?_
      refine s_mv 111 rfl rfl ?_
      refine s_mv 112 rfl rfl ?_
      refine s_not 113 rfl rfl ?_
      refine s_pickF 114 rfl rfl rfl ?_
      refine s_mv 115 rfl rfl ?_
      refine s_mv 116 rfl rfl ?_
      refine s_not 117 rfl rfl ?_
      refine s_pickF 118 rfl rfl rfl ?_
      refine s_mv 119 rfl rfl ?_
      refine s_mv 120 rfl rfl ?_
      refine s_mv 121 rfl rfl ?_
      refine s_call 122 rfl rfl rfl rfl (fun w hw => by have := proots_spec q0.1 q0.2 (mkm 6 a0) A1 l1.length c1 l1 _ hm (ring_of (hw.has (i := 4) rfl) (hw.has (i := 3) rfl)) (hw.old hs1) (by omega); exact this) (fun _ _ => trivial) (fun q122 hq122 => ?_)
      refine s_len 123 rfl rfl ?_
      refine s_mv 124 rfl rfl ?_
      refine s_mv 125 rfl rfl ?_
      refine s_call1 126 rfl rfl rfl rfl (v := .int .i64 (((trim (lowL (mkm 6 a0) l1)).length : Nat) - 1)) (fun w hw => by have := degree_spec q0.1 q0.2 (mkm 6 a0) A1 l1.length c1 l1 _ hm (ring_of (hw.has (i := 5) rfl) (hw.has (i := 4) rfl)) (hw.old hs1) (by omega); rw [← trim_length] at this; exact this) (fun _ _ => trivial) ?_
      refine s_max 127 rfl rfl rfl (r := (((trim (lowL (mkm 6 a0) l1)).length - 1 : Nat) : Int)) (by split <;> omega) ?_
      refine s_gt 128 rfl rfl rfl (decide_eq_false (by have := rootsP_le hm hR1; omega)) ?_
      refine s_pickF 129 rfl rfl rfl ?_
      refine SX.next ?_
      refine CW.condF rfl ?_
      refine CW.skip ?_
      refine KN.code ?_
      refine CW.seq ?_
      refine CW.seq ?_
      refine CW.reg [0, 1, 2, 3] rfl ?_   -- 11, law.go:103
      refine s_mv 130 rfl rfl ?_
      refine s_mv 131 rfl rfl ?_
      refine s_call1 132 rfl rfl rfl rfl (v := .int .i64 (((trim (lowL (mkm 6 a0) l2)).length : Nat) - 1)) (fun w hw => by have := degree_spec q0.1 q0.2 (mkm 6 a0) A2 l2.length c2 l2 _ hm (ring_of (hw.has (i := 5) rfl) (hw.has (i := 4) rfl)) (hw.old hs2) (by omega); rw [← trim_length] at this; exact this) (fun _ _ => trivial) ?_
      refine s_lt 133 rfl rfl rfl (decide_eq_true (by omega)) ?_
      refine SX.next ?_
      refine CW.condT rfl ?_
      refine CW.seq ?_
      refine CW.reg [0] rfl ?_   -- 12, law.go:104
      refine s_as 8 rfl rfl ?_
      refine SX.next ?_
      refine CW.ret ?_
      exact KN.ret (rs := [.tmp 8]) Tryd.results18 rfl (fun w hw => ⟨rfl, hw.nothing⟩)

theorem PolyRing_s (a0 : Int) (A1 : Option Addr) (n1 c1 : Nat) (l1 : List Int) (A2 : Option Addr) (n2 c2 : Nat) (l2 : List Int) (a3 : Int) (e : Nat → Addr) (w : World) (hs1 : Has (sl 1 A1 n1 (ints .i64 l1)) w) (hn1 : n1 ≤ 9223372036854775807) (hs2 : Has (sl 1 A2 n2 (ints .i64 l2)) w) (hn2 : n2 ≤ 9223372036854775807) (hz : Er e w 1) (hl : Er e w 0) (h0 : (trim (lowL (mkm 6 a0) l2)).length ≠ 0) : Spec1 Tryd.prog 18 [.int .i64 a0, .slice A1 n1 c1, .slice A2 n2 c2, .int .i64 a3] w (.bool true) := by
  have hm := mkm_ok (k := 6) (by omega) (by omega) a0
  have hla := ints_len hs1
  subst hla
  have hlb := ints_len hs2
  subst hlb
  refine spec_of Tryd.func18 rfl Tryd.ntmps18 rfl ?_
  refine CW.seq ?_
  refine CW.reg [0] rfl ?_   -- 0, law.go:90
  refine s_as 8 rfl rfl ?_
  refine SX.next ?_
  refine CW.seq ?_
  refine CW.reg [0, 1] rfl ?_   -- 1, law.go:91
  refine s_call1 30 rfl rfl rfl rfl (fun w hw => first4_spec w) (fun _ _ => trivial) ?_
  refine s_as 9 rfl rfl ?_
  refine SX.next ?_
  refine CW.seq ?_
  refine CW.reg [0, 1, 2, 3, 4, 5, 6] rfl ?_   -- 2, law.go:92
  refine s_mv 32 rfl rfl ?_
  refine s_call 33 rfl rfl rfl rfl (fun w hw => ring4_spec a0 w) (fun _ _ => trivial) (fun q0 _ => ?_)
  refine s_mv 31 rfl rfl ?_
  refine s_ext 34 rfl rfl rfl ?_
  refine s_ext 35 rfl rfl rfl ?_
  refine s_as 10 rfl rfl ?_
  refine s_as 11 rfl rfl ?_
  refine SX.next ?_
  refine CW.seq ?_
  refine CW.seq ?_
  refine CW.reg [0, 1, 2, 3, 4, 5, 6, 7, 8, 9, 10, 11, 12, 13, 14, 15] rfl ?_   -- 3, law.go:93
  refine s_mv 36 rfl rfl ?_
  refine s_eqPN 37 rfl rfl ?_
  refine s_mv 38 rfl rfl ?_
  refine s_mv 39 rfl rfl ?_
  refine s_len 40 rfl rfl ?_
  refine s_gt 41 rfl rfl rfl rfl ?_
  refine s_pickF 42 rfl rfl rfl ?_
  refine s_mv 43 rfl rfl ?_
  refine SX.bool 43 rfl (fun hb => ?_) (fun hb => ?_)
  · skip
    skip
    refine SX.skip rfl ?_
    refine SX.skip rfl ?_
    refine SX.skip rfl ?_
    refine s_pickT 47 rfl rfl rfl ?_
    refine s_mv 48 rfl rfl ?_
    refine SX.skip rfl ?_
    refine SX.skip rfl ?_
    refine s_pickT 51 rfl rfl rfl ?_
    refine SX.next ?_
    refine CW.condT rfl ?_
    refine CW.seq ?_
    refine CW.reg [0, 1, 2, 3, 4, 5] rfl ?_   -- 4, law.go:94
    refine s_mv 52 rfl rfl ?_
    refine s_mv 53 rfl rfl ?_
    refine s_mv 54 rfl rfl ?_
    refine s_nePN 55 rfl rfl ?_
    refine s_pickT 56 rfl rfl rfl ?_
    refine s_as 8 rfl rfl ?_
    refine SX.next ?_
    refine CW.ret ?_
    exact KN.ret (rs := [.tmp 8]) Tryd.results18 rfl (fun w hw => ⟨rfl, hw.nothing⟩)
  · skip
    have hp1 := hb
    refine s_mv 44 rfl rfl ?_
    refine s_len 45 rfl rfl ?_
    refine s_gt 46 rfl rfl rfl rfl ?_
    refine s_pickF 47 rfl rfl rfl ?_
    refine s_mv 48 rfl rfl ?_
    refine SX.bool 48 rfl (fun hb => ?_) (fun hb => ?_)
    · skip
      skip
      refine SX.skip rfl ?_
      refine SX.skip rfl ?_
      refine s_pickT 51 rfl rfl rfl ?_
      refine SX.next ?_
      refine CW.condT rfl ?_
      refine CW.seq ?_
      refine CW.reg [0, 1, 2, 3, 4, 5] rfl ?_   -- 4, law.go:94
      refine s_mv 52 rfl rfl ?_
      refine s_mv 53 rfl rfl ?_
      refine s_mv 54 rfl rfl ?_
      refine s_nePN 55 rfl rfl ?_
      refine s_pickT 56 rfl rfl rfl ?_
      refine s_as 8 rfl rfl ?_
      refine SX.next ?_
      refine CW.ret ?_
      exact KN.ret (rs := [.tmp 8]) Tryd.results18 rfl (fun w hw => ⟨rfl, hw.nothing⟩)
    · skip
      have hp1 := of_decide_eq_false hp1
      have hp2 := of_decide_eq_false hb
      have hx1 : l1.length ≤ 24 := by omega
      have hx2 : l2.length ≤ 24 := by omega
      have hT1 := trimLow_len (mkm 6 a0) l1
      have hT2 := trimLow_len (mkm 6 a0) l2
      have hR1 := trimLow_tr (mkm 6 a0) l1
      have hR2 := trimLow_tr (mkm 6 a0) l2
      have hL1 := lowL_len (mkm 6 a0) l1
      have hL2 := lowL_len (mkm 6 a0) l2
      have bMUL := mulP_le (mkm 6 a0) (trim (lowL (mkm 6 a0) l1)) (trim (lowL (mkm 6 a0) l2))
      have bMUL2 := mulP_le (mkm 6 a0) (trim (lowL (mkm 6 a0) l2)) (trim (lowL (mkm 6 a0) l1))
      have bADD := addP_le (lowL (mkm 6 a0) l1) (lowL (mkm 6 a0) l2)
      have bSC := fun x => scaleP_le (mkm 6 a0) (lowL (mkm 6 a0) l1) x
      have bDER := derP_le (lowL (mkm 6 a0) l1)
      have bGCD := gcdE_le (mkm 6 a0) (trim (lowL (mkm 6 a0) l1)) (trim (lowL (mkm 6 a0) l2))
      have bROOT := rootsP_len hm (trim (lowL (mkm 6 a0) l1))
      have bQU := quotP_le (mkm 6 a0) (trim (lowL (mkm 6 a0) l1)) (trim (lowL (mkm 6 a0) l2))
      have bRE := restP_le (mkm 6 a0) (trim (lowL (mkm 6 a0) l1)) (trim (lowL (mkm 6 a0) l2))
      refine s_mv 49 rfl rfl ?_
      refine s_not 50 rfl rfl ?_
      refine s_pickF 51 rfl rfl rfl ?_
      refine SX.next ?_
      refine CW.condF rfl ?_
      refine CW.skip ?_
      refine KN.code ?_
      refine CW.seq ?_
      refine CW.reg [0, 1, 2, 3, 4, 5, 6, 7, 8] rfl ?_   -- 5, law.go:96
      refine s_mv 58 rfl rfl ?_
      refine s_mv 59 rfl rfl ?_
      refine s_mv 60 rfl rfl ?_
      refine s_call 61 rfl rfl rfl rfl (fun w hw => by have := pmul_spec q0.1 q0.2 (mkm 6 a0) A1 l1.length c1 l1 A2 l2.length c2 l2 _ hm (ring_of (hw.has (i := 1) rfl) (hw.has (i := 0) rfl)) (hw.old hs1) (hw.old hs2) (by omega) (by omega) (by omega); exact this) (fun _ _ => trivial) (fun q61 hq61 => ?_)
      refine s_mv 57 rfl rfl ?_
      refine s_ext 62 rfl rfl rfl ?_
      refine s_ext 63 rfl rfl rfl ?_
      refine s_as 12 rfl rfl ?_
      refine s_as 13 rfl rfl ?_
      refine SX.next ?_
      refine CW.seq ?_
      refine CW.reg [0, 1, 2, 3, 4, 5, 6, 7, 8] rfl ?_   -- 6, law.go:97
      refine s_mv 65 rfl rfl ?_
      refine s_mv 66 rfl rfl ?_
      refine s_mv 67 rfl rfl ?_
      refine s_call 68 rfl rfl rfl rfl (fun w hw => by have := pmul_spec q0.1 q0.2 (mkm 6 a0) A2 l2.length c2 l2 A1 l1.length c1 l1 _ hm (ring_of (hw.has (i := 2) rfl) (hw.has (i := 1) rfl)) (hw.old hs2) (hw.old hs1) (by omega) (by omega) (by omega); exact this) (fun _ _ => trivial) (fun q68 hq68 => ?_)
      refine s_mv 64 rfl rfl ?_
      refine s_ext 69 rfl rfl rfl ?_
      refine s_ext 70 rfl rfl rfl ?_
      refine s_as 14 rfl rfl ?_
      refine s_as 15 rfl rfl ?_
      refine SX.next ?_
      refine CW.seq ?_
      refine CW.reg [0, 1, 2, 3, 4, 5, 6, 7, 8, 9, 10, 11, 12, 13, 14, 15, 16, 17] rfl ?_   -- 7, law.go:98
      refine s_mv 71 rfl rfl ?_
      refine s_mv 72 rfl rfl ?_
      refine s_mv 73 rfl rfl ?_
      refine s_mv 74 rfl rfl ?_
      refine s_call 75 rfl rfl rfl rfl (fun w hw => by have := padd_spec q0.1 q0.2 (mkm 6 a0) A1 l1.length c1 l1 A2 l2.length c2 l2 _ hm (ring_of (hw.has (i := 3) rfl) (hw.has (i := 2) rfl)) (hw.old hs1) (hw.old hs2) (by omega) (by omega); exact this) (fun _ _ => trivial) (fun q75 hq75 => ?_)
      refine s_mv 76 rfl rfl ?_
      refine s_call1 77 rfl rfl rfl rfl (v := .int .i64 (evL (mkm 6 a0) (lowL (mkm 6 a0) l1) (lo (mkm 6 a0) a3) ^^^ evL (mkm 6 a0) (lowL (mkm 6 a0) l2) (lo (mkm 6 a0) a3) : Nat)) (fun w hw => by have := peval_spec q0.1 q0.2 (mkm 6 a0) q75.1 (addP (lowL (mkm 6 a0) l1) (lowL (mkm 6 a0) l2)).length q75.2 ((addP (lowL (mkm 6 a0) l1) (lowL (mkm 6 a0) l2)).map Int.ofNat) a3 _ hm (ring_of (hw.has (i := 4) rfl) (hw.has (i := 3) rfl)) (by rw [← nats_ints]; exact (hw.has (i := 0) rfl).of_own) (by omega); rw [ev_add hm] at this; exact this) (fun _ _ => trivial) ?_
      refine s_mv 78 rfl rfl ?_
      refine s_mv 79 rfl rfl ?_
      refine s_mv 80 rfl rfl ?_
      refine s_call1 81 rfl rfl rfl rfl (v := .int .i64 (evL (mkm 6 a0) (lowL (mkm 6 a0) l1) (lo (mkm 6 a0) a3) : Nat)) (fun w hw => by have := peval_spec q0.1 q0.2 (mkm 6 a0) A1 l1.length c1 l1 a3 _ hm (ring_of (hw.has (i := 4) rfl) (hw.has (i := 3) rfl)) (hw.old hs1) (by omega); exact this) (fun _ _ => trivial) ?_
      refine s_mv 82 rfl rfl ?_
      refine s_mv 83 rfl rfl ?_
      refine s_mv 84 rfl rfl ?_
      refine s_call1 85 rfl rfl rfl rfl (v := .int .i64 (evL (mkm 6 a0) (lowL (mkm 6 a0) l2) (lo (mkm 6 a0) a3) : Nat)) (fun w hw => by have := peval_spec q0.1 q0.2 (mkm 6 a0) A2 l2.length c2 l2 a3 _ hm (ring_of (hw.has (i := 4) rfl) (hw.has (i := 3) rfl)) (hw.old hs2) (by omega); exact this) (fun _ _ => trivial) ?_
      refine s_bit 86 rfl rfl rfl rfl (r := ((evL (mkm 6 a0) (lowL (mkm 6 a0) l1) (lo (mkm 6 a0) a3) ^^^ evL (mkm 6 a0) (lowL (mkm 6 a0) l2) (lo (mkm 6 a0) a3) : Nat) : Int)) (ibit_xor_nat (pow63 hm (evL_lt hm _ (lowL_lt _ _))) (pow63 hm (evL_lt hm _ (lowL_lt _ _)))) ?_
      refine s_eq 87 rfl rfl rfl (decide_eq_true rfl) ?_
      refine s_as 16 rfl rfl ?_
      refine SX.next ?_
      refine CW.seq ?_
      refine CW.reg [0, 1, 2, 3, 4, 5, 6, 7, 8, 9, 10, 11, 12, 13, 14, 15] rfl ?_   -- 8, law.go:99
      refine s_mv 88 rfl rfl ?_
      refine s_mv 89 rfl rfl ?_
      refine s_mv 90 rfl rfl ?_
      refine s_call1 91 rfl rfl rfl rfl (v := .int .i64 (gm (mkm 6 a0) (evL (mkm 6 a0) (lowL (mkm 6 a0) l1) (lo (mkm 6 a0) a3)) (evL (mkm 6 a0) (lowL (mkm 6 a0) l2) (lo (mkm 6 a0) a3)) : Nat)) (fun w hw => by have := peval_spec q0.1 q0.2 (mkm 6 a0) q61.1 (mulP (mkm 6 a0) (trim (lowL (mkm 6 a0) l1)) (trim (lowL (mkm 6 a0) l2))).length q61.2 ((mulP (mkm 6 a0) (trim (lowL (mkm 6 a0) l1)) (trim (lowL (mkm 6 a0) l2))).map Int.ofNat) a3 _ hm (ring_of (hw.has (i := 4) rfl) (hw.has (i := 3) rfl)) (by rw [← nats_ints]; exact (hw.has (i := 2) rfl).of_own) (by omega); rw [ev_mul hm] at this; exact this) (fun _ _ => trivial) ?_
      refine s_mv 92 rfl rfl ?_
      refine s_mv 93 rfl rfl ?_
      refine s_mv 94 rfl rfl ?_
      refine s_mv 95 rfl rfl ?_
      refine s_call1 96 rfl rfl rfl rfl (v := .int .i64 (evL (mkm 6 a0) (lowL (mkm 6 a0) l1) (lo (mkm 6 a0) a3) : Nat)) (fun w hw => by have := peval_spec q0.1 q0.2 (mkm 6 a0) A1 l1.length c1 l1 a3 _ hm (ring_of (hw.has (i := 4) rfl) (hw.has (i := 3) rfl)) (hw.old hs1) (by omega); exact this) (fun _ _ => trivial) ?_
      refine s_mv 97 rfl rfl ?_
      refine s_mv 98 rfl rfl ?_
      refine s_mv 99 rfl rfl ?_
      refine s_call1 100 rfl rfl rfl rfl (v := .int .i64 (evL (mkm 6 a0) (lowL (mkm 6 a0) l2) (lo (mkm 6 a0) a3) : Nat)) (fun w hw => by have := peval_spec q0.1 q0.2 (mkm 6 a0) A2 l2.length c2 l2 a3 _ hm (ring_of (hw.has (i := 4) rfl) (hw.has (i := 3) rfl)) (hw.old hs2) (by omega); exact this) (fun _ _ => trivial) ?_
      refine s_call1 101 rfl rfl rfl rfl (fun w hw => rmulN hm (evL_lt hm _ (lowL_lt _ _)) (evL_lt hm _ (lowL_lt _ _))) (fun _ _ => trivial) ?_
      refine s_eq 102 rfl rfl rfl (decide_eq_true rfl) ?_
      refine s_as 17 rfl rfl ?_
      refine SX.next ?_
      refine CW.seq ?_
      refine CW.seq ?_
      refine CW.reg [0, 1, 2, 3, 4, 5, 6, 7, 8, 9, 10, 11, 12, 13, 14, 15, 16, 17, 18, 19, 20, 21, 22, 23, 24, 25, 26] rfl ?_   -- 9, law.go:100
      refine s_mv 103 rfl rfl ?_
      refine s_neNN 104 rfl rfl ?_
      refine s_mv 105 rfl rfl ?_
      refine s_mv 106 rfl rfl ?_
      refine s_mv 107 rfl rfl ?_
      refine s_call1 108 rfl rfl rfl rfl (v := .bool true) (fun w hw => by have := sameInts_spec q61.1 q68.1 (mulP (mkm 6 a0) (trim (lowL (mkm 6 a0) l1)) (trim (lowL (mkm 6 a0) l2))).length q61.2 (mulP (mkm 6 a0) (trim (lowL (mkm 6 a0) l2)) (trim (lowL (mkm 6 a0) l1))).length q68.2 ((mulP (mkm 6 a0) (trim (lowL (mkm 6 a0) l1)) (trim (lowL (mkm 6 a0) l2))).map Int.ofNat) ((mulP (mkm 6 a0) (trim (lowL (mkm 6 a0) l2)) (trim (lowL (mkm 6 a0) l1))).map Int.ofNat) _ (by rw [← nats_ints]; exact (hw.has (i := 2) rfl).of_own) (by rw [← nats_ints]; exact (hw.has (i := 1) rfl).of_own) (Nat.lt_of_le_of_lt (show (mulP (mkm 6 a0) (trim (lowL (mkm 6 a0) l1)) (trim (lowL (mkm 6 a0) l2))).length ≤ 4294967296 from (by omega)) (by decide)); rw [decide_eq_true (congrArg (List.map Int.ofNat) (mulP_comm hm hR1 hR2))] at this; exact this) (fun _ _ => trivial) ?_
      refine s_not 109 rfl rfl ?_
      refine s_pickF 110 rfl rfl rfl ?_
      refine s_mv 111 rfl rfl ?_
      refine s_mv 112 rfl rfl ?_
      refine s_not 113 rfl rfl ?_
      refine s_pickF 114 rfl rfl rfl ?_
      refine s_mv 115 rfl rfl ?_
      refine s_mv 116 rfl rfl ?_
      refine s_not 117 rfl rfl ?_
      refine s_pickF 118 rfl rfl rfl ?_
      refine s_mv 119 rfl rfl ?_
      refine s_mv 120 rfl rfl ?_
      refine s_mv 121 rfl rfl ?_
      refine s_call 122 rfl rfl rfl rfl (fun w hw => by have := proots_spec q0.1 q0.2 (mkm 6 a0) A1 l1.length c1 l1 _ hm (ring_of (hw.has (i := 4) rfl) (hw.has (i := 3) rfl)) (hw.old hs1) (by omega); exact this) (fun _ _ => trivial) (fun q122 hq122 => ?_)
      refine s_len 123 rfl rfl ?_
      refine s_mv 124 rfl rfl ?_
      refine s_mv 125 rfl rfl ?_
      refine s_call1 126 rfl rfl rfl rfl (v := .int .i64 (((trim (lowL (mkm 6 a0) l1)).length : Nat) - 1)) (fun w hw => by have := degree_spec q0.1 q0.2 (mkm 6 a0) A1 l1.length c1 l1 _ hm (ring_of (hw.has (i := 5) rfl) (hw.has (i := 4) rfl)) (hw.old hs1) (by omega); rw [← trim_length] at this; exact this) (fun _ _ => trivial) ?_
      refine s_max 127 rfl rfl rfl (r := (((trim (lowL (mkm 6 a0) l1)).length - 1 : Nat) : Int)) (by split <;> omega) ?_
      refine s_gt 128 rfl rfl rfl (decide_eq_false (by have := rootsP_le hm hR1; omega)) ?_
      refine s_pickF 129 rfl rfl rfl ?_
      refine SX.next ?_
      refine CW.condF rfl ?_
      refine CW.skip ?_
      refine KN.code ?_
      refine CW.seq ?_
      refine CW.seq ?_
      refine CW.reg [0, 1, 2, 3] rfl ?_   -- 11, law.go:103
      refine s_mv 130 rfl rfl ?_
      refine s_mv 131 rfl rfl ?_
      refine s_call1 132 rfl rfl rfl rfl (v := .int .i64 (((trim (lowL (mkm 6 a0) l2)).length : Nat) - 1)) (fun w hw => by have := degree_spec q0.1 q0.2 (mkm 6 a0) A2 l2.length c2 l2 _ hm (ring_of (hw.has (i := 5) rfl) (hw.has (i := 4) rfl)) (hw.old hs2) (by omega); rw [← trim_length] at this; exact this) (fun _ _ => trivial) ?_
      refine s_lt 133 rfl rfl rfl (decide_eq_false (by omega)) ?_
      refine SX.next ?_
      refine CW.condF rfl ?_
      refine CW.skip ?_
      refine KN.code ?_
      refine CW.seq ?_
      have hdq := quotP_tr hm hR1 (b := (trim (lowL (mkm 6 a0) l2)))
      have hdr := restP_tr hm hR1 (b := (trim (lowL (mkm 6 a0) l2)))
      have hrl := restP_len hm hR1.lt hR2.lt h0 (hR2.top h0)
      obtain ⟨hg0, hg1, hg2, hg3⟩ := gcd_rest hm hR1 hR2 h0
      have hde := div_eq hm hR1 hR2 h0
      have hbk := mulP_tr hm hdq hR2
      have bBK := mulP_le (mkm 6 a0) (quotP (mkm 6 a0) (trim (lowL (mkm 6 a0) l1)) (trim (lowL (mkm 6 a0) l2))) (trim (lowL (mkm 6 a0) l2))
      refine CW.reg [0, 1, 2, 3, 4, 5, 6, 7, 8, 9, 10] rfl ?_   -- 13, law.go:106
      refine s_mv 135 rfl rfl ?_
      refine s_mv 136 rfl rfl ?_
      refine s_mv 137 rfl rfl ?_
      refine s_call 138 rfl rfl rfl rfl (fun w hw => by have := pdiv_spec q0.1 q0.2 (mkm 6 a0) A1 l1.length c1 l1 A2 l2.length c2 l2 _ hm (ring_of (hw.has (i := 5) rfl) (hw.has (i := 4) rfl)) (hw.old hs1) (hw.old hs2) (by omega) (by omega) h0; exact this) (fun _ _ => trivial) (fun q138 hq138 => ?_)
      refine s_mv 134 rfl rfl ?_
      refine s_ext 139 rfl rfl rfl ?_
      refine s_ext 140 rfl rfl rfl ?_
      refine s_ext 141 rfl rfl rfl ?_
      refine s_as 18 rfl rfl ?_
      refine s_as 19 rfl rfl ?_
      refine s_as 20 rfl rfl ?_
      refine SX.next ?_
      refine CW.seq ?_
      refine CW.reg [0, 1, 2, 3, 4, 5, 6, 7, 8] rfl ?_   -- 14, law.go:107
      refine s_mv 143 rfl rfl ?_
      refine s_mv 144 rfl rfl ?_
      refine s_mv 145 rfl rfl ?_
      refine s_call 146 rfl rfl rfl rfl (fun w hw => by have := pmul_spec q0.1 q0.2 (mkm 6 a0) q138.1.1 (quotP (mkm 6 a0) (trim (lowL (mkm 6 a0) l1)) (trim (lowL (mkm 6 a0) l2))).length q138.1.2 ((quotP (mkm 6 a0) (trim (lowL (mkm 6 a0) l1)) (trim (lowL (mkm 6 a0) l2))).map Int.ofNat) A2 l2.length c2 l2 _ hm (ring_of (hw.has (i := 7) rfl) (hw.has (i := 6) rfl)) (by rw [← nats_ints]; exact (hw.has (i := 1) rfl).of_own) (hw.old hs2) (by omega) (by omega) (by rw [hdq.low]; omega); rw [hdq.low] at this; exact this) (fun _ _ => trivial) (fun q146 hq146 => ?_)
      refine s_mv 142 rfl rfl ?_
      refine s_ext 147 rfl rfl rfl ?_
      refine s_ext 148 rfl rfl rfl ?_
      refine s_as 21 rfl rfl ?_
      refine s_as 22 rfl rfl ?_
      refine SX.next ?_
      refine CW.seq ?_
      refine CW.reg [0, 1, 2, 3, 4] rfl ?_   -- 15, law.go:108
      refine s_mv 149 rfl rfl ?_
      refine s_mv 150 rfl rfl ?_
      refine s_mv 151 rfl rfl ?_
      refine s_call 152 rfl rfl rfl rfl (fun w hw => by have := pgcd_spec q0.1 q0.2 (mkm 6 a0) A1 l1.length c1 l1 A2 l2.length c2 l2 _ hm (ring_of (hw.has (i := 8) rfl) (hw.has (i := 7) rfl)) (hw.old hs1) (hw.old hs2) (by omega) (by omega); exact this) (fun _ _ => trivial) (fun q152 hq152 => ?_)
      refine s_as 23 rfl rfl ?_
      refine SX.next ?_
      refine CW.seq ?_
      have hgl : trim (lowL (mkm 6 a0) ((monicP (mkm 6 a0) (gcdE (mkm 6 a0) (trim (lowL (mkm 6 a0) l1)) (trim (lowL (mkm 6 a0) l2)))).map Int.ofNat)) = (monicP (mkm 6 a0) (gcdE (mkm 6 a0) (trim (lowL (mkm 6 a0) l1)) (trim (lowL (mkm 6 a0) l2)))) := (monicP_tr hm (gcdE_tr hm hR1 hR2)).low
      refine CW.reg [0, 1, 2, 3, 4, 5, 6, 7, 8, 9, 10] rfl ?_   -- 16, law.go:109
      refine s_mv 154 rfl rfl ?_
      refine s_mv 155 rfl rfl ?_
      refine s_mv 156 rfl rfl ?_
      refine s_call 157 rfl rfl rfl rfl (fun w hw => by have := pdiv_spec q0.1 q0.2 (mkm 6 a0) A1 l1.length c1 l1 q152.1 (monicP (mkm 6 a0) (gcdE (mkm 6 a0) (trim (lowL (mkm 6 a0) l1)) (trim (lowL (mkm 6 a0) l2)))).length q152.2 ((monicP (mkm 6 a0) (gcdE (mkm 6 a0) (trim (lowL (mkm 6 a0) l1)) (trim (lowL (mkm 6 a0) l2)))).map Int.ofNat) _ hm (ring_of (hw.has (i := 9) rfl) (hw.has (i := 8) rfl)) (hw.old hs1) (by rw [← nats_ints]; exact (hw.has (i := 0) rfl).of_own) (by omega) (by omega) (by rw [hgl]; exact hg0); rw [hgl, hg1] at this; exact this) (fun _ _ => trivial) (fun q157 hq157 => ?_)
      refine s_mv 153 rfl rfl ?_
      refine s_ext 158 rfl rfl rfl ?_
      refine s_ext 159 rfl rfl rfl ?_
      refine s_ext 160 rfl rfl rfl ?_
      refine s_as 24 rfl rfl ?_
      refine s_as 25 rfl rfl ?_
      refine s_as 26 rfl rfl ?_
      refine SX.next ?_
      refine CW.seq ?_
      refine CW.reg [0, 1, 2, 3, 4, 5, 6, 7, 8, 9, 10] rfl ?_   -- 17, law.go:110
      refine s_mv 162 rfl rfl ?_
      refine s_mv 163 rfl rfl ?_
      refine s_mv 164 rfl rfl ?_
      refine s_call 165 rfl rfl rfl rfl (fun w hw => by have := pdiv_spec q0.1 q0.2 (mkm 6 a0) A2 l2.length c2 l2 q152.1 (monicP (mkm 6 a0) (gcdE (mkm 6 a0) (trim (lowL (mkm 6 a0) l1)) (trim (lowL (mkm 6 a0) l2)))).length q152.2 ((monicP (mkm 6 a0) (gcdE (mkm 6 a0) (trim (lowL (mkm 6 a0) l1)) (trim (lowL (mkm 6 a0) l2)))).map Int.ofNat) _ hm (ring_of (hw.has (i := 11) rfl) (hw.has (i := 10) rfl)) (hw.old hs2) (by rw [← nats_ints]; exact (hw.has (i := 2) rfl).of_own) (by omega) (by omega) (by rw [hgl]; exact hg0); rw [hgl, hg2] at this; exact this) (fun _ _ => trivial) (fun q165 hq165 => ?_)
      refine s_mv 161 rfl rfl ?_
      refine s_ext 166 rfl rfl rfl ?_
      refine s_ext 167 rfl rfl rfl ?_
      refine s_ext 168 rfl rfl rfl ?_
      refine s_as 27 rfl rfl ?_
      refine s_as 28 rfl rfl ?_
      refine s_as 29 rfl rfl ?_
      refine SX.next ?_
      refine CW.seq ?_
      refine CW.reg [0, 1, 2, 3, 4, 5, 6, 7, 8, 9, 10, 11, 12, 13, 14, 15, 16, 17, 18, 19, 20, 21, 22, 23, 24, 25, 26, 27, 28, 29, 30, 31, 32, 33, 34, 35, 36, 37, 38] rfl ?_   -- 18, law.go:111
      refine s_mv 169 rfl rfl ?_
      refine s_eqNN 170 rfl rfl ?_
      refine s_mv 171 rfl rfl ?_
      refine s_mv 172 rfl rfl ?_
      refine s_mv 173 rfl rfl ?_
      refine s_call1 174 rfl rfl rfl rfl (v := .int .i64 (((restP (mkm 6 a0) (trim (lowL (mkm 6 a0) l1)) (trim (lowL (mkm 6 a0) l2))).length : Nat) - 1)) (fun w hw => by have := degree_spec q0.1 q0.2 (mkm 6 a0) q138.2.1 (restP (mkm 6 a0) (trim (lowL (mkm 6 a0) l1)) (trim (lowL (mkm 6 a0) l2))).length q138.2.2 ((restP (mkm 6 a0) (trim (lowL (mkm 6 a0) l1)) (trim (lowL (mkm 6 a0) l2))).map Int.ofNat) _ hm (ring_of (hw.has (i := 13) rfl) (hw.has (i := 12) rfl)) (by rw [← nats_ints]; exact (hw.has (i := 6) rfl).of_own) (by omega); rw [← trim_length, (hdr).low] at this; exact this) (fun _ _ => trivial) ?_
      refine s_mv 175 rfl rfl ?_
      refine s_mv 176 rfl rfl ?_
      refine s_call1 177 rfl rfl rfl rfl (v := .int .i64 (((trim (lowL (mkm 6 a0) l2)).length : Nat) - 1)) (fun w hw => by have := degree_spec q0.1 q0.2 (mkm 6 a0) A2 l2.length c2 l2 _ hm (ring_of (hw.has (i := 13) rfl) (hw.has (i := 12) rfl)) (hw.old hs2) (by omega); rw [← trim_length] at this; exact this) (fun _ _ => trivial) ?_
      refine s_lt 178 rfl rfl rfl (decide_eq_true (by omega)) ?_
      refine s_pickT 179 rfl rfl rfl ?_
      refine s_mv 180 rfl rfl ?_
      refine s_mv 181 rfl rfl ?_
      refine s_mv 182 rfl rfl ?_
      refine s_mv 183 rfl rfl ?_
      refine s_call 184 rfl rfl rfl rfl (fun w hw => by have := padd_spec q0.1 q0.2 (mkm 6 a0) q146.1 (mulP (mkm 6 a0) (quotP (mkm 6 a0) (trim (lowL (mkm 6 a0) l1)) (trim (lowL (mkm 6 a0) l2))) (trim (lowL (mkm 6 a0) l2))).length q146.2 ((mulP (mkm 6 a0) (quotP (mkm 6 a0) (trim (lowL (mkm 6 a0) l1)) (trim (lowL (mkm 6 a0) l2))) (trim (lowL (mkm 6 a0) l2))).map Int.ofNat) q138.2.1 (restP (mkm 6 a0) (trim (lowL (mkm 6 a0) l1)) (trim (lowL (mkm 6 a0) l2))).length q138.2.2 ((restP (mkm 6 a0) (trim (lowL (mkm 6 a0) l1)) (trim (lowL (mkm 6 a0) l2))).map Int.ofNat) _ hm (ring_of (hw.has (i := 13) rfl) (hw.has (i := 12) rfl)) (by rw [← nats_ints]; exact (hw.has (i := 5) rfl).of_own) (by rw [← nats_ints]; exact (hw.has (i := 6) rfl).of_own) (by omega) (by omega); rw [lowL_ofNat hbk.lt, lowL_ofNat hdr.lt, hde] at this; exact this) (fun _ _ => trivial) (fun q184 hq184 => ?_)
      refine s_mv 185 rfl rfl ?_
      refine s_mv 186 rfl rfl ?_
      refine s_call 187 rfl rfl rfl rfl (fun w hw => by have := trim_spec q0.1 q0.2 (mkm 6 a0) A1 l1.length c1 l1 _ hm (ring_of (hw.has (i := 14) rfl) (hw.has (i := 13) rfl)) (hw.old hs1) (by omega); exact this) (fun _ _ => trivial) (fun q187 hq187 => ?_)
      refine s_call1 188 rfl rfl rfl rfl (v := .bool true) (fun w hw => by have := sameInts_spec q184.1 q187.1 (trim (lowL (mkm 6 a0) l1)).length q184.2 (trim (lowL (mkm 6 a0) l1)).length q187.2 ((trim (lowL (mkm 6 a0) l1)).map Int.ofNat) ((trim (lowL (mkm 6 a0) l1)).map Int.ofNat) _ (by rw [← nats_ints]; exact (hw.has (i := 1) rfl).of_own) (by rw [← nats_ints]; exact (hw.has (i := 0) rfl).of_own) (Nat.lt_of_le_of_lt (show (trim (lowL (mkm 6 a0) l1)).length ≤ 4294967296 from (by omega)) (by decide)); rw [decide_eq_true (rfl)] at this; exact this) (fun _ _ => trivial) ?_
      refine s_pickT 189 rfl rfl rfl ?_
      refine s_mv 190 rfl rfl ?_
      refine s_mv 191 rfl rfl ?_
      refine s_len 192 rfl rfl ?_
      refine s_mv 193 rfl rfl ?_
      refine s_len 194 rfl rfl ?_
      refine s_add 195 rfl rfl rfl (r := 0) rfl ?_
      refine s_eq 196 rfl rfl rfl (decide_eq_true rfl) ?_
      refine s_pickT 197 rfl rfl rfl ?_
      refine s_mv 198 rfl rfl ?_
      refine s_mv 199 rfl rfl ?_
      refine s_mv 200 rfl rfl ?_
      refine s_len 201 rfl rfl ?_
      refine s_sub 202 rfl rfl rfl (r := (((monicP (mkm 6 a0) (gcdE (mkm 6 a0) (trim (lowL (mkm 6 a0) l1)) (trim (lowL (mkm 6 a0) l2)))).length - 1 : Nat) : Int)) (by rw [show (((monicP (mkm 6 a0) (gcdE (mkm 6 a0) (trim (lowL (mkm 6 a0) l1)) (trim (lowL (mkm 6 a0) l2)))).length : Nat) : Int) - 1 = (((monicP (mkm 6 a0) (gcdE (mkm 6 a0) (trim (lowL (mkm 6 a0) l1)) (trim (lowL (mkm 6 a0) l2)))).length - 1 : Nat) : Int) by omega]; exact w64 (by omega)) ?_
      refine s_iaO 203 6 ((monicP (mkm 6 a0) (gcdE (mkm 6 a0) (trim (lowL (mkm 6 a0) l1)) (trim (lowL (mkm 6 a0) l2)))).length - 1) rfl rfl rfl rfl rfl (by omega) ?_
      refine s_ldO 204 6 rfl rfl rfl (natsAtC (by omega)) ?_
      refine s_eq 205 rfl rfl rfl (decide_eq_true (by rw [hg3]; rfl)) ?_
      refine s_pickT 206 rfl rfl rfl ?_
      refine s_as 8 rfl rfl ?_
      refine SX.next ?_
      refine CW.ret ?_
      exact KN.ret (rs := [.tmp 8]) Tryd.results18 rfl (fun w hw => ⟨rfl, hw.nothing⟩)

theorem walk_PolyRing (a0 : Int) (A1 : Option Addr) (n1 c1 : Nat) (l1 : List Int) (A2 : Option Addr) (n2 c2 : Nat) (l2 : List Int) (a3 : Int) (e : Nat → Addr) (w : World) (hs1 : Has (sl 1 A1 n1 (ints .i64 l1)) w) (hn1 : n1 ≤ 9223372036854775807) (hs2 : Has (sl 1 A2 n2 (ints .i64 l2)) w) (hn2 : n2 ≤ 9223372036854775807) (hz : Er e w 1) (hl : Er e w 0) : Spec1 Tryd.prog 18 [.int .i64 a0, .slice A1 n1 c1, .slice A2 n2 c2, .int .i64 a3] w (.bool true) := by
  by_cases h : (trim (lowL (mkm 6 a0) l2)).length = 0
  · exact PolyRing_z a0 A1 n1 c1 l1 A2 n2 c2 l2 a3 e w hs1 hn1 hs2 hn2 hz hl h
  · exact PolyRing_s a0 A1 n1 c1 l1 A2 n2 c2 l2 a3 e w hs1 hn1 hs2 hn2 hz hl h
