/- The statement PolyOwn, walked. No condition but the errors' variables. -/
import Derived.Test.YtfhfckoemgkdlaaDoorLawp3
import Derived.Test.YtfhfckoemgkdlaaDoorOps7
namespace Go.Proofs.YtfhfckoemgkdlaaDoor
open Go.Sx Go.Fm
set_option maxRecDepth 100000
theorem ints_take_snoc {k : IntKind} {l : List Int} {i : Nat} (h : i < l.length) : ints k (l.take i) ++ [.int k (l.getD i 0)] = ints k (l.take (i + 1)) := by
  have h1 : l.take (i + 1) = l.take i ++ [l.getD i 0] := by
    rw [List.take_add_one]
    simp [h]
  rw [h1]
  simp [ints]

theorem rints_spec (A : Option Addr) (n c : Nat) (l : List Int) (w : World) (ha : Has (sl 1 A n (ints .i64 l)) w) (hn : n ≤ 4294967296) : SpecX Tryd.prog 36 [.slice A n c] w (X := Option Addr × Nat) (fun q => .slice q.1 l.length q.2) (fun q => l.length ≤ q.2) (fun q => [own 3 1 q.1 l.length q.2 (ints .i64 l)]) := by
  have hla := ints_len ha
  subst hla
  refine spec_of Tryd.func36 rfl Tryd.ntmps36 rfl ?_
  refine CW.seq ?_
  refine CW.reg [0] rfl ?_   -- 0, ref.go:123
  refine s_as 2 rfl rfl ?_
  refine SX.next ?_
  refine CW.seq ?_
  refine CW.reg [0, 1, 2, 3] rfl ?_   -- 1, ref.go:124
  refine s_mv 5 rfl rfl ?_
  refine s_len 6 rfl rfl ?_
  refine s_makeC 7 l.length rfl rfl rfl rfl rfl (by unfold maxLen; omega) (fun _ _ => trivial) (fun g0 => ?_)
  refine s_as 3 rfl rfl ?_
  refine SX.next ?_
  refine CW.seq ?_
  refine CW.seq ?_
  refine CW.reg [0] rfl ?_   -- 2, ref.go:125
  refine s_as 4 rfl rfl ?_
  refine SX.next ?_
  refine CW.block ?_
  refine CW.loop (G := Nat × Option Addr × Nat) (fun q => [(0, .slice A l.length c), (3, .slice q.2.1 q.1 q.2.2), (4, .int .i64 (q.1 : Nat))]) (fun q => Sto w [own 3 1 q.2.1 q.1 q.2.2 (ints .i64 (l.take q.1))]) (fun q => q.1 ≤ l.length ∧ q.1 ≤ q.2.2) (fun q => l.length - q.1) (0, some ⟨g0, 0, none⟩, l.length) ⟨rfl, rfl, rfl, trivial⟩ (fun _ h => h) ⟨Nat.zero_le _, Nat.zero_le _⟩ ?_
  intro q hq
  have hq0 := hq.1
  refine CW.seq ?_
  refine CW.seq ?_
  refine CW.reg [0, 1, 2, 3] rfl ?_   -- 3, ref.go:125
  refine s_mv 8 rfl rfl ?_
  refine s_mv 9 rfl rfl ?_
  refine s_len 10 rfl rfl ?_
  refine s_lt 11 rfl rfl rfl rfl ?_
  refine SX.next ?_
  refine CW.test rfl (fun hc => ?_) (fun hc => ?_)
  · skip
    refine CW.skip ?_
    refine KN.code ?_
    refine CW.seq ?_
    refine CW.block ?_
    refine CW.reg [0, 1, 2, 3, 4, 5, 6, 7] rfl ?_   -- 5, ref.go:126
    refine s_mv 14 rfl rfl ?_
    refine s_mv 15 rfl rfl ?_
    refine s_mv 16 rfl rfl ?_
    refine s_iaV 17 q.1 (fun w hw => hw.old ha) rfl rfl rfl rfl (by omega) ?_
    refine s_ldV 18 (fun w hw => hw.old ha) rfl rfl (by rw [Nat.mul_one]; exact intsAt (by omega)) (by omega) ?_
    refine s_bsl 19 rfl rfl (cells := #[.int .i64 (l.getD q.1 0)]) (by kernel_rfl) rfl (fun _ _ => trivial) (fun gb => ?_)
    refine s_app 20 1 rfl rfl rfl rfl (ys := [.int .i64 (l.getD q.1 0)]) (fun w hw => Has.cong ((hw.has (i := 0) rfl).blk_sl (m := 1) rfl) rfl) rfl rfl (by omega) (by unfold maxLen; omega) (by omega) (fun _ _ _ _ => trivial) (fun A2 c2 hc2 => ?_)
    refine s_as 3 rfl rfl ?_
    refine SX.end_ ?_
    refine KN.blk ?_
    refine KN.code ?_
    refine CW.reg [0, 1, 2] rfl ?_   -- 4, ref.go:125
    refine s_mv 12 rfl rfl ?_
    refine s_add 13 rfl rfl rfl (r := ((q.1 + 1 : Nat) : Int)) (w64 (by omega)) ?_
    refine s_as 4 rfl rfl ?_
    refine SX.end_ ?_
    exact KN.back (q.1 + 1, A2, c2) ⟨rfl, rfl, rfl, trivial⟩ (fun _ h => by simp only; rw [← ints_take_snoc (by omega)]; exact h.pick [1] rfl) ⟨by simp only; omega, by simp only; omega⟩ (by simp only; omega)
  · skip
    have hqe : q.1 = l.length := by omega
    refine CW.exit rfl ?_
    refine KN.code ?_
    refine CW.seq ?_
    refine CW.reg [0, 1] rfl ?_   -- 6, ref.go:128
    refine s_mv 21 rfl rfl ?_
    refine s_as 2 rfl rfl ?_
    refine SX.next ?_
    refine CW.ret ?_
    exact KN.ret (rs := [.tmp 2]) Tryd.results36 rfl (fun w hw => ⟨(q.2.1, q.2.2), by rw [← hqe]; rfl, by rw [← hqe]; exact hq.2, by rw [hqe, List.take_length] at hw; exact hw⟩)

set_option maxHeartbeats 1600000 in

theorem PolyOwn_z (a0 : Int) (A1 : Option Addr) (n1 c1 : Nat) (l1 : List Int) (A2 : Option Addr) (n2 c2 : Nat) (l2 : List Int) (e : Nat → Addr) (w : World) (hs1 : Has (sl 1 A1 n1 (ints .i64 l1)) w) (hn1 : n1 ≤ 9223372036854775807) (hs2 : Has (sl 1 A2 n2 (ints .i64 l2)) w) (hn2 : n2 ≤ 9223372036854775807) (hz : Er e w 1) (hl : Er e w 0) (h0 : (trim (lowL (mkm 6 a0) l2)).length = 0) : Spec1 Tryd.prog 16 [.int .i64 a0, .slice A1 n1 c1, .slice A2 n2 c2] w (.bool true) := by
  have hm := mkm_ok (k := 6) (by omega) (by omega) a0
  have hla := ints_len hs1
  subst hla
  have hlb := ints_len hs2
  subst hlb
  refine spec_of Tryd.func16 rfl Tryd.ntmps16 rfl ?_
  refine CW.seq ?_
  refine CW.reg [0] rfl ?_   -- 0, more.go:28
  refine s_as 6 rfl rfl ?_
  refine SX.next ?_
  refine CW.seq ?_
  refine CW.reg [0, 1] rfl ?_   -- 1, more.go:29
  refine s_call1 23 rfl rfl rfl rfl (fun w hw => first4_spec w) (fun _ _ => trivial) ?_
  refine s_as 7 rfl rfl ?_
  refine SX.next ?_
  refine CW.seq ?_
  refine CW.reg [0, 1, 2, 3, 4, 5, 6] rfl ?_   -- 2, more.go:30
  refine s_mv 25 rfl rfl ?_
  refine s_call 26 rfl rfl rfl rfl (fun w hw => ring4_spec a0 w) (fun _ _ => trivial) (fun q0 _ => ?_)
  refine s_mv 24 rfl rfl ?_
  refine s_ext 27 rfl rfl rfl ?_
  refine s_ext 28 rfl rfl rfl ?_
  refine s_as 8 rfl rfl ?_
  refine s_as 9 rfl rfl ?_
  refine SX.next ?_
  refine CW.seq ?_
  refine CW.seq ?_
  refine CW.reg [0, 1, 2, 3, 4, 5, 6, 7, 8, 9, 10, 11, 12, 13, 14, 15] rfl ?_   -- 3, more.go:31
  refine s_mv 29 rfl rfl ?_
  refine s_eqPN 30 rfl rfl ?_
  refine s_mv 31 rfl rfl ?_
  refine s_mv 32 rfl rfl ?_
  refine s_len 33 rfl rfl ?_
  refine s_gt 34 rfl rfl rfl rfl ?_
  refine s_pickF 35 rfl rfl rfl ?_
  refine s_mv 36 rfl rfl ?_
  refine SX.bool 36 rfl (fun hb => ?_) (fun hb => ?_)
  · skip
    skip
    refine SX.skip rfl ?_
    refine SX.skip rfl ?_
    refine SX.skip rfl ?_
    refine s_pickT 40 rfl rfl rfl ?_
    refine s_mv 41 rfl rfl ?_
    refine SX.skip rfl ?_
    refine SX.skip rfl ?_
    refine s_pickT 44 rfl rfl rfl ?_
    refine SX.next ?_
    refine CW.condT rfl ?_
    refine CW.seq ?_
    refine CW.reg [0, 1, 2, 3, 4, 5] rfl ?_   -- 4, more.go:32
    refine s_mv 45 rfl rfl ?_
    refine s_mv 46 rfl rfl ?_
    refine s_mv 47 rfl rfl ?_
    refine s_nePN 48 rfl rfl ?_
    refine s_pickT 49 rfl rfl rfl ?_
    refine s_as 6 rfl rfl ?_
    refine SX.next ?_
    refine CW.ret ?_
    exact KN.ret (rs := [.tmp 6]) Tryd.results16 rfl (fun w hw => ⟨rfl, hw.nothing⟩)
  · skip
    have hp1 := hb
    refine s_mv 37 rfl rfl ?_
    refine s_len 38 rfl rfl ?_
    refine s_gt 39 rfl rfl rfl rfl ?_
    refine s_pickF 40 rfl rfl rfl ?_
    refine s_mv 41 rfl rfl ?_
    refine SX.bool 41 rfl (fun hb => ?_) (fun hb => ?_)
    · skip
      skip
      refine SX.skip rfl ?_
      refine SX.skip rfl ?_
      refine s_pickT 44 rfl rfl rfl ?_
      refine SX.next ?_
      refine CW.condT rfl ?_
      refine CW.seq ?_
      refine CW.reg [0, 1, 2, 3, 4, 5] rfl ?_   -- 4, more.go:32
      refine s_mv 45 rfl rfl ?_
      refine s_mv 46 rfl rfl ?_
      refine s_mv 47 rfl rfl ?_
      refine s_nePN 48 rfl rfl ?_
      refine s_pickT 49 rfl rfl rfl ?_
      refine s_as 6 rfl rfl ?_
      refine SX.next ?_
      refine CW.ret ?_
      exact KN.ret (rs := [.tmp 6]) Tryd.results16 rfl (fun w hw => ⟨rfl, hw.nothing⟩)
    · skip
      have hp1 := of_decide_eq_false hp1
      have hp2 := of_decide_eq_false hb
      have hx1 : l1.length ≤ 24 := by omega
      have hx2 : l2.length ≤ 24 := by omega
      have hT1 := trimLow_len (mkm 6 a0) l1
      have hT2 := trimLow_len (mkm 6 a0) l2
      have hR1 := trimLow_tr (mkm 6 a0) l1
      have hR2 := trimLow_tr (mkm 6 a0) l2
      have hL1 := lowL_len (mkm 6 a0) l1
      have hL2 := lowL_len (mkm 6 a0) l2
      have bMUL := mulP_le (mkm 6 a0) (trim (lowL (mkm 6 a0) l1)) (trim (lowL (mkm 6 a0) l2))
      have bMUL2 := mulP_le (mkm 6 a0) (trim (lowL (mkm 6 a0) l2)) (trim (lowL (mkm 6 a0) l1))
      have bADD := addP_le (lowL (mkm 6 a0) l1) (lowL (mkm 6 a0) l2)
      have bSC := fun x => scaleP_le (mkm 6 a0) (lowL (mkm 6 a0) l1) x
      have bDER := derP_le (lowL (mkm 6 a0) l1)
      have bGCD := gcdE_le (mkm 6 a0) (trim (lowL (mkm 6 a0) l1)) (trim (lowL (mkm 6 a0) l2))
      have bROOT := rootsP_len hm (trim (lowL (mkm 6 a0) l1))
      have bQU := quotP_le (mkm 6 a0) (trim (lowL (mkm 6 a0) l1)) (trim (lowL (mkm 6 a0) l2))
      have bRE := restP_le (mkm 6 a0) (trim (lowL (mkm 6 a0) l1)) (trim (lowL (mkm 6 a0) l2))
      refine s_mv 42 rfl rfl ?_
      refine s_not 43 rfl rfl ?_
      refine s_pickF 44 rfl rfl rfl ?_
      refine SX.next ?_
      refine CW.condF rfl ?_
      refine CW.skip ?_
      refine KN.code ?_
      refine CW.seq ?_
      refine CW.reg [0, 1, 2] rfl ?_   -- 5, more.go:34
      refine s_mv 50 rfl rfl ?_
      refine s_call 51 rfl rfl rfl rfl (fun w hw => rints_spec A1 l1.length c1 l1 _ (hw.old hs1) (by omega)) (fun _ _ => trivial) (fun qa hqa => ?_)
      refine s_as 10 rfl rfl ?_
      refine SX.next ?_
      refine CW.seq ?_
      refine CW.reg [0, 1, 2] rfl ?_   -- 6, more.go:35
      refine s_mv 52 rfl rfl ?_
      refine s_call 53 rfl rfl rfl rfl (fun w hw => rints_spec A2 l2.length c2 l2 _ (hw.old hs2) (by omega)) (fun _ _ => trivial) (fun qb hqb => ?_)
      refine s_as 11 rfl rfl ?_
      refine SX.next ?_
      refine CW.seq ?_
      refine CW.seq ?_
      refine CW.reg [0] rfl ?_   -- 7, more.go:36
      refine s_as 12 rfl rfl ?_
      refine SX.next ?_
      refine CW.block ?_
      refine CW.loop (G := Nat) (fun r => [(1, .slice A1 l1.length c1), (2, .slice A2 l2.length c2), (8, .pointer (some ⟨q0.1, 0, none⟩)), (10, .slice qa.1 l1.length qa.2), (11, .slice qb.1 l2.length qb.2), (12, .int .i64 (r : Nat))]) (fun _ => Sto w [own 3 1 qb.1 l2.length qb.2 (ints .i64 l2), own 3 1 qa.1 l1.length qa.2 (ints .i64 l1), blk q0.1 90 #[.pointer (some ⟨q0.2, 0, none⟩)], fieldA q0.2 (mkm 6 a0)]) (fun r => r ≤ 2) (fun r => 2 - r) 0 ⟨rfl, rfl, rfl, rfl, rfl, rfl, trivial⟩ (fun _ h => h) (Nat.zero_le _) ?_
      intro r hr
      refine CW.seq ?_
      refine CW.seq ?_
      refine CW.reg [0, 1] rfl ?_   -- 8, more.go:36
      refine s_mv 54 rfl rfl ?_
      refine s_lt 55 rfl rfl rfl rfl ?_
      refine SX.next ?_
      refine CW.test rfl (fun hc => ?_) (fun hc => ?_)
      · skip
        refine CW.skip ?_
        refine KN.code ?_
        refine CW.seq ?_
        refine CW.block ?_
        refine CW.seq ?_
        refine CW.reg [0, 1, 2, 3, 4, 5, 6, 7, 8] rfl ?_   -- 10, more.go:37
        refine s_mv 59 rfl rfl ?_
        refine s_mv 60 rfl rfl ?_
        refine s_mv 61 rfl rfl ?_
        refine s_call 62 rfl rfl rfl rfl (fun w hw => by have := pmul_spec q0.1 q0.2 (mkm 6 a0) qa.1 l1.length qa.2 l1 qb.1 l2.length qb.2 l2 _ hm (ring_of (hw.has (i := 3) rfl) (hw.has (i := 2) rfl)) ((hw.has (i := 1) rfl).of_own) ((hw.has (i := 0) rfl).of_own) (by omega) (by omega) (by omega); exact this) (fun _ _ => trivial) (fun q62 hq62 => ?_)
        refine s_mv 58 rfl rfl ?_
        refine s_ext 63 rfl rfl rfl ?_
        refine s_ext 64 rfl rfl rfl ?_
        refine s_as 13 rfl rfl ?_
        refine s_as 14 rfl rfl ?_
        refine SX.next ?_
        refine CW.seq ?_
        refine CW.reg [0, 1, 2, 3, 4, 5, 6, 7, 8, 9, 10] rfl ?_   -- 11, more.go:38
        refine s_mv 66 rfl rfl ?_
        refine s_mv 67 rfl rfl ?_
        refine s_mv 68 rfl rfl ?_
        refine s_call1 69 rfl rfl rfl rfl (fun w hw => pdiv_zero q0.1 q0.2 (mkm 6 a0) qa.1 l1.length qa.2 l1 qb.1 l2.length qb.2 l2 e _ hm (ring_of (hw.has (i := 4) rfl) (hw.has (i := 3) rfl)) ((hw.has (i := 2) rfl).of_own) ((hw.has (i := 1) rfl).of_own) (by omega) (by omega) (hw.er hz) h0) (fun _ _ => trivial) ?_
        refine SX.pre (fun _ h => (h.begin_ 3 1).begin_ 3 1) ?_
        refine s_mv 65 rfl rfl ?_
        refine s_ext 70 rfl rfl rfl ?_
        refine s_ext 71 rfl rfl rfl ?_
        refine s_ext 72 rfl rfl rfl ?_
        refine s_as 15 rfl rfl ?_
        refine s_as 16 rfl rfl ?_
        refine s_as 17 rfl rfl ?_
        refine SX.next ?_
        refine CW.seq ?_
        refine CW.reg [0, 1, 2, 3, 4, 5, 6, 7] rfl ?_   -- 12, more.go:39
        refine s_mv 74 rfl rfl ?_
        refine s_mv 75 rfl rfl ?_
        refine s_call 76 rfl rfl rfl rfl (fun w hw => by have := pfrom_spec q0.1 q0.2 (mkm 6 a0) qa.1 l1.length qa.2 l1 _ hm (ring_of (hw.has (i := 6) rfl) (hw.has (i := 5) rfl)) ((hw.has (i := 4) rfl).of_own) (by omega); exact this) (fun _ _ => trivial) (fun q76 hq76 => ?_)
        refine s_mv 73 rfl rfl ?_
        refine s_ext 77 rfl rfl rfl ?_
        refine s_ext 78 rfl rfl rfl ?_
        refine s_as 18 rfl rfl ?_
        refine s_as 19 rfl rfl ?_
        refine SX.next ?_
        refine CW.seq ?_
        refine CW.reg [0, 1, 2, 3, 4, 5, 6, 7, 8, 9, 10, 11, 12, 13, 14, 15, 16, 17, 18, 19, 20, 21, 22, 23, 24, 25, 26, 27, 28, 29, 30, 31, 32] rfl ?_   -- 13, more.go:40
        refine s_mv 79 rfl rfl ?_
        refine s_mv 80 rfl rfl ?_
        refine s_mv 81 rfl rfl ?_
        refine s_mv 82 rfl rfl ?_
        refine s_mv 83 rfl rfl ?_
        refine s_mv 84 rfl rfl ?_
        refine s_call 85 rfl rfl rfl rfl (fun w hw => by have := trim_spec q0.1 q0.2 (mkm 6 a0) qa.1 l1.length qa.2 l1 _ hm (ring_of (hw.has (i := 7) rfl) (hw.has (i := 6) rfl)) ((hw.has (i := 5) rfl).of_own) (by omega); exact this) (fun _ _ => trivial) (fun q85 hq85 => ?_)
        refine s_mv 86 rfl rfl ?_
        refine s_mv 87 rfl rfl ?_
        refine s_mv 88 rfl rfl ?_
        refine s_call 89 rfl rfl rfl rfl (fun w hw => by have := padd_spec q0.1 q0.2 (mkm 6 a0) qa.1 l1.length qa.2 l1 qb.1 l2.length qb.2 l2 _ hm (ring_of (hw.has (i := 8) rfl) (hw.has (i := 7) rfl)) ((hw.has (i := 6) rfl).of_own) ((hw.has (i := 5) rfl).of_own) (by omega) (by omega); exact this) (fun _ _ => trivial) (fun q89 hq89 => ?_)
        refine s_mv 90 rfl rfl ?_
        refine s_mv 91 rfl rfl ?_
        refine s_call 92 rfl rfl rfl rfl (fun w hw => by have := padd_spec q0.1 q0.2 (mkm 6 a0) qa.1 l1.length qa.2 l1 none 0 0 [] _ hm (ring_of (hw.has (i := 9) rfl) (hw.has (i := 8) rfl)) ((hw.has (i := 7) rfl).of_own) (Has.sl_nil _ 1 none) (by omega) (by omega); exact this) (fun _ _ => trivial) (fun q92 hq92 => ?_)
        refine s_mv 93 rfl rfl ?_
        refine s_mv 94 rfl rfl ?_
        refine s_call 95 rfl rfl rfl rfl (fun w hw => by have := scale_spec q0.1 q0.2 (mkm 6 a0) qa.1 l1.length qa.2 l1 1 _ hm (ring_of (hw.has (i := 10) rfl) (hw.has (i := 9) rfl)) ((hw.has (i := 8) rfl).of_own) (by omega); exact this) (fun _ _ => trivial) (fun q95 hq95 => ?_)
        refine s_mv 96 rfl rfl ?_
        refine s_mv 97 rfl rfl ?_
        refine s_call 98 rfl rfl rfl rfl (fun w hw => by have := derive_spec q0.1 q0.2 (mkm 6 a0) qa.1 l1.length qa.2 l1 _ hm (ring_of (hw.has (i := 11) rfl) (hw.has (i := 10) rfl)) ((hw.has (i := 9) rfl).of_own) (by omega); exact this) (fun _ _ => trivial) (fun q98 hq98 => ?_)
        refine s_mv 99 rfl rfl ?_
        refine s_mv 100 rfl rfl ?_
        refine s_mv 101 rfl rfl ?_
        refine s_call 102 rfl rfl rfl rfl (fun w hw => by have := pgcd_spec q0.1 q0.2 (mkm 6 a0) qa.1 l1.length qa.2 l1 qb.1 l2.length qb.2 l2 _ hm (ring_of (hw.has (i := 12) rfl) (hw.has (i := 11) rfl)) ((hw.has (i := 10) rfl).of_own) ((hw.has (i := 9) rfl).of_own) (by omega) (by omega); exact this) (fun _ _ => trivial) (fun q102 hq102 => ?_)
        refine s_mv 103 rfl rfl ?_
        refine s_mv 104 rfl rfl ?_
        refine s_call 105 rfl rfl rfl rfl (fun w hw => by have := pgcd_spec q0.1 q0.2 (mkm 6 a0) qa.1 l1.length qa.2 l1 none 0 0 [] _ hm (ring_of (hw.has (i := 13) rfl) (hw.has (i := 12) rfl)) ((hw.has (i := 11) rfl).of_own) (Has.sl_nil _ 1 none) (by omega) (by omega); exact this) (fun _ _ => trivial) (fun q105 hq105 => ?_)
        refine s_mv 106 rfl rfl ?_
        refine s_mv 107 rfl rfl ?_
        refine s_call 108 rfl rfl rfl rfl (fun w hw => by have := proots_spec q0.1 q0.2 (mkm 6 a0) qa.1 l1.length qa.2 l1 _ hm (ring_of (hw.has (i := 14) rfl) (hw.has (i := 13) rfl)) ((hw.has (i := 12) rfl).of_own) (by omega); exact this) (fun _ _ => trivial) (fun q108 hq108 => ?_)
        refine s_bsl 109 rfl rfl (cells := #[.slice q62.1 (mulP (mkm 6 a0) (trim (lowL (mkm 6 a0) l1)) (trim (lowL (mkm 6 a0) l2))).length q62.2, .slice none 0 0, .slice none 0 0, .slice q76.1 (trim (frP (mkm 6 a0) l1 l1.length)).length q76.2, .slice q85.1 (trim (lowL (mkm 6 a0) l1)).length q85.2, .slice q89.1 (addP (lowL (mkm 6 a0) l1) (lowL (mkm 6 a0) l2)).length q89.2, .slice q92.1 (addP (lowL (mkm 6 a0) l1) (lowL (mkm 6 a0) [])).length q92.2, .slice q95.1 (scaleP (mkm 6 a0) (lowL (mkm 6 a0) l1) (lo (mkm 6 a0) 1)).length q95.2, .slice q98.1 (derP (lowL (mkm 6 a0) l1)).length q98.2, .slice q102.1 (monicP (mkm 6 a0) (gcdE (mkm 6 a0) (trim (lowL (mkm 6 a0) l1)) (trim (lowL (mkm 6 a0) l2)))).length q102.2, .slice q105.1 (monicP (mkm 6 a0) (gcdE (mkm 6 a0) (trim (lowL (mkm 6 a0) l1)) (trim (lowL (mkm 6 a0) [])))).length q105.2, .slice q108.1 (rootsP (mkm 6 a0) (trim (lowL (mkm 6 a0) l1))).length q108.2]) (by kernel_rfl) rfl (fun _ _ => trivial) (fun gt => ?_)
        refine s_len 110 rfl rfl ?_
        refine s_mv 111 rfl rfl ?_
        refine SX.next ?_
        refine CW.block ?_
        refine CW.loop (G := Nat × List Rw) (fun q => [(1, .slice A1 l1.length c1), (2, .slice A2 l2.length c2), (8, .pointer (some ⟨q0.1, 0, none⟩)), (10, .slice qa.1 l1.length qa.2), (11, .slice qb.1 l2.length qb.2), (12, .int .i64 (r : Nat)), (109, .slice (some ⟨gt, 0, none⟩) 12 12), (110, .int .i64 12), (111, .int .i64 (q.1 : Nat))]) (fun q => Sto w (blk gt 22 (([⟨q62.1, (mulP (mkm 6 a0) (trim (lowL (mkm 6 a0) l1)) (trim (lowL (mkm 6 a0) l2))).length, q62.2, nats .i64 (mulP (mkm 6 a0) (trim (lowL (mkm 6 a0) l1)) (trim (lowL (mkm 6 a0) l2)))⟩, ⟨none, 0, 0, []⟩, ⟨none, 0, 0, []⟩, ⟨q76.1, (trim (frP (mkm 6 a0) l1 l1.length)).length, q76.2, nats .i64 (trim (frP (mkm 6 a0) l1 l1.length))⟩, ⟨q85.1, (trim (lowL (mkm 6 a0) l1)).length, q85.2, nats .i64 (trim (lowL (mkm 6 a0) l1))⟩, ⟨q89.1, (addP (lowL (mkm 6 a0) l1) (lowL (mkm 6 a0) l2)).length, q89.2, nats .i64 (addP (lowL (mkm 6 a0) l1) (lowL (mkm 6 a0) l2))⟩, ⟨q92.1, (addP (lowL (mkm 6 a0) l1) (lowL (mkm 6 a0) [])).length, q92.2, nats .i64 (addP (lowL (mkm 6 a0) l1) (lowL (mkm 6 a0) []))⟩, ⟨q95.1, (scaleP (mkm 6 a0) (lowL (mkm 6 a0) l1) (lo (mkm 6 a0) 1)).length, q95.2, nats .i64 (scaleP (mkm 6 a0) (lowL (mkm 6 a0) l1) (lo (mkm 6 a0) 1))⟩, ⟨q98.1, (derP (lowL (mkm 6 a0) l1)).length, q98.2, nats .i64 (derP (lowL (mkm 6 a0) l1))⟩, ⟨q102.1, (monicP (mkm 6 a0) (gcdE (mkm 6 a0) (trim (lowL (mkm 6 a0) l1)) (trim (lowL (mkm 6 a0) l2)))).length, q102.2, nats .i64 (monicP (mkm 6 a0) (gcdE (mkm 6 a0) (trim (lowL (mkm 6 a0) l1)) (trim (lowL (mkm 6 a0) l2))))⟩, ⟨q105.1, (monicP (mkm 6 a0) (gcdE (mkm 6 a0) (trim (lowL (mkm 6 a0) l1)) (trim (lowL (mkm 6 a0) [])))).length, q105.2, nats .i64 (monicP (mkm 6 a0) (gcdE (mkm 6 a0) (trim (lowL (mkm 6 a0) l1)) (trim (lowL (mkm 6 a0) []))))⟩, ⟨q108.1, (rootsP (mkm 6 a0) (trim (lowL (mkm 6 a0) l1))).length, q108.2, nats .i64 (rootsP (mkm 6 a0) (trim (lowL (mkm 6 a0) l1)))⟩] : List Rw).map Rw.hdr).toArray :: (q.2.map (ownR 3) ++ [own 3 1 qb.1 l2.length qb.2 (ints .i64 l2), own 3 1 qa.1 l1.length qa.2 (ints .i64 l1), blk q0.1 90 #[.pointer (some ⟨q0.2, 0, none⟩)], fieldA q0.2 (mkm 6 a0)]))) (fun q => q.1 ≤ 12 ∧ q.2.map Rw.hdr = ([⟨q62.1, (mulP (mkm 6 a0) (trim (lowL (mkm 6 a0) l1)) (trim (lowL (mkm 6 a0) l2))).length, q62.2, nats .i64 (mulP (mkm 6 a0) (trim (lowL (mkm 6 a0) l1)) (trim (lowL (mkm 6 a0) l2)))⟩, ⟨none, 0, 0, []⟩, ⟨none, 0, 0, []⟩, ⟨q76.1, (trim (frP (mkm 6 a0) l1 l1.length)).length, q76.2, nats .i64 (trim (frP (mkm 6 a0) l1 l1.length))⟩, ⟨q85.1, (trim (lowL (mkm 6 a0) l1)).length, q85.2, nats .i64 (trim (lowL (mkm 6 a0) l1))⟩, ⟨q89.1, (addP (lowL (mkm 6 a0) l1) (lowL (mkm 6 a0) l2)).length, q89.2, nats .i64 (addP (lowL (mkm 6 a0) l1) (lowL (mkm 6 a0) l2))⟩, ⟨q92.1, (addP (lowL (mkm 6 a0) l1) (lowL (mkm 6 a0) [])).length, q92.2, nats .i64 (addP (lowL (mkm 6 a0) l1) (lowL (mkm 6 a0) []))⟩, ⟨q95.1, (scaleP (mkm 6 a0) (lowL (mkm 6 a0) l1) (lo (mkm 6 a0) 1)).length, q95.2, nats .i64 (scaleP (mkm 6 a0) (lowL (mkm 6 a0) l1) (lo (mkm 6 a0) 1))⟩, ⟨q98.1, (derP (lowL (mkm 6 a0) l1)).length, q98.2, nats .i64 (derP (lowL (mkm 6 a0) l1))⟩, ⟨q102.1, (monicP (mkm 6 a0) (gcdE (mkm 6 a0) (trim (lowL (mkm 6 a0) l1)) (trim (lowL (mkm 6 a0) l2)))).length, q102.2, nats .i64 (monicP (mkm 6 a0) (gcdE (mkm 6 a0) (trim (lowL (mkm 6 a0) l1)) (trim (lowL (mkm 6 a0) l2))))⟩, ⟨q105.1, (monicP (mkm 6 a0) (gcdE (mkm 6 a0) (trim (lowL (mkm 6 a0) l1)) (trim (lowL (mkm 6 a0) [])))).length, q105.2, nats .i64 (monicP (mkm 6 a0) (gcdE (mkm 6 a0) (trim (lowL (mkm 6 a0) l1)) (trim (lowL (mkm 6 a0) []))))⟩, ⟨q108.1, (rootsP (mkm 6 a0) (trim (lowL (mkm 6 a0) l1))).length, q108.2, nats .i64 (rootsP (mkm 6 a0) (trim (lowL (mkm 6 a0) l1)))⟩] : List Rw).map Rw.hdr) (fun q => 12 - q.1) (0, [⟨q62.1, (mulP (mkm 6 a0) (trim (lowL (mkm 6 a0) l1)) (trim (lowL (mkm 6 a0) l2))).length, q62.2, nats .i64 (mulP (mkm 6 a0) (trim (lowL (mkm 6 a0) l1)) (trim (lowL (mkm 6 a0) l2)))⟩, ⟨none, 0, 0, []⟩, ⟨none, 0, 0, []⟩, ⟨q76.1, (trim (frP (mkm 6 a0) l1 l1.length)).length, q76.2, nats .i64 (trim (frP (mkm 6 a0) l1 l1.length))⟩, ⟨q85.1, (trim (lowL (mkm 6 a0) l1)).length, q85.2, nats .i64 (trim (lowL (mkm 6 a0) l1))⟩, ⟨q89.1, (addP (lowL (mkm 6 a0) l1) (lowL (mkm 6 a0) l2)).length, q89.2, nats .i64 (addP (lowL (mkm 6 a0) l1) (lowL (mkm 6 a0) l2))⟩, ⟨q92.1, (addP (lowL (mkm 6 a0) l1) (lowL (mkm 6 a0) [])).length, q92.2, nats .i64 (addP (lowL (mkm 6 a0) l1) (lowL (mkm 6 a0) []))⟩, ⟨q95.1, (scaleP (mkm 6 a0) (lowL (mkm 6 a0) l1) (lo (mkm 6 a0) 1)).length, q95.2, nats .i64 (scaleP (mkm 6 a0) (lowL (mkm 6 a0) l1) (lo (mkm 6 a0) 1))⟩, ⟨q98.1, (derP (lowL (mkm 6 a0) l1)).length, q98.2, nats .i64 (derP (lowL (mkm 6 a0) l1))⟩, ⟨q102.1, (monicP (mkm 6 a0) (gcdE (mkm 6 a0) (trim (lowL (mkm 6 a0) l1)) (trim (lowL (mkm 6 a0) l2)))).length, q102.2, nats .i64 (monicP (mkm 6 a0) (gcdE (mkm 6 a0) (trim (lowL (mkm 6 a0) l1)) (trim (lowL (mkm 6 a0) l2))))⟩, ⟨q105.1, (monicP (mkm 6 a0) (gcdE (mkm 6 a0) (trim (lowL (mkm 6 a0) l1)) (trim (lowL (mkm 6 a0) [])))).length, q105.2, nats .i64 (monicP (mkm 6 a0) (gcdE (mkm 6 a0) (trim (lowL (mkm 6 a0) l1)) (trim (lowL (mkm 6 a0) []))))⟩, ⟨q108.1, (rootsP (mkm 6 a0) (trim (lowL (mkm 6 a0) l1))).length, q108.2, nats .i64 (rootsP (mkm 6 a0) (trim (lowL (mkm 6 a0) l1)))⟩]) ⟨rfl, rfl, rfl, rfl, rfl, rfl, rfl, rfl, rfl, trivial⟩ (fun _ h => h.pick [0, 11, 10, 9, 8, 7, 6, 5, 4, 3, 2, 1, 0, 0, 0, 0, 0] rfl) ⟨Nat.zero_le _, rfl⟩ ?_
        rintro ⟨j, qs⟩ ⟨hj, hH⟩
        simp only at hj hH
        have hql : qs.length = 12 := by
          have := congrArg List.length hH
          simpa using this
        dsimp only
        refine CW.seq ?_
        refine CW.reg [0] rfl ?_   -- 14, more.go:40
        refine s_lt 112 rfl rfl rfl rfl ?_
        refine SX.next ?_
        refine CW.seq ?_
        refine CW.test rfl (fun hc => ?_) (fun hc => ?_)
        · skip
          obtain ⟨z, hzq⟩ : ∃ z, qs[j]? = some z := ⟨_, List.getElem?_eq_getElem (by omega)⟩
          have hcell : (([⟨q62.1, (mulP (mkm 6 a0) (trim (lowL (mkm 6 a0) l1)) (trim (lowL (mkm 6 a0) l2))).length, q62.2, nats .i64 (mulP (mkm 6 a0) (trim (lowL (mkm 6 a0) l1)) (trim (lowL (mkm 6 a0) l2)))⟩, ⟨none, 0, 0, []⟩, ⟨none, 0, 0, []⟩, ⟨q76.1, (trim (frP (mkm 6 a0) l1 l1.length)).length, q76.2, nats .i64 (trim (frP (mkm 6 a0) l1 l1.length))⟩, ⟨q85.1, (trim (lowL (mkm 6 a0) l1)).length, q85.2, nats .i64 (trim (lowL (mkm 6 a0) l1))⟩, ⟨q89.1, (addP (lowL (mkm 6 a0) l1) (lowL (mkm 6 a0) l2)).length, q89.2, nats .i64 (addP (lowL (mkm 6 a0) l1) (lowL (mkm 6 a0) l2))⟩, ⟨q92.1, (addP (lowL (mkm 6 a0) l1) (lowL (mkm 6 a0) [])).length, q92.2, nats .i64 (addP (lowL (mkm 6 a0) l1) (lowL (mkm 6 a0) []))⟩, ⟨q95.1, (scaleP (mkm 6 a0) (lowL (mkm 6 a0) l1) (lo (mkm 6 a0) 1)).length, q95.2, nats .i64 (scaleP (mkm 6 a0) (lowL (mkm 6 a0) l1) (lo (mkm 6 a0) 1))⟩, ⟨q98.1, (derP (lowL (mkm 6 a0) l1)).length, q98.2, nats .i64 (derP (lowL (mkm 6 a0) l1))⟩, ⟨q102.1, (monicP (mkm 6 a0) (gcdE (mkm 6 a0) (trim (lowL (mkm 6 a0) l1)) (trim (lowL (mkm 6 a0) l2)))).length, q102.2, nats .i64 (monicP (mkm 6 a0) (gcdE (mkm 6 a0) (trim (lowL (mkm 6 a0) l1)) (trim (lowL (mkm 6 a0) l2))))⟩, ⟨q105.1, (monicP (mkm 6 a0) (gcdE (mkm 6 a0) (trim (lowL (mkm 6 a0) l1)) (trim (lowL (mkm 6 a0) [])))).length, q105.2, nats .i64 (monicP (mkm 6 a0) (gcdE (mkm 6 a0) (trim (lowL (mkm 6 a0) l1)) (trim (lowL (mkm 6 a0) []))))⟩, ⟨q108.1, (rootsP (mkm 6 a0) (trim (lowL (mkm 6 a0) l1))).length, q108.2, nats .i64 (rootsP (mkm 6 a0) (trim (lowL (mkm 6 a0) l1)))⟩] : List Rw).map Rw.hdr).toArray[j]? = some (Rw.hdr z) := by rw [← hH, List.getElem?_toArray, List.getElem?_map, hzq]; rfl
          refine CW.skip ?_
          refine KN.code ?_
          refine CW.seq ?_
          refine CW.block ?_
          refine CW.seq ?_
          refine CW.reg [0, 1, 2] rfl ?_   -- 15, more.go:40
          refine s_ia0 113 j rfl rfl rfl rfl (by omega) ?_
          refine s_ldB 114 0 rfl rfl rfl (v := .slice z.A z.n z.c) hcell ?_
          refine s_as 21 rfl rfl ?_
          refine SX.next ?_
          refine CW.seq ?_
          refine CW.reg [0] rfl ?_   -- 16, more.go:41
          refine s_as 22 rfl rfl ?_
          refine SX.next ?_
          refine CW.block ?_
          refine CW.loop (G := Nat × List Rw) (fun q => [(1, .slice A1 l1.length c1), (2, .slice A2 l2.length c2), (8, .pointer (some ⟨q0.1, 0, none⟩)), (10, .slice qa.1 l1.length qa.2), (11, .slice qb.1 l2.length qb.2), (12, .int .i64 (r : Nat)), (109, .slice (some ⟨gt, 0, none⟩) 12 12), (110, .int .i64 12), (111, .int .i64 (j : Nat)), (21, .slice z.A z.n z.c), (22, .int .i64 (q.1 : Nat))]) (fun q => Sto w (blk gt 22 (([⟨q62.1, (mulP (mkm 6 a0) (trim (lowL (mkm 6 a0) l1)) (trim (lowL (mkm 6 a0) l2))).length, q62.2, nats .i64 (mulP (mkm 6 a0) (trim (lowL (mkm 6 a0) l1)) (trim (lowL (mkm 6 a0) l2)))⟩, ⟨none, 0, 0, []⟩, ⟨none, 0, 0, []⟩, ⟨q76.1, (trim (frP (mkm 6 a0) l1 l1.length)).length, q76.2, nats .i64 (trim (frP (mkm 6 a0) l1 l1.length))⟩, ⟨q85.1, (trim (lowL (mkm 6 a0) l1)).length, q85.2, nats .i64 (trim (lowL (mkm 6 a0) l1))⟩, ⟨q89.1, (addP (lowL (mkm 6 a0) l1) (lowL (mkm 6 a0) l2)).length, q89.2, nats .i64 (addP (lowL (mkm 6 a0) l1) (lowL (mkm 6 a0) l2))⟩, ⟨q92.1, (addP (lowL (mkm 6 a0) l1) (lowL (mkm 6 a0) [])).length, q92.2, nats .i64 (addP (lowL (mkm 6 a0) l1) (lowL (mkm 6 a0) []))⟩, ⟨q95.1, (scaleP (mkm 6 a0) (lowL (mkm 6 a0) l1) (lo (mkm 6 a0) 1)).length, q95.2, nats .i64 (scaleP (mkm 6 a0) (lowL (mkm 6 a0) l1) (lo (mkm 6 a0) 1))⟩, ⟨q98.1, (derP (lowL (mkm 6 a0) l1)).length, q98.2, nats .i64 (derP (lowL (mkm 6 a0) l1))⟩, ⟨q102.1, (monicP (mkm 6 a0) (gcdE (mkm 6 a0) (trim (lowL (mkm 6 a0) l1)) (trim (lowL (mkm 6 a0) l2)))).length, q102.2, nats .i64 (monicP (mkm 6 a0) (gcdE (mkm 6 a0) (trim (lowL (mkm 6 a0) l1)) (trim (lowL (mkm 6 a0) l2))))⟩, ⟨q105.1, (monicP (mkm 6 a0) (gcdE (mkm 6 a0) (trim (lowL (mkm 6 a0) l1)) (trim (lowL (mkm 6 a0) [])))).length, q105.2, nats .i64 (monicP (mkm 6 a0) (gcdE (mkm 6 a0) (trim (lowL (mkm 6 a0) l1)) (trim (lowL (mkm 6 a0) []))))⟩, ⟨q108.1, (rootsP (mkm 6 a0) (trim (lowL (mkm 6 a0) l1))).length, q108.2, nats .i64 (rootsP (mkm 6 a0) (trim (lowL (mkm 6 a0) l1)))⟩] : List Rw).map Rw.hdr).toArray :: (q.2.map (ownR 3) ++ [own 3 1 qb.1 l2.length qb.2 (ints .i64 l2), own 3 1 qa.1 l1.length qa.2 (ints .i64 l1), blk q0.1 90 #[.pointer (some ⟨q0.2, 0, none⟩)], fieldA q0.2 (mkm 6 a0)]))) (fun q => (q.1 ≤ z.n ∧ q.2.map Rw.hdr = ([⟨q62.1, (mulP (mkm 6 a0) (trim (lowL (mkm 6 a0) l1)) (trim (lowL (mkm 6 a0) l2))).length, q62.2, nats .i64 (mulP (mkm 6 a0) (trim (lowL (mkm 6 a0) l1)) (trim (lowL (mkm 6 a0) l2)))⟩, ⟨none, 0, 0, []⟩, ⟨none, 0, 0, []⟩, ⟨q76.1, (trim (frP (mkm 6 a0) l1 l1.length)).length, q76.2, nats .i64 (trim (frP (mkm 6 a0) l1 l1.length))⟩, ⟨q85.1, (trim (lowL (mkm 6 a0) l1)).length, q85.2, nats .i64 (trim (lowL (mkm 6 a0) l1))⟩, ⟨q89.1, (addP (lowL (mkm 6 a0) l1) (lowL (mkm 6 a0) l2)).length, q89.2, nats .i64 (addP (lowL (mkm 6 a0) l1) (lowL (mkm 6 a0) l2))⟩, ⟨q92.1, (addP (lowL (mkm 6 a0) l1) (lowL (mkm 6 a0) [])).length, q92.2, nats .i64 (addP (lowL (mkm 6 a0) l1) (lowL (mkm 6 a0) []))⟩, ⟨q95.1, (scaleP (mkm 6 a0) (lowL (mkm 6 a0) l1) (lo (mkm 6 a0) 1)).length, q95.2, nats .i64 (scaleP (mkm 6 a0) (lowL (mkm 6 a0) l1) (lo (mkm 6 a0) 1))⟩, ⟨q98.1, (derP (lowL (mkm 6 a0) l1)).length, q98.2, nats .i64 (derP (lowL (mkm 6 a0) l1))⟩, ⟨q102.1, (monicP (mkm 6 a0) (gcdE (mkm 6 a0) (trim (lowL (mkm 6 a0) l1)) (trim (lowL (mkm 6 a0) l2)))).length, q102.2, nats .i64 (monicP (mkm 6 a0) (gcdE (mkm 6 a0) (trim (lowL (mkm 6 a0) l1)) (trim (lowL (mkm 6 a0) l2))))⟩, ⟨q105.1, (monicP (mkm 6 a0) (gcdE (mkm 6 a0) (trim (lowL (mkm 6 a0) l1)) (trim (lowL (mkm 6 a0) [])))).length, q105.2, nats .i64 (monicP (mkm 6 a0) (gcdE (mkm 6 a0) (trim (lowL (mkm 6 a0) l1)) (trim (lowL (mkm 6 a0) []))))⟩, ⟨q108.1, (rootsP (mkm 6 a0) (trim (lowL (mkm 6 a0) l1))).length, q108.2, nats .i64 (rootsP (mkm 6 a0) (trim (lowL (mkm 6 a0) l1)))⟩] : List Rw).map Rw.hdr) ∧ (q.2[j]?).map Rw.hdr = some z.hdr) (fun q => z.n - q.1) (0, qs) ⟨rfl, rfl, rfl, rfl, rfl, rfl, rfl, rfl, rfl, rfl, rfl, trivial⟩ (fun _ h => h) ⟨⟨Nat.zero_le _, hH⟩, by rw [hzq]; rfl⟩ ?_
          rintro ⟨i, ps⟩ ⟨⟨hi, hP⟩, hz2⟩
          simp only at hi hP hz2
          dsimp only
          refine CW.seq ?_
          refine CW.seq ?_
          refine CW.reg [0, 1, 2, 3] rfl ?_   -- 17, more.go:41
          refine s_mv 115 rfl rfl ?_
          refine s_mv 116 rfl rfl ?_
          refine s_len 117 rfl rfl ?_
          refine s_lt 118 rfl rfl rfl rfl ?_
          refine SX.next ?_
          refine CW.test rfl (fun hc => ?_) (fun hc => ?_)
          · skip
            obtain ⟨y, hy⟩ : ∃ y, ps[j]? = some y := by
              cases hy : ps[j]? with
              | none => rw [hy] at hz2; cases hz2
              | some y => exact ⟨y, rfl⟩
            have hyz : y.A = z.A ∧ y.n = z.n ∧ y.c = z.c := by
              rw [hy] at hz2
              have := Option.some.inj hz2
              simp only [Rw.hdr, Value.slice.injEq] at this
              exact this
            obtain ⟨hy1, hy2, hy3⟩ := hyz
            have hat := rows_at (E := 3) (B := blk gt 22 (([⟨q62.1, (mulP (mkm 6 a0) (trim (lowL (mkm 6 a0) l1)) (trim (lowL (mkm 6 a0) l2))).length, q62.2, nats .i64 (mulP (mkm 6 a0) (trim (lowL (mkm 6 a0) l1)) (trim (lowL (mkm 6 a0) l2)))⟩, ⟨none, 0, 0, []⟩, ⟨none, 0, 0, []⟩, ⟨q76.1, (trim (frP (mkm 6 a0) l1 l1.length)).length, q76.2, nats .i64 (trim (frP (mkm 6 a0) l1 l1.length))⟩, ⟨q85.1, (trim (lowL (mkm 6 a0) l1)).length, q85.2, nats .i64 (trim (lowL (mkm 6 a0) l1))⟩, ⟨q89.1, (addP (lowL (mkm 6 a0) l1) (lowL (mkm 6 a0) l2)).length, q89.2, nats .i64 (addP (lowL (mkm 6 a0) l1) (lowL (mkm 6 a0) l2))⟩, ⟨q92.1, (addP (lowL (mkm 6 a0) l1) (lowL (mkm 6 a0) [])).length, q92.2, nats .i64 (addP (lowL (mkm 6 a0) l1) (lowL (mkm 6 a0) []))⟩, ⟨q95.1, (scaleP (mkm 6 a0) (lowL (mkm 6 a0) l1) (lo (mkm 6 a0) 1)).length, q95.2, nats .i64 (scaleP (mkm 6 a0) (lowL (mkm 6 a0) l1) (lo (mkm 6 a0) 1))⟩, ⟨q98.1, (derP (lowL (mkm 6 a0) l1)).length, q98.2, nats .i64 (derP (lowL (mkm 6 a0) l1))⟩, ⟨q102.1, (monicP (mkm 6 a0) (gcdE (mkm 6 a0) (trim (lowL (mkm 6 a0) l1)) (trim (lowL (mkm 6 a0) l2)))).length, q102.2, nats .i64 (monicP (mkm 6 a0) (gcdE (mkm 6 a0) (trim (lowL (mkm 6 a0) l1)) (trim (lowL (mkm 6 a0) l2))))⟩, ⟨q105.1, (monicP (mkm 6 a0) (gcdE (mkm 6 a0) (trim (lowL (mkm 6 a0) l1)) (trim (lowL (mkm 6 a0) [])))).length, q105.2, nats .i64 (monicP (mkm 6 a0) (gcdE (mkm 6 a0) (trim (lowL (mkm 6 a0) l1)) (trim (lowL (mkm 6 a0) []))))⟩, ⟨q108.1, (rootsP (mkm 6 a0) (trim (lowL (mkm 6 a0) l1))).length, q108.2, nats .i64 (rootsP (mkm 6 a0) (trim (lowL (mkm 6 a0) l1)))⟩] : List Rw).map Rw.hdr).toArray) (rest := [own 3 1 qb.1 l2.length qb.2 (ints .i64 l2), own 3 1 qa.1 l1.length qa.2 (ints .i64 l1), blk q0.1 90 #[.pointer (some ⟨q0.2, 0, none⟩)], fieldA q0.2 (mkm 6 a0)]) hy
            rw [hy1, hy2, hy3] at hat
            have hst := fun xs => rows_set (E := 3) (B := blk gt 22 (([⟨q62.1, (mulP (mkm 6 a0) (trim (lowL (mkm 6 a0) l1)) (trim (lowL (mkm 6 a0) l2))).length, q62.2, nats .i64 (mulP (mkm 6 a0) (trim (lowL (mkm 6 a0) l1)) (trim (lowL (mkm 6 a0) l2)))⟩, ⟨none, 0, 0, []⟩, ⟨none, 0, 0, []⟩, ⟨q76.1, (trim (frP (mkm 6 a0) l1 l1.length)).length, q76.2, nats .i64 (trim (frP (mkm 6 a0) l1 l1.length))⟩, ⟨q85.1, (trim (lowL (mkm 6 a0) l1)).length, q85.2, nats .i64 (trim (lowL (mkm 6 a0) l1))⟩, ⟨q89.1, (addP (lowL (mkm 6 a0) l1) (lowL (mkm 6 a0) l2)).length, q89.2, nats .i64 (addP (lowL (mkm 6 a0) l1) (lowL (mkm 6 a0) l2))⟩, ⟨q92.1, (addP (lowL (mkm 6 a0) l1) (lowL (mkm 6 a0) [])).length, q92.2, nats .i64 (addP (lowL (mkm 6 a0) l1) (lowL (mkm 6 a0) []))⟩, ⟨q95.1, (scaleP (mkm 6 a0) (lowL (mkm 6 a0) l1) (lo (mkm 6 a0) 1)).length, q95.2, nats .i64 (scaleP (mkm 6 a0) (lowL (mkm 6 a0) l1) (lo (mkm 6 a0) 1))⟩, ⟨q98.1, (derP (lowL (mkm 6 a0) l1)).length, q98.2, nats .i64 (derP (lowL (mkm 6 a0) l1))⟩, ⟨q102.1, (monicP (mkm 6 a0) (gcdE (mkm 6 a0) (trim (lowL (mkm 6 a0) l1)) (trim (lowL (mkm 6 a0) l2)))).length, q102.2, nats .i64 (monicP (mkm 6 a0) (gcdE (mkm 6 a0) (trim (lowL (mkm 6 a0) l1)) (trim (lowL (mkm 6 a0) l2))))⟩, ⟨q105.1, (monicP (mkm 6 a0) (gcdE (mkm 6 a0) (trim (lowL (mkm 6 a0) l1)) (trim (lowL (mkm 6 a0) [])))).length, q105.2, nats .i64 (monicP (mkm 6 a0) (gcdE (mkm 6 a0) (trim (lowL (mkm 6 a0) l1)) (trim (lowL (mkm 6 a0) []))))⟩, ⟨q108.1, (rootsP (mkm 6 a0) (trim (lowL (mkm 6 a0) l1))).length, q108.2, nats .i64 (rootsP (mkm 6 a0) (trim (lowL (mkm 6 a0) l1)))⟩] : List Rw).map Rw.hdr).toArray) (rest := [own 3 1 qb.1 l2.length qb.2 (ints .i64 l2), own 3 1 qa.1 l1.length qa.2 (ints .i64 l1), blk q0.1 90 #[.pointer (some ⟨q0.2, 0, none⟩)], fieldA q0.2 (mkm 6 a0)]) xs hy
            rw [hy1, hy2, hy3] at hst
            have hhd := fun xs => rows_hdr xs hy
            rw [hy1, hy2, hy3] at hhd
            refine CW.know (fun w hw => hw.ownMax hat) (fun hmx => ?_)
            unfold maxLen at hmx
            refine CW.skip ?_
            refine KN.code ?_
            refine CW.seq ?_
            refine CW.block ?_
            refine CW.reg [0, 1, 2, 3] rfl ?_   -- 19, more.go:42
            refine s_mv 121 rfl rfl ?_
            refine s_mv 122 rfl rfl ?_
            refine s_iaO 123 (j + 1) i hat rfl rfl rfl rfl (by omega) ?_
            refine s_stO (j + 1) hat rfl rfl rfl rfl (by omega) (fun _ _ => trivial) ?_
            refine SX.end_ ?_
            refine KN.blk ?_
            refine KN.code ?_
            refine CW.reg [0, 1, 2] rfl ?_   -- 18, more.go:41
            refine s_mv 119 rfl rfl ?_
            refine s_add 120 rfl rfl rfl (r := ((i + 1 : Nat) : Int)) (w64 (by omega)) ?_
            refine s_as 22 rfl rfl ?_
            refine SX.end_ ?_
            exact KN.back (i + 1, ps.set j ⟨z.A, z.n, z.c, y.xs.set i (.int .i64 (-9))⟩) ⟨rfl, rfl, rfl, rfl, rfl, rfl, rfl, rfl, rfl, rfl, rfl, trivial⟩ (fun _ h => by rw [hst] at h; exact h) ⟨⟨by simp only; omega, by simp only; rw [hhd]; exact hP⟩, by simp only; rw [List.getElem?_set_self (List.getElem?_eq_some_iff.1 hy).1]; rfl⟩ (by simp only; omega)
          · skip
            refine CW.exit rfl ?_
            refine KN.blk ?_
            refine KN.code ?_
            refine CW.reg [0, 1] rfl ?_   -- 20, more.go:40
            refine s_add 124 rfl rfl rfl (r := ((j + 1 : Nat) : Int)) (w64 (by omega)) ?_
            refine s_mv 111 rfl rfl ?_
            refine SX.end_ ?_
            exact KN.back (j + 1, ps) ⟨rfl, rfl, rfl, rfl, rfl, rfl, rfl, rfl, rfl, trivial⟩ (fun _ h => h) ⟨by simp only; omega, hP⟩ (by simp only; omega)
        · skip
          refine CW.exit rfl ?_
          refine KN.blk ?_
          refine KN.code ?_
          refine CW.reg [0, 1, 2] rfl ?_   -- 9, more.go:36
          refine s_mv 56 rfl rfl ?_
          refine s_add 57 rfl rfl rfl (r := ((r + 1 : Nat) : Int)) (w64 (by omega)) ?_
          refine s_as 12 rfl rfl ?_
          refine SX.end_ ?_
          exact KN.back (r + 1) ⟨rfl, rfl, rfl, rfl, rfl, rfl, trivial⟩ (fun _ h => St.dropL _ h.tail) (by omega) (by omega)
      · skip
        refine CW.exit rfl ?_
        refine KN.code ?_
        refine CW.seq ?_
        refine CW.reg [0, 1, 2, 3, 4, 5, 6, 7, 8] rfl ?_   -- 21, more.go:46
        refine s_mv 125 rfl rfl ?_
        refine s_mv 126 rfl rfl ?_
        refine s_call1 127 rfl rfl rfl rfl (v := .bool true) (fun w hw => by have := sameInts_spec qa.1 A1 l1.length qa.2 l1.length c1 l1 l1 _ ((hw.has (i := 1) rfl).of_own) (hw.old hs1) (Nat.lt_of_le_of_lt (show l1.length ≤ 4294967296 from (by omega)) (by decide)); rw [decide_eq_true (rfl)] at this; exact this) (fun _ _ => trivial) ?_
        refine s_mv 128 rfl rfl ?_
        refine s_mv 129 rfl rfl ?_
        refine s_mv 130 rfl rfl ?_
        refine s_call1 131 rfl rfl rfl rfl (v := .bool true) (fun w hw => by have := sameInts_spec qb.1 A2 l2.length qb.2 l2.length c2 l2 l2 _ ((hw.has (i := 0) rfl).of_own) (hw.old hs2) (Nat.lt_of_le_of_lt (show l2.length ≤ 4294967296 from (by omega)) (by decide)); rw [decide_eq_true (rfl)] at this; exact this) (fun _ _ => trivial) ?_
        refine s_pickT 132 rfl rfl rfl ?_
        refine s_as 6 rfl rfl ?_
        refine SX.next ?_
        refine CW.ret ?_
        exact KN.ret (rs := [.tmp 6]) Tryd.results16 rfl (fun w hw => ⟨rfl, hw.nothing⟩)

set_option maxHeartbeats 1600000 in

theorem PolyOwn_s (a0 : Int) (A1 : Option Addr) (n1 c1 : Nat) (l1 : List Int) (A2 : Option Addr) (n2 c2 : Nat) (l2 : List Int) (e : Nat → Addr) (w : World) (hs1 : Has (sl 1 A1 n1 (ints .i64 l1)) w) (hn1 : n1 ≤ 9223372036854775807) (hs2 : Has (sl 1 A2 n2 (ints .i64 l2)) w) (hn2 : n2 ≤ 9223372036854775807) (hz : Er e w 1) (hl : Er e w 0) (h0 : (trim (lowL (mkm 6 a0) l2)).length ≠ 0) : Spec1 Tryd.prog 16 [.int .i64 a0, .slice A1 n1 c1, .slice A2 n2 c2] w (.bool true) := by
  have hm := mkm_ok (k := 6) (by omega) (by omega) a0
  have hla := ints_len hs1
  subst hla
  have hlb := ints_len hs2
  subst hlb
  refine spec_of Tryd.func16 rfl Tryd.ntmps16 rfl ?_
  refine CW.seq ?_
  refine CW.reg [0] rfl ?_   -- 0, more.go:28
  refine s_as 6 rfl rfl ?_
  refine SX.next ?_
  refine CW.seq ?_
  refine CW.reg [0, 1] rfl ?_   -- 1, more.go:29
  refine s_call1 23 rfl rfl rfl rfl (fun w hw => first4_spec w) (fun _ _ => trivial) ?_
  refine s_as 7 rfl rfl ?_
  refine SX.next ?_
  refine CW.seq ?_
  refine CW.reg [0, 1, 2, 3, 4, 5, 6] rfl ?_   -- 2, more.go:30
  refine s_mv 25 rfl rfl ?_
  refine s_call 26 rfl rfl rfl rfl (fun w hw => ring4_spec a0 w) (fun _ _ => trivial) (fun q0 _ => ?_)
  refine s_mv 24 rfl rfl ?_
  refine s_ext 27 rfl rfl rfl ?_
  refine s_ext 28 rfl rfl rfl ?_
  refine s_as 8 rfl rfl ?_
  refine s_as 9 rfl rfl ?_
  refine SX.next ?_
  refine CW.seq ?_
  refine CW.seq ?_
  refine CW.reg [0, 1, 2, 3, 4, 5, 6, 7, 8, 9, 10, 11, 12, 13, 14, 15] rfl ?_   -- 3, more.go:31
  refine s_mv 29 rfl rfl ?_
  refine s_eqPN 30 rfl rfl ?_
  refine s_mv 31 rfl rfl ?_
  refine s_mv 32 rfl rfl ?_
  refine s_len 33 rfl rfl ?_
  refine s_gt 34 rfl rfl rfl rfl ?_
  refine s_pickF 35 rfl rfl rfl ?_
  refine s_mv 36 rfl rfl ?_
  refine SX.bool 36 rfl (fun hb => ?_) (fun hb => ?_)
  · skip
    skip
    refine SX.skip rfl ?_
    refine SX.skip rfl ?_
    refine SX.skip rfl ?_
    refine s_pickT 40 rfl rfl rfl ?_
    refine s_mv 41 rfl rfl ?_
    refine SX.skip rfl ?_
    refine SX.skip rfl ?_
    refine s_pickT 44 rfl rfl rfl ?_
    refine SX.next ?_
    refine CW.condT rfl ?_
    refine CW.seq ?_
    refine CW.reg [0, 1, 2, 3, 4, 5] rfl ?_   -- 4, more.go:32
    refine s_mv 45 rfl rfl ?_
    refine s_mv 46 rfl rfl ?_
    refine s_mv 47 rfl rfl ?_
    refine s_nePN 48 rfl rfl ?_
    refine s_pickT 49 rfl rfl rfl ?_
    refine s_as 6 rfl rfl ?_
    refine SX.next ?_
    refine CW.ret ?_
    exact KN.ret (rs := [.tmp 6]) Tryd.results16 rfl (fun w hw => ⟨rfl, hw.nothing⟩)
  · skip
    have hp1 := hb
    refine s_mv 37 rfl rfl ?_
    refine s_len 38 rfl rfl ?_
    refine s_gt 39 rfl rfl rfl rfl ?_
    refine s_pickF 40 rfl rfl rfl ?_
    refine s_mv 41 rfl rfl ?_
    refine SX.bool 41 rfl (fun hb => ?_) (fun hb => ?_)
    · skip
      skip
      refine SX.skip rfl ?_
      refine SX.skip rfl ?_
      refine s_pickT 44 rfl rfl rfl ?_
      refine SX.next ?_
      refine CW.condT rfl ?_
      refine CW.seq ?_
      refine CW.reg [0, 1, 2, 3, 4, 5] rfl ?_   -- 4, more.go:32
      refine s_mv 45 rfl rfl ?_
      refine s_mv 46 rfl rfl ?_
      refine s_mv 47 rfl rfl ?_
      refine s_nePN 48 rfl rfl ?_
      refine s_pickT 49 rfl rfl rfl ?_
      refine s_as 6 rfl rfl ?_
      refine SX.next ?_
      refine CW.ret ?_
      exact KN.ret (rs := [.tmp 6]) Tryd.results16 rfl (fun w hw => ⟨rfl, hw.nothing⟩)
    · skip
      have hp1 := of_decide_eq_false hp1
      have hp2 := of_decide_eq_false hb
      have hx1 : l1.length ≤ 24 := by omega
      have hx2 : l2.length ≤ 24 := by omega
      have hT1 := trimLow_len (mkm 6 a0) l1
      have hT2 := trimLow_len (mkm 6 a0) l2
      have hR1 := trimLow_tr (mkm 6 a0) l1
      have hR2 := trimLow_tr (mkm 6 a0) l2
      have hL1 := lowL_len (mkm 6 a0) l1
      have hL2 := lowL_len (mkm 6 a0) l2
      have bMUL := mulP_le (mkm 6 a0) (trim (lowL (mkm 6 a0) l1)) (trim (lowL (mkm 6 a0) l2))
      have bMUL2 := mulP_le (mkm 6 a0) (trim (lowL (mkm 6 a0) l2)) (trim (lowL (mkm 6 a0) l1))
      have bADD := addP_le (lowL (mkm 6 a0) l1) (lowL (mkm 6 a0) l2)
      have bSC := fun x => scaleP_le (mkm 6 a0) (lowL (mkm 6 a0) l1) x
      have bDER := derP_le (lowL (mkm 6 a0) l1)
      have bGCD := gcdE_le (mkm 6 a0) (trim (lowL (mkm 6 a0) l1)) (trim (lowL (mkm 6 a0) l2))
      have bROOT := rootsP_len hm (trim (lowL (mkm 6 a0) l1))
      have bQU := quotP_le (mkm 6 a0) (trim (lowL (mkm 6 a0) l1)) (trim (lowL (mkm 6 a0) l2))
      have bRE := restP_le (mkm 6 a0) (trim (lowL (mkm 6 a0) l1)) (trim (lowL (mkm 6 a0) l2))
      refine s_mv 42 rfl rfl ?_
      refine s_not 43 rfl rfl ?_
      refine s_pickF 44 rfl rfl rfl ?_
      refine SX.next ?_
      refine CW.condF rfl ?_
      refine CW.skip ?_
      refine KN.code ?_
      refine CW.seq ?_
      refine CW.reg [0, 1, 2] rfl ?_   -- 5, more.go:34
      refine s_mv 50 rfl rfl ?_
      refine s_call 51 rfl rfl rfl rfl (fun w hw => rints_spec A1 l1.length c1 l1 _ (hw.old hs1) (by omega)) (fun _ _ => trivial) (fun qa hqa => ?_)
      refine s_as 10 rfl rfl ?_
      refine SX.next ?_
      refine CW.seq ?_
      refine CW.reg [0, 1, 2] rfl ?_   -- 6, more.go:35
      refine s_mv 52 rfl rfl ?_
      refine s_call 53 rfl rfl rfl rfl (fun w hw => rints_spec A2 l2.length c2 l2 _ (hw.old hs2) (by omega)) (fun _ _ => trivial) (fun qb hqb => ?_)
      refine s_as 11 rfl rfl ?_
      refine SX.next ?_
      refine CW.seq ?_
      refine CW.seq ?_
      refine CW.reg [0] rfl ?_   -- 7, more.go:36
      refine s_as 12 rfl rfl ?_
      refine SX.next ?_
      refine CW.block ?_
      refine CW.loop (G := Nat) (fun r => [(1, .slice A1 l1.length c1), (2, .slice A2 l2.length c2), (8, .pointer (some ⟨q0.1, 0, none⟩)), (10, .slice qa.1 l1.length qa.2), (11, .slice qb.1 l2.length qb.2), (12, .int .i64 (r : Nat))]) (fun _ => Sto w [own 3 1 qb.1 l2.length qb.2 (ints .i64 l2), own 3 1 qa.1 l1.length qa.2 (ints .i64 l1), blk q0.1 90 #[.pointer (some ⟨q0.2, 0, none⟩)], fieldA q0.2 (mkm 6 a0)]) (fun r => r ≤ 2) (fun r => 2 - r) 0 ⟨rfl, rfl, rfl, rfl, rfl, rfl, trivial⟩ (fun _ h => h) (Nat.zero_le _) ?_
      intro r hr
      refine CW.seq ?_
      refine CW.seq ?_
      refine CW.reg [0, 1] rfl ?_   -- 8, more.go:36
      refine s_mv 54 rfl rfl ?_
      refine s_lt 55 rfl rfl rfl rfl ?_
      refine SX.next ?_
      refine CW.test rfl (fun hc => ?_) (fun hc => ?_)
      · skip
        refine CW.skip ?_
        refine KN.code ?_
        refine CW.seq ?_
        refine CW.block ?_
        refine CW.seq ?_
        refine CW.reg [0, 1, 2, 3, 4, 5, 6, 7, 8] rfl ?_   -- 10, more.go:37
        refine s_mv 59 rfl rfl ?_
        refine s_mv 60 rfl rfl ?_
        refine s_mv 61 rfl rfl ?_
        refine s_call 62 rfl rfl rfl rfl (fun w hw => by have := pmul_spec q0.1 q0.2 (mkm 6 a0) qa.1 l1.length qa.2 l1 qb.1 l2.length qb.2 l2 _ hm (ring_of (hw.has (i := 3) rfl) (hw.has (i := 2) rfl)) ((hw.has (i := 1) rfl).of_own) ((hw.has (i := 0) rfl).of_own) (by omega) (by omega) (by omega); exact this) (fun _ _ => trivial) (fun q62 hq62 => ?_)
        refine s_mv 58 rfl rfl ?_
        refine s_ext 63 rfl rfl rfl ?_
        refine s_ext 64 rfl rfl rfl ?_
        refine s_as 13 rfl rfl ?_
        refine s_as 14 rfl rfl ?_
        refine SX.next ?_
        refine CW.seq ?_
        refine CW.reg [0, 1, 2, 3, 4, 5, 6, 7, 8, 9, 10] rfl ?_   -- 11, more.go:38
        refine s_mv 66 rfl rfl ?_
        refine s_mv 67 rfl rfl ?_
        refine s_mv 68 rfl rfl ?_
        refine s_call 69 rfl rfl rfl rfl (fun w hw => by have := pdiv_spec q0.1 q0.2 (mkm 6 a0) qa.1 l1.length qa.2 l1 qb.1 l2.length qb.2 l2 _ hm (ring_of (hw.has (i := 4) rfl) (hw.has (i := 3) rfl)) ((hw.has (i := 2) rfl).of_own) ((hw.has (i := 1) rfl).of_own) (by omega) (by omega) h0; exact this) (fun _ _ => trivial) (fun q69 hq69 => ?_)
        refine s_mv 65 rfl rfl ?_
        refine s_ext 70 rfl rfl rfl ?_
        refine s_ext 71 rfl rfl rfl ?_
        refine s_ext 72 rfl rfl rfl ?_
        refine s_as 15 rfl rfl ?_
        refine s_as 16 rfl rfl ?_
        refine s_as 17 rfl rfl ?_
        refine SX.next ?_
        refine CW.seq ?_
        refine CW.reg [0, 1, 2, 3, 4, 5, 6, 7] rfl ?_   -- 12, more.go:39
        refine s_mv 74 rfl rfl ?_
        refine s_mv 75 rfl rfl ?_
        refine s_call 76 rfl rfl rfl rfl (fun w hw => by have := pfrom_spec q0.1 q0.2 (mkm 6 a0) qa.1 l1.length qa.2 l1 _ hm (ring_of (hw.has (i := 6) rfl) (hw.has (i := 5) rfl)) ((hw.has (i := 4) rfl).of_own) (by omega); exact this) (fun _ _ => trivial) (fun q76 hq76 => ?_)
        refine s_mv 73 rfl rfl ?_
        refine s_ext 77 rfl rfl rfl ?_
        refine s_ext 78 rfl rfl rfl ?_
        refine s_as 18 rfl rfl ?_
        refine s_as 19 rfl rfl ?_
        refine SX.next ?_
        refine CW.seq ?_
        refine CW.reg [0, 1, 2, 3, 4, 5, 6, 7, 8, 9, 10, 11, 12, 13, 14, 15, 16, 17, 18, 19, 20, 21, 22, 23, 24, 25, 26, 27, 28, 29, 30, 31, 32] rfl ?_   -- 13, more.go:40
        refine s_mv 79 rfl rfl ?_
        refine s_mv 80 rfl rfl ?_
        refine s_mv 81 rfl rfl ?_
        refine s_mv 82 rfl rfl ?_
        refine s_mv 83 rfl rfl ?_
        refine s_mv 84 rfl rfl ?_
        refine s_call 85 rfl rfl rfl rfl (fun w hw => by have := trim_spec q0.1 q0.2 (mkm 6 a0) qa.1 l1.length qa.2 l1 _ hm (ring_of (hw.has (i := 7) rfl) (hw.has (i := 6) rfl)) ((hw.has (i := 5) rfl).of_own) (by omega); exact this) (fun _ _ => trivial) (fun q85 hq85 => ?_)
        refine s_mv 86 rfl rfl ?_
        refine s_mv 87 rfl rfl ?_
        refine s_mv 88 rfl rfl ?_
        refine s_call 89 rfl rfl rfl rfl (fun w hw => by have := padd_spec q0.1 q0.2 (mkm 6 a0) qa.1 l1.length qa.2 l1 qb.1 l2.length qb.2 l2 _ hm (ring_of (hw.has (i := 8) rfl) (hw.has (i := 7) rfl)) ((hw.has (i := 6) rfl).of_own) ((hw.has (i := 5) rfl).of_own) (by omega) (by omega); exact this) (fun _ _ => trivial) (fun q89 hq89 => ?_)
        refine s_mv 90 rfl rfl ?_
        refine s_mv 91 rfl rfl ?_
        refine s_call 92 rfl rfl rfl rfl (fun w hw => by have := padd_spec q0.1 q0.2 (mkm 6 a0) qa.1 l1.length qa.2 l1 none 0 0 [] _ hm (ring_of (hw.has (i := 9) rfl) (hw.has (i := 8) rfl)) ((hw.has (i := 7) rfl).of_own) (Has.sl_nil _ 1 none) (by omega) (by omega); exact this) (fun _ _ => trivial) (fun q92 hq92 => ?_)
        refine s_mv 93 rfl rfl ?_
        refine s_mv 94 rfl rfl ?_
        refine s_call 95 rfl rfl rfl rfl (fun w hw => by have := scale_spec q0.1 q0.2 (mkm 6 a0) qa.1 l1.length qa.2 l1 1 _ hm (ring_of (hw.has (i := 10) rfl) (hw.has (i := 9) rfl)) ((hw.has (i := 8) rfl).of_own) (by omega); exact this) (fun _ _ => trivial) (fun q95 hq95 => ?_)
        refine s_mv 96 rfl rfl ?_
        refine s_mv 97 rfl rfl ?_
        refine s_call 98 rfl rfl rfl rfl (fun w hw => by have := derive_spec q0.1 q0.2 (mkm 6 a0) qa.1 l1.length qa.2 l1 _ hm (ring_of (hw.has (i := 11) rfl) (hw.has (i := 10) rfl)) ((hw.has (i := 9) rfl).of_own) (by omega); exact this) (fun _ _ => trivial) (fun q98 hq98 => ?_)
        refine s_mv 99 rfl rfl ?_
        refine s_mv 100 rfl rfl ?_
        refine s_mv 101 rfl rfl ?_
        refine s_call 102 rfl rfl rfl rfl (fun w hw => by have := pgcd_spec q0.1 q0.2 (mkm 6 a0) qa.1 l1.length qa.2 l1 qb.1 l2.length qb.2 l2 _ hm (ring_of (hw.has (i := 12) rfl) (hw.has (i := 11) rfl)) ((hw.has (i := 10) rfl).of_own) ((hw.has (i := 9) rfl).of_own) (by omega) (by omega); exact this) (fun _ _ => trivial) (fun q102 hq102 => ?_)
        refine s_mv 103 rfl rfl ?_
        refine s_mv 104 rfl rfl ?_
        refine s_call 105 rfl rfl rfl rfl (fun w hw => by have := pgcd_spec q0.1 q0.2 (mkm 6 a0) qa.1 l1.length qa.2 l1 none 0 0 [] _ hm (ring_of (hw.has (i := 13) rfl) (hw.has (i := 12) rfl)) ((hw.has (i := 11) rfl).of_own) (Has.sl_nil _ 1 none) (by omega) (by omega); exact this) (fun _ _ => trivial) (fun q105 hq105 => ?_)
        refine s_mv 106 rfl rfl ?_
        refine s_mv 107 rfl rfl ?_
        refine s_call 108 rfl rfl rfl rfl (fun w hw => by have := proots_spec q0.1 q0.2 (mkm 6 a0) qa.1 l1.length qa.2 l1 _ hm (ring_of (hw.has (i := 14) rfl) (hw.has (i := 13) rfl)) ((hw.has (i := 12) rfl).of_own) (by omega); exact this) (fun _ _ => trivial) (fun q108 hq108 => ?_)
        refine s_bsl 109 rfl rfl (cells := #[.slice q62.1 (mulP (mkm 6 a0) (trim (lowL (mkm 6 a0) l1)) (trim (lowL (mkm 6 a0) l2))).length q62.2, .slice q69.1.1 (quotP (mkm 6 a0) (trim (lowL (mkm 6 a0) l1)) (trim (lowL (mkm 6 a0) l2))).length q69.1.2, .slice q69.2.1 (restP (mkm 6 a0) (trim (lowL (mkm 6 a0) l1)) (trim (lowL (mkm 6 a0) l2))).length q69.2.2, .slice q76.1 (trim (frP (mkm 6 a0) l1 l1.length)).length q76.2, .slice q85.1 (trim (lowL (mkm 6 a0) l1)).length q85.2, .slice q89.1 (addP (lowL (mkm 6 a0) l1) (lowL (mkm 6 a0) l2)).length q89.2, .slice q92.1 (addP (lowL (mkm 6 a0) l1) (lowL (mkm 6 a0) [])).length q92.2, .slice q95.1 (scaleP (mkm 6 a0) (lowL (mkm 6 a0) l1) (lo (mkm 6 a0) 1)).length q95.2, .slice q98.1 (derP (lowL (mkm 6 a0) l1)).length q98.2, .slice q102.1 (monicP (mkm 6 a0) (gcdE (mkm 6 a0) (trim (lowL (mkm 6 a0) l1)) (trim (lowL (mkm 6 a0) l2)))).length q102.2, .slice q105.1 (monicP (mkm 6 a0) (gcdE (mkm 6 a0) (trim (lowL (mkm 6 a0) l1)) (trim (lowL (mkm 6 a0) [])))).length q105.2, .slice q108.1 (rootsP (mkm 6 a0) (trim (lowL (mkm 6 a0) l1))).length q108.2]) (by kernel_rfl) rfl (fun _ _ => trivial) (fun gt => ?_)
        refine s_len 110 rfl rfl ?_
        refine s_mv 111 rfl rfl ?_
        refine SX.next ?_
        refine CW.block ?_
        refine CW.loop (G := Nat × List Rw) (fun q => [(1, .slice A1 l1.length c1), (2, .slice A2 l2.length c2), (8, .pointer (some ⟨q0.1, 0, none⟩)), (10, .slice qa.1 l1.length qa.2), (11, .slice qb.1 l2.length qb.2), (12, .int .i64 (r : Nat)), (109, .slice (some ⟨gt, 0, none⟩) 12 12), (110, .int .i64 12), (111, .int .i64 (q.1 : Nat))]) (fun q => Sto w (blk gt 22 (([⟨q62.1, (mulP (mkm 6 a0) (trim (lowL (mkm 6 a0) l1)) (trim (lowL (mkm 6 a0) l2))).length, q62.2, nats .i64 (mulP (mkm 6 a0) (trim (lowL (mkm 6 a0) l1)) (trim (lowL (mkm 6 a0) l2)))⟩, ⟨q69.1.1, (quotP (mkm 6 a0) (trim (lowL (mkm 6 a0) l1)) (trim (lowL (mkm 6 a0) l2))).length, q69.1.2, nats .i64 (quotP (mkm 6 a0) (trim (lowL (mkm 6 a0) l1)) (trim (lowL (mkm 6 a0) l2)))⟩, ⟨q69.2.1, (restP (mkm 6 a0) (trim (lowL (mkm 6 a0) l1)) (trim (lowL (mkm 6 a0) l2))).length, q69.2.2, nats .i64 (restP (mkm 6 a0) (trim (lowL (mkm 6 a0) l1)) (trim (lowL (mkm 6 a0) l2)))⟩, ⟨q76.1, (trim (frP (mkm 6 a0) l1 l1.length)).length, q76.2, nats .i64 (trim (frP (mkm 6 a0) l1 l1.length))⟩, ⟨q85.1, (trim (lowL (mkm 6 a0) l1)).length, q85.2, nats .i64 (trim (lowL (mkm 6 a0) l1))⟩, ⟨q89.1, (addP (lowL (mkm 6 a0) l1) (lowL (mkm 6 a0) l2)).length, q89.2, nats .i64 (addP (lowL (mkm 6 a0) l1) (lowL (mkm 6 a0) l2))⟩, ⟨q92.1, (addP (lowL (mkm 6 a0) l1) (lowL (mkm 6 a0) [])).length, q92.2, nats .i64 (addP (lowL (mkm 6 a0) l1) (lowL (mkm 6 a0) []))⟩, ⟨q95.1, (scaleP (mkm 6 a0) (lowL (mkm 6 a0) l1) (lo (mkm 6 a0) 1)).length, q95.2, nats .i64 (scaleP (mkm 6 a0) (lowL (mkm 6 a0) l1) (lo (mkm 6 a0) 1))⟩, ⟨q98.1, (derP (lowL (mkm 6 a0) l1)).length, q98.2, nats .i64 (derP (lowL (mkm 6 a0) l1))⟩, ⟨q102.1, (monicP (mkm 6 a0) (gcdE (mkm 6 a0) (trim (lowL (mkm 6 a0) l1)) (trim (lowL (mkm 6 a0) l2)))).length, q102.2, nats .i64 (monicP (mkm 6 a0) (gcdE (mkm 6 a0) (trim (lowL (mkm 6 a0) l1)) (trim (lowL (mkm 6 a0) l2))))⟩, ⟨q105.1, (monicP (mkm 6 a0) (gcdE (mkm 6 a0) (trim (lowL (mkm 6 a0) l1)) (trim (lowL (mkm 6 a0) [])))).length, q105.2, nats .i64 (monicP (mkm 6 a0) (gcdE (mkm 6 a0) (trim (lowL (mkm 6 a0) l1)) (trim (lowL (mkm 6 a0) []))))⟩, ⟨q108.1, (rootsP (mkm 6 a0) (trim (lowL (mkm 6 a0) l1))).length, q108.2, nats .i64 (rootsP (mkm 6 a0) (trim (lowL (mkm 6 a0) l1)))⟩] : List Rw).map Rw.hdr).toArray :: (q.2.map (ownR 3) ++ [own 3 1 qb.1 l2.length qb.2 (ints .i64 l2), own 3 1 qa.1 l1.length qa.2 (ints .i64 l1), blk q0.1 90 #[.pointer (some ⟨q0.2, 0, none⟩)], fieldA q0.2 (mkm 6 a0)]))) (fun q => q.1 ≤ 12 ∧ q.2.map Rw.hdr = ([⟨q62.1, (mulP (mkm 6 a0) (trim (lowL (mkm 6 a0) l1)) (trim (lowL (mkm 6 a0) l2))).length, q62.2, nats .i64 (mulP (mkm 6 a0) (trim (lowL (mkm 6 a0) l1)) (trim (lowL (mkm 6 a0) l2)))⟩, ⟨q69.1.1, (quotP (mkm 6 a0) (trim (lowL (mkm 6 a0) l1)) (trim (lowL (mkm 6 a0) l2))).length, q69.1.2, nats .i64 (quotP (mkm 6 a0) (trim (lowL (mkm 6 a0) l1)) (trim (lowL (mkm 6 a0) l2)))⟩, ⟨q69.2.1, (restP (mkm 6 a0) (trim (lowL (mkm 6 a0) l1)) (trim (lowL (mkm 6 a0) l2))).length, q69.2.2, nats .i64 (restP (mkm 6 a0) (trim (lowL (mkm 6 a0) l1)) (trim (lowL (mkm 6 a0) l2)))⟩, ⟨q76.1, (trim (frP (mkm 6 a0) l1 l1.length)).length, q76.2, nats .i64 (trim (frP (mkm 6 a0) l1 l1.length))⟩, ⟨q85.1, (trim (lowL (mkm 6 a0) l1)).length, q85.2, nats .i64 (trim (lowL (mkm 6 a0) l1))⟩, ⟨q89.1, (addP (lowL (mkm 6 a0) l1) (lowL (mkm 6 a0) l2)).length, q89.2, nats .i64 (addP (lowL (mkm 6 a0) l1) (lowL (mkm 6 a0) l2))⟩, ⟨q92.1, (addP (lowL (mkm 6 a0) l1) (lowL (mkm 6 a0) [])).length, q92.2, nats .i64 (addP (lowL (mkm 6 a0) l1) (lowL (mkm 6 a0) []))⟩, ⟨q95.1, (scaleP (mkm 6 a0) (lowL (mkm 6 a0) l1) (lo (mkm 6 a0) 1)).length, q95.2, nats .i64 (scaleP (mkm 6 a0) (lowL (mkm 6 a0) l1) (lo (mkm 6 a0) 1))⟩, ⟨q98.1, (derP (lowL (mkm 6 a0) l1)).length, q98.2, nats .i64 (derP (lowL (mkm 6 a0) l1))⟩, ⟨q102.1, (monicP (mkm 6 a0) (gcdE (mkm 6 a0) (trim (lowL (mkm 6 a0) l1)) (trim (lowL (mkm 6 a0) l2)))).length, q102.2, nats .i64 (monicP (mkm 6 a0) (gcdE (mkm 6 a0) (trim (lowL (mkm 6 a0) l1)) (trim (lowL (mkm 6 a0) l2))))⟩, ⟨q105.1, (monicP (mkm 6 a0) (gcdE (mkm 6 a0) (trim (lowL (mkm 6 a0) l1)) (trim (lowL (mkm 6 a0) [])))).length, q105.2, nats .i64 (monicP (mkm 6 a0) (gcdE (mkm 6 a0) (trim (lowL (mkm 6 a0) l1)) (trim (lowL (mkm 6 a0) []))))⟩, ⟨q108.1, (rootsP (mkm 6 a0) (trim (lowL (mkm 6 a0) l1))).length, q108.2, nats .i64 (rootsP (mkm 6 a0) (trim (lowL (mkm 6 a0) l1)))⟩] : List Rw).map Rw.hdr) (fun q => 12 - q.1) (0, [⟨q62.1, (mulP (mkm 6 a0) (trim (lowL (mkm 6 a0) l1)) (trim (lowL (mkm 6 a0) l2))).length, q62.2, nats .i64 (mulP (mkm 6 a0) (trim (lowL (mkm 6 a0) l1)) (trim (lowL (mkm 6 a0) l2)))⟩, ⟨q69.1.1, (quotP (mkm 6 a0) (trim (lowL (mkm 6 a0) l1)) (trim (lowL (mkm 6 a0) l2))).length, q69.1.2, nats .i64 (quotP (mkm 6 a0) (trim (lowL (mkm 6 a0) l1)) (trim (lowL (mkm 6 a0) l2)))⟩, ⟨q69.2.1, (restP (mkm 6 a0) (trim (lowL (mkm 6 a0) l1)) (trim (lowL (mkm 6 a0) l2))).length, q69.2.2, nats .i64 (restP (mkm 6 a0) (trim (lowL (mkm 6 a0) l1)) (trim (lowL (mkm 6 a0) l2)))⟩, ⟨q76.1, (trim (frP (mkm 6 a0) l1 l1.length)).length, q76.2, nats .i64 (trim (frP (mkm 6 a0) l1 l1.length))⟩, ⟨q85.1, (trim (lowL (mkm 6 a0) l1)).length, q85.2, nats .i64 (trim (lowL (mkm 6 a0) l1))⟩, ⟨q89.1, (addP (lowL (mkm 6 a0) l1) (lowL (mkm 6 a0) l2)).length, q89.2, nats .i64 (addP (lowL (mkm 6 a0) l1) (lowL (mkm 6 a0) l2))⟩, ⟨q92.1, (addP (lowL (mkm 6 a0) l1) (lowL (mkm 6 a0) [])).length, q92.2, nats .i64 (addP (lowL (mkm 6 a0) l1) (lowL (mkm 6 a0) []))⟩, ⟨q95.1, (scaleP (mkm 6 a0) (lowL (mkm 6 a0) l1) (lo (mkm 6 a0) 1)).length, q95.2, nats .i64 (scaleP (mkm 6 a0) (lowL (mkm 6 a0) l1) (lo (mkm 6 a0) 1))⟩, ⟨q98.1, (derP (lowL (mkm 6 a0) l1)).length, q98.2, nats .i64 (derP (lowL (mkm 6 a0) l1))⟩, ⟨q102.1, (monicP (mkm 6 a0) (gcdE (mkm 6 a0) (trim (lowL (mkm 6 a0) l1)) (trim (lowL (mkm 6 a0) l2)))).length, q102.2, nats .i64 (monicP (mkm 6 a0) (gcdE (mkm 6 a0) (trim (lowL (mkm 6 a0) l1)) (trim (lowL (mkm 6 a0) l2))))⟩, ⟨q105.1, (monicP (mkm 6 a0) (gcdE (mkm 6 a0) (trim (lowL (mkm 6 a0) l1)) (trim (lowL (mkm 6 a0) [])))).length, q105.2, nats .i64 (monicP (mkm 6 a0) (gcdE (mkm 6 a0) (trim (lowL (mkm 6 a0) l1)) (trim (lowL (mkm 6 a0) []))))⟩, ⟨q108.1, (rootsP (mkm 6 a0) (trim (lowL (mkm 6 a0) l1))).length, q108.2, nats .i64 (rootsP (mkm 6 a0) (trim (lowL (mkm 6 a0) l1)))⟩]) ⟨rfl, rfl, rfl, rfl, rfl, rfl, rfl, rfl, rfl, trivial⟩ (fun _ h => h.pick [0, 11, 10, 9, 8, 7, 6, 5, 4, 3, 2, 1, 0, 0, 0, 0, 0] rfl) ⟨Nat.zero_le _, rfl⟩ ?_
        rintro ⟨j, qs⟩ ⟨hj, hH⟩
        simp only at hj hH
        have hql : qs.length = 12 := by
          have := congrArg List.length hH
          simpa using this
        dsimp only
        refine CW.seq ?_
        refine CW.reg [0] rfl ?_   -- 14, more.go:40
        refine s_lt 112 rfl rfl rfl rfl ?_
        refine SX.next ?_
        refine CW.seq ?_
        refine CW.test rfl (fun hc => ?_) (fun hc => ?_)
        · skip
          obtain ⟨z, hzq⟩ : ∃ z, qs[j]? = some z := ⟨_, List.getElem?_eq_getElem (by omega)⟩
          have hcell : (([⟨q62.1, (mulP (mkm 6 a0) (trim (lowL (mkm 6 a0) l1)) (trim (lowL (mkm 6 a0) l2))).length, q62.2, nats .i64 (mulP (mkm 6 a0) (trim (lowL (mkm 6 a0) l1)) (trim (lowL (mkm 6 a0) l2)))⟩, ⟨q69.1.1, (quotP (mkm 6 a0) (trim (lowL (mkm 6 a0) l1)) (trim (lowL (mkm 6 a0) l2))).length, q69.1.2, nats .i64 (quotP (mkm 6 a0) (trim (lowL (mkm 6 a0) l1)) (trim (lowL (mkm 6 a0) l2)))⟩, ⟨q69.2.1, (restP (mkm 6 a0) (trim (lowL (mkm 6 a0) l1)) (trim (lowL (mkm 6 a0) l2))).length, q69.2.2, nats .i64 (restP (mkm 6 a0) (trim (lowL (mkm 6 a0) l1)) (trim (lowL (mkm 6 a0) l2)))⟩, ⟨q76.1, (trim (frP (mkm 6 a0) l1 l1.length)).length, q76.2, nats .i64 (trim (frP (mkm 6 a0) l1 l1.length))⟩, ⟨q85.1, (trim (lowL (mkm 6 a0) l1)).length, q85.2, nats .i64 (trim (lowL (mkm 6 a0) l1))⟩, ⟨q89.1, (addP (lowL (mkm 6 a0) l1) (lowL (mkm 6 a0) l2)).length, q89.2, nats .i64 (addP (lowL (mkm 6 a0) l1) (lowL (mkm 6 a0) l2))⟩, ⟨q92.1, (addP (lowL (mkm 6 a0) l1) (lowL (mkm 6 a0) [])).length, q92.2, nats .i64 (addP (lowL (mkm 6 a0) l1) (lowL (mkm 6 a0) []))⟩, ⟨q95.1, (scaleP (mkm 6 a0) (lowL (mkm 6 a0) l1) (lo (mkm 6 a0) 1)).length, q95.2, nats .i64 (scaleP (mkm 6 a0) (lowL (mkm 6 a0) l1) (lo (mkm 6 a0) 1))⟩, ⟨q98.1, (derP (lowL (mkm 6 a0) l1)).length, q98.2, nats .i64 (derP (lowL (mkm 6 a0) l1))⟩, ⟨q102.1, (monicP (mkm 6 a0) (gcdE (mkm 6 a0) (trim (lowL (mkm 6 a0) l1)) (trim (lowL (mkm 6 a0) l2)))).length, q102.2, nats .i64 (monicP (mkm 6 a0) (gcdE (mkm 6 a0) (trim (lowL (mkm 6 a0) l1)) (trim (lowL (mkm 6 a0) l2))))⟩, ⟨q105.1, (monicP (mkm 6 a0) (gcdE (mkm 6 a0) (trim (lowL (mkm 6 a0) l1)) (trim (lowL (mkm 6 a0) [])))).length, q105.2, nats .i64 (monicP (mkm 6 a0) (gcdE (mkm 6 a0) (trim (lowL (mkm 6 a0) l1)) (trim (lowL (mkm 6 a0) []))))⟩, ⟨q108.1, (rootsP (mkm 6 a0) (trim (lowL (mkm 6 a0) l1))).length, q108.2, nats .i64 (rootsP (mkm 6 a0) (trim (lowL (mkm 6 a0) l1)))⟩] : List Rw).map Rw.hdr).toArray[j]? = some (Rw.hdr z) := by rw [← hH, List.getElem?_toArray, List.getElem?_map, hzq]; rfl
          refine CW.skip ?_
          refine KN.code ?_
          refine CW.seq ?_
          refine CW.block ?_
          refine CW.seq ?_
          refine CW.reg [0, 1, 2] rfl ?_   -- 15, more.go:40
          refine s_ia0 113 j rfl rfl rfl rfl (by omega) ?_
          refine s_ldB 114 0 rfl rfl rfl (v := .slice z.A z.n z.c) hcell ?_
          refine s_as 21 rfl rfl ?_
          refine SX.next ?_
          refine CW.seq ?_
          refine CW.reg [0] rfl ?_   -- 16, more.go:41
          refine s_as 22 rfl rfl ?_
          refine SX.next ?_
          refine CW.block ?_
          refine CW.loop (G := Nat × List Rw) (fun q => [(1, .slice A1 l1.length c1), (2, .slice A2 l2.length c2), (8, .pointer (some ⟨q0.1, 0, none⟩)), (10, .slice qa.1 l1.length qa.2), (11, .slice qb.1 l2.length qb.2), (12, .int .i64 (r : Nat)), (109, .slice (some ⟨gt, 0, none⟩) 12 12), (110, .int .i64 12), (111, .int .i64 (j : Nat)), (21, .slice z.A z.n z.c), (22, .int .i64 (q.1 : Nat))]) (fun q => Sto w (blk gt 22 (([⟨q62.1, (mulP (mkm 6 a0) (trim (lowL (mkm 6 a0) l1)) (trim (lowL (mkm 6 a0) l2))).length, q62.2, nats .i64 (mulP (mkm 6 a0) (trim (lowL (mkm 6 a0) l1)) (trim (lowL (mkm 6 a0) l2)))⟩, ⟨q69.1.1, (quotP (mkm 6 a0) (trim (lowL (mkm 6 a0) l1)) (trim (lowL (mkm 6 a0) l2))).length, q69.1.2, nats .i64 (quotP (mkm 6 a0) (trim (lowL (mkm 6 a0) l1)) (trim (lowL (mkm 6 a0) l2)))⟩, ⟨q69.2.1, (restP (mkm 6 a0) (trim (lowL (mkm 6 a0) l1)) (trim (lowL (mkm 6 a0) l2))).length, q69.2.2, nats .i64 (restP (mkm 6 a0) (trim (lowL (mkm 6 a0) l1)) (trim (lowL (mkm 6 a0) l2)))⟩, ⟨q76.1, (trim (frP (mkm 6 a0) l1 l1.length)).length, q76.2, nats .i64 (trim (frP (mkm 6 a0) l1 l1.length))⟩, ⟨q85.1, (trim (lowL (mkm 6 a0) l1)).length, q85.2, nats .i64 (trim (lowL (mkm 6 a0) l1))⟩, ⟨q89.1, (addP (lowL (mkm 6 a0) l1) (lowL (mkm 6 a0) l2)).length, q89.2, nats .i64 (addP (lowL (mkm 6 a0) l1) (lowL (mkm 6 a0) l2))⟩, ⟨q92.1, (addP (lowL (mkm 6 a0) l1) (lowL (mkm 6 a0) [])).length, q92.2, nats .i64 (addP (lowL (mkm 6 a0) l1) (lowL (mkm 6 a0) []))⟩, ⟨q95.1, (scaleP (mkm 6 a0) (lowL (mkm 6 a0) l1) (lo (mkm 6 a0) 1)).length, q95.2, nats .i64 (scaleP (mkm 6 a0) (lowL (mkm 6 a0) l1) (lo (mkm 6 a0) 1))⟩, ⟨q98.1, (derP (lowL (mkm 6 a0) l1)).length, q98.2, nats .i64 (derP (lowL (mkm 6 a0) l1))⟩, ⟨q102.1, (monicP (mkm 6 a0) (gcdE (mkm 6 a0) (trim (lowL (mkm 6 a0) l1)) (trim (lowL (mkm 6 a0) l2)))).length, q102.2, nats .i64 (monicP (mkm 6 a0) (gcdE (mkm 6 a0) (trim (lowL (mkm 6 a0) l1)) (trim (lowL (mkm 6 a0) l2))))⟩, ⟨q105.1, (monicP (mkm 6 a0) (gcdE (mkm 6 a0) (trim (lowL (mkm 6 a0) l1)) (trim (lowL (mkm 6 a0) [])))).length, q105.2, nats .i64 (monicP (mkm 6 a0) (gcdE (mkm 6 a0) (trim (lowL (mkm 6 a0) l1)) (trim (lowL (mkm 6 a0) []))))⟩, ⟨q108.1, (rootsP (mkm 6 a0) (trim (lowL (mkm 6 a0) l1))).length, q108.2, nats .i64 (rootsP (mkm 6 a0) (trim (lowL (mkm 6 a0) l1)))⟩] : List Rw).map Rw.hdr).toArray :: (q.2.map (ownR 3) ++ [own 3 1 qb.1 l2.length qb.2 (ints .i64 l2), own 3 1 qa.1 l1.length qa.2 (ints .i64 l1), blk q0.1 90 #[.pointer (some ⟨q0.2, 0, none⟩)], fieldA q0.2 (mkm 6 a0)]))) (fun q => (q.1 ≤ z.n ∧ q.2.map Rw.hdr = ([⟨q62.1, (mulP (mkm 6 a0) (trim (lowL (mkm 6 a0) l1)) (trim (lowL (mkm 6 a0) l2))).length, q62.2, nats .i64 (mulP (mkm 6 a0) (trim (lowL (mkm 6 a0) l1)) (trim (lowL (mkm 6 a0) l2)))⟩, ⟨q69.1.1, (quotP (mkm 6 a0) (trim (lowL (mkm 6 a0) l1)) (trim (lowL (mkm 6 a0) l2))).length, q69.1.2, nats .i64 (quotP (mkm 6 a0) (trim (lowL (mkm 6 a0) l1)) (trim (lowL (mkm 6 a0) l2)))⟩, ⟨q69.2.1, (restP (mkm 6 a0) (trim (lowL (mkm 6 a0) l1)) (trim (lowL (mkm 6 a0) l2))).length, q69.2.2, nats .i64 (restP (mkm 6 a0) (trim (lowL (mkm 6 a0) l1)) (trim (lowL (mkm 6 a0) l2)))⟩, ⟨q76.1, (trim (frP (mkm 6 a0) l1 l1.length)).length, q76.2, nats .i64 (trim (frP (mkm 6 a0) l1 l1.length))⟩, ⟨q85.1, (trim (lowL (mkm 6 a0) l1)).length, q85.2, nats .i64 (trim (lowL (mkm 6 a0) l1))⟩, ⟨q89.1, (addP (lowL (mkm 6 a0) l1) (lowL (mkm 6 a0) l2)).length, q89.2, nats .i64 (addP (lowL (mkm 6 a0) l1) (lowL (mkm 6 a0) l2))⟩, ⟨q92.1, (addP (lowL (mkm 6 a0) l1) (lowL (mkm 6 a0) [])).length, q92.2, nats .i64 (addP (lowL (mkm 6 a0) l1) (lowL (mkm 6 a0) []))⟩, ⟨q95.1, (scaleP (mkm 6 a0) (lowL (mkm 6 a0) l1) (lo (mkm 6 a0) 1)).length, q95.2, nats .i64 (scaleP (mkm 6 a0) (lowL (mkm 6 a0) l1) (lo (mkm 6 a0) 1))⟩, ⟨q98.1, (derP (lowL (mkm 6 a0) l1)).length, q98.2, nats .i64 (derP (lowL (mkm 6 a0) l1))⟩, ⟨q102.1, (monicP (mkm 6 a0) (gcdE (mkm 6 a0) (trim (lowL (mkm 6 a0) l1)) (trim (lowL (mkm 6 a0) l2)))).length, q102.2, nats .i64 (monicP (mkm 6 a0) (gcdE (mkm 6 a0) (trim (lowL (mkm 6 a0) l1)) (trim (lowL (mkm 6 a0) l2))))⟩, ⟨q105.1, (monicP (mkm 6 a0) (gcdE (mkm 6 a0) (trim (lowL (mkm 6 a0) l1)) (trim (lowL (mkm 6 a0) [])))).length, q105.2, nats .i64 (monicP (mkm 6 a0) (gcdE (mkm 6 a0) (trim (lowL (mkm 6 a0) l1)) (trim (lowL (mkm 6 a0) []))))⟩, ⟨q108.1, (rootsP (mkm 6 a0) (trim (lowL (mkm 6 a0) l1))).length, q108.2, nats .i64 (rootsP (mkm 6 a0) (trim (lowL (mkm 6 a0) l1)))⟩] : List Rw).map Rw.hdr) ∧ (q.2[j]?).map Rw.hdr = some z.hdr) (fun q => z.n - q.1) (0, qs) ⟨rfl, rfl, rfl, rfl, rfl, rfl, rfl, rfl, rfl, rfl, rfl, trivial⟩ (fun _ h => h) ⟨⟨Nat.zero_le _, hH⟩, by rw [hzq]; rfl⟩ ?_
          rintro ⟨i, ps⟩ ⟨⟨hi, hP⟩, hz2⟩
          simp only at hi hP hz2
          dsimp only
          refine CW.seq ?_
          refine CW.seq ?_
          refine CW.reg [0, 1, 2, 3] rfl ?_   -- 17, more.go:41
          refine s_mv 115 rfl rfl ?_
          refine s_mv 116 rfl rfl ?_
          refine s_len 117 rfl rfl ?_
          refine s_lt 118 rfl rfl rfl rfl ?_
          refine SX.next ?_
          refine CW.test rfl (fun hc => ?_) (fun hc => ?_)
          · skip
            obtain ⟨y, hy⟩ : ∃ y, ps[j]? = some y := by
              cases hy : ps[j]? with
              | none => rw [hy] at hz2; cases hz2
              | some y => exact ⟨y, rfl⟩
            have hyz : y.A = z.A ∧ y.n = z.n ∧ y.c = z.c := by
              rw [hy] at hz2
              have := Option.some.inj hz2
              simp only [Rw.hdr, Value.slice.injEq] at this
              exact this
            obtain ⟨hy1, hy2, hy3⟩ := hyz
            have hat := rows_at (E := 3) (B := blk gt 22 (([⟨q62.1, (mulP (mkm 6 a0) (trim (lowL (mkm 6 a0) l1)) (trim (lowL (mkm 6 a0) l2))).length, q62.2, nats .i64 (mulP (mkm 6 a0) (trim (lowL (mkm 6 a0) l1)) (trim (lowL (mkm 6 a0) l2)))⟩, ⟨q69.1.1, (quotP (mkm 6 a0) (trim (lowL (mkm 6 a0) l1)) (trim (lowL (mkm 6 a0) l2))).length, q69.1.2, nats .i64 (quotP (mkm 6 a0) (trim (lowL (mkm 6 a0) l1)) (trim (lowL (mkm 6 a0) l2)))⟩, ⟨q69.2.1, (restP (mkm 6 a0) (trim (lowL (mkm 6 a0) l1)) (trim (lowL (mkm 6 a0) l2))).length, q69.2.2, nats .i64 (restP (mkm 6 a0) (trim (lowL (mkm 6 a0) l1)) (trim (lowL (mkm 6 a0) l2)))⟩, ⟨q76.1, (trim (frP (mkm 6 a0) l1 l1.length)).length, q76.2, nats .i64 (trim (frP (mkm 6 a0) l1 l1.length))⟩, ⟨q85.1, (trim (lowL (mkm 6 a0) l1)).length, q85.2, nats .i64 (trim (lowL (mkm 6 a0) l1))⟩, ⟨q89.1, (addP (lowL (mkm 6 a0) l1) (lowL (mkm 6 a0) l2)).length, q89.2, nats .i64 (addP (lowL (mkm 6 a0) l1) (lowL (mkm 6 a0) l2))⟩, ⟨q92.1, (addP (lowL (mkm 6 a0) l1) (lowL (mkm 6 a0) [])).length, q92.2, nats .i64 (addP (lowL (mkm 6 a0) l1) (lowL (mkm 6 a0) []))⟩, ⟨q95.1, (scaleP (mkm 6 a0) (lowL (mkm 6 a0) l1) (lo (mkm 6 a0) 1)).length, q95.2, nats .i64 (scaleP (mkm 6 a0) (lowL (mkm 6 a0) l1) (lo (mkm 6 a0) 1))⟩, ⟨q98.1, (derP (lowL (mkm 6 a0) l1)).length, q98.2, nats .i64 (derP (lowL (mkm 6 a0) l1))⟩, ⟨q102.1, (monicP (mkm 6 a0) (gcdE (mkm 6 a0) (trim (lowL (mkm 6 a0) l1)) (trim (lowL (mkm 6 a0) l2)))).length, q102.2, nats .i64 (monicP (mkm 6 a0) (gcdE (mkm 6 a0) (trim (lowL (mkm 6 a0) l1)) (trim (lowL (mkm 6 a0) l2))))⟩, ⟨q105.1, (monicP (mkm 6 a0) (gcdE (mkm 6 a0) (trim (lowL (mkm 6 a0) l1)) (trim (lowL (mkm 6 a0) [])))).length, q105.2, nats .i64 (monicP (mkm 6 a0) (gcdE (mkm 6 a0) (trim (lowL (mkm 6 a0) l1)) (trim (lowL (mkm 6 a0) []))))⟩, ⟨q108.1, (rootsP (mkm 6 a0) (trim (lowL (mkm 6 a0) l1))).length, q108.2, nats .i64 (rootsP (mkm 6 a0) (trim (lowL (mkm 6 a0) l1)))⟩] : List Rw).map Rw.hdr).toArray) (rest := [own 3 1 qb.1 l2.length qb.2 (ints .i64 l2), own 3 1 qa.1 l1.length qa.2 (ints .i64 l1), blk q0.1 90 #[.pointer (some ⟨q0.2, 0, none⟩)], fieldA q0.2 (mkm 6 a0)]) hy
            rw [hy1, hy2, hy3] at hat
            have hst := fun xs => rows_set (E := 3) (B := blk gt 22 (([⟨q62.1, (mulP (mkm 6 a0) (trim (lowL (mkm 6 a0) l1)) (trim (lowL (mkm 6 a0) l2))).length, q62.2, nats .i64 (mulP (mkm 6 a0) (trim (lowL (mkm 6 a0) l1)) (trim (lowL (mkm 6 a0) l2)))⟩, ⟨q69.1.1, (quotP (mkm 6 a0) (trim (lowL (mkm 6 a0) l1)) (trim (lowL (mkm 6 a0) l2))).length, q69.1.2, nats .i64 (quotP (mkm 6 a0) (trim (lowL (mkm 6 a0) l1)) (trim (lowL (mkm 6 a0) l2)))⟩, ⟨q69.2.1, (restP (mkm 6 a0) (trim (lowL (mkm 6 a0) l1)) (trim (lowL (mkm 6 a0) l2))).length, q69.2.2, nats .i64 (restP (mkm 6 a0) (trim (lowL (mkm 6 a0) l1)) (trim (lowL (mkm 6 a0) l2)))⟩, ⟨q76.1, (trim (frP (mkm 6 a0) l1 l1.length)).length, q76.2, nats .i64 (trim (frP (mkm 6 a0) l1 l1.length))⟩, ⟨q85.1, (trim (lowL (mkm 6 a0) l1)).length, q85.2, nats .i64 (trim (lowL (mkm 6 a0) l1))⟩, ⟨q89.1, (addP (lowL (mkm 6 a0) l1) (lowL (mkm 6 a0) l2)).length, q89.2, nats .i64 (addP (lowL (mkm 6 a0) l1) (lowL (mkm 6 a0) l2))⟩, ⟨q92.1, (addP (lowL (mkm 6 a0) l1) (lowL (mkm 6 a0) [])).length, q92.2, nats .i64 (addP (lowL (mkm 6 a0) l1) (lowL (mkm 6 a0) []))⟩, ⟨q95.1, (scaleP (mkm 6 a0) (lowL (mkm 6 a0) l1) (lo (mkm 6 a0) 1)).length, q95.2, nats .i64 (scaleP (mkm 6 a0) (lowL (mkm 6 a0) l1) (lo (mkm 6 a0) 1))⟩, ⟨q98.1, (derP (lowL (mkm 6 a0) l1)).length, q98.2, nats .i64 (derP (lowL (mkm 6 a0) l1))⟩, ⟨q102.1, (monicP (mkm 6 a0) (gcdE (mkm 6 a0) (trim (lowL (mkm 6 a0) l1)) (trim (lowL (mkm 6 a0) l2)))).length, q102.2, nats .i64 (monicP (mkm 6 a0) (gcdE (mkm 6 a0) (trim (lowL (mkm 6 a0) l1)) (trim (lowL (mkm 6 a0) l2))))⟩, ⟨q105.1, (monicP (mkm 6 a0) (gcdE (mkm 6 a0) (trim (lowL (mkm 6 a0) l1)) (trim (lowL (mkm 6 a0) [])))).length, q105.2, nats .i64 (monicP (mkm 6 a0) (gcdE (mkm 6 a0) (trim (lowL (mkm 6 a0) l1)) (trim (lowL (mkm 6 a0) []))))⟩, ⟨q108.1, (rootsP (mkm 6 a0) (trim (lowL (mkm 6 a0) l1))).length, q108.2, nats .i64 (rootsP (mkm 6 a0) (trim (lowL (mkm 6 a0) l1)))⟩] : List Rw).map Rw.hdr).toArray) (rest := [own 3 1 qb.1 l2.length qb.2 (ints .i64 l2), own 3 1 qa.1 l1.length qa.2 (ints .i64 l1), blk q0.1 90 #[.pointer (some ⟨q0.2, 0, none⟩)], fieldA q0.2 (mkm 6 a0)]) xs hy
            rw [hy1, hy2, hy3] at hst
            have hhd := fun xs => rows_hdr xs hy
            rw [hy1, hy2, hy3] at hhd
            refine CW.know (fun w hw => hw.ownMax hat) (fun hmx => ?_)
            unfold maxLen at hmx
            refine CW.skip ?_
            refine KN.code ?_
            refine CW.seq ?_
            refine CW.block ?_
            refine CW.reg [0, 1, 2, 3] rfl ?_   -- 19, more.go:42
            refine s_mv 121 rfl rfl ?_
            refine s_mv 122 rfl rfl ?_
            refine s_iaO 123 (j + 1) i hat rfl rfl rfl rfl (by omega) ?_
            refine s_stO (j + 1) hat rfl rfl rfl rfl (by omega) (fun _ _ => trivial) ?_
            refine SX.end_ ?_
            refine KN.blk ?_
            refine KN.code ?_
            refine CW.reg [0, 1, 2] rfl ?_   -- 18, more.go:41
            refine s_mv 119 rfl rfl ?_
            refine s_add 120 rfl rfl rfl (r := ((i + 1 : Nat) : Int)) (w64 (by omega)) ?_
            refine s_as 22 rfl rfl ?_
            refine SX.end_ ?_
            exact KN.back (i + 1, ps.set j ⟨z.A, z.n, z.c, y.xs.set i (.int .i64 (-9))⟩) ⟨rfl, rfl, rfl, rfl, rfl, rfl, rfl, rfl, rfl, rfl, rfl, trivial⟩ (fun _ h => by rw [hst] at h; exact h) ⟨⟨by simp only; omega, by simp only; rw [hhd]; exact hP⟩, by simp only; rw [List.getElem?_set_self (List.getElem?_eq_some_iff.1 hy).1]; rfl⟩ (by simp only; omega)
          · skip
            refine CW.exit rfl ?_
            refine KN.blk ?_
            refine KN.code ?_
            refine CW.reg [0, 1] rfl ?_   -- 20, more.go:40
            refine s_add 124 rfl rfl rfl (r := ((j + 1 : Nat) : Int)) (w64 (by omega)) ?_
            refine s_mv 111 rfl rfl ?_
            refine SX.end_ ?_
            exact KN.back (j + 1, ps) ⟨rfl, rfl, rfl, rfl, rfl, rfl, rfl, rfl, rfl, trivial⟩ (fun _ h => h) ⟨by simp only; omega, hP⟩ (by simp only; omega)
        · skip
          refine CW.exit rfl ?_
          refine KN.blk ?_
          refine KN.code ?_
          refine CW.reg [0, 1, 2] rfl ?_   -- 9, more.go:36
          refine s_mv 56 rfl rfl ?_
          refine s_add 57 rfl rfl rfl (r := ((r + 1 : Nat) : Int)) (w64 (by omega)) ?_
          refine s_as 12 rfl rfl ?_
          refine SX.end_ ?_
          exact KN.back (r + 1) ⟨rfl, rfl, rfl, rfl, rfl, rfl, trivial⟩ (fun _ h => St.dropL _ h.tail) (by omega) (by omega)
      · skip
        refine CW.exit rfl ?_
        refine KN.code ?_
        refine CW.seq ?_
        refine CW.reg [0, 1, 2, 3, 4, 5, 6, 7, 8] rfl ?_   -- 21, more.go:46
        refine s_mv 125 rfl rfl ?_
        refine s_mv 126 rfl rfl ?_
        refine s_call1 127 rfl rfl rfl rfl (v := .bool true) (fun w hw => by have := sameInts_spec qa.1 A1 l1.length qa.2 l1.length c1 l1 l1 _ ((hw.has (i := 1) rfl).of_own) (hw.old hs1) (Nat.lt_of_le_of_lt (show l1.length ≤ 4294967296 from (by omega)) (by decide)); rw [decide_eq_true (rfl)] at this; exact this) (fun _ _ => trivial) ?_
        refine s_mv 128 rfl rfl ?_
        refine s_mv 129 rfl rfl ?_
        refine s_mv 130 rfl rfl ?_
        refine s_call1 131 rfl rfl rfl rfl (v := .bool true) (fun w hw => by have := sameInts_spec qb.1 A2 l2.length qb.2 l2.length c2 l2 l2 _ ((hw.has (i := 0) rfl).of_own) (hw.old hs2) (Nat.lt_of_le_of_lt (show l2.length ≤ 4294967296 from (by omega)) (by decide)); rw [decide_eq_true (rfl)] at this; exact this) (fun _ _ => trivial) ?_
        refine s_pickT 132 rfl rfl rfl ?_
        refine s_as 6 rfl rfl ?_
        refine SX.next ?_
        refine CW.ret ?_
        exact KN.ret (rs := [.tmp 6]) Tryd.results16 rfl (fun w hw => ⟨rfl, hw.nothing⟩)

theorem walk_PolyOwn (a0 : Int) (A1 : Option Addr) (n1 c1 : Nat) (l1 : List Int) (A2 : Option Addr) (n2 c2 : Nat) (l2 : List Int) (e : Nat → Addr) (w : World) (hs1 : Has (sl 1 A1 n1 (ints .i64 l1)) w) (hn1 : n1 ≤ 9223372036854775807) (hs2 : Has (sl 1 A2 n2 (ints .i64 l2)) w) (hn2 : n2 ≤ 9223372036854775807) (hz : Er e w 1) (hl : Er e w 0) : Spec1 Tryd.prog 16 [.int .i64 a0, .slice A1 n1 c1, .slice A2 n2 c2] w (.bool true) := by
  by_cases h : (trim (lowL (mkm 6 a0) l2)).length = 0
  · exact PolyOwn_z a0 A1 n1 c1 l1 A2 n2 c2 l2 e w hs1 hn1 hs2 hn2 hz hl h
  · exact PolyOwn_s a0 A1 n1 c1 l1 A2 n2 c2 l2 e w hs1 hn1 hs2 hn2 hz hl h
